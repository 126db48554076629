import Derived.Test.YtghpfnhmlpfgcaaGreatWb01
import Derived.Test.YtghpfnhmlpfgcaaGreatWb02
import Derived.Test.YtghpfnhmlpfgcaaGreatWb03
import Derived.Test.YtghpfnhmlpfgcaaGreatWb04
import Derived.Test.YtghpfnhmlpfgcaaGreatWb05
import Derived.Test.YtghpfnhmlpfgcaaGreatWb06
import Derived.Test.YtghpfnhmlpfgcaaGreatWb07
import Derived.Test.YtghpfnhmlpfgcaaGreatWb08
import Derived.Test.YtghpfnhmlpfgcaaGreatWb09
import Derived.Test.YtghpfnhmlpfgcaaGreatWb10
import Derived.Test.YtghpfnhmlpfgcaaGreatWb11
import Derived.Test.YtghpfnhmlpfgcaaGreatWb12
import Derived.Test.YtghpfnhmlpfgcaaGreatWb13
import Derived.Test.YtghpfnhmlpfgcaaGreatWb14
import Derived.Test.YtghpfnhmlpfgcaaGreatWb15
import Derived.Test.YtghpfnhmlpfgcaaGreatWb16
import Derived.Test.YtghpfnhmlpfgcaaGreatWb17
import Derived.Test.YtghpfnhmlpfgcaaGreatWb18
import Derived.Test.YtghpfnhmlpfgcaaGreatWb19
import Derived.Test.YtghpfnhmlpfgcaaGreatWb20
import Derived.Test.YtghpfnhmlpfgcaaGreatWb21
import Derived.Test.YtghpfnhmlpfgcaaGreatWb22
import Derived.Test.YtghpfnhmlpfgcaaGreatWb23
import Derived.Test.YtghpfnhmlpfgcaaGreatWb24
import Derived.Test.YtghpfnhmlpfgcaaGreatWb25
import Derived.Test.YtghpfnhmlpfgcaaGreatWb26
import Derived.Test.YtghpfnhmlpfgcaaGreatWb27
import Derived.Test.YtghpfnhmlpfgcaaGreatWb28
import Derived.Test.YtghpfnhmlpfgcaaGreatWb29
import Derived.Test.YtghpfnhmlpfgcaaGreatWb30
import Derived.Test.YtghpfnhmlpfgcaaGreatWb31
import Derived.Test.YtghpfnhmlpfgcaaGreatWb32
import Derived.Test.YtghpfnhmlpfgcaaGreatWb33
import Derived.Test.YtghpfnhmlpfgcaaGreatWb34
import Derived.Test.YtghpfnhmlpfgcaaGreatWb35
import Derived.Test.YtghpfnhmlpfgcaaGreatWb36
import Derived.Test.YtghpfnhmlpfgcaaGreatWb37
import Derived.Test.YtghpfnhmlpfgcaaGreatWb38
import Derived.Test.YtghpfnhmlpfgcaaGreatWb39
import Derived.Test.YtghpfnhmlpfgcaaGreatWb40
import Derived.Test.YtghpfnhmlpfgcaaGreatWb41
import Derived.Test.YtghpfnhmlpfgcaaGreatWb42
import Derived.Test.YtghpfnhmlpfgcaaGreatWd01
set_option linter.all false
namespace Go.Proofs.YtghpfnhmlpfgcaaGreat
open Go.RowKit
set_option maxRecDepth 100000 in
set_option maxHeartbeats 8000000 in
theorem al_good {N lo hi : Nat} {w : World} {A1 A2 A3 : Option Addr} {c1 c2 c3 m n : Nat} {X : Nat → Nat → Rat} {y p : Nat → Rat} {Z : Lin} {i : Nat}
  (hI : LinV N lo hi w (.agg #[.slice A1 m c1, .slice A2 m c2, .slice A3 m c3]) Z) (hs : fewB Z = true) (hc : codeOf Z = 0)
  (h1 : MtV N lo hi w (.slice A1 m c1) m n X) (h2 : LsV N lo hi w (.slice A2 m c2) m y) (h3 : LsV N lo hi w (.slice A3 m c3) m p) (hm0 : 0 < m) (hm : m ≤ 6) (hn0 : 0 < n) (hn : n ≤ 4) (hpos : ∀ i, i < m → 0 < p i)
  (hkx : HtM m n 17 X) (hky : HtL m 17 y) (hkp : HtL m 17 p) (hi' : i < m) (hz : redOf m n X p i ≠ 0) :
  Calls Tryz.prog 7 #[.agg #[.slice A1 m c1, .slice A2 m c2, .slice A3 m c3], .int .i64 (i : Int)] w (RetV w (.bool true)) := by
 have HZ := Lib.hid hz
 have hfh := few_fit_ht hm hn hkx hkp
 obtain ⟨k2, k3, hB, hk3⟩ := few_bnd hm hn
 have hvv := vvOf_ht hm hB hk3 hkx hky hkp
 have hK1 : m * (4 * (17 + k3 + 1) + 1 + 17 + 17 + 1) ≤ 6 * (4 * (17 + 1000000 + 1) + 1 + 17 + 17 + 1) := Nat.mul_le_mul hm (by omega)
 have HK1 : Hid (m * (4 * (17 + k3 + 1) + 1 + 17 + 17 + 1) + 17 + 2 ≤ 30000000) := by rw [Hid]; omega
 have HB := Lib.hid hB
 obtain ⟨RD, hRD⟩ := hid_eq (redOf m n X p)
 obtain ⟨VV, hVV⟩ := hid_eq (vvOf m n X y p)
 obtain ⟨q, hq⟩ := hid_eq (VV i / RD i)
 have HRH : Hid (Ht 6000000 (RD i)) := by
  rw [Hid, hRD.out]
  exact Ht.mono (Ht.sub (k := 1) Ht.one ((hfh i hi' i hi').mul (hkp i hi'))) (by omega)
 have HVH : Hid (Ht 30000000 (VV i)) := by rw [Hid, hVV.out]; exact hvv i hi'
 have HRZ : Hid (Sz (RD i)) := HRH.out.sz (by omega)
 have HQZ : Hid (Sz q) := by rw [Hid, hq.out]; exact (HVH.out.div HRH.out).sz (by omega)
 have HMZ : Hid (Sz (q * RD i)) := by rw [Hid, hq.out]; exact ((HVH.out.div HRH.out).mul HRH.out).sz (by omega)
 have HMV : Hid (q * RD i = VV i) := by rw [Hid, hq.out]; exact div_mul_back (by rw [hRD.out]; exact hz)
 have HOB : Hid (outB m (i : Int) = false) := by
  rw [Hid]; unfold outB; rw [decide_eq_false (by omega), decide_eq_false (by omega)]; rfl
 have HYZ : Hid (Sz (y i) ∧ Sz (- y i)) := ⟨(hky i hi').sz (by omega), (hky i hi').neg.sz (by omega)⟩
 clear hz hfh hB hvv hK1
 obtain ⟨f1, f2, f3⟩ := few_sz hs
 have HS := Lib.hid hs
 have HC := Lib.hid hc
 have HF2 := Lib.hid f2
 have HF3 := Lib.hid f3
 have HF1 := Lib.hid f1
 have HX := Lib.hid hkx
 have HY := Lib.hid hky
 have HP := Lib.hid hkp
 have HPOS := Lib.hid hpos
 have hN := h1.le
 clear hs hc f1 f2 f3 hkx hky hkp hpos
 go_enter Tryz.func7, Tryz.ntmps7
 go_wp2_with (go_at_call 9; refine Hid.out ?_)
 refine boxesC1 ?_
 intro W hE hsz B0
 refine (l37_known W).mono ?_
 rintro e w1 ⟨rfl, e1⟩
 replace hE := hE.trans e1
 replace B0 := e1.block B0
 have hs1 := e1.size
 replace hsz : w.heap.size < w1.heap.size := by omega
 clear e1 hs1
 obtain ⟨a0, a1, a2, -⟩ := cells3 B0
 go_wp2_with (go_at_call 10; refine Hid.out ?_)
 refine (l37_few (hI.ext hE)).mono ?_
 rintro e w2 ⟨rfl, e2⟩
 rw [HS.out]
 replace hE := hE.trans e2
 replace B0 := e2.block B0
 have hs2 := e2.size
 replace hsz : w.heap.size < w2.heap.size := by omega
 clear a0 a1 a2 e2 hs2
 obtain ⟨a0, a1, a2, -⟩ := cells3 B0
 go_wp2_with (go_at_call 47; refine Hid.out ?_)
 refine (rl_Alone (h1.ext hE) (h2.ext hE) (h3.ext hE) hm0 hm hn0 hn HPOS.out HX.out HY.out HP.out).mono ?_
 rintro e w4 ⟨e4, hh⟩
 replace hE := hE.trans e4
 replace B0 := e4.block B0
 replace hsz := blk_lt B0
 clear a0 a1 a2
 obtain ⟨a0, a1, a2, -⟩ := cells3 B0
 rcases hh with ⟨h0, -⟩ | ⟨-, h0, -⟩ | ⟨-, -, v6, rfl, h6⟩
 ·rw [HOB.out] at h0; cases h0
 ·rw [Int.toNat_natCast] at h0; exact absurd h0 HZ.out
 ·rw [Int.toNat_natCast, ← hRD.out, ← hVV.out, ← hq.out] at h6
  obtain ⟨b6, A6, k6, c6, A7, k7, c7, rfl, hb6, g6, g7⟩ := h6.parts
  go_upto_region 6 with (fail)
  refine boxes1 ?_
  intro w6 e6 hsz6 B6
  replace hE := hE.trans e6
  replace B0 := e6.block B0
  replace hsz := blk_lt B0
  clear a0 a1 a2
  obtain ⟨a0, a1, a2, -⟩ := cells3 B0
  go_wp2_with (go_at_call 14; refine Hid.out ?_)
  refine (l37_code (hI.ext hE) HF2.out HF3.out HF1.out).mono ?_
  rintro e w7 ⟨rfl, e7⟩
  rw [HC.out]
  have e67 := e6.trans e7
  replace B6 := e7.block B6
  replace hE := hE.trans e7
  replace B0 := e7.block B0
  replace hsz := blk_lt B0
  clear a0 a1 a2
  obtain ⟨a0, a1, a2, -⟩ := cells3 B0
  clear e7 e6 hsz6
  have hBA : BoxR N w7 w4.heap.size q := BoxR.mk B6 hb6 (g6.ext e67) (g7.ext e67)
  clear B6 h6 g6 g7 hb6 e67
  go_wp2_with (go_at_call 27; refine Hid.out ?_)
  refine (l37_redundancy (h1.ext hE) (h2.ext hE) (h3.ext hE) hm0 hm hn0 hn HPOS.out HX.out HP.out).mono ?_
  rintro e w8 ⟨A8, c8, rfl, h8, e8⟩
  rw [← hRD.out] at h8
  replace hBA := hBA.ext e8
  replace hE := hE.trans e8
  replace B0 := e8.block B0
  replace hsz := blk_lt B0
  clear a0 a1 a2
  obtain ⟨a0, a1, a2, -⟩ := cells3 B0
  obtain ⟨b, off, rfl, -, -, hx⟩ := LsV.addr h8 hm0
  obtain ⟨n1, A9, k9, c9, A10, k10, c10, p0, p1, p2, p3, hb1, g1, g2⟩ := (hx i hi').open
  clear hx h8
  obtain ⟨sg, hsg⟩ := hid_eq (RD i).num.sign
  have hsg0 : (sg == 0) = false := by
   rw [hsg.out, sign_zero]
   exact decide_eq_false (by rw [hRD.out]; exact HZ.out)
  go_wp2_with (go_at_call 28; refine Hid.out ?_)
  refine (r2_sign (RatV.mk hb1 g1 g2) HRZ.out).mono ?_
  rintro e w9 ⟨rfl, e9⟩
  rw [← hsg.out]
  replace hBA := hBA.ext e9
  clear p0 p1 p2 p3 g1 g2 hb1
  replace hE := hE.trans e9
  replace B0 := e9.block B0
  replace hsz := blk_lt B0
  clear a0 a1 a2
  obtain ⟨a0, a1, a2, -⟩ := cells3 B0
  have h2' := h2.ext hE
  obtain ⟨b2, off2, rfl, -, -, hx⟩ := LsV.addr h2' hm0
  obtain ⟨n2, A11, k11, c11, A12, k12, c12, p0, p1, p2, p3, hb2, g1, g2⟩ := (hx i hi').open
  clear hx h2'
  go_wp2_with (go_at_call 45; refine Hid.out ?_)
  refine (r2_neg (RatV.mk hb2 g1 g2) HYZ.out.1).mono ?_
  intro e w10 hh
  obtain ⟨b13, A13, k13, c13, A14, k14, c14, rfl, hb13, g13, g14, e10⟩ := hh.form
  replace hBA := hBA.ext e10
  clear p0 p1 p2 p3 g1 g2 hb2 hh
  replace hE := hE.trans e10
  replace B0 := e10.block B0
  replace hsz := blk_lt B0
  clear a0 a1 a2
  obtain ⟨a0, a1, a2, -⟩ := cells3 B0
  have hw10 : w.heap.size < w10.heap.size := hsz
  have hA10 : w4.heap.size < w10.heap.size := by
   obtain ⟨_, _, _, _, _, _, _, hBB, -⟩ := hBA
   exact blk_lt hBB
  go_upto_region 14 with (fail)
  refine boxes1 ?_
  intro w11 e11 hsz11 B11
  have hBW0 : BoxR N w11 w10.heap.size (- y i) := BoxR.mk B11 hb13 (g13.ext e11) (g14.ext e11)
  replace hBA := hBA.ext e11
  clear B11 hb13 g13 g14
  replace hE := hE.trans e11
  replace B0 := e11.block B0
  replace hsz := blk_lt B0
  clear a0 a1 a2
  obtain ⟨a0, a1, a2, -⟩ := cells3 B0
  obtain ⟨gW, hgW⟩ : ∃ gW, gW = w10.heap.size := ⟨_, rfl⟩
  obtain ⟨gA, hgA⟩ : ∃ gA, gA = w4.heap.size := ⟨_, rfl⟩
  have hAW : gA < gW := by rw [hgA, hgW]; exact hA10
  have hwW : w.heap.size < gW := by rw [hgW]; exact hw10
  rw [← hgW] at hBW0 ⊢
  rw [← hgA] at hBA ⊢
  clear hgW hgA hA10 hw10
  by_cases hm1 : m = 1
  ·have HWV : Hid (- y i = q) := by
    rw [Hid, hq.out, hRD.out, hVV.out]
    obtain rfl : i = 0 := by omega
    subst hm1
    exact (alone_one HPOS.out HZ.out).symm
   have hm3 : m ≤ 1 := by omega
   clear hm1
   rw [HWV.out] at hBW0
   have hBW := hBW0
   clear hBW0
   go_wp2_with (go_at_call 12; refine Hid.out ?_)
   refine (rl_Residuals (h1.ext hE) (h2.ext hE) (h3.ext hE) hm0 (by omega) hn0 (by omega) HPOS.out HB.out HX.out HY.out HP.out (by have := HK1.out; omega)).mono ?_
   rintro e w20 ⟨A20, c20, rfl, h20, e20⟩
   replace h20 : LsV N 0 w20.heap.size w20 (.slice A20 m c20) m VV := by
    rw [hVV.out]
    exact LsR.wide h20 (Nat.zero_le _) (Nat.le_refl _) (Nat.le_refl _)
   replace hBA := hBA.ext e20
   replace hBW := hBW.ext e20
   replace hE := hE.trans e20
   replace B0 := e20.block B0
   replace hsz := blk_lt B0
   clear a0 a1 a2
   obtain ⟨a0, a1, a2, -⟩ := cells3 B0
   go_wp2_with (go_at_call 26; refine Hid.out ?_)
   refine (rl_Redundancy (h1.ext hE) (h2.ext hE) (h3.ext hE) hm0 (by omega) hn0 (by omega) HPOS.out HB.out HX.out HY.out HP.out (by omega)).mono ?_
   rintro e w21 ⟨A21, c21, rfl, h21, e21⟩
   replace h21 : LsV N 0 w21.heap.size w21 (.slice A21 m c21) m RD := by
    rw [hRD.out]
    exact LsR.wide h21 (Nat.zero_le _) (Nat.le_refl _) (Nat.le_refl _)
   replace hBA := hBA.ext e21
   replace hBW := hBW.ext e21
   replace h20 := h20.ext e21
   replace hE := hE.trans e21
   replace B0 := e21.block B0
   replace hsz := blk_lt B0
   clear a0 a1 a2
   obtain ⟨a0, a1, a2, -⟩ := cells3 B0
   clear e20 e21
   obtain ⟨b20, off20, rfl, -, -, hx20⟩ := LsV.addr h20 hm0
   obtain ⟨n20, B20, k20, d20, B21, k21, d21, p0, p1, p2, p3, hb20, g20, g21⟩ := (hx20 i hi').open
   obtain ⟨b21, off21, rfl, -, -, hx21⟩ := LsV.addr h21 hm0
   obtain ⟨n21, B22, k22, d22, B23, k23, d23, q0, q1, q2, q3, hb21, g22, g23⟩ := (hx21 i hi').open
   clear hx20 hx21 h20 h21
   go_upto_region 21 with (fail)
   obtain ⟨s1, S1, S2, S3, S4, S5, S6, r0, r1, r2, r3, -, -, -, -, hRA, -⟩ := hBA.open
   obtain ⟨t1, T1, T2, T3, T4, T5, T6, u0, u1, u2, u3, -, -, -, -, hRW, -⟩ := hBW.open
   refine region_inv [Mn.rat N q, Mn.rat N q, Mn.eq (.bool true), Mn.eq (.bool true), Mn.rat N q, Mn.eq (.slice (some ⟨b21, off21, none⟩) m c21), Mn.eq (.int .i64 (i : Int)), Mn.eq (.pointer (some ⟨b21, off21 + i * 4, none⟩)), Mn.rat N (RD i), Mn.rat N (q * RD i), Mn.eq (.slice (some ⟨b20, off20, none⟩) m c20), Mn.eq (.int .i64 (i : Int)), Mn.eq (.pointer (some ⟨b20, off20 + i * 4, none⟩)), Mn.rat N (VV i), Mn.eq (.bool true), Mn.eq (.bool true), Mn.eq (.bool true)] [some 123, some 124, some 125, some 126, some 127, some 128, some 129, some 130, some 131, some 132, some 133, some 134, some 135, some 136, some 137, some 138, some 4] [] [true, true, true, true, true, true, true, true, true, true, true, true, true, true, true, true, true] 0 (by kernel_rfl) (by kernel_rfl) (by kernel_rfl) (by kernel_rfl) (by kernel_rfl) (by kernel_rfl) (by kernel_rfl) (by kernel_rfl) ?_ ?_
   ·intro i hi hl
    have hi' : i = 0 ∨ i = 1 ∨ i = 2 ∨ i = 3 ∨ i = 4 ∨ i = 5 ∨ i = 6 ∨ i = 7 ∨ i = 8 ∨ i = 9 ∨ i = 10 ∨ i = 11 ∨ i = 12 ∨ i = 13 ∨ i = 14 ∨ i = 15 ∨ i = 16 := by have h9 : i < 17 := hi; omega
    clear hi
    rcases hi' with rfl | rfl | rfl | rfl | rfl | rfl | rfl | rfl | rfl | rfl | rfl | rfl | rfl | rfl | rfl | rfl | rfl
    ·clear hl
     refine stp rfl ?_
     intro ac wi eI hold hpre K hK
     have o5 := hold 5 (by kernel_rfl)
     simp only [List.getElem?_toArray, List.getElem?_cons_succ, List.getElem?_cons_zero] at o5
     clear hold hpre
     have cc0 := eI.cell r0
     have cc1 := eI.cell r1
     have cc2 := eI.cell r2
     have cc3 := eI.cell r3
     have cc4 := eI.cell u0
     have cc5 := eI.cell u1
     have cc6 := eI.cell u2
     have cc7 := eI.cell u3
     have cc8 := eI.cell p0
     have cc9 := eI.cell p1
     have cc10 := eI.cell p2
     have cc11 := eI.cell p3
     have cc12 := eI.cell q0
     have cc13 := eI.cell q1
     have cc14 := eI.cell q2
     have cc15 := eI.cell q3
     go_simp
     exact hK.out _ _ (Ext.refl _) (hRA.ext eI)
    ·clear hl
     refine stp rfl ?_
     intro ac wi eI hold hpre K hK
     have o8 := hold 8 (by kernel_rfl)
     simp only [List.getElem?_toArray, List.getElem?_cons_succ, List.getElem?_cons_zero] at o8
     clear hold hpre
     have cc0 := eI.cell r0
     have cc1 := eI.cell r1
     have cc2 := eI.cell r2
     have cc3 := eI.cell r3
     have cc4 := eI.cell u0
     have cc5 := eI.cell u1
     have cc6 := eI.cell u2
     have cc7 := eI.cell u3
     have cc8 := eI.cell p0
     have cc9 := eI.cell p1
     have cc10 := eI.cell p2
     have cc11 := eI.cell p3
     have cc12 := eI.cell q0
     have cc13 := eI.cell q1
     have cc14 := eI.cell q2
     have cc15 := eI.cell q3
     go_simp
     exact hK.out _ _ (Ext.refl _) (hRW.ext eI)
    ·clear hl
     refine stp rfl ?_
     intro ac wi eI hold hpre K hK
     obtain ⟨x123, s123, j123⟩ := hpre 0 (by kernel_rfl) 123 rfl
     replace j123 : Mn.p (Mn.rat N q) x123 wi := j123
     obtain ⟨x124, s124, j124⟩ := hpre 1 (by kernel_rfl) 124 rfl
     replace j124 : Mn.p (Mn.rat N q) x124 wi := j124
     clear hold hpre
     go_simp
     refine (r2_same j123 j124 HQZ.out rfl).mono ?_
     rintro e wj ⟨rfl, ej⟩
     go_wp2_with fail
     exact hK.out _ _ ej rfl
    ·clear hl
     refine stp rfl ?_
     intro ac wi eI hold hpre K hK
     obtain ⟨x125, s125, j125⟩ := hpre 2 (by kernel_rfl) 125 rfl
     obtain rfl : x125 = (.bool true) := j125
     clear hold hpre
     go_simp
     exact hK.out _ _ (Ext.refl _) rfl
    ·clear hl
     refine stp rfl ?_
     intro ac wi eI hold hpre K hK
     obtain ⟨x126, s126, j126⟩ := hpre 3 (by kernel_rfl) 126 rfl
     obtain rfl : x126 = (.bool true) := j126
     have o5 := hold 5 (by kernel_rfl)
     simp only [List.getElem?_toArray, List.getElem?_cons_succ, List.getElem?_cons_zero] at o5
     clear hold hpre
     rw [if_pos (by simp [Region.wanted, yielded, s126])]
     have cc0 := eI.cell r0
     have cc1 := eI.cell r1
     have cc2 := eI.cell r2
     have cc3 := eI.cell r3
     have cc4 := eI.cell u0
     have cc5 := eI.cell u1
     have cc6 := eI.cell u2
     have cc7 := eI.cell u3
     have cc8 := eI.cell p0
     have cc9 := eI.cell p1
     have cc10 := eI.cell p2
     have cc11 := eI.cell p3
     have cc12 := eI.cell q0
     have cc13 := eI.cell q1
     have cc14 := eI.cell q2
     have cc15 := eI.cell q3
     go_simp
     exact hK.out _ _ (Ext.refl _) (hRA.ext eI)
    ·clear hl
     refine stp rfl ?_
     intro ac wi eI hold hpre K hK
     obtain ⟨x126, s126, j126⟩ := hpre 3 (by kernel_rfl) 126 rfl
     obtain rfl : x126 = (.bool true) := j126
     have o13 := hold 13 (by kernel_rfl)
     simp only [List.getElem?_toArray, List.getElem?_cons_succ, List.getElem?_cons_zero] at o13
     clear hold hpre
     rw [if_pos (by simp [Region.wanted, yielded, s126])]
     go_simp
     exact hK.out _ _ (Ext.refl _) rfl
    ·clear hl
     refine stp rfl ?_
     intro ac wi eI hold hpre K hK
     obtain ⟨x126, s126, j126⟩ := hpre 3 (by kernel_rfl) 126 rfl
     obtain rfl : x126 = (.bool true) := j126
     have o1 := hold 1 (by kernel_rfl)
     simp only [List.getElem?_toArray, List.getElem?_cons_succ, List.getElem?_cons_zero] at o1
     clear hold hpre
     rw [if_pos (by simp [Region.wanted, yielded, s126])]
     go_simp
     exact hK.out _ _ (Ext.refl _) rfl
    ·clear hl
     refine stp rfl ?_
     intro ac wi eI hold hpre K hK
     obtain ⟨x126, s126, j126⟩ := hpre 3 (by kernel_rfl) 126 rfl
     obtain rfl : x126 = (.bool true) := j126
     obtain ⟨x128, s128, j128⟩ := hpre 5 (by kernel_rfl) 128 rfl
     obtain rfl : x128 = (.slice (some ⟨b21, off21, none⟩) m c21) := j128
     obtain ⟨x129, s129, j129⟩ := hpre 6 (by kernel_rfl) 129 rfl
     obtain rfl : x129 = (.int .i64 (i : Int)) := j129
     clear hold hpre
     rw [if_pos (by simp [Region.wanted, yielded, s126])]
     go_simp
     exact hK.out _ _ (Ext.refl _) rfl
    ·clear hl
     refine stp rfl ?_
     intro ac wi eI hold hpre K hK
     obtain ⟨x126, s126, j126⟩ := hpre 3 (by kernel_rfl) 126 rfl
     obtain rfl : x126 = (.bool true) := j126
     obtain ⟨x130, s130, j130⟩ := hpre 7 (by kernel_rfl) 130 rfl
     obtain rfl : x130 = (.pointer (some ⟨b21, off21 + i * 4, none⟩)) := j130
     clear hold hpre
     rw [if_pos (by simp [Region.wanted, yielded, s126])]
     have cc0 := eI.cell r0
     have cc1 := eI.cell r1
     have cc2 := eI.cell r2
     have cc3 := eI.cell r3
     have cc4 := eI.cell u0
     have cc5 := eI.cell u1
     have cc6 := eI.cell u2
     have cc7 := eI.cell u3
     have cc8 := eI.cell p0
     have cc9 := eI.cell p1
     have cc10 := eI.cell p2
     have cc11 := eI.cell p3
     have cc12 := eI.cell q0
     have cc13 := eI.cell q1
     have cc14 := eI.cell q2
     have cc15 := eI.cell q3
     go_simp
     exact hK.out _ _ (Ext.refl _) ((RatV.mk hb21 g22 g23).ext eI)
    ·clear hl
     refine stp rfl ?_
     intro ac wi eI hold hpre K hK
     obtain ⟨x126, s126, j126⟩ := hpre 3 (by kernel_rfl) 126 rfl
     obtain rfl : x126 = (.bool true) := j126
     obtain ⟨x127, s127, j127⟩ := hpre 4 (by kernel_rfl) 127 rfl
     replace j127 : Mn.p (Mn.rat N q) x127 wi := j127
     obtain ⟨x131, s131, j131⟩ := hpre 8 (by kernel_rfl) 131 rfl
     replace j131 : Mn.p (Mn.rat N (RD i)) x131 wi := j131
     clear hold hpre
     rw [if_pos (by simp [Region.wanted, yielded, s126])]
     go_simp
     refine (r2_mul j127 j131 HQZ.out HRZ.out).mono ?_
     rintro e wj ⟨vj, rfl, hj, ej⟩
     go_wp2_with fail
     exact hK.out _ _ ej hj
    ·clear hl
     refine stp rfl ?_
     intro ac wi eI hold hpre K hK
     obtain ⟨x126, s126, j126⟩ := hpre 3 (by kernel_rfl) 126 rfl
     obtain rfl : x126 = (.bool true) := j126
     have o11 := hold 11 (by kernel_rfl)
     simp only [List.getElem?_toArray, List.getElem?_cons_succ, List.getElem?_cons_zero] at o11
     clear hold hpre
     rw [if_pos (by simp [Region.wanted, yielded, s126])]
     go_simp
     exact hK.out _ _ (Ext.refl _) rfl
    ·clear hl
     refine stp rfl ?_
     intro ac wi eI hold hpre K hK
     obtain ⟨x126, s126, j126⟩ := hpre 3 (by kernel_rfl) 126 rfl
     obtain rfl : x126 = (.bool true) := j126
     have o1 := hold 1 (by kernel_rfl)
     simp only [List.getElem?_toArray, List.getElem?_cons_succ, List.getElem?_cons_zero] at o1
     clear hold hpre
     rw [if_pos (by simp [Region.wanted, yielded, s126])]
     go_simp
     exact hK.out _ _ (Ext.refl _) rfl
    ·clear hl
     refine stp rfl ?_
     intro ac wi eI hold hpre K hK
     obtain ⟨x126, s126, j126⟩ := hpre 3 (by kernel_rfl) 126 rfl
     obtain rfl : x126 = (.bool true) := j126
     obtain ⟨x133, s133, j133⟩ := hpre 10 (by kernel_rfl) 133 rfl
     obtain rfl : x133 = (.slice (some ⟨b20, off20, none⟩) m c20) := j133
     obtain ⟨x134, s134, j134⟩ := hpre 11 (by kernel_rfl) 134 rfl
     obtain rfl : x134 = (.int .i64 (i : Int)) := j134
     clear hold hpre
     rw [if_pos (by simp [Region.wanted, yielded, s126])]
     go_simp
     exact hK.out _ _ (Ext.refl _) rfl
    ·clear hl
     refine stp rfl ?_
     intro ac wi eI hold hpre K hK
     obtain ⟨x126, s126, j126⟩ := hpre 3 (by kernel_rfl) 126 rfl
     obtain rfl : x126 = (.bool true) := j126
     obtain ⟨x135, s135, j135⟩ := hpre 12 (by kernel_rfl) 135 rfl
     obtain rfl : x135 = (.pointer (some ⟨b20, off20 + i * 4, none⟩)) := j135
     clear hold hpre
     rw [if_pos (by simp [Region.wanted, yielded, s126])]
     have cc0 := eI.cell r0
     have cc1 := eI.cell r1
     have cc2 := eI.cell r2
     have cc3 := eI.cell r3
     have cc4 := eI.cell u0
     have cc5 := eI.cell u1
     have cc6 := eI.cell u2
     have cc7 := eI.cell u3
     have cc8 := eI.cell p0
     have cc9 := eI.cell p1
     have cc10 := eI.cell p2
     have cc11 := eI.cell p3
     have cc12 := eI.cell q0
     have cc13 := eI.cell q1
     have cc14 := eI.cell q2
     have cc15 := eI.cell q3
     go_simp
     exact hK.out _ _ (Ext.refl _) ((RatV.mk hb20 g20 g21).ext eI)
    ·clear hl
     refine stp rfl ?_
     intro ac wi eI hold hpre K hK
     obtain ⟨x126, s126, j126⟩ := hpre 3 (by kernel_rfl) 126 rfl
     obtain rfl : x126 = (.bool true) := j126
     obtain ⟨x132, s132, j132⟩ := hpre 9 (by kernel_rfl) 132 rfl
     replace j132 : Mn.p (Mn.rat N (q * RD i)) x132 wi := j132
     obtain ⟨x136, s136, j136⟩ := hpre 13 (by kernel_rfl) 136 rfl
     replace j136 : Mn.p (Mn.rat N (VV i)) x136 wi := j136
     clear hold hpre
     rw [if_pos (by simp [Region.wanted, yielded, s126])]
     go_simp
     refine (r2_same j132 j136 HMZ.out HMV.out).mono ?_
     rintro e wj ⟨rfl, ej⟩
     go_wp2_with fail
     exact hK.out _ _ ej rfl
    ·clear hl
     refine stp rfl ?_
     intro ac wi eI hold hpre K hK
     obtain ⟨x126, s126, j126⟩ := hpre 3 (by kernel_rfl) 126 rfl
     obtain rfl : x126 = (.bool true) := j126
     obtain ⟨x137, s137, j137⟩ := hpre 14 (by kernel_rfl) 137 rfl
     obtain rfl : x137 = (.bool true) := j137
     clear hold hpre
     go_simp
     exact hK.out _ _ (Ext.refl _) rfl
    ·clear hl
     refine stp rfl ?_
     intro ac wi eI hold hpre K hK
     obtain ⟨x138, s138, j138⟩ := hpre 15 (by kernel_rfl) 138 rfl
     obtain rfl : x138 = (.bool true) := j138
     clear hold hpre
     go_simp
     exact hK.out _ _ (Ext.refl _) rfl
   intro vals wz eZ hJ
   have J123 : Mn.p (Mn.rat N q) (vals 0) wz := hJ 0 (by decide) (by decide)
   have J124 : Mn.p (Mn.rat N q) (vals 1) wz := hJ 1 (by decide) (by decide)
   have J125 : Mn.p (Mn.eq (.bool true)) (vals 2) wz := hJ 2 (by decide) (by decide)
   have J126 : Mn.p (Mn.eq (.bool true)) (vals 3) wz := hJ 3 (by decide) (by decide)
   have J127 : Mn.p (Mn.rat N q) (vals 4) wz := hJ 4 (by decide) (by decide)
   have J128 : Mn.p (Mn.eq (.slice (some ⟨b21, off21, none⟩) m c21)) (vals 5) wz := hJ 5 (by decide) (by decide)
   have J129 : Mn.p (Mn.eq (.int .i64 (i : Int))) (vals 6) wz := hJ 6 (by decide) (by decide)
   have J130 : Mn.p (Mn.eq (.pointer (some ⟨b21, off21 + i * 4, none⟩))) (vals 7) wz := hJ 7 (by decide) (by decide)
   have J131 : Mn.p (Mn.rat N (RD i)) (vals 8) wz := hJ 8 (by decide) (by decide)
   have J132 : Mn.p (Mn.rat N (q * RD i)) (vals 9) wz := hJ 9 (by decide) (by decide)
   have J133 : Mn.p (Mn.eq (.slice (some ⟨b20, off20, none⟩) m c20)) (vals 10) wz := hJ 10 (by decide) (by decide)
   have J134 : Mn.p (Mn.eq (.int .i64 (i : Int))) (vals 11) wz := hJ 11 (by decide) (by decide)
   have J135 : Mn.p (Mn.eq (.pointer (some ⟨b20, off20 + i * 4, none⟩))) (vals 12) wz := hJ 12 (by decide) (by decide)
   have J136 : Mn.p (Mn.rat N (VV i)) (vals 13) wz := hJ 13 (by decide) (by decide)
   have J137 : Mn.p (Mn.eq (.bool true)) (vals 14) wz := hJ 14 (by decide) (by decide)
   have J138 : Mn.p (Mn.eq (.bool true)) (vals 15) wz := hJ 15 (by decide) (by decide)
   have J4 : Mn.p (Mn.eq (.bool true)) (vals 16) wz := hJ 16 (by decide) (by decide)
   clear hJ
   simp only [putAll, if_true, Bool.false_eq_true, if_false, Act.put, Nat.zero_add, Nat.reduceAdd, List.setIfInBounds_toArray, List.set_cons_zero, List.set_cons_succ]
   generalize vals 0 = z123 at J123 ⊢
   generalize vals 1 = z124 at J124 ⊢
   generalize vals 2 = z125 at J125 ⊢
   obtain rfl : z125 = (.bool true) := J125
   generalize vals 3 = z126 at J126 ⊢
   obtain rfl : z126 = (.bool true) := J126
   generalize vals 4 = z127 at J127 ⊢
   generalize vals 5 = z128 at J128 ⊢
   obtain rfl : z128 = (.slice (some ⟨b21, off21, none⟩) m c21) := J128
   generalize vals 6 = z129 at J129 ⊢
   obtain rfl : z129 = (.int .i64 (i : Int)) := J129
   generalize vals 7 = z130 at J130 ⊢
   obtain rfl : z130 = (.pointer (some ⟨b21, off21 + i * 4, none⟩)) := J130
   generalize vals 8 = z131 at J131 ⊢
   generalize vals 9 = z132 at J132 ⊢
   generalize vals 10 = z133 at J133 ⊢
   obtain rfl : z133 = (.slice (some ⟨b20, off20, none⟩) m c20) := J133
   generalize vals 11 = z134 at J134 ⊢
   obtain rfl : z134 = (.int .i64 (i : Int)) := J134
   generalize vals 12 = z135 at J135 ⊢
   obtain rfl : z135 = (.pointer (some ⟨b20, off20 + i * 4, none⟩)) := J135
   generalize vals 13 = z136 at J136 ⊢
   generalize vals 14 = z137 at J137 ⊢
   obtain rfl : z137 = (.bool true) := J137
   generalize vals 15 = z138 at J138 ⊢
   obtain rfl : z138 = (.bool true) := J138
   generalize vals 16 = z4 at J4 ⊢
   obtain rfl : z4 = (.bool true) := J4
   refine stepL_done (by kernel_rfl) ?_ _
   go_wp2
   go_ret
   exact ⟨rfl, hE.trans eZ⟩
  ·have hm2 : 1 < m := by omega
   obtain ⟨XS, hXS⟩ := hid_eq (sol37 (m - 1) n (fun j => X (skip i j)) (fun j => y (skip i j)) (fun j => p (skip i j)))
   have HXS : Hid (HtM (m - 1) n 17 (fun j => X (skip i j))) := fun a ha c hc => HX.out _ (by have := skip_lt (i := i) ha; omega) c hc
   have HYS : Hid (HtL (m - 1) 17 (fun j => y (skip i j))) := fun a ha => HY.out _ (by have := skip_lt (i := i) ha; omega)
   have HPS : Hid (HtL (m - 1) 17 (fun j => p (skip i j))) := fun a ha => HP.out _ (by have := skip_lt (i := i) ha; omega)
   have HPP : Hid (∀ j, j < m - 1 → 0 < p (skip i j)) := fun a ha => HPOS.out _ (by have := skip_lt (i := i) ha; omega)
   have HSH : Hid (HtL n 5000000 XS) := by rw [Hid, hXS.out]; exact sol37_ht (by omega) hn HXS.out HYS.out HPS.out
   obtain ⟨D, hD⟩ := hid_eq (sum n (fun j => X i j * XS j))
   have HDH : Hid (Ht 21000000 D) := by
    rw [Hid, hD.out]
    exact sum_ht (n := n) (k := 17 + 5000000) (fun c hc => (HX.out i hi' c hc).mul (HSH.out c hc)) (Nat.le_refl _) (by omega)
   have HWV : Hid (- y i + D = q) := by
    rw [Hid, hq.out, hRD.out, hVV.out, hD.out, hXS.out]
    obtain ⟨m', rfl⟩ : ∃ m', m = m' + 1 := ⟨m - 1, by omega⟩
    rw [Nat.add_sub_cancel]
    exact (alone_div HPOS.out hi' (sol37_nsol m' n (fun j => X (skip i j)) (fun j => y (skip i j)) HPP.out) HZ.out).symm
   clear hm1
   have h11 := h1.ext hE
   obtain ⟨bX, offX, rfl, -, -, hx⟩ := MtV.addr h11 hm0
   obtain ⟨AR, cR, o0, hRc, hcR, hrow⟩ := hx i hi'
   unfold maxLen at hcR
   clear hx h11
   have hN11 : N ≤ w11.heap.size := by have := hE.size; omega
   go_upto_region 15 with (fail)
   go_cut [9] (fun pb wx => ∃ g : Nat, pb = .pointer (some ⟨g, 0, none⟩) ∧ w11.heap.size ≤ g ∧ g < wx.heap.size ∧ BoxR N wx g D ∧ Ext w11 wx)
   case first =>
    have eC := (Ext.refl w11).drew
    refine region_late (fun w' => w'.cell? ⟨w.heap.size, 0, none⟩ = some (.slice (some ⟨bX, offX, none⟩) m c1) ∧ w'.cell? ⟨w.heap.size, 1, none⟩ = some (.slice (some ⟨b2, off2, none⟩) m c2) ∧ w'.cell? ⟨w.heap.size, 2, none⟩ = some (.slice A3 m c3) ∧ w'.cell? ⟨bX, offX + i, none⟩ = some (.slice AR n cR)) [14] (by kernel_rfl) (by exact ⟨eC.cell a0, eC.cell a1, eC.cell a2, eC.cell o0⟩) (fun hHeld => ?_)
    refine sP 0 (h := ?_)
    try simp only [nr]
    refine sT 1 (h := ?_)
    try simp only [nr]
    refine sP 2 (h := ?_)
    try simp only [nr]
    refine sP 3 (h := ?_)
    try simp only [nr]
    refine sT 4 (h := ?_)
    try simp only [nr]
    refine sT 5 (h := ?_)
    try simp only [nr]
    refine sP 6 (h := ?_)
    try simp only [nr]
    refine stepL_two (i := 7) (j := 13) rfl rfl (by kernel_rfl) (fun K hK => ?_) (fun K hK => ?_)
    ·go_simp
     refine (l37_without (h1.ext (hE.trans eC)) (h2.ext (hE.trans eC)) (h3.ext (hE.trans eC)) (by omega) hn0 (by omega) hi').mono ?_
     rintro e w12 ⟨B1, f1, B2, f2, B3, f3, rfl, y1, y2, y3, e12⟩
     replace eC := eC.trans e12
     (try replace eA2 := eA2.trans e12)
     go_wp2_with fail
     clear hHeld
     refine hK.out _ _ (by exact ⟨eC.cell a0, eC.cell a1, eC.cell a2, eC.cell o0⟩) fun hHeld => ?_
     clear hK K
     try simp only [nr]
     refine stepL_two (i := 8) (j := 13) rfl rfl (by kernel_rfl) (fun K hK => ?_) (fun K hK => ?_)
     ·go_simp
      refine (l37_solution (P := 4) (by first | exact y1 | exact MtV.ext y1 eA) (by first | exact y2 | exact LsV.ext y2 eA) (by first | exact y3 | exact LsV.ext y3 eA) (by omega) (by omega) hn0 (by omega) HPP.out (by omega) HXS.out HYS.out HPS.out rfl rfl hn (few_sol2 (by omega))).mono ?_
      rintro e w13 ⟨B4, f4, rfl, y4, e13⟩
      rw [← hXS.out] at y4
      replace eC := eC.trans e13
      (try replace eA2 := eA2.trans e13)
      go_wp2_with fail
      clear hHeld
      refine hK.out _ _ (by exact ⟨eC.cell a0, eC.cell a1, eC.cell a2, eC.cell o0⟩) fun hHeld => ?_
      clear hK K
      try simp only [nr]
      refine stepL_two (i := 9) (j := 13) rfl rfl (by kernel_rfl) (fun K hK => ?_) (fun K hK => ?_)
      ·go_simp
       refine (r2_dot (k := 17) (k' := 5000000) (by exact LsV.ext hrow eC) (by first | exact y4 | exact LsV.ext y4 eA) (HX.out i hi') HSH.out (by omega)).mono ?_
       intro e w14 hh
       rw [← hD.out] at hh
       obtain ⟨b16, A16, k16, c16, A17, k17, c17, rfl, hb16, g16, g17, e14⟩ := RetRC.form hh
       replace eC := eC.trans e14
       (try replace eA2 := eA2.trans e14)
       go_wp2_with fail
       clear hHeld
       refine hK.out _ _ (by exact ⟨eC.cell a0, eC.cell a1, eC.cell a2, eC.cell o0⟩) fun hHeld => ?_
       clear hK K
       try simp only [nr]
       refine sP 10 (h := ?_)
       try simp only [nr]
       refine sP 11 (h := ?_)
       try simp only [nr]
       refine sP 12 (h := ?_)
       try simp only [nr]
       refine stepL_only (i := 13) rfl (by kernel_rfl) (fun K hK => ?_)
       go_simp
       first | refine boxes1 ?_ | refine boxesD1 ?_
       intro wA eA hszA BA
       have hgl : w11.heap.size ≤ _ := eC.size
       replace eC : Ext w11 wA := by first | exact eC.trans eA | exact eA
       have eA2 := Ext.refl wA
       (try replace g16 := g16.ext eA)
       (try replace g17 := g17.ext eA)
       clear hHeld
       refine hK.out _ _ (by exact ⟨eC.cell a0, eC.cell a1, eC.cell a2, eC.cell o0⟩) fun hHeld => ?_
       clear hK K
       try simp only [nr]
       refine stepL_late (i := 14) rfl (by kernel_rfl) (by kernel_rfl) (fun K hK => ?_)
       obtain ⟨u0, u1, u2, u3, u4, u5, u6, u7⟩ := cells4 (eA2.block BA)
       go_simp
       refine hK.out _ _ ?_
       clear hK K
       try simp only [nr]
       refine sP 15 (h := ?_)
       try simp only [nr]
       refine stepL_done (by kernel_rfl) ?_ _
       clear hHeld
       go_wp2_with fail
       go_meet
       obtain ⟨w17, E17, hB17, K17, hs17⟩ := boxSet (q := D) (eA2.block BA) (by have h9 : w11.drew.heap.size = w11.heap.size := rfl; omega) hb16 g16 g17
       rw [E17]
       exact ⟨_, rfl, hgl, by have h8 := eA2.size; omega, hB17, K17.ext eC hgl⟩
      ·go_simp
       first | refine boxes1 ?_ | refine boxesD1 ?_
       intro wA eA hszA BA
       have hgl : w11.heap.size ≤ _ := eC.size
       replace eC : Ext w11 wA := by first | exact eC.trans eA | exact eA
       have eA2 := Ext.refl wA
       (try replace g16 := g16.ext eA)
       (try replace g17 := g17.ext eA)
       clear hHeld
       refine hK.out _ _ (by exact ⟨eC.cell a0, eC.cell a1, eC.cell a2, eC.cell o0⟩) fun hHeld => ?_
       clear hK K
       try simp only [nr]
       refine stepL_only (i := 9) rfl (by kernel_rfl) (fun K hK => ?_)
       go_simp
       refine (r2_dot (k := 17) (k' := 5000000) (by exact LsV.ext hrow eC) (by first | exact y4 | exact LsV.ext y4 eA) (HX.out i hi') HSH.out (by omega)).mono ?_
       intro e w14 hh
       rw [← hD.out] at hh
       obtain ⟨b16, A16, k16, c16, A17, k17, c17, rfl, hb16, g16, g17, e14⟩ := RetRC.form hh
       replace eC := eC.trans e14
       (try replace eA2 := eA2.trans e14)
       go_wp2_with fail
       clear hHeld
       refine hK.out _ _ (by exact ⟨eC.cell a0, eC.cell a1, eC.cell a2, eC.cell o0⟩) fun hHeld => ?_
       clear hK K
       try simp only [nr]
       refine sP 10 (h := ?_)
       try simp only [nr]
       refine sP 11 (h := ?_)
       try simp only [nr]
       refine sP 12 (h := ?_)
       try simp only [nr]
       refine stepL_late (i := 14) rfl (by kernel_rfl) (by kernel_rfl) (fun K hK => ?_)
       obtain ⟨u0, u1, u2, u3, u4, u5, u6, u7⟩ := cells4 (eA2.block BA)
       go_simp
       refine hK.out _ _ ?_
       clear hK K
       try simp only [nr]
       refine sP 15 (h := ?_)
       try simp only [nr]
       refine stepL_done (by kernel_rfl) ?_ _
       clear hHeld
       go_wp2_with fail
       go_meet
       obtain ⟨w17, E17, hB17, K17, hs17⟩ := boxSet (q := D) (eA2.block BA) (by have h9 : w11.drew.heap.size = w11.heap.size := rfl; omega) hb16 g16 g17
       rw [E17]
       exact ⟨_, rfl, hgl, by have h8 := eA2.size; omega, hB17, K17.ext eC hgl⟩
     ·go_simp
      first | refine boxes1 ?_ | refine boxesD1 ?_
      intro wA eA hszA BA
      have hgl : w11.heap.size ≤ _ := eC.size
      replace eC : Ext w11 wA := by first | exact eC.trans eA | exact eA
      have eA2 := Ext.refl wA
      (try replace g16 := g16.ext eA)
      (try replace g17 := g17.ext eA)
      clear hHeld
      refine hK.out _ _ (by exact ⟨eC.cell a0, eC.cell a1, eC.cell a2, eC.cell o0⟩) fun hHeld => ?_
      clear hK K
      try simp only [nr]
      refine stepL_only (i := 8) rfl (by kernel_rfl) (fun K hK => ?_)
      go_simp
      refine (l37_solution (P := 4) (by first | exact y1 | exact MtV.ext y1 eA) (by first | exact y2 | exact LsV.ext y2 eA) (by first | exact y3 | exact LsV.ext y3 eA) (by omega) (by omega) hn0 (by omega) HPP.out (by omega) HXS.out HYS.out HPS.out rfl rfl hn (few_sol2 (by omega))).mono ?_
      rintro e w13 ⟨B4, f4, rfl, y4, e13⟩
      rw [← hXS.out] at y4
      replace eC := eC.trans e13
      (try replace eA2 := eA2.trans e13)
      go_wp2_with fail
      clear hHeld
      refine hK.out _ _ (by exact ⟨eC.cell a0, eC.cell a1, eC.cell a2, eC.cell o0⟩) fun hHeld => ?_
      clear hK K
      try simp only [nr]
      refine stepL_only (i := 9) rfl (by kernel_rfl) (fun K hK => ?_)
      go_simp
      refine (r2_dot (k := 17) (k' := 5000000) (by exact LsV.ext hrow eC) (by first | exact y4 | exact LsV.ext y4 eA) (HX.out i hi') HSH.out (by omega)).mono ?_
      intro e w14 hh
      rw [← hD.out] at hh
      obtain ⟨b16, A16, k16, c16, A17, k17, c17, rfl, hb16, g16, g17, e14⟩ := RetRC.form hh
      replace eC := eC.trans e14
      (try replace eA2 := eA2.trans e14)
      go_wp2_with fail
      clear hHeld
      refine hK.out _ _ (by exact ⟨eC.cell a0, eC.cell a1, eC.cell a2, eC.cell o0⟩) fun hHeld => ?_
      clear hK K
      try simp only [nr]
      refine sP 10 (h := ?_)
      try simp only [nr]
      refine sP 11 (h := ?_)
      try simp only [nr]
      refine sP 12 (h := ?_)
      try simp only [nr]
      refine stepL_late (i := 14) rfl (by kernel_rfl) (by kernel_rfl) (fun K hK => ?_)
      obtain ⟨u0, u1, u2, u3, u4, u5, u6, u7⟩ := cells4 (eA2.block BA)
      go_simp
      refine hK.out _ _ ?_
      clear hK K
      try simp only [nr]
      refine sP 15 (h := ?_)
      try simp only [nr]
      refine stepL_done (by kernel_rfl) ?_ _
      clear hHeld
      go_wp2_with fail
      go_meet
      obtain ⟨w17, E17, hB17, K17, hs17⟩ := boxSet (q := D) (eA2.block BA) (by have h9 : w11.drew.heap.size = w11.heap.size := rfl; omega) hb16 g16 g17
      rw [E17]
      exact ⟨_, rfl, hgl, by have h8 := eA2.size; omega, hB17, K17.ext eC hgl⟩
    ·go_simp
     first | refine boxes1 ?_ | refine boxesD1 ?_
     intro wA eA hszA BA
     have hgl : w11.heap.size ≤ _ := eC.size
     replace eC : Ext w11 wA := by first | exact eC.trans eA | exact eA
     have eA2 := Ext.refl wA
     (try replace g16 := g16.ext eA)
     (try replace g17 := g17.ext eA)
     clear hHeld
     refine hK.out _ _ (by exact ⟨eC.cell a0, eC.cell a1, eC.cell a2, eC.cell o0⟩) fun hHeld => ?_
     clear hK K
     try simp only [nr]
     refine stepL_only (i := 7) rfl (by kernel_rfl) (fun K hK => ?_)
     go_simp
     refine (l37_without (h1.ext (hE.trans eC)) (h2.ext (hE.trans eC)) (h3.ext (hE.trans eC)) (by omega) hn0 (by omega) hi').mono ?_
     rintro e w12 ⟨B1, f1, B2, f2, B3, f3, rfl, y1, y2, y3, e12⟩
     replace eC := eC.trans e12
     (try replace eA2 := eA2.trans e12)
     go_wp2_with fail
     clear hHeld
     refine hK.out _ _ (by exact ⟨eC.cell a0, eC.cell a1, eC.cell a2, eC.cell o0⟩) fun hHeld => ?_
     clear hK K
     try simp only [nr]
     refine stepL_only (i := 8) rfl (by kernel_rfl) (fun K hK => ?_)
     go_simp
     refine (l37_solution (P := 4) (by first | exact y1 | exact MtV.ext y1 eA) (by first | exact y2 | exact LsV.ext y2 eA) (by first | exact y3 | exact LsV.ext y3 eA) (by omega) (by omega) hn0 (by omega) HPP.out (by omega) HXS.out HYS.out HPS.out rfl rfl hn (few_sol2 (by omega))).mono ?_
     rintro e w13 ⟨B4, f4, rfl, y4, e13⟩
     rw [← hXS.out] at y4
     replace eC := eC.trans e13
     (try replace eA2 := eA2.trans e13)
     go_wp2_with fail
     clear hHeld
     refine hK.out _ _ (by exact ⟨eC.cell a0, eC.cell a1, eC.cell a2, eC.cell o0⟩) fun hHeld => ?_
     clear hK K
     try simp only [nr]
     refine stepL_only (i := 9) rfl (by kernel_rfl) (fun K hK => ?_)
     go_simp
     refine (r2_dot (k := 17) (k' := 5000000) (by exact LsV.ext hrow eC) (by first | exact y4 | exact LsV.ext y4 eA) (HX.out i hi') HSH.out (by omega)).mono ?_
     intro e w14 hh
     rw [← hD.out] at hh
     obtain ⟨b16, A16, k16, c16, A17, k17, c17, rfl, hb16, g16, g17, e14⟩ := RetRC.form hh
     replace eC := eC.trans e14
     (try replace eA2 := eA2.trans e14)
     go_wp2_with fail
     clear hHeld
     refine hK.out _ _ (by exact ⟨eC.cell a0, eC.cell a1, eC.cell a2, eC.cell o0⟩) fun hHeld => ?_
     clear hK K
     try simp only [nr]
     refine sP 10 (h := ?_)
     try simp only [nr]
     refine sP 11 (h := ?_)
     try simp only [nr]
     refine sP 12 (h := ?_)
     try simp only [nr]
     refine stepL_late (i := 14) rfl (by kernel_rfl) (by kernel_rfl) (fun K hK => ?_)
     obtain ⟨u0, u1, u2, u3, u4, u5, u6, u7⟩ := cells4 (eA2.block BA)
     go_simp
     refine hK.out _ _ ?_
     clear hK K
     try simp only [nr]
     refine sP 15 (h := ?_)
     try simp only [nr]
     refine stepL_done (by kernel_rfl) ?_ _
     clear hHeld
     go_wp2_with fail
     go_meet
     obtain ⟨w17, E17, hB17, K17, hs17⟩ := boxSet (q := D) (eA2.block BA) (by have h9 : w11.drew.heap.size = w11.heap.size := rfl; omega) hb16 g16 g17
     rw [E17]
     exact ⟨_, rfl, hgl, by have h8 := eA2.size; omega, hB17, K17.ext eC hgl⟩
   case rest =>
    obtain ⟨gD, rfl, hg1, hg2, hBD, e15⟩ := hcut
    replace hBA := hBA.ext e15
    replace hBW0 := hBW0.ext e15
    replace hE := hE.trans e15
    replace B0 := e15.block B0
    replace hsz := blk_lt B0
    clear a0 a1 a2
    obtain ⟨a0, a1, a2, -⟩ := cells3 B0
    obtain ⟨s1, S1, S2, S3, S4, S5, S6, r0, r1, r2, r3, -, -, -, -, hRW, BW⟩ := hBW0.open
    obtain ⟨t1, T1, T2, T3, T4, T5, T6, u0, u1, u2, u3, -, -, -, -, hRD2, -⟩ := hBD.open
    go_wp2_with (go_at_call 46; refine Hid.out ?_)
    refine (r2_add hRW hRD2 HYZ.out.2 (HDH.out.sz (by omega))).mono ?_
    rw [HWV.out]
    intro e w16 hh
    obtain ⟨b18, A18, k18, c18, A19, k19, c19, rfl, hb18, g18, g19, e16⟩ := hh.form
    have D1 := e16.block BW
    replace hBA := hBA.ext e16
    clear r0 r1 r2 r3 u0 u1 u2 u3 hh hBW0 hBD o0
    replace hE := hE.trans e16
    replace B0 := e16.block B0
    replace hsz := blk_lt B0
    clear a0 a1 a2
    obtain ⟨a0, a1, a2, -⟩ := cells3 B0
    obtain ⟨u0, u1, u2, u3, u4, u5, u6, u7⟩ := cells4 D1
    go_upto_region 17 with (fail)
    clear u0 u1 u2 u3 u4 u5 u6 u7
    obtain ⟨w17, E17, hBW, K17, hs17⟩ := boxSet (q := q) D1 (by omega) hb18 g18 g19
    rw [E17]
    replace hE := K17.ext hE (by omega)
    replace B0 := K17.blk B0 (.inl hwW)
    replace hBA := hBA.chg K17 (by omega) (.inl hAW)
    replace hsz := blk_lt B0
    clear a0 a1 a2 E17 K17 D1 hs17 g18 g19 hb18
    obtain ⟨a0, a1, a2, -⟩ := cells3 B0
    go_wp2_with (go_at_call 12; refine Hid.out ?_)
    refine (rl_Residuals (h1.ext hE) (h2.ext hE) (h3.ext hE) hm0 (by omega) hn0 (by omega) HPOS.out HB.out HX.out HY.out HP.out (by have := HK1.out; omega)).mono ?_
    rintro e w20 ⟨A20, c20, rfl, h20, e20⟩
    replace h20 : LsV N 0 w20.heap.size w20 (.slice A20 m c20) m VV := by
     rw [hVV.out]
     exact LsR.wide h20 (Nat.zero_le _) (Nat.le_refl _) (Nat.le_refl _)
    replace hBA := hBA.ext e20
    replace hBW := hBW.ext e20
    replace hE := hE.trans e20
    replace B0 := e20.block B0
    replace hsz := blk_lt B0
    clear a0 a1 a2
    obtain ⟨a0, a1, a2, -⟩ := cells3 B0
    go_wp2_with (go_at_call 26; refine Hid.out ?_)
    refine (rl_Redundancy (h1.ext hE) (h2.ext hE) (h3.ext hE) hm0 (by omega) hn0 (by omega) HPOS.out HB.out HX.out HY.out HP.out (by omega)).mono ?_
    rintro e w21 ⟨A21, c21, rfl, h21, e21⟩
    replace h21 : LsV N 0 w21.heap.size w21 (.slice A21 m c21) m RD := by
     rw [hRD.out]
     exact LsR.wide h21 (Nat.zero_le _) (Nat.le_refl _) (Nat.le_refl _)
    replace hBA := hBA.ext e21
    replace hBW := hBW.ext e21
    replace h20 := h20.ext e21
    replace hE := hE.trans e21
    replace B0 := e21.block B0
    replace hsz := blk_lt B0
    clear a0 a1 a2
    obtain ⟨a0, a1, a2, -⟩ := cells3 B0
    clear e20 e21
    obtain ⟨b20, off20, rfl, -, -, hx20⟩ := LsV.addr h20 hm0
    obtain ⟨n20, B20, k20, d20, B21, k21, d21, p0, p1, p2, p3, hb20, g20, g21⟩ := (hx20 i hi').open
    obtain ⟨b21, off21, rfl, -, -, hx21⟩ := LsV.addr h21 hm0
    obtain ⟨n21, B22, k22, d22, B23, k23, d23, q0, q1, q2, q3, hb21, g22, g23⟩ := (hx21 i hi').open
    clear hx20 hx21 h20 h21
    go_upto_region 21 with (fail)
    obtain ⟨s1, S1, S2, S3, S4, S5, S6, r0, r1, r2, r3, -, -, -, -, hRA, -⟩ := hBA.open
    obtain ⟨t1, T1, T2, T3, T4, T5, T6, u0, u1, u2, u3, -, -, -, -, hRW, -⟩ := hBW.open
    refine region_inv [Mn.rat N q, Mn.rat N q, Mn.eq (.bool true), Mn.eq (.bool true), Mn.rat N q, Mn.eq (.slice (some ⟨b21, off21, none⟩) m c21), Mn.eq (.int .i64 (i : Int)), Mn.eq (.pointer (some ⟨b21, off21 + i * 4, none⟩)), Mn.rat N (RD i), Mn.rat N (q * RD i), Mn.eq (.slice (some ⟨b20, off20, none⟩) m c20), Mn.eq (.int .i64 (i : Int)), Mn.eq (.pointer (some ⟨b20, off20 + i * 4, none⟩)), Mn.rat N (VV i), Mn.eq (.bool true), Mn.eq (.bool true), Mn.eq (.bool true)] [some 123, some 124, some 125, some 126, some 127, some 128, some 129, some 130, some 131, some 132, some 133, some 134, some 135, some 136, some 137, some 138, some 4] [] [true, true, true, true, true, true, true, true, true, true, true, true, true, true, true, true, true] 0 (by kernel_rfl) (by kernel_rfl) (by kernel_rfl) (by kernel_rfl) (by kernel_rfl) (by kernel_rfl) (by kernel_rfl) (by kernel_rfl) ?_ ?_
    ·intro i hi hl
     have hi' : i = 0 ∨ i = 1 ∨ i = 2 ∨ i = 3 ∨ i = 4 ∨ i = 5 ∨ i = 6 ∨ i = 7 ∨ i = 8 ∨ i = 9 ∨ i = 10 ∨ i = 11 ∨ i = 12 ∨ i = 13 ∨ i = 14 ∨ i = 15 ∨ i = 16 := by have h9 : i < 17 := hi; omega
     clear hi
     rcases hi' with rfl | rfl | rfl | rfl | rfl | rfl | rfl | rfl | rfl | rfl | rfl | rfl | rfl | rfl | rfl | rfl | rfl
     ·clear hl
      refine stp rfl ?_
      intro ac wi eI hold hpre K hK
      have o5 := hold 5 (by kernel_rfl)
      simp only [List.getElem?_toArray, List.getElem?_cons_succ, List.getElem?_cons_zero] at o5
      clear hold hpre
      have cc0 := eI.cell r0
      have cc1 := eI.cell r1
      have cc2 := eI.cell r2
      have cc3 := eI.cell r3
      have cc4 := eI.cell u0
      have cc5 := eI.cell u1
      have cc6 := eI.cell u2
      have cc7 := eI.cell u3
      have cc8 := eI.cell p0
      have cc9 := eI.cell p1
      have cc10 := eI.cell p2
      have cc11 := eI.cell p3
      have cc12 := eI.cell q0
      have cc13 := eI.cell q1
      have cc14 := eI.cell q2
      have cc15 := eI.cell q3
      go_simp
      exact hK.out _ _ (Ext.refl _) (hRA.ext eI)
     ·clear hl
      refine stp rfl ?_
      intro ac wi eI hold hpre K hK
      have o8 := hold 8 (by kernel_rfl)
      simp only [List.getElem?_toArray, List.getElem?_cons_succ, List.getElem?_cons_zero] at o8
      clear hold hpre
      have cc0 := eI.cell r0
      have cc1 := eI.cell r1
      have cc2 := eI.cell r2
      have cc3 := eI.cell r3
      have cc4 := eI.cell u0
      have cc5 := eI.cell u1
      have cc6 := eI.cell u2
      have cc7 := eI.cell u3
      have cc8 := eI.cell p0
      have cc9 := eI.cell p1
      have cc10 := eI.cell p2
      have cc11 := eI.cell p3
      have cc12 := eI.cell q0
      have cc13 := eI.cell q1
      have cc14 := eI.cell q2
      have cc15 := eI.cell q3
      go_simp
      exact hK.out _ _ (Ext.refl _) (hRW.ext eI)
     ·clear hl
      refine stp rfl ?_
      intro ac wi eI hold hpre K hK
      obtain ⟨x123, s123, j123⟩ := hpre 0 (by kernel_rfl) 123 rfl
      replace j123 : Mn.p (Mn.rat N q) x123 wi := j123
      obtain ⟨x124, s124, j124⟩ := hpre 1 (by kernel_rfl) 124 rfl
      replace j124 : Mn.p (Mn.rat N q) x124 wi := j124
      clear hold hpre
      go_simp
      refine (r2_same j123 j124 HQZ.out rfl).mono ?_
      rintro e wj ⟨rfl, ej⟩
      go_wp2_with fail
      exact hK.out _ _ ej rfl
     ·clear hl
      refine stp rfl ?_
      intro ac wi eI hold hpre K hK
      obtain ⟨x125, s125, j125⟩ := hpre 2 (by kernel_rfl) 125 rfl
      obtain rfl : x125 = (.bool true) := j125
      clear hold hpre
      go_simp
      exact hK.out _ _ (Ext.refl _) rfl
     ·clear hl
      refine stp rfl ?_
      intro ac wi eI hold hpre K hK
      obtain ⟨x126, s126, j126⟩ := hpre 3 (by kernel_rfl) 126 rfl
      obtain rfl : x126 = (.bool true) := j126
      have o5 := hold 5 (by kernel_rfl)
      simp only [List.getElem?_toArray, List.getElem?_cons_succ, List.getElem?_cons_zero] at o5
      clear hold hpre
      rw [if_pos (by simp [Region.wanted, yielded, s126])]
      have cc0 := eI.cell r0
      have cc1 := eI.cell r1
      have cc2 := eI.cell r2
      have cc3 := eI.cell r3
      have cc4 := eI.cell u0
      have cc5 := eI.cell u1
      have cc6 := eI.cell u2
      have cc7 := eI.cell u3
      have cc8 := eI.cell p0
      have cc9 := eI.cell p1
      have cc10 := eI.cell p2
      have cc11 := eI.cell p3
      have cc12 := eI.cell q0
      have cc13 := eI.cell q1
      have cc14 := eI.cell q2
      have cc15 := eI.cell q3
      go_simp
      exact hK.out _ _ (Ext.refl _) (hRA.ext eI)
     ·clear hl
      refine stp rfl ?_
      intro ac wi eI hold hpre K hK
      obtain ⟨x126, s126, j126⟩ := hpre 3 (by kernel_rfl) 126 rfl
      obtain rfl : x126 = (.bool true) := j126
      have o13 := hold 13 (by kernel_rfl)
      simp only [List.getElem?_toArray, List.getElem?_cons_succ, List.getElem?_cons_zero] at o13
      clear hold hpre
      rw [if_pos (by simp [Region.wanted, yielded, s126])]
      go_simp
      exact hK.out _ _ (Ext.refl _) rfl
     ·clear hl
      refine stp rfl ?_
      intro ac wi eI hold hpre K hK
      obtain ⟨x126, s126, j126⟩ := hpre 3 (by kernel_rfl) 126 rfl
      obtain rfl : x126 = (.bool true) := j126
      have o1 := hold 1 (by kernel_rfl)
      simp only [List.getElem?_toArray, List.getElem?_cons_succ, List.getElem?_cons_zero] at o1
      clear hold hpre
      rw [if_pos (by simp [Region.wanted, yielded, s126])]
      go_simp
      exact hK.out _ _ (Ext.refl _) rfl
     ·clear hl
      refine stp rfl ?_
      intro ac wi eI hold hpre K hK
      obtain ⟨x126, s126, j126⟩ := hpre 3 (by kernel_rfl) 126 rfl
      obtain rfl : x126 = (.bool true) := j126
      obtain ⟨x128, s128, j128⟩ := hpre 5 (by kernel_rfl) 128 rfl
      obtain rfl : x128 = (.slice (some ⟨b21, off21, none⟩) m c21) := j128
      obtain ⟨x129, s129, j129⟩ := hpre 6 (by kernel_rfl) 129 rfl
      obtain rfl : x129 = (.int .i64 (i : Int)) := j129
      clear hold hpre
      rw [if_pos (by simp [Region.wanted, yielded, s126])]
      go_simp
      exact hK.out _ _ (Ext.refl _) rfl
     ·clear hl
      refine stp rfl ?_
      intro ac wi eI hold hpre K hK
      obtain ⟨x126, s126, j126⟩ := hpre 3 (by kernel_rfl) 126 rfl
      obtain rfl : x126 = (.bool true) := j126
      obtain ⟨x130, s130, j130⟩ := hpre 7 (by kernel_rfl) 130 rfl
      obtain rfl : x130 = (.pointer (some ⟨b21, off21 + i * 4, none⟩)) := j130
      clear hold hpre
      rw [if_pos (by simp [Region.wanted, yielded, s126])]
      have cc0 := eI.cell r0
      have cc1 := eI.cell r1
      have cc2 := eI.cell r2
      have cc3 := eI.cell r3
      have cc4 := eI.cell u0
      have cc5 := eI.cell u1
      have cc6 := eI.cell u2
      have cc7 := eI.cell u3
      have cc8 := eI.cell p0
      have cc9 := eI.cell p1
      have cc10 := eI.cell p2
      have cc11 := eI.cell p3
      have cc12 := eI.cell q0
      have cc13 := eI.cell q1
      have cc14 := eI.cell q2
      have cc15 := eI.cell q3
      go_simp
      exact hK.out _ _ (Ext.refl _) ((RatV.mk hb21 g22 g23).ext eI)
     ·clear hl
      refine stp rfl ?_
      intro ac wi eI hold hpre K hK
      obtain ⟨x126, s126, j126⟩ := hpre 3 (by kernel_rfl) 126 rfl
      obtain rfl : x126 = (.bool true) := j126
      obtain ⟨x127, s127, j127⟩ := hpre 4 (by kernel_rfl) 127 rfl
      replace j127 : Mn.p (Mn.rat N q) x127 wi := j127
      obtain ⟨x131, s131, j131⟩ := hpre 8 (by kernel_rfl) 131 rfl
      replace j131 : Mn.p (Mn.rat N (RD i)) x131 wi := j131
      clear hold hpre
      rw [if_pos (by simp [Region.wanted, yielded, s126])]
      go_simp
      refine (r2_mul j127 j131 HQZ.out HRZ.out).mono ?_
      rintro e wj ⟨vj, rfl, hj, ej⟩
      go_wp2_with fail
      exact hK.out _ _ ej hj
     ·clear hl
      refine stp rfl ?_
      intro ac wi eI hold hpre K hK
      obtain ⟨x126, s126, j126⟩ := hpre 3 (by kernel_rfl) 126 rfl
      obtain rfl : x126 = (.bool true) := j126
      have o11 := hold 11 (by kernel_rfl)
      simp only [List.getElem?_toArray, List.getElem?_cons_succ, List.getElem?_cons_zero] at o11
      clear hold hpre
      rw [if_pos (by simp [Region.wanted, yielded, s126])]
      go_simp
      exact hK.out _ _ (Ext.refl _) rfl
     ·clear hl
      refine stp rfl ?_
      intro ac wi eI hold hpre K hK
      obtain ⟨x126, s126, j126⟩ := hpre 3 (by kernel_rfl) 126 rfl
      obtain rfl : x126 = (.bool true) := j126
      have o1 := hold 1 (by kernel_rfl)
      simp only [List.getElem?_toArray, List.getElem?_cons_succ, List.getElem?_cons_zero] at o1
      clear hold hpre
      rw [if_pos (by simp [Region.wanted, yielded, s126])]
      go_simp
      exact hK.out _ _ (Ext.refl _) rfl
     ·clear hl
      refine stp rfl ?_
      intro ac wi eI hold hpre K hK
      obtain ⟨x126, s126, j126⟩ := hpre 3 (by kernel_rfl) 126 rfl
      obtain rfl : x126 = (.bool true) := j126
      obtain ⟨x133, s133, j133⟩ := hpre 10 (by kernel_rfl) 133 rfl
      obtain rfl : x133 = (.slice (some ⟨b20, off20, none⟩) m c20) := j133
      obtain ⟨x134, s134, j134⟩ := hpre 11 (by kernel_rfl) 134 rfl
      obtain rfl : x134 = (.int .i64 (i : Int)) := j134
      clear hold hpre
      rw [if_pos (by simp [Region.wanted, yielded, s126])]
      go_simp
      exact hK.out _ _ (Ext.refl _) rfl
     ·clear hl
      refine stp rfl ?_
      intro ac wi eI hold hpre K hK
      obtain ⟨x126, s126, j126⟩ := hpre 3 (by kernel_rfl) 126 rfl
      obtain rfl : x126 = (.bool true) := j126
      obtain ⟨x135, s135, j135⟩ := hpre 12 (by kernel_rfl) 135 rfl
      obtain rfl : x135 = (.pointer (some ⟨b20, off20 + i * 4, none⟩)) := j135
      clear hold hpre
      rw [if_pos (by simp [Region.wanted, yielded, s126])]
      have cc0 := eI.cell r0
      have cc1 := eI.cell r1
      have cc2 := eI.cell r2
      have cc3 := eI.cell r3
      have cc4 := eI.cell u0
      have cc5 := eI.cell u1
      have cc6 := eI.cell u2
      have cc7 := eI.cell u3
      have cc8 := eI.cell p0
      have cc9 := eI.cell p1
      have cc10 := eI.cell p2
      have cc11 := eI.cell p3
      have cc12 := eI.cell q0
      have cc13 := eI.cell q1
      have cc14 := eI.cell q2
      have cc15 := eI.cell q3
      go_simp
      exact hK.out _ _ (Ext.refl _) ((RatV.mk hb20 g20 g21).ext eI)
     ·clear hl
      refine stp rfl ?_
      intro ac wi eI hold hpre K hK
      obtain ⟨x126, s126, j126⟩ := hpre 3 (by kernel_rfl) 126 rfl
      obtain rfl : x126 = (.bool true) := j126
      obtain ⟨x132, s132, j132⟩ := hpre 9 (by kernel_rfl) 132 rfl
      replace j132 : Mn.p (Mn.rat N (q * RD i)) x132 wi := j132
      obtain ⟨x136, s136, j136⟩ := hpre 13 (by kernel_rfl) 136 rfl
      replace j136 : Mn.p (Mn.rat N (VV i)) x136 wi := j136
      clear hold hpre
      rw [if_pos (by simp [Region.wanted, yielded, s126])]
      go_simp
      refine (r2_same j132 j136 HMZ.out HMV.out).mono ?_
      rintro e wj ⟨rfl, ej⟩
      go_wp2_with fail
      exact hK.out _ _ ej rfl
     ·clear hl
      refine stp rfl ?_
      intro ac wi eI hold hpre K hK
      obtain ⟨x126, s126, j126⟩ := hpre 3 (by kernel_rfl) 126 rfl
      obtain rfl : x126 = (.bool true) := j126
      obtain ⟨x137, s137, j137⟩ := hpre 14 (by kernel_rfl) 137 rfl
      obtain rfl : x137 = (.bool true) := j137
      clear hold hpre
      go_simp
      exact hK.out _ _ (Ext.refl _) rfl
     ·clear hl
      refine stp rfl ?_
      intro ac wi eI hold hpre K hK
      obtain ⟨x138, s138, j138⟩ := hpre 15 (by kernel_rfl) 138 rfl
      obtain rfl : x138 = (.bool true) := j138
      clear hold hpre
      go_simp
      exact hK.out _ _ (Ext.refl _) rfl
    intro vals wz eZ hJ
    have J123 : Mn.p (Mn.rat N q) (vals 0) wz := hJ 0 (by decide) (by decide)
    have J124 : Mn.p (Mn.rat N q) (vals 1) wz := hJ 1 (by decide) (by decide)
    have J125 : Mn.p (Mn.eq (.bool true)) (vals 2) wz := hJ 2 (by decide) (by decide)
    have J126 : Mn.p (Mn.eq (.bool true)) (vals 3) wz := hJ 3 (by decide) (by decide)
    have J127 : Mn.p (Mn.rat N q) (vals 4) wz := hJ 4 (by decide) (by decide)
    have J128 : Mn.p (Mn.eq (.slice (some ⟨b21, off21, none⟩) m c21)) (vals 5) wz := hJ 5 (by decide) (by decide)
    have J129 : Mn.p (Mn.eq (.int .i64 (i : Int))) (vals 6) wz := hJ 6 (by decide) (by decide)
    have J130 : Mn.p (Mn.eq (.pointer (some ⟨b21, off21 + i * 4, none⟩))) (vals 7) wz := hJ 7 (by decide) (by decide)
    have J131 : Mn.p (Mn.rat N (RD i)) (vals 8) wz := hJ 8 (by decide) (by decide)
    have J132 : Mn.p (Mn.rat N (q * RD i)) (vals 9) wz := hJ 9 (by decide) (by decide)
    have J133 : Mn.p (Mn.eq (.slice (some ⟨b20, off20, none⟩) m c20)) (vals 10) wz := hJ 10 (by decide) (by decide)
    have J134 : Mn.p (Mn.eq (.int .i64 (i : Int))) (vals 11) wz := hJ 11 (by decide) (by decide)
    have J135 : Mn.p (Mn.eq (.pointer (some ⟨b20, off20 + i * 4, none⟩))) (vals 12) wz := hJ 12 (by decide) (by decide)
    have J136 : Mn.p (Mn.rat N (VV i)) (vals 13) wz := hJ 13 (by decide) (by decide)
    have J137 : Mn.p (Mn.eq (.bool true)) (vals 14) wz := hJ 14 (by decide) (by decide)
    have J138 : Mn.p (Mn.eq (.bool true)) (vals 15) wz := hJ 15 (by decide) (by decide)
    have J4 : Mn.p (Mn.eq (.bool true)) (vals 16) wz := hJ 16 (by decide) (by decide)
    clear hJ
    simp only [putAll, if_true, Bool.false_eq_true, if_false, Act.put, Nat.zero_add, Nat.reduceAdd, List.setIfInBounds_toArray, List.set_cons_zero, List.set_cons_succ]
    generalize vals 0 = z123 at J123 ⊢
    generalize vals 1 = z124 at J124 ⊢
    generalize vals 2 = z125 at J125 ⊢
    obtain rfl : z125 = (.bool true) := J125
    generalize vals 3 = z126 at J126 ⊢
    obtain rfl : z126 = (.bool true) := J126
    generalize vals 4 = z127 at J127 ⊢
    generalize vals 5 = z128 at J128 ⊢
    obtain rfl : z128 = (.slice (some ⟨b21, off21, none⟩) m c21) := J128
    generalize vals 6 = z129 at J129 ⊢
    obtain rfl : z129 = (.int .i64 (i : Int)) := J129
    generalize vals 7 = z130 at J130 ⊢
    obtain rfl : z130 = (.pointer (some ⟨b21, off21 + i * 4, none⟩)) := J130
    generalize vals 8 = z131 at J131 ⊢
    generalize vals 9 = z132 at J132 ⊢
    generalize vals 10 = z133 at J133 ⊢
    obtain rfl : z133 = (.slice (some ⟨b20, off20, none⟩) m c20) := J133
    generalize vals 11 = z134 at J134 ⊢
    obtain rfl : z134 = (.int .i64 (i : Int)) := J134
    generalize vals 12 = z135 at J135 ⊢
    obtain rfl : z135 = (.pointer (some ⟨b20, off20 + i * 4, none⟩)) := J135
    generalize vals 13 = z136 at J136 ⊢
    generalize vals 14 = z137 at J137 ⊢
    obtain rfl : z137 = (.bool true) := J137
    generalize vals 15 = z138 at J138 ⊢
    obtain rfl : z138 = (.bool true) := J138
    generalize vals 16 = z4 at J4 ⊢
    obtain rfl : z4 = (.bool true) := J4
    refine stepL_done (by kernel_rfl) ?_ _
    go_wp2
    go_ret
    exact ⟨rfl, hE.trans eZ⟩
end Go.Proofs.YtghpfnhmlpfgcaaGreat
