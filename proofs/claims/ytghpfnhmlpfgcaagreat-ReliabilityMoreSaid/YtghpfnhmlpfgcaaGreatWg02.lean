import Derived.Test.YtghpfnhmlpfgcaaGreatWb01
import Derived.Test.YtghpfnhmlpfgcaaGreatWb02
import Derived.Test.YtghpfnhmlpfgcaaGreatWb03
import Derived.Test.YtghpfnhmlpfgcaaGreatWb04
import Derived.Test.YtghpfnhmlpfgcaaGreatWb05
import Derived.Test.YtghpfnhmlpfgcaaGreatWb06
import Derived.Test.YtghpfnhmlpfgcaaGreatWb07
import Derived.Test.YtghpfnhmlpfgcaaGreatWb08
import Derived.Test.YtghpfnhmlpfgcaaGreatWb09
import Derived.Test.YtghpfnhmlpfgcaaGreatWb10
import Derived.Test.YtghpfnhmlpfgcaaGreatWb11
import Derived.Test.YtghpfnhmlpfgcaaGreatWb12
import Derived.Test.YtghpfnhmlpfgcaaGreatWb13
import Derived.Test.YtghpfnhmlpfgcaaGreatWb14
import Derived.Test.YtghpfnhmlpfgcaaGreatWb15
import Derived.Test.YtghpfnhmlpfgcaaGreatWb16
import Derived.Test.YtghpfnhmlpfgcaaGreatWb17
import Derived.Test.YtghpfnhmlpfgcaaGreatWb18
import Derived.Test.YtghpfnhmlpfgcaaGreatWb19
import Derived.Test.YtghpfnhmlpfgcaaGreatWb21
import Derived.Test.YtghpfnhmlpfgcaaGreatWb22
import Derived.Test.YtghpfnhmlpfgcaaGreatWb23
import Derived.Test.YtghpfnhmlpfgcaaGreatWb24
import Derived.Test.YtghpfnhmlpfgcaaGreatWb25
import Derived.Test.YtghpfnhmlpfgcaaGreatWb26
import Derived.Test.YtghpfnhmlpfgcaaGreatWb28
import Derived.Test.YtghpfnhmlpfgcaaGreatWb29
import Derived.Test.YtghpfnhmlpfgcaaGreatWb30
import Derived.Test.YtghpfnhmlpfgcaaGreatWb31
import Derived.Test.YtghpfnhmlpfgcaaGreatWb32
import Derived.Test.YtghpfnhmlpfgcaaGreatWb33
import Derived.Test.YtghpfnhmlpfgcaaGreatWb34
import Derived.Test.YtghpfnhmlpfgcaaGreatWb35
import Derived.Test.YtghpfnhmlpfgcaaGreatWb36
import Derived.Test.YtghpfnhmlpfgcaaGreatWb37
import Derived.Test.YtghpfnhmlpfgcaaGreatWb38
import Derived.Test.YtghpfnhmlpfgcaaGreatWb39
import Derived.Test.YtghpfnhmlpfgcaaGreatWb40
import Derived.Test.YtghpfnhmlpfgcaaGreatWb41
import Derived.Test.YtghpfnhmlpfgcaaGreatWb42
import Derived.Test.YtghpfnhmlpfgcaaGreatWg01
set_option linter.all false
namespace Go.Proofs.YtghpfnhmlpfgcaaGreat
open Go.RowKit
set_option maxRecDepth 100000 in
set_option maxHeartbeats 8000000 in
theorem mo_good {N lo hi lo' hi' : Nat} {w : World} {A1 A2 A3 A4 : Option Addr} {c1 c2 c3 c4 m n : Nat} {X : Nat → Nat → Rat} {y p cc : Nat → Rat} {Z : Lin} {R : Nat → Raw}
  (hI : LinV N lo hi w (.agg #[.slice A1 m c1, .slice A2 m c2, .slice A3 m c3]) Z) (hX : LsR N lo' hi' w (.slice A4 n c4) n R) (hs : fewB Z = true) (hs' : shortB n R = true) (hc : codeOf Z = 0) (hok : allB n (fun i => okR (R i)) = true)
  (h1 : MtV N lo hi w (.slice A1 m c1) m n X) (h2 : LsV N lo hi w (.slice A2 m c2) m y) (h3 : LsV N lo hi w (.slice A3 m c3) m p) (h4 : LsV N lo' hi' w (.slice A4 n c4) n cc) (hm0 : 2 ≤ m) (hm : m ≤ 6) (hn0 : 0 < n) (hn : n ≤ 4) (hpos : ∀ i, i < m → 0 < p i)
  (hkx : HtM m n 17 X) (hky : HtL m 17 y) (hkp : HtL m 17 p) (hkc : HtL n 17 cc) :
  Calls Tryz.prog 8 #[.agg #[.slice A1 m c1, .slice A2 m c2, .slice A3 m c3], .slice A4 n c4] w (RetV w (.bool true)) := by
 obtain ⟨f1, f2, f3⟩ := few_sz hs
 have HS := Lib.hid hs
 have HS' := Lib.hid hs'
 have HC := Lib.hid hc
 have HOK := Lib.hid hok
 have HF2 := Lib.hid f2
 have HF3 := Lib.hid f3
 have HF1 := Lib.hid f1
 have HSR : Hid (∀ i, i < n → RawSz (R i)) := fun i hi => (brief_raw ((short_all hs').2 i hi)).1
 have HX := Lib.hid hkx
 have HY := Lib.hid hky
 have HP := Lib.hid hkp
 have HCC := Lib.hid hkc
 have HPOS := Lib.hid hpos
 have hN := h1.le
 obtain ⟨mm, hmm⟩ : ∃ mm, mm = m - 1 := ⟨_, rfl⟩
 have hmm1 : mm + 1 = m := by omega
 have HPP : Hid (∀ i, i < mm → 0 < p (skip mm i)) := fun i hi => by unfold skip; rw [if_pos (by omega)]; exact hpos i (by omega)
 have HXX : Hid (HtM mm n 17 (fun j => X (skip mm j))) := fun i hi => by
  have : skip mm i < m := by unfold skip; rw [if_pos (by omega)]; omega
  exact hkx _ this
 have HYY : Hid (HtL mm 17 (fun j => y (skip mm j))) := fun i hi => by
  have : skip mm i < m := by unfold skip; rw [if_pos (by omega)]; omega
  exact hky _ this
 have HPH : Hid (HtL mm 17 (fun j => p (skip mm j))) := fun i hi => by
  have : skip mm i < m := by unfold skip; rw [if_pos (by omega)]; omega
  exact hkp _ this
 have HMO : Hid (estB mm n (fun j => X (skip mm j)) cc = true → estB m n X cc = true ∧ cof X (invM (rref m X n).2.length (nmat (bas X (rref m X n).2) p m)) (rref m X n).2 cc ≤ cof (fun j => X (skip mm j)) (invM (rref mm (fun j => X (skip mm j)) n).2.length (nmat (bas (fun j => X (skip mm j)) (rref mm (fun j => X (skip mm j)) n).2) (fun j => p (skip mm j)) mm)) (rref mm (fun j => X (skip mm j)) n).2 cc) := fun h9 => by
  have h8 := cof_more2 (m := mm) (n := n) (X := X) (Y := fun j => X (skip mm j)) (p := p) (q := fun j => p (skip mm j)) (c := cc) (by rw [hmm1]; exact hpos) (fun i hi a _ => by show X (skip mm i) a = X i a; unfold skip; rw [if_pos hi]) (fun i hi => by show p (skip mm i) = p i; unfold skip; rw [if_pos hi]) h9
  rw [hmm1] at h8
  exact h8
 obtain ⟨b1, hb1⟩ := hid_eq (estB mm n (fun j => X (skip mm j)) cc)
 obtain ⟨b2, hb2⟩ := hid_eq (estB m n X cc)
 obtain ⟨q1, hq1⟩ := hid_eq (cof X (invM (rref m X n).2.length (nmat (bas X (rref m X n).2) p m)) (rref m X n).2 cc)
 obtain ⟨q2, hq2⟩ := hid_eq (cof (fun j => X (skip mm j)) (invM (rref mm (fun j => X (skip mm j)) n).2.length (nmat (bas (fun j => X (skip mm j)) (rref mm (fun j => X (skip mm j)) n).2) (fun j => p (skip mm j)) mm)) (rref mm (fun j => X (skip mm j)) n).2 cc)
 rw [← hb1.out, ← hb2.out, ← hq1.out, ← hq2.out] at HMO
 have hcm4 : c4 ≤ 9223372036854775807 := by obtain ⟨_, _, e9, -, h9⟩ := h4.form; injection e9 with _ _ e9; subst e9; unfold maxLen at h9; exact h9
 have hcm1 : c1 ≤ 9223372036854775807 := by obtain ⟨_, _, e9, -, h9⟩ := h1.form; injection e9 with _ _ e9; subst e9; unfold maxLen at h9; exact h9
 obtain ⟨b, off, rfl, -, -, hx⟩ := h1.addr (by omega)
 obtain ⟨Ab, cb, pp0, -, hcb, -⟩ := hx 0 (by omega)
 rw [Nat.add_zero] at pp0
 unfold maxLen at hcb
 have hmi : ((m : Int) - 1) = (mm : Int) := by omega
 have HMI := Lib.hid hmi
 have HMM := Lib.hid hmm
 clear hx hs hs' hc hok f1 f2 f3 hkx hky hkp hkc hpos hmi hmm1
 have hmmb : 1 ≤ mm ∧ mm ≤ 5 := by omega
 obtain ⟨hmm2, hmm3⟩ := hmmb
 have hmlt : mm < m := by omega
 clear hmm
 go_enter Tryz.func8, Tryz.ntmps8
 go_wp2_with (go_at_call 9; refine Hid.out ?_)
 refine boxesC1 ?_
 intro W hE hsz B0
 refine (l37_known W).mono ?_
 rintro e w1 ⟨rfl, e1⟩
 replace hE := hE.trans e1
 replace B0 := e1.block B0
 have hs1 := e1.size
 replace hsz : w.heap.size < w1.heap.size := by omega
 clear e1 hs1
 obtain ⟨a0, a1, a2, -⟩ := cells3 B0
 go_wp2_with (go_at_call 10; refine Hid.out ?_)
 refine (l37_few (hI.ext hE)).mono ?_
 rintro e w2 ⟨rfl, e2⟩
 rw [HS.out]
 replace hE := hE.trans e2
 replace B0 := e2.block B0
 replace hsz := blk_lt B0
 clear a0 a1 a2
 obtain ⟨a0, a1, a2, -⟩ := cells3 B0
 clear e2
 go_wp2_with (go_at_call 11; refine Hid.out ?_)
 refine (l37_short (hX.ext hE)).mono ?_
 rintro e w3 ⟨rfl, e3⟩
 rw [HS'.out]
 replace hE := hE.trans e3
 replace B0 := e3.block B0
 replace hsz := blk_lt B0
 clear a0 a1 a2
 obtain ⟨a0, a1, a2, -⟩ := cells3 B0
 clear e3
 go_wp2_with (go_at_call 14; refine Hid.out ?_)
 refine (l37_code (hI.ext hE) HF2.out HF3.out HF1.out).mono ?_
 rintro e w4 ⟨rfl, e4⟩
 rw [HC.out]
 replace hE := hE.trans e4
 replace B0 := e4.block B0
 replace hsz := blk_lt B0
 clear a0 a1 a2
 obtain ⟨a0, a1, a2, -⟩ := cells3 B0
 clear e4
 go_wp2_with (go_at_call 20; refine Hid.out ?_)
 refine (r2_validList (hX.ext hE) HSR.out).mono ?_
 rintro e w5 ⟨rfl, e5⟩
 rw [HOK.out]
 replace hE := hE.trans e5
 replace B0 := e5.block B0
 replace hsz := blk_lt B0
 clear a0 a1 a2
 obtain ⟨a0, a1, a2, -⟩ := cells3 B0
 clear e5
 have p0 := hE.cell pp0
 have hnn : ((n : Int) != (n : Int)) = false := by simp
 have hmi := HMI.out
 go_wp2_with (go_at_call 30; refine Hid.out ?_)
 refine (l37_without (h1.ext hE) (h2.ext hE) (h3.ext hE) (by omega) hn0 (by omega) hmlt).mono ?_
 rw [← HMM.out]
 rintro e w6 ⟨B1, d1, B2, d2, B3, d3, rfl, y1, y2, y3, e6⟩
 replace hE := hE.trans e6
 replace B0 := e6.block B0
 replace hsz := blk_lt B0
 clear a0 a1 a2
 obtain ⟨a0, a1, a2, -⟩ := cells3 B0
 clear p0 hnn hmi e6
 go_wp2_with (go_at_call 49; refine Hid.out ?_)
 refine (rl_Function y1 y2 y3 (h4.ext hE) hmm2 (by omega) hn0 hn HPP.out HXX.out HYY.out HPH.out HCC.out).mono ?_
 rw [← hb1.out, ← hq2.out]
 rintro e w7 ⟨e7, hh⟩
 replace hE := hE.trans e7
 replace B0 := e7.block B0
 replace hsz := blk_lt B0
 clear a0 a1 a2
 obtain ⟨a0, a1, a2, -⟩ := cells3 B0
 clear e7 y1 y2 y3
 rcases hh with ⟨hk1, rfl⟩ | ⟨hk1, u1, u2, qq, rfl, hu1, hu2, hq2h⟩
 ·unfold nilRat
  go_upto_region 6 with (fail)
  refine boxes2 ?_
  intro w8 e8 hsz8 B8 B9
  replace hE := hE.trans e8
  replace B0 := e8.block B0
  replace hsz := blk_lt B0
  clear a0 a1 a2
  obtain ⟨a0, a1, a2, -⟩ := cells3 B0
  clear e8 B8 B9
  go_wp2_with (go_at_call 49; refine Hid.out ?_)
  refine (rl_Function (h1.ext hE) (h2.ext hE) (h3.ext hE) (h4.ext hE) (by omega) hm hn0 hn HPOS.out HX.out HY.out HP.out HCC.out).mono ?_
  rintro e w9 ⟨e9, hh⟩
  rcases hh with ⟨-, rfl⟩ | ⟨-, v1, v2, qz, rfl, hv1, hv2, -⟩
  ·unfold nilRat
   go_wp2
   go_ret
   exact ⟨rfl, (hE.trans e9).trans (((Ext.refl _).alloc _).alloc _)⟩
  ·obtain ⟨n7, A7, k7, c7, A8, k8, c8, rfl, -, -, -⟩ := hv1.parts
   obtain ⟨n8, A9, k9, c9, A10, k10, c10, rfl, -, -, -⟩ := hv2.parts
   go_wp2
   go_ret
   exact ⟨rfl, (hE.trans e9).trans (((Ext.refl _).alloc _).alloc _)⟩
 ·obtain ⟨n7, A7, k7, c7, A8, k8, c8, rfl, -, -, -⟩ := hu1.parts
  obtain ⟨n8, A9, k9, c9, A10, k10, c10, rfl, hb8, g8, g9⟩ := hu2.parts
  obtain ⟨hk2, hle⟩ := HMO.out hk1
  go_upto_region 6 with (fail)
  refine boxes2 ?_
  intro w8 e8 hsz8 B8 B9
  have hBP : BoxR N w8 (w7.heap.size + 1) q2 := BoxR.mk B9 hb8 (g8.ext e8) (g9.ext e8)
  obtain ⟨gP, hgP⟩ : ∃ gP, gP = w7.heap.size + 1 := ⟨_, rfl⟩
  rw [← hgP] at hBP ⊢
  replace hE := hE.trans e8
  replace B0 := e8.block B0
  replace hsz := blk_lt B0
  clear a0 a1 a2
  obtain ⟨a0, a1, a2, -⟩ := cells3 B0
  clear hgP e8 B8 B9 g8 g9 hb8 hu1 hu2 hsz8
  go_wp2_with (go_at_call 49; refine Hid.out ?_)
  refine (rl_Function (h1.ext hE) (h2.ext hE) (h3.ext hE) (h4.ext hE) (by omega) hm hn0 hn HPOS.out HX.out HY.out HP.out HCC.out).mono ?_
  rw [← hb2.out, ← hq1.out]
  rintro e w9 ⟨e9, hh⟩
  rcases hh with ⟨hk3, -⟩ | ⟨-, v1, v2, qz, rfl, hv1, hv2, hq1h⟩
  ·rw [hk2] at hk3; cases hk3
  obtain ⟨n17, A17, k17, c17, A18, k18, c18, rfl, -, -, -⟩ := hv1.parts
  obtain ⟨n18, A19, k19, c19, A20, k20, c20, rfl, hb18, g18, g19⟩ := hv2.parts
  replace hBP := hBP.ext e9
  replace hE := hE.trans e9
  replace B0 := e9.block B0
  replace hsz := blk_lt B0
  clear a0 a1 a2
  obtain ⟨a0, a1, a2, -⟩ := cells3 B0
  clear e9
  go_upto_region 7 with (fail)
  refine boxes2 ?_
  intro w10 e10 hsz10 B10 B11
  have hBQ : BoxR N w10 (w9.heap.size + 1) q1 := BoxR.mk B11 hb18 (g18.ext e10) (g19.ext e10)
  obtain ⟨gQ, hgQ⟩ : ∃ gQ, gQ = w9.heap.size + 1 := ⟨_, rfl⟩
  rw [← hgQ] at hBQ ⊢
  replace hBP := hBP.ext e10
  replace hE := hE.trans e10
  replace B0 := e10.block B0
  replace hsz := blk_lt B0
  clear a0 a1 a2
  obtain ⟨a0, a1, a2, -⟩ := cells3 B0
  clear hgQ e10 B10 B11 g18 g19 hb18 hv1 hv2 hsz10 a0 a1 a2
  obtain ⟨s1, S1, S2, S3, S4, S5, S6, r0, r1, r2, r3, -, -, -, -, hRP, -⟩ := hBP.open
  obtain ⟨t1, T1, T2, T3, T4, T5, T6, x0, x1, x2, x3, -, -, -, -, hRQ, -⟩ := hBQ.open
  have HZ1 : Hid (Sz q1) := hq1h.sz (by omega)
  have HZ2 : Hid (Sz q2) := hq2h.sz (by omega)
  have HZD : Hid (Sz (q1 - q2)) := (hq1h.sub hq2h).sz (by omega)
  obtain ⟨sg, hsg⟩ := hid_eq (q1 - q2).num.sign
  have hsg1 : sg ≤ 0 := by
   rw [hsg.out]
   exact Int.not_lt.1 (sign_nonpos (by grind))
  clear hle hk1 hk2
  go_wp2_with (go_at_call 50; refine Hid.out ?_)
  refine (r2_valid hRP HZ2.out.raw.1 HZ2.out.raw.2).mono ?_
  rintro e w11 ⟨rfl, e11⟩
  rw [okR_raw]
  replace hRP := hRP.ext e11
  replace hRQ := hRQ.ext e11
  replace r0 := e11.cell r0
  replace r1 := e11.cell r1
  replace r2 := e11.cell r2
  replace r3 := e11.cell r3
  replace x0 := e11.cell x0
  replace x1 := e11.cell x1
  replace x2 := e11.cell x2
  replace x3 := e11.cell x3
  go_wp2_with (go_at_call 50; refine Hid.out ?_)
  refine (r2_valid hRQ HZ1.out.raw.1 HZ1.out.raw.2).mono ?_
  rintro e w12 ⟨rfl, e12⟩
  rw [okR_raw]
  replace hRP := hRP.ext e12
  replace hRQ := hRQ.ext e12
  replace r0 := e12.cell r0
  replace r1 := e12.cell r1
  replace r2 := e12.cell r2
  replace r3 := e12.cell r3
  replace x0 := e12.cell x0
  replace x1 := e12.cell x1
  replace x2 := e12.cell x2
  replace x3 := e12.cell x3
  go_wp2_with (go_at_call 21; refine Hid.out ?_)
  refine (r2_compare hRQ hRP HZ1.out HZ2.out HZD.out).mono ?_
  rintro e w13 ⟨rfl, e13⟩
  rw [← hsg.out]
  have hd : decide (sg ≤ 0) = true := decide_eq_true hsg1
  clear r0 r1 r2 r3 x0 x1 x2 x3
  go_wp2
  go_ret
  exact ⟨rfl, ((hE.trans e11).trans e12).trans e13⟩
end Go.Proofs.YtghpfnhmlpfgcaaGreat
