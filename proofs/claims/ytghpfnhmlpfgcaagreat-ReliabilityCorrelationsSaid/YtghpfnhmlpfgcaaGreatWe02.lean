import Derived.Test.YtghpfnhmlpfgcaaGreatWb01
import Derived.Test.YtghpfnhmlpfgcaaGreatWb02
import Derived.Test.YtghpfnhmlpfgcaaGreatWb03
import Derived.Test.YtghpfnhmlpfgcaaGreatWb04
import Derived.Test.YtghpfnhmlpfgcaaGreatWb05
import Derived.Test.YtghpfnhmlpfgcaaGreatWb06
import Derived.Test.YtghpfnhmlpfgcaaGreatWb07
import Derived.Test.YtghpfnhmlpfgcaaGreatWb08
import Derived.Test.YtghpfnhmlpfgcaaGreatWb09
import Derived.Test.YtghpfnhmlpfgcaaGreatWb10
import Derived.Test.YtghpfnhmlpfgcaaGreatWb11
import Derived.Test.YtghpfnhmlpfgcaaGreatWb12
import Derived.Test.YtghpfnhmlpfgcaaGreatWb13
import Derived.Test.YtghpfnhmlpfgcaaGreatWb14
import Derived.Test.YtghpfnhmlpfgcaaGreatWb15
import Derived.Test.YtghpfnhmlpfgcaaGreatWb16
import Derived.Test.YtghpfnhmlpfgcaaGreatWb17
import Derived.Test.YtghpfnhmlpfgcaaGreatWb18
import Derived.Test.YtghpfnhmlpfgcaaGreatWb19
import Derived.Test.YtghpfnhmlpfgcaaGreatWb20
import Derived.Test.YtghpfnhmlpfgcaaGreatWb21
import Derived.Test.YtghpfnhmlpfgcaaGreatWb22
import Derived.Test.YtghpfnhmlpfgcaaGreatWb23
import Derived.Test.YtghpfnhmlpfgcaaGreatWb24
import Derived.Test.YtghpfnhmlpfgcaaGreatWb25
import Derived.Test.YtghpfnhmlpfgcaaGreatWb26
import Derived.Test.YtghpfnhmlpfgcaaGreatWb27
import Derived.Test.YtghpfnhmlpfgcaaGreatWb28
import Derived.Test.YtghpfnhmlpfgcaaGreatWb29
import Derived.Test.YtghpfnhmlpfgcaaGreatWb30
import Derived.Test.YtghpfnhmlpfgcaaGreatWb31
import Derived.Test.YtghpfnhmlpfgcaaGreatWb32
import Derived.Test.YtghpfnhmlpfgcaaGreatWb33
import Derived.Test.YtghpfnhmlpfgcaaGreatWb34
import Derived.Test.YtghpfnhmlpfgcaaGreatWb35
import Derived.Test.YtghpfnhmlpfgcaaGreatWb36
import Derived.Test.YtghpfnhmlpfgcaaGreatWb37
import Derived.Test.YtghpfnhmlpfgcaaGreatWb38
import Derived.Test.YtghpfnhmlpfgcaaGreatWb39
import Derived.Test.YtghpfnhmlpfgcaaGreatWb40
import Derived.Test.YtghpfnhmlpfgcaaGreatWb41
import Derived.Test.YtghpfnhmlpfgcaaGreatWb42
import Derived.Test.YtghpfnhmlpfgcaaGreatWe01
import Derived.WalkKit
import Derived.WalkSpells
import Derived.WalkLawsBesides
import Derived.Lib.Hide
import Derived.Deep.RegionHeld3
import Derived.Deep.QuietTactic
import Derived.BigQuiet
import Derived.Maps.AppendAt
import Derived.Deep.DeepCutAuto
import Derived.Deep.RegionWith
import Derived.Deep.DeepMust
set_option linter.all false
namespace Go.Proofs.YtghpfnhmlpfgcaaGreat
open Go.RowKit
set_option maxRecDepth 100000 in
set_option maxHeartbeats 8000000 in
theorem co_good {N lo hi : Nat} {w : World} {A1 A2 A3 : Option Addr} {c1 c2 c3 m n : Nat} {X : Nat → Nat → Rat} {y p : Nat → Rat} {Z : Lin} {i j : Nat}
  (hI : LinV N lo hi w (.agg #[.slice A1 m c1, .slice A2 m c2, .slice A3 m c3]) Z) (hs : fewB Z = true) (hc : codeOf Z = 0)
  (h1 : MtV N lo hi w (.slice A1 m c1) m n X) (h2 : LsV N lo hi w (.slice A2 m c2) m y) (h3 : LsV N lo hi w (.slice A3 m c3) m p) (hm0 : 0 < m) (hm : m ≤ 6) (hn0 : 0 < n) (hn : n ≤ 4) (hpos : ∀ i, i < m → 0 < p i)
  (hkx : HtM m n 17 X) (hky : HtL m 17 y) (hkp : HtL m 17 p) (hi' : i < m) (hj' : j < m) (hzi : redOf m n X p i ≠ 0) (hzj : redOf m n X p j ≠ 0) :
  Calls Tryz.prog 6 #[.agg #[.slice A1 m c1, .slice A2 m c2, .slice A3 m c3], .int .i64 (i : Int), .int .i64 (j : Int)] w (RetV w (.bool true)) := by
 have HZI := Lib.hid hzi
 have HZJ := Lib.hid hzj
 have hfh := few_fit_ht hm hn hkx hkp
 have HQL : Hid (corOf m n X p i j ≤ 1) := cor_le hpos hi' hj' hzi hzj
 have HQS : Hid (i = j → corOf m n X p i j = 1) := fun e => by subst e; exact cor_self hpos hi' hzi
 have HPR : Hid (cqOf m n X p i i * cqOf m n X p j j ≠ 0) := cq_prod hpos hi' hj' hzi hzj
 have HCH : Hid (∀ i, i < m → ∀ j, j < m → Ht 5000100 (cqOf m n X p i j)) := fun i hi j hj => by
  unfold cqOf
  split
  ·exact ((hfh i hi j hj).neg.add ((Ht.one : Ht 1 ((1 : Int) : Rat)).div (hkp i hi))).mono (by omega)
  ·exact (hfh i hi j hj).neg.mono (by omega)
 have HQQ : Hid (∀ a b, b < m → (if a = b then - (fitsOf m n X p a b * p b) + ((1 : Int) : Rat) else - (fitsOf m n X p a b * p b)) / p b = cqOf m n X p a b) := fun a b hb => qq_cq hpos hb
 have HHT : Hid (∀ a, a < m → ∀ b, b < m → Ht 5000017 (fitsOf m n X p a b * p b) ∧ Ht 5000017 (p b) ∧ p b ≠ 0) := fun a ha b hb => ⟨((hfh a ha b hb).mul (hkp b hb)).mono (by omega), (hkp b hb).mono (by omega), fun e => absurd (hpos b hb) (by rw [e]; decide)⟩
 obtain ⟨CQ, hCQ⟩ := hid_eq (cqOf m n X p)
 obtain ⟨HH, hHH⟩ := hid_eq (fun i k => fitsOf m n X p i k * p k)
 have HQ9 : Hid (corOf m n X p i j = CQ i j * CQ i j / (CQ i i * CQ j j)) := by rw [Hid, hCQ.out]; rfl
 obtain ⟨q, hq⟩ := hid_eq (corOf m n X p i j)
 rw [← hq.out] at HQL HQS HQ9
 rw [← hCQ.out] at HCH HPR HQQ
 replace HQQ : Hid (∀ a b, b < m → (if a = b then - (HH a b) + ((1 : Int) : Rat) else - (HH a b)) / p b = CQ a b) := by rw [hHH.out]; exact HQQ
 replace HHT : Hid (∀ a, a < m → ∀ b, b < m → Ht 5000017 (HH a b) ∧ Ht 5000017 (p b) ∧ p b ≠ 0) := by rw [hHH.out]; exact HHT
 have HQH : Hid (Ht 20000400 q) := by
  rw [Hid, HQ9.out]
  exact (((HCH.out i hi' j hj').mul (HCH.out i hi' j hj')).div ((HCH.out i hi' i hi').mul (HCH.out j hj' j hj'))).mono (by omega)
 have HQZ : Hid (Sz q) := HQH.out.sz (by omega)
 have HQD : Hid (Sz (q - ((1 : Int) : Rat))) := (HQH.out.sub (Ht.one : Ht 1 ((1 : Int) : Rat))).sz (by omega)
 obtain ⟨sg, hsg⟩ := hid_eq (q - ((1 : Int) : Rat)).num.sign
 have hsg1 : sg ≤ 0 := by
  rw [hsg.out]
  exact Int.not_lt.1 (sign_nonpos (by have h9 := HQL.out; have h8 : ((1 : Int) : Rat) = 1 := rfl; rw [h8]; grind))
 obtain ⟨RD, hRD⟩ := hid_eq (redOf m n X p)
 have HSI : Hid (∀ i, i < m → Sz (RD i)) := fun i hi' => by
  rw [hRD.out]
  exact (Ht.sub (k := 1) Ht.one ((hfh i hi' i hi').mul (hkp i hi'))).sz (by omega)
 have HOB : Hid (outB m (i : Int) = false) := by
  rw [Hid]; unfold outB; rw [decide_eq_false (by omega), decide_eq_false (by omega)]; rfl
 have HOB2 : Hid (outB m (j : Int) = false) := by
  rw [Hid]; unfold outB; rw [decide_eq_false (by omega), decide_eq_false (by omega)]; rfl
 clear hzi hzj hfh
 obtain ⟨f1, f2, f3⟩ := few_sz hs
 have HS := Lib.hid hs
 have HC := Lib.hid hc
 have HF2 := Lib.hid f2
 have HF3 := Lib.hid f3
 have HF1 := Lib.hid f1
 have HX := Lib.hid hkx
 have HY := Lib.hid hky
 have HP := Lib.hid hkp
 have HPOS := Lib.hid hpos
 have hN := h1.le
 clear hs hc f1 f2 f3 hkx hky hkp hpos
 go_enter Tryz.func6, Tryz.ntmps6
 go_wp2_with (go_at_call 9; refine Hid.out ?_)
 refine boxesC1 ?_
 intro W hE hsz B0
 refine (l37_known W).mono ?_
 rintro e w1 ⟨rfl, e1⟩
 replace hE := hE.trans e1
 replace B0 := e1.block B0
 have hs1 := e1.size
 replace hsz : w.heap.size < w1.heap.size := by omega
 clear e1 hs1
 obtain ⟨a0, a1, a2, -⟩ := cells3 B0
 go_wp2_with (go_at_call 10; refine Hid.out ?_)
 refine (l37_few (hI.ext hE)).mono ?_
 rintro e w2 ⟨rfl, e2⟩
 rw [HS.out]
 replace hE := hE.trans e2
 replace B0 := e2.block B0
 have hs2 := e2.size
 replace hsz : w.heap.size < w2.heap.size := by omega
 clear a0 a1 a2 e2 hs2
 obtain ⟨a0, a1, a2, -⟩ := cells3 B0
 go_wp2_with (go_at_call 42; refine Hid.out ?_)
 refine (rl_Correlation (h1.ext hE) (h2.ext hE) (h3.ext hE) hm0 hm hn0 hn HPOS.out HX.out HY.out HP.out).mono ?_
 rintro e w4 ⟨e4, hh⟩
 replace hE := hE.trans e4
 replace B0 := e4.block B0
 replace hsz := blk_lt B0
 clear a0 a1 a2
 obtain ⟨a0, a1, a2, -⟩ := cells3 B0
 rcases hh with ⟨h0, -⟩ | ⟨-, -, h0, -⟩ | ⟨-, -, -, -, v6, rfl, h6⟩
 ·rw [HOB.out, HOB2.out] at h0; cases h0
 ·rw [Int.toNat_natCast, Int.toNat_natCast] at h0
  rcases h0 with h | h
  ·exact absurd h HZI.out
  ·exact absurd h HZJ.out
 ·rw [Int.toNat_natCast, Int.toNat_natCast, ← hq.out] at h6
  obtain ⟨b6, A6, k6, c6, A7, k7, c7, rfl, hb6, g6, g7⟩ := h6.parts
  go_upto_region 6 with (fail)
  refine boxes1 ?_
  intro w6 e6 hsz6 B6
  replace hE := hE.trans e6
  replace B0 := e6.block B0
  replace hsz := blk_lt B0
  clear a0 a1 a2
  obtain ⟨a0, a1, a2, -⟩ := cells3 B0
  go_wp2_with (go_at_call 14; refine Hid.out ?_)
  refine (l37_code (hI.ext hE) HF2.out HF3.out HF1.out).mono ?_
  rintro e w7 ⟨rfl, e7⟩
  rw [HC.out]
  have e67 := e6.trans e7
  replace B6 := e7.block B6
  replace hE := hE.trans e7
  replace B0 := e7.block B0
  replace hsz := blk_lt B0
  clear a0 a1 a2
  obtain ⟨a0, a1, a2, -⟩ := cells3 B0
  clear e7 e6 hsz6
  have hBA : BoxR N w7 w4.heap.size q := BoxR.mk B6 hb6 (g6.ext e67) (g7.ext e67)
  clear B6 h6 g6 g7 hb6 e67
  obtain ⟨gA, hgA⟩ : ∃ gA, gA = w4.heap.size := ⟨_, rfl⟩
  rw [← hgA] at hBA ⊢
  clear hgA
  go_wp2_with (go_at_call 27; refine Hid.out ?_)
  refine (l37_redundancy (h1.ext hE) (h2.ext hE) (h3.ext hE) hm0 hm hn0 hn HPOS.out HX.out HP.out).mono ?_
  rintro e w8 ⟨A8, c8, rfl, h8, e8⟩
  rw [← hRD.out] at h8
  replace hBA := hBA.ext e8
  replace hE := hE.trans e8
  replace B0 := e8.block B0
  replace hsz := blk_lt B0
  clear a0 a1 a2
  obtain ⟨a0, a1, a2, -⟩ := cells3 B0
  have h8' := h8
  obtain ⟨b, off, rfl, -, -, hx⟩ := LsV.addr h8 hm0
  obtain ⟨n1, A9, k9, c9, A10, k10, c10, p0, p1, p2, p3, hb1, g1, g2⟩ := (hx i hi').open
  clear hx h8
  obtain ⟨s1, hs1⟩ := hid_eq (RD i).num.sign
  have hs10 : (s1 == 0) = false := by
   rw [hs1.out, sign_zero]
   exact decide_eq_false (by rw [hRD.out]; exact HZI.out)
  go_wp2_with (go_at_call 28; refine Hid.out ?_)
  refine (r2_sign (RatV.mk hb1 g1 g2) (HSI.out i hi')).mono ?_
  rintro e w9 ⟨rfl, e9⟩
  rw [← hs1.out]
  replace hBA := hBA.ext e9
  clear p0 p1 p2 p3
  replace hE := hE.trans e9
  replace B0 := e9.block B0
  replace hsz := blk_lt B0
  clear a0 a1 a2
  obtain ⟨a0, a1, a2, -⟩ := cells3 B0
  replace h8' := h8'.ext e9
  obtain ⟨b', off', ea, -, -, hx⟩ := LsV.addr h8' hm0
  injection ea with ea
  injection ea with ea1 ea2
  subst ea1 ea2
  obtain ⟨n1', A9', k9', c9', A10', k10', c10', p0, p1, p2, p3, hb1', g1', g2'⟩ := (hx j hj').open
  obtain ⟨s2, hs2⟩ := hid_eq (RD j).num.sign
  have hs20 : (s2 == 0) = false := by
   rw [hs2.out, sign_zero]
   exact decide_eq_false (by rw [hRD.out]; exact HZJ.out)
  clear hx h8' g1 g2
  go_wp2_with (go_at_call 28; refine Hid.out ?_)
  refine (r2_sign (RatV.mk hb1' g1' g2') (HSI.out j hj')).mono ?_
  rintro e w10 ⟨rfl, e10⟩
  rw [← hs2.out]
  replace hBA := hBA.ext e10
  clear p0 p1 p2 p3 g1' g2'
  replace hE := hE.trans e10
  replace B0 := e10.block B0
  replace hsz := blk_lt B0
  clear a0 a1 a2
  obtain ⟨a0, a1, a2, -⟩ := cells3 B0
  go_wp2_with (go_at_call 43; refine Hid.out ?_)
  refine (l37_projector (h1.ext hE) (h2.ext hE) (h3.ext hE) hm0 hm hn0 hn HPOS.out HX.out HP.out).mono ?_
  rintro e w11 ⟨gh, ch, βh, κh, rfl, hch, hOw, e11⟩
  rw [← hHH.out] at hOw
  have hHm := hOw.mtv hOw.mle hch
  replace hBA := hBA.ext e11
  clear hOw
  replace hE := hE.trans e11
  replace B0 := e11.block B0
  replace hsz := blk_lt B0
  clear a0 a1 a2
  obtain ⟨a0, a1, a2, -⟩ := cells3 B0
  go_upto_region 16 with (fail)
  refine boxes1 ?_
  intro w12 e12 hsz12 B12
  replace hHm := hHm.ext e12
  replace hBA := hBA.ext e12
  replace hE := hE.trans e12
  replace B0 := e12.block B0
  replace hsz := blk_lt B0
  clear a0 a1 a2
  obtain ⟨a0, a1, a2, -⟩ := cells3 B0
  obtain ⟨gB, hgB⟩ : ∃ gB, gB = w11.heap.size := ⟨_, rfl⟩
  rw [← hgB] at B12 ⊢
  clear hgB e12 e11 e10 e9 e8 e4
  have b0 := (cells1 B12).1
  go_wp2_with (go_at_call 44; refine Hid.out ?_)
  refine (l37_cor1 b0 a2 hHm (h3.ext hE) hi' hj' (by omega) (HHT.out i hi' j hj').1 (HHT.out i hi' j hj').2.1 (by omega) (HHT.out i hi' j hj').2.2).mono ?_
  rw [HQQ.out i j hj']
  rintro e w13 ⟨v13, rfl, h13, e13⟩
  replace hHm := hHm.ext e13
  replace hBA := hBA.ext e13
  replace B12 := e13.block B12
  replace hE := hE.trans e13
  replace B0 := e13.block B0
  replace hsz := blk_lt B0
  clear a0 a1 a2
  obtain ⟨a0, a1, a2, -⟩ := cells3 B0
  clear b0
  have b0 := (cells1 B12).1
  go_wp2_with (go_at_call 44; refine Hid.out ?_)
  refine (l37_cor1 b0 a2 hHm (h3.ext hE) hi' hj' (by omega) (HHT.out i hi' j hj').1 (HHT.out i hi' j hj').2.1 (by omega) (HHT.out i hi' j hj').2.2).mono ?_
  rw [HQQ.out i j hj']
  rintro e w14 ⟨v14, rfl, h14, e14⟩
  replace h13 := h13.ext e14
  replace hHm := hHm.ext e14
  replace hBA := hBA.ext e14
  replace B12 := e14.block B12
  replace hE := hE.trans e14
  replace B0 := e14.block B0
  replace hsz := blk_lt B0
  clear a0 a1 a2
  obtain ⟨a0, a1, a2, -⟩ := cells3 B0
  clear b0
  go_wp2_with (go_at_call 36; refine Hid.out ?_)
  refine (r2_mul h13 h14 ((HCH.out i hi' j hj').sz (by omega)) ((HCH.out i hi' j hj').sz (by omega))).mono ?_
  rintro e w15 ⟨v15, rfl, h15, e15⟩
  replace hHm := hHm.ext e15
  replace hBA := hBA.ext e15
  replace B12 := e15.block B12
  replace hE := hE.trans e15
  replace B0 := e15.block B0
  replace hsz := blk_lt B0
  clear a0 a1 a2
  obtain ⟨a0, a1, a2, -⟩ := cells3 B0
  have b0 := (cells1 B12).1
  go_wp2_with (go_at_call 44; refine Hid.out ?_)
  refine (l37_cor1 b0 a2 hHm (h3.ext hE) hi' hi' (by omega) (HHT.out i hi' i hi').1 (HHT.out i hi' i hi').2.1 (by omega) (HHT.out i hi' i hi').2.2).mono ?_
  rw [HQQ.out i i hi']
  rintro e w16 ⟨v16, rfl, h16, e16⟩
  replace h15 := h15.ext e16
  replace hHm := hHm.ext e16
  replace hBA := hBA.ext e16
  replace B12 := e16.block B12
  replace hE := hE.trans e16
  replace B0 := e16.block B0
  replace hsz := blk_lt B0
  clear a0 a1 a2
  obtain ⟨a0, a1, a2, -⟩ := cells3 B0
  clear b0
  have b0 := (cells1 B12).1
  go_wp2_with (go_at_call 44; refine Hid.out ?_)
  refine (l37_cor1 b0 a2 hHm (h3.ext hE) hj' hj' (by omega) (HHT.out j hj' j hj').1 (HHT.out j hj' j hj').2.1 (by omega) (HHT.out j hj' j hj').2.2).mono ?_
  rw [HQQ.out j j hj']
  rintro e w17 ⟨v17, rfl, h17, e17⟩
  replace h15 := h15.ext e17
  replace h16 := h16.ext e17
  replace hBA := hBA.ext e17
  replace hE := hE.trans e17
  replace B0 := e17.block B0
  replace hsz := blk_lt B0
  clear a0 a1 a2
  obtain ⟨a0, a1, a2, -⟩ := cells3 B0
  clear b0 B12 hHm
  go_wp2_with (go_at_call 36; refine Hid.out ?_)
  refine (r2_mul h16 h17 ((HCH.out i hi' i hi').sz (by omega)) ((HCH.out j hj' j hj').sz (by omega))).mono ?_
  rintro e w18 ⟨v18, rfl, h18, e18⟩
  replace h15 := h15.ext e18
  replace hBA := hBA.ext e18
  replace hE := hE.trans e18
  replace B0 := e18.block B0
  replace hsz := blk_lt B0
  clear a0 a1 a2
  obtain ⟨a0, a1, a2, -⟩ := cells3 B0
  go_wp2_with (go_at_call 23; refine Hid.out ?_)
  refine (r2_divide h15 h18 (((HCH.out i hi' j hj').mul (HCH.out i hi' j hj')).sz (by omega)) (((HCH.out i hi' i hi').mul (HCH.out j hj' j hj')).sz (by omega)) HPR.out).mono ?_
  rw [← HQ9.out]
  intro e w19 hh
  obtain ⟨b19, A19, k19, c19, A20, k20, c20, rfl, hb19, g19, g20, e19⟩ := RetRC.form hh
  replace hBA := hBA.ext e19
  clear hh
  replace hE := hE.trans e19
  replace B0 := e19.block B0
  replace hsz := blk_lt B0
  clear a0 a1 a2
  obtain ⟨a0, a1, a2, -⟩ := cells3 B0
  go_upto_region 18 with (fail)
  refine boxes1 ?_
  intro w20 e20 hsz20 B20
  have hBW : BoxR N w20 w19.heap.size q := BoxR.mk B20 hb19 (g19.ext e20) (g20.ext e20)
  replace hBA := hBA.ext e20
  replace hE := hE.trans e20
  replace B0 := e20.block B0
  replace hsz := blk_lt B0
  clear a0 a1 a2
  obtain ⟨a0, a1, a2, -⟩ := cells3 B0
  obtain ⟨gW, hgW⟩ : ∃ gW, gW = w19.heap.size := ⟨_, rfl⟩
  rw [← hgW] at hBW ⊢
  have hN20 : N ≤ w20.heap.size := by have := hE.size; omega
  clear hgW e20 e19 e18 e17 e16 e15 e14 e13 B20 g19 g20 hb19 h13 h14 h15 h16 h17 h18 hsz20 hsz12
  obtain ⟨s1', S1, S2, S3, S4, S5, S6, r0, r1, r2, r3, -, -, -, -, hRA, -⟩ := hBA.open
  obtain ⟨t1, T1, T2, T3, T4, T5, T6, u0, u1, u2, u3, -, -, -, -, hRW, -⟩ := hBW.open
  by_cases hij : i = j
  ·have HQ1 : Hid (q = ((1 : Int) : Rat)) := HQS.out hij
   obtain rfl : j = i := hij.symm
   refine region_inv [Mn.eq (.int .i64 0), Mn.eq (.bool true), Mn.eq (.bool true), Mn.rat N q, Mn.rat N q, Mn.eq (.bool true), Mn.eq (.bool true), Mn.eq (.bool true), Mn.rat N q, Mn.rat N ((1 : Int) : Rat), Mn.eq (.int .i64 sg), Mn.eq (.bool true), Mn.eq (.bool true), Mn.eq (.bool true), Mn.eq (.int .i64 (j : Int)), Mn.eq (.int .i64 (j : Int)), Mn.eq (.bool false), Mn.eq (.bool false), Mn.rat N q, Mn.rat N ((1 : Int) : Rat), Mn.eq (.bool true), Mn.eq (.bool true), Mn.eq (.bool true), Mn.any] [some 105, some 106, some 107, some 108, some 109, some 110, some 111, some 112, some 113, some 114, some 115, some 116, some 117, some 118, some 119, some 120, some 121, some 122, some 123, some 124, some 125, some 126, some 127, some 6] [23] [true, true, true, true, true, true, true, true, true, true, true, true, true, true, true, true, true, true, true, true, true, true, true, false] 1 (by kernel_rfl) (by kernel_rfl) (by kernel_rfl) (by kernel_rfl) (by kernel_rfl) (by kernel_rfl) (by kernel_rfl) (by kernel_rfl) ?_ ?_
   ·intro i hi hl
    have hi' : i = 0 ∨ i = 1 ∨ i = 2 ∨ i = 3 ∨ i = 4 ∨ i = 5 ∨ i = 6 ∨ i = 7 ∨ i = 8 ∨ i = 9 ∨ i = 10 ∨ i = 11 ∨ i = 12 ∨ i = 13 ∨ i = 14 ∨ i = 15 ∨ i = 16 ∨ i = 17 ∨ i = 18 ∨ i = 19 ∨ i = 20 ∨ i = 21 ∨ i = 22 ∨ i = 23 := by have h9 : i < 24 := hi; omega
    clear hi
    rcases hi' with rfl | rfl | rfl | rfl | rfl | rfl | rfl | rfl | rfl | rfl | rfl | rfl | rfl | rfl | rfl | rfl | rfl | rfl | rfl | rfl | rfl | rfl | rfl | rfl
    ·clear hl
     refine stp rfl ?_
     intro ac wi eI hold hpre K hK
     have o8 := hold 8 (by kernel_rfl)
     simp only [List.getElem?_toArray, List.getElem?_cons_succ, List.getElem?_cons_zero] at o8
     clear hold hpre
     go_simp
     exact hK.out _ _ (Ext.refl _) rfl
    ·clear hl
     refine stp rfl ?_
     intro ac wi eI hold hpre K hK
     obtain ⟨x105, s105, j105⟩ := hpre 0 (by kernel_rfl) 105 rfl
     obtain rfl : x105 = (.int .i64 0) := j105
     clear hold hpre
     go_simp
     exact hK.out _ _ (Ext.refl _) rfl
    ·clear hl
     refine stp rfl ?_
     intro ac wi eI hold hpre K hK
     obtain ⟨x106, s106, j106⟩ := hpre 1 (by kernel_rfl) 106 rfl
     obtain rfl : x106 = (.bool true) := j106
     clear hold hpre
     go_simp
     exact hK.out _ _ (Ext.refl _) rfl
    ·clear hl
     refine stp rfl ?_
     intro ac wi eI hold hpre K hK
     obtain ⟨x107, s107, j107⟩ := hpre 2 (by kernel_rfl) 107 rfl
     obtain rfl : x107 = (.bool true) := j107
     have o7 := hold 7 (by kernel_rfl)
     simp only [List.getElem?_toArray, List.getElem?_cons_succ, List.getElem?_cons_zero] at o7
     clear hold hpre
     rw [if_pos (by simp [Region.wanted, yielded, s107])]
     have cc0 := eI.cell r0
     have cc1 := eI.cell r1
     have cc2 := eI.cell r2
     have cc3 := eI.cell r3
     have cc4 := eI.cell u0
     have cc5 := eI.cell u1
     have cc6 := eI.cell u2
     have cc7 := eI.cell u3
     go_simp
     exact hK.out _ _ (Ext.refl _) (hRA.ext eI)
    ·clear hl
     refine stp rfl ?_
     intro ac wi eI hold hpre K hK
     obtain ⟨x107, s107, j107⟩ := hpre 2 (by kernel_rfl) 107 rfl
     obtain rfl : x107 = (.bool true) := j107
     have o13 := hold 13 (by kernel_rfl)
     simp only [List.getElem?_toArray, List.getElem?_cons_succ, List.getElem?_cons_zero] at o13
     clear hold hpre
     rw [if_pos (by simp [Region.wanted, yielded, s107])]
     have cc0 := eI.cell r0
     have cc1 := eI.cell r1
     have cc2 := eI.cell r2
     have cc3 := eI.cell r3
     have cc4 := eI.cell u0
     have cc5 := eI.cell u1
     have cc6 := eI.cell u2
     have cc7 := eI.cell u3
     go_simp
     exact hK.out _ _ (Ext.refl _) (hRW.ext eI)
    ·clear hl
     refine stp rfl ?_
     intro ac wi eI hold hpre K hK
     obtain ⟨x107, s107, j107⟩ := hpre 2 (by kernel_rfl) 107 rfl
     obtain rfl : x107 = (.bool true) := j107
     obtain ⟨x108, s108, j108⟩ := hpre 3 (by kernel_rfl) 108 rfl
     replace j108 : Mn.p (Mn.rat N q) x108 wi := j108
     obtain ⟨x109, s109, j109⟩ := hpre 4 (by kernel_rfl) 109 rfl
     replace j109 : Mn.p (Mn.rat N q) x109 wi := j109
     clear hold hpre
     rw [if_pos (by simp [Region.wanted, yielded, s107])]
     go_simp
     refine (r2_same j108 j109 HQZ.out rfl).mono ?_
     rintro e wj ⟨rfl, ej⟩
     go_wp2_with fail
     exact hK.out _ _ ej rfl
    ·clear hl
     refine stp rfl ?_
     intro ac wi eI hold hpre K hK
     obtain ⟨x107, s107, j107⟩ := hpre 2 (by kernel_rfl) 107 rfl
     obtain rfl : x107 = (.bool true) := j107
     obtain ⟨x110, s110, j110⟩ := hpre 5 (by kernel_rfl) 110 rfl
     obtain rfl : x110 = (.bool true) := j110
     clear hold hpre
     go_simp
     exact hK.out _ _ (Ext.refl _) rfl
    ·clear hl
     refine stp rfl ?_
     intro ac wi eI hold hpre K hK
     obtain ⟨x111, s111, j111⟩ := hpre 6 (by kernel_rfl) 111 rfl
     obtain rfl : x111 = (.bool true) := j111
     clear hold hpre
     go_simp
     exact hK.out _ _ (Ext.refl _) rfl
    ·clear hl
     refine stp rfl ?_
     intro ac wi eI hold hpre K hK
     obtain ⟨x112, s112, j112⟩ := hpre 7 (by kernel_rfl) 112 rfl
     obtain rfl : x112 = (.bool true) := j112
     have o7 := hold 7 (by kernel_rfl)
     simp only [List.getElem?_toArray, List.getElem?_cons_succ, List.getElem?_cons_zero] at o7
     clear hold hpre
     rw [if_pos (by simp [Region.wanted, yielded, s112])]
     have cc0 := eI.cell r0
     have cc1 := eI.cell r1
     have cc2 := eI.cell r2
     have cc3 := eI.cell r3
     have cc4 := eI.cell u0
     have cc5 := eI.cell u1
     have cc6 := eI.cell u2
     have cc7 := eI.cell u3
     go_simp
     exact hK.out _ _ (Ext.refl _) (hRA.ext eI)
    ·clear hl
     refine stp rfl ?_
     intro ac wi eI hold hpre K hK
     obtain ⟨x112, s112, j112⟩ := hpre 7 (by kernel_rfl) 112 rfl
     obtain rfl : x112 = (.bool true) := j112
     clear hold hpre
     rw [if_pos (by simp [Region.wanted, yielded, s112])]
     go_simp
     refine (l37_one (N := N) (by have := eI.size; omega)).mono ?_
     rintro e wj ⟨vj, rfl, hj, ej⟩
     go_wp2_with fail
     exact hK.out _ _ ej hj
    ·clear hl
     refine stp rfl ?_
     intro ac wi eI hold hpre K hK
     obtain ⟨x112, s112, j112⟩ := hpre 7 (by kernel_rfl) 112 rfl
     obtain rfl : x112 = (.bool true) := j112
     obtain ⟨x113, s113, j113⟩ := hpre 8 (by kernel_rfl) 113 rfl
     replace j113 : Mn.p (Mn.rat N q) x113 wi := j113
     obtain ⟨x114, s114, j114⟩ := hpre 9 (by kernel_rfl) 114 rfl
     replace j114 : Mn.p (Mn.rat N ((1 : Int) : Rat)) x114 wi := j114
     clear hold hpre
     rw [if_pos (by simp [Region.wanted, yielded, s112])]
     go_simp
     refine (r2_compare j113 j114 HQZ.out (Ht.one.sz (by omega)) HQD.out).mono ?_
     rintro e wj ⟨rfl, ej⟩
     rw [← hsg.out]
     go_wp2_with fail
     exact hK.out _ _ ej rfl
    ·clear hl
     refine stp rfl ?_
     intro ac wi eI hold hpre K hK
     obtain ⟨x112, s112, j112⟩ := hpre 7 (by kernel_rfl) 112 rfl
     obtain rfl : x112 = (.bool true) := j112
     obtain ⟨x115, s115, j115⟩ := hpre 10 (by kernel_rfl) 115 rfl
     obtain rfl : x115 = (.int .i64 sg) := j115
     clear hold hpre
     rw [if_pos (by simp [Region.wanted, yielded, s112])]
     go_simp
     exact hK.out _ _ (Ext.refl _) rfl
    ·clear hl
     refine stp rfl ?_
     intro ac wi eI hold hpre K hK
     obtain ⟨x112, s112, j112⟩ := hpre 7 (by kernel_rfl) 112 rfl
     obtain rfl : x112 = (.bool true) := j112
     obtain ⟨x116, s116, j116⟩ := hpre 11 (by kernel_rfl) 116 rfl
     obtain rfl : x116 = (.bool true) := j116
     clear hold hpre
     go_simp
     exact hK.out _ _ (Ext.refl _) rfl
    ·clear hl
     refine stp rfl ?_
     intro ac wi eI hold hpre K hK
     obtain ⟨x117, s117, j117⟩ := hpre 12 (by kernel_rfl) 117 rfl
     obtain rfl : x117 = (.bool true) := j117
     clear hold hpre
     go_simp
     exact hK.out _ _ (Ext.refl _) rfl
    ·clear hl
     refine stp rfl ?_
     intro ac wi eI hold hpre K hK
     obtain ⟨x118, s118, j118⟩ := hpre 13 (by kernel_rfl) 118 rfl
     obtain rfl : x118 = (.bool true) := j118
     have o1 := hold 1 (by kernel_rfl)
     simp only [List.getElem?_toArray, List.getElem?_cons_succ, List.getElem?_cons_zero] at o1
     clear hold hpre
     rw [if_pos (by simp [Region.wanted, yielded, s118])]
     go_simp
     exact hK.out _ _ (Ext.refl _) rfl
    ·clear hl
     refine stp rfl ?_
     intro ac wi eI hold hpre K hK
     obtain ⟨x118, s118, j118⟩ := hpre 13 (by kernel_rfl) 118 rfl
     obtain rfl : x118 = (.bool true) := j118
     have o2 := hold 2 (by kernel_rfl)
     simp only [List.getElem?_toArray, List.getElem?_cons_succ, List.getElem?_cons_zero] at o2
     clear hold hpre
     rw [if_pos (by simp [Region.wanted, yielded, s118])]
     go_simp
     exact hK.out _ _ (Ext.refl _) rfl
    ·clear hl
     refine stp rfl ?_
     intro ac wi eI hold hpre K hK
     obtain ⟨x118, s118, j118⟩ := hpre 13 (by kernel_rfl) 118 rfl
     obtain rfl : x118 = (.bool true) := j118
     obtain ⟨x119, s119, j119⟩ := hpre 14 (by kernel_rfl) 119 rfl
     obtain rfl : x119 = (.int .i64 (j : Int)) := j119
     obtain ⟨x120, s120, j120⟩ := hpre 15 (by kernel_rfl) 120 rfl
     obtain rfl : x120 = (.int .i64 (j : Int)) := j120
     clear hold hpre
     rw [if_pos (by simp [Region.wanted, yielded, s118])]
     go_simp
     exact hK.out _ _ (Ext.refl _) rfl
    ·clear hl
     refine stp rfl ?_
     intro ac wi eI hold hpre K hK
     obtain ⟨x118, s118, j118⟩ := hpre 13 (by kernel_rfl) 118 rfl
     obtain rfl : x118 = (.bool true) := j118
     obtain ⟨x121, s121, j121⟩ := hpre 16 (by kernel_rfl) 121 rfl
     obtain rfl : x121 = (.bool false) := j121
     clear hold hpre
     rw [if_pos (by simp [Region.wanted, yielded, s118])]
     go_simp
     exact hK.out _ _ (Ext.refl _) rfl
    ·clear hl
     refine stp rfl ?_
     intro ac wi eI hold hpre K hK
     obtain ⟨x122, s122, j122⟩ := hpre 17 (by kernel_rfl) 122 rfl
     obtain rfl : x122 = (.bool false) := j122
     have o7 := hold 7 (by kernel_rfl)
     simp only [List.getElem?_toArray, List.getElem?_cons_succ, List.getElem?_cons_zero] at o7
     clear hold hpre
     rw [if_pos (by simp [Region.wanted, yielded, s122])]
     have cc0 := eI.cell r0
     have cc1 := eI.cell r1
     have cc2 := eI.cell r2
     have cc3 := eI.cell r3
     have cc4 := eI.cell u0
     have cc5 := eI.cell u1
     have cc6 := eI.cell u2
     have cc7 := eI.cell u3
     go_simp
     exact hK.out _ _ (Ext.refl _) (hRA.ext eI)
    ·clear hl
     refine stp rfl ?_
     intro ac wi eI hold hpre K hK
     obtain ⟨x122, s122, j122⟩ := hpre 17 (by kernel_rfl) 122 rfl
     obtain rfl : x122 = (.bool false) := j122
     clear hold hpre
     rw [if_pos (by simp [Region.wanted, yielded, s122])]
     go_simp
     refine (l37_one (N := N) (by have := eI.size; omega)).mono ?_
     rintro e wj ⟨vj, rfl, hj, ej⟩
     go_wp2_with fail
     exact hK.out _ _ ej hj
    ·clear hl
     refine stp rfl ?_
     intro ac wi eI hold hpre K hK
     obtain ⟨x122, s122, j122⟩ := hpre 17 (by kernel_rfl) 122 rfl
     obtain rfl : x122 = (.bool false) := j122
     obtain ⟨x123, s123, j123⟩ := hpre 18 (by kernel_rfl) 123 rfl
     replace j123 : Mn.p (Mn.rat N q) x123 wi := j123
     obtain ⟨x124, s124, j124⟩ := hpre 19 (by kernel_rfl) 124 rfl
     replace j124 : Mn.p (Mn.rat N ((1 : Int) : Rat)) x124 wi := j124
     clear hold hpre
     rw [if_pos (by simp [Region.wanted, yielded, s122])]
     go_simp
     refine (r2_same j123 j124 HQZ.out HQ1.out).mono ?_
     rintro e wj ⟨rfl, ej⟩
     go_wp2_with fail
     exact hK.out _ _ ej rfl
    ·clear hl
     refine stp rfl ?_
     intro ac wi eI hold hpre K hK
     obtain ⟨x118, s118, j118⟩ := hpre 13 (by kernel_rfl) 118 rfl
     obtain rfl : x118 = (.bool true) := j118
     obtain ⟨x122, s122, j122⟩ := hpre 17 (by kernel_rfl) 122 rfl
     obtain rfl : x122 = (.bool false) := j122
     obtain ⟨x125, s125, j125⟩ := hpre 20 (by kernel_rfl) 125 rfl
     obtain rfl : x125 = (.bool true) := j125
     clear hold hpre
     rw [if_pos (by simp [Region.wanted, yielded, s118])]
     go_simp
     exact hK.out _ _ (Ext.refl _) rfl
    ·clear hl
     refine stp rfl ?_
     intro ac wi eI hold hpre K hK
     obtain ⟨x118, s118, j118⟩ := hpre 13 (by kernel_rfl) 118 rfl
     obtain rfl : x118 = (.bool true) := j118
     obtain ⟨x126, s126, j126⟩ := hpre 21 (by kernel_rfl) 126 rfl
     obtain rfl : x126 = (.bool true) := j126
     clear hold hpre
     go_simp
     exact hK.out _ _ (Ext.refl _) rfl
    ·exact absurd hl (by decide)
   intro vals wz eZ hJ
   have J105 : Mn.p (Mn.eq (.int .i64 0)) (vals 0) wz := hJ 0 (by decide) (by decide)
   have J106 : Mn.p (Mn.eq (.bool true)) (vals 1) wz := hJ 1 (by decide) (by decide)
   have J107 : Mn.p (Mn.eq (.bool true)) (vals 2) wz := hJ 2 (by decide) (by decide)
   have J108 : Mn.p (Mn.rat N q) (vals 3) wz := hJ 3 (by decide) (by decide)
   have J109 : Mn.p (Mn.rat N q) (vals 4) wz := hJ 4 (by decide) (by decide)
   have J110 : Mn.p (Mn.eq (.bool true)) (vals 5) wz := hJ 5 (by decide) (by decide)
   have J111 : Mn.p (Mn.eq (.bool true)) (vals 6) wz := hJ 6 (by decide) (by decide)
   have J112 : Mn.p (Mn.eq (.bool true)) (vals 7) wz := hJ 7 (by decide) (by decide)
   have J113 : Mn.p (Mn.rat N q) (vals 8) wz := hJ 8 (by decide) (by decide)
   have J114 : Mn.p (Mn.rat N ((1 : Int) : Rat)) (vals 9) wz := hJ 9 (by decide) (by decide)
   have J115 : Mn.p (Mn.eq (.int .i64 sg)) (vals 10) wz := hJ 10 (by decide) (by decide)
   have J116 : Mn.p (Mn.eq (.bool true)) (vals 11) wz := hJ 11 (by decide) (by decide)
   have J117 : Mn.p (Mn.eq (.bool true)) (vals 12) wz := hJ 12 (by decide) (by decide)
   have J118 : Mn.p (Mn.eq (.bool true)) (vals 13) wz := hJ 13 (by decide) (by decide)
   have J119 : Mn.p (Mn.eq (.int .i64 (j : Int))) (vals 14) wz := hJ 14 (by decide) (by decide)
   have J120 : Mn.p (Mn.eq (.int .i64 (j : Int))) (vals 15) wz := hJ 15 (by decide) (by decide)
   have J121 : Mn.p (Mn.eq (.bool false)) (vals 16) wz := hJ 16 (by decide) (by decide)
   have J122 : Mn.p (Mn.eq (.bool false)) (vals 17) wz := hJ 17 (by decide) (by decide)
   have J123 : Mn.p (Mn.rat N q) (vals 18) wz := hJ 18 (by decide) (by decide)
   have J124 : Mn.p (Mn.rat N ((1 : Int) : Rat)) (vals 19) wz := hJ 19 (by decide) (by decide)
   have J125 : Mn.p (Mn.eq (.bool true)) (vals 20) wz := hJ 20 (by decide) (by decide)
   have J126 : Mn.p (Mn.eq (.bool true)) (vals 21) wz := hJ 21 (by decide) (by decide)
   have J127 : Mn.p (Mn.eq (.bool true)) (vals 22) wz := hJ 22 (by decide) (by decide)
   clear hJ
   simp only [putAll, if_true, Bool.false_eq_true, if_false, Act.put, Nat.zero_add, Nat.reduceAdd, List.setIfInBounds_toArray, List.set_cons_zero, List.set_cons_succ]
   generalize vals 0 = z105 at J105 ⊢
   obtain rfl : z105 = (.int .i64 0) := J105
   generalize vals 1 = z106 at J106 ⊢
   obtain rfl : z106 = (.bool true) := J106
   generalize vals 2 = z107 at J107 ⊢
   obtain rfl : z107 = (.bool true) := J107
   generalize vals 3 = z108 at J108 ⊢
   generalize vals 4 = z109 at J109 ⊢
   generalize vals 5 = z110 at J110 ⊢
   obtain rfl : z110 = (.bool true) := J110
   generalize vals 6 = z111 at J111 ⊢
   obtain rfl : z111 = (.bool true) := J111
   generalize vals 7 = z112 at J112 ⊢
   obtain rfl : z112 = (.bool true) := J112
   generalize vals 8 = z113 at J113 ⊢
   generalize vals 9 = z114 at J114 ⊢
   generalize vals 10 = z115 at J115 ⊢
   obtain rfl : z115 = (.int .i64 sg) := J115
   generalize vals 11 = z116 at J116 ⊢
   obtain rfl : z116 = (.bool true) := J116
   generalize vals 12 = z117 at J117 ⊢
   obtain rfl : z117 = (.bool true) := J117
   generalize vals 13 = z118 at J118 ⊢
   obtain rfl : z118 = (.bool true) := J118
   generalize vals 14 = z119 at J119 ⊢
   obtain rfl : z119 = (.int .i64 (j : Int)) := J119
   generalize vals 15 = z120 at J120 ⊢
   obtain rfl : z120 = (.int .i64 (j : Int)) := J120
   generalize vals 16 = z121 at J121 ⊢
   obtain rfl : z121 = (.bool false) := J121
   generalize vals 17 = z122 at J122 ⊢
   obtain rfl : z122 = (.bool false) := J122
   generalize vals 18 = z123 at J123 ⊢
   generalize vals 19 = z124 at J124 ⊢
   generalize vals 20 = z125 at J125 ⊢
   obtain rfl : z125 = (.bool true) := J125
   generalize vals 21 = z126 at J126 ⊢
   obtain rfl : z126 = (.bool true) := J126
   generalize vals 22 = z127 at J127 ⊢
   obtain rfl : z127 = (.bool true) := J127
   refine stepL_late (i := 23) rfl (by kernel_rfl) (by kernel_rfl) (fun K hK => ?_)
   go_simp
   refine hK.out _ _ ?_
   clear hK K
   try simp only [nr]
   refine stepL_done (by kernel_rfl) ?_ _
   go_wp2
   go_ret
   exact ⟨rfl, hE.trans eZ⟩
  ·have hne : ((i : Int) != (j : Int)) = true := by simp; omega
   refine region_inv [Mn.eq (.int .i64 0), Mn.eq (.bool true), Mn.eq (.bool true), Mn.rat N q, Mn.rat N q, Mn.eq (.bool true), Mn.eq (.bool true), Mn.eq (.bool true), Mn.rat N q, Mn.rat N ((1 : Int) : Rat), Mn.eq (.int .i64 sg), Mn.eq (.bool true), Mn.eq (.bool true), Mn.eq (.bool true), Mn.eq (.int .i64 (i : Int)), Mn.eq (.int .i64 (j : Int)), Mn.eq (.bool true), Mn.eq (.bool true), Mn.any, Mn.any, Mn.any, Mn.eq (.bool true), Mn.eq (.bool true), Mn.any] [some 105, some 106, some 107, some 108, some 109, some 110, some 111, some 112, some 113, some 114, some 115, some 116, some 117, some 118, some 119, some 120, some 121, some 122, some 123, some 124, some 125, some 126, some 127, some 6] [23] [true, true, true, true, true, true, true, true, true, true, true, true, true, true, true, true, true, true, true, true, true, true, true, false] 1 (by kernel_rfl) (by kernel_rfl) (by kernel_rfl) (by kernel_rfl) (by kernel_rfl) (by kernel_rfl) (by kernel_rfl) (by kernel_rfl) ?_ ?_
   ·intro i hi hl
    have hi' : i = 0 ∨ i = 1 ∨ i = 2 ∨ i = 3 ∨ i = 4 ∨ i = 5 ∨ i = 6 ∨ i = 7 ∨ i = 8 ∨ i = 9 ∨ i = 10 ∨ i = 11 ∨ i = 12 ∨ i = 13 ∨ i = 14 ∨ i = 15 ∨ i = 16 ∨ i = 17 ∨ i = 18 ∨ i = 19 ∨ i = 20 ∨ i = 21 ∨ i = 22 ∨ i = 23 := by have h9 : i < 24 := hi; omega
    clear hi
    rcases hi' with rfl | rfl | rfl | rfl | rfl | rfl | rfl | rfl | rfl | rfl | rfl | rfl | rfl | rfl | rfl | rfl | rfl | rfl | rfl | rfl | rfl | rfl | rfl | rfl
    ·clear hl
     refine stp rfl ?_
     intro ac wi eI hold hpre K hK
     have o8 := hold 8 (by kernel_rfl)
     simp only [List.getElem?_toArray, List.getElem?_cons_succ, List.getElem?_cons_zero] at o8
     clear hold hpre
     go_simp
     exact hK.out _ _ (Ext.refl _) rfl
    ·clear hl
     refine stp rfl ?_
     intro ac wi eI hold hpre K hK
     obtain ⟨x105, s105, j105⟩ := hpre 0 (by kernel_rfl) 105 rfl
     obtain rfl : x105 = (.int .i64 0) := j105
     clear hold hpre
     go_simp
     exact hK.out _ _ (Ext.refl _) rfl
    ·clear hl
     refine stp rfl ?_
     intro ac wi eI hold hpre K hK
     obtain ⟨x106, s106, j106⟩ := hpre 1 (by kernel_rfl) 106 rfl
     obtain rfl : x106 = (.bool true) := j106
     clear hold hpre
     go_simp
     exact hK.out _ _ (Ext.refl _) rfl
    ·clear hl
     refine stp rfl ?_
     intro ac wi eI hold hpre K hK
     obtain ⟨x107, s107, j107⟩ := hpre 2 (by kernel_rfl) 107 rfl
     obtain rfl : x107 = (.bool true) := j107
     have o7 := hold 7 (by kernel_rfl)
     simp only [List.getElem?_toArray, List.getElem?_cons_succ, List.getElem?_cons_zero] at o7
     clear hold hpre
     rw [if_pos (by simp [Region.wanted, yielded, s107])]
     have cc0 := eI.cell r0
     have cc1 := eI.cell r1
     have cc2 := eI.cell r2
     have cc3 := eI.cell r3
     have cc4 := eI.cell u0
     have cc5 := eI.cell u1
     have cc6 := eI.cell u2
     have cc7 := eI.cell u3
     go_simp
     exact hK.out _ _ (Ext.refl _) (hRA.ext eI)
    ·clear hl
     refine stp rfl ?_
     intro ac wi eI hold hpre K hK
     obtain ⟨x107, s107, j107⟩ := hpre 2 (by kernel_rfl) 107 rfl
     obtain rfl : x107 = (.bool true) := j107
     have o13 := hold 13 (by kernel_rfl)
     simp only [List.getElem?_toArray, List.getElem?_cons_succ, List.getElem?_cons_zero] at o13
     clear hold hpre
     rw [if_pos (by simp [Region.wanted, yielded, s107])]
     have cc0 := eI.cell r0
     have cc1 := eI.cell r1
     have cc2 := eI.cell r2
     have cc3 := eI.cell r3
     have cc4 := eI.cell u0
     have cc5 := eI.cell u1
     have cc6 := eI.cell u2
     have cc7 := eI.cell u3
     go_simp
     exact hK.out _ _ (Ext.refl _) (hRW.ext eI)
    ·clear hl
     refine stp rfl ?_
     intro ac wi eI hold hpre K hK
     obtain ⟨x107, s107, j107⟩ := hpre 2 (by kernel_rfl) 107 rfl
     obtain rfl : x107 = (.bool true) := j107
     obtain ⟨x108, s108, j108⟩ := hpre 3 (by kernel_rfl) 108 rfl
     replace j108 : Mn.p (Mn.rat N q) x108 wi := j108
     obtain ⟨x109, s109, j109⟩ := hpre 4 (by kernel_rfl) 109 rfl
     replace j109 : Mn.p (Mn.rat N q) x109 wi := j109
     clear hold hpre
     rw [if_pos (by simp [Region.wanted, yielded, s107])]
     go_simp
     refine (r2_same j108 j109 HQZ.out rfl).mono ?_
     rintro e wj ⟨rfl, ej⟩
     go_wp2_with fail
     exact hK.out _ _ ej rfl
    ·clear hl
     refine stp rfl ?_
     intro ac wi eI hold hpre K hK
     obtain ⟨x107, s107, j107⟩ := hpre 2 (by kernel_rfl) 107 rfl
     obtain rfl : x107 = (.bool true) := j107
     obtain ⟨x110, s110, j110⟩ := hpre 5 (by kernel_rfl) 110 rfl
     obtain rfl : x110 = (.bool true) := j110
     clear hold hpre
     go_simp
     exact hK.out _ _ (Ext.refl _) rfl
    ·clear hl
     refine stp rfl ?_
     intro ac wi eI hold hpre K hK
     obtain ⟨x111, s111, j111⟩ := hpre 6 (by kernel_rfl) 111 rfl
     obtain rfl : x111 = (.bool true) := j111
     clear hold hpre
     go_simp
     exact hK.out _ _ (Ext.refl _) rfl
    ·clear hl
     refine stp rfl ?_
     intro ac wi eI hold hpre K hK
     obtain ⟨x112, s112, j112⟩ := hpre 7 (by kernel_rfl) 112 rfl
     obtain rfl : x112 = (.bool true) := j112
     have o7 := hold 7 (by kernel_rfl)
     simp only [List.getElem?_toArray, List.getElem?_cons_succ, List.getElem?_cons_zero] at o7
     clear hold hpre
     rw [if_pos (by simp [Region.wanted, yielded, s112])]
     have cc0 := eI.cell r0
     have cc1 := eI.cell r1
     have cc2 := eI.cell r2
     have cc3 := eI.cell r3
     have cc4 := eI.cell u0
     have cc5 := eI.cell u1
     have cc6 := eI.cell u2
     have cc7 := eI.cell u3
     go_simp
     exact hK.out _ _ (Ext.refl _) (hRA.ext eI)
    ·clear hl
     refine stp rfl ?_
     intro ac wi eI hold hpre K hK
     obtain ⟨x112, s112, j112⟩ := hpre 7 (by kernel_rfl) 112 rfl
     obtain rfl : x112 = (.bool true) := j112
     clear hold hpre
     rw [if_pos (by simp [Region.wanted, yielded, s112])]
     go_simp
     refine (l37_one (N := N) (by have := eI.size; omega)).mono ?_
     rintro e wj ⟨vj, rfl, hj, ej⟩
     go_wp2_with fail
     exact hK.out _ _ ej hj
    ·clear hl
     refine stp rfl ?_
     intro ac wi eI hold hpre K hK
     obtain ⟨x112, s112, j112⟩ := hpre 7 (by kernel_rfl) 112 rfl
     obtain rfl : x112 = (.bool true) := j112
     obtain ⟨x113, s113, j113⟩ := hpre 8 (by kernel_rfl) 113 rfl
     replace j113 : Mn.p (Mn.rat N q) x113 wi := j113
     obtain ⟨x114, s114, j114⟩ := hpre 9 (by kernel_rfl) 114 rfl
     replace j114 : Mn.p (Mn.rat N ((1 : Int) : Rat)) x114 wi := j114
     clear hold hpre
     rw [if_pos (by simp [Region.wanted, yielded, s112])]
     go_simp
     refine (r2_compare j113 j114 HQZ.out (Ht.one.sz (by omega)) HQD.out).mono ?_
     rintro e wj ⟨rfl, ej⟩
     rw [← hsg.out]
     go_wp2_with fail
     exact hK.out _ _ ej rfl
    ·clear hl
     refine stp rfl ?_
     intro ac wi eI hold hpre K hK
     obtain ⟨x112, s112, j112⟩ := hpre 7 (by kernel_rfl) 112 rfl
     obtain rfl : x112 = (.bool true) := j112
     obtain ⟨x115, s115, j115⟩ := hpre 10 (by kernel_rfl) 115 rfl
     obtain rfl : x115 = (.int .i64 sg) := j115
     clear hold hpre
     rw [if_pos (by simp [Region.wanted, yielded, s112])]
     go_simp
     exact hK.out _ _ (Ext.refl _) rfl
    ·clear hl
     refine stp rfl ?_
     intro ac wi eI hold hpre K hK
     obtain ⟨x112, s112, j112⟩ := hpre 7 (by kernel_rfl) 112 rfl
     obtain rfl : x112 = (.bool true) := j112
     obtain ⟨x116, s116, j116⟩ := hpre 11 (by kernel_rfl) 116 rfl
     obtain rfl : x116 = (.bool true) := j116
     clear hold hpre
     go_simp
     exact hK.out _ _ (Ext.refl _) rfl
    ·clear hl
     refine stp rfl ?_
     intro ac wi eI hold hpre K hK
     obtain ⟨x117, s117, j117⟩ := hpre 12 (by kernel_rfl) 117 rfl
     obtain rfl : x117 = (.bool true) := j117
     clear hold hpre
     go_simp
     exact hK.out _ _ (Ext.refl _) rfl
    ·clear hl
     refine stp rfl ?_
     intro ac wi eI hold hpre K hK
     obtain ⟨x118, s118, j118⟩ := hpre 13 (by kernel_rfl) 118 rfl
     obtain rfl : x118 = (.bool true) := j118
     have o1 := hold 1 (by kernel_rfl)
     simp only [List.getElem?_toArray, List.getElem?_cons_succ, List.getElem?_cons_zero] at o1
     clear hold hpre
     rw [if_pos (by simp [Region.wanted, yielded, s118])]
     go_simp
     exact hK.out _ _ (Ext.refl _) rfl
    ·clear hl
     refine stp rfl ?_
     intro ac wi eI hold hpre K hK
     obtain ⟨x118, s118, j118⟩ := hpre 13 (by kernel_rfl) 118 rfl
     obtain rfl : x118 = (.bool true) := j118
     have o2 := hold 2 (by kernel_rfl)
     simp only [List.getElem?_toArray, List.getElem?_cons_succ, List.getElem?_cons_zero] at o2
     clear hold hpre
     rw [if_pos (by simp [Region.wanted, yielded, s118])]
     go_simp
     exact hK.out _ _ (Ext.refl _) rfl
    ·clear hl
     refine stp rfl ?_
     intro ac wi eI hold hpre K hK
     obtain ⟨x118, s118, j118⟩ := hpre 13 (by kernel_rfl) 118 rfl
     obtain rfl : x118 = (.bool true) := j118
     obtain ⟨x119, s119, j119⟩ := hpre 14 (by kernel_rfl) 119 rfl
     obtain rfl : x119 = (.int .i64 (i : Int)) := j119
     obtain ⟨x120, s120, j120⟩ := hpre 15 (by kernel_rfl) 120 rfl
     obtain rfl : x120 = (.int .i64 (j : Int)) := j120
     clear hold hpre
     rw [if_pos (by simp [Region.wanted, yielded, s118])]
     go_simp
     exact hK.out _ _ (Ext.refl _) rfl
    ·clear hl
     refine stp rfl ?_
     intro ac wi eI hold hpre K hK
     obtain ⟨x118, s118, j118⟩ := hpre 13 (by kernel_rfl) 118 rfl
     obtain rfl : x118 = (.bool true) := j118
     obtain ⟨x121, s121, j121⟩ := hpre 16 (by kernel_rfl) 121 rfl
     obtain rfl : x121 = (.bool true) := j121
     clear hold hpre
     rw [if_pos (by simp [Region.wanted, yielded, s118])]
     go_simp
     exact hK.out _ _ (Ext.refl _) rfl
    ·clear hl
     refine stp rfl ?_
     intro ac wi eI hold hpre K hK
     obtain ⟨x122, s122, j122⟩ := hpre 17 (by kernel_rfl) 122 rfl
     obtain rfl : x122 = (.bool true) := j122
     have o7 := hold 7 (by kernel_rfl)
     simp only [List.getElem?_toArray, List.getElem?_cons_succ, List.getElem?_cons_zero] at o7
     clear hold hpre
     rw [if_neg (by simp [Region.wanted, yielded, s122])]
     exact hK.out _ _ (Ext.refl _) trivial
    ·clear hl
     refine stp rfl ?_
     intro ac wi eI hold hpre K hK
     obtain ⟨x122, s122, j122⟩ := hpre 17 (by kernel_rfl) 122 rfl
     obtain rfl : x122 = (.bool true) := j122
     clear hold hpre
     rw [if_neg (by simp [Region.wanted, yielded, s122])]
     exact hK.out _ _ (Ext.refl _) trivial
    ·clear hl
     refine stp rfl ?_
     intro ac wi eI hold hpre K hK
     obtain ⟨x122, s122, j122⟩ := hpre 17 (by kernel_rfl) 122 rfl
     obtain rfl : x122 = (.bool true) := j122
     obtain ⟨x123, s123, j123⟩ := hpre 18 (by kernel_rfl) 123 rfl
     replace j123 : Mn.p (Mn.any) x123 wi := j123
     obtain ⟨x124, s124, j124⟩ := hpre 19 (by kernel_rfl) 124 rfl
     replace j124 : Mn.p (Mn.any) x124 wi := j124
     clear hold hpre
     rw [if_neg (by simp [Region.wanted, yielded, s122])]
     exact hK.out _ _ (Ext.refl _) trivial
    ·clear hl
     refine stp rfl ?_
     intro ac wi eI hold hpre K hK
     obtain ⟨x118, s118, j118⟩ := hpre 13 (by kernel_rfl) 118 rfl
     obtain rfl : x118 = (.bool true) := j118
     obtain ⟨x122, s122, j122⟩ := hpre 17 (by kernel_rfl) 122 rfl
     obtain rfl : x122 = (.bool true) := j122
     obtain ⟨x125, s125, j125⟩ := hpre 20 (by kernel_rfl) 125 rfl
     replace j125 : Mn.p (Mn.any) x125 wi := j125
     clear hold hpre
     rw [if_pos (by simp [Region.wanted, yielded, s118])]
     go_simp
     exact hK.out _ _ (Ext.refl _) rfl
    ·clear hl
     refine stp rfl ?_
     intro ac wi eI hold hpre K hK
     obtain ⟨x118, s118, j118⟩ := hpre 13 (by kernel_rfl) 118 rfl
     obtain rfl : x118 = (.bool true) := j118
     obtain ⟨x126, s126, j126⟩ := hpre 21 (by kernel_rfl) 126 rfl
     obtain rfl : x126 = (.bool true) := j126
     clear hold hpre
     go_simp
     exact hK.out _ _ (Ext.refl _) rfl
    ·exact absurd hl (by decide)
   intro vals wz eZ hJ
   have J105 : Mn.p (Mn.eq (.int .i64 0)) (vals 0) wz := hJ 0 (by decide) (by decide)
   have J106 : Mn.p (Mn.eq (.bool true)) (vals 1) wz := hJ 1 (by decide) (by decide)
   have J107 : Mn.p (Mn.eq (.bool true)) (vals 2) wz := hJ 2 (by decide) (by decide)
   have J108 : Mn.p (Mn.rat N q) (vals 3) wz := hJ 3 (by decide) (by decide)
   have J109 : Mn.p (Mn.rat N q) (vals 4) wz := hJ 4 (by decide) (by decide)
   have J110 : Mn.p (Mn.eq (.bool true)) (vals 5) wz := hJ 5 (by decide) (by decide)
   have J111 : Mn.p (Mn.eq (.bool true)) (vals 6) wz := hJ 6 (by decide) (by decide)
   have J112 : Mn.p (Mn.eq (.bool true)) (vals 7) wz := hJ 7 (by decide) (by decide)
   have J113 : Mn.p (Mn.rat N q) (vals 8) wz := hJ 8 (by decide) (by decide)
   have J114 : Mn.p (Mn.rat N ((1 : Int) : Rat)) (vals 9) wz := hJ 9 (by decide) (by decide)
   have J115 : Mn.p (Mn.eq (.int .i64 sg)) (vals 10) wz := hJ 10 (by decide) (by decide)
   have J116 : Mn.p (Mn.eq (.bool true)) (vals 11) wz := hJ 11 (by decide) (by decide)
   have J117 : Mn.p (Mn.eq (.bool true)) (vals 12) wz := hJ 12 (by decide) (by decide)
   have J118 : Mn.p (Mn.eq (.bool true)) (vals 13) wz := hJ 13 (by decide) (by decide)
   have J119 : Mn.p (Mn.eq (.int .i64 (i : Int))) (vals 14) wz := hJ 14 (by decide) (by decide)
   have J120 : Mn.p (Mn.eq (.int .i64 (j : Int))) (vals 15) wz := hJ 15 (by decide) (by decide)
   have J121 : Mn.p (Mn.eq (.bool true)) (vals 16) wz := hJ 16 (by decide) (by decide)
   have J122 : Mn.p (Mn.eq (.bool true)) (vals 17) wz := hJ 17 (by decide) (by decide)
   have J123 : Mn.p (Mn.any) (vals 18) wz := hJ 18 (by decide) (by decide)
   have J124 : Mn.p (Mn.any) (vals 19) wz := hJ 19 (by decide) (by decide)
   have J125 : Mn.p (Mn.any) (vals 20) wz := hJ 20 (by decide) (by decide)
   have J126 : Mn.p (Mn.eq (.bool true)) (vals 21) wz := hJ 21 (by decide) (by decide)
   have J127 : Mn.p (Mn.eq (.bool true)) (vals 22) wz := hJ 22 (by decide) (by decide)
   clear hJ
   simp only [putAll, if_true, Bool.false_eq_true, if_false, Act.put, Nat.zero_add, Nat.reduceAdd, List.setIfInBounds_toArray, List.set_cons_zero, List.set_cons_succ]
   generalize vals 0 = z105 at J105 ⊢
   obtain rfl : z105 = (.int .i64 0) := J105
   generalize vals 1 = z106 at J106 ⊢
   obtain rfl : z106 = (.bool true) := J106
   generalize vals 2 = z107 at J107 ⊢
   obtain rfl : z107 = (.bool true) := J107
   generalize vals 3 = z108 at J108 ⊢
   generalize vals 4 = z109 at J109 ⊢
   generalize vals 5 = z110 at J110 ⊢
   obtain rfl : z110 = (.bool true) := J110
   generalize vals 6 = z111 at J111 ⊢
   obtain rfl : z111 = (.bool true) := J111
   generalize vals 7 = z112 at J112 ⊢
   obtain rfl : z112 = (.bool true) := J112
   generalize vals 8 = z113 at J113 ⊢
   generalize vals 9 = z114 at J114 ⊢
   generalize vals 10 = z115 at J115 ⊢
   obtain rfl : z115 = (.int .i64 sg) := J115
   generalize vals 11 = z116 at J116 ⊢
   obtain rfl : z116 = (.bool true) := J116
   generalize vals 12 = z117 at J117 ⊢
   obtain rfl : z117 = (.bool true) := J117
   generalize vals 13 = z118 at J118 ⊢
   obtain rfl : z118 = (.bool true) := J118
   generalize vals 14 = z119 at J119 ⊢
   obtain rfl : z119 = (.int .i64 (i : Int)) := J119
   generalize vals 15 = z120 at J120 ⊢
   obtain rfl : z120 = (.int .i64 (j : Int)) := J120
   generalize vals 16 = z121 at J121 ⊢
   obtain rfl : z121 = (.bool true) := J121
   generalize vals 17 = z122 at J122 ⊢
   obtain rfl : z122 = (.bool true) := J122
   generalize vals 18 = z123 at J123 ⊢
   generalize vals 19 = z124 at J124 ⊢
   generalize vals 20 = z125 at J125 ⊢
   generalize vals 21 = z126 at J126 ⊢
   obtain rfl : z126 = (.bool true) := J126
   generalize vals 22 = z127 at J127 ⊢
   obtain rfl : z127 = (.bool true) := J127
   refine stepL_late (i := 23) rfl (by kernel_rfl) (by kernel_rfl) (fun K hK => ?_)
   go_simp
   refine hK.out _ _ ?_
   clear hK K
   try simp only [nr]
   refine stepL_done (by kernel_rfl) ?_ _
   go_wp2
   go_ret
   exact ⟨rfl, hE.trans eZ⟩
end Go.Proofs.YtghpfnhmlpfgcaaGreat
