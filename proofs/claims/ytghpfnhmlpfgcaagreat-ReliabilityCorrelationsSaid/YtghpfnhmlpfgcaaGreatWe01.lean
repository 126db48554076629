import Derived.Test.YtghpfnhmlpfgcaaGreatWb01
import Derived.Test.YtghpfnhmlpfgcaaGreatWb02
import Derived.Test.YtghpfnhmlpfgcaaGreatWb03
import Derived.Test.YtghpfnhmlpfgcaaGreatWb04
import Derived.Test.YtghpfnhmlpfgcaaGreatWb05
import Derived.Test.YtghpfnhmlpfgcaaGreatWb06
import Derived.Test.YtghpfnhmlpfgcaaGreatWb07
import Derived.Test.YtghpfnhmlpfgcaaGreatWb08
import Derived.Test.YtghpfnhmlpfgcaaGreatWb09
import Derived.Test.YtghpfnhmlpfgcaaGreatWb10
import Derived.Test.YtghpfnhmlpfgcaaGreatWb11
import Derived.Test.YtghpfnhmlpfgcaaGreatWb12
import Derived.Test.YtghpfnhmlpfgcaaGreatWb13
import Derived.Test.YtghpfnhmlpfgcaaGreatWb14
import Derived.Test.YtghpfnhmlpfgcaaGreatWb15
import Derived.Test.YtghpfnhmlpfgcaaGreatWb16
import Derived.Test.YtghpfnhmlpfgcaaGreatWb17
import Derived.Test.YtghpfnhmlpfgcaaGreatWb18
import Derived.Test.YtghpfnhmlpfgcaaGreatWb19
import Derived.Test.YtghpfnhmlpfgcaaGreatWb20
import Derived.Test.YtghpfnhmlpfgcaaGreatWb21
import Derived.Test.YtghpfnhmlpfgcaaGreatWb22
import Derived.Test.YtghpfnhmlpfgcaaGreatWb23
import Derived.Test.YtghpfnhmlpfgcaaGreatWb24
import Derived.Test.YtghpfnhmlpfgcaaGreatWb25
import Derived.Test.YtghpfnhmlpfgcaaGreatWb26
import Derived.Test.YtghpfnhmlpfgcaaGreatWb27
import Derived.Test.YtghpfnhmlpfgcaaGreatWb28
import Derived.Test.YtghpfnhmlpfgcaaGreatWb29
import Derived.Test.YtghpfnhmlpfgcaaGreatWb30
import Derived.Test.YtghpfnhmlpfgcaaGreatWb31
import Derived.Test.YtghpfnhmlpfgcaaGreatWb32
import Derived.Test.YtghpfnhmlpfgcaaGreatWb33
import Derived.Test.YtghpfnhmlpfgcaaGreatWb34
import Derived.Test.YtghpfnhmlpfgcaaGreatWb35
import Derived.Test.YtghpfnhmlpfgcaaGreatWb36
import Derived.Test.YtghpfnhmlpfgcaaGreatWb37
import Derived.Test.YtghpfnhmlpfgcaaGreatWb38
import Derived.Test.YtghpfnhmlpfgcaaGreatWb39
import Derived.Test.YtghpfnhmlpfgcaaGreatWb40
import Derived.Test.YtghpfnhmlpfgcaaGreatWb41
import Derived.Test.YtghpfnhmlpfgcaaGreatWb42
import Derived.Deep.CutBlock
import Derived.Deep.AppendLies
import Derived.WalkKit
import Derived.WalkSpells
import Derived.WalkLawsBesides
import Derived.Lib.Hide
import Derived.Deep.RegionHeld3
import Derived.Deep.QuietTactic
import Derived.BigQuiet
import Derived.Maps.AppendAt
import Derived.Deep.DeepCutAuto
import Derived.Deep.RegionWith
import Derived.Deep.DeepMust
import Derived.OrdersIn
import Derived.RegionTactic
import Derived.RangeFuncNested
import Derived.RangeFuncBound
import Derived.RangeFuncCalls
import Derived.RangeFuncLeaves
import Derived.RangeFuncBox
import Derived.Shelf.Abstract
import Derived.OwnWalkIn
import Derived.TacticsInMore
import Derived.LoopNIn
import Derived.LoopIn
import Derived.Laws.IdiomCopy
import Derived.Shelf.Bits.Mul64
import Derived.Deep.RegionLaw
import Derived.Lib.SliceRun
set_option linter.all false
namespace Go.Proofs.YtghpfnhmlpfgcaaGreat
open Go.RowKit
def cqOf (m n : Nat) (X : Nat → Nat → Rat) (p : Nat → Rat) (i j : Nat) : Rat := if i = j then - fitsOf m n X p i j + ((1 : Int) : Rat) / p i else - fitsOf m n X p i j
def qqOf (m n : Nat) (X : Nat → Nat → Rat) (p : Nat → Rat) (i j : Nat) : Rat := (if i = j then - (fitsOf m n X p i j * p j) + ((1 : Int) : Rat) else - (fitsOf m n X p i j * p j)) / p j
theorem one_cast : ((1 : Int) : Rat) = 1 := rfl
theorem qq_cq {m n : Nat} {X : Nat → Nat → Rat} {p : Nat → Rat} (hp : ∀ i, i < m → 0 < p i) {i j : Nat} (hj : j < m) : qqOf m n X p i j = cqOf m n X p i j := by
 have h := hp j hj
 have h0 : p j ≠ 0 := by grind
 unfold qqOf cqOf
 split
 ·rename_i e; subst e; rw [one_cast]; grind
 ·grind
theorem cq_red {m n : Nat} {X : Nat → Nat → Rat} {p : Nat → Rat} (hp : ∀ i, i < m → 0 < p i) {i : Nat} (hi : i < m) : cqOf m n X p i i * p i = redOf m n X p i := by
 have h := hp i hi
 have h0 : p i ≠ 0 := by grind
 unfold cqOf redOf
 rw [if_pos rfl, one_cast]
 grind
theorem cq_pos {m n : Nat} {X : Nat → Nat → Rat} {p : Nat → Rat} (hp : ∀ i, i < m → 0 < p i) {i : Nat} (hi : i < m) (hr : redOf m n X p i ≠ 0) : 0 < cqOf m n X p i i := by
 have h1 := cq_red (n := n) (X := X) hp hi
 have h2 := (red_range (n := n) (X := X) hp hi).1
 have h := hp i hi
 apply Classical.byContradiction
 intro hn
 have h3 : 0 ≤ - cqOf m n X p i i := by grind
 have h4 := Rat.mul_nonneg h3 (Rat.le_of_lt h)
 grind
theorem sum_cs {m : Nat} {u a b : Nat → Rat} (hu : ∀ k, k < m → 0 ≤ u k) (hB : 0 < sum m (fun k => u k * (b k * b k))) :
  sum m (fun k => u k * (a k * b k)) * sum m (fun k => u k * (a k * b k)) ≤ sum m (fun k => u k * (a k * a k)) * sum m (fun k => u k * (b k * b k)) := by
 obtain ⟨A, hA⟩ : ∃ A, A = sum m (fun k => u k * (a k * a k)) := ⟨_, rfl⟩
 obtain ⟨B, hB'⟩ : ∃ B, B = sum m (fun k => u k * (b k * b k)) := ⟨_, rfl⟩
 obtain ⟨C, hC⟩ : ∃ C, C = sum m (fun k => u k * (a k * b k)) := ⟨_, rfl⟩
 have h0 : 0 ≤ sum m (fun k => u k * ((B * a k - C * b k) * (B * a k - C * b k))) := sum_nonneg fun k hk => Rat.mul_nonneg (hu k hk) (sq_nonneg _)
 have h1 : sum m (fun k => u k * ((B * a k - C * b k) * (B * a k - C * b k))) = B * B * A - 2 * B * C * C + C * C * B := by
  rw [hA, show B * B * sum m (fun k => u k * (a k * a k)) = sum m (fun k => B * B * (u k * (a k * a k))) from (sum_mul _ _ _).symm]
  rw [show 2 * B * C * C = 2 * B * C * sum m (fun k => u k * (a k * b k)) from by rw [← hC], show 2 * B * C * sum m (fun k => u k * (a k * b k)) = sum m (fun k => 2 * B * C * (u k * (a k * b k))) from (sum_mul _ _ _).symm]
  rw [show C * C * B = C * C * sum m (fun k => u k * (b k * b k)) from by rw [← hB'], show C * C * sum m (fun k => u k * (b k * b k)) = sum m (fun k => C * C * (u k * (b k * b k))) from (sum_mul _ _ _).symm]
  rw [← sum_sub, ← sum_add]
  exact sum_congr fun k _ => by grind
 rw [h1] at h0
 rw [← hA, ← hB', ← hC]
 rw [← hB'] at hB
 apply Classical.byContradiction
 intro hn
 have h2 : 0 < C * C - A * B := by grind
 have h3 := Rat.mul_pos hB h2
 grind
theorem cq_sum {m n : Nat} {X : Nat → Nat → Rat} {p : Nat → Rat} (hp : ∀ i, i < m → 0 < p i) {i j : Nat} (hi : i < m) (hj : j < m) :
  cqOf m n X p i j = sum m (fun k => (1 / p k) * ((dlt i k - fitsOf m n X p i k * p k) * (dlt j k - fitsOf m n X p j k * p k))) := by
 have hM := model_of m n X hp
 have hF : ∀ a b, fitsOf m n X p a b = gf X (invM (rref m X n).2.length (nmat (bas X (rref m X n).2) p m)) (rref m X n).2 a b := fun _ _ => rfl
 have hs : ∀ a b, fitsOf m n X p a b = fitsOf m n X p b a := fun a b => hM.symm a b
 have h1 : sum m (fun k => (1 / p k) * ((dlt i k - fitsOf m n X p i k * p k) * (dlt j k - fitsOf m n X p j k * p k)))
   = sum m (fun k => dlt i k * (dlt j k * (1 / p k) - fitsOf m n X p j k)) - sum m (fun k => dlt j k * fitsOf m n X p i k) + sum m (fun k => fitsOf m n X p i k * p k * fitsOf m n X p k j) := by
  rw [← sum_sub, ← sum_add]
  refine sum_congr fun k hk => ?_
  have h := hp k hk
  have h0 : p k ≠ 0 := by grind
  rw [hs k j]
  grind
 rw [h1, sum_dlt hi, sum_dlt hj]
 have h2 : sum m (fun k => fitsOf m n X p i k * p k * fitsOf m n X p k j) = fitsOf m n X p i j := hM.idem i j hi
 rw [h2]
 unfold cqOf
 by_cases e : i = j
 ·subst e; rw [if_pos rfl, dlt_same, one_cast]; grind
 ·rw [if_neg e, dlt_ne (fun h => e h.symm), hs j i]; grind
theorem cq_cs {m n : Nat} {X : Nat → Nat → Rat} {p : Nat → Rat} (hp : ∀ i, i < m → 0 < p i) {i j : Nat} (hi : i < m) (hj : j < m) (hr : redOf m n X p j ≠ 0) :
  cqOf m n X p i j * cqOf m n X p i j ≤ cqOf m n X p i i * cqOf m n X p j j := by
 have h := cq_pos hp hj hr
 rw [cq_sum hp hj hj] at h
 rw [cq_sum hp hi hj, cq_sum hp hi hi, cq_sum hp hj hj]
 refine sum_cs (u := fun k => 1 / p k) (fun k hk => ?_) h
 have h1 := hp k hk
 apply Classical.byContradiction
 intro hn
 have h2 : 0 < - (1 / p k) := by grind
 have h3 := Rat.mul_pos h2 h1
 have h0 : p k ≠ 0 := by grind
 grind
def corOf (m n : Nat) (X : Nat → Nat → Rat) (p : Nat → Rat) (i j : Nat) : Rat := cqOf m n X p i j * cqOf m n X p i j / (cqOf m n X p i i * cqOf m n X p j j)
theorem cq_prod {m n : Nat} {X : Nat → Nat → Rat} {p : Nat → Rat} (hp : ∀ i, i < m → 0 < p i) {i j : Nat} (hi : i < m) (hj : j < m) (hri : redOf m n X p i ≠ 0) (hr : redOf m n X p j ≠ 0) : cqOf m n X p i i * cqOf m n X p j j ≠ 0 := by
 have h := Rat.mul_pos (cq_pos hp hi hri) (cq_pos hp hj hr)
 grind
theorem cor_le {m n : Nat} {X : Nat → Nat → Rat} {p : Nat → Rat} (hp : ∀ i, i < m → 0 < p i) {i j : Nat} (hi : i < m) (hj : j < m) (hri : redOf m n X p i ≠ 0) (hr : redOf m n X p j ≠ 0) : corOf m n X p i j ≤ 1 := by
 have h := Rat.mul_pos (cq_pos hp hi hri) (cq_pos hp hj hr)
 have h1 := cq_cs (i := i) hp hi hj hr
 unfold corOf
 generalize cqOf m n X p i i * cqOf m n X p j j = D at h h1 ⊢
 generalize cqOf m n X p i j * cqOf m n X p i j = C at h1 ⊢
 apply Classical.byContradiction
 intro hn
 have h2 : 0 < C / D - 1 := by grind
 have h3 := Rat.mul_pos h2 h
 have h0 : D ≠ 0 := by grind
 have h4 : (C / D - 1) * D = C - D := by clear hri hr hp h1 h2 h3 hn h; grind
 rw [h4] at h3
 clear hri hr hp h2 hn h4
 grind
theorem cor_self {m n : Nat} {X : Nat → Nat → Rat} {p : Nat → Rat} (hp : ∀ i, i < m → 0 < p i) {i : Nat} (hi : i < m) (hr : redOf m n X p i ≠ 0) : corOf m n X p i i = 1 := by
 have h := cq_prod hp hi hi hr hr
 unfold corOf
 generalize cqOf m n X p i i * cqOf m n X p i i = D at h ⊢
 grind
end Go.Proofs.YtghpfnhmlpfgcaaGreat
namespace Go.Proofs.YtghpfnhmlpfgcaaGreat
open Go.RowKit
set_option maxRecDepth 100000 in
set_option maxHeartbeats 4000000 in
theorem rl_cor1 {N lo hi : Nat} {w : World} {gb gl gm m n : Nat} {X : Nat → Nat → Rat} {y p : Nat → Rat} {pv : List Nat} {F : Nat → Nat → Rat} {A3 : Option Addr} {c3 : Nat}
  (hb : w.cell? ⟨gb, 0, none⟩ = some (.pointer (some ⟨gm, 0, none⟩))) (hl : w.cell? ⟨gl, 2, none⟩ = some (.slice A3 m c3)) (h : MdlV N w gm m n X y p pv F) (hp : LsV N lo hi w (.slice A3 m c3) m p)
  {i j : Nat} (hi' : i < m) (hj : j < m) (hm : m < 1000000) (hz : Sz (F i j)) (hz1 : Sz (p i)) (hz2 : Sz (((1 : Int) : Rat) / p i)) (h0 : p i ≠ 0) :
  Calls Tryz.prog 88 #[.int .i64 (i : Int), .int .i64 (j : Int), .pointer (some ⟨gb, 0, none⟩), .pointer (some ⟨gl, 0, none⟩)] w (RetR N w (if i = j then - F i j + ((1 : Int) : Rat) / p i else - F i j)) := by
 obtain ⟨q, hq⟩ := hid_eq (if i = j then - F i j + ((1 : Int) : Rat) / p i else - F i j)
 rw [← hq.out]
 have HZ := Lib.hid hz
 have HZN : Hid (Sz (- F i j)) := ⟨by rw [Rat.neg_num, Int.natAbs_neg]; exact hz.1, by rw [Rat.neg_den]; exact hz.2⟩
 have HZ1 := Lib.hid hz1
 have HZ2 := Lib.hid hz2
 have HP0 := Lib.hid h0
 obtain ⟨A1, c1, A2, c2, A3', c3', A4, c4, s5, s6, A7, c7, B, h1, h2, h3, h4, h5⟩ := h
 have hN := h1.le
 obtain ⟨b, off, rfl, -, -, hx⟩ := h5.addr (by omega)
 obtain ⟨A5, c5, o0, -, -, hrow⟩ := hx i hi'
 obtain ⟨b2, off2, rfl, -, -, hx2⟩ := hrow.addr (by omega)
 obtain ⟨n1, A6, k6, c6, A8, k8, c8, p0, p1, p2, p3, hb1, g1, g2⟩ := (hx2 j hj).open
 obtain ⟨b3, off3, rfl, -, -, hx3⟩ := hp.addr (by omega)
 obtain ⟨n2, A9, k9, c9, A10, k10, c10, t0, t1, t2, t3, hb2, g3, g4⟩ := (hx3 i hi').open
 obtain ⟨r0, r1, r2, r3, r4, r5, r6⟩ := cells7 B
 clear hx hx2 hx3 hrow h1 h2 h3 h4 h5 hz hz1 hz2 B r0 r1 r2 r3 r4 r5 h0 hp
 go_enter Tryz.func88, Tryz.ntmps88
 go_upto_region 1 with (fail)
 refine boxes1 ?_
 intro W hE hsz B0
 replace hb := hE.cell hb
 replace r6 := hE.cell r6
 replace o0 := hE.cell o0
 replace p0 := hE.cell p0
 replace p1 := hE.cell p1
 replace p2 := hE.cell p2
 replace p3 := hE.cell p3
 go_wp2_with (go_at_call 89; refine Hid.out ?_)
 refine (f_neg ((RatV.mk hb1 g1 g2).ext hE) HZ.out).mono ?_
 intro e w1 hh
 obtain ⟨b9, A11, k11, c11, A12, k12, c12, rfl, hb9, g9, g10, e1⟩ := hh.form
 replace hE := hE.trans e1
 replace B0 := e1.block B0
 have hs1 := e1.size
 clear hh p0 p1 p2 p3 o0 r6 hb1 g1 g2 hb
 go_upto_region 2 with (fail)
 refine boxes1 ?_
 intro w2 e2 hsz2 B2
 replace hE := hE.trans e2
 replace B0 := e2.block B0
 replace g9 := g9.ext e2
 replace g10 := g10.ext e2
 obtain ⟨gx, hgx⟩ : ∃ gx, gx = w1.heap.size := ⟨_, rfl⟩
 have hgw : w.heap.size < gx := by omega
 rw [← hgx] at B2 ⊢
 clear hgx hsz2 e2 e1 hs1
 by_cases hij : i = j
 ·subst hij
  rw [if_pos rfl] at hq
  have hv := RatV.mk hb9 g9 g10
  obtain ⟨x0, x1, x2, x3, -⟩ := cells4 B2
  replace hl := hE.cell hl
  replace t0 := hE.cell t0
  replace t1 := hE.cell t1
  replace t2 := hE.cell t2
  replace t3 := hE.cell t3
  have hs2 := hE.size
  go_upto_region 3 with (fail)
  have eC := (Ext.refl w2).drew
  refine region_late (fun w' => w'.cell? ⟨gx, 0, none⟩ = some (.bool b9) ∧ w'.cell? ⟨gx, 1, none⟩ = some (.slice A11 k11 c11) ∧ w'.cell? ⟨gx, 2, none⟩ = some (.bool false) ∧ w'.cell? ⟨gx, 3, none⟩ = some (.slice A12 k12 c12) ∧ w'.cell? ⟨gl, 2, none⟩ = some (.slice (some ⟨b3, off3, none⟩) m c3) ∧ w'.cell? ⟨b3, off3 + i * 4, none⟩ = some (.bool n2) ∧ w'.cell? ⟨b3, off3 + i * 4 + 1, none⟩ = some (.slice A9 k9 c9) ∧ w'.cell? ⟨b3, off3 + i * 4 + 2, none⟩ = some (.bool false) ∧ w'.cell? ⟨b3, off3 + i * 4 + 3, none⟩ = some (.slice A10 k10 c10)) [9] (by kernel_rfl) (by exact ⟨eC.cell x0, eC.cell x1, eC.cell x2, eC.cell x3, eC.cell hl, eC.cell t0, eC.cell t1, eC.cell t2, eC.cell t3⟩) (fun hHeld => ?_)
  refine sT 0 (h := ?_)
  try simp only [nr]
  refine sP 2 (h := ?_)
  try simp only [nr]
  refine sT 3 (h := ?_)
  try simp only [nr]
  refine sP 4 (h := ?_)
  try simp only [nr]
  refine sP 5 (h := ?_)
  try simp only [nr]
  refine sT 6 (h := ?_)
  try simp only [nr]
  refine stepL_only (i := 1) rfl (by kernel_rfl) (fun K hK => ?_)
  go_simp
  refine (rl_whole (N := N) (by have := eC.size; omega) 1 (by decide) (by decide)).mono ?_
  rintro e w5 ⟨v5, rfl, h5, e5⟩
  replace eC := eC.trans e5
  go_wp2_with fail
  clear hHeld
  refine hK.out _ _ (by exact ⟨eC.cell x0, eC.cell x1, eC.cell x2, eC.cell x3, eC.cell hl, eC.cell t0, eC.cell t1, eC.cell t2, eC.cell t3⟩) fun hHeld => ?_
  clear hK K
  try simp only [nr]
  refine stepL_only (i := 7) rfl (by kernel_rfl) (fun K hK => ?_)
  go_simp
  refine (rl_over h5 (by exact (RatV.mk hb2 g3 g4).ext (hE.trans eC)) (Ht.one.sz (by omega)) HZ1.out HP0.out).mono ?_
  rintro e w6 ⟨v6, rfl, h6, e6⟩
  replace eC := eC.trans e6
  go_wp2_with fail
  clear hHeld
  refine hK.out _ _ (by exact ⟨eC.cell x0, eC.cell x1, eC.cell x2, eC.cell x3, eC.cell hl, eC.cell t0, eC.cell t1, eC.cell t2, eC.cell t3⟩) fun hHeld => ?_
  clear hK K
  try simp only [nr]
  refine stepL_only (i := 8) rfl (by kernel_rfl) (fun K hK => ?_)
  go_simp
  refine (f_add (by exact hv.ext eC) h6 HZN.out HZ2.out).mono ?_
  rw [← hq.out]
  intro e w7 hh
  obtain ⟨b13, A13, k13, c13, A14, k14, c14, rfl, hb13, g13, g14, e7⟩ := hh.form
  replace eC := eC.trans e7
  have D0 := eC.block B2
  obtain ⟨u0, u1, u2, u3, u4, u5, u6, u7⟩ := cells4 D0
  go_wp2_with fail
  clear hHeld
  refine hK.out _ _ (by exact ⟨eC.cell x0, eC.cell x1, eC.cell x2, eC.cell x3, eC.cell hl, eC.cell t0, eC.cell t1, eC.cell t2, eC.cell t3⟩) fun hHeld => ?_
  clear hK K
  try simp only [nr]
  refine stepL_late (i := 9) rfl (by kernel_rfl) (by kernel_rfl) (fun K hK => ?_)
  go_simp
  refine hK.out _ _ ?_
  clear hK K
  try simp only [nr]
  refine stepL_done (by kernel_rfl) ?_ _
  clear hHeld
  replace B0 := eC.block B0
  replace hE := hE.trans eC
  go_upto_region 4 with (fail)
  clear u0 u1 u2 u3 u4 u5 u6 u7 x0 x1 x2 x3
  obtain ⟨w8, E8, hB8, K8, hs8⟩ := boxSet (q := q) D0 (by omega) hb13 g13 g14
  rw [E8]
  replace hE := K8.ext hE (by omega)
  replace B0 := K8.blk B0 (.inl hgw)
  obtain ⟨s1, S1, S2, S3, S4, S5, S6, x0, x1, x2, x3, -, -, -, -, hR, -⟩ := hB8.open
  obtain ⟨n9, S7, k15, c15, S8, k16, c16, e9, hb15, g15, g16⟩ := hR.parts
  injection e9 with e9
  simp only [Array.mk.injEq, List.cons.injEq, Value.bool.injEq, Value.slice.injEq] at e9
  obtain ⟨rfl, ⟨rfl, rfl, rfl⟩, -, ⟨rfl, rfl, rfl⟩, -⟩ := e9
  obtain ⟨u0, u1, u2, u3, u4, u5, u6, u7⟩ := cells4 B0
  go_wp2
  exact fin_rat rfl rfl rfl hE B0 (by omega) hN g15 g16 hb15
 ·rw [if_neg hij] at hq
  have hne : ((i : Int) == (j : Int)) = false := by simp; omega
  obtain ⟨x0, x1, x2, x3, -⟩ := cells4 B2
  obtain ⟨u0, u1, u2, u3, u4, u5, u6, u7⟩ := cells4 B0
  rw [← hq.out] at hb9 g9 g10
  go_wp2
  exact fin_rat rfl rfl rfl hE B0 (by omega) hN g9 g10 hb9
theorem anyB_two (f : Nat → Bool) : anyB 2 f = (f 0 || f 1) := by unfold anyB; simp [List.range_succ]
def RetCor (N : Nat) (w : World) (m n : Nat) (X : Nat → Nat → Rat) (p : Nat → Rat) (z u : Int) (e : Ending) (w' : World) : Prop :=
 Ext w w' ∧ (((outB m z || outB m u) = true ∧ e = .returned (.tuple #[nilRat, .int .i64 2])) ∨
  (outB m z = false ∧ outB m u = false ∧ (redOf m n X p z.toNat = 0 ∨ redOf m n X p u.toNat = 0) ∧ e = .returned (.tuple #[nilRat, .int .i64 13])) ∨
  (outB m z = false ∧ outB m u = false ∧ redOf m n X p z.toNat ≠ 0 ∧ redOf m n X p u.toNat ≠ 0 ∧ ∃ v, e = .returned (.tuple #[v, .int .i64 0]) ∧ RatV N w' v (corOf m n X p z.toNat u.toNat)))
set_option maxRecDepth 100000 in
set_option maxHeartbeats 2000000 in
theorem rl_Correlation_bad {N lo hi : Nat} {w : World} {v : Value} {z u : Int} {Z : Lin} (h : LinV N lo hi w v Z) (hs : LinSz Z) (hp : ∀ i, i < Z.np → RawS (Z.p i)) (hc : codeOf Z ≠ 0) :
  Calls Tryz.prog 42 #[v, .int .i64 z, .int .i64 u] w (RetV w (.tuple #[nilRat, .int .i64 (codeOf Z)])) := by
 have HS := Lib.hid hs
 have HP := Lib.hid hp
 have HC := Lib.hid hc
 obtain ⟨r, hr⟩ := hid_eq (codeOf Z)
 have hr0 : (r == 0) = false := by rw [hr.out]; simpa using hc
 have hr1 : (r != 0) = true := by simpa using hr0
 rw [← hr.out]
 have hI := h
 obtain ⟨A1, c1, A2, c2, A3, c3, rfl, h1, h2, h3, hm, hnl, hnp⟩ := h.parts
 clear h h1 h2 h3 hc hs hp
 go_enter Tryz.func42, Tryz.ntmps42
 go_wp2_with (go_at_call 87; refine Hid.out ?_)
 refine boxesC3 ?_
 intro W hE hsz B0 B1 B2
 refine (rl_indexed_bad (hI.ext hE) HS.out HP.out HC.out).mono ?_
 rintro e w1 ⟨rfl, e1⟩
 rw [← hr.out]
 replace B1 := e1.block B1
 have hs1 := e1.size
 go_upto_region 2 with (fail)
 refine boxes1 ?_
 intro w2 e2 hsz2 B3
 replace B1 := e2.block B1
 obtain ⟨t0, t1, t2, t3, t4, t5, t6, t7⟩ := cells4 B1
 go_wp2
 obtain ⟨w12, E12, F2, U⟩ := ex4 B1 (.bool false) (.slice none 0 0) (.bool false) (.slice none 0 0)
 rw [E12]
 obtain ⟨z0, z1, z2, z3, -⟩ := cells4 F2
 refine bodyPost_ret (v := .tuple #[nilRat, .int .i64 r]) ?_ rfl ⟨rfl, U.ext ((hE.trans e1).trans e2) (by omega)⟩
 simp [results, Tryz.results42, z0, z1, z2, z3, go_sem, nilRat]
set_option maxRecDepth 100000 in
set_option maxHeartbeats 4000000 in
theorem rl_Correlation {N lo hi : Nat} {w : World} {v1 v2 v3 : Value} {z u : Int} {m n : Nat} {X : Nat → Nat → Rat} {y p : Nat → Rat} (h1 : MtV N lo hi w v1 m n X) (h2 : LsV N lo hi w v2 m y) (h3 : LsV N lo hi w v3 m p) (hm0 : 0 < m) (hm : m ≤ 6) (hn0 : 0 < n) (hn : n ≤ 4) (hpos : ∀ i, i < m → 0 < p i)
  (hkx : HtM m n 17 X) (hky : HtL m 17 y) (hkp : HtL m 17 p) :
  Calls Tryz.prog 42 #[.agg #[v1, v2, v3], .int .i64 z, .int .i64 u] w (RetCor N w m n X p z u) := by
 have hfh := few_fit_ht hm hn hkx hkp
 have HX := Lib.hid hkx
 have HY := Lib.hid hky
 have HP := Lib.hid hkp
 have HPOS := Lib.hid hpos
 have HSZ : Hid (∀ i, i < m → ∀ j, j < m → Sz (fitsOf m n X p i j) ∧ Sz (p i) ∧ Sz (((1 : Int) : Rat) / p i) ∧ p i ≠ 0) := fun i hi j hj =>
  ⟨(hfh i hi j hj).sz (by omega), (hkp i hi).sz (by omega), ((Ht.one : Ht 1 ((1 : Int) : Rat)).div (hkp i hi)).sz (by omega), fun e => absurd (hpos i hi) (by rw [e]; decide)⟩
 have HCH : Hid (∀ i, i < m → ∀ j, j < m → Ht 5000100 (cqOf m n X p i j)) := fun i hi j hj => by
  unfold cqOf
  split
  ·exact ((hfh i hi j hj).neg.add ((Ht.one : Ht 1 ((1 : Int) : Rat)).div (hkp i hi))).mono (by omega)
  ·exact (hfh i hi j hj).neg.mono (by omega)
 obtain ⟨Rf, hRf⟩ := hid_eq (RetCor N w m n X p z u)
 rw [← hRf.out]
 have hN := h1.le
 obtain ⟨A1, c1, rfl, hmc, hcm⟩ := h1.form
 obtain ⟨A2, c2, rfl, hmc2, hcm2⟩ := h2.form
 obtain ⟨A3, c3, rfl, hmc3, hcm3⟩ := h3.form
 have hI1 := h1
 have hI2 := h2
 have hI3 := h3
 clear h1 h2 h3 hkx hky hkp hpos hfh
 go_enter Tryz.func42, Tryz.ntmps42
 go_wp2_with (go_at_call 87; refine Hid.out ?_)
 refine boxesC3 ?_
 intro W hE hsz B0 B1 B2
 have hiz : IzV N 0 0 W (.slice (some ⟨w.heap.size + 1 + 1, 0, none⟩) 2 2) 2 (fun k => if k = 0 then z else u) := ⟨rfl, _, 2, rfl, Nat.le_refl _, by unfold maxLen; omega, fun _ => ⟨_, 0, rfl, fun i hi => by
  have h9 : i = 0 ∨ i = 1 := by omega
  rcases h9 with rfl | rfl
  ·exact (cells2 B2).1
  ·exact (cells2 B2).2.1⟩⟩
 refine (rl_indexed (hI1.ext hE) (hI2.ext hE) (hI3.ext hE) hiz hm0 hm hn0 hn HPOS.out HX.out HY.out HP.out).mono ?_
 rintro e w1 ⟨e1, hh⟩
 rw [anyB_two, anyB_two] at hh
 simp only [if_pos, Nat.one_ne_zero, if_false] at hh
 replace B0 := e1.block B0
 replace B1 := e1.block B1
 have hE1 := hE.trans e1
 have hs1 := e1.size
 rcases hh with ⟨hA, rfl⟩ | ⟨hA, hD, rfl⟩ | ⟨hA, hD, gm, rfl, hM⟩
 ·have HA := Lib.hid hA
  clear hA
  go_upto_region 2 with (fail)
  refine boxes1 ?_
  intro w2 e2 hsz2 B3
  replace B1 := e2.block B1
  obtain ⟨t0, t1, t2, t3, t4, t5, t6, t7⟩ := cells4 B1
  go_wp2
  obtain ⟨w12, E12, F2, U⟩ := ex4 B1 (.bool false) (.slice none 0 0) (.bool false) (.slice none 0 0)
  rw [E12]
  obtain ⟨z0, z1, z2, z3, -⟩ := cells4 F2
  refine bodyPost_ret (v := .tuple #[nilRat, .int .i64 2]) ?_ rfl ?_
  ·simp [results, Tryz.results42, z0, z1, z2, z3, go_sem, nilRat]
  ·rw [hRf.out]
   exact ⟨U.ext (hE1.trans e2) (by omega), .inl ⟨HA.out, rfl⟩⟩
 ·have HA := Lib.hid (hA 0 (by omega))
  have HA1 := Lib.hid (hA 1 (by omega))
  have HD := Lib.hid hD
  clear hA hD
  go_upto_region 2 with (fail)
  refine boxes1 ?_
  intro w2 e2 hsz2 B3
  replace B1 := e2.block B1
  obtain ⟨t0, t1, t2, t3, t4, t5, t6, t7⟩ := cells4 B1
  go_wp2
  obtain ⟨w12, E12, F2, U⟩ := ex4 B1 (.bool false) (.slice none 0 0) (.bool false) (.slice none 0 0)
  rw [E12]
  obtain ⟨z0, z1, z2, z3, -⟩ := cells4 F2
  refine bodyPost_ret (v := .tuple #[nilRat, .int .i64 13]) ?_ rfl ?_
  ·simp [results, Tryz.results42, z0, z1, z2, z3, go_sem, nilRat]
  ·rw [hRf.out]
   refine ⟨U.ext (hE1.trans e2) (by omega), .inr (.inl ⟨HA.out, HA1.out, ?_, rfl⟩)⟩
   have h9 := HD.out
   rw [Bool.or_eq_true] at h9
   exact h9.imp of_decide_eq_true of_decide_eq_true
 ·have HA := Lib.hid (hA 0 (by omega))
  have HA1 := Lib.hid (hA 1 (by omega))
  have HD := Lib.hid (hD 0 (by omega))
  have HD1 := Lib.hid (hD 1 (by omega))
  obtain ⟨hz1, hz2⟩ := outB_false (hA 0 (by omega))
  obtain ⟨hu1, hu2⟩ := outB_false (hA 1 (by omega))
  rw [if_pos rfl] at HA HD hz1 hz2
  rw [if_neg (by omega)] at HA1 HD1 hu1 hu2
  obtain ⟨i, hi⟩ := hid_eq z.toNat
  obtain ⟨j, hj⟩ := hid_eq u.toNat
  rw [← hi.out] at hz1 hz2 HD
  rw [← hj.out] at hu1 hu2 HD1
  obtain rfl : z = (i : Int) := hz2
  obtain rfl : u = (j : Int) := hu2
  have HPR : Hid (cqOf m n X p i i * cqOf m n X p j j ≠ 0) := cq_prod HPOS.out hz1 hu1 HD.out HD1.out
  obtain ⟨CQ, hCQ⟩ := hid_eq (cqOf m n X p)
  obtain ⟨q, hq⟩ := hid_eq (corOf m n X p i j)
  have HQ : Hid (q = CQ i j * CQ i j / (CQ i i * CQ j j)) := by rw [Hid, hq.out, hCQ.out]; rfl
  rw [← hCQ.out] at HCH HPR
  have HF : ∀ a b : Nat, Hid ((if a = b then - fitsOf m n X p a b + ((1 : Int) : Rat) / p a else - fitsOf m n X p a b) = CQ a b) := fun a b => by rw [Hid, hCQ.out]; rfl
  have hs2 := hE1.size
  have hN1 : N ≤ w1.heap.size := by omega
  clear hA hD
  go_upto_region 2 with (fail)
  refine boxes1 ?_
  intro w2 e2 hsz2 B3
  replace B0 := e2.block B0
  replace B1 := e2.block B1
  replace hM := hM.ext e2
  replace hE1 := hE1.trans e2
  obtain ⟨gx, hgx⟩ : ∃ gx, gx = w1.heap.size := ⟨_, rfl⟩
  rw [← hgx] at B3 ⊢
  clear hgx e2 e1
  have b3 := (cells1 B3).1
  obtain ⟨a0, a1, a2, -⟩ := cells3 B0
  go_wp2_with (go_at_call 88; refine Hid.out ?_)
  refine (rl_cor1 b3 a2 hM (hI3.ext hE1) hz1 hu1 (by omega) (HSZ.out i hz1 j hu1).1 (HSZ.out i hz1 j hu1).2.1 (HSZ.out i hz1 j hu1).2.2.1 (HSZ.out i hz1 j hu1).2.2.2).mono ?_
  rw [(HF i j).out]
  intro e w3 hh
  obtain ⟨b4, A4, k4, c4, A5, k5, c5, rfl, hb4, g4, g5, e3⟩ := hh.form
  replace B0 := e3.block B0
  replace B1 := e3.block B1
  replace B3 := e3.block B3
  replace hM := hM.ext e3
  replace hE1 := hE1.trans e3
  have hs3 := e3.size
  clear b3 a0 a1 a2 hh
  go_upto_region 6 with (fail)
  refine boxes1 ?_
  intro w4 e4 hsz4 B4
  have hv := (RatV.mk hb4 g4 g5).ext e4
  replace B0 := e4.block B0
  replace B1 := e4.block B1
  replace B3 := e4.block B3
  replace hM := hM.ext e4
  replace hE1 := hE1.trans e4
  obtain ⟨gy, hgy⟩ : ∃ gy, gy = w3.heap.size := ⟨_, rfl⟩
  rw [← hgy] at B4 ⊢
  clear hgy e3
  have b3 := (cells1 B3).1
  obtain ⟨a0, a1, a2, -⟩ := cells3 B0
  obtain ⟨x0, x1, x2, x3, -⟩ := cells4 B4
  go_wp2_with (go_at_call 61; refine Hid.out ?_)
  refine (rl_mul hv hv ((HCH.out i hz1 j hu1).sz (by omega)) ((HCH.out i hz1 j hu1).sz (by omega))).mono ?_
  rintro e w5 ⟨v5, rfl, h5, e5⟩
  replace B0 := e5.block B0
  replace B1 := e5.block B1
  replace B3 := e5.block B3
  replace hM := hM.ext e5
  replace hE1 := hE1.trans e5
  have hs5 := e5.size
  clear b3 a0 a1 a2 x0 x1 x2 x3
  have b3 := (cells1 B3).1
  obtain ⟨a0, a1, a2, -⟩ := cells3 B0
  go_wp2_with (go_at_call 88; refine Hid.out ?_)
  refine (rl_cor1 b3 a2 hM (hI3.ext hE1) hz1 hz1 (by omega) (HSZ.out i hz1 i hz1).1 (HSZ.out i hz1 i hz1).2.1 (HSZ.out i hz1 i hz1).2.2.1 (HSZ.out i hz1 i hz1).2.2.2).mono ?_
  rw [(HF i i).out]
  rintro e w6 ⟨v6, rfl, h6, e6⟩
  replace B0 := e6.block B0
  replace B1 := e6.block B1
  replace B3 := e6.block B3
  replace hM := hM.ext e6
  replace hE1 := hE1.trans e6
  replace h5 := h5.ext e6
  have hs6 := e6.size
  clear b3 a0 a1 a2
  have b3 := (cells1 B3).1
  obtain ⟨a0, a1, a2, -⟩ := cells3 B0
  go_wp2_with (go_at_call 88; refine Hid.out ?_)
  refine (rl_cor1 b3 a2 hM (hI3.ext hE1) hu1 hu1 (by omega) (HSZ.out j hu1 j hu1).1 (HSZ.out j hu1 j hu1).2.1 (HSZ.out j hu1 j hu1).2.2.1 (HSZ.out j hu1 j hu1).2.2.2).mono ?_
  rw [(HF j j).out]
  rintro e w7 ⟨v7, rfl, h7, e7⟩
  replace B1 := e7.block B1
  replace hE1 := hE1.trans e7
  replace h5 := h5.ext e7
  replace h6 := h6.ext e7
  have hs7 := e7.size
  clear b3 a0 a1 a2
  go_wp2_with (go_at_call 61; refine Hid.out ?_)
  refine (rl_mul h6 h7 ((HCH.out i hz1 i hz1).sz (by omega)) ((HCH.out j hu1 j hu1).sz (by omega))).mono ?_
  rintro e w8 ⟨v8, rfl, h8, e8⟩
  replace B1 := e8.block B1
  replace hE1 := hE1.trans e8
  replace h5 := h5.ext e8
  have hs8 := e8.size
  go_wp2_with (go_at_call 62; refine Hid.out ?_)
  refine (rl_over h5 h8 (((HCH.out i hz1 j hu1).mul (HCH.out i hz1 j hu1)).sz (by omega)) (((HCH.out i hz1 i hz1).mul (HCH.out j hu1 j hu1)).sz (by omega)) HPR.out).mono ?_
  rw [← HQ.out]
  intro e w9 hh
  obtain ⟨b9, A15, k15, c15, A16, k16, c16, rfl, hb9, g9, g10, e9⟩ := hh.form
  have D1 := e9.block B1
  have hs9 := e9.size
  obtain ⟨u0, u1, u2, u3, u4, u5, u6, u7⟩ := cells4 D1
  obtain ⟨w12, E12, F2, U⟩ := ex4 D1 (.bool b9) (.slice A15 k15 c15) (.bool false) (.slice A16 k16 c16)
  go_wp2
  try rw [E12]
  obtain ⟨z0, z1, z2, z3, -⟩ := cells4 F2
  refine bodyPost_ret (v := .tuple #[.agg #[.bool b9, .slice A15 k15 c15, .bool false, .slice A16 k16 c16], .int .i64 0]) ?_ rfl ?_
  ·simp [results, Tryz.results42, z0, z1, z2, z3, go_sem]
  ·rw [hRf.out]
   refine ⟨U.ext (hE1.trans e9) (by omega), .inr (.inr ⟨HA.out, HA1.out, by rw [Int.toNat_natCast]; exact HD.out, by rw [Int.toNat_natCast]; exact HD1.out, _, rfl, ?_⟩)⟩
   rw [Int.toNat_natCast, Int.toNat_natCast, ← hq.out]
   exact RatV.mk hb9 (g9.upd U (by omega) (NoU.mk D1 (by decide))) (g10.upd U (by omega) (NoU.mk D1 (by decide)))
end Go.Proofs.YtghpfnhmlpfgcaaGreat
namespace Go.Proofs.YtghpfnhmlpfgcaaGreat
open Go.RowKit
set_option maxRecDepth 100000 in
set_option maxHeartbeats 4000000 in
theorem l37_cor1 {N lo hi lo' hi' : Nat} {w : World} {gh gl m : Nat} {H : Nat → Nat → Rat} {p : Nat → Rat} {A3 A4 : Option Addr} {c3 c4 : Nat}
  (hb : w.cell? ⟨gh, 0, none⟩ = some (.slice A4 m c4)) (hl : w.cell? ⟨gl, 2, none⟩ = some (.slice A3 m c3)) (h : MtV N lo' hi' w (.slice A4 m c4) m m H) (hp : LsV N lo hi w (.slice A3 m c3) m p)
  {i j : Nat} (hi' : i < m) (hj : j < m) (hm : m < 1000000) {k : Nat} (hz : Ht k (H i j)) (hz1 : Ht k (p j)) (hk : k ≤ 6000000) (h0 : p j ≠ 0) :
  Calls Tryz.prog 44 #[.int .i64 (i : Int), .int .i64 (j : Int), .pointer (some ⟨gh, 0, none⟩), .pointer (some ⟨gl, 0, none⟩)] w (RetR N w ((if i = j then - H i j + ((1 : Int) : Rat) else - H i j) / p j)) := by
 obtain ⟨y, hy⟩ := hid_eq (if i = j then - H i j + ((1 : Int) : Rat) else - H i j)
 rw [← hy.out]
 obtain ⟨q, hq⟩ := hid_eq (y / p j)
 rw [← hq.out]
 have HZ : Hid (Sz (H i j)) := hz.sz (by omega)
 have HZN : Hid (Sz (- H i j)) := hz.neg.sz (by omega)
 have HZ1 : Hid (Sz (p j)) := hz1.sz (by omega)
 have HZY : Hid (Sz y) := by
  rw [Hid, hy.out]
  split
  ·exact (hz.neg.add (Ht.one : Ht 1 ((1 : Int) : Rat))).sz (by omega)
  ·exact hz.neg.sz (by omega)
 have HP0 := Lib.hid h0
 have hN := h.le
 obtain ⟨b, off, rfl, -, -, hx⟩ := h.addr (by omega)
 obtain ⟨A5, c5, o0, -, -, hrow⟩ := hx i hi'
 obtain ⟨b2, off2, rfl, -, -, hx2⟩ := hrow.addr (by omega)
 obtain ⟨n1, A6, k6, c6, A8, k8, c8, p0, p1, p2, p3, hb1, g1, g2⟩ := (hx2 j hj).open
 obtain ⟨b3, off3, rfl, -, -, hx3⟩ := hp.addr (by omega)
 obtain ⟨n2, A9, k9, c9, A10, k10, c10, t0, t1, t2, t3, hb2, g3, g4⟩ := (hx3 j hj).open
 clear hx hx2 hx3 hrow hz hz1 h0 hp h
 go_enter Tryz.func44, Tryz.ntmps44
 go_upto_region 1 with (fail)
 refine boxes1 ?_
 intro W hE hsz B0
 replace hb := hE.cell hb
 replace o0 := hE.cell o0
 replace p0 := hE.cell p0
 replace p1 := hE.cell p1
 replace p2 := hE.cell p2
 replace p3 := hE.cell p3
 go_wp2_with (go_at_call 45; refine Hid.out ?_)
 refine (r2_neg ((RatV.mk hb1 g1 g2).ext hE) HZ.out).mono ?_
 intro e w1 hh
 obtain ⟨b9, A11, k11, c11, A12, k12, c12, rfl, hb9, g9, g10, e1⟩ := hh.form
 replace hE := hE.trans e1
 replace B0 := e1.block B0
 have hs1 := e1.size
 clear hh p0 p1 p2 p3 o0 hb1 g1 g2 hb
 go_upto_region 2 with (fail)
 refine boxes1 ?_
 intro w2 e2 hsz2 B2
 replace hE := hE.trans e2
 replace B0 := e2.block B0
 replace g9 := g9.ext e2
 replace g10 := g10.ext e2
 obtain ⟨gx, hgx⟩ : ∃ gx, gx = w1.heap.size := ⟨_, rfl⟩
 have hgw : w.heap.size < gx := by omega
 rw [← hgx] at B2 ⊢
 clear hgx hsz2 e2 e1 hs1
 by_cases hij : i = j
 ·obtain rfl : j = i := hij.symm
  rw [if_pos rfl] at hy
  have hv := RatV.mk hb9 g9 g10
  obtain ⟨x0, x1, x2, x3, -⟩ := cells4 B2
  have hs2 := hE.size
  go_upto_region 3 with (fail)
  have eC := (Ext.refl w2).drew
  refine region_late (fun w' => w'.cell? ⟨gx, 0, none⟩ = some (.bool b9) ∧ w'.cell? ⟨gx, 1, none⟩ = some (.slice A11 k11 c11) ∧ w'.cell? ⟨gx, 2, none⟩ = some (.bool false) ∧ w'.cell? ⟨gx, 3, none⟩ = some (.slice A12 k12 c12)) [3] (by kernel_rfl) (by exact ⟨eC.cell x0, eC.cell x1, eC.cell x2, eC.cell x3⟩) (fun hHeld => ?_)
  refine sT 0 (h := ?_)
  try simp only [nr]
  refine stepL_only (i := 1) rfl (by kernel_rfl) (fun K hK => ?_)
  go_simp
  refine (l37_one (N := N) (by have := eC.size; omega)).mono ?_
  rintro e w5 ⟨v5, rfl, h5, e5⟩
  replace eC := eC.trans e5
  go_wp2_with fail
  clear hHeld
  refine hK.out _ _ (by exact ⟨eC.cell x0, eC.cell x1, eC.cell x2, eC.cell x3⟩) fun hHeld => ?_
  clear hK K
  try simp only [nr]
  refine stepL_only (i := 2) rfl (by kernel_rfl) (fun K hK => ?_)
  go_simp
  refine (r2_add (by exact hv.ext eC) h5 HZN.out (Ht.one.sz (by omega))).mono ?_
  rw [← hy.out]
  intro e w7 hh
  obtain ⟨b13, A13, k13, c13, A14, k14, c14, rfl, hb13, g13, g14, e7⟩ := hh.form
  replace eC := eC.trans e7
  have D0 := eC.block B2
  obtain ⟨u0, u1, u2, u3, u4, u5, u6, u7⟩ := cells4 D0
  go_wp2_with fail
  clear hHeld
  refine hK.out _ _ (by exact ⟨eC.cell x0, eC.cell x1, eC.cell x2, eC.cell x3⟩) fun hHeld => ?_
  clear hK K
  try simp only [nr]
  refine stepL_late (i := 3) rfl (by kernel_rfl) (by kernel_rfl) (fun K hK => ?_)
  go_simp
  refine hK.out _ _ ?_
  clear hK K
  try simp only [nr]
  refine stepL_done (by kernel_rfl) ?_ _
  clear hHeld
  replace B0 := eC.block B0
  replace hE := hE.trans eC
  go_upto_region 4 with (fail)
  clear u0 u1 u2 u3 u4 u5 u6 u7 x0 x1 x2 x3 eC
  obtain ⟨w8, E8, hB8, K8, hs8⟩ := boxSet (q := y) D0 (by omega) hb13 g13 g14
  rw [E8]
  replace hE := K8.ext hE (by omega)
  replace B0 := K8.blk B0 (.inl hgw)
  clear E8 K8 D0 g13 g14 hb13 hs8
  obtain ⟨s1, S1, S2, S3, S4, S5, S6, x0, x1, x2, x3, -, -, -, -, hR, BX⟩ := hB8.open
  replace hl := hE.cell hl
  replace t0 := hE.cell t0
  replace t1 := hE.cell t1
  replace t2 := hE.cell t2
  replace t3 := hE.cell t3
  have eC := (Ext.refl w8).drew
  refine region_late (fun w' => w'.cell? ⟨gx, 0, none⟩ = some (.bool s1) ∧ w'.cell? ⟨gx, 1, none⟩ = some (.slice S1 S2 S3) ∧ w'.cell? ⟨gx, 2, none⟩ = some (.bool false) ∧ w'.cell? ⟨gx, 3, none⟩ = some (.slice S4 S5 S6) ∧ w'.cell? ⟨gl, 2, none⟩ = some (.slice (some ⟨b3, off3, none⟩) m c3) ∧ w'.cell? ⟨b3, off3 + j * 4, none⟩ = some (.bool n2) ∧ w'.cell? ⟨b3, off3 + j * 4 + 1, none⟩ = some (.slice A9 k9 c9) ∧ w'.cell? ⟨b3, off3 + j * 4 + 2, none⟩ = some (.bool false) ∧ w'.cell? ⟨b3, off3 + j * 4 + 3, none⟩ = some (.slice A10 k10 c10)) [10] (by kernel_rfl) (by exact ⟨eC.cell x0, eC.cell x1, eC.cell x2, eC.cell x3, eC.cell hl, eC.cell t0, eC.cell t1, eC.cell t2, eC.cell t3⟩) (fun hHeld => ?_)
  refine sT 0 (h := ?_)
  try simp only [nr]
  refine sP 1 (h := ?_)
  try simp only [nr]
  refine sT 2 (h := ?_)
  try simp only [nr]
  refine sP 3 (h := ?_)
  try simp only [nr]
  refine sP 4 (h := ?_)
  try simp only [nr]
  refine sT 5 (h := ?_)
  try simp only [nr]
  refine stepL_only (i := 6) rfl (by kernel_rfl) (fun K hK => ?_)
  go_simp
  refine (r2_divide (by exact hR.ext eC) (by exact (RatV.mk hb2 g3 g4).ext (hE.trans eC)) HZY.out HZ1.out HP0.out).mono ?_
  rw [← hq.out]
  intro e w9 hh
  obtain ⟨b16, A16, k16, c16, A17, k17, c17, rfl, hb16, g16, g17, e14⟩ := RetRC.form hh
  replace eC := eC.trans e14
  have D0 := eC.block BX
  obtain ⟨u0, u1, u2, u3, u4, u5, u6, u7⟩ := cells4 D0
  go_wp2_with fail
  clear hHeld
  refine hK.out _ _ (by exact ⟨eC.cell x0, eC.cell x1, eC.cell x2, eC.cell x3, eC.cell hl, eC.cell t0, eC.cell t1, eC.cell t2, eC.cell t3⟩) fun hHeld => ?_
  clear hK K
  try simp only [nr]
  refine sP 7 (h := ?_)
  try simp only [nr]
  refine sP 8 (h := ?_)
  try simp only [nr]
  refine sP 9 (h := ?_)
  try simp only [nr]
  refine stepL_late (i := 10) rfl (by kernel_rfl) (by kernel_rfl) (fun K hK => ?_)
  go_simp
  refine hK.out _ _ ?_
  clear hK K
  try simp only [nr]
  refine stepL_done (by kernel_rfl) ?_ _
  clear hHeld
  replace B0 := eC.block B0
  replace hE := hE.trans eC
  go_upto_region 5 with (fail)
  clear u0 u1 u2 u3 u4 u5 u6 u7 x0 x1 x2 x3
  obtain ⟨w10, E10, hB10, K10, hs10⟩ := boxSet (q := q) D0 (by omega) hb16 g16 g17
  rw [E10]
  replace hE := K10.ext hE (by omega)
  replace B0 := K10.blk B0 (.inl hgw)
  obtain ⟨y1, Y1, Y2, Y3, Y4, Y5, Y6, x0, x1, x2, x3, -, -, -, -, hR2, -⟩ := hB10.open
  obtain ⟨n9, S7, k15, c15, S8, k16', c16', e9, hb15, g15, g16'⟩ := hR2.parts
  injection e9 with e9
  simp only [Array.mk.injEq, List.cons.injEq, Value.bool.injEq, Value.slice.injEq] at e9
  obtain ⟨rfl, ⟨rfl, rfl, rfl⟩, -, ⟨rfl, rfl, rfl⟩, -⟩ := e9
  obtain ⟨u0, u1, u2, u3, u4, u5, u6, u7⟩ := cells4 B0
  go_wp2
  exact fin_rat rfl rfl rfl hE B0 (by omega) hN g15 g16' hb15
 ·rw [if_neg hij] at hy
  have hne : ((i : Int) == (j : Int)) = false := by simp; omega
  rw [← hy.out] at hb9 g9 g10
  have hB8 : BoxR N w2 gx y := BoxR.mk B2 hb9 g9 g10
  obtain ⟨w8, rfl⟩ : ∃ w8, w8 = w2 := ⟨_, rfl⟩
  go_upto_region 4 with (fail)
  obtain ⟨s1, S1, S2, S3, S4, S5, S6, x0, x1, x2, x3, -, -, -, -, hR, BX⟩ := hB8.open
  replace hl := hE.cell hl
  replace t0 := hE.cell t0
  replace t1 := hE.cell t1
  replace t2 := hE.cell t2
  replace t3 := hE.cell t3
  have eC := (Ext.refl w8).drew
  refine region_late (fun w' => w'.cell? ⟨gx, 0, none⟩ = some (.bool s1) ∧ w'.cell? ⟨gx, 1, none⟩ = some (.slice S1 S2 S3) ∧ w'.cell? ⟨gx, 2, none⟩ = some (.bool false) ∧ w'.cell? ⟨gx, 3, none⟩ = some (.slice S4 S5 S6) ∧ w'.cell? ⟨gl, 2, none⟩ = some (.slice (some ⟨b3, off3, none⟩) m c3) ∧ w'.cell? ⟨b3, off3 + j * 4, none⟩ = some (.bool n2) ∧ w'.cell? ⟨b3, off3 + j * 4 + 1, none⟩ = some (.slice A9 k9 c9) ∧ w'.cell? ⟨b3, off3 + j * 4 + 2, none⟩ = some (.bool false) ∧ w'.cell? ⟨b3, off3 + j * 4 + 3, none⟩ = some (.slice A10 k10 c10)) [10] (by kernel_rfl) (by exact ⟨eC.cell x0, eC.cell x1, eC.cell x2, eC.cell x3, eC.cell hl, eC.cell t0, eC.cell t1, eC.cell t2, eC.cell t3⟩) (fun hHeld => ?_)
  refine sT 0 (h := ?_)
  try simp only [nr]
  refine sP 1 (h := ?_)
  try simp only [nr]
  refine sT 2 (h := ?_)
  try simp only [nr]
  refine sP 3 (h := ?_)
  try simp only [nr]
  refine sP 4 (h := ?_)
  try simp only [nr]
  refine sT 5 (h := ?_)
  try simp only [nr]
  refine stepL_only (i := 6) rfl (by kernel_rfl) (fun K hK => ?_)
  go_simp
  refine (r2_divide (by exact hR.ext eC) (by exact (RatV.mk hb2 g3 g4).ext (hE.trans eC)) HZY.out HZ1.out HP0.out).mono ?_
  rw [← hq.out]
  intro e w9 hh
  obtain ⟨b16, A16, k16, c16, A17, k17, c17, rfl, hb16, g16, g17, e14⟩ := RetRC.form hh
  replace eC := eC.trans e14
  have D0 := eC.block BX
  obtain ⟨u0, u1, u2, u3, u4, u5, u6, u7⟩ := cells4 D0
  go_wp2_with fail
  clear hHeld
  refine hK.out _ _ (by exact ⟨eC.cell x0, eC.cell x1, eC.cell x2, eC.cell x3, eC.cell hl, eC.cell t0, eC.cell t1, eC.cell t2, eC.cell t3⟩) fun hHeld => ?_
  clear hK K
  try simp only [nr]
  refine sP 7 (h := ?_)
  try simp only [nr]
  refine sP 8 (h := ?_)
  try simp only [nr]
  refine sP 9 (h := ?_)
  try simp only [nr]
  refine stepL_late (i := 10) rfl (by kernel_rfl) (by kernel_rfl) (fun K hK => ?_)
  go_simp
  refine hK.out _ _ ?_
  clear hK K
  try simp only [nr]
  refine stepL_done (by kernel_rfl) ?_ _
  clear hHeld
  replace B0 := eC.block B0
  replace hE := hE.trans eC
  go_upto_region 5 with (fail)
  clear u0 u1 u2 u3 u4 u5 u6 u7 x0 x1 x2 x3
  obtain ⟨w10, E10, hB10, K10, hs10⟩ := boxSet (q := q) D0 (by omega) hb16 g16 g17
  rw [E10]
  replace hE := K10.ext hE (by omega)
  replace B0 := K10.blk B0 (.inl hgw)
  obtain ⟨y1, Y1, Y2, Y3, Y4, Y5, Y6, x0, x1, x2, x3, -, -, -, -, hR2, -⟩ := hB10.open
  obtain ⟨n9, S7, k15, c15, S8, k16', c16', e9, hb15, g15, g16'⟩ := hR2.parts
  injection e9 with e9
  simp only [Array.mk.injEq, List.cons.injEq, Value.bool.injEq, Value.slice.injEq] at e9
  obtain ⟨rfl, ⟨rfl, rfl, rfl⟩, -, ⟨rfl, rfl, rfl⟩, -⟩ := e9
  obtain ⟨u0, u1, u2, u3, u4, u5, u6, u7⟩ := cells4 B0
  go_wp2
  exact fin_rat rfl rfl rfl hE B0 (by omega) hN g15 g16' hb15
end Go.Proofs.YtghpfnhmlpfgcaaGreat
namespace Go.Proofs.YtghpfnhmlpfgcaaGreat
open Go.RowKit
set_option maxRecDepth 100000 in
set_option maxHeartbeats 4000000 in
theorem co_out {N lo hi : Nat} {w : World} {v : Value} {z u : Int} {Z : Lin} (h : LinV N lo hi w v Z) (hs : fewB Z = false) :
  Calls Tryz.prog 6 #[v, .int .i64 z, .int .i64 u] w (RetV w (.bool true)) := by
 have hI := h
 obtain ⟨A1, c1, A2, c2, A3, c3, rfl, -⟩ := h.parts
 have HS := Lib.hid hs
 clear h hs
 go_enter Tryz.func6, Tryz.ntmps6
 go_wp2_with (go_at_call 9; refine Hid.out ?_)
 refine boxesC1 ?_
 intro W hE hsz B0
 refine (l37_known W).mono ?_
 rintro e w1 ⟨rfl, e1⟩
 replace hE := hE.trans e1
 replace B0 := e1.block B0
 have hs1 := e1.size
 replace hsz : w.heap.size < w1.heap.size := by omega
 clear e1 hs1
 obtain ⟨a0, a1, a2, -⟩ := cells3 B0
 go_wp2_with (go_at_call 10; refine Hid.out ?_)
 refine (l37_few (hI.ext hE)).mono ?_
 rintro e w2 ⟨rfl, e2⟩
 rw [HS.out]
 replace hE := hE.trans e2
 replace B0 := e2.block B0
 have hs2 := e2.size
 replace hsz : w.heap.size < w2.heap.size := by omega
 clear a0 a1 a2 e2 hs2
 obtain ⟨a0, a1, a2, -⟩ := cells3 B0
 go_wp2
 go_ret
 exact ⟨rfl, hE⟩
set_option maxRecDepth 100000 in
set_option maxHeartbeats 4000000 in
theorem co_bad {N lo hi : Nat} {w : World} {v : Value} {z u : Int} {Z : Lin} (h : LinV N lo hi w v Z) (hs : fewB Z = true) (hc : codeOf Z ≠ 0) :
  Calls Tryz.prog 6 #[v, .int .i64 z, .int .i64 u] w (RetV w (.bool true)) := by
 have hI := h
 obtain ⟨A1, c1, A2, c2, A3, c3, rfl, -⟩ := h.parts
 obtain ⟨f1, f2, f3⟩ := few_sz hs
 have HS := Lib.hid hs
 have HC := Lib.hid hc
 have HF2 := Lib.hid f2
 have HF3 := Lib.hid f3
 have HF1 := Lib.hid f1
 obtain ⟨r, hr⟩ := hid_eq (codeOf Z)
 have hr0 : (r == 0) = false := by rw [hr.out]; simpa using hc
 have hr1 : (r != 0) = true := by simpa using hr0
 have hr2 : (r == r) = true := by simp
 clear h hs hc f1 f2 f3
 go_enter Tryz.func6, Tryz.ntmps6
 go_wp2_with (go_at_call 9; refine Hid.out ?_)
 refine boxesC1 ?_
 intro W hE hsz B0
 refine (l37_known W).mono ?_
 rintro e w1 ⟨rfl, e1⟩
 replace hE := hE.trans e1
 replace B0 := e1.block B0
 have hs1 := e1.size
 replace hsz : w.heap.size < w1.heap.size := by omega
 clear e1 hs1
 obtain ⟨a0, a1, a2, -⟩ := cells3 B0
 go_wp2_with (go_at_call 10; refine Hid.out ?_)
 refine (l37_few (hI.ext hE)).mono ?_
 rintro e w2 ⟨rfl, e2⟩
 rw [HS.out]
 replace hE := hE.trans e2
 replace B0 := e2.block B0
 have hs2 := e2.size
 replace hsz : w.heap.size < w2.heap.size := by omega
 clear a0 a1 a2 e2 hs2
 obtain ⟨a0, a1, a2, -⟩ := cells3 B0
 go_wp2_with (go_at_call 42; refine Hid.out ?_)
 refine (rl_Correlation_bad (hI.ext hE) HF2.out HF3.out HC.out).mono ?_
 rintro e w4 ⟨rfl, e4⟩
 rw [← hr.out]
 unfold nilRat
 replace hE := hE.trans e4
 replace B0 := e4.block B0
 replace hsz := blk_lt B0
 clear a0 a1 a2
 obtain ⟨a0, a1, a2, -⟩ := cells3 B0
 go_upto_region 6 with (fail)
 refine boxes1 ?_
 intro w6 e6 hsz6 B6
 replace hE := hE.trans e6
 replace B0 := e6.block B0
 replace hsz := blk_lt B0
 clear a0 a1 a2
 obtain ⟨a0, a1, a2, -⟩ := cells3 B0
 go_wp2_with (go_at_call 14; refine Hid.out ?_)
 refine (l37_code (hI.ext hE) HF2.out HF3.out HF1.out).mono ?_
 rintro e w7 ⟨rfl, e7⟩
 rw [← hr.out]
 replace hE := hE.trans e7
 replace B6 := e7.block B6
 clear a0 a1 a2
 obtain ⟨d0, d1, d2, d3, -⟩ := cells4 B6
 go_wp2_with (go_at_call 15; refine Hid.out ?_)
 refine r2_zero.mono ?_
 rintro e w8 ⟨rfl, e8⟩
 go_wp2
 go_ret
 exact ⟨rfl, hE.trans e8⟩
set_option maxRecDepth 100000 in
set_option maxHeartbeats 8000000 in
theorem co_range {N lo hi : Nat} {w : World} {A1 A2 A3 : Option Addr} {c1 c2 c3 m n : Nat} {X : Nat → Nat → Rat} {y p : Nat → Rat} {Z : Lin} {z u : Int}
  (hI : LinV N lo hi w (.agg #[.slice A1 m c1, .slice A2 m c2, .slice A3 m c3]) Z) (hs : fewB Z = true) (hc : codeOf Z = 0)
  (h1 : MtV N lo hi w (.slice A1 m c1) m n X) (h2 : LsV N lo hi w (.slice A2 m c2) m y) (h3 : LsV N lo hi w (.slice A3 m c3) m p) (hm0 : 0 < m) (hm : m ≤ 6) (hn0 : 0 < n) (hn : n ≤ 4) (hpos : ∀ i, i < m → 0 < p i)
  (hkx : HtM m n 17 X) (hky : HtL m 17 y) (hkp : HtL m 17 p) (hout : (outB m z || outB m u) = true) :
  Calls Tryz.prog 6 #[.agg #[.slice A1 m c1, .slice A2 m c2, .slice A3 m c3], .int .i64 z, .int .i64 u] w (RetV w (.bool true)) := by
 have HO := Lib.hid hout
 have HOO : Hid (z < 0 ∨ (¬ z < 0 ∧ u < 0) ∨ (¬ z < 0 ∧ ¬ u < 0 ∧ (m : Int) ≤ z) ∨ (¬ z < 0 ∧ ¬ u < 0 ∧ ¬ (m : Int) ≤ z ∧ (m : Int) ≤ u)) := by
  rw [Hid]
  unfold outB at hout
  simp only [Bool.or_eq_true, decide_eq_true_eq] at hout
  omega
 clear hout
 obtain ⟨f1, f2, f3⟩ := few_sz hs
 have HS := Lib.hid hs
 have HC := Lib.hid hc
 have HF2 := Lib.hid f2
 have HF3 := Lib.hid f3
 have HF1 := Lib.hid f1
 have HX := Lib.hid hkx
 have HY := Lib.hid hky
 have HP := Lib.hid hkp
 have HPOS := Lib.hid hpos
 have hN := h1.le
 clear hs hc f1 f2 f3 hkx hky hkp hpos
 go_enter Tryz.func6, Tryz.ntmps6
 go_wp2_with (go_at_call 9; refine Hid.out ?_)
 refine boxesC1 ?_
 intro W hE hsz B0
 refine (l37_known W).mono ?_
 rintro e w1 ⟨rfl, e1⟩
 replace hE := hE.trans e1
 replace B0 := e1.block B0
 have hs1 := e1.size
 replace hsz : w.heap.size < w1.heap.size := by omega
 clear e1 hs1
 obtain ⟨a0, a1, a2, -⟩ := cells3 B0
 go_wp2_with (go_at_call 10; refine Hid.out ?_)
 refine (l37_few (hI.ext hE)).mono ?_
 rintro e w2 ⟨rfl, e2⟩
 rw [HS.out]
 replace hE := hE.trans e2
 replace B0 := e2.block B0
 have hs2 := e2.size
 replace hsz : w.heap.size < w2.heap.size := by omega
 clear a0 a1 a2 e2 hs2
 obtain ⟨a0, a1, a2, -⟩ := cells3 B0
 go_wp2_with (go_at_call 42; refine Hid.out ?_)
 refine (rl_Correlation (h1.ext hE) (h2.ext hE) (h3.ext hE) hm0 hm hn0 hn HPOS.out HX.out HY.out HP.out).mono ?_
 rintro e w4 ⟨e4, hh⟩
 replace hE := hE.trans e4
 replace B0 := e4.block B0
 replace hsz := blk_lt B0
 clear a0 a1 a2
 obtain ⟨a0, a1, a2, -⟩ := cells3 B0
 rcases hh with ⟨-, rfl⟩ | ⟨h0, h1, -⟩ | ⟨h0, h1, -⟩
 ·unfold nilRat
  go_upto_region 6 with (fail)
  refine boxes1 ?_
  intro w6 e6 hsz6 B6
  replace hE := hE.trans e6
  replace B0 := e6.block B0
  replace hsz := blk_lt B0
  clear a0 a1 a2
  obtain ⟨a0, a1, a2, -⟩ := cells3 B0
  go_wp2_with (go_at_call 14; refine Hid.out ?_)
  refine (l37_code (hI.ext hE) HF2.out HF3.out HF1.out).mono ?_
  rintro e w7 ⟨rfl, e7⟩
  rw [HC.out]
  have e67 := e6.trans e7
  replace B6 := e7.block B6
  replace hE := hE.trans e7
  replace B0 := e7.block B0
  replace hsz := blk_lt B0
  clear a0 a1 a2
  obtain ⟨a0, a1, a2, -⟩ := cells3 B0
  clear e7 e6 hsz6
  rcases HOO.out with h0 | ⟨h0, h1⟩ | ⟨h0, h1, h2⟩ | ⟨h0, h1, h2, h3⟩
  ·obtain ⟨d0, d1, d2, d3, -⟩ := cells4 B6
   go_wp2_with (go_at_call 15; refine Hid.out ?_)
   refine r2_zero.mono ?_
   rintro e w8 ⟨rfl, e8⟩
   go_wp2
   go_ret
   exact ⟨rfl, hE.trans e8⟩
  ·obtain ⟨d0, d1, d2, d3, -⟩ := cells4 B6
   go_wp2_with (go_at_call 15; refine Hid.out ?_)
   refine r2_zero.mono ?_
   rintro e w8 ⟨rfl, e8⟩
   go_wp2
   go_ret
   exact ⟨rfl, hE.trans e8⟩
  ·obtain ⟨d0, d1, d2, d3, -⟩ := cells4 B6
   go_wp2_with (go_at_call 15; refine Hid.out ?_)
   refine r2_zero.mono ?_
   rintro e w8 ⟨rfl, e8⟩
   go_wp2
   go_ret
   exact ⟨rfl, hE.trans e8⟩
  ·obtain ⟨d0, d1, d2, d3, -⟩ := cells4 B6
   go_wp2_with (go_at_call 15; refine Hid.out ?_)
   refine r2_zero.mono ?_
   rintro e w8 ⟨rfl, e8⟩
   go_wp2
   go_ret
   exact ⟨rfl, hE.trans e8⟩
 ·have h9 := HO.out; rw [h0, h1] at h9; cases h9
 ·have h9 := HO.out; rw [h0, h1] at h9; cases h9
end Go.Proofs.YtghpfnhmlpfgcaaGreat
namespace Go.Proofs.YtghpfnhmlpfgcaaGreat
open Go.RowKit
set_option maxRecDepth 100000 in
set_option maxHeartbeats 8000000 in
theorem co_deg {N lo hi : Nat} {w : World} {A1 A2 A3 : Option Addr} {c1 c2 c3 m n : Nat} {X : Nat → Nat → Rat} {y p : Nat → Rat} {Z : Lin} {i j : Nat}
  (hI : LinV N lo hi w (.agg #[.slice A1 m c1, .slice A2 m c2, .slice A3 m c3]) Z) (hs : fewB Z = true) (hc : codeOf Z = 0)
  (h1 : MtV N lo hi w (.slice A1 m c1) m n X) (h2 : LsV N lo hi w (.slice A2 m c2) m y) (h3 : LsV N lo hi w (.slice A3 m c3) m p) (hm0 : 0 < m) (hm : m ≤ 6) (hn0 : 0 < n) (hn : n ≤ 4) (hpos : ∀ i, i < m → 0 < p i)
  (hkx : HtM m n 17 X) (hky : HtL m 17 y) (hkp : HtL m 17 p) (hi' : i < m) (hj' : j < m) (hz : redOf m n X p i = 0 ∨ redOf m n X p j = 0) :
  Calls Tryz.prog 6 #[.agg #[.slice A1 m c1, .slice A2 m c2, .slice A3 m c3], .int .i64 (i : Int), .int .i64 (j : Int)] w (RetV w (.bool true)) := by
 have HZ := Lib.hid hz
 have hfh := few_fit_ht hm hn hkx hkp
 obtain ⟨RD, hRD⟩ := hid_eq (redOf m n X p)
 have HSI : Hid (∀ i, i < m → Sz (RD i)) := fun i hi' => by
  rw [hRD.out]
  exact (Ht.sub (k := 1) Ht.one ((hfh i hi' i hi').mul (hkp i hi'))).sz (by omega)
 have HOB : Hid (outB m (i : Int) = false) := by
  rw [Hid]; unfold outB; rw [decide_eq_false (by omega), decide_eq_false (by omega)]; rfl
 have HOB2 : Hid (outB m (j : Int) = false) := by
  rw [Hid]; unfold outB; rw [decide_eq_false (by omega), decide_eq_false (by omega)]; rfl
 clear hz hfh
 obtain ⟨f1, f2, f3⟩ := few_sz hs
 have HS := Lib.hid hs
 have HC := Lib.hid hc
 have HF2 := Lib.hid f2
 have HF3 := Lib.hid f3
 have HF1 := Lib.hid f1
 have HX := Lib.hid hkx
 have HY := Lib.hid hky
 have HP := Lib.hid hkp
 have HPOS := Lib.hid hpos
 have hN := h1.le
 clear hs hc f1 f2 f3 hkx hky hkp hpos
 go_enter Tryz.func6, Tryz.ntmps6
 go_wp2_with (go_at_call 9; refine Hid.out ?_)
 refine boxesC1 ?_
 intro W hE hsz B0
 refine (l37_known W).mono ?_
 rintro e w1 ⟨rfl, e1⟩
 replace hE := hE.trans e1
 replace B0 := e1.block B0
 have hs1 := e1.size
 replace hsz : w.heap.size < w1.heap.size := by omega
 clear e1 hs1
 obtain ⟨a0, a1, a2, -⟩ := cells3 B0
 go_wp2_with (go_at_call 10; refine Hid.out ?_)
 refine (l37_few (hI.ext hE)).mono ?_
 rintro e w2 ⟨rfl, e2⟩
 rw [HS.out]
 replace hE := hE.trans e2
 replace B0 := e2.block B0
 have hs2 := e2.size
 replace hsz : w.heap.size < w2.heap.size := by omega
 clear a0 a1 a2 e2 hs2
 obtain ⟨a0, a1, a2, -⟩ := cells3 B0
 go_wp2_with (go_at_call 42; refine Hid.out ?_)
 refine (rl_Correlation (h1.ext hE) (h2.ext hE) (h3.ext hE) hm0 hm hn0 hn HPOS.out HX.out HY.out HP.out).mono ?_
 rintro e w4 ⟨e4, hh⟩
 replace hE := hE.trans e4
 replace B0 := e4.block B0
 replace hsz := blk_lt B0
 clear a0 a1 a2
 obtain ⟨a0, a1, a2, -⟩ := cells3 B0
 rcases hh with ⟨h0, -⟩ | ⟨-, -, -, rfl⟩ | ⟨-, -, h0, h9, -⟩
 ·rw [HOB.out, HOB2.out] at h0; cases h0
 ·unfold nilRat
  go_upto_region 6 with (fail)
  refine boxes1 ?_
  intro w6 e6 hsz6 B6
  replace hE := hE.trans e6
  replace B0 := e6.block B0
  replace hsz := blk_lt B0
  clear a0 a1 a2
  obtain ⟨a0, a1, a2, -⟩ := cells3 B0
  go_wp2_with (go_at_call 14; refine Hid.out ?_)
  refine (l37_code (hI.ext hE) HF2.out HF3.out HF1.out).mono ?_
  rintro e w7 ⟨rfl, e7⟩
  rw [HC.out]
  have e67 := e6.trans e7
  replace B6 := e7.block B6
  replace hE := hE.trans e7
  replace B0 := e7.block B0
  replace hsz := blk_lt B0
  clear a0 a1 a2
  obtain ⟨a0, a1, a2, -⟩ := cells3 B0
  clear e7 e6 hsz6
  go_wp2_with (go_at_call 27; refine Hid.out ?_)
  refine (l37_redundancy (h1.ext hE) (h2.ext hE) (h3.ext hE) hm0 hm hn0 hn HPOS.out HX.out HP.out).mono ?_
  rintro e w8 ⟨A8, c8, rfl, h8, e8⟩
  rw [← hRD.out] at h8
  replace B6 := e8.block B6
  replace hE := hE.trans e8
  replace B0 := e8.block B0
  replace hsz := blk_lt B0
  clear a0 a1 a2
  obtain ⟨a0, a1, a2, -⟩ := cells3 B0
  have h8' := h8
  obtain ⟨b, off, rfl, -, -, hx⟩ := LsV.addr h8 hm0
  obtain ⟨n1, A9, k9, c9, A10, k10, c10, p0, p1, p2, p3, hb1, g1, g2⟩ := (hx i hi').open
  clear hx h8
  go_wp2_with (go_at_call 28; refine Hid.out ?_)
  refine (r2_sign (RatV.mk hb1 g1 g2) (HSI.out i hi')).mono ?_
  rintro e w9 ⟨rfl, e9⟩
  replace B6 := e9.block B6
  clear p0 p1 p2 p3
  replace hE := hE.trans e9
  replace B0 := e9.block B0
  replace hsz := blk_lt B0
  clear a0 a1 a2
  obtain ⟨a0, a1, a2, -⟩ := cells3 B0
  by_cases hzi : redOf m n X p i = 0
  ·have HSG : Hid ((RD i).num.sign = 0) := by rw [Hid, hRD.out, hzi]; rfl
   rw [HSG.out]
   clear hzi a0 a1 a2
   obtain ⟨d0, d1, d2, d3, -⟩ := cells4 B6
   go_wp2_with (go_at_call 15; refine Hid.out ?_)
   refine r2_zero.mono ?_
   rintro e w8 ⟨rfl, e8⟩
   go_wp2
   go_ret
   exact ⟨rfl, hE.trans e8⟩
  ·have HZJ : Hid (redOf m n X p j = 0) := HZ.out.resolve_left hzi
   obtain ⟨sg, hsg⟩ := hid_eq (RD i).num.sign
   have hsg0 : (sg == 0) = false := by
    rw [hsg.out, sign_zero]
    exact decide_eq_false (by rw [hRD.out]; exact hzi)
   rw [← hsg.out]
   replace h8' := h8'.ext e9
   obtain ⟨b', off', ea, -, -, hx⟩ := LsV.addr h8' hm0
   injection ea with ea
   injection ea with ea1 ea2
   subst ea1 ea2
   obtain ⟨n1', A9', k9', c9', A10', k10', c10', p0, p1, p2, p3, hb1', g1', g2'⟩ := (hx j hj').open
   clear hx h8' hzi g1 g2
   go_wp2_with (go_at_call 28; refine Hid.out ?_)
   refine (r2_sign (RatV.mk hb1' g1' g2') (HSI.out j hj')).mono ?_
   rintro e w10 ⟨rfl, e10⟩
   have HSG : Hid ((RD j).num.sign = 0) := by rw [Hid, hRD.out, HZJ.out]; rfl
   rw [HSG.out]
   replace B6 := e10.block B6
   clear p0 p1 p2 p3
   replace hE := hE.trans e10
   replace B0 := e10.block B0
   replace hsz := blk_lt B0
   clear a0 a1 a2
   obtain ⟨a0, a1, a2, -⟩ := cells3 B0
   clear a0 a1 a2
   obtain ⟨d0, d1, d2, d3, -⟩ := cells4 B6
   go_wp2_with (go_at_call 15; refine Hid.out ?_)
   refine r2_zero.mono ?_
   rintro e w8 ⟨rfl, e8⟩
   go_wp2
   go_ret
   exact ⟨rfl, hE.trans e8⟩
 ·rw [Int.toNat_natCast] at h0 h9
  rcases HZ.out with h | h
  ·exact absurd h h0
  ·exact absurd h h9
end Go.Proofs.YtghpfnhmlpfgcaaGreat
