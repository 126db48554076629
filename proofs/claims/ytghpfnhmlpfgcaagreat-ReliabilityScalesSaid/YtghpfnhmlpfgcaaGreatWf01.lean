import Derived.Test.YtghpfnhmlpfgcaaGreatWb01
import Derived.Test.YtghpfnhmlpfgcaaGreatWb02
import Derived.Test.YtghpfnhmlpfgcaaGreatWb03
import Derived.Test.YtghpfnhmlpfgcaaGreatWb04
import Derived.Test.YtghpfnhmlpfgcaaGreatWb05
import Derived.Test.YtghpfnhmlpfgcaaGreatWb06
import Derived.Test.YtghpfnhmlpfgcaaGreatWb07
import Derived.Test.YtghpfnhmlpfgcaaGreatWb08
import Derived.Test.YtghpfnhmlpfgcaaGreatWb09
import Derived.Test.YtghpfnhmlpfgcaaGreatWb10
import Derived.Test.YtghpfnhmlpfgcaaGreatWb11
import Derived.Test.YtghpfnhmlpfgcaaGreatWb12
import Derived.Test.YtghpfnhmlpfgcaaGreatWb13
import Derived.Test.YtghpfnhmlpfgcaaGreatWb14
import Derived.Test.YtghpfnhmlpfgcaaGreatWb15
import Derived.Test.YtghpfnhmlpfgcaaGreatWb16
import Derived.Test.YtghpfnhmlpfgcaaGreatWb17
import Derived.Test.YtghpfnhmlpfgcaaGreatWb18
import Derived.Test.YtghpfnhmlpfgcaaGreatWb19
import Derived.Test.YtghpfnhmlpfgcaaGreatWb20
import Derived.Test.YtghpfnhmlpfgcaaGreatWb21
import Derived.Test.YtghpfnhmlpfgcaaGreatWb22
import Derived.Test.YtghpfnhmlpfgcaaGreatWb23
import Derived.Test.YtghpfnhmlpfgcaaGreatWb24
import Derived.Test.YtghpfnhmlpfgcaaGreatWb25
import Derived.Test.YtghpfnhmlpfgcaaGreatWb26
import Derived.Test.YtghpfnhmlpfgcaaGreatWb27
import Derived.Test.YtghpfnhmlpfgcaaGreatWb28
import Derived.Test.YtghpfnhmlpfgcaaGreatWb29
import Derived.Test.YtghpfnhmlpfgcaaGreatWb30
import Derived.Test.YtghpfnhmlpfgcaaGreatWb31
import Derived.Test.YtghpfnhmlpfgcaaGreatWb32
import Derived.Test.YtghpfnhmlpfgcaaGreatWb33
import Derived.Test.YtghpfnhmlpfgcaaGreatWb34
import Derived.Test.YtghpfnhmlpfgcaaGreatWb35
import Derived.Test.YtghpfnhmlpfgcaaGreatWb36
import Derived.Test.YtghpfnhmlpfgcaaGreatWb37
import Derived.Test.YtghpfnhmlpfgcaaGreatWb38
import Derived.Test.YtghpfnhmlpfgcaaGreatWb39
import Derived.Test.YtghpfnhmlpfgcaaGreatWb40
import Derived.Test.YtghpfnhmlpfgcaaGreatWb41
import Derived.Test.YtghpfnhmlpfgcaaGreatWb42
import Derived.Deep.RegionHeld3
import Derived.Deep.AppendLies
import Derived.WalkKit
import Derived.WalkSpells
import Derived.WalkLawsBesides
import Derived.Lib.Hide
import Derived.Deep.QuietTactic
import Derived.BigQuiet
import Derived.Maps.AppendAt
import Derived.Deep.DeepCutAuto
import Derived.Deep.RegionWith
import Derived.Deep.DeepMust
import Derived.Deep.CutBlock
import Derived.OrdersIn
import Derived.RegionTactic
import Derived.RangeFuncNested
import Derived.RangeFuncBound
import Derived.RangeFuncCalls
import Derived.RangeFuncLeaves
import Derived.RangeFuncBox
import Derived.Shelf.Abstract
import Derived.OwnWalkIn
import Derived.TacticsInMore
import Derived.LoopNIn
import Derived.LoopIn
import Derived.Laws.IdiomCopy
import Derived.Shelf.Bits.Mul64
set_option linter.all false
namespace Go.Proofs.YtghpfnhmlpfgcaaGreat
open Go.RowKit
set_option maxHeartbeats 2000000 in
theorem r2_sameMatrix {N lo hi lo' hi' : Nat} {w : World} {v v' : Value} {m n : Nat} {x y : Nat → Nat → Rat} (h : MtV N lo hi w v m n x) (h' : MtV N lo' hi' w v' m n y) (hz : ∀ i, i < m → ∀ j, j < n → Sz (x i j)) (he : ∀ i, i < m → ∀ j, j < n → x i j = y i j) :
  Calls Tryz.prog 38 #[v, v'] w (RetV w (.bool true)) := by
 obtain ⟨A, c, rfl, hnc, hcm⟩ := h.form
 obtain ⟨A', c', rfl, hnc', hcm'⟩ := h'.form
 unfold maxLen at hcm hcm'
 have hI := h
 have hI' := h'
 have HZ := Lib.hid hz
 have HE := Lib.hid he
 clear hz he h h'
 go_enter Tryz.func38, Tryz.ntmps38
 go_wp2
 go_loopw [5] (fun i wr => ∃ k : Nat, k ≤ m ∧ i = .int .i64 k ∧ Ext w wr) (fun i _ => m - (intOf i).toNat)
 case atStart => exact ⟨0, Nat.zero_le _, rfl, Ext.refl w⟩
 case round =>
  obtain ⟨k, hk, rfl, hE⟩ := hrel
  by_cases hlt : k < m
  ·obtain ⟨b, off, rfl, -, -, hx⟩ := (hI.ext hE).addr (by omega)
   obtain ⟨b', off', rfl, -, -, hx'⟩ := (hI'.ext hE).addr (by omega)
   obtain ⟨A1, c1, p0, -, -, hv⟩ := hx k hlt
   obtain ⟨A3, c3, q0, -, -, hv'⟩ := hx' k hlt
   clear hx hx'
   go_wp2
   have eC := (Ext.refl wr).drew
   refine region_late (fun w' => w'.cell? ⟨b, off + k, none⟩ = some (.slice A1 n c1) ∧ w'.cell? ⟨b', off' + k, none⟩ = some (.slice A3 n c3)) [] (by kernel_rfl) (by exact ⟨eC.cell p0, eC.cell q0⟩) (fun hHeld => ?_)
   refine sP 0 (h := ?_)
   try simp only [nr]
   refine sP 1 (h := ?_)
   try simp only [nr]
   refine sP 2 (h := ?_)
   try simp only [nr]
   refine sT 3 (h := ?_)
   try simp only [nr]
   refine sP 4 (h := ?_)
   try simp only [nr]
   refine sP 5 (h := ?_)
   try simp only [nr]
   refine sP 6 (h := ?_)
   try simp only [nr]
   refine sT 7 (h := ?_)
   try simp only [nr]
   refine stepL_only (i := 8) rfl (by kernel_rfl) (fun K hK => ?_)
   go_simp
   refine (r2_sameList (x := x k) (y := y k) (by exact hv.ext eC) (by exact hv'.ext eC) (HZ.out k hlt) (HE.out k hlt)).mono ?_
   rintro e w1 ⟨rfl, e1⟩
   replace eC := eC.trans e1
   go_wp2_with fail
   clear hHeld
   refine hK.out _ _ (by exact ⟨eC.cell p0, eC.cell q0⟩) fun hHeld => ?_
   clear hK K
   try simp only [nr]
   refine sP 9 (h := ?_)
   try simp only [nr]
   refine stepL_done (by kernel_rfl) ?_ _
   clear hHeld
   go_wp2
   go_roundw
   case rel => exact ⟨k + 1, by omega, by go_num, hE.trans eC⟩
   case measure => simp [intOf]; omega
  ·go_wp2
   go_ret
   exact ⟨rfl, hE⟩
end Go.Proofs.YtghpfnhmlpfgcaaGreat
namespace Go.Proofs.YtghpfnhmlpfgcaaGreat
open Go.RowKit
set_option maxHeartbeats 4000000 in
theorem r5_identity {N : Nat} {w : World} (hN : N ≤ w.heap.size) (n : Nat) {N' : Int} (hN' : N' = (n : Int)) (hn0 : 0 < n) (hn : n < 1000000) :
  Calls Tryz.prog 83 #[.int .i64 N'] w (RetOwn N w n n dlt) := by
 subst hN'
 go_enter Tryz.func83, Tryz.ntmps83
 go_wp2_with (go_at_call 41; refine Hid.out ?_)
 refine (r5_zeros hN n n rfl rfl hn hn0 hn).mono ?_
 rintro e w1 ⟨h, cap, β, κ, rfl, hcap, ho, hE⟩
 have hs1 := hE.size
 go_wp2
 go_loopw [4] (fun i wr => ∃ k : Nat, k ≤ n ∧ i = .int .i64 k ∧ Ext w wr ∧ ∃ B, OwnM N w.heap.size w1.heap.size wr h cap n n β κ B ∧ Hid (∀ i, i < n → ∀ j, j < n → B i j = if i < k then dlt i j else 0)) (fun i _ => n - (intOf i).toNat)
 case atStart => exact ⟨0, Nat.zero_le _, rfl, hE, _, ho, fun i hi j hj => by simp⟩
 case round =>
  clear hE ho
  obtain ⟨k, hk, rfl, hE, B, ho, HB⟩ := hrel
  have hsz := ho.his
  by_cases hlt : k < n
  ·have r0 := ho.hcell hlt
   go_wp2
   have eC := (Ext.refl wr).drew
   refine region_late (fun w' => w'.cell? ⟨h, k, none⟩ = some (.slice (some ⟨β k, 0, none⟩) n (κ k))) [7] (by kernel_rfl) (by exact eC.cell r0) (fun hHeld => ?_)
   refine sP 0 (h := ?_)
   try simp only [nr]
   refine sP 1 (h := ?_)
   try simp only [nr]
   refine sP 2 (h := ?_)
   try simp only [nr]
   refine sT 3 (h := ?_)
   try simp only [nr]
   refine sP 4 (h := ?_)
   try simp only [nr]
   refine stepL_only (i := 5) rfl (by kernel_rfl) (fun K hK => ?_)
   go_simp
   refine (r5_whole (N := N) (by show N ≤ wr.heap.size; omega) 1 (by omega) (by omega)).mono ?_
   intro e w2 hh
   obtain ⟨n1, A3, k3, c3, A4, k4, c4, rfl, hb1, g1, g2, e1⟩ := hh.form
   replace eC := eC.trans e1
   have ho2 := ho.ext eC
   obtain ⟨zb, zA, zn, zc, zA2, zn2, zc2, t0, t1, t2, t3, t4, t5, t6, t7, -⟩ := (ho2.row k hlt).at_ hlt
   go_wp2_with fail
   clear hHeld
   refine hK.out _ _ (by exact eC.cell r0) fun hHeld => ?_
   clear hK K
   try simp only [nr]
   refine sP 6 (h := ?_)
   try simp only [nr]
   refine stepL_late (i := 7) rfl (by kernel_rfl) (by kernel_rfl) (fun K hK => ?_)
   go_simp
   refine hK.out _ _ ?_
   clear hK K
   try simp only [nr]
   refine stepL_done (by kernel_rfl) ?_ _
   clear hHeld
   obtain ⟨w6, E6, C6, hs6, hr6⟩ := (ho2.row k hlt).set (i := k) (q := ((1 : Int) : Rat)) (by have := (ho2.row k hlt).2.1; omega) (by omega) hb1 g1 g2
   rw [E6]
   clear E6
   have ho6 := ho2.setRow hlt C6 (hr6.less (n' := n) (by omega))
   replace hE := C6.ext (hE.trans eC) (ho.lo_ k hlt)
   go_wp2
   go_roundw
   case rel => exact ⟨k + 1, by omega, by go_num, hE, _, ho6, fun i hi j hj => (by
     unfold updM
     by_cases e : i = k
     ·subst e
      rw [if_pos rfl, if_pos (by omega)]
      unfold upd
      by_cases e2 : j = i
      ·subst e2; rw [if_pos rfl, dlt_same]; rfl
      ·rw [if_neg e2, HB.out i hi j hj, if_neg (by omega), dlt_ne (by omega)]
     ·rw [if_neg e, HB.out i hi j hj]
      by_cases e2 : i < k
      ·rw [if_pos e2, if_pos (by omega)]
      ·rw [if_neg e2, if_neg (by omega)])⟩
   case measure => simp [intOf]; omega
  ·obtain rfl : k = n := by omega
   go_wp2
   go_ret
   exact ⟨h, cap, β, κ, rfl, hcap, (ho.congr (fun i hi j hj => by rw [HB.out i hi j hj, if_pos hi])).wide (Nat.le_refl _) hN ho.his (Nat.le_refl _), hE⟩
end Go.Proofs.YtghpfnhmlpfgcaaGreat
namespace Go.Proofs.YtghpfnhmlpfgcaaGreat
theorem av_congr {n : Nat} {A : Nat → Nat → Rat} {x y : Nat → Rat} {i : Nat} (h : ∀ c, c < n → x c = y c) : av n A x i = av n A y i := sum_congr fun c hc => by rw [h c hc]
end Go.Proofs.YtghpfnhmlpfgcaaGreat
namespace Go.Proofs.YtghpfnhmlpfgcaaGreat
theorem gf_same {m n n' : Nat} {A A' M M' X X' : Nat → Nat → Rat} {P : Nat → Rat} {p p' : List Nat} (h : Model m n A M X P p) (h' : Model m n' A' M' X' P p')
  (hs : ∀ x, ∃ z, ∀ i, i < m → av n' A' x i = av n A z i) (hs' : ∀ x, ∃ z, ∀ i, i < m → av n A x i = av n' A' z i) {i k : Nat} (hi : i < m) (hk : k < m) : gf A X p i k = gf A' X' p' i k := by
 have one : ∀ a b, a < m → b < m → sum m (fun j => gf A X p a j * P j * gf A' X' p' j b) = gf A' X' p' a b := by
  intro a b ha hb
  obtain ⟨x, hx⟩ := h'.col b
  obtain ⟨z, hz⟩ := hs x
  rw [hx a, hz a ha, ← h.fix z a ha]
  exact sum_congr fun j hj => by rw [hx j, hz j hj]
 have two : ∀ a b, a < m → b < m → sum m (fun j => gf A' X' p' a j * P j * gf A X p j b) = gf A X p a b := by
  intro a b ha hb
  obtain ⟨x, hx⟩ := h.col b
  obtain ⟨z, hz⟩ := hs' x
  rw [hx a, hz a ha, ← h'.fix z a ha]
  exact sum_congr fun j hj => by rw [hx j, hz j hj]
 rw [h.symm i k, ← one i k hi hk, ← two k i hk hi]
 refine (sum_congr fun j _ => ?_)
 rw [h.symm i j, h'.symm j k]
 grind
theorem av_mm {n m' : Nat} (A T : Nat → Nat → Rat) (x : Nat → Rat) (i : Nat) : av m' (mm n A T) x i = av n A (av m' T x) i := by
 unfold av mm
 rw [show sum m' (fun c => sum n (fun k => A i k * T k c) * x c) = sum m' (fun c => sum n (fun k => A i k * T k c * x c)) from sum_congr fun c _ => (sum_mul_right n (x c) _).symm, sum_comm]
 exact sum_congr fun k _ => by rw [← sum_mul]; exact sum_congr fun c _ => by grind
theorem gf_mul {m n : Nat} {A A' M M' X X' T S : Nat → Nat → Rat} {P : Nat → Rat} {p p' : List Nat} (h : Model m n A M X P p) (h' : Model m n A' M' X' P p')
  (hA : ∀ i, i < m → ∀ c, c < n → A' i c = mm n A T i c) (hTS : ∀ i, i < n → ∀ c, c < n → mm n T S i c = dlt i c) {i k : Nat} (hi : i < m) (hk : k < m) : gf A X p i k = gf A' X' p' i k := by
 refine gf_same h h' (fun x => ⟨av n T x, fun i hi => ?_⟩) (fun x => ⟨av n S x, fun i hi => ?_⟩) hi hk
 ·rw [← av_mm]
  exact sum_congr fun c hc => by rw [hA i hi c hc]
 ·have e1 : av n A' (av n S x) i = av n (mm n A T) (av n S x) i := sum_congr fun c hc => by rw [hA i hi c hc]
  rw [e1, av_mm]
  refine av_congr fun c hc => ?_
  rw [← av_mm]
  unfold av
  rw [show sum n (fun c_1 => mm n T S c c_1 * x c_1) = sum n (fun c_1 => dlt c c_1 * x c_1) from sum_congr fun d hd => by rw [hTS c hc d hd]]
  exact (sum_dlt hc x).symm
theorem gf_scale {m n : Nat} {A M M' X X' : Nat → Nat → Rat} {P P' : Nat → Rat} {p p' : List Nat} {k : Rat} (h : Model m n A M X P p) (h' : Model m n A M' X' P' p') (hP : ∀ i, i < m → P' i = k * P i)
  {i l : Nat} (hi : i < m) (hl : l < m) : gf A X p i l * P l = gf A X' p' i l * P' l := by
 have one : ∀ a b, a < m → b < m → sum m (fun j => gf A X' p' a j * P' j * gf A X p j b) = gf A X p a b := by
  intro a b ha hb
  obtain ⟨x, hx⟩ := h.col b
  rw [hx a, ← h'.fix x a ha]
  exact sum_congr fun j hj => by rw [hx j]
 have two : ∀ a b, a < m → b < m → sum m (fun j => gf A X p a j * P j * gf A X' p' j b) = gf A X' p' a b := by
  intro a b ha hb
  obtain ⟨x, hx⟩ := h'.col b
  rw [hx a, ← h.fix x a ha]
  exact sum_congr fun j hj => by rw [hx j]
 have e1 : gf A X p i l = k * gf A X' p' i l := by
  rw [h.symm i l, ← one l i hl hi, ← two i l hi hl, ← sum_mul]
  exact sum_congr fun j hj => by rw [hP j hj, h'.symm l j, h.symm j i]; grind
 rw [e1, hP l hl]
 grind
theorem inv_scale {n : Nat} {K K' X X' : Nat → Nat → Rat} {k : Rat} (hK : ∀ i, i < n → ∀ j, j < n → K' i j = k * K i j) (h1 : ∀ i, i < n → ∀ c, c < n → mm n X K i c = dlt i c) (h2 : ∀ i, i < n → ∀ c, c < n → mm n K' X' i c = dlt i c)
  {i j : Nat} (hi : i < n) (hj : j < n) : X i j = k * X' i j := by
 have e1 : mm n X (mm n K' X') i j = X i j := by
  rw [← mm_one X hj (i := i)]
  exact mm_congr (fun _ _ => rfl) (fun c hc => h2 c hc j hj)
 have e2 : mm n (mm n X K') X' i j = k * X' i j := by
  rw [← one_mm X' hi (j := j)]
  show sum n (fun c => mm n X K' i c * X' c j) = k * sum n (fun c => dlt i c * X' c j)
  rw [← sum_mul]
  refine sum_congr fun c hc => ?_
  have e3 : mm n X K' i c = k * dlt i c := by
   rw [← h1 i hi c hc]
   show sum n (fun d => X i d * K' d c) = k * sum n (fun d => X i d * K d c)
   rw [← sum_mul]
   exact sum_congr fun d hd => by rw [hK d hd c hc]; grind
  rw [e3]; grind
 rw [← e1, ← mm_assoc, e2]
end Go.Proofs.YtghpfnhmlpfgcaaGreat
namespace Go.Proofs.YtghpfnhmlpfgcaaGreat
open Go.RowKit
def chk5 (m : Nat) (L : Nat → Nat) (R : Nat → Nat → Raw) : Bool :=
 (decide (1 ≤ m) && decide (m ≤ 64) && decide (1 ≤ L 0) && decide (L 0 ≤ 64)) && allB m (fun i => decide (L i = L 0) && allB (L i) (fun j => okR (R i j)))
def chkI (b : Bool) : Int := if b = true then 0 else 1
set_option maxRecDepth 100000 in
set_option maxHeartbeats 4000000 in
theorem r5_check {N lo hi : Nat} {w : World} {v : Value} {m : Nat} {L : Nat → Nat} {R : Nat → Nat → Raw} (h : MtR N lo hi w v m L R) (hs : ∀ i, i < m → ∀ j, j < L i → RawSz (R i j)) :
  Calls Tryz.prog 32 #[v] w (RetV w (.int .i64 (chkI (chk5 m L R)))) := by
 obtain ⟨r, hr⟩ := hid_eq (chkI (chk5 m L R))
 rw [← hr.out]
 obtain ⟨A, c, rfl, hmc, hcm⟩ := h.form
 unfold maxLen at hcm
 have hI := h
 have HS := Lib.hid hs
 clear h hs
 have HBAD : Hid (¬ (1 ≤ m ∧ m ≤ 64 ∧ 1 ≤ L 0 ∧ L 0 ≤ 64) → r = 1) := fun h9 => by
  have : chk5 m L R = false := by
   unfold chk5
   rw [Bool.and_eq_false_iff]; left
   simp only [Bool.and_eq_false_iff, decide_eq_false_iff_not]; omega
  rw [hr.out, this]; rfl
 have HROW : Hid (∀ k, k < m → (decide (L k = L 0) && allB (L k) (fun j => okR (R k j))) = false → r = 1) := fun k hk h9 => by
  have : chk5 m L R = false := by
   unfold chk5
   rw [Bool.and_eq_false_iff]; right
   exact allB_false hk h9
  rw [hr.out, this]; rfl
 go_enter Tryz.func32, Tryz.ntmps32
 by_cases hm1 : 1 ≤ m
 ·by_cases hm2 : m ≤ 64
  ·obtain ⟨b, off, rfl, -, -, hx⟩ := hI.addr (by omega)
   obtain ⟨AL, cL, p0, hLc, hcL, -⟩ := hx 0 (by omega)
   rw [Nat.add_zero] at p0
   obtain ⟨L0, hL0⟩ := hid_eq (L 0)
   rw [← hL0.out] at p0 hLc HBAD HROW
   unfold maxLen at hcL
   have hbl : b < w.heap.size := cell_lt p0
   by_cases hL1 : 1 ≤ L0
   ·by_cases hL2 : L0 ≤ 64
    ·have HGOOD : Hid ((∀ k, k < m → (decide (L k = L0) && allB (L k) (fun j => okR (R k j))) = true) → r = 0) := fun h9 => by
      have : chk5 m L R = true := by
       unfold chk5
       rw [← hL0.out, allB_true.2 h9]; simp; omega
      rw [hr.out, this]; rfl
     clear HBAD hx
     go_wp2
     go_loopw [3] (fun i wr => ∃ k : Nat, k ≤ m ∧ i = .int .i64 k ∧ Ext w wr ∧ Hid (∀ j, j < k → (decide (L j = L0) && allB (L j) (fun t => okR (R j t))) = true)) (fun i _ => m - (intOf i).toNat)
     case atStart => exact ⟨0, Nat.zero_le _, rfl, Ext.refl w, fun j hj => absurd hj (by omega)⟩
     case round =>
      obtain ⟨k, hk, rfl, hE, HA⟩ := hrel
      by_cases hlt : k < m
      ·obtain ⟨b', off', hA, -, -, hx⟩ := (hI.ext hE).addr (by omega)
       obtain ⟨rfl, rfl⟩ : b = b' ∧ off = off' := by injection hA with hA; injection hA with e1 e2; exact ⟨e1, e2⟩
       obtain ⟨Ak, ck, q0, hkc, hck, hv⟩ := hx k hlt
       obtain ⟨Lk, hLk⟩ := hid_eq (L k)
       rw [← hLk.out] at q0 hkc hv
       have q1 := hE.cell p0
       unfold maxLen at hck
       clear hx hA
       by_cases heq : Lk = L0
       ·have hbf : ((Lk : Int) != (L0 : Int)) = false := by rw [heq]; simp
        obtain ⟨o, ho⟩ := hid_eq (allB Lk (fun j => okR (R k j)))
        have HQ : Hid (o = (decide (L k = L0) && allB (L k) (fun t => okR (R k t)))) := by rw [Hid, ho.out, ← hLk.out, heq]; simp
        clear heq
        go_upto_region 6 with (fail)
        refine region_inv [Mn.eq (.slice (some ⟨b, off, none⟩) m c), Mn.eq (.int .i64 (k : Int)), Mn.eq (.pointer (some ⟨b, off + k, none⟩)), Mn.eq (.slice Ak Lk ck), Mn.eq (.int .i64 (Lk : Int)), Mn.eq (.slice (some ⟨b, off, none⟩) m c), Mn.eq (.pointer (some ⟨b, off, none⟩)), Mn.eq (.slice AL L0 cL), Mn.eq (.int .i64 (L0 : Int)), Mn.eq (.bool false), Mn.eq (.bool false), Mn.eq (.slice (some ⟨b, off, none⟩) m c), Mn.eq (.int .i64 (k : Int)), Mn.eq (.pointer (some ⟨b, off + k, none⟩)), Mn.eq (.slice Ak Lk ck), Mn.eq (.bool o), Mn.eq (.bool (!o)), Mn.eq (.bool (!o))] [some 32, some 33, some 34, some 35, some 36, some 37, some 38, some 39, some 40, some 41, some 42, some 43, some 44, some 45, some 46, some 47, some 48, some 49] [] [true, true, true, true, true, true, true, true, true, true, true, true, true, true, true, true, true, true] 0 (by kernel_rfl) (by kernel_rfl) (by kernel_rfl) (by kernel_rfl) (by kernel_rfl) (by kernel_rfl) (by kernel_rfl) (by kernel_rfl) ?_ ?_
        ·intro i hi hl
         have hi' : i = 0 ∨ i = 1 ∨ i = 2 ∨ i = 3 ∨ i = 4 ∨ i = 5 ∨ i = 6 ∨ i = 7 ∨ i = 8 ∨ i = 9 ∨ i = 10 ∨ i = 11 ∨ i = 12 ∨ i = 13 ∨ i = 14 ∨ i = 15 ∨ i = 16 ∨ i = 17 := by have h9 : i < 18 := hi; omega
         clear hi
         rcases hi' with rfl | rfl | rfl | rfl | rfl | rfl | rfl | rfl | rfl | rfl | rfl | rfl | rfl | rfl | rfl | rfl | rfl | rfl
         ·clear hl
          refine stp rfl ?_
          intro ac wi eI hold hpre K hK
          have o0 := hold 0 (by kernel_rfl)
          simp only [List.getElem?_toArray, List.getElem?_cons_succ, List.getElem?_cons_zero] at o0
          clear hold hpre
          go_simp
          exact hK.out _ _ (Ext.refl _) rfl
         ·clear hl
          refine stp rfl ?_
          intro ac wi eI hold hpre K hK
          have o3 := hold 3 (by kernel_rfl)
          simp only [List.getElem?_toArray, List.getElem?_cons_succ, List.getElem?_cons_zero] at o3
          clear hold hpre
          go_simp
          exact hK.out _ _ (Ext.refl _) rfl
         ·clear hl
          refine stp rfl ?_
          intro ac wi eI hold hpre K hK
          obtain ⟨x32, s32, j32⟩ := hpre 0 (by kernel_rfl) 32 rfl
          obtain rfl : x32 = (.slice (some ⟨b, off, none⟩) m c) := j32
          obtain ⟨x33, s33, j33⟩ := hpre 1 (by kernel_rfl) 33 rfl
          obtain rfl : x33 = (.int .i64 (k : Int)) := j33
          clear hold hpre
          go_simp
          exact hK.out _ _ (Ext.refl _) rfl
         ·clear hl
          refine stp rfl ?_
          intro ac wi eI hold hpre K hK
          obtain ⟨x34, s34, j34⟩ := hpre 2 (by kernel_rfl) 34 rfl
          obtain rfl : x34 = (.pointer (some ⟨b, off + k, none⟩)) := j34
          clear hold hpre
          have cc0 := eI.cell q0
          have cc1 := eI.cell q1
          go_simp
          exact hK.out _ _ (Ext.refl _) rfl
         ·clear hl
          refine stp rfl ?_
          intro ac wi eI hold hpre K hK
          obtain ⟨x35, s35, j35⟩ := hpre 3 (by kernel_rfl) 35 rfl
          obtain rfl : x35 = (.slice Ak Lk ck) := j35
          clear hold hpre
          go_simp
          exact hK.out _ _ (Ext.refl _) rfl
         ·clear hl
          refine stp rfl ?_
          intro ac wi eI hold hpre K hK
          have o0 := hold 0 (by kernel_rfl)
          simp only [List.getElem?_toArray, List.getElem?_cons_succ, List.getElem?_cons_zero] at o0
          clear hold hpre
          go_simp
          exact hK.out _ _ (Ext.refl _) rfl
         ·clear hl
          refine stp rfl ?_
          intro ac wi eI hold hpre K hK
          obtain ⟨x37, s37, j37⟩ := hpre 5 (by kernel_rfl) 37 rfl
          obtain rfl : x37 = (.slice (some ⟨b, off, none⟩) m c) := j37
          clear hold hpre
          go_simp
          exact hK.out _ _ (Ext.refl _) rfl
         ·clear hl
          refine stp rfl ?_
          intro ac wi eI hold hpre K hK
          obtain ⟨x38, s38, j38⟩ := hpre 6 (by kernel_rfl) 38 rfl
          obtain rfl : x38 = (.pointer (some ⟨b, off, none⟩)) := j38
          clear hold hpre
          have cc0 := eI.cell q0
          have cc1 := eI.cell q1
          go_simp
          exact hK.out _ _ (Ext.refl _) rfl
         ·clear hl
          refine stp rfl ?_
          intro ac wi eI hold hpre K hK
          obtain ⟨x39, s39, j39⟩ := hpre 7 (by kernel_rfl) 39 rfl
          obtain rfl : x39 = (.slice AL L0 cL) := j39
          clear hold hpre
          go_simp
          exact hK.out _ _ (Ext.refl _) rfl
         ·clear hl
          refine stp rfl ?_
          intro ac wi eI hold hpre K hK
          obtain ⟨x36, s36, j36⟩ := hpre 4 (by kernel_rfl) 36 rfl
          obtain rfl : x36 = (.int .i64 (Lk : Int)) := j36
          obtain ⟨x40, s40, j40⟩ := hpre 8 (by kernel_rfl) 40 rfl
          obtain rfl : x40 = (.int .i64 (L0 : Int)) := j40
          clear hold hpre
          go_simp
          exact hK.out _ _ (Ext.refl _) rfl
         ·clear hl
          refine stp rfl ?_
          intro ac wi eI hold hpre K hK
          obtain ⟨x41, s41, j41⟩ := hpre 9 (by kernel_rfl) 41 rfl
          obtain rfl : x41 = (.bool false) := j41
          clear hold hpre
          go_simp
          exact hK.out _ _ (Ext.refl _) rfl
         ·clear hl
          refine stp rfl ?_
          intro ac wi eI hold hpre K hK
          obtain ⟨x42, s42, j42⟩ := hpre 10 (by kernel_rfl) 42 rfl
          obtain rfl : x42 = (.bool false) := j42
          have o0 := hold 0 (by kernel_rfl)
          simp only [List.getElem?_toArray, List.getElem?_cons_succ, List.getElem?_cons_zero] at o0
          clear hold hpre
          rw [if_pos (by simp [Region.wanted, yielded, s42])]
          go_simp
          exact hK.out _ _ (Ext.refl _) rfl
         ·clear hl
          refine stp rfl ?_
          intro ac wi eI hold hpre K hK
          obtain ⟨x42, s42, j42⟩ := hpre 10 (by kernel_rfl) 42 rfl
          obtain rfl : x42 = (.bool false) := j42
          have o3 := hold 3 (by kernel_rfl)
          simp only [List.getElem?_toArray, List.getElem?_cons_succ, List.getElem?_cons_zero] at o3
          clear hold hpre
          rw [if_pos (by simp [Region.wanted, yielded, s42])]
          go_simp
          exact hK.out _ _ (Ext.refl _) rfl
         ·clear hl
          refine stp rfl ?_
          intro ac wi eI hold hpre K hK
          obtain ⟨x42, s42, j42⟩ := hpre 10 (by kernel_rfl) 42 rfl
          obtain rfl : x42 = (.bool false) := j42
          obtain ⟨x43, s43, j43⟩ := hpre 11 (by kernel_rfl) 43 rfl
          obtain rfl : x43 = (.slice (some ⟨b, off, none⟩) m c) := j43
          obtain ⟨x44, s44, j44⟩ := hpre 12 (by kernel_rfl) 44 rfl
          obtain rfl : x44 = (.int .i64 (k : Int)) := j44
          clear hold hpre
          rw [if_pos (by simp [Region.wanted, yielded, s42])]
          go_simp
          exact hK.out _ _ (Ext.refl _) rfl
         ·clear hl
          refine stp rfl ?_
          intro ac wi eI hold hpre K hK
          obtain ⟨x42, s42, j42⟩ := hpre 10 (by kernel_rfl) 42 rfl
          obtain rfl : x42 = (.bool false) := j42
          obtain ⟨x45, s45, j45⟩ := hpre 13 (by kernel_rfl) 45 rfl
          obtain rfl : x45 = (.pointer (some ⟨b, off + k, none⟩)) := j45
          clear hold hpre
          rw [if_pos (by simp [Region.wanted, yielded, s42])]
          have cc0 := eI.cell q0
          have cc1 := eI.cell q1
          go_simp
          exact hK.out _ _ (Ext.refl _) rfl
         ·clear hl
          refine stp rfl ?_
          intro ac wi eI hold hpre K hK
          obtain ⟨x42, s42, j42⟩ := hpre 10 (by kernel_rfl) 42 rfl
          obtain rfl : x42 = (.bool false) := j42
          obtain ⟨x46, s46, j46⟩ := hpre 14 (by kernel_rfl) 46 rfl
          obtain rfl : x46 = (.slice Ak Lk ck) := j46
          clear hold hpre
          rw [if_pos (by simp [Region.wanted, yielded, s42])]
          go_simp
          refine (r2_validList (hv.ext eI) (fun i hi => HS.out k hlt i (by rw [← hLk.out]; exact hi))).mono ?_
          rintro e wj ⟨rfl, ej⟩
          rw [← ho.out]
          go_wp2_with fail
          exact hK.out _ _ ej rfl
         ·clear hl
          refine stp rfl ?_
          intro ac wi eI hold hpre K hK
          obtain ⟨x42, s42, j42⟩ := hpre 10 (by kernel_rfl) 42 rfl
          obtain rfl : x42 = (.bool false) := j42
          obtain ⟨x47, s47, j47⟩ := hpre 15 (by kernel_rfl) 47 rfl
          obtain rfl : x47 = (.bool o) := j47
          clear hold hpre
          rw [if_pos (by simp [Region.wanted, yielded, s42])]
          go_simp
          exact hK.out _ _ (Ext.refl _) rfl
         ·clear hl
          refine stp rfl ?_
          intro ac wi eI hold hpre K hK
          obtain ⟨x42, s42, j42⟩ := hpre 10 (by kernel_rfl) 42 rfl
          obtain rfl : x42 = (.bool false) := j42
          obtain ⟨x48, s48, j48⟩ := hpre 16 (by kernel_rfl) 48 rfl
          obtain rfl : x48 = (.bool (!o)) := j48
          clear hold hpre
          go_simp
          exact hK.out _ _ (Ext.refl _) rfl
        intro vals wz eZ hJ
        have J32 : Mn.p (Mn.eq (.slice (some ⟨b, off, none⟩) m c)) (vals 0) wz := hJ 0 (by decide) (by decide)
        have J33 : Mn.p (Mn.eq (.int .i64 (k : Int))) (vals 1) wz := hJ 1 (by decide) (by decide)
        have J34 : Mn.p (Mn.eq (.pointer (some ⟨b, off + k, none⟩))) (vals 2) wz := hJ 2 (by decide) (by decide)
        have J35 : Mn.p (Mn.eq (.slice Ak Lk ck)) (vals 3) wz := hJ 3 (by decide) (by decide)
        have J36 : Mn.p (Mn.eq (.int .i64 (Lk : Int))) (vals 4) wz := hJ 4 (by decide) (by decide)
        have J37 : Mn.p (Mn.eq (.slice (some ⟨b, off, none⟩) m c)) (vals 5) wz := hJ 5 (by decide) (by decide)
        have J38 : Mn.p (Mn.eq (.pointer (some ⟨b, off, none⟩))) (vals 6) wz := hJ 6 (by decide) (by decide)
        have J39 : Mn.p (Mn.eq (.slice AL L0 cL)) (vals 7) wz := hJ 7 (by decide) (by decide)
        have J40 : Mn.p (Mn.eq (.int .i64 (L0 : Int))) (vals 8) wz := hJ 8 (by decide) (by decide)
        have J41 : Mn.p (Mn.eq (.bool false)) (vals 9) wz := hJ 9 (by decide) (by decide)
        have J42 : Mn.p (Mn.eq (.bool false)) (vals 10) wz := hJ 10 (by decide) (by decide)
        have J43 : Mn.p (Mn.eq (.slice (some ⟨b, off, none⟩) m c)) (vals 11) wz := hJ 11 (by decide) (by decide)
        have J44 : Mn.p (Mn.eq (.int .i64 (k : Int))) (vals 12) wz := hJ 12 (by decide) (by decide)
        have J45 : Mn.p (Mn.eq (.pointer (some ⟨b, off + k, none⟩))) (vals 13) wz := hJ 13 (by decide) (by decide)
        have J46 : Mn.p (Mn.eq (.slice Ak Lk ck)) (vals 14) wz := hJ 14 (by decide) (by decide)
        have J47 : Mn.p (Mn.eq (.bool o)) (vals 15) wz := hJ 15 (by decide) (by decide)
        have J48 : Mn.p (Mn.eq (.bool (!o))) (vals 16) wz := hJ 16 (by decide) (by decide)
        have J49 : Mn.p (Mn.eq (.bool (!o))) (vals 17) wz := hJ 17 (by decide) (by decide)
        clear hJ
        simp only [putAll, if_true, Bool.false_eq_true, if_false, Act.put, Nat.zero_add, Nat.reduceAdd, List.setIfInBounds_toArray, List.set_cons_zero, List.set_cons_succ]
        generalize vals 0 = z32 at J32 ⊢
        obtain rfl : z32 = (.slice (some ⟨b, off, none⟩) m c) := J32
        generalize vals 1 = z33 at J33 ⊢
        obtain rfl : z33 = (.int .i64 (k : Int)) := J33
        generalize vals 2 = z34 at J34 ⊢
        obtain rfl : z34 = (.pointer (some ⟨b, off + k, none⟩)) := J34
        generalize vals 3 = z35 at J35 ⊢
        obtain rfl : z35 = (.slice Ak Lk ck) := J35
        generalize vals 4 = z36 at J36 ⊢
        obtain rfl : z36 = (.int .i64 (Lk : Int)) := J36
        generalize vals 5 = z37 at J37 ⊢
        obtain rfl : z37 = (.slice (some ⟨b, off, none⟩) m c) := J37
        generalize vals 6 = z38 at J38 ⊢
        obtain rfl : z38 = (.pointer (some ⟨b, off, none⟩)) := J38
        generalize vals 7 = z39 at J39 ⊢
        obtain rfl : z39 = (.slice AL L0 cL) := J39
        generalize vals 8 = z40 at J40 ⊢
        obtain rfl : z40 = (.int .i64 (L0 : Int)) := J40
        generalize vals 9 = z41 at J41 ⊢
        obtain rfl : z41 = (.bool false) := J41
        generalize vals 10 = z42 at J42 ⊢
        obtain rfl : z42 = (.bool false) := J42
        generalize vals 11 = z43 at J43 ⊢
        obtain rfl : z43 = (.slice (some ⟨b, off, none⟩) m c) := J43
        generalize vals 12 = z44 at J44 ⊢
        obtain rfl : z44 = (.int .i64 (k : Int)) := J44
        generalize vals 13 = z45 at J45 ⊢
        obtain rfl : z45 = (.pointer (some ⟨b, off + k, none⟩)) := J45
        generalize vals 14 = z46 at J46 ⊢
        obtain rfl : z46 = (.slice Ak Lk ck) := J46
        generalize vals 15 = z47 at J47 ⊢
        obtain rfl : z47 = (.bool o) := J47
        generalize vals 16 = z48 at J48 ⊢
        obtain rfl : z48 = (.bool (!o)) := J48
        generalize vals 17 = z49 at J49 ⊢
        obtain rfl : z49 = (.bool (!o)) := J49
        refine stepL_done (by kernel_rfl) ?_ _
        have hEz := hE.trans eZ
        cases ho' : o with
        | true =>
         subst ho'
         go_wp2
         go_roundw
         case rel => exact ⟨k + 1, by omega, by go_num, hEz, all_succ (p := fun j => (decide (L j = L0) && allB (L j) (fun t => okR (R j t))) = true) HA.out HQ.out.symm⟩
         case measure => simp [intOf]; omega
        | false =>
         subst ho'
         have HF : Hid (r = 1) := HROW.out k hlt HQ.out.symm
         go_wp2
         go_ret
         exact ⟨ret_int HF.out.symm, hEz⟩
       ·have HF : Hid (r = 1) := HROW.out k hlt (by rw [← hLk.out, decide_eq_false heq]; rfl)
        have hbf : ((Lk : Int) != (L0 : Int)) = true := by rw [bne_iff_ne]; omega
        clear heq
        go_upto_region 6 with (fail)
        refine region_inv [Mn.eq (.slice (some ⟨b, off, none⟩) m c), Mn.eq (.int .i64 (k : Int)), Mn.eq (.pointer (some ⟨b, off + k, none⟩)), Mn.eq (.slice Ak Lk ck), Mn.eq (.int .i64 (Lk : Int)), Mn.eq (.slice (some ⟨b, off, none⟩) m c), Mn.eq (.pointer (some ⟨b, off, none⟩)), Mn.eq (.slice AL L0 cL), Mn.eq (.int .i64 (L0 : Int)), Mn.eq (.bool true), Mn.eq (.bool true), Mn.any, Mn.any, Mn.any, Mn.any, Mn.any, Mn.any, Mn.eq (.bool true)] [some 32, some 33, some 34, some 35, some 36, some 37, some 38, some 39, some 40, some 41, some 42, some 43, some 44, some 45, some 46, some 47, some 48, some 49] [] [true, true, true, true, true, true, true, true, true, true, true, true, true, true, true, true, true, true] 0 (by kernel_rfl) (by kernel_rfl) (by kernel_rfl) (by kernel_rfl) (by kernel_rfl) (by kernel_rfl) (by kernel_rfl) (by kernel_rfl) ?_ ?_
        ·intro i hi hl
         have hi' : i = 0 ∨ i = 1 ∨ i = 2 ∨ i = 3 ∨ i = 4 ∨ i = 5 ∨ i = 6 ∨ i = 7 ∨ i = 8 ∨ i = 9 ∨ i = 10 ∨ i = 11 ∨ i = 12 ∨ i = 13 ∨ i = 14 ∨ i = 15 ∨ i = 16 ∨ i = 17 := by have h9 : i < 18 := hi; omega
         clear hi
         rcases hi' with rfl | rfl | rfl | rfl | rfl | rfl | rfl | rfl | rfl | rfl | rfl | rfl | rfl | rfl | rfl | rfl | rfl | rfl
         ·clear hl
          refine stp rfl ?_
          intro ac wi eI hold hpre K hK
          have o0 := hold 0 (by kernel_rfl)
          simp only [List.getElem?_toArray, List.getElem?_cons_succ, List.getElem?_cons_zero] at o0
          clear hold hpre
          go_simp
          exact hK.out _ _ (Ext.refl _) rfl
         ·clear hl
          refine stp rfl ?_
          intro ac wi eI hold hpre K hK
          have o3 := hold 3 (by kernel_rfl)
          simp only [List.getElem?_toArray, List.getElem?_cons_succ, List.getElem?_cons_zero] at o3
          clear hold hpre
          go_simp
          exact hK.out _ _ (Ext.refl _) rfl
         ·clear hl
          refine stp rfl ?_
          intro ac wi eI hold hpre K hK
          obtain ⟨x32, s32, j32⟩ := hpre 0 (by kernel_rfl) 32 rfl
          obtain rfl : x32 = (.slice (some ⟨b, off, none⟩) m c) := j32
          obtain ⟨x33, s33, j33⟩ := hpre 1 (by kernel_rfl) 33 rfl
          obtain rfl : x33 = (.int .i64 (k : Int)) := j33
          clear hold hpre
          go_simp
          exact hK.out _ _ (Ext.refl _) rfl
         ·clear hl
          refine stp rfl ?_
          intro ac wi eI hold hpre K hK
          obtain ⟨x34, s34, j34⟩ := hpre 2 (by kernel_rfl) 34 rfl
          obtain rfl : x34 = (.pointer (some ⟨b, off + k, none⟩)) := j34
          clear hold hpre
          have cc0 := eI.cell q0
          have cc1 := eI.cell q1
          go_simp
          exact hK.out _ _ (Ext.refl _) rfl
         ·clear hl
          refine stp rfl ?_
          intro ac wi eI hold hpre K hK
          obtain ⟨x35, s35, j35⟩ := hpre 3 (by kernel_rfl) 35 rfl
          obtain rfl : x35 = (.slice Ak Lk ck) := j35
          clear hold hpre
          go_simp
          exact hK.out _ _ (Ext.refl _) rfl
         ·clear hl
          refine stp rfl ?_
          intro ac wi eI hold hpre K hK
          have o0 := hold 0 (by kernel_rfl)
          simp only [List.getElem?_toArray, List.getElem?_cons_succ, List.getElem?_cons_zero] at o0
          clear hold hpre
          go_simp
          exact hK.out _ _ (Ext.refl _) rfl
         ·clear hl
          refine stp rfl ?_
          intro ac wi eI hold hpre K hK
          obtain ⟨x37, s37, j37⟩ := hpre 5 (by kernel_rfl) 37 rfl
          obtain rfl : x37 = (.slice (some ⟨b, off, none⟩) m c) := j37
          clear hold hpre
          go_simp
          exact hK.out _ _ (Ext.refl _) rfl
         ·clear hl
          refine stp rfl ?_
          intro ac wi eI hold hpre K hK
          obtain ⟨x38, s38, j38⟩ := hpre 6 (by kernel_rfl) 38 rfl
          obtain rfl : x38 = (.pointer (some ⟨b, off, none⟩)) := j38
          clear hold hpre
          have cc0 := eI.cell q0
          have cc1 := eI.cell q1
          go_simp
          exact hK.out _ _ (Ext.refl _) rfl
         ·clear hl
          refine stp rfl ?_
          intro ac wi eI hold hpre K hK
          obtain ⟨x39, s39, j39⟩ := hpre 7 (by kernel_rfl) 39 rfl
          obtain rfl : x39 = (.slice AL L0 cL) := j39
          clear hold hpre
          go_simp
          exact hK.out _ _ (Ext.refl _) rfl
         ·clear hl
          refine stp rfl ?_
          intro ac wi eI hold hpre K hK
          obtain ⟨x36, s36, j36⟩ := hpre 4 (by kernel_rfl) 36 rfl
          obtain rfl : x36 = (.int .i64 (Lk : Int)) := j36
          obtain ⟨x40, s40, j40⟩ := hpre 8 (by kernel_rfl) 40 rfl
          obtain rfl : x40 = (.int .i64 (L0 : Int)) := j40
          clear hold hpre
          go_simp
          exact hK.out _ _ (Ext.refl _) rfl
         ·clear hl
          refine stp rfl ?_
          intro ac wi eI hold hpre K hK
          obtain ⟨x41, s41, j41⟩ := hpre 9 (by kernel_rfl) 41 rfl
          obtain rfl : x41 = (.bool true) := j41
          clear hold hpre
          go_simp
          exact hK.out _ _ (Ext.refl _) rfl
         ·clear hl
          refine stp rfl ?_
          intro ac wi eI hold hpre K hK
          obtain ⟨x42, s42, j42⟩ := hpre 10 (by kernel_rfl) 42 rfl
          obtain rfl : x42 = (.bool true) := j42
          have o0 := hold 0 (by kernel_rfl)
          simp only [List.getElem?_toArray, List.getElem?_cons_succ, List.getElem?_cons_zero] at o0
          clear hold hpre
          rw [if_neg (by simp [Region.wanted, yielded, s42])]
          exact hK.out _ _ (Ext.refl _) trivial
         ·clear hl
          refine stp rfl ?_
          intro ac wi eI hold hpre K hK
          obtain ⟨x42, s42, j42⟩ := hpre 10 (by kernel_rfl) 42 rfl
          obtain rfl : x42 = (.bool true) := j42
          have o3 := hold 3 (by kernel_rfl)
          simp only [List.getElem?_toArray, List.getElem?_cons_succ, List.getElem?_cons_zero] at o3
          clear hold hpre
          rw [if_neg (by simp [Region.wanted, yielded, s42])]
          exact hK.out _ _ (Ext.refl _) trivial
         ·clear hl
          refine stp rfl ?_
          intro ac wi eI hold hpre K hK
          obtain ⟨x42, s42, j42⟩ := hpre 10 (by kernel_rfl) 42 rfl
          obtain rfl : x42 = (.bool true) := j42
          obtain ⟨x43, s43, j43⟩ := hpre 11 (by kernel_rfl) 43 rfl
          replace j43 : Mn.p (Mn.any) x43 wi := j43
          obtain ⟨x44, s44, j44⟩ := hpre 12 (by kernel_rfl) 44 rfl
          replace j44 : Mn.p (Mn.any) x44 wi := j44
          clear hold hpre
          rw [if_neg (by simp [Region.wanted, yielded, s42])]
          exact hK.out _ _ (Ext.refl _) trivial
         ·clear hl
          refine stp rfl ?_
          intro ac wi eI hold hpre K hK
          obtain ⟨x42, s42, j42⟩ := hpre 10 (by kernel_rfl) 42 rfl
          obtain rfl : x42 = (.bool true) := j42
          obtain ⟨x45, s45, j45⟩ := hpre 13 (by kernel_rfl) 45 rfl
          replace j45 : Mn.p (Mn.any) x45 wi := j45
          clear hold hpre
          rw [if_neg (by simp [Region.wanted, yielded, s42])]
          exact hK.out _ _ (Ext.refl _) trivial
         ·clear hl
          refine stp rfl ?_
          intro ac wi eI hold hpre K hK
          obtain ⟨x42, s42, j42⟩ := hpre 10 (by kernel_rfl) 42 rfl
          obtain rfl : x42 = (.bool true) := j42
          obtain ⟨x46, s46, j46⟩ := hpre 14 (by kernel_rfl) 46 rfl
          replace j46 : Mn.p (Mn.any) x46 wi := j46
          clear hold hpre
          rw [if_neg (by simp [Region.wanted, yielded, s42])]
          exact hK.out _ _ (Ext.refl _) trivial
         ·clear hl
          refine stp rfl ?_
          intro ac wi eI hold hpre K hK
          obtain ⟨x42, s42, j42⟩ := hpre 10 (by kernel_rfl) 42 rfl
          obtain rfl : x42 = (.bool true) := j42
          obtain ⟨x47, s47, j47⟩ := hpre 15 (by kernel_rfl) 47 rfl
          replace j47 : Mn.p (Mn.any) x47 wi := j47
          clear hold hpre
          rw [if_neg (by simp [Region.wanted, yielded, s42])]
          exact hK.out _ _ (Ext.refl _) trivial
         ·clear hl
          refine stp rfl ?_
          intro ac wi eI hold hpre K hK
          obtain ⟨x42, s42, j42⟩ := hpre 10 (by kernel_rfl) 42 rfl
          obtain rfl : x42 = (.bool true) := j42
          obtain ⟨x48, s48, j48⟩ := hpre 16 (by kernel_rfl) 48 rfl
          replace j48 : Mn.p (Mn.any) x48 wi := j48
          clear hold hpre
          go_simp
          exact hK.out _ _ (Ext.refl _) rfl
        intro vals wz eZ hJ
        have J32 : Mn.p (Mn.eq (.slice (some ⟨b, off, none⟩) m c)) (vals 0) wz := hJ 0 (by decide) (by decide)
        have J33 : Mn.p (Mn.eq (.int .i64 (k : Int))) (vals 1) wz := hJ 1 (by decide) (by decide)
        have J34 : Mn.p (Mn.eq (.pointer (some ⟨b, off + k, none⟩))) (vals 2) wz := hJ 2 (by decide) (by decide)
        have J35 : Mn.p (Mn.eq (.slice Ak Lk ck)) (vals 3) wz := hJ 3 (by decide) (by decide)
        have J36 : Mn.p (Mn.eq (.int .i64 (Lk : Int))) (vals 4) wz := hJ 4 (by decide) (by decide)
        have J37 : Mn.p (Mn.eq (.slice (some ⟨b, off, none⟩) m c)) (vals 5) wz := hJ 5 (by decide) (by decide)
        have J38 : Mn.p (Mn.eq (.pointer (some ⟨b, off, none⟩))) (vals 6) wz := hJ 6 (by decide) (by decide)
        have J39 : Mn.p (Mn.eq (.slice AL L0 cL)) (vals 7) wz := hJ 7 (by decide) (by decide)
        have J40 : Mn.p (Mn.eq (.int .i64 (L0 : Int))) (vals 8) wz := hJ 8 (by decide) (by decide)
        have J41 : Mn.p (Mn.eq (.bool true)) (vals 9) wz := hJ 9 (by decide) (by decide)
        have J42 : Mn.p (Mn.eq (.bool true)) (vals 10) wz := hJ 10 (by decide) (by decide)
        have J43 : Mn.p (Mn.any) (vals 11) wz := hJ 11 (by decide) (by decide)
        have J44 : Mn.p (Mn.any) (vals 12) wz := hJ 12 (by decide) (by decide)
        have J45 : Mn.p (Mn.any) (vals 13) wz := hJ 13 (by decide) (by decide)
        have J46 : Mn.p (Mn.any) (vals 14) wz := hJ 14 (by decide) (by decide)
        have J47 : Mn.p (Mn.any) (vals 15) wz := hJ 15 (by decide) (by decide)
        have J48 : Mn.p (Mn.any) (vals 16) wz := hJ 16 (by decide) (by decide)
        have J49 : Mn.p (Mn.eq (.bool true)) (vals 17) wz := hJ 17 (by decide) (by decide)
        clear hJ
        simp only [putAll, if_true, Bool.false_eq_true, if_false, Act.put, Nat.zero_add, Nat.reduceAdd, List.setIfInBounds_toArray, List.set_cons_zero, List.set_cons_succ]
        generalize vals 0 = z32 at J32 ⊢
        obtain rfl : z32 = (.slice (some ⟨b, off, none⟩) m c) := J32
        generalize vals 1 = z33 at J33 ⊢
        obtain rfl : z33 = (.int .i64 (k : Int)) := J33
        generalize vals 2 = z34 at J34 ⊢
        obtain rfl : z34 = (.pointer (some ⟨b, off + k, none⟩)) := J34
        generalize vals 3 = z35 at J35 ⊢
        obtain rfl : z35 = (.slice Ak Lk ck) := J35
        generalize vals 4 = z36 at J36 ⊢
        obtain rfl : z36 = (.int .i64 (Lk : Int)) := J36
        generalize vals 5 = z37 at J37 ⊢
        obtain rfl : z37 = (.slice (some ⟨b, off, none⟩) m c) := J37
        generalize vals 6 = z38 at J38 ⊢
        obtain rfl : z38 = (.pointer (some ⟨b, off, none⟩)) := J38
        generalize vals 7 = z39 at J39 ⊢
        obtain rfl : z39 = (.slice AL L0 cL) := J39
        generalize vals 8 = z40 at J40 ⊢
        obtain rfl : z40 = (.int .i64 (L0 : Int)) := J40
        generalize vals 9 = z41 at J41 ⊢
        obtain rfl : z41 = (.bool true) := J41
        generalize vals 10 = z42 at J42 ⊢
        obtain rfl : z42 = (.bool true) := J42
        generalize vals 11 = z43 at J43 ⊢
        generalize vals 12 = z44 at J44 ⊢
        generalize vals 13 = z45 at J45 ⊢
        generalize vals 14 = z46 at J46 ⊢
        generalize vals 15 = z47 at J47 ⊢
        generalize vals 16 = z48 at J48 ⊢
        generalize vals 17 = z49 at J49 ⊢
        obtain rfl : z49 = (.bool true) := J49
        refine stepL_done (by kernel_rfl) ?_ _
        go_wp2
        go_ret
        exact ⟨ret_int HF.out.symm, hE.trans eZ⟩
      ·have HF : Hid (r = 0) := HGOOD.out (fun j hj => HA.out j (by omega))
       go_wp2
       go_ret
       exact ⟨ret_int HF.out.symm, hE⟩
    ·have HF : Hid (r = 1) := HBAD.out (by omega)
     go_wp2
     go_ret
     exact ⟨ret_int HF.out.symm, Ext.refl w⟩
   ·have HF : Hid (r = 1) := HBAD.out (by omega)
    go_wp2
    go_ret
    exact ⟨ret_int HF.out.symm, Ext.refl w⟩
  ·have HF : Hid (r = 1) := HBAD.out (by omega)
   go_wp2
   go_ret
   exact ⟨ret_int HF.out.symm, Ext.refl w⟩
 ·have HF : Hid (r = 1) := HBAD.out (by omega)
  go_wp2
  go_ret
  exact ⟨ret_int HF.out.symm, Ext.refl w⟩
set_option maxHeartbeats 2000000 in
theorem r5_square {N lo hi : Nat} {w : World} {v : Value} {m : Nat} {L : Nat → Nat} {R : Nat → Nat → Raw} (h : MtR N lo hi w v m L R) (hm : 1 ≤ m) :
  Calls Tryz.prog 33 #[v] w (RetV w (.bool (decide (m = L 0)))) := by
 obtain ⟨r, hr⟩ := hid_eq (decide (m = L 0))
 rw [← hr.out]
 obtain ⟨A, c, rfl, hmc, hcm⟩ := h.form
 unfold maxLen at hcm
 obtain ⟨b, off, rfl, -, -, hx⟩ := h.addr (by omega)
 obtain ⟨AL, cL, p0, hLc, hcL, -⟩ := hx 0 (by omega)
 rw [Nat.add_zero] at p0
 obtain ⟨L0, hL0⟩ := hid_eq (L 0)
 rw [← hL0.out] at p0 hLc hr
 unfold maxLen at hcL
 have hrr : ((m : Int) == (L0 : Int)) = r := by
  rw [hr.out, Bool.eq_iff_iff, beq_iff_eq, decide_eq_true_eq]; omega
 clear hx h hr
 go_enter Tryz.func33, Tryz.ntmps33
 go_wp2
 go_ret
 exact ⟨rfl, Ext.refl w⟩
end Go.Proofs.YtghpfnhmlpfgcaaGreat
namespace Go.Proofs.YtghpfnhmlpfgcaaGreat
open Go.RowKit
theorem rref_more (m : Nat) (Y : Nat → Nat → Rat) (j : Nat) : ∀ d, ∃ l, (rref m Y (j + d)).2 = (rref m Y j).2 ++ l ∧ ∀ x ∈ l, j ≤ x
 | 0 => ⟨[], by simp, by simp⟩
 | d + 1 => by
  obtain ⟨l, h1, h2⟩ := rref_more m Y j d
  show ∃ l, (rstep m (rref m Y (j + d)) (j + d)).2 = _ ∧ _
  unfold rstep
  simp only []
  split
  ·refine ⟨l ++ [j + d], by rw [h1, List.append_assoc], fun x hx => ?_⟩
   rcases List.mem_append.1 hx with h | h
   ·exact h2 x h
   ·rw [List.mem_singleton] at h; omega
  ·exact ⟨l, h1, h2⟩
theorem inv_last {n : Nat} (hn : 0 < n) (Y : Nat → Nat → Rat) :
  ((n ≤ (rref n Y (n + n)).2.length ∧ (rref n Y (n + n)).2[n - 1]?.getD 0 < n) ↔ (rref n Y n).2.length = n) ∧ ((rref n Y n).2.length = n → rref n Y (n + n) = rref n Y n) := by
 have hl := (rref_len n Y n).1
 have h1 : (rref n Y n).2.length = n → rref n Y (n + n) = rref n Y n := fun h => rref_full (j := n) (by omega) (n + n) (by omega)
 refine ⟨⟨fun ⟨h2, h3⟩ => ?_, fun h => ?_⟩, h1⟩
 ·obtain ⟨l, h4, h5⟩ := rref_more n Y n n
  by_cases h6 : (rref n Y n).2.length = n
  ·exact h6
  ·rw [h4] at h2 h3
   rw [List.length_append] at h2
   rw [List.getElem?_append_right (by omega)] at h3
   rw [List.getElem?_eq_getElem (by omega)] at h3
   have := h5 _ (List.getElem_mem (l := l) (n := n - 1 - (rref n Y n).2.length) (by omega))
   simp only [Option.getD_some] at h3
   omega
 ·rw [h1 h]
  exact ⟨by omega, (rref_ok n Y n).low (n - 1) (by omega)⟩
def RetIvO (N : Nat) (w : World) (n : Nat) (ok : Bool) (Z : Nat → Nat → Rat) (e : Ending) (w' : World) : Prop :=
 Ext w w' ∧ ((ok = false ∧ e = .returned (.tuple #[.slice none 0 0, .bool false])) ∨ (ok = true ∧ ∃ A c, e = .returned (.tuple #[.slice A n c, .bool true]) ∧ MtV N w.heap.size w'.heap.size w' (.slice A n c) n n Z))
def ivB (n : Nat) (X : Nat → Nat → Rat) : Bool := decide ((rref n (augI n X) n).2.length = n)
theorem RowB.tail {N : Nat} {w : World} {b k n : Nat} {x : Nat → Rat} (h : RowB N w b k (n + n) x) {c lo hi : Nat} (hc : n ≤ c) (hm : c ≤ maxLen) (h1 : lo ≤ b) (h2 : b < hi) (h3 : hi ≤ w.heap.size) :
  LsV N lo hi w (.slice (some ⟨b, n * 4, none⟩) n c) n (fun j => x (n + j)) := by
 refine ⟨by have := h.1; omega, h3, _, c, rfl, hc, hm, fun _ => ⟨b, n * 4, rfl, h1, h2, fun i hi => ?_⟩⟩
 have := h.2.2.2 (n + i) (by omega)
 rw [Nat.add_mul] at this
 exact this
set_option maxRecDepth 100000 in
set_option maxHeartbeats 8000000 in
theorem r5_inverse {N lo hi : Nat} {w : World} {v : Value} {n : Nat} {X : Nat → Nat → Rat} (h : MtV N lo hi w v n n X) (hn0 : 0 < n) (hn : n < 100000)
  {q : Nat} (hq : HtM n n q X) (hK : 5 * (5 ^ n * (q + 1)) ≤ 29000000000) :
  Calls Tryz.prog 34 #[v] w (RetIvO N w n (ivB n X) (invM n X)) := by
 obtain ⟨Rf, hRf⟩ := hid_eq (RetIvO N w n (ivB n X) (invM n X))
 rw [← hRf.out]
 have hN := h.le
 obtain ⟨A, c, rfl, hmc, hcm⟩ := h.form
 have hI := h
 have HA : Hid (HtM n (n + n) (q + 1) (augI n X)) := htM_augI hq
 have HE : Hid (∀ w1 v1 lo1 hi1, MtV N lo1 hi1 w1 v1 n (n + n) (augI n X) → Calls Tryz.prog 71 #[v1] w1 (RetEch N w1 n (n + n) (rref n (augI n X) (n + n)).1 (rref n (augI n X) (n + n)).2)) :=
  fun w1 v1 lo1 hi1 h1 => r5_echelon (P := n) h1 hn0 (by omega) (by omega) (by omega) HA.out (.inl (Nat.le_refl _)) hK
 have HL1 : Hid (ivB n X = decide (n ≤ (rref n (augI n X) (n + n)).2.length ∧ (rref n (augI n X) (n + n)).2[n - 1]?.getD 0 < n)) := by
  rw [Hid]; unfold ivB; exact decide_eq_decide.2 (inv_last hn0 (augI n X)).1.symm
 have HL2 : Hid (ivB n X = true → invM n X = fun i j => (rref n (augI n X) (n + n)).1 i (n + j)) := fun h9 => by
  rw [(inv_last hn0 (augI n X)).2 (of_decide_eq_true h9)]; rfl
 have hpl : (rref n (augI n X) (n + n)).2.length ≤ n := (rref_len n _ _).1
 generalize rref n (augI n X) (n + n) = st at HE HL1 HL2 hpl
 obtain ⟨M, p⟩ := st
 simp only at HE HL1 HL2 hpl
 obtain ⟨np, hnp⟩ := hid_eq p.length
 rw [← hnp.out] at hpl HL1
 obtain ⟨ok, hok⟩ := hid_eq (ivB n X)
 rw [← hok.out] at hRf HL1 HL2
 unfold maxLen at hcm
 clear h hq hK
 go_enter Tryz.func34, Tryz.ntmps34
 go_wp2_with (go_at_call 83; refine Hid.out ?_)
 refine (r5_identity hN n rfl hn0 (by omega)).mono ?_
 intro e w1 hh
 obtain ⟨A1, c1, rfl, h1, e1⟩ := hh.mt
 clear hh
 go_wp2_with (go_at_call 82; refine Hid.out ?_)
 refine (r5_beside (hI.ext e1) h1 (by omega) hn0 (by omega)).mono ?_
 intro e w2 hh
 obtain ⟨A2, c2, rfl, h2, e2⟩ := hh.mt
 clear hh
 go_wp2_with (go_at_call 71; refine Hid.out ?_)
 refine (HE.out w2 _ _ _ h2).mono ?_
 rintro e w3 ⟨h, cap, β, κ, A', c', rfl, hcap, ho, hi', e3⟩
 have hE := (e1.trans e2).trans e3
 have hs1 := e1.size
 have hs2 := e2.size
 have hs3 := e3.size
 have hlo : w.heap.size ≤ w2.heap.size := by omega
 have hNlo : N ≤ w2.heap.size := by omega
 rw [← hnp.out] at hi' ⊢
 clear h1 h2 e1 e2 e3
 have hcap' := hcap
 unfold maxLen at hcap
 obtain ⟨lo3, hlo3⟩ : ∃ lo3, lo3 = w2.heap.size := ⟨_, rfl⟩
 rw [← hlo3] at ho hi' hlo hNlo
 by_cases hlt : np < n
 ·have HB : Hid (ok = false) := by rw [Hid, HL1.out]; exact decide_eq_false (fun h9 => by omega)
  go_wp2
  rw [hRf.out]
  exact ⟨hE, .inl ⟨HB.out, rfl⟩⟩
 ·obtain rfl : np = n := by omega
  obtain ⟨b, off, z, rfl, c0, hz⟩ := hi'.at_ (i := np - 1) (by rw [← hnp.out]; omega)
  have hsub : ((np : Int) - 1) = ((np - 1 : Nat) : Int) := by omega
  obtain ⟨nq, hnq⟩ : ∃ nq, nq = np - 1 := ⟨_, rfl⟩
  have hnq1 : ((np : Int) - 1) = (nq : Int) := by omega
  have hnq2 : nq < np := by omega
  rw [← hnq] at c0 hz
  by_cases hzn : z < np
  ·have HB : Hid (ok = true) := by
    rw [Hid, HL1.out]
    refine decide_eq_true ⟨Nat.le_refl _, ?_⟩
    rw [← hnq, ← hz.out]; exact hzn
   clear hsub hnq hz
   have hZZ : Hid (invM np X = fun i j => M i (np + j)) := HL2.out HB.out
   obtain ⟨Z, hZ⟩ := hid_eq (invM np X)
   rw [← hZ.out] at hRf hZZ
   have hzd : decide (np ≤ z) = false := decide_eq_false (by omega)
   clear HL2 HL1 HE HA hI hi' hpl
   go_upto_region 6 with (fail)
   clear c0 hnq1 hnq2
   refine boxes1 ?_
   intro W e4 hsz4 B0
   have hG0 : GrowM N w3.heap.size W.heap.size W (.slice (some ⟨w3.heap.size, 0, none⟩) 0 0) 0 np Z := GrowM.empty (by omega) (Nat.le_refl _) (by omega) (Nat.le_refl _) B0 _
   clear B0
   go_wp2
   go_loopw [7, 8] (fun v i wr => ∃ k : Nat, k ≤ np ∧ i = .int .i64 k ∧ Ext w3 wr ∧ ∃ h c, v = .slice (some ⟨h, 0, none⟩) k c ∧ GrowM N w3.heap.size wr.heap.size wr (.slice (some ⟨h, 0, none⟩) k c) k np Z) (fun _ i _ => np - (intOf i).toNat)
   case atStart => exact ⟨0, Nat.zero_le _, rfl, e4, _, _, rfl, hG0⟩
   case round =>
    clear hG0 hsz4 e4
    obtain ⟨k, hk, rfl, hEr, h', c', rfl, hG⟩ := hrel
    have hsz := hEr.size
    by_cases hlt : k < np
    ·have hor := ho.ext hEr
     have p0 := hor.hcell hlt
     have hbl : h < wr.heap.size := cell_lt p0
     have hrow := hor.row k hlt
     have hκ := hrow.2.1
     have hκm := hor.cap k hlt
     have hβ := hor.hi_ k hlt
     have hne : ¬ np = κ k := by omega
     have hl : LsV N 0 wr.heap.size wr (.slice (some ⟨β k, np * 4, none⟩) np (κ k - np)) np (Z k) := by
      rw [hZZ.out]
      exact hrow.tail (by omega) (by unfold maxLen at hκm ⊢; omega) (Nat.zero_le _) (by omega) (Nat.le_refl _)
     have hcapk : κ k ≤ 9223372036854775807 := by unfold maxLen at hκm; omega
     clear hrow hκm hor
     go_wp2_with (at_builtin; refine Hid.out ?_)
     refine boxes1 ?_
     intro W1 e5 hsz1 B1
     have hR : Grow N wr.heap.size W1 (.slice (some ⟨wr.heap.size, 0, none⟩) 0 0) 0 (Z k) := Grow.empty (by omega) (Nat.le_refl _) B1 _
     replace hG := hG.ext e5
     replace hEr := hEr.trans e5
     refine wpList_append_list rfl _ _ 24 Tryz.underlying24 rfl (by rfl) hR (by simp [Act.eval, hne]) (hl.ext e5) (by omega : 0 + np < 1000000000) ?_
     rintro A' c2 w4 hR2 ⟨g', hg', c3, -⟩
     rw [Nat.zero_add] at hR2 ⊢
     replace hEr := c3.ext hEr (by omega)
     replace hG := hG.chg c3 (by omega) (.inl hg')
     replace hR2 := hR2.congr (y := Z k) (fun i hi => by unfold cat; simp)
     obtain ⟨g, cap', hv, hg, hgs, hcm, hnc, hrow⟩ := hR2.some hn0
     injection hv with e2 e3 e4
     subst e2 e4
     have hsz2 : wr.heap.size ≤ w4.heap.size := Nat.le_trans e5.size c3.size
     clear hR hR2 c3 B1 e5 hsz1 p0 hl
     go_wp2_with (at_builtin; refine Hid.out ?_)
     refine boxes1 ?_
     intro w5 e6 hsz3 BX
     replace hEr := hEr.trans e6
     replace hG := hG.ext e6
     refine wpList_append_row rfl _ _ 23 Tryz.underlying23 rfl rfl hG rfl (hrow.ext e6) hg hcm BX (by omega) ?_
     rintro h'' cap'' w6 hG3 ⟨g', hg', c3, -⟩
     replace hEr := c3.ext hEr (by omega)
     replace hG3 := hG3.congr (B := Z) (fun i _ j _ => by unfold updM; split <;> simp_all)
     clear hG c3 hrow BX e6
     go_wp2
     go_roundw
     case rel => exact ⟨k + 1, by omega, by go_num, hEr, _, _, rfl, hG3⟩
     case measure => simp [intOf]; omega
    ·obtain rfl : k = np := by omega
     go_wp2
     rw [hRf.out]
     exact ⟨hE.trans hEr, .inr ⟨HB.out, _, _, rfl, MtR.wide hG.mtv (by omega) (Nat.le_refl _) (Nat.le_refl _)⟩⟩
  ·have HB : Hid (ok = false) := by
    rw [Hid, HL1.out]
    refine decide_eq_false (fun h9 => ?_)
    have := h9.2
    rw [← hnq, ← hz.out] at this; exact hzn this
   clear hsub hnq hz
   go_wp2
   rw [hRf.out]
   exact ⟨hE, .inl ⟨HB.out, rfl⟩⟩
end Go.Proofs.YtghpfnhmlpfgcaaGreat
namespace Go.Proofs.YtghpfnhmlpfgcaaGreat
open Go.RowKit
theorem ivB_inv {n : Nat} {T : Nat → Nat → Rat} (h : ivB n T = true) : (∀ i, i < n → ∀ c, c < n → mm n T (invM n T) i c = dlt i c) ∧ (∀ i, i < n → ∀ c, c < n → mm n (invM n T) T i c = dlt i c) := by
 have hl := of_decide_eq_true h
 have he := augI_beside n T
 rw [he] at hl
 have h9 := inv_ok (rref_ok n (besideI n T) n) hl
 have hi : invM n T = fun a b => (rref n (besideI n T) n).1 a (n + b) := by funext a b; unfold invM; rw [he]
 rw [hi]
 exact h9
theorem sc_prj1 {m n : Nat} {X T : Nat → Nat → Rat} {p : Nat → Rat} (hp : ∀ i, i < m → 0 < p i) (hT : ivB n T = true) {i k : Nat} (hi : i < m) (hk : k < m) : fitsOf m n X p i k * p k = fitsOf m n (mm n X T) p i k * p k := by
 have h := gf_mul (model_of m n X hp) (model_of m n (mm n X T) hp) (fun _ _ _ _ => rfl) (ivB_inv hT).1 hi hk
 show gf X _ _ i k * p k = gf _ _ _ i k * p k
 rw [h]
theorem sc_prj2 {m n : Nat} {X : Nat → Nat → Rat} {p p' : Nat → Rat} {s : Rat} (hp : ∀ i, i < m → 0 < p i) (hp' : ∀ i, i < m → 0 < p' i) (he : ∀ i, i < m → p' i = s * p i) {i k : Nat} (hi : i < m) (hk : k < m) : fitsOf m n X p i k * p k = fitsOf m n X p' i k * p' k :=
 gf_scale (model_of m n X hp) (model_of m n X hp') he hi hk
theorem sc_cof {m n : Nat} {X : Nat → Nat → Rat} {p p' : Nat → Rat} {s : Rat} (hp : ∀ i, i < m → 0 < p i) (hp' : ∀ i, i < m → 0 < p' i) (he : ∀ i, i < m → p' i = s * p i) (hr : (rref m X n).2.length = n) {i j : Nat} (hi : i < n) (hj : j < n) :
  invM n (nmat (bas X (rref m X n).2) p m) i j = 0 + s * invM n (nmat (bas X (rref m X n).2) p' m) i j := by
 have h1 := (model_of m n X hp).xk
 have h2 := (model_of m n X hp').kx
 rw [hr] at h1 h2
 have h3 := inv_scale (k := s) (fun a ha b hb => by
  show nm m _ p' a b = s * nm m _ p a b
  unfold nm
  rw [← sum_mul]
  exact sum_congr fun t ht => by rw [he t ht]; grind) h1 h2 hi hj
 rw [h3]; grind
theorem bnd150 {m n : Nat} (hm : m ≤ 6) (hn : n ≤ 4) : ∃ k2 k3, Bnd m n 150 4 k2 k3 ∧ k3 ≤ 7000000 := by
 have h5 : (5 : Nat) ^ 4 = 625 := by decide
 refine ⟨625 * (m * 451 + 2), 4 * (625 * (m * 451 + 2) + 150 + 1) + 1, ⟨hn, by omega, by omega, by rw [h5], by omega, rfl, by omega⟩, by omega⟩
theorem inv_ht {m n k P k2 k3 : Nat} {X : Nat → Nat → Rat} {p : Nat → Rat} (hB : Bnd m n k P k2 k3) (hkx : HtM m n k X) (hkp : HtL m k p) (hr : (rref m X n).2.length = n) : HtM n n k2 (invM n (nmat (bas X (rref m X n).2) p m)) := by
 have hlow := (rref_ok m X n).low
 have hXB : HtM m n k (bas X (rref m X n).2) := fun i hi s hs => hkx i hi _ (hlow s (by rw [hr]; exact hs))
 have hKB : HtM n n (m * (3 * k + 1) + 1) (nmat (bas X (rref m X n).2) p m) := nmat_ht hXB hkp (Nat.le_refl _) (Nat.le_refl _)
 have hPW : 5 ^ n ≤ 5 ^ P := Nat.pow_le_pow_right (by omega) hB.hP
 have hIB : 5 ^ n * (m * (3 * k + 1) + 1 + 1) ≤ k2 := by rw [hB.hk2]; exact Nat.mul_le_mul hPW (Nat.le_refl _)
 exact fun i hi j hj => ((rref_ht' (htM_augI hKB) (p := n) (by omega) (.inl (Nat.le_refl _))) i hi (n + j) (by omega)).mono hIB
def fewMt (m : Nat) (L : Nat → Nat) (A : Nat → Nat → Raw) : Lin := ⟨m, L, A, 0, fun _ => raw 0, 0, fun _ => raw 0⟩
theorem few_mat {m : Nat} {L : Nat → Nat} {A : Nat → Nat → Raw} (h : fewB (fewMt m L A) = true) (hc : chk5 m L A = true) :
  0 < m ∧ m ≤ 6 ∧ 0 < L 0 ∧ L 0 ≤ 4 ∧ (∀ i, i < m → L i = L 0) ∧ (∀ i, i < m → ∀ j, j < L 0 → A i j = raw (ratOf (A i j))) ∧ HtM m (L 0) 17 (fun i j => ratOf (A i j)) := by
 obtain ⟨h1, -, -, h4⟩ := few_all h
 unfold chk5 at hc
 simp only [Bool.and_eq_true, decide_eq_true_eq, allB_true] at hc
 obtain ⟨⟨⟨⟨a1, a2⟩, a3⟩, a4⟩, a5⟩ := hc
 have hA : ∀ i, i < m → ∀ j, j < L 0 → okR (A i j) = true := fun i hi j hj => (a5 i hi).2 j (by rw [(a5 i hi).1]; exact hj)
 refine ⟨by omega, h1, by omega, (h4 0 (by show 0 < m; omega)).1, fun i hi => (a5 i hi).1, fun i hi j hj => raw_ratOf (hA i hi j hj), fun i hi j hj => ?_⟩
 refine brief_ht ?_
 rw [← raw_ratOf (hA i hi j hj)]
 exact (h4 i hi).2 j (by show j < L i; rw [(a5 i hi).1]; exact hj)
theorem few_raw {m : Nat} {L : Nat → Nat} {A : Nat → Nat → Raw} (h : fewB (fewMt m L A) = true) : ∀ i, i < m → ∀ j, j < L i → RawSz (A i j) := fun i hi j hj => (brief_raw (((few_all h).2.2.2 i hi).2 j hj)).1
theorem linV_mt {N lo hi : Nat} {w : World} {v : Value} {m : Nat} {L : Nat → Nat} {A : Nat → Nat → Raw} (h : MtR N lo hi w v m L A) : LinV N lo hi w (.agg #[v, .slice none 0 0, .slice none 0 0]) (fewMt m L A) :=
 ⟨_, _, _, rfl, h, ⟨h.le, h.2.1, none, 0, rfl, Nat.le_refl _, Nat.zero_le _, fun h => absurd h (Nat.lt_irrefl _)⟩, ⟨h.le, h.2.1, none, 0, rfl, Nat.le_refl _, Nat.zero_le _, fun h => absurd h (Nat.lt_irrefl _)⟩⟩
end Go.Proofs.YtghpfnhmlpfgcaaGreat
namespace Go.Proofs.YtghpfnhmlpfgcaaGreat
open Go.RowKit
def RetM2 (N : Nat) (w : World) (m n : Nat) (X : Nat → Nat → Rat) (e : Ending) (w' : World) : Prop :=
 ∃ A c, e = .returned (.tuple #[.slice A m c, .int .i64 0]) ∧ MtV N w.heap.size w'.heap.size w' (.slice A m c) m n X ∧ Ext w w'
set_option maxRecDepth 100000 in
set_option maxHeartbeats 4000000 in
theorem rl_Projector {N lo hi : Nat} {w : World} {v1 v2 v3 : Value} {m n : Nat} {X : Nat → Nat → Rat} {y p : Nat → Rat} (h1 : MtV N lo hi w v1 m n X) (h2 : LsV N lo hi w v2 m y) (h3 : LsV N lo hi w v3 m p) (hm0 : 0 < m) (hm : m ≤ 64) (hn0 : 0 < n) (hn : n ≤ 24) (hp : ∀ i, i < m → 0 < p i)
  {k P k2 k3 : Nat} (hB : Bnd m n k P k2 k3) (hkx : HtM m n k X) (hky : HtL m k y) (hkp : HtL m k p) (hK : P * (k + k3 + 1) + 1 + k ≤ 29000000000) :
  Calls Tryz.prog 37 #[.agg #[v1, v2, v3]] w (RetM2 N w m m (fun i j => fitsOf m n X p i j * p j)) := by
 have HX := Lib.hid hkx
 have HY := Lib.hid hky
 have HP := Lib.hid hkp
 have HB := Lib.hid hB
 have HSS : Hid (∀ i, i < m → ∀ j, j < m → Sz (fitsOf m n X p i j) ∧ Sz (p j)) := fun i hi j hj =>
  ⟨(fitsOf_ht hB hkx hkp i hi j hj).sz (by omega), (hkp j hj).sz (by omega)⟩
 have HPOS := Lib.hid hp
 obtain ⟨Rf, hRf⟩ := hid_eq (RetM2 N w m m (fun i j => fitsOf m n X p i j * p j))
 rw [← hRf.out]
 have hN := h1.le
 obtain ⟨A1, c1, rfl, hmc, hcm⟩ := h1.form
 obtain ⟨A2, c2, rfl, hmc2, hcm2⟩ := h2.form
 obtain ⟨A3, c3, rfl, hmc3, hcm3⟩ := h3.form
 have hI1 := h1
 have hI2 := h2
 have hI3 := h3
 unfold maxLen at hcm
 clear h1 h2 h3 hkx hky hkp hK hB hp
 go_enter Tryz.func37, Tryz.ntmps37
 go_wp2_with (go_at_call 57; refine Hid.out ?_)
 refine boxesC1 ?_
 intro W hE hsz B0
 refine (rl_open (hI1.ext hE) (hI2.ext hE) (hI3.ext hE) hm0 hm hn0 hn HPOS.out HB.out.hP HX.out HY.out HP.out HB.out.hK0 HB.out.hK1 HB.out.hk2 HB.out.hK2 HB.out.hk3 HB.out.hK4).mono ?_
 rintro e w1 ⟨gm, rfl, hM, e1⟩
 have hs1 := hE.size
 replace hE := hE.trans e1
 replace B0 := e1.block B0
 obtain ⟨a0, a1, a2, -⟩ := cells3 B0
 have hs2 := hE.size
 obtain ⟨G, hG⟩ := hid_eq (fun i j => fitsOf m n X p i j * p j)
 have HG : Hid (∀ i j, fitsOf m n X p i j * p j = G i j) := fun i j => by rw [hG.out]
 rw [← hG.out] at hRf
 have hB0l : w.heap.size < w1.heap.size := blk_lt B0
 go_wp2
 clear a0 a1 a2
 go_loopw [6, 21] (fun v i wr => ∃ a : Nat, a ≤ m ∧ i = .int .i64 a ∧ Ext w1 wr ∧ ∃ A c, v = .slice A a c ∧ GrowM N w1.heap.size wr.heap.size wr (.slice A a c) a m G) (fun _ i _ => m - (intOf i).toNat)
 case atStart => exact ⟨0, Nat.zero_le _, rfl, Ext.refl w1, _, _, rfl, GrowM.nil (by omega) (Nat.le_refl _) (Nat.le_refl _) _⟩
 case round =>
  obtain ⟨a, ha, rfl, hEr, A6, c6, rfl, hGr⟩ := hrel
  have hsr := hEr.size
  by_cases hlt : a < m
  ·have Br := hEr.block B0
   obtain ⟨a0, a1, a2, -⟩ := cells3 Br
   obtain ⟨wq, hwq⟩ : ∃ wq, wq = wr := ⟨wr, rfl⟩
   subst hwq
   go_wp2
   clear a0 a1 a2
   go_loopw [8, 9, 27] (fun v _ i wr => ∃ b : Nat, b ≤ m ∧ i = .int .i64 b ∧ Ext wq wr ∧ ∃ A c, v = .slice A b c ∧ Grow N wq.heap.size wr (.slice A b c) b (G a)) (fun _ _ i _ => m - (intOf i).toNat)
   case atStart => exact ⟨0, Nat.zero_le _, rfl, Ext.refl wq, _, _, rfl, Grow.nil (by omega) (Nat.le_refl _) _⟩
   case round =>
    obtain ⟨b, hb, rfl, hEq, A7, c7, rfl, hR⟩ := hrel
    have hsq := hEq.size
    by_cases hltb : b < m
    ·obtain ⟨hS1, hS2⟩ := HSS.out a hlt b hltb
     have HS1 := Lib.hid hS1
     have HS2 := Lib.hid hS2
     clear hS1 hS2
     go_wp2_with (go_at_call 86; refine Hid.out ?_)
     refine (rl_projected (hM.ext (hEr.trans hEq)) hlt hltb (by omega) HS1.out HS2.out).mono ?_
     rw [HG.out a b]
     intro e w2 hh
     obtain ⟨b3, A11, k11, c11, A12, k12, c12, rfl, hb3, g5, g6, e6⟩ := hh.form
     replace hEq := hEq.trans e6
     replace hR := hR.ext e6
     have hs6 := e6.size
     go_wp2_with (at_builtin; refine Hid.out ?_)
     refine boxes1 ?_
     intro w3 e7 hsz7 BX
     replace hEq := hEq.trans e7
     replace hR := hR.ext e7
     refine wpList_append_rat rfl _ _ 24 Tryz.underlying24 rfl rfl hR rfl BX hb3 (g5.ext e7) (g6.ext e7) (by omega) ?_
     rintro g cap' w4 hG3 ⟨g', hg', c5, -⟩ -
     replace hEq := c5.ext hEq (by omega)
     replace hG3 := hG3.congr (y := G a) (fun j _ => by unfold upd; split <;> simp_all)
     clear hR c5 BX e6 e7 g5 g6 hb3
     go_wp2
     go_roundw
     case rel => exact ⟨b + 1, by omega, by go_num, hEq, _, _, rfl, hG3⟩
     case measure => simp [intOf]; omega
    ·obtain rfl : b = m := by omega
     obtain ⟨g, cap, hv, hg, hgs, hcm', hnc, hrow⟩ := hR.some hm0
     injection hv with e2 e3 e4
     subst e2 e4
     clear hR
     replace hGr := hGr.ext hEq
     have hEw := hEr.trans hEq
     go_wp2_with (at_builtin; refine Hid.out ?_)
     refine boxes1 ?_
     intro w5 e5 hsz5 BX
     replace hGr := hGr.ext e5
     replace hEw := hEw.trans e5
     refine wpList_append_row rfl _ _ 23 Tryz.underlying23 rfl rfl hGr rfl (hrow.ext e5) hg hcm' BX (by omega) ?_
     rintro h'' cap'' w6 hG3 ⟨g', hg', c3, -⟩
     replace hEw := c3.ext hEw (by omega)
     replace hG3 := hG3.congr (B := G) (fun i _ j _ => by unfold updM; split <;> simp_all)
     clear hGr c3 hrow BX e5
     go_wp2
     go_roundw
     case rel => exact ⟨a + 1, by omega, by go_num, hEw, _, _, rfl, hG3⟩
     case measure => simp [intOf]; omega
  ·obtain rfl : m = a := by omega
   go_wp2
   first | go_ret2 | skip
   rw [hRf.out]
   exact ⟨A6, c6, rfl, MtR.wide hGr.mtv (by omega) (Nat.le_refl _) (Nat.le_refl _), hE.trans hEr⟩
def RetCf (N : Nat) (w : World) (n r : Nat) (Z : Nat → Nat → Rat) (e : Ending) (w' : World) : Prop :=
 Ext w w' ∧ ((r < n ∧ e = .returned (.tuple #[.slice none 0 0, .int .i64 14])) ∨ (r = n ∧ ∃ A c, e = .returned (.tuple #[.slice A n c, .int .i64 0]) ∧ MtV N 0 w'.heap.size w' (.slice A n c) n n Z))
set_option maxRecDepth 100000 in
set_option maxHeartbeats 4000000 in
theorem rl_Cofactor {N lo hi : Nat} {w : World} {v1 v2 v3 : Value} {m n : Nat} {X : Nat → Nat → Rat} {y p : Nat → Rat} (h1 : MtV N lo hi w v1 m n X) (h2 : LsV N lo hi w v2 m y) (h3 : LsV N lo hi w v3 m p) (hm0 : 0 < m) (hm : m ≤ 64) (hn0 : 0 < n) (hn : n ≤ 24) (hp : ∀ i, i < m → 0 < p i)
  {k P k2 k3 : Nat} (hB : Bnd m n k P k2 k3) (hkx : HtM m n k X) (hky : HtL m k y) (hkp : HtL m k p) :
  Calls Tryz.prog 39 #[.agg #[v1, v2, v3]] w (RetCf N w n (rref m X n).2.length (invM n (nmat (bas X (rref m X n).2) p m))) := by
 have HX := Lib.hid hkx
 have HY := Lib.hid hky
 have HP := Lib.hid hkp
 have HB := Lib.hid hB
 have HPOS := Lib.hid hp
 have hrn : (rref m X n).2.length ≤ n := (rref_len m X n).2
 have HZI : Hid ((rref m X n).2.length = n → invM (rref m X n).2.length (nmat (bas X (rref m X n).2) p m) = invM n (nmat (bas X (rref m X n).2) p m)) := fun h9 => by rw [h9]
 obtain ⟨Zn, hZn⟩ := hid_eq (invM n (nmat (bas X (rref m X n).2) p m))
 rw [← hZn.out] at HZI ⊢
 have HO : Hid (∀ w1 v1 v2 v3 lo hi, MtV N lo hi w1 v1 m n X → LsV N lo hi w1 v2 m y → LsV N lo hi w1 v3 m p → Calls Tryz.prog 57 #[.agg #[v1, v2, v3]] w1 (RetOpenB N w1 m n X y p (rref m X n).2 (fitsOf m n X p) (invM (rref m X n).2.length (nmat (bas X (rref m X n).2) p m)))) :=
  fun w1 v1 v2 v3 lo hi g1 g2 g3 => rl_openB g1 g2 g3 hm0 hm hn0 hn HPOS.out HB.out.hP HX.out HY.out HP.out HB.out.hK0 HB.out.hK1 HB.out.hk2 HB.out.hK2 HB.out.hk3 HB.out.hK4
 obtain ⟨Zr, hZr⟩ := hid_eq (invM (rref m X n).2.length (nmat (bas X (rref m X n).2) p m))
 rw [← hZr.out] at HO HZI
 generalize (rref m X n).2 = pv at *
 obtain ⟨r, hr⟩ := hid_eq pv.length
 rw [← hr.out] at hrn HZI ⊢
 obtain ⟨Rf, hRf⟩ := hid_eq (RetCf N w n r Zn)
 rw [← hRf.out]
 have hN := h1.le
 obtain ⟨A1, c1, rfl, hmc, hcm⟩ := h1.form
 obtain ⟨A2, c2, rfl, hmc2, hcm2⟩ := h2.form
 obtain ⟨A3, c3, rfl, hmc3, hcm3⟩ := h3.form
 have hI1 := h1
 have hI2 := h2
 have hI3 := h3
 unfold maxLen at hcm
 clear h1 h2 h3 hkx hky hkp hB hp
 go_enter Tryz.func39, Tryz.ntmps39
 go_wp2_with (go_at_call 57; refine Hid.out ?_)
 refine boxesC1 ?_
 intro W hE hsz B0
 refine (HO.out W _ _ _ _ _ (hI1.ext hE) (hI2.ext hE) (hI3.ext hE)).mono ?_
 rintro e w1 ⟨gm, rfl, hM, e1, hMB⟩
 replace hE := hE.trans e1
 replace B0 := e1.block B0
 obtain ⟨a0, a1, a2, -⟩ := cells3 B0
 obtain ⟨A4, c4, A5, c5, A6, c6, A7, c7, s5, s6, A8, c8, BM, -, -, -, hi4, -⟩ := hM
 rw [← hr.out] at BM hMB
 obtain ⟨r0, r1, r2, r3, r4, r5, r6⟩ := cells7 BM
 obtain ⟨b, off, rfl, -, -, hx⟩ := (hI1.ext hE).addr hm0
 obtain ⟨Ab, cb, p0, -, hcb, -⟩ := hx 0 hm0
 rw [Nat.add_zero] at p0
 unfold maxLen at hcb
 have hc7 : c7 ≤ 9223372036854775807 := by
  obtain ⟨A, c, hv, h9, h8⟩ := hi4.form
  injection hv with _ _ e9
  subst e9; unfold maxLen at h8; omega
 clear hx hi4
 go_upto_region 4 with (fail)
 refine region_inv [Mn.eq (.pointer (some ⟨gm, 0, none⟩)), Mn.eq (.pointer (some ⟨gm, 0, none⟩)), Mn.eq (.pointer (some ⟨gm, 3, none⟩)), Mn.eq (.slice A7 r c7), Mn.eq (.int .i64 (r : Int)), Mn.eq (.pointer (some ⟨w.heap.size, 0, none⟩)), Mn.eq (.slice (some ⟨b, off, none⟩) m c1), Mn.eq (.pointer (some ⟨b, off, none⟩)), Mn.eq (.slice Ab n cb), Mn.eq (.int .i64 (n : Int)), Mn.eq (.bool (decide (r < n)))] [some 14, some 15, some 16, some 17, some 18, some 19, some 20, some 21, some 22, some 23, some 24] [] [true, true, true, true, true, true, true, true, true, true, true] 0 (by kernel_rfl) (by kernel_rfl) (by kernel_rfl) (by kernel_rfl) (by kernel_rfl) (by kernel_rfl) (by kernel_rfl) (by kernel_rfl) ?_ ?_
 ·intro i hi hl
  have hi' : i = 0 ∨ i = 1 ∨ i = 2 ∨ i = 3 ∨ i = 4 ∨ i = 5 ∨ i = 6 ∨ i = 7 ∨ i = 8 ∨ i = 9 ∨ i = 10 := by have h9 : i < 11 := hi; omega
  clear hi
  rcases hi' with rfl | rfl | rfl | rfl | rfl | rfl | rfl | rfl | rfl | rfl | rfl
  ·clear hl
   refine stp rfl ?_
   intro ac wi eI hold hpre K hK
   have o4 := hold 4 (by kernel_rfl)
   simp only [List.getElem?_toArray, List.getElem?_cons_succ, List.getElem?_cons_zero] at o4
   clear hold hpre
   go_simp
   exact hK.out _ _ (Ext.refl _) rfl
  ·clear hl
   refine stp rfl ?_
   intro ac wi eI hold hpre K hK
   obtain ⟨x14, s14, j14⟩ := hpre 0 (by kernel_rfl) 14 rfl
   obtain rfl : x14 = (.pointer (some ⟨gm, 0, none⟩)) := j14
   clear hold hpre
   go_simp
   exact hK.out _ _ (Ext.refl _) rfl
  ·clear hl
   refine stp rfl ?_
   intro ac wi eI hold hpre K hK
   obtain ⟨x15, s15, j15⟩ := hpre 1 (by kernel_rfl) 15 rfl
   obtain rfl : x15 = (.pointer (some ⟨gm, 0, none⟩)) := j15
   clear hold hpre
   go_simp
   exact hK.out _ _ (Ext.refl _) rfl
  ·clear hl
   refine stp rfl ?_
   intro ac wi eI hold hpre K hK
   obtain ⟨x16, s16, j16⟩ := hpre 2 (by kernel_rfl) 16 rfl
   obtain rfl : x16 = (.pointer (some ⟨gm, 3, none⟩)) := j16
   clear hold hpre
   have cc0 := eI.cell a0
   have cc1 := eI.cell r3
   have cc2 := eI.cell p0
   go_simp
   exact hK.out _ _ (Ext.refl _) rfl
  ·clear hl
   refine stp rfl ?_
   intro ac wi eI hold hpre K hK
   obtain ⟨x17, s17, j17⟩ := hpre 3 (by kernel_rfl) 17 rfl
   obtain rfl : x17 = (.slice A7 r c7) := j17
   clear hold hpre
   go_simp
   exact hK.out _ _ (Ext.refl _) rfl
  ·clear hl
   refine stp rfl ?_
   intro ac wi eI hold hpre K hK
   have o1 := hold 1 (by kernel_rfl)
   simp only [List.getElem?_toArray, List.getElem?_cons_succ, List.getElem?_cons_zero] at o1
   clear hold hpre
   go_simp
   exact hK.out _ _ (Ext.refl _) rfl
  ·clear hl
   refine stp rfl ?_
   intro ac wi eI hold hpre K hK
   obtain ⟨x19, s19, j19⟩ := hpre 5 (by kernel_rfl) 19 rfl
   obtain rfl : x19 = (.pointer (some ⟨w.heap.size, 0, none⟩)) := j19
   clear hold hpre
   have cc0 := eI.cell a0
   have cc1 := eI.cell r3
   have cc2 := eI.cell p0
   go_simp
   exact hK.out _ _ (Ext.refl _) rfl
  ·clear hl
   refine stp rfl ?_
   intro ac wi eI hold hpre K hK
   obtain ⟨x20, s20, j20⟩ := hpre 6 (by kernel_rfl) 20 rfl
   obtain rfl : x20 = (.slice (some ⟨b, off, none⟩) m c1) := j20
   clear hold hpre
   go_simp
   exact hK.out _ _ (Ext.refl _) rfl
  ·clear hl
   refine stp rfl ?_
   intro ac wi eI hold hpre K hK
   obtain ⟨x21, s21, j21⟩ := hpre 7 (by kernel_rfl) 21 rfl
   obtain rfl : x21 = (.pointer (some ⟨b, off, none⟩)) := j21
   clear hold hpre
   have cc0 := eI.cell a0
   have cc1 := eI.cell r3
   have cc2 := eI.cell p0
   go_simp
   exact hK.out _ _ (Ext.refl _) rfl
  ·clear hl
   refine stp rfl ?_
   intro ac wi eI hold hpre K hK
   obtain ⟨x22, s22, j22⟩ := hpre 8 (by kernel_rfl) 22 rfl
   obtain rfl : x22 = (.slice Ab n cb) := j22
   clear hold hpre
   go_simp
   exact hK.out _ _ (Ext.refl _) rfl
  ·clear hl
   refine stp rfl ?_
   intro ac wi eI hold hpre K hK
   obtain ⟨x18, s18, j18⟩ := hpre 4 (by kernel_rfl) 18 rfl
   obtain rfl : x18 = (.int .i64 (r : Int)) := j18
   obtain ⟨x23, s23, j23⟩ := hpre 9 (by kernel_rfl) 23 rfl
   obtain rfl : x23 = (.int .i64 (n : Int)) := j23
   clear hold hpre
   go_simp
   exact hK.out _ _ (Ext.refl _) rfl
 intro vals wz eZ hJ
 have J14 : Mn.p (Mn.eq (.pointer (some ⟨gm, 0, none⟩))) (vals 0) wz := hJ 0 (by decide) (by decide)
 have J15 : Mn.p (Mn.eq (.pointer (some ⟨gm, 0, none⟩))) (vals 1) wz := hJ 1 (by decide) (by decide)
 have J16 : Mn.p (Mn.eq (.pointer (some ⟨gm, 3, none⟩))) (vals 2) wz := hJ 2 (by decide) (by decide)
 have J17 : Mn.p (Mn.eq (.slice A7 r c7)) (vals 3) wz := hJ 3 (by decide) (by decide)
 have J18 : Mn.p (Mn.eq (.int .i64 (r : Int))) (vals 4) wz := hJ 4 (by decide) (by decide)
 have J19 : Mn.p (Mn.eq (.pointer (some ⟨w.heap.size, 0, none⟩))) (vals 5) wz := hJ 5 (by decide) (by decide)
 have J20 : Mn.p (Mn.eq (.slice (some ⟨b, off, none⟩) m c1)) (vals 6) wz := hJ 6 (by decide) (by decide)
 have J21 : Mn.p (Mn.eq (.pointer (some ⟨b, off, none⟩))) (vals 7) wz := hJ 7 (by decide) (by decide)
 have J22 : Mn.p (Mn.eq (.slice Ab n cb)) (vals 8) wz := hJ 8 (by decide) (by decide)
 have J23 : Mn.p (Mn.eq (.int .i64 (n : Int))) (vals 9) wz := hJ 9 (by decide) (by decide)
 have J24 : Mn.p (Mn.eq (.bool (decide (r < n)))) (vals 10) wz := hJ 10 (by decide) (by decide)
 clear hJ
 simp only [putAll, if_true, Bool.false_eq_true, if_false, Act.put, Nat.zero_add, Nat.reduceAdd, List.setIfInBounds_toArray, List.set_cons_zero, List.set_cons_succ]
 generalize vals 0 = z14 at J14 ⊢
 obtain rfl : z14 = (.pointer (some ⟨gm, 0, none⟩)) := J14
 generalize vals 1 = z15 at J15 ⊢
 obtain rfl : z15 = (.pointer (some ⟨gm, 0, none⟩)) := J15
 generalize vals 2 = z16 at J16 ⊢
 obtain rfl : z16 = (.pointer (some ⟨gm, 3, none⟩)) := J16
 generalize vals 3 = z17 at J17 ⊢
 obtain rfl : z17 = (.slice A7 r c7) := J17
 generalize vals 4 = z18 at J18 ⊢
 obtain rfl : z18 = (.int .i64 (r : Int)) := J18
 generalize vals 5 = z19 at J19 ⊢
 obtain rfl : z19 = (.pointer (some ⟨w.heap.size, 0, none⟩)) := J19
 generalize vals 6 = z20 at J20 ⊢
 obtain rfl : z20 = (.slice (some ⟨b, off, none⟩) m c1) := J20
 generalize vals 7 = z21 at J21 ⊢
 obtain rfl : z21 = (.pointer (some ⟨b, off, none⟩)) := J21
 generalize vals 8 = z22 at J22 ⊢
 obtain rfl : z22 = (.slice Ab n cb) := J22
 generalize vals 9 = z23 at J23 ⊢
 obtain rfl : z23 = (.int .i64 (n : Int)) := J23
 generalize vals 10 = z24 at J24 ⊢
 obtain rfl : z24 = (.bool (decide (r < n))) := J24
 refine stepL_done (by kernel_rfl) ?_ _
 have hEz := hE.trans eZ
 by_cases hlt : r < n
 ·go_wp2
  first | go_ret2 | skip
  rw [hRf.out]
  exact ⟨hEz, .inl ⟨hlt, rfl⟩⟩
 ·have hrn' : r = n := by omega
  obtain ⟨x0, x1, x2, x3, A9, c9, A10, c10, x6, BM2, -, hZ2⟩ := hMB (by omega)
  have hlt2 : decide (r < n) = false := decide_eq_false hlt
  have BMz := eZ.block BM2
  have hZz := hZ2.ext eZ
  clear r0 r1 r2 r3 r4 r5 r6 hMB BM
  obtain ⟨r0, r1, r2, r3, r4, r5, r6⟩ := cells7 BMz
  have HZn : Hid (r = n) := hrn'
  clear hrn' hrn
  go_wp2
  first | go_ret2 | skip
  rw [hRf.out]
  rw [HZI.out HZn.out] at hZz
  refine ⟨hEz, .inr ⟨HZn.out, A10, c10, Eq.trans (b := Ending.returned (.tuple #[.slice A10 r c10, .int .i64 0])) rfl (by rw [HZn.out]), ?_⟩⟩
  ·have h9 := hZz.wide (lo' := 0) (hi' := wz.heap.size) (Nat.zero_le _) eZ.size (Nat.le_refl _)
   rw [HZn.out] at h9
   exact h9
end Go.Proofs.YtghpfnhmlpfgcaaGreat
