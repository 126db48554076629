import Derived.Test.YtghpfnhmlpfgcaaGreatWb01
import Derived.Test.YtghpfnhmlpfgcaaGreatWb02
import Derived.Test.YtghpfnhmlpfgcaaGreatWb03
import Derived.Test.YtghpfnhmlpfgcaaGreatWb04
import Derived.Test.YtghpfnhmlpfgcaaGreatWb05
import Derived.Test.YtghpfnhmlpfgcaaGreatWb06
import Derived.Test.YtghpfnhmlpfgcaaGreatWb07
import Derived.Test.YtghpfnhmlpfgcaaGreatWb08
import Derived.Test.YtghpfnhmlpfgcaaGreatWb09
import Derived.Test.YtghpfnhmlpfgcaaGreatWb10
import Derived.Test.YtghpfnhmlpfgcaaGreatWb11
import Derived.Test.YtghpfnhmlpfgcaaGreatWb12
import Derived.Test.YtghpfnhmlpfgcaaGreatWb13
import Derived.Test.YtghpfnhmlpfgcaaGreatWb14
import Derived.Test.YtghpfnhmlpfgcaaGreatWb15
import Derived.Test.YtghpfnhmlpfgcaaGreatWb16
import Derived.Test.YtghpfnhmlpfgcaaGreatWb17
import Derived.Test.YtghpfnhmlpfgcaaGreatWb18
import Derived.Test.YtghpfnhmlpfgcaaGreatWb19
import Derived.Test.YtghpfnhmlpfgcaaGreatWb20
import Derived.Test.YtghpfnhmlpfgcaaGreatWb21
import Derived.Test.YtghpfnhmlpfgcaaGreatWb22
import Derived.Test.YtghpfnhmlpfgcaaGreatWb23
import Derived.Test.YtghpfnhmlpfgcaaGreatWb24
import Derived.Test.YtghpfnhmlpfgcaaGreatWb25
import Derived.Test.YtghpfnhmlpfgcaaGreatWb26
import Derived.Test.YtghpfnhmlpfgcaaGreatWb27
import Derived.Test.YtghpfnhmlpfgcaaGreatWb28
import Derived.Test.YtghpfnhmlpfgcaaGreatWb29
import Derived.Test.YtghpfnhmlpfgcaaGreatWb30
import Derived.Test.YtghpfnhmlpfgcaaGreatWb31
import Derived.Test.YtghpfnhmlpfgcaaGreatWb32
import Derived.Test.YtghpfnhmlpfgcaaGreatWb33
import Derived.Test.YtghpfnhmlpfgcaaGreatWb34
import Derived.Test.YtghpfnhmlpfgcaaGreatWb35
import Derived.Test.YtghpfnhmlpfgcaaGreatWb36
import Derived.Test.YtghpfnhmlpfgcaaGreatWb37
import Derived.Test.YtghpfnhmlpfgcaaGreatWb38
import Derived.Test.YtghpfnhmlpfgcaaGreatWb39
import Derived.Test.YtghpfnhmlpfgcaaGreatWb40
import Derived.Test.YtghpfnhmlpfgcaaGreatWb41
import Derived.Test.YtghpfnhmlpfgcaaGreatWb42
import Derived.Deep.RegionHeld3
import Derived.Deep.AppendLies
import Derived.WalkKit
import Derived.WalkSpells
import Derived.WalkLawsBesides
import Derived.Lib.Hide
import Derived.Deep.QuietTactic
import Derived.BigQuiet
import Derived.Maps.AppendAt
import Derived.Deep.DeepCutAuto
import Derived.Deep.RegionWith
import Derived.Deep.DeepMust
import Derived.Deep.CutBlock
import Derived.OrdersIn
import Derived.RegionTactic
import Derived.RangeFuncNested
import Derived.RangeFuncBound
import Derived.RangeFuncCalls
import Derived.RangeFuncLeaves
import Derived.RangeFuncBox
import Derived.Shelf.Abstract
import Derived.OwnWalkIn
import Derived.TacticsInMore
import Derived.LoopNIn
import Derived.LoopIn
import Derived.Laws.IdiomCopy
import Derived.Shelf.Bits.Mul64
import Derived.Deep.RegionLaw
import Derived.Lib.SliceRun
set_option linter.all false
namespace Go.Proofs.YtghpfnhmlpfgcaaGreat
open Go.RowKit
set_option maxHeartbeats 2000000 in
theorem r2_sum {N lo hi : Nat} {w : World} {v : Value} {n : Nat} {x : Nat → Rat} (h : LsV N lo hi w v n x) {k : Nat} (hk : HtL n k x) (hK : n * (k + 1) + 1 ≤ 29000000000) :
  Calls Tryz.prog 31 #[v] w (RetR N w (sum n x)) := by
 obtain ⟨A, c, rfl, hnc, hcm⟩ := h.form
 unfold maxLen at hcm
 have hN := h.le
 have hI := h
 have HZ : Hid (∀ i, i < n → Sz (x i)) := fun i hi => (hk i hi).sz (by have := Nat.le_mul_of_pos_left (k + 1) (show 0 < n by omega); omega)
 have HS : Hid (∀ i, i ≤ n → Sz (sum i x)) := fun i hi => (sum_ht hk hi hK).sz (Nat.le_refl _)
 obtain ⟨q, hq⟩ := hid_eq (sum n x)
 rw [← hq.out]
 clear h hk hK
 go_enter Tryz.func31, Tryz.ntmps31
 go_wp2_with (go_at_call 24; refine Hid.out ?_)
 refine boxesC1 ?_
 intro W hE hsz B0
 refine (r2_Whole (N := N) (by have := hE.size; omega) 0 (by omega) (by omega)).mono ?_
 intro e w1 hh
 obtain ⟨b1, A1, k1, c1, A2, k2, c2, rfl, hb1, g1, g2, e1⟩ := hh.form
 replace hE := hE.trans e1
 replace B0 := e1.block B0
 replace hsz := Nat.le_trans hsz e1.size
 go_upto_region 2 with (fail)
 refine boxes1 ?_
 intro w2 e2 hsz2 BS
 have hB : BoxR N w2 w1.heap.size (sum 0 x) := BoxR.mk BS hb1 (g1.ext e2) (g2.ext e2)
 replace hE := hE.trans e2
 replace B0 := e2.block B0
 clear g1 g2 hb1 BS e2 e1
 go_wp2
 go_loopw [4] (fun i wr => ∃ k : Nat, k ≤ n ∧ i = .int .i64 k ∧ Ext w wr ∧ w1.heap.size < wr.heap.size ∧ wr.heap[w.heap.size]? = some (.cells #[.bool false, .slice none 0 0, .bool false, .slice none 0 0] 37 (0, 0)) ∧ BoxR N wr w1.heap.size (sum k x)) (fun i _ => n - (intOf i).toNat)
 case atStart => exact ⟨0, Nat.zero_le _, rfl, hE, by omega, B0, hB⟩
 case round =>
  clear hB hE B0 hsz2
  obtain ⟨k, hk, rfl, hE, hsz2, B0, hB⟩ := hrel
  obtain ⟨b1, A1, k1, c1, A2, k2, c2, BS, hb1, g1, g2⟩ := hB
  obtain ⟨s0, s1, s2, s3, s4, s5, s6, s7⟩ := cells4 BS
  have hv := RatV.mk hb1 g1 g2
  by_cases hlt : k < n
  ·obtain ⟨b, off, rfl, -, -, hx⟩ := (hI.ext hE).addr (by omega)
   obtain ⟨A3, n3, c3, A4, n4, c4, p0, p1, p2, p3, hv'⟩ := (hx k hlt).val
   clear hx
   go_wp2
   have eC := (Ext.refl wr).drew
   refine region_late (fun w' => w'.cell? ⟨w1.heap.size, 0, none⟩ = some (.bool b1) ∧ w'.cell? ⟨w1.heap.size, 1, none⟩ = some (.slice A1 k1 c1) ∧ w'.cell? ⟨w1.heap.size, 2, none⟩ = some (.bool false) ∧ w'.cell? ⟨w1.heap.size, 3, none⟩ = some (.slice A2 k2 c2) ∧ w'.cell? ⟨b, off + k * 4, none⟩ = some (.bool (raw (x k)).b1) ∧ w'.cell? ⟨b, off + k * 4 + 1, none⟩ = some (.slice A3 n3 c3) ∧ w'.cell? ⟨b, off + k * 4 + 2, none⟩ = some (.bool (raw (x k)).b2) ∧ w'.cell? ⟨b, off + k * 4 + 3, none⟩ = some (.slice A4 n4 c4)) [6] (by kernel_rfl) (by exact ⟨eC.cell s0, eC.cell s1, eC.cell s2, eC.cell s3, eC.cell p0, eC.cell p1, eC.cell p2, eC.cell p3⟩) (fun hHeld => ?_)
   refine sT 0 (h := ?_)
   try simp only [nr]
   refine sP 1 (h := ?_)
   try simp only [nr]
   refine sP 2 (h := ?_)
   try simp only [nr]
   refine sP 3 (h := ?_)
   try simp only [nr]
   refine sT 4 (h := ?_)
   try simp only [nr]
   refine stepL_only (i := 5) rfl (by kernel_rfl) (fun K hK => ?_)
   go_simp
   refine (r2_add (x := sum k x) (y := x k) (by exact hv.ext eC) (by exact hv'.ext eC) (HS.out k (by omega)) (HZ.out k hlt)).mono ?_
   intro e w5 hh
   obtain ⟨b5, A5, k5, c5, A6, k6, c6, rfl, hb5, g5, g6, e5⟩ := hh.form
   replace eC := eC.trans e5
   have D0 := eC.block BS
   obtain ⟨t0, t1, t2, t3, t4, t5, t6, t7⟩ := cells4 D0
   go_wp2_with fail
   clear hHeld
   refine hK.out _ _ (by exact ⟨eC.cell s0, eC.cell s1, eC.cell s2, eC.cell s3, eC.cell p0, eC.cell p1, eC.cell p2, eC.cell p3⟩) fun hHeld => ?_
   clear hK K
   try simp only [nr]
   refine stepL_late (i := 6) rfl (by kernel_rfl) (by kernel_rfl) (fun K hK => ?_)
   go_simp
   refine hK.out _ _ ?_
   clear hK K
   try simp only [nr]
   refine stepL_done (by kernel_rfl) ?_ _
   clear hHeld
   obtain ⟨w6, E6, hB6, K6, hs6⟩ := boxSet D0 (by omega) (q := sum (k + 1) x) hb5 g5 g6
   rw [E6]
   clear E6
   go_wp2
   go_roundw
   case rel => exact ⟨k + 1, by omega, by go_num, K6.ext (hE.trans eC) (by omega), by have := eC.size; omega, K6.blk (eC.block B0) (by omega), hB6⟩
   case measure => simp [intOf]; omega
  ·obtain rfl : k = n := by omega
   obtain ⟨r0, r1, r2, r3, r4, r5, r6, r7⟩ := cells4 B0
   go_wp2
   rw [← hq.out] at hb1 g1 g2
   exact fin_rat rfl rfl rfl hE B0 (by omega) hN g1 g2 hb1
end Go.Proofs.YtghpfnhmlpfgcaaGreat
namespace Go.Proofs.YtghpfnhmlpfgcaaGreat
theorem steinitz {m k r : Nat} {V U C : Nat → Nat → Rat} (h : ∀ s, s < k → ∀ i, i < m → V i s = sum r (fun t => U i t * C t s)) (hk : r < k) :
  ∃ y : Nat → Rat, (∃ s, s < k ∧ y s ≠ 0) ∧ ∀ i, i < m → sum k (fun s => V i s * y s) = 0 := by
 have hR := rref_ok r C k
 have hl := hR.len
 obtain ⟨c, hc, hg⟩ := inc_gap hR.inc (Nat.lt_of_le_of_lt hl hk)
 refine ⟨nul (rref r C k).1 (rref r C k).2 c, ⟨c, hc, by rw [nul_self hg]; decide⟩, fun i hi => ?_⟩
 have h0 := nul_null hR hc
 generalize nul (rref r C k).1 (rref r C k).2 c = y at h0
 have e : ∀ s, s < k → V i s * y s = sum r (fun t => U i t * (C t s * y s)) := by
  intro s hs
  rw [h s hs i hi, ← sum_mul_right]
  exact sum_congr fun t _ => by grind
 rw [sum_congr e, sum_comm]
 exact sum_eq_zero fun t ht => by rw [sum_mul, h0 t ht]; grind
variable {m n : Nat} {A M X : Nat → Nat → Rat} {P : Nat → Rat} {p : List Nat}
end Go.Proofs.YtghpfnhmlpfgcaaGreat
namespace Go.Proofs.YtghpfnhmlpfgcaaGreat
theorem skip_onto {m i k : Nat} (hi : i < m + 1) (hk : k < m + 1) (hne : k ≠ i) : ∃ j, j < m ∧ skip i j = k := by
 rcases Nat.lt_or_ge k i with h | h
 ·exact ⟨k, by omega, by unfold skip; rw [if_pos h]⟩
 ·exact ⟨k - 1, by omega, by unfold skip; rw [if_neg (by omega)]; omega⟩
variable {m n : Nat} {A M X M' : Nat → Nat → Rat} {P : Nat → Rat} {p p' : List Nat}
theorem falls_one (h : Model (m + 1) n A M X P p) {i : Nat} (hi : i < m + 1) (h' : Rref m n (fun j c => A (skip i j) c) M' p') (hlt : p'.length < p.length) : hd A X P p i = 1 := by
 obtain ⟨y, ⟨s0, hs0, hy0⟩, hy⟩ := steinitz (m := m) (k := p.length) (r := p'.length) (V := fun j s => A (skip i j) (p[s]?.getD 0)) (U := fun j t => A (skip i j) (p'[t]?.getD 0)) (C := fun t s => M' t (p[s]?.getD 0))
  (fun s hs j hj => cols_span h' hj (h.rr.low s hs)) hlt
 have hu : ∀ k, av n A (spread p y) k = sum p.length (fun s => A k (p[s]?.getD 0) * y s) := fun k => av_spread h.rr y k
 have hz : ∀ k, k < m + 1 → k ≠ i → av n A (spread p y) k = 0 := by
  intro k hk hne
  obtain ⟨j, hj, rfl⟩ := skip_onto hi hk hne
  rw [hu]; exact hy j hj
 have hnz : av n A (spread p y) i ≠ 0 := by
  intro h0
  refine hy0 (cols_free h.rr (y := y) (fun k hk => ?_) s0 hs0)
  rw [← hu]
  by_cases hne : k = i
  ·rw [hne]; exact h0
  ·exact hz k hk hne
 have h1 := h.fix (spread p y) i hi
 rw [sum_single hi (fun k hk hne => by rw [hz k hk hne]; grind)] at h1
 unfold hd
 generalize av n A (spread p y) i = u at *
 have h2 : (gf A X p i i * P i - 1) * u = 0 := by grind
 rcases Rat.mul_eq_zero.1 h2 with h3 | h3
 ·grind
 ·exact absurd h3 hnz
theorem one_falls (h : Model (m + 1) n A M X P p) {i : Nat} (hi : i < m + 1) (h' : Rref m n (fun j c => A (skip i j) c) M' p') (h1 : hd A X P p i = 1) : p'.length < p.length := by
 rcases Nat.lt_or_ge p'.length p.length with hlt | hge
 ·exact hlt
 ·exfalso
  have hgi : gf A X p i i ≠ 0 := by
   intro h0; unfold hd at h1; rw [h0] at h1; exact absurd h1 (by simp)
  have hz : ∀ k, k < m + 1 → k ≠ i → gf A X p i k = 0 := by
   have h2 := h.sq i hi
   rw [← sum_skip hi] at h2
   have h3 : sum m (fun j => P (skip i j) * (gf A X p i (skip i j) * gf A X p i (skip i j))) = 0 := by
    have : P i * (gf A X p i i * gf A X p i i) = gf A X p i i := by unfold hd at h1; grind
    grind
   have h4 := sum_pos_zero (fun j hj => Rat.mul_nonneg (Rat.le_of_lt (h.pos _ (skip_lt hj))) (sq_nonneg _)) h3
   intro k hk hne
   obtain ⟨j, hj, rfl⟩ := skip_onto hi hk hne
   have h5 := h4 j hj
   have h6 := h.pos _ (skip_lt (i := i) hj)
   rcases Rat.mul_eq_zero.1 h5 with h7 | h7
   ·rw [h7] at h6; exact absurd h6 (by decide)
   ·exact sq_zero h7
  obtain ⟨x, hx⟩ := h.col i
  obtain ⟨y, ⟨s0, hs0, hy0⟩, hy⟩ := steinitz (m := m + 1) (k := p'.length + 1) (r := p.length) (V := fun k s => if s < p'.length then A k (p'[s]?.getD 0) else av n A x k) (U := bas A p)
   (C := fun t s => if s < p'.length then M t (p'[s]?.getD 0) else sum n (fun c => M t c * x c)) (by
    intro s hs k hk
    by_cases hsl : s < p'.length
    ·simp only [hsl, if_true]; exact cols_span h.rr hk (h'.low s hsl)
    ·simp only [hsl, if_false]
     unfold av
     have e : ∀ c, c < n → A k c * x c = sum p.length (fun t => bas A p k t * (M t c * x c)) := by
      intro c hc
      rw [cols_span h.rr hk hc, ← sum_mul_right]
      exact sum_congr fun t _ => by unfold bas; grind
     rw [sum_congr e, sum_comm]
     exact sum_congr fun t _ => sum_mul _ _ _) (by omega)
  have hsplit : ∀ k, sum (p'.length + 1) (fun s => (if s < p'.length then A k (p'[s]?.getD 0) else av n A x k) * y s) = sum p'.length (fun s => A k (p'[s]?.getD 0) * y s) + av n A x k * y p'.length := by
   intro k
   rw [sum_succ, sum_congr (g := fun s => A k (p'[s]?.getD 0) * y s) (fun s hs => by rw [if_pos hs]), if_neg (Nat.lt_irrefl _)]
  have hys : ∀ s, s < p'.length → y s = 0 := by
   refine cols_free h' (fun j hj => ?_)
   have h2 := hy _ (skip_lt (i := i) hj)
   rw [hsplit, ← hx, h.symm, hz _ (skip_lt hj) (skip_ne i j)] at h2
   grind
  have hyl : y p'.length = 0 := by
   have h2 := hy i hi
   rw [hsplit, ← hx, sum_eq_zero (fun s hs => by rw [hys s hs]; grind)] at h2
   rcases Rat.mul_eq_zero.1 (show gf A X p i i * y p'.length = 0 by grind) with h3 | h3
   ·exact absurd h3 hgi
   ·exact h3
  refine hy0 ?_
  rcases Nat.lt_or_ge s0 p'.length with h2 | h2
  ·exact hys s0 h2
  ·obtain rfl : s0 = p'.length := by omega
   exact hyl
end Go.Proofs.YtghpfnhmlpfgcaaGreat
namespace Go.Proofs.YtghpfnhmlpfgcaaGreat
open Go.RowKit
set_option maxRecDepth 100000 in
set_option maxHeartbeats 2000000 in
theorem rl_Redundancy_bad {N lo hi : Nat} {w : World} {v : Value} {Z : Lin} (h : LinV N lo hi w v Z) (hs : LinSz Z) (hp : ∀ i, i < Z.np → RawS (Z.p i)) (hc : codeOf Z ≠ 0) :
  Calls Tryz.prog 26 #[v] w (RetV w (.tuple #[.slice none 0 0, .int .i64 (codeOf Z)])) := by
 have HS := Lib.hid hs
 have HP := Lib.hid hp
 have HC := Lib.hid hc
 obtain ⟨r, hr⟩ := hid_eq (codeOf Z)
 have hr0 : (r == 0) = false := by rw [hr.out]; simpa using hc
 have hr1 : (r != 0) = true := by simpa using hr0
 rw [← hr.out]
 have hI := h
 obtain ⟨A1, c1, A2, c2, A3, c3, rfl, h1, h2, h3, hm, hnl, hnp⟩ := h.parts
 clear h h1 h2 h3 hc hs hp
 go_enter Tryz.func26, Tryz.ntmps26
 go_wp2_with (go_at_call 57; refine Hid.out ?_)
 refine boxesC1 ?_
 intro W hE hsz B0
 refine (rl_open_bad (hI.ext hE) HS.out HP.out HC.out).mono ?_
 rintro e w1 ⟨rfl, e1⟩
 rw [← hr.out]
 go_wp2
 first | go_ret2 | skip
 exact ⟨rfl, hE.trans e1⟩
end Go.Proofs.YtghpfnhmlpfgcaaGreat
namespace Go.Proofs.YtghpfnhmlpfgcaaGreat
open Go.RowKit
theorem red_zero {m n : Nat} {X : Nat → Nat → Rat} {p : Nat → Rat} (hp : ∀ i, i < m + 1 → 0 < p i) {i : Nat} (hi : i < m + 1) : redOf (m + 1) n X p i = 0 ↔ (rref m (fun j => X (skip i j)) n).2.length < (rref (m + 1) X n).2.length := by
 have hM := model_of (m + 1) n X hp
 have hR : Rref m n (fun j c => X (skip i j) c) _ _ := rref_ok m (fun j => X (skip i j)) n
 rw [red_hd]
 constructor
 ·intro h
  exact one_falls hM hi hR (by grind)
 ·intro h
  have := falls_one hM hi hR h
  grind
theorem sign_nonneg {q : Rat} (h : 0 ≤ q) : ¬ q.num.sign < 0 := by
 intro h2
 have h3 : q.num < 0 := Int.sign_neg_iff.1 h2
 have h4 : 0 ≤ q.num := Rat.num_nonneg.2 h
 omega
end Go.Proofs.YtghpfnhmlpfgcaaGreat
namespace Go.Proofs.YtghpfnhmlpfgcaaGreat
open Go.RowKit
set_option maxRecDepth 100000 in
set_option maxHeartbeats 4000000 in
theorem red_out {N lo hi : Nat} {w : World} {v : Value} {Z : Lin} (h : LinV N lo hi w v Z) (hs : fewB Z = false) :
  Calls Tryz.prog 4 #[v] w (RetV w (.bool true)) := by
 have hI := h
 obtain ⟨A1, c1, A2, c2, A3, c3, rfl, -⟩ := h.parts
 have HS := Lib.hid hs
 clear h hs
 go_enter Tryz.func4, Tryz.ntmps4
 go_wp2_with (go_at_call 9; refine Hid.out ?_)
 refine boxesC1 ?_
 intro W hE hsz B0
 refine (l37_known W).mono ?_
 rintro e w1 ⟨rfl, e1⟩
 replace hE := hE.trans e1
 replace B0 := e1.block B0
 have hs1 := e1.size
 replace hsz : w.heap.size < w1.heap.size := by omega
 clear e1 hs1
 obtain ⟨a0, a1, a2, -⟩ := cells3 B0
 go_wp2_with (go_at_call 10; refine Hid.out ?_)
 refine (l37_few (hI.ext hE)).mono ?_
 rintro e w2 ⟨rfl, e2⟩
 rw [HS.out]
 replace hE := hE.trans e2
 replace B0 := e2.block B0
 have hs2 := e2.size
 replace hsz : w.heap.size < w2.heap.size := by omega
 clear a0 a1 a2 e2 hs2
 obtain ⟨a0, a1, a2, -⟩ := cells3 B0
 go_wp2
 go_ret
 exact ⟨rfl, hE⟩
set_option maxRecDepth 100000 in
set_option maxHeartbeats 4000000 in
theorem red_bad {N lo hi : Nat} {w : World} {v : Value} {Z : Lin} (h : LinV N lo hi w v Z) (hs : fewB Z = true) (hc : codeOf Z ≠ 0) :
  Calls Tryz.prog 4 #[v] w (RetV w (.bool true)) := by
 have hI := h
 obtain ⟨A1, c1, A2, c2, A3, c3, rfl, -⟩ := h.parts
 obtain ⟨f1, f2, f3⟩ := few_sz hs
 have HS := Lib.hid hs
 have HC := Lib.hid hc
 have HF2 := Lib.hid f2
 have HF3 := Lib.hid f3
 have HF1 := Lib.hid f1
 obtain ⟨r, hr⟩ := hid_eq (codeOf Z)
 have hr0 : (r == 0) = false := by rw [hr.out]; simpa using hc
 have hr1 : (r != 0) = true := by simpa using hr0
 have hr2 : (r == r) = true := by simp
 clear h hs hc f1 f2 f3
 go_enter Tryz.func4, Tryz.ntmps4
 go_wp2_with (go_at_call 9; refine Hid.out ?_)
 refine boxesC1 ?_
 intro W hE hsz B0
 refine (l37_known W).mono ?_
 rintro e w1 ⟨rfl, e1⟩
 replace hE := hE.trans e1
 replace B0 := e1.block B0
 have hs1 := e1.size
 replace hsz : w.heap.size < w1.heap.size := by omega
 clear e1 hs1
 obtain ⟨a0, a1, a2, -⟩ := cells3 B0
 go_wp2_with (go_at_call 10; refine Hid.out ?_)
 refine (l37_few (hI.ext hE)).mono ?_
 rintro e w2 ⟨rfl, e2⟩
 rw [HS.out]
 replace hE := hE.trans e2
 replace B0 := e2.block B0
 have hs2 := e2.size
 replace hsz : w.heap.size < w2.heap.size := by omega
 clear a0 a1 a2 e2 hs2
 obtain ⟨a0, a1, a2, -⟩ := cells3 B0
 go_wp2_with (go_at_call 26; refine Hid.out ?_)
 refine (rl_Redundancy_bad (hI.ext hE) HF2.out HF3.out HC.out).mono ?_
 rintro e w4 ⟨rfl, e4⟩
 rw [← hr.out]
 replace hE := hE.trans e4
 replace B0 := e4.block B0
 replace hsz := blk_lt B0
 clear a0 a1 a2
 obtain ⟨a0, a1, a2, -⟩ := cells3 B0
 go_wp2_with (go_at_call 14; refine Hid.out ?_)
 refine (l37_code (hI.ext hE) HF2.out HF3.out HF1.out).mono ?_
 rintro e w7 ⟨rfl, e7⟩
 rw [← hr.out]
 go_wp2
 go_ret
 exact ⟨rfl, hE.trans e7⟩
theorem fldL0 (x y z : Value) (w : World) : (Instr.field 26 (.agg #[x, y, z]) 0).run Tryz.prog w = .ok x w := by kernel_rfl
set_option maxRecDepth 100000 in
set_option maxHeartbeats 8000000 in
theorem red_good {N lo hi : Nat} {w : World} {A1 A2 A3 : Option Addr} {c1 c2 c3 m n : Nat} {X : Nat → Nat → Rat} {y p : Nat → Rat} {Z : Lin}
  (hI : LinV N lo hi w (.agg #[.slice A1 m c1, .slice A2 m c2, .slice A3 m c3]) Z) (hs : fewB Z = true) (hc : codeOf Z = 0)
  (h1 : MtV N lo hi w (.slice A1 m c1) m n X) (h2 : LsV N lo hi w (.slice A2 m c2) m y) (h3 : LsV N lo hi w (.slice A3 m c3) m p) (hm0 : 0 < m) (hm : m ≤ 6) (hn0 : 0 < n) (hn : n ≤ 4) (hpos : ∀ i, i < m → 0 < p i)
  (hkx : HtM m n 17 X) (hky : HtL m 17 y) (hkp : HtL m 17 p) :
  Calls Tryz.prog 4 #[.agg #[.slice A1 m c1, .slice A2 m c2, .slice A3 m c3]] w (RetV w (.bool true)) := by
 obtain ⟨f1, f2, f3⟩ := few_sz hs
 obtain ⟨k2, k3, hB, hk3⟩ := few_bnd hm hn
 have hfh := few_fit_ht hm hn hkx hkp
 have HS := Lib.hid hs
 have HC := Lib.hid hc
 have HF2 := Lib.hid f2
 have HF3 := Lib.hid f3
 have HF1 := Lib.hid f1
 have HB := Lib.hid hB
 have HX := Lib.hid hkx
 have HY := Lib.hid hky
 have HP := Lib.hid hkp
 have HPOS := Lib.hid hpos
 have hN := h1.le
 obtain ⟨RD, hRD⟩ := hid_eq (redOf m n X p)
 have HRH : Hid (HtL m 6000000 RD) := by
  rw [Hid, hRD.out]
  exact fun i hi => Ht.mono (Ht.sub (k := 1) Ht.one ((hfh i hi i hi).mul (hkp i hi))) (by omega)
 obtain ⟨rk, hrk⟩ := hid_eq (rref m X n).2.length
 have hrkm : rk ≤ m := by rw [hrk.out]; exact (rref_len m X n).1
 clear hs hc f1 f2 f3 hB hkx hky hkp hpos hfh
 go_enter Tryz.func4, Tryz.ntmps4
 go_wp2_with (go_at_call 9; refine Hid.out ?_)
 refine boxesC1 ?_
 intro W hE hsz B0
 refine (l37_known W).mono ?_
 rintro e w1 ⟨rfl, e1⟩
 replace hE := hE.trans e1
 replace B0 := e1.block B0
 have hs1 := e1.size
 replace hsz : w.heap.size < w1.heap.size := by omega
 clear e1 hs1
 obtain ⟨a0, a1, a2, -⟩ := cells3 B0
 go_wp2_with (go_at_call 10; refine Hid.out ?_)
 refine (l37_few (hI.ext hE)).mono ?_
 rintro e w2 ⟨rfl, e2⟩
 rw [HS.out]
 replace hE := hE.trans e2
 replace B0 := e2.block B0
 have hs2 := e2.size
 replace hsz : w.heap.size < w2.heap.size := by omega
 clear a0 a1 a2 e2 hs2
 obtain ⟨a0, a1, a2, -⟩ := cells3 B0
 go_wp2_with (go_at_call 26; refine Hid.out ?_)
 refine (rl_Redundancy (h1.ext hE) (h2.ext hE) (h3.ext hE) hm0 (by omega) hn0 (by omega) HPOS.out HB.out HX.out HY.out HP.out (by omega)).mono ?_
 rintro e w4 ⟨A5, c5, rfl, h5, e4⟩
 replace h5 : LsV N 0 w4.heap.size w4 (.slice A5 m c5) m RD := by
  rw [hRD.out]
  exact LsR.wide h5 (Nat.zero_le _) (Nat.le_refl _) (Nat.le_refl _)
 replace hE := hE.trans e4
 replace B0 := e4.block B0
 replace hsz := blk_lt B0
 clear a0 a1 a2
 obtain ⟨a0, a1, a2, -⟩ := cells3 B0
 go_wp2_with (go_at_call 14; refine Hid.out ?_)
 refine (l37_code (hI.ext hE) HF2.out HF3.out HF1.out).mono ?_
 rintro e w5 ⟨rfl, e5⟩
 rw [HC.out]
 have h55 := h5.ext e5
 clear h5
 replace hE := hE.trans e5
 replace B0 := e5.block B0
 replace hsz := blk_lt B0
 clear a0 a1 a2
 obtain ⟨a0, a1, a2, -⟩ := cells3 B0
 go_wp2_with (go_at_call 27; refine Hid.out ?_)
 refine (l37_redundancy (h1.ext hE) (h2.ext hE) (h3.ext hE) hm0 hm hn0 hn HPOS.out HX.out HP.out).mono ?_
 rintro e w6 ⟨A6, c6, rfl, h6, e6⟩
 rw [← hRD.out] at h6
 have h56 := h55.ext e6
 clear h55
 replace hE := hE.trans e6
 replace B0 := e6.block B0
 replace hsz := blk_lt B0
 clear a0 a1 a2
 obtain ⟨a0, a1, a2, -⟩ := cells3 B0
 go_wp2_with (go_at_call 16; refine Hid.out ?_)
 refine (r2_sameList h56 h6 (fun i hi => (HRH.out i hi).sz (by omega)) (fun i _ => rfl)).mono ?_
 rintro e w7 ⟨rfl, e7⟩
 have h57 := h56.ext e7
 clear h56 h6
 replace hE := hE.trans e7
 replace B0 := e7.block B0
 replace hsz := blk_lt B0
 clear a0 a1 a2
 obtain ⟨a0, a1, a2, -⟩ := cells3 B0
 go_wp2_with (go_at_call 22; refine Hid.out ?_)
 refine (r5_rank (P := 4) (h1.ext hE) hm0 (by omega) hn0 (by omega) HX.out (.inr hn) (by decide)).mono ?_
 rintro e w8 ⟨rfl, e8⟩
 rw [← hrk.out]
 have h58 := h57.ext e8
 clear h57
 replace hE := hE.trans e8
 replace B0 := e8.block B0
 replace hsz := blk_lt B0
 clear a0 a1 a2
 obtain ⟨a0, a1, a2, -⟩ := cells3 B0
 clear e4 e5 e6 e7 e8 a0 a1 a2
 go_wp2
 go_loopw [46] (fun i wr => ∃ k : Nat, k ≤ m ∧ i = .int .i64 k ∧ Ext w8 wr) (fun i _ => m - (intOf i).toNat)
 case atStart => exact ⟨0, Nat.zero_le _, rfl, Ext.refl _⟩
 case round =>
  obtain ⟨k, hk, rfl, eR⟩ := hrel
  replace B0 := eR.block B0
  have hEr := hE.trans eR
  by_cases hlt : k < m
  ·obtain ⟨b, off, rfl, -, -, hx⟩ := (h58.ext eR).addr hm0
   obtain ⟨n1, A7, k7, c7, A8, k8, c8, p0, p1, p2, p3, hb1, g1, g2⟩ := (hx k hlt).open
   clear hx
   go_upto_region 15 with (fail)
   refine boxes1 ?_
   intro w9 e9 hsz9 B9
   obtain ⟨gz, hgz⟩ : ∃ gz, gz = wr.heap.size := ⟨_, rfl⟩
   rw [← hgz] at B9 ⊢
   clear hgz hsz9 p0 p1 p2 p3
   replace g1 := g1.ext e9
   replace g2 := g2.ext e9
   have hE9 := hEr.trans e9
   replace B0 := e9.block B0
   obtain ⟨d0, d1, d2, d3, -⟩ := cells4 B9
   obtain ⟨sg, hsg⟩ := hid_eq (RD k).num.sign
   have hsg0 : ¬ sg < 0 := by rw [hsg.out, hRD.out]; exact sign_nonneg (red_range HPOS.out hlt).1
   obtain ⟨sc, hsc⟩ := hid_eq (RD k - ((1 : Int) : Rat)).num.sign
   have hsc0 : ¬ 0 < sc := by
    rw [hsc.out]
    refine sign_nonpos ?_
    have h9 := (red_range (n := n) (X := X) HPOS.out hlt).2
    rw [hRD.out]
    have h8 : ((1 : Int) : Rat) = 1 := rfl
    rw [h8]
    grind
   have HSZ : Hid (Sz (RD k) ∧ Sz (RD k - ((1 : Int) : Rat))) := ⟨(HRH.out k hlt).sz (by omega), ((HRH.out k hlt).sub (k := 6000000) (m := 1) Ht.one).sz (by omega)⟩
   have hN9 : N ≤ w9.heap.size := by have := hE9.size; omega
   refine region_inv [Mn.rat N (RD k), Mn.eq (.int .i64 sg), Mn.eq (.bool false), Mn.eq (.bool false), Mn.rat N (RD k), Mn.rat N ((1 : Int) : Rat), Mn.eq (.int .i64 sc), Mn.eq (.bool false), Mn.eq (.bool false)] [some 51, some 52, some 53, some 54, some 55, some 56, some 57, some 58, some 59] [] [true, true, true, true, true, true, true, true, true] 0 (by kernel_rfl) (by kernel_rfl) (by kernel_rfl) (by kernel_rfl) (by kernel_rfl) (by kernel_rfl) (by kernel_rfl) (by kernel_rfl) ?_ ?_
   ·intro i hi hl
    have hi' : i = 0 ∨ i = 1 ∨ i = 2 ∨ i = 3 ∨ i = 4 ∨ i = 5 ∨ i = 6 ∨ i = 7 ∨ i = 8 := by have h9 : i < 9 := hi; omega
    clear hi
    rcases hi' with rfl | rfl | rfl | rfl | rfl | rfl | rfl | rfl | rfl
    ·clear hl
     refine stp rfl ?_
     intro ac wi eI hold hpre K hK
     have o8 := hold 8 (by kernel_rfl)
     simp only [List.getElem?_toArray, List.getElem?_cons_succ, List.getElem?_cons_zero] at o8
     clear hold hpre
     have cc0 := eI.cell d0
     have cc1 := eI.cell d1
     have cc2 := eI.cell d2
     have cc3 := eI.cell d3
     go_simp
     exact hK.out _ _ (Ext.refl _) ((RatV.mk hb1 g1 g2).ext eI)
    ·clear hl
     refine stp rfl ?_
     intro ac wi eI hold hpre K hK
     obtain ⟨x51, s51, j51⟩ := hpre 0 (by kernel_rfl) 51 rfl
     replace j51 : Mn.p (Mn.rat N (RD k)) x51 wi := j51
     clear hold hpre
     go_simp
     refine (r2_sign j51 HSZ.out.1).mono ?_
     rintro e wj ⟨rfl, ej⟩
     rw [← hsg.out]
     go_wp2_with fail
     exact hK.out _ _ ej rfl
    ·clear hl
     refine stp rfl ?_
     intro ac wi eI hold hpre K hK
     obtain ⟨x52, s52, j52⟩ := hpre 1 (by kernel_rfl) 52 rfl
     obtain rfl : x52 = (.int .i64 sg) := j52
     clear hold hpre
     go_simp
     exact hK.out _ _ (Ext.refl _) rfl
    ·clear hl
     refine stp rfl ?_
     intro ac wi eI hold hpre K hK
     obtain ⟨x53, s53, j53⟩ := hpre 2 (by kernel_rfl) 53 rfl
     obtain rfl : x53 = (.bool false) := j53
     clear hold hpre
     go_simp
     exact hK.out _ _ (Ext.refl _) rfl
    ·clear hl
     refine stp rfl ?_
     intro ac wi eI hold hpre K hK
     obtain ⟨x54, s54, j54⟩ := hpre 3 (by kernel_rfl) 54 rfl
     obtain rfl : x54 = (.bool false) := j54
     have o8 := hold 8 (by kernel_rfl)
     simp only [List.getElem?_toArray, List.getElem?_cons_succ, List.getElem?_cons_zero] at o8
     clear hold hpre
     rw [if_pos (by simp [Region.wanted, yielded, s54])]
     have cc0 := eI.cell d0
     have cc1 := eI.cell d1
     have cc2 := eI.cell d2
     have cc3 := eI.cell d3
     go_simp
     exact hK.out _ _ (Ext.refl _) ((RatV.mk hb1 g1 g2).ext eI)
    ·clear hl
     refine stp rfl ?_
     intro ac wi eI hold hpre K hK
     obtain ⟨x54, s54, j54⟩ := hpre 3 (by kernel_rfl) 54 rfl
     obtain rfl : x54 = (.bool false) := j54
     clear hold hpre
     rw [if_pos (by simp [Region.wanted, yielded, s54])]
     go_simp
     refine (l37_one (N := N) (by have := eI.size; omega)).mono ?_
     rintro e wj ⟨vj, rfl, hj, ej⟩
     go_wp2_with fail
     exact hK.out _ _ ej hj
    ·clear hl
     refine stp rfl ?_
     intro ac wi eI hold hpre K hK
     obtain ⟨x54, s54, j54⟩ := hpre 3 (by kernel_rfl) 54 rfl
     obtain rfl : x54 = (.bool false) := j54
     obtain ⟨x55, s55, j55⟩ := hpre 4 (by kernel_rfl) 55 rfl
     replace j55 : Mn.p (Mn.rat N (RD k)) x55 wi := j55
     obtain ⟨x56, s56, j56⟩ := hpre 5 (by kernel_rfl) 56 rfl
     replace j56 : Mn.p (Mn.rat N ((1 : Int) : Rat)) x56 wi := j56
     clear hold hpre
     rw [if_pos (by simp [Region.wanted, yielded, s54])]
     go_simp
     refine (r2_compare j55 j56 HSZ.out.1 (Ht.one.sz (by omega)) HSZ.out.2).mono ?_
     rintro e wj ⟨rfl, ej⟩
     rw [← hsc.out]
     go_wp2_with fail
     exact hK.out _ _ ej rfl
    ·clear hl
     refine stp rfl ?_
     intro ac wi eI hold hpre K hK
     obtain ⟨x54, s54, j54⟩ := hpre 3 (by kernel_rfl) 54 rfl
     obtain rfl : x54 = (.bool false) := j54
     obtain ⟨x57, s57, j57⟩ := hpre 6 (by kernel_rfl) 57 rfl
     obtain rfl : x57 = (.int .i64 sc) := j57
     clear hold hpre
     rw [if_pos (by simp [Region.wanted, yielded, s54])]
     go_simp
     exact hK.out _ _ (Ext.refl _) rfl
    ·clear hl
     refine stp rfl ?_
     intro ac wi eI hold hpre K hK
     obtain ⟨x54, s54, j54⟩ := hpre 3 (by kernel_rfl) 54 rfl
     obtain rfl : x54 = (.bool false) := j54
     obtain ⟨x58, s58, j58⟩ := hpre 7 (by kernel_rfl) 58 rfl
     obtain rfl : x58 = (.bool false) := j58
     clear hold hpre
     go_simp
     exact hK.out _ _ (Ext.refl _) rfl
   intro vals wz eZ hJ
   have J51 : Mn.p (Mn.rat N (RD k)) (vals 0) wz := hJ 0 (by decide) (by decide)
   have J52 : Mn.p (Mn.eq (.int .i64 sg)) (vals 1) wz := hJ 1 (by decide) (by decide)
   have J53 : Mn.p (Mn.eq (.bool false)) (vals 2) wz := hJ 2 (by decide) (by decide)
   have J54 : Mn.p (Mn.eq (.bool false)) (vals 3) wz := hJ 3 (by decide) (by decide)
   have J55 : Mn.p (Mn.rat N (RD k)) (vals 4) wz := hJ 4 (by decide) (by decide)
   have J56 : Mn.p (Mn.rat N ((1 : Int) : Rat)) (vals 5) wz := hJ 5 (by decide) (by decide)
   have J57 : Mn.p (Mn.eq (.int .i64 sc)) (vals 6) wz := hJ 6 (by decide) (by decide)
   have J58 : Mn.p (Mn.eq (.bool false)) (vals 7) wz := hJ 7 (by decide) (by decide)
   have J59 : Mn.p (Mn.eq (.bool false)) (vals 8) wz := hJ 8 (by decide) (by decide)
   clear hJ
   simp only [putAll, if_true, Bool.false_eq_true, if_false, Act.put, Nat.zero_add, Nat.reduceAdd, List.setIfInBounds_toArray, List.set_cons_zero, List.set_cons_succ]
   generalize vals 0 = z51 at J51 ⊢
   generalize vals 1 = z52 at J52 ⊢
   obtain rfl : z52 = (.int .i64 sg) := J52
   generalize vals 2 = z53 at J53 ⊢
   obtain rfl : z53 = (.bool false) := J53
   generalize vals 3 = z54 at J54 ⊢
   obtain rfl : z54 = (.bool false) := J54
   generalize vals 4 = z55 at J55 ⊢
   generalize vals 5 = z56 at J56 ⊢
   generalize vals 6 = z57 at J57 ⊢
   obtain rfl : z57 = (.int .i64 sc) := J57
   generalize vals 7 = z58 at J58 ⊢
   obtain rfl : z58 = (.bool false) := J58
   generalize vals 8 = z59 at J59 ⊢
   obtain rfl : z59 = (.bool false) := J59
   refine stepL_done (by kernel_rfl) ?_ _
   clear J51 J55 J56 d0 d1 d2 d3
   replace B0 := eZ.block B0
   replace B9 := eZ.block B9
   replace g1 := g1.ext eZ
   replace g2 := g2.ext eZ
   have hEz := hE9.trans eZ
   obtain ⟨a0, a1, a2, -⟩ := cells3 B0
   obtain ⟨d0, d1, d2, d3, -⟩ := cells4 B9
   have eRz : Ext w8 wz := (eR.trans e9).trans eZ
   clear e9 eZ hEr hE9
   have HRV := RatV.mk hb1 g1 g2
   have HZ0 : Hid ((sg == 0) = decide (RD k = 0)) := by rw [Hid, hsg.out]; exact sign_zero
   by_cases hm1 : m = 1
   ·have HM1 := Lib.hid hm1
    have hm2 : ((m : Int) == 1) = true := by rw [hm1]; rfl
    have hm3 : m ≤ 1 := by omega
    have HZ1 : Hid (RD k = 0 ↔ rk = 1) := by
     rw [Hid, hRD.out, hrk.out]
     have h0 : k = 0 := by omega
     subst hm1
     subst h0
     exact red_zero1 HPOS.out
    clear hm1
    by_cases hr1 : rk = 1
    ·have hr2 : ((rk : Int) == 1) = true := by rw [hr1]; rfl
     have hsz0 : (sg == 0) = true := by
      rw [HZ0.out]
      exact decide_eq_true (HZ1.out.2 hr1)
     clear hr1
     go_wp2_with (go_at_call 28; refine Hid.out ?_)
     refine (r2_sign HRV HSZ.out.1).mono ?_
     rintro e w11 ⟨rfl, e11⟩
     rw [← hsg.out]
     clear a0 a1 a2 d0 d1 d2 d3
     go_wp2
     go_roundw
     case rel => exact ⟨k + 1, by omega, by go_num, eRz.trans e11⟩
     case measure => simp [intOf]; omega
    ·have hr2 : ((rk : Int) == 1) = false := beq_eq_false_iff_ne.2 (by omega)
     have hsz0 : (sg == 0) = false := by
      rw [HZ0.out]
      exact decide_eq_false (fun h => hr1 (HZ1.out.1 h))
     clear hr1
     go_wp2_with (go_at_call 28; refine Hid.out ?_)
     refine (r2_sign HRV HSZ.out.1).mono ?_
     rintro e w11 ⟨rfl, e11⟩
     rw [← hsg.out]
     clear a0 a1 a2 d0 d1 d2 d3
     go_wp2
     go_roundw
     case rel => exact ⟨k + 1, by omega, by go_num, eRz.trans e11⟩
     case measure => simp [intOf]; omega
   ·have hm2 : ((m : Int) == 1) = false := beq_eq_false_iff_ne.2 (by omega)
    have hfl := fldL0
    obtain ⟨r2, hr2⟩ := hid_eq (rref (m - 1) (fun j => X (skip k j)) n).2.length
    have hr2m : r2 ≤ m - 1 := by rw [hr2.out]; exact (rref_len _ _ _).1
    have HZ1 : Hid ((sg == 0) = decide (r2 < rk)) := by
     rw [Hid, HZ0.out, hRD.out, hr2.out, hrk.out]
     obtain ⟨m', rfl⟩ : ∃ m', m = m' + 1 := ⟨m - 1, by omega⟩
     have h9 := red_zero (n := n) (X := X) HPOS.out hlt
     rw [Nat.add_sub_cancel]
     exact decide_eq_decide.2 h9
    have HXS : Hid (HtM (m - 1) n 17 (fun j => X (skip k j))) := fun i hi c hc => HX.out _ (by have := skip_lt (i := k) hi; omega) c hc
    go_wp2_with (go_at_call 30; refine Hid.out ?_)
    refine (l37_without (h1.ext hEz) (h2.ext hEz) (h3.ext hEz) (by omega) hn0 (by omega) hlt).mono ?_
    rintro e w10 ⟨A9, c9, A10, c10, A11, c11, rfl, hW1, -, -, e10⟩
    replace HRV := HRV.ext e10
    replace B9 := e10.block B9
    clear a0 a1 a2 d0 d1 d2 d3
    go_wp2_with (go_at_call 22; refine Hid.out ?_)
    refine (r5_rank (P := 4) hW1 (by omega) (by omega) hn0 (by omega) HXS.out (.inr hn) (by decide)).mono ?_
    rintro e w11 ⟨rfl, e11⟩
    rw [← hr2.out]
    replace HRV := HRV.ext e11
    replace B9 := e11.block B9
    have eR2 := (eRz.trans e10).trans e11
    clear hfl hW1
    obtain ⟨d0, d1, d2, d3, -⟩ := cells4 B9
    by_cases hf : r2 < rk
    ·have hsz0 : (sg == 0) = true := by rw [HZ1.out]; exact decide_eq_true hf
     go_wp2_with (go_at_call 28; refine Hid.out ?_)
     refine (r2_sign HRV HSZ.out.1).mono ?_
     rintro e w12 ⟨rfl, e12⟩
     rw [← hsg.out]
     clear d0 d1 d2 d3
     go_wp2
     go_roundw
     case rel => exact ⟨k + 1, by omega, by go_num, eR2.trans e12⟩
     case measure => simp [intOf]; omega
    ·have hsz0 : (sg == 0) = false := by rw [HZ1.out]; exact decide_eq_false hf
     go_wp2_with (go_at_call 28; refine Hid.out ?_)
     refine (r2_sign HRV HSZ.out.1).mono ?_
     rintro e w12 ⟨rfl, e12⟩
     rw [← hsg.out]
     clear d0 d1 d2 d3
     go_wp2
     go_roundw
     case rel => exact ⟨k + 1, by omega, by go_num, eR2.trans e12⟩
     case measure => simp [intOf]; omega
  ·obtain rfl : m = k := by omega
   obtain ⟨a0, a1, a2, -⟩ := cells3 B0
   obtain ⟨fr, hfr⟩ := hid_eq (m - rk)
   have HFR : Hid ((m : Int) - (rk : Int) = (fr : Int)) := by rw [Hid, hfr.out]; omega
   have HSM : Hid (sum m RD = ((fr : Int) : Rat)) := by
    rw [Hid, ← HFR.out, hRD.out, hrk.out]
    exact red_sum HPOS.out
   have h59 := h58.ext eR
   go_upto_region 21 with (fail)
   refine region_inv [Mn.eq (.slice A5 m c5), Mn.rat N (sum m RD), Mn.eq (.pointer (some ⟨w.heap.size, 0, none⟩)), Mn.eq (.slice A1 m c1), Mn.eq (.int .i64 (m : Int)), Mn.eq (.int .i64 (rk : Int)), Mn.eq (.int .i64 (fr : Int)), Mn.rat N (((fr : Nat) : Int) : Rat), Mn.eq (.bool true), Mn.eq (.bool true)] [some 89, some 90, some 91, some 92, some 93, some 94, some 95, some 96, some 97, some 2] [] [true, true, true, true, true, true, true, true, true, true] 0 (by kernel_rfl) (by kernel_rfl) (by kernel_rfl) (by kernel_rfl) (by kernel_rfl) (by kernel_rfl) (by kernel_rfl) (by kernel_rfl) ?_ ?_
   ·intro i hi hl
    have hi' : i = 0 ∨ i = 1 ∨ i = 2 ∨ i = 3 ∨ i = 4 ∨ i = 5 ∨ i = 6 ∨ i = 7 ∨ i = 8 ∨ i = 9 := by have h9 : i < 10 := hi; omega
    clear hi
    rcases hi' with rfl | rfl | rfl | rfl | rfl | rfl | rfl | rfl | rfl | rfl
    ·clear hl
     refine stp rfl ?_
     intro ac wi eI hold hpre K hK
     have o3 := hold 3 (by kernel_rfl)
     simp only [List.getElem?_toArray, List.getElem?_cons_succ, List.getElem?_cons_zero] at o3
     clear hold hpre
     go_simp
     exact hK.out _ _ (Ext.refl _) rfl
    ·clear hl
     refine stp rfl ?_
     intro ac wi eI hold hpre K hK
     obtain ⟨x89, s89, j89⟩ := hpre 0 (by kernel_rfl) 89 rfl
     obtain rfl : x89 = (.slice A5 m c5) := j89
     clear hold hpre
     go_simp
     refine (r2_sum (h59.ext eI) HRH.out (by omega)).mono ?_
     rintro e wj ⟨vj, rfl, hj, ej⟩
     go_wp2_with fail
     exact hK.out _ _ ej hj
    ·clear hl
     refine stp rfl ?_
     intro ac wi eI hold hpre K hK
     have o1 := hold 1 (by kernel_rfl)
     simp only [List.getElem?_toArray, List.getElem?_cons_succ, List.getElem?_cons_zero] at o1
     clear hold hpre
     go_simp
     exact hK.out _ _ (Ext.refl _) rfl
    ·clear hl
     refine stp rfl ?_
     intro ac wi eI hold hpre K hK
     obtain ⟨x91, s91, j91⟩ := hpre 2 (by kernel_rfl) 91 rfl
     obtain rfl : x91 = (.pointer (some ⟨w.heap.size, 0, none⟩)) := j91
     clear hold hpre
     have cc0 := eI.cell a0
     go_simp
     exact hK.out _ _ (Ext.refl _) rfl
    ·clear hl
     refine stp rfl ?_
     intro ac wi eI hold hpre K hK
     obtain ⟨x92, s92, j92⟩ := hpre 3 (by kernel_rfl) 92 rfl
     obtain rfl : x92 = (.slice A1 m c1) := j92
     clear hold hpre
     go_simp
     exact hK.out _ _ (Ext.refl _) rfl
    ·clear hl
     refine stp rfl ?_
     intro ac wi eI hold hpre K hK
     have o6 := hold 6 (by kernel_rfl)
     simp only [List.getElem?_toArray, List.getElem?_cons_succ, List.getElem?_cons_zero] at o6
     clear hold hpre
     go_simp
     exact hK.out _ _ (Ext.refl _) rfl
    ·clear hl
     refine stp rfl ?_
     intro ac wi eI hold hpre K hK
     obtain ⟨x93, s93, j93⟩ := hpre 4 (by kernel_rfl) 93 rfl
     obtain rfl : x93 = (.int .i64 (m : Int)) := j93
     obtain ⟨x94, s94, j94⟩ := hpre 5 (by kernel_rfl) 94 rfl
     obtain rfl : x94 = (.int .i64 (rk : Int)) := j94
     clear hold hpre
     go_simp
     refine hK.out _ _ (Ext.refl _) ?_
     show Value.int .i64 _ = Value.int .i64 _
     rw [HFR.out]
     have hfb : fr ≤ 6 := by have := hfr.out; omega
     rw [Go.IntWalk.i64_in _ (by omega)]
    ·clear hl
     refine stp rfl ?_
     intro ac wi eI hold hpre K hK
     obtain ⟨x95, s95, j95⟩ := hpre 6 (by kernel_rfl) 95 rfl
     obtain rfl : x95 = (.int .i64 (fr : Int)) := j95
     clear hold hpre
     go_simp
     refine (r2_Whole (N := N) (by have := eI.size; have := hEr.size; omega) (fr : Int) (by omega) (by have := hfr.out; omega)).mono ?_
     rintro e wj ⟨vj, rfl, hj, ej⟩
     go_wp2_with fail
     exact hK.out _ _ ej hj
    ·clear hl
     refine stp rfl ?_
     intro ac wi eI hold hpre K hK
     obtain ⟨x90, s90, j90⟩ := hpre 1 (by kernel_rfl) 90 rfl
     replace j90 : Mn.p (Mn.rat N (sum m RD)) x90 wi := j90
     obtain ⟨x96, s96, j96⟩ := hpre 7 (by kernel_rfl) 96 rfl
     replace j96 : Mn.p (Mn.rat N (((fr : Nat) : Int) : Rat)) x96 wi := j96
     clear hold hpre
     go_simp
     refine (r2_same j90 j96 ((sum_ht (n := m) (k := 6000000) (K := 29000000000) HRH.out (Nat.le_refl _) (by omega)).sz (Nat.le_refl _)) HSM.out).mono ?_
     rintro e wj ⟨rfl, ej⟩
     go_wp2_with fail
     exact hK.out _ _ ej rfl
    ·clear hl
     refine stp rfl ?_
     intro ac wi eI hold hpre K hK
     obtain ⟨x97, s97, j97⟩ := hpre 8 (by kernel_rfl) 97 rfl
     obtain rfl : x97 = (.bool true) := j97
     clear hold hpre
     go_simp
     exact hK.out _ _ (Ext.refl _) rfl
   intro vals wz eZ hJ
   have J89 : Mn.p (Mn.eq (.slice A5 m c5)) (vals 0) wz := hJ 0 (by decide) (by decide)
   have J90 : Mn.p (Mn.rat N (sum m RD)) (vals 1) wz := hJ 1 (by decide) (by decide)
   have J91 : Mn.p (Mn.eq (.pointer (some ⟨w.heap.size, 0, none⟩))) (vals 2) wz := hJ 2 (by decide) (by decide)
   have J92 : Mn.p (Mn.eq (.slice A1 m c1)) (vals 3) wz := hJ 3 (by decide) (by decide)
   have J93 : Mn.p (Mn.eq (.int .i64 (m : Int))) (vals 4) wz := hJ 4 (by decide) (by decide)
   have J94 : Mn.p (Mn.eq (.int .i64 (rk : Int))) (vals 5) wz := hJ 5 (by decide) (by decide)
   have J95 : Mn.p (Mn.eq (.int .i64 (fr : Int))) (vals 6) wz := hJ 6 (by decide) (by decide)
   have J96 : Mn.p (Mn.rat N (((fr : Nat) : Int) : Rat)) (vals 7) wz := hJ 7 (by decide) (by decide)
   have J97 : Mn.p (Mn.eq (.bool true)) (vals 8) wz := hJ 8 (by decide) (by decide)
   have J2 : Mn.p (Mn.eq (.bool true)) (vals 9) wz := hJ 9 (by decide) (by decide)
   clear hJ
   simp only [putAll, if_true, Bool.false_eq_true, if_false, Act.put, Nat.zero_add, Nat.reduceAdd, List.setIfInBounds_toArray, List.set_cons_zero, List.set_cons_succ]
   generalize vals 0 = z89 at J89 ⊢
   obtain rfl : z89 = (.slice A5 m c5) := J89
   generalize vals 1 = z90 at J90 ⊢
   generalize vals 2 = z91 at J91 ⊢
   obtain rfl : z91 = (.pointer (some ⟨w.heap.size, 0, none⟩)) := J91
   generalize vals 3 = z92 at J92 ⊢
   obtain rfl : z92 = (.slice A1 m c1) := J92
   generalize vals 4 = z93 at J93 ⊢
   obtain rfl : z93 = (.int .i64 (m : Int)) := J93
   generalize vals 5 = z94 at J94 ⊢
   obtain rfl : z94 = (.int .i64 (rk : Int)) := J94
   generalize vals 6 = z95 at J95 ⊢
   obtain rfl : z95 = (.int .i64 (fr : Int)) := J95
   generalize vals 7 = z96 at J96 ⊢
   generalize vals 8 = z97 at J97 ⊢
   obtain rfl : z97 = (.bool true) := J97
   generalize vals 9 = z2 at J2 ⊢
   obtain rfl : z2 = (.bool true) := J2
   refine stepL_done (by kernel_rfl) ?_ _
   go_wp2
   go_ret
   exact ⟨rfl, hEr.trans eZ⟩
end Go.Proofs.YtghpfnhmlpfgcaaGreat
