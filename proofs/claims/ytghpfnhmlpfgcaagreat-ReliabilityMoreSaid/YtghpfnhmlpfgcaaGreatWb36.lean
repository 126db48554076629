import Derived.Test.YtghpfnhmlpfgcaaGreatWb35
import Derived.Shelf.Bits.Mul64
import Derived.Laws.IdiomCopy
import Derived.Test.YtghpfnhmlpfgcaaGreatWb25
set_option linter.all false
namespace Go.Proofs.YtghpfnhmlpfgcaaGreat
open Go.RowKit
def nmat (X : Nat → Nat → Rat) (p : Nat → Rat) (s i j : Nat) : Rat := sum s (fun t => p t * X t i * X t j)
def nrhs (X : Nat → Nat → Rat) (y p : Nat → Rat) (s i : Nat) : Rat := sum s (fun t => p t * X t i * y t)
def RetBuilt (N : Nat) (w : World) (n : Nat) (M : Nat → Nat → Rat) (r : Nat → Rat) (e : Ending) (w' : World) : Prop :=
 ∃ h cap g, e = .returned (.agg #[.slice (some ⟨h, 0, none⟩) n cap, .slice (some ⟨g, 0, none⟩) n n]) ∧ MtV N w.heap.size w'.heap.size w' (.slice (some ⟨h, 0, none⟩) n cap) n n M ∧ LsV N w.heap.size w'.heap.size w' (.slice (some ⟨g, 0, none⟩) n n) n r ∧ Ext w w'
theorem nmat_ht {m n k K s : Nat} {X : Nat → Nat → Rat} {p : Nat → Rat} (hx : HtM m n k X) (hp : HtL m k p) (hs : s ≤ m) (hK : m * (3 * k + 1) + 1 ≤ K) : HtM n n K (nmat X p s) := fun i hi j hj =>
 sum_ht (n := m) (k := 3 * k) (fun t ht => (((hp t ht).mul (hx t ht i hi)).mul (hx t ht j hj)).mono (by omega)) hs hK
theorem nrhs_ht {m n k K s : Nat} {X : Nat → Nat → Rat} {y p : Nat → Rat} (hx : HtM m n k X) (hy : HtL m k y) (hp : HtL m k p) (hs : s ≤ m) (hK : m * (3 * k + 1) + 1 ≤ K) : HtL n K (nrhs X y p s) := fun i hi =>
 sum_ht (n := m) (k := 3 * k) (fun t ht => (((hp t ht).mul (hx t ht i hi)).mul (hy t ht)).mono (by omega)) hs hK
theorem nmat_succ {n : Nat} (X : Nat → Nat → Rat) (p : Nat → Rat) (s : Nat) {i : Nat} (hi : i < n) (j : Nat) : addM (p s) (X s) (nmat X p s) n i j = nmat X p (s + 1) i j := by
 unfold addM nmat; rw [if_pos hi, sum_succ]
theorem nrhs_succ {n : Nat} (X : Nat → Nat → Rat) (y p : Nat → Rat) (s : Nat) {i : Nat} (hi : i < n) : addR (p s) (X s) (y s) (nrhs X y p s) n i = nrhs X y p (s + 1) i := by
 unfold addR nrhs; rw [if_pos hi, sum_succ]
theorem set0of2 {w : World} {g : Nat} {t : TypeId} {x0 x1 : Value} (h : w.heap[g]? = some (.cells #[x0, x1] t (0, 0))) (ht : NoU w g) (v : Value) :
  ∃ w', w.setCell ⟨g, 0, none⟩ v = w' ∧ w'.heap[g]? = some (.cells #[v, x1] t (0, 0)) ∧ Chg g (g + 1) w w' ∧ w'.heap.size = w.heap.size := by
 have U : Upd g w (w.setCell ⟨g, 0, none⟩ v) := (Upd.refl g w).set 0 v
 exact ⟨_, rfl, heap_set h 0 v, U.chg ht, U.size⟩
theorem set2of2 {w : World} {g : Nat} {t : TypeId} {x0 x1 : Value} (h : w.heap[g]? = some (.cells #[x0, x1] t (0, 0))) (ht : NoU w g) (v v' : Value) :
  ∃ w', (w.setCell ⟨g, 0, none⟩ v).setCell ⟨g, 1, none⟩ v' = w' ∧ w'.heap[g]? = some (.cells #[v, v'] t (0, 0)) ∧ Chg g (g + 1) w w' ∧ w'.heap.size = w.heap.size := by
 have U : Upd g w ((w.setCell ⟨g, 0, none⟩ v).setCell ⟨g, 1, none⟩ v') := ((Upd.refl g w).set 0 v).set 1 v'
 exact ⟨_, rfl, heap_set (heap_set h 0 v) 1 v', U.chg ht, U.size⟩
set_option maxRecDepth 100000 in
set_option maxHeartbeats 8000000 in
theorem n_built {N lo hi : Nat} {w : World} {v1 v2 v3 : Value} {m n : Nat} {X : Nat → Nat → Rat} {y p : Nat → Rat} (h1 : MtV N lo hi w v1 m n X) (h2 : LsV N lo hi w v2 m y) (h3 : LsV N lo hi w v3 m p) (hm0 : 0 < m) (hm : m < 1000000) (hn0 : 0 < n) (hn : n < 1000000)
  {k : Nat} (hkx : HtM m n k X) (hky : HtL m k y) (hkp : HtL m k p) (hK : m * (3 * k + 1) + 3 * k + 2 ≤ 29000000000) :
  Calls Tryz.prog 143 #[.agg #[v1, v2, v3]] w (RetBuilt N w n (nmat X p m) (nrhs X y p m)) := by
 have HX := Lib.hid hkx
 have HY := Lib.hid hky
 have HP := Lib.hid hkp
 have HK := Lib.hid hK
 obtain ⟨Rf, hRf⟩ := hid_eq (RetBuilt N w n (nmat X p m) (nrhs X y p m))
 rw [← hRf.out]
 have hN := h1.le
 obtain ⟨A1, c1, rfl, hmc, hcm⟩ := h1.form
 obtain ⟨A2, c2, rfl, hmc2, hcm2⟩ := h2.form
 obtain ⟨A3, c3, rfl, hmc3, hcm3⟩ := h3.form
 have hI1 := h1
 have hI2 := h2
 have hI3 := h3
 obtain ⟨b, off, rfl, -, -, hx⟩ := h1.addr hm0
 obtain ⟨A0, c0, o0, hc0, hm0', -⟩ := hx 0 (by omega)
 rw [Nat.add_zero] at o0
 unfold maxLen at hm0' hcm hcm2 hcm3
 clear h1 h2 h3 hx hkx hky hkp hK
 go_enter Tryz.func143, Tryz.ntmps143
 go_upto_region 1 with (fail)
 refine boxes2 ?_
 intro W hE hsz B0 B1
 obtain ⟨a0, a1, a2, -⟩ := cells3 B0
 replace o0 := hE.cell o0
 go_wp2_with (go_at_call 181; refine Hid.out ?_)
 refine (n_zeros (N := N) (by omega) n rfl hn).mono ?_
 rintro e w1 ⟨g, rfl, hg1, hg2, hr, e1⟩
 clear a0 a1 a2 o0
 go_upto_region 3 with (fail)
 refine boxes1 ?_
 intro w2 e2 hsz2 B2
 have e3 := e1.trans e2
 replace hr := hr.ext e2
 obtain ⟨ge, hge⟩ : ∃ ge, ge = w1.heap.size := ⟨_, rfl⟩
 rw [← hge] at hg2 hsz2 B2 ⊢
 clear e1 e2 hge
 have hG0 : GrowM N (ge + 1) w2.heap.size w2 (.slice none 0 0) 0 n (fun _ _ => 0) := GrowM.nil (by omega) (by omega) (Nat.le_refl _) _
 go_wp2
 go_loopw [16] (fun i wr => ∃ k : Nat, k ≤ n ∧ i = .int .i64 k ∧ Ext W wr ∧ ge + 1 ≤ wr.heap.size ∧ RowB N wr g n n (fun _ => 0) ∧ ∃ A c, wr.heap[ge]? = some (.cells #[.slice A k c, .slice (some ⟨g, 0, none⟩) n n] 134 (0, 0)) ∧ GrowM N (ge + 1) wr.heap.size wr (.slice A k c) k n (fun _ _ => 0)) (fun i _ => n - (intOf i).toNat)
 case atStart => exact ⟨0, Nat.zero_le _, rfl, e3, hsz2, hr, _, _, B2, hG0⟩
 case round =>
  clear e3 hr B2 hG0 hsz2
  obtain ⟨i, hin, rfl, hE2, hsz2, hr, A, c, B2, hG⟩ := hrel
  by_cases hlt : i < n
  ·obtain ⟨d0, d1, d2, d3⟩ := cells2 B2
   go_upto_region 5 with (fail)
   have eC := (Ext.refl wr).drew
   refine region_late (fun w' => w'.cell? ⟨ge, 0, none⟩ = some (.slice A i c)) [7] (by kernel_rfl) (by exact eC.cell d0) (fun hHeld => ?_)
   refine sP 0 (h := ?_)
   try simp only [nr]
   refine sT 1 (h := ?_)
   try simp only [nr]
   refine sP 2 (h := ?_)
   try simp only [nr]
   refine stepL_only (i := 3) rfl (by kernel_rfl) (fun K hK => ?_)
   go_simp
   refine (n_zeros (N := N) (by have h8 := eC.size; have h9 : N ≤ wr.heap.size := (by omega); omega) n rfl hn).mono ?_
   rintro e w5 ⟨g5, rfl, hg5, hgs5, hr5, e5⟩
   have hg6 : wr.heap.size ≤ g5 := Nat.le_trans eC.size hg5
   replace eC := eC.trans e5
   go_wp2_with fail
   clear hHeld
   refine hK.out _ _ (by exact eC.cell d0) fun hHeld => ?_
   clear hK K
   try simp only [nr]
   refine stepL_only (i := 4) rfl (by kernel_rfl) (fun K hK => ?_)
   go_simp
   first | refine boxes1 ?_ | refine boxesD1 ?_
   intro w4 e4 hsz4 BX
   replace eC := eC.trans e4
   replace hr5 := hr5.ext e4
   have hG4 := hG.ext eC
   have hE4 := hE2.trans eC
   clear hHeld
   refine hK.out _ _ (by exact eC.cell d0) fun hHeld => ?_
   clear hK K
   try simp only [nr]
   refine stepL_only (i := 5) rfl (by kernel_rfl) (fun K hK => ?_)
   refine step_append_row rfl _ _ 23 Tryz.underlying23 rfl (by rfl) hG4 (by rfl) hr5 hg6 (by unfold maxLen; omega) BX (by omega) ?_
   rintro h' cap' w6 hG3 ⟨g', hg', c3', -⟩
   have hE5 := c3'.ext hE4 (by omega)
   replace hG3 := hG3.congr (B := fun _ _ => 0) (fun i _ j _ => by unfold updM; split <;> rfl)
   have D5 := c3'.blk (eC.block B2) (.inl (by omega))
   have hr6 := (hr.ext eC).chg c3' (by omega) (.inl (by omega))
   have hs6 : ge + 1 ≤ w6.heap.size := by have := c3'.size; have := eC.size; omega
   replace d0 := c3'.cell (eC.cell d0) (.inl (show ge < _ by omega))
   replace eC := Ext.refl w6
   obtain ⟨-, -, f0, f1⟩ := cells2 D5
   clear hHeld
   refine hK.out _ _ (by exact eC.cell d0) fun hHeld => ?_
   clear hK K
   try simp only [nr]
   refine sP 6 (h := ?_)
   try simp only [nr]
   refine stepL_late (i := 7) rfl (by kernel_rfl) (by kernel_rfl) (fun K hK => ?_)
   go_simp
   refine hK.out _ _ ?_
   clear hK K
   try simp only [nr]
   refine stepL_done (by kernel_rfl) ?_ _
   clear hHeld
   obtain ⟨w7, E7, D7, C7, hs7⟩ := set0of2 D5 (NoU.mk D5 (by decide)) (.slice (some ⟨h', 0, none⟩) (i + 1) cap')
   rw [E7]
   have hE7 := C7.ext hE5 (by omega)
   have hr7 := hr6.chg C7 (by omega) (.inl (by omega))
   have hG7 := (hG3.chg C7 (by omega) (.inr (by omega))).wide (hi' := w7.heap.size) (by omega) (Nat.le_refl _)
   clear d0 d1 d2 d3 f0 f1 B2 hG hG4 hG3 D5 E7 C7 hr hr5 hr6 BX hE2 hE4 hE5 e4 e5
   go_wp2
   go_roundw
   case rel => exact ⟨i + 1, by omega, by go_num, hE7, by omega, hr7, _, _, D7, hG7⟩
   case measure => simp [intOf]; omega
  ·obtain rfl : n = i := by omega
   obtain ⟨h, cap, β, κ, hv, hcap, ho⟩ := hG.own hn0
   rw [hv] at B2
   have q0 : EqO N W.heap.size (ge + 1) wr.heap.size wr ge h cap n β κ g (nmat X p 0) (nrhs X y p 0) := ⟨by omega, hg1, by omega, by omega, by omega, by omega, B2, ho, hr, hcap⟩
   replace B0 := hE2.block B0
   replace B1 := hE2.block B1
   replace hE2 := hE.trans hE2
   clear hr hG ho hv B2
   obtain ⟨a0, a1, a2, -⟩ := cells3 B0
   obtain ⟨wq, hwq⟩ : ∃ wq, wq = wr := ⟨wr, rfl⟩
   subst hwq
   clear hE
   go_wp2
   clear a0 a1 a2
   go_loopw [29] (fun i wr => ∃ k : Nat, k ≤ m ∧ i = .int .i64 k ∧ Chg W.heap.size wq.heap.size wq wr ∧ EqO N W.heap.size (ge + 1) wq.heap.size wr ge h cap n β κ g (nmat X p k) (nrhs X y p k)) (fun i _ => m - (intOf i).toNat)
   case atStart => exact ⟨0, Nat.zero_le _, rfl, Chg.refl _ _ _, q0⟩
   case round =>
    clear q0
    obtain ⟨i, him, rfl, hC, q⟩ := hrel
    have hhi := hI1.2.1
    have hB0 := hC.blk B0 (.inl (by omega))
    obtain ⟨a0, a1, a2, -⟩ := cells3 hB0
    by_cases hlt2 : i < m
    ·have hl1 := (hI1.ext hE2).chg hC (by omega) (.inl (by omega))
     have hl2 := (hI2.ext hE2).chg hC (by omega) (.inl (by omega))
     have hl3 := (hI3.ext hE2).chg hC (by omega) (.inl (by omega))
     obtain ⟨b', off', hA, -, -, hx⟩ := hl1.addr (by omega)
     obtain ⟨rfl, rfl⟩ : b = b' ∧ off = off' := by injection hA with hA; injection hA with e1 e2; exact ⟨e1, e2⟩
     obtain ⟨A4, c4, o0, -, -, hrow⟩ := hx i hlt2
     obtain ⟨b2, off2, rfl, -, -, hx2⟩ := hl2.addr (by omega)
     obtain ⟨n1, A5, k5, c5, A6, k6, c6, p0, p1, p2, p3, hb1, g1, g2⟩ := (hx2 i hlt2).open
     obtain ⟨b3, off3, rfl, -, -, hx3⟩ := hl3.addr (by omega)
     obtain ⟨n2, A7, k7, c7, A8, k8, c8, r0, r1, r2, r3, hb2, g3, g4⟩ := (hx3 i hlt2).open
     clear hx hx2 hx3 hA hl1 hl2 hl3
     go_upto_region 10 with (fail)
     have eC := (Ext.refl wr).drew
     refine region_late (fun w' => w'.cell? ⟨w.heap.size, 1, none⟩ = some (.slice (some ⟨b2, off2, none⟩) m c2) ∧ w'.cell? ⟨w.heap.size, 2, none⟩ = some (.slice (some ⟨b3, off3, none⟩) m c3) ∧ w'.cell? ⟨b2, off2 + i * 4, none⟩ = some (.bool n1) ∧ w'.cell? ⟨b2, off2 + i * 4 + 1, none⟩ = some (.slice A5 k5 c5) ∧ w'.cell? ⟨b2, off2 + i * 4 + 2, none⟩ = some (.bool false) ∧ w'.cell? ⟨b2, off2 + i * 4 + 3, none⟩ = some (.slice A6 k6 c6) ∧ w'.cell? ⟨b3, off3 + i * 4, none⟩ = some (.bool n2) ∧ w'.cell? ⟨b3, off3 + i * 4 + 1, none⟩ = some (.slice A7 k7 c7) ∧ w'.cell? ⟨b3, off3 + i * 4 + 2, none⟩ = some (.bool false) ∧ w'.cell? ⟨b3, off3 + i * 4 + 3, none⟩ = some (.slice A8 k8 c8)) [11] (by kernel_rfl) (by exact ⟨eC.cell a1, eC.cell a2, eC.cell p0, eC.cell p1, eC.cell p2, eC.cell p3, eC.cell r0, eC.cell r1, eC.cell r2, eC.cell r3⟩) (fun hHeld => ?_)
     refine sP 0 (h := ?_)
     try simp only [nr]
     refine sP 1 (h := ?_)
     try simp only [nr]
     refine sT 2 (h := ?_)
     try simp only [nr]
     refine sP 3 (h := ?_)
     try simp only [nr]
     refine sP 4 (h := ?_)
     try simp only [nr]
     refine sT 5 (h := ?_)
     try simp only [nr]
     refine sP 6 (h := ?_)
     try simp only [nr]
     refine sT 7 (h := ?_)
     try simp only [nr]
     refine sP 8 (h := ?_)
     try simp only [nr]
     refine sP 9 (h := ?_)
     try simp only [nr]
     refine sT 10 (h := ?_)
     try simp only [nr]
     refine stepL_late (i := 11) rfl (by kernel_rfl) (by kernel_rfl) (fun K hK => ?_)
     go_simp
     refine (n_add (q.ext eC) (hrow.ext eC) (by omega) ((RatV.mk hb1 g1 g2).ext eC) ((RatV.mk hb2 g3 g4).ext eC) hn (K := m * (3 * k + 1) + 1) (k := k) (nmat_ht HX.out HP.out him (Nat.le_refl _)) (nrhs_ht HX.out HY.out HP.out him (Nat.le_refl _)) (HX.out i hlt2) (HY.out i hlt2) (HP.out i hlt2) (by have := HK.out; omega)).mono ?_
     rintro e w5 ⟨rfl, q5, C5⟩
     have hC5 := (hC.trans (eC.chg _ _)).trans C5
     replace q5 := q5.congr (fun i' h1 j _ => nmat_succ X p i h1 j) (fun i' h1 => nrhs_succ X y p i h1)
     go_wp2_with fail
     refine hK.out _ _ ?_
     clear hK K
     try simp only [nr]
     refine stepL_done (by kernel_rfl) ?_ _
     clear hHeld
     clear q o0 a0 a1 a2 p0 p1 p2 p3 r0 r1 r2 r3 g1 g2 g3 g4 hb1 hb2 hrow hB0 hC C5
     go_wp2
     go_roundw
     case rel => exact ⟨i + 1, by omega, by go_num, hC5, q5⟩
     case measure => simp [intOf]; omega
    ·obtain rfl : m = i := by omega
     replace B1 := hC.blk B1 (.inl (by omega))
     obtain ⟨d0, d1, -⟩ := cells2 q.rec_
     obtain ⟨f0, f1, f2, f3⟩ := cells2 B1
     clear a0 a1 a2
     go_wp2
     obtain ⟨w7, E7, D7, C7, hs7⟩ := set2of2 B1 (NoU.mk B1 (by decide)) (.slice (some ⟨h, 0, none⟩) n cap) (.slice (some ⟨g, 0, none⟩) n n)
     rw [E7]
     obtain ⟨x0, x1, -⟩ := cells2 D7
     have hs8 := hC.size
     have hE7 : Ext w w7 := C7.ext (hC.ext hE2 (by omega)) (by omega)
     have hM7 := (q.own.mtv q.own.mle hcap).chg C7 (by omega) (.inr (by omega))
     have hl7 := (q.row.chg C7 (by omega) (.inr (by omega))).lsv (c := n) (lo := w.heap.size) (hi := w7.heap.size) (Nat.le_refl _) (by unfold maxLen; omega) (by omega) (by omega) (Nat.le_refl _)
     refine bodyPost_ret (v := .agg #[.slice (some ⟨h, 0, none⟩) n cap, .slice (some ⟨g, 0, none⟩) n n]) ?_ rfl ?_
     ·simp [results, x0, x1, go_sem]
     rw [hRf.out]
     exact ⟨h, cap, g, rfl, MtR.wide hM7 (by omega) (by omega) (Nat.le_refl _), hl7, hE7⟩
end Go.Proofs.YtghpfnhmlpfgcaaGreat
namespace Go.Proofs.YtghpfnhmlpfgcaaGreat
open Go.RowKit
def linOf (m n : Nat) (X : Nat → Nat → Rat) (y p : Nat → Rat) : Lin := ⟨m, fun _ => n, fun i j => raw (X i j), m, fun i => raw (y i), m, fun i => raw (p i)⟩
theorem num_pos {q : Rat} (h : 0 < q) : 0 < q.num := by
 rcases Int.lt_trichotomy q.num 0 with h1 | h1 | h1
 ·exact absurd h (by rw [Rat.lt_iff]; simp; omega)
 ·rw [Rat.num_eq_zero.1 h1] at h; exact absurd h (Rat.lt_irrefl)
 ·exact h1
theorem codeOf_lin {m n : Nat} {X : Nat → Nat → Rat} {y p : Nat → Rat} (hm0 : 0 < m) (hm : m ≤ 64) (hn0 : 0 < n) (hn : n ≤ 24) (hp : ∀ i, i < m → 0 < p i) : codeOf (linOf m n X y p) = 0 := by
 have h1 : canonB (linOf m n X y p) = true := by
  unfold canonB canonA linOf
  simp only [Bool.and_eq_true]
  exact ⟨allB_true.2 (fun i _ => allB_true.2 (fun j _ => okR_raw _)), allB_true.2 (fun i _ => okR_raw _), allB_true.2 (fun i _ => okR_raw _)⟩
 have h2 : sizeB (linOf m n X y p) = true := by
  unfold sizeB linOf
  simp only [Bool.and_eq_true, decide_eq_true_eq]; omega
 have h3 : fitB (linOf m n X y p) = true := by
  unfold fitB evenB linOf
  simp only [Bool.and_eq_true, decide_eq_true_eq]
  exact ⟨allB_true.2 (fun i _ => by simp), trivial, trivial⟩
 have h4 : allB m (fun i => posB (raw (p i))) = true := allB_true.2 (fun i hi => by
  rw [posB_raw, decide_eq_true_eq]; exact num_pos (hp i hi))
 unfold codeOf
 rw [if_neg (by rw [h1]; simp), if_neg (by rw [h2]; simp), if_neg (by rw [h3]; simp)]
 show (if allB m (fun i => posB (raw (p i))) = false then (2 : Int) else 0) = 0
 rw [if_neg (by rw [h4]; simp)]
theorem linV_of {N lo hi lo2 hi2 lo3 hi3 : Nat} {w : World} {v1 v2 v3 : Value} {m n : Nat} {X : Nat → Nat → Rat} {y p : Nat → Rat} (h1 : MtV N lo hi w v1 m n X) (h2 : LsV N lo2 hi2 w v2 m y) (h3 : LsV N lo3 hi3 w v3 m p) :
  LinV N 0 w.heap.size w (.agg #[v1, v2, v3]) (linOf m n X y p) :=
 ⟨v1, v2, v3, rfl, MtR.wide h1 (Nat.zero_le _) h1.2.1 (Nat.le_refl _), LsR.wide h2 (Nat.zero_le _) h2.2.1 (Nat.le_refl _), LsR.wide h3 (Nat.zero_le _) h3.2.1 (Nat.le_refl _)⟩
theorem linSz_of {m n k : Nat} {X : Nat → Nat → Rat} {y p : Nat → Rat} (hkx : HtM m n k X) (hky : HtL m k y) (hkp : HtL m k p) (hk : k ≤ 29000000000) : LinSz (linOf m n X y p) :=
 ⟨fun i hi j hj => ((hkx i hi j hj).sz hk).raw, fun i hi => ((hky i hi).sz hk).raw, fun i hi => ((hkp i hi).sz hk).raw⟩
def RetNormal (N : Nat) (w : World) (n : Nat) (M : Nat → Nat → Rat) (r : Nat → Rat) (e : Ending) (w' : World) : Prop :=
 ∃ A c A' c', e = .returned (.tuple #[.slice A n c, .slice A' n c', .int .i64 0]) ∧ MtV N w.heap.size w'.heap.size w' (.slice A n c) n n M ∧ LsV N w.heap.size w'.heap.size w' (.slice A' n c') n r ∧ Ext w w'
set_option maxRecDepth 100000 in
set_option maxHeartbeats 2000000 in
theorem n_normal {N lo hi lo2 hi2 lo3 hi3 : Nat} {w : World} {v1 v2 v3 : Value} {m n : Nat} {X : Nat → Nat → Rat} {y p : Nat → Rat} (h1 : MtV N lo hi w v1 m n X) (h2 : LsV N lo2 hi2 w v2 m y) (h3 : LsV N lo3 hi3 w v3 m p) (hm0 : 0 < m) (hm : m ≤ 64) (hn0 : 0 < n) (hn : n ≤ 24) (hp : ∀ i, i < m → 0 < p i)
  {k : Nat} (hkx : HtM m n k X) (hky : HtL m k y) (hkp : HtL m k p) (hK : m * (3 * k + 1) + 3 * k + 2 ≤ 29000000000) :
  Calls Tryz.prog 96 #[.agg #[v1, v2, v3]] w (RetNormal N w n (nmat X p m) (nrhs X y p m)) := by
 have HX := Lib.hid hkx
 have HY := Lib.hid hky
 have HP := Lib.hid hkp
 have HK := Lib.hid hK
 have HC : Hid (codeOf (linOf m n X y p) = 0) := codeOf_lin hm0 hm hn0 hn hp
 obtain ⟨Rf, hRf⟩ := hid_eq (RetNormal N w n (nmat X p m) (nrhs X y p m))
 rw [← hRf.out]
 have hN := h1.le
 obtain ⟨A1, c1, rfl, hmc, hcm⟩ := h1.form
 obtain ⟨A2, c2, rfl, hmc2, hcm2⟩ := h2.form
 obtain ⟨A3, c3, rfl, hmc3, hcm3⟩ := h3.form
 have hI1 := h1
 have hI2 := h2
 have hI3 := h3
 clear h1 h2 h3 hkx hky hkp hK hp
 go_enter Tryz.func96, Tryz.ntmps96
 go_upto_region 1 with (fail)
 refine boxes1 ?_
 intro W hE hsz B0
 obtain ⟨a0, a1, a2, -⟩ := cells3 B0
 go_wp2_with (go_at_call 104; refine Hid.out ?_)
 refine (n_check (linV_of (hI1.ext hE) (hI2.ext hE) (hI3.ext hE)) (linSz_of HX.out HY.out HP.out (by have := HK.out; omega)) (fun i hi => (HP.out i hi).sz (by have := HK.out; omega))).mono ?_
 rintro e w1 ⟨rfl, e1⟩
 rw [HC.out]
 replace hE := hE.trans e1
 replace B0 := e1.block B0
 clear a0 a1 a2
 obtain ⟨a0, a1, a2, -⟩ := cells3 B0
 go_wp2_with (go_at_call 143; refine Hid.out ?_)
 refine (n_built (lo := 0) (hi := w1.heap.size) (MtR.wide (hI1.ext hE) (Nat.zero_le _) (hI1.ext hE).2.1 (Nat.le_refl _)) (LsR.wide (hI2.ext hE) (Nat.zero_le _) (hI2.ext hE).2.1 (Nat.le_refl _)) (LsR.wide (hI3.ext hE) (Nat.zero_le _) (hI3.ext hE).2.1 (Nat.le_refl _)) hm0 (by omega) hn0 (by omega) HX.out HY.out HP.out HK.out).mono ?_
 rintro e w2 ⟨h, cap, g, rfl, hM, hr, e2⟩
 have hs2 := hE.size
 replace hE := hE.trans e2
 clear a0 a1 a2
 go_upto_region 5 with (fail)
 refine boxes1 ?_
 intro w3 e3 hsz3 B3
 replace hE := hE.trans e3
 replace hM := hM.ext e3
 replace hr := hr.ext e3
 obtain ⟨d0, d1, -⟩ := cells2 B3
 clear B3 e3
 have eC := (Ext.refl w3).drew
 refine region_late (fun w' => w'.cell? ⟨w2.heap.size, 0, none⟩ = some (.slice (some ⟨h, 0, none⟩) n cap) ∧ w'.cell? ⟨w2.heap.size, 1, none⟩ = some (.slice (some ⟨g, 0, none⟩) n n)) [] (by kernel_rfl) (by exact ⟨eC.cell d0, eC.cell d1⟩) (fun hHeld => ?_)
 refine sP 0 (h := ?_)
 try simp only [nr]
 refine sT 1 (h := ?_)
 try simp only [nr]
 refine sP 2 (h := ?_)
 try simp only [nr]
 refine sT 3 (h := ?_)
 try simp only [nr]
 refine sP 4 (h := ?_)
 try simp only [nr]
 refine sP 5 (h := ?_)
 try simp only [nr]
 refine sP 6 (h := ?_)
 try simp only [nr]
 refine stepL_done (by kernel_rfl) ?_ _
 clear hHeld
 go_wp2
 go_ret3
 rw [hRf.out]
 exact ⟨_, _, _, _, rfl, MtR.wide (hM.ext eC) hs2 (by show w2.heap.size ≤ w3.heap.size; omega) (Nat.le_refl _), LsR.wide (hr.ext eC) hs2 (by show w2.heap.size ≤ w3.heap.size; omega) (Nat.le_refl _), hE.trans eC⟩
end Go.Proofs.YtghpfnhmlpfgcaaGreat
namespace Go.Proofs.YtghpfnhmlpfgcaaGreat
open Go.RowKit
set_option maxHeartbeats 1000000 in
theorem rl_whole {N : Nat} {w : World} (hN : N ≤ w.heap.size) (n : Int) (h1 : -9223372036854775808 ≤ n) (h2 : n ≤ 9223372036854775807) :
  Calls Tryz.prog 59 #[.int .i64 n] w (RetR N w (n : Rat)) := by
 go_enter Tryz.func59, Tryz.ntmps59
 go_wp2_with (go_at_call 108; refine Hid.out ?_)
 refine boxesC1 ?_
 intro W hE hsz B0
 refine (f_whole (N := N) (by have := hE.size; omega) n h1 h2).mono ?_
 intro e w1 hh
 obtain ⟨b1, A1, k1, c1, A2, k2, c2, rfl, hb1, g1, g2, e1⟩ := hh.form
 have B1 := e1.block B0
 obtain ⟨r0, r1, r2, r3, r4, r5, r6, r7⟩ := cells4 B1
 go_wp2
 exact fin_rat rfl rfl rfl (hE.trans e1) B1 (by omega) hN g1 g2 hb1
set_option maxHeartbeats 2000000 in
theorem rl_mul {N : Nat} {w : World} {v v' : Value} {x y : Rat} (h : RatV N w v x) (h' : RatV N w v' y) (hz : Sz x) (hz' : Sz y) :
  Calls Tryz.prog 61 #[v, v'] w (RetR N w (x * y)) := by
 obtain ⟨q, hq⟩ := hid_eq (x * y)
 rw [← hq.out]
 have hN := h.le
 have hI := h
 have hI' := h'
 have HZ := Lib.hid hz
 have HZ' := Lib.hid hz'
 obtain ⟨m1, X1, i1, d1, X2, i2, d2, rfl, hm1, gx1, gx2⟩ := h.parts
 obtain ⟨m2, Y1, i3, d3, Y2, i4, d4, rfl, hm2, gy1, gy2⟩ := h'.parts
 clear hz hz' h h' gx1 gx2 gy1 gy2
 go_enter Tryz.func61, Tryz.ntmps61
 go_wp2_with (go_at_call 113; refine Hid.out ?_)
 refine boxesC3 ?_
 intro W hE hsz B0 B1 B2
 refine (f_mul (hI.ext hE) (hI'.ext hE) HZ.out HZ'.out).mono ?_
 rw [← hq.out]
 intro e w1 hh
 obtain ⟨n3, A3, k3, c3, A4, k4, c4, rfl, hb3, g3, g4, e1⟩ := hh.form
 replace hE := hE.trans e1
 replace B2 := e1.block B2
 obtain ⟨t0, t1, t2, t3, t4, t5, t6, t7⟩ := cells4 B2
 go_wp2
 exact fin_rat rfl rfl rfl hE B2 (by omega) hN g3 g4 hb3
set_option maxHeartbeats 2000000 in
theorem rl_sub {N : Nat} {w : World} {v v' : Value} {x y : Rat} (h : RatV N w v x) (h' : RatV N w v' y) (hz : Sz x) (hz' : Sz y) :
  Calls Tryz.prog 121 #[v, v'] w (RetR N w (x - y)) := by
 obtain ⟨q, hq⟩ := hid_eq (x - y)
 rw [← hq.out]
 have hN := h.le
 have hI := h
 have hI' := h'
 have HZ := Lib.hid hz
 have HZ' := Lib.hid hz'
 obtain ⟨m1, X1, i1, d1, X2, i2, d2, rfl, hm1, gx1, gx2⟩ := h.parts
 obtain ⟨m2, Y1, i3, d3, Y2, i4, d4, rfl, hm2, gy1, gy2⟩ := h'.parts
 clear hz hz' h h' gx1 gx2 gy1 gy2
 go_enter Tryz.func121, Tryz.ntmps121
 go_wp2_with (go_at_call 163; refine Hid.out ?_)
 refine boxesC3 ?_
 intro W hE hsz B0 B1 B2
 refine (f_sub (hI.ext hE) (hI'.ext hE) HZ.out HZ'.out).mono ?_
 rw [← hq.out]
 intro e w1 hh
 obtain ⟨n3, A3, k3, c3, A4, k4, c4, rfl, hb3, g3, g4, e1⟩ := hh.form
 replace hE := hE.trans e1
 replace B2 := e1.block B2
 obtain ⟨t0, t1, t2, t3, t4, t5, t6, t7⟩ := cells4 B2
 go_wp2
 exact fin_rat rfl rfl rfl hE B2 (by omega) hN g3 g4 hb3
set_option maxHeartbeats 2000000 in
theorem rl_dot {N lo hi lo' hi' : Nat} {w : World} {v v' : Value} {n : Nat} {x y : Nat → Rat} (h : LsV N lo hi w v n x) (h' : LsV N lo' hi' w v' n y) {k k' : Nat} (hk : HtL n k x) (hk' : HtL n k' y) (hK : n * (k + k' + 1) + 1 ≤ 29000000000) :
  Calls Tryz.prog 98 #[v, v'] w (RetR N w (sum n (fun j => x j * y j))) := by
 obtain ⟨q, hq⟩ := hid_eq (sum n (fun j => x j * y j))
 rw [← hq.out]
 have hN := h.le
 obtain ⟨A, c, rfl, hnc, hcm⟩ := h.form
 obtain ⟨A', c', rfl, hnc', hcm'⟩ := h'.form
 have hI := h
 have hI' := h'
 have HK := Lib.hid hk
 have HK' := Lib.hid hk'
 have HB := Lib.hid hK
 clear h h' hk hk' hK
 go_enter Tryz.func98, Tryz.ntmps98
 go_wp2_with (go_at_call 146; refine Hid.out ?_)
 refine boxesC1 ?_
 intro W hE hsz B2
 refine (f_dot (hI.ext hE) (hI'.ext hE) HK.out HK'.out HB.out).mono ?_
 rw [← hq.out]
 intro e w1 hh
 obtain ⟨n3, A3, k3, c3, A4, k4, c4, rfl, hb3, g3, g4, e1⟩ := hh.form
 replace hE := hE.trans e1
 replace B2 := e1.block B2
 have hsz1 := Nat.le_trans hsz e1.size
 go_upto_region 2 with (fail)
 refine boxes1 ?_
 intro w2 e2 hsz2 BX
 replace hE := hE.trans e2
 replace B2 := e2.block B2
 obtain ⟨s0, s1, s2, s3, -⟩ := cells4 BX
 obtain ⟨t0, t1, t2, t3, t4, t5, t6, t7⟩ := cells4 B2
 go_wp2
 exact fin_rat rfl rfl rfl hE B2 (by omega) hN (g3.ext e2) (g4.ext e2) hb3
set_option maxHeartbeats 1000000 in
theorem b_mul64 (x y : Nat) (hx : x < 18446744073709551616) (hy : y < 18446744073709551616) (w : World) :
  Calls Tryz.prog 190 #[.int .u64 x, .int .u64 y] w fun e w' => e = .returned (.tuple #[.int .u64 ((x * y / 18446744073709551616 : Nat) : Int), .int .u64 ((x * y % 18446744073709551616 : Nat) : Int)]) ∧ w' = w := by
 obtain ⟨bd, bt, bw, hhi⟩ := Lib.mul64_hi x y hx hy
 have ba := Lib.half_mul_le (a := x / 4294967296) (b := y / 4294967296) (by omega) (by omega)
 have bb := Lib.half_mul_le (a := x / 4294967296) (b := y % 4294967296) (by omega) (by omega)
 have bc := Lib.half_mul_le (a := x % 4294967296) (b := y / 4294967296) (by omega) (by omega)
 have ba' : x / 4294967296 * (y / 4294967296) < 18446744073709551616 := by omega
 have bb' : x / 4294967296 * (y % 4294967296) < 18446744073709551616 := by omega
 have bc' : x % 4294967296 * (y / 4294967296) < 18446744073709551616 := by omega
 have bh1 : x / 4294967296 * (y / 4294967296) + (x / 4294967296 * (y % 4294967296) + x % 4294967296 * (y % 4294967296) / 4294967296) / 4294967296 < 18446744073709551616 := by omega
 have bh : x / 4294967296 * (y / 4294967296) + (x / 4294967296 * (y % 4294967296) + x % 4294967296 * (y % 4294967296) / 4294967296) / 4294967296 + ((x / 4294967296 * (y % 4294967296) + x % 4294967296 * (y % 4294967296) / 4294967296) % 4294967296 + x % 4294967296 * (y / 4294967296)) / 4294967296 < 18446744073709551616 := by omega
 go_enter Tryz.func190, Tryz.ntmps190
 go_wp2
 simp only [Mul64.maskN x hx, Mul64.maskN y hy, Mul64.divN, Mul64.mulN, Mul64.addN, Mul64.wrapN _ bd, Mul64.wrapN _ bb', Mul64.wrapN _ bt, Mul64.maskN _ bt, Mul64.wrapN _ bc', Mul64.wrapN _ bw, Mul64.wrapN _ ba', Mul64.wrapN _ bh1, Mul64.wrapN _ bh, Mul64.wrapM (x * y)]
 rw [hhi]
 go_ret2
 exact ⟨rfl, rfl⟩
set_option maxHeartbeats 1000000 in
theorem b_mul (x y : Nat) (hx : x < 18446744073709551616) (hy : y < 18446744073709551616) (w : World) :
  Calls Tryz.prog 152 #[.int .u64 x, .int .u64 y] w fun e w' => e = .returned (.tuple #[.int .u64 ((x * y / 18446744073709551616 : Nat) : Int), .int .u64 ((x * y % 18446744073709551616 : Nat) : Int)]) ∧ w' = w := by
 go_enter Tryz.func152, Tryz.ntmps152
 go_wp2_with (go_at_call 190; refine Hid.out ?_)
 refine (b_mul64 x y hx hy w).mono ?_
 rintro e w1 ⟨rfl, rfl⟩
 go_wp2
 go_ret2
 exact ⟨rfl, rfl⟩
end Go.Proofs.YtghpfnhmlpfgcaaGreat
namespace Go.Proofs.YtghpfnhmlpfgcaaGreat
open Go.RowKit
theorem upd_cells (g : Nat) : ∀ (vs : List Value) (o : Nat) (w w' : World), Upd g w w' → Upd g w (w'.setCells g o vs)
 | [], _, _, _, h => h
 | v :: r, o, w, w', h => upd_cells g r (o + 1) w _ (h.set o v)
theorem blk_cells (g : Nat) (t : TypeId) (fr : Nat × Nat) : ∀ (vs : List Value) (o : Nat) (cs : Array Value) (w : World), w.heap[g]? = some (.cells cs t fr) → ∃ cs', (w.setCells g o vs).heap[g]? = some (.cells cs' t fr) ∧ cs'.size = cs.size
 | [], _, cs, _, h => ⟨cs, h, rfl⟩
 | v :: r, o, cs, w, h => by
  obtain ⟨cs', h1, h2⟩ := blk_cells g t fr r (o + 1) _ (w.setCell ⟨g, o, none⟩ v) (heap_set h o v)
  exact ⟨cs', h1, by rw [h2]; simp⟩
theorem add_none (b o j : Nat) : (⟨b, o, none⟩ : Addr).add j = ⟨b, o + j, none⟩ := by unfold Addr.add; split <;> simp_all
theorem At4.one {N : Nat} {w : World} {b o : Nat} {R : Raw} (h : At4 N w b o R) {r : Nat} (hr : r < 4) : ∃ v, w.cell? ⟨b, o + r, none⟩ = some v ∧ v.oneCell' = true := by
 obtain ⟨A, n, c, A', n', c', h0, h1, h2, h3, -⟩ := h.val
 have hr' : r = 0 ∨ r = 1 ∨ r = 2 ∨ r = 3 := by omega
 rcases hr' with rfl | rfl | rfl | rfl
 ·exact ⟨_, h0, rfl⟩
 ·exact ⟨_, h1, rfl⟩
 ·exact ⟨_, h2, rfl⟩
 ·exact ⟨_, h3, rfl⟩
theorem run_copy_same {N : Nat} {w : World} (t ty : TypeId) (ht : Tryz.prog.underlying t = some (.slice 37)) {g k cnt : Nat} {q : Rat} (h : RowB N w g k cnt (fun _ => q)) {b so s : Nat} (hs : ∀ j, j < s → At4 N w b (so + j * 4) (raw q)) {d dc sc : Nat} (hd : d = k - cnt) :
  ∃ w', (Builtin.copy_ #[t, t] ty #[.slice (some ⟨g, cnt * 4, none⟩) d dc, .slice (some ⟨b, so, none⟩) s sc]).run Tryz.prog w = .ok (.int .i64 ((Nat.min s d : Nat) : Int)) w' ∧ RowB N w' g k (cnt + Nat.min s d) (fun _ => q) ∧ Chg g (g + 1) w w' ∧ w'.heap.size = w.heap.size := by
 subst hd
 obtain ⟨i0, hi0, hz0, hz1, hz2⟩ := info_parts info_rat
 obtain ⟨n, hn⟩ : ∃ n, n = Nat.min s (k - cnt) := ⟨_, rfl⟩
 rw [← hn]
 have hns : n ≤ s := by rw [hn]; exact Nat.min_le_left _ _
 have hnk : n ≤ k - cnt := by rw [hn]; exact Nat.min_le_right _ _
 have hck := h.2.1
 have hN := h.1
 have hone : ∀ j, j < n * 4 → ∃ v, w.cell? ⟨b, so + j, none⟩ = some v ∧ v.oneCell' = true := by
  intro j hj
  have := (hs (j / 4) (by omega)).one (r := j % 4) (by omega)
  rwa [show so + j / 4 * 4 + j % 4 = so + j by omega] at this
 obtain ⟨cs, hcs⟩ : ∃ cs, cs = (List.range (n * 4)).map (fun j => (w.cell? ⟨b, so + j, none⟩).getD undef) := ⟨_, rfl⟩
 have hlen : cs.length = n * 4 := by rw [hcs]; simp
 have hat : ∀ j v, cs[j]? = some v → w.cell? ⟨b, so + j, none⟩ = some v := by
  intro j v hv
  have hj : j < cs.length := (List.getElem?_eq_some_iff.1 hv).1
  rw [hlen] at hj
  obtain ⟨u, hu, -⟩ := hone j hj
  rw [hcs] at hv
  simp [hj, hu] at hv
  rw [hu, hv]
 have h1 : ∀ v ∈ cs, v.oneCell' = true := by
  intro v hv
  obtain ⟨j, hj, hjv⟩ := List.getElem_of_mem hv
  have hj2 := hat j v (by rw [← hjv]; exact List.getElem?_eq_getElem hj)
  rw [hlen] at hj
  obtain ⟨u, hu, ho⟩ := hone j hj
  rw [hu] at hj2; have h7 := Option.some.inj hj2; rw [← h7]; exact ho
 have hl := run_loadCells_list (P := Tryz.prog) w ⟨b, so, none⟩ cs (fun j v hv => by rw [add_none]; exact hat j v hv)
 have hc : ∀ j, j < cs.length → (w.cell? ⟨g, cnt * 4 + j, none⟩).isSome = true := by
  intro j hj
  obtain ⟨u, hu⟩ := h.there (o := cnt * 4 + j) (by omega)
  rw [hu]; rfl
 have hf : ∀ j, j < cs.length → w.frozen? ⟨g, cnt * 4 + j, none⟩ = false := fun j _ => h.frozen _
 have hst := run_storeCells_cells (P := Tryz.prog) g (cnt * 4) cs 0 w (by simpa using hc) (by simpa using hf) h1
 have hT := h.noU
 have U := upd_cells g cs (cnt * 4) w w (Upd.refl g w)
 have hC := U.chg hT
 have hin := World.cell?_setCells_in g cs (cnt * 4) w hc
 refine ⟨w.setCells g (cnt * 4) cs, ?_, ?_, hC, U.size⟩
 ·rw [hlen] at hl
  simp [Builtin.copy_, run_underlying ht, Builtin.lenOf, Builtin.firstCells, sizeOf, typeInfo, hi0, hz1, ← hn, hl, hst, goInt]
 ·obtain ⟨a1, a2, ⟨cs0, a3, a3'⟩, a4⟩ := h
  refine ⟨a1, by omega, ?_, fun i hi => ?_⟩
  ·obtain ⟨cs', b1, b2⟩ := blk_cells g _ _ cs (cnt * 4) cs0 w a3
   exact ⟨cs', b1, by omega⟩
  ·by_cases hic : i < cnt
   ·obtain ⟨s', t', d0, d1, d2, d3, g1, g2⟩ := a4 i hic
    refine ⟨s', t', ?_, ?_, ?_, ?_, g1.chg hC hN, g2.chg hC hN⟩ <;> rw [World.cell?_setCells_out g cs (cnt * 4) w _ (fun _ _ => .inl (by simp only; omega))] <;> assumption
   ·obtain ⟨j, rfl⟩ : ∃ j, i = cnt + j := ⟨i - cnt, by omega⟩
    obtain ⟨s', t', d0, d1, d2, d3, g1, g2⟩ := hs j (by omega)
    have hget : ∀ r v, r < 4 → w.cell? ⟨b, so + j * 4 + r, none⟩ = some v → (w.setCells g (cnt * 4) cs).cell? ⟨g, (cnt + j) * 4 + r, none⟩ = some v := by
     intro r v hr hv
     have h9 := hin (j * 4 + r) (by omega)
     rw [show cnt * 4 + (j * 4 + r) = (cnt + j) * 4 + r by omega] at h9
     rw [h9]
     have h8 := hat (j * 4 + r) _ (List.getElem?_eq_getElem (by omega))
     rw [show so + (j * 4 + r) = so + j * 4 + r by omega, hv] at h8
     exact h8.symm
    exact ⟨s', t', hget 0 _ (by omega) d0, hget 1 _ (by omega) d1, hget 2 _ (by omega) d2, hget 3 _ (by omega) d3, g1.chg hC hN, g2.chg hC hN⟩
end Go.Proofs.YtghpfnhmlpfgcaaGreat
namespace Go.Proofs.YtghpfnhmlpfgcaaGreat
open Go.RowKit
theorem step_copy_eq {ops : Array Oper} {o : Oper} {a : Act} {w : World} {K : Act → World → Prop} {Q : Exit → Act → World → Prop} {E : Prop}
  (hg : o.guard = none) (d x : Operand) (dT sT : TypeId) (hop : o.op = Op.call { callee := Callee.builtin Builtin.copy, args := #[d, x], argTypes := #[dT, sT] })
  (v u : Value) (hd : a.eval d = v) (hx : a.eval x = u) {v' : Value} {w' : World} (hr : (Builtin.copy_ #[dT, sT] o.type #[v, u]).run Tryz.prog w = .ok v' w') (hK : K (a.put o.dst v') w') :
  if Region.wanted o (yielded ops a.tmps) = true then Oper.wp Tryz.prog o a w K Q else E := by
 have hw : Region.wanted o (yielded ops a.tmps) = true := by simp [Region.wanted, hg]
 rw [if_pos hw]
 unfold Oper.wp
 simp [execOp, hop, resolve, invoke, builtin, hd, hx, hr, Result.andThen]
 exact hK
theorem wpList_copy_eq {ops : Array Oper} {rest : List Oper} {o : Oper} {a : Act} {w : World} {Q : Exit → Act → World → Prop}
  (hg : o.guard = none) (d x : Operand) (dT sT : TypeId) (hop : o.op = Op.call { callee := Callee.builtin Builtin.copy, args := #[d, x], argTypes := #[dT, sT] })
  (v u : Value) (hd : a.eval d = v) (hx : a.eval x = u) {v' : Value} {w' : World} (hr : (Builtin.copy_ #[dT, sT] o.type #[v, u]).run Tryz.prog w = .ok v' w') (hK : wpList Tryz.prog ops Q rest (a.put o.dst v') w') :
  wpList Tryz.prog ops Q (o :: rest) a w := by
 refine wpList_plain hg fun K hK' => ?_
 unfold Oper.wp
 simp [execOp, hop, resolve, invoke, builtin, hd, hx, hr, Result.andThen]
 exact hK' _ _ hK
set_option maxRecDepth 100000 in
set_option maxHeartbeats 4000000 in
theorem sl_repeat {N : Nat} {w : World} (hN : N ≤ w.heap.size) {b c : Nat} {q : Rat} (h : At4 N w b 0 (raw q)) (n : Nat) {n' : Int} (hn' : n' = (n : Int)) (hn0 : 0 < n) (hn : n < 1000000) :
  Calls Tryz.prog 106 #[.slice (some ⟨b, 0, none⟩) 1 c, .int .i64 n'] w (RetRow N w n (fun _ => q)) := by
 subst hn'
 have hu1 : IntKind.u64.wrap (n : Int) = (n : Int) := by rw [IntKind.wrap_u64]; omega
 have hu2 : IntKind.i64.wrap (n : Int) = (n : Int) := IntWalk.i64_in _ (by omega)
 have hd1 : 1 * n / 18446744073709551616 = 0 := by omega
 have hd2 : 1 * n % 18446744073709551616 = n := by omega
 go_enter Tryz.func106, Tryz.ntmps106
 go_wp2_with (go_at_call 152; refine Hid.out ?_)
 refine (b_mul 1 n (by omega) (by omega) w).mono ?_
 rintro e w1 ⟨rfl, rfl⟩
 rw [hd1, hd2]
 go_wp2_with (at_make; refine Hid.out ?_)
 refine wpList_make_rats rfl _ _ rfl .i64 .i64 _ _ n rfl rfl (by first | rfl | exact hu2) (by first | rfl | exact hu2) hn ?_
 intro w2 cs2 B2 hcs2 e2
 have hR : RowB N w2 w1.heap.size n 0 (fun _ => q) := ⟨by omega, Nat.zero_le _, ⟨cs2, B2, hcs2⟩, fun j hj => by omega⟩
 have hs2 : w1.heap.size < w2.heap.size := blk_lt B2
 clear B2 hcs2 cs2
 go_upto_region 7 with (fail)
 have hcp := run_copy_same 24 3 Tryz.underlying24 hR (b := b) (so := 0) (s := 1) (fun j hj => by (obtain rfl : j = 0 := by omega); exact h.ext e2) (d := n) (dc := n) (sc := c) rfl
 obtain ⟨w3, hrun, hR3, C3, hs3⟩ := hcp
 have hm1 : Nat.min 1 n = 1 := Nat.min_eq_left hn0
 rw [hm1] at hrun hR3
 rw [Nat.zero_mul] at hrun
 have hE3 : Ext w1 w3 := C3.ext e2 (Nat.le_refl _)
 clear hR C3 hs3 hu2
 have hs3 : w1.heap.size < w3.heap.size := hR3.lt
 go_wp2_with (refine wpList_copy_eq rfl _ _ _ _ rfl _ _ (by rfl) (by rfl) hrun ?_)
 clear hrun
 go_loopw [8] (fun v wr => ∃ k : Nat, 0 < k ∧ k ≤ n ∧ v = .int .i64 k ∧ Ext w1 wr ∧ w1.heap.size < wr.heap.size ∧ RowB N wr w1.heap.size n k (fun _ => q)) (fun v _ => n - (intOf v).toNat)
 case atStart => exact ⟨1, by omega, by omega, rfl, hE3, hs3, hR3⟩
 case round =>
  clear hR3 hE3 hs3 e2 hs2
  obtain ⟨k, hk0, hk, rfl, hE, hs, hR⟩ := hrel
  by_cases hlt : k < n
  ·obtain ⟨w4, hrun, hR4, C4, hs4⟩ := run_copy_same 24 3 Tryz.underlying24 (hR.ext (Ext.refl wr).drew) (b := w1.heap.size) (so := 0) (s := k) (fun j hj => by rw [Nat.zero_add]; exact (hR.2.2.2 j hj).ext (Ext.refl wr).drew) (d := n - k) (dc := n - k) (sc := n) rfl
   obtain ⟨r, hr⟩ : ∃ r, r = Nat.min k (n - k) := ⟨_, rfl⟩
   have hr0 : 0 < r := by rw [hr]; exact Nat.lt_min.2 ⟨hk0, by omega⟩
   have hrn : r ≤ n - k := by rw [hr]; exact Nat.min_le_right _ _
   rw [← hr] at hrun hR4
   have hw1 : IntKind.i64.wrap ((k : Int) + (r : Int)) = (k : Int) + (r : Int) := IntWalk.i64_in _ (by omega)
   have hE4 := C4.ext hE.drew (Nat.le_refl _)
   clear hr C4 hR
   go_upto_region 9 with (fail)
   have eC := (Ext.refl wr).drew
   refine region_late (fun w' => True) [] (by kernel_rfl) (by exact trivial) (fun hHeld => ?_)
   refine sP 0 (h := ?_)
   try simp only [nr]
   refine sP 1 (h := ?_)
   try simp only [nr]
   refine sP 2 (h := ?_)
   try simp only [nr]
   refine sP 3 (h := ?_)
   try simp only [nr]
   refine sP 4 (h := ?_)
   try simp only [nr]
   refine sP 5 (h := ?_)
   try simp only [nr]
   refine sP 6 (h := ?_)
   try simp only [nr]
   refine stepL_only (i := 7) rfl (by kernel_rfl) (fun K hK => ?_)
   refine step_copy_eq rfl _ _ _ _ rfl (.slice (some ⟨w1.heap.size, k * 4, none⟩) (n - k) (n - k)) (.slice (some ⟨w1.heap.size, 0, none⟩) k n) (by have h9 : ¬ n = k := (by omega); simp [Act.eval, h9]) (by simp [Act.eval]) (by exact hrun) ?_
   replace eC := Ext.refl w4
   clear hHeld
   refine hK.out _ _ (by exact trivial) fun hHeld => ?_
   clear hK K
   try simp only [nr]
   refine sP 8 (h := ?_)
   try simp only [nr]
   refine sP 9 (h := ?_)
   try simp only [nr]
   refine stepL_done (by kernel_rfl) ?_ _
   clear hHeld
   have hk9 : (k : Int) + (r : Int) = ((k + r : Nat) : Int) := by omega
   go_wp2
   go_roundw
   case rel => exact ⟨k + r, by omega, by omega, by rw [hk9], hE4, by have := hE.size; rw [hs4]; exact hs, hR4⟩
   case measure => simp [intOf]; omega
  ·obtain rfl : n = k := by omega
   go_wp2
   go_ret
   exact ⟨_, rfl, Nat.le_refl _, hs, hR, hE⟩
end Go.Proofs.YtghpfnhmlpfgcaaGreat
namespace Go.Proofs.YtghpfnhmlpfgcaaGreat
def av (n : Nat) (A : Nat → Nat → Rat) (x : Nat → Rat) (i : Nat) : Rat := sum n (fun c => A i c * x c)
def obj (m : Nat) (P v : Nat → Rat) : Rat := sum m (fun i => P i * (v i * v i))
def nm (m : Nat) (A : Nat → Nat → Rat) (P : Nat → Rat) (a b : Nat) : Rat := sum m (fun k => A k a * (P k * A k b))
def nb (m : Nat) (A : Nat → Nat → Rat) (P L : Nat → Rat) (a : Nat) : Rat := sum m (fun k => A k a * (P k * L k))
theorem nm_symm (m : Nat) (A : Nat → Nat → Rat) (P : Nat → Rat) (a b : Nat) : nm m A P a b = nm m A P b a := sum_congr fun k _ => by grind
theorem nm_av (m n : Nat) (A : Nat → Nat → Rat) (P y : Nat → Rat) (a : Nat) : sum n (fun b => nm m A P a b * y b) = sum m (fun k => A k a * (P k * av n A y k)) := by
 unfold nm av
 have e : ∀ b, sum m (fun k => A k a * (P k * A k b)) * y b = sum m (fun k => A k a * (P k * (A k b * y b))) := by
  intro b; rw [← sum_mul_right]; exact sum_congr fun k _ => by grind
 rw [sum_congr (fun b _ => e b), sum_comm]
 refine sum_congr fun k _ => ?_
 rw [sum_mul n (A k a), sum_mul n (P k)]
theorem dual_av (m n : Nat) (A : Nat → Nat → Rat) (y g : Nat → Rat) : sum n (fun a => y a * sum m (fun k => A k a * g k)) = sum m (fun k => av n A y k * g k) := by
 unfold av
 have e : ∀ a, y a * sum m (fun k => A k a * g k) = sum m (fun k => (A k a * y a) * g k) := by
  intro a; rw [← sum_mul]; exact sum_congr fun k _ => by grind
 rw [sum_congr (fun a _ => e a), sum_comm]
 exact sum_congr fun k _ => sum_mul_right _ _ _
theorem sq_nonneg (a : Rat) : 0 ≤ a * a := by
 rcases Rat.le_total (a := 0) (b := a) with h | h
 ·exact Rat.mul_nonneg h h
 ·have h1 : 0 ≤ -a := by grind
  have h2 := Rat.mul_nonneg h1 h1
  have e : -a * -a = a * a := by grind
  rwa [e] at h2
theorem sq_zero {a : Rat} (h : a * a = 0) : a = 0 := by grind
theorem obj_zero {m : Nat} {P v : Nat → Rat} (hP : ∀ i, i < m → 0 < P i) (h : obj m P v = 0) : ∀ i, i < m → v i = 0 := by
 intro i hi
 have h1 := sum_pos_zero (fun k hk => Rat.mul_nonneg (by have := hP k hk; grind) (sq_nonneg (v k))) h i hi
 have h2 := hP i hi
 refine sq_zero ?_
 grind
theorem normal_zero {m n : Nat} {A : Nat → Nat → Rat} {P y : Nat → Rat} (hP : ∀ i, i < m → 0 < P i) (h : ∀ a, a < n → sum n (fun b => nm m A P a b * y b) = 0) : ∀ i, i < m → av n A y i = 0 := by
 refine obj_zero hP ?_
 have h1 := dual_av m n A y (fun k => P k * av n A y k)
 rw [sum_eq_zero (fun a ha => by rw [← nm_av, h a ha]; grind)] at h1
 unfold obj
 rw [h1]
 exact sum_congr fun k _ => by grind
theorem normal_sound {m n : Nat} {A : Nat → Nat → Rat} {P L y : Nat → Rat} (hP : ∀ i, i < m → 0 < P i) (h : ∀ c, c < n → sum n (fun i => y i * nm m A P i c) = 0) : sum n (fun i => y i * nb m A P L i) = 0 := by
 have h1 := normal_zero (A := A) (y := y) hP (fun a ha => by
  rw [← h a ha]; exact sum_congr fun b _ => by rw [nm_symm]; grind)
 have h2 := dual_av m n A y (fun k => P k * L k)
 unfold nb
 rw [h2]
 exact sum_eq_zero fun k hk => by rw [h1 k hk]; grind
def Nsol (m n : Nat) (A : Nat → Nat → Rat) (P L x : Nat → Rat) : Prop := ∀ a, a < n → sum n (fun b => nm m A P a b * x b) = nb m A P L a
def Orth (m n : Nat) (A : Nat → Nat → Rat) (P v : Nat → Rat) : Prop := ∀ a, a < n → sum m (fun k => A k a * (P k * v k)) = 0
theorem nsol_orth {m n : Nat} {A : Nat → Nat → Rat} {P L x : Nat → Rat} : Nsol m n A P L x ↔ Orth m n A P (fun k => av n A x k - L k) := by
 have e : ∀ a, sum m (fun k => A k a * (P k * (av n A x k - L k))) = sum n (fun b => nm m A P a b * x b) - nb m A P L a := by
  intro a
  rw [nm_av]; unfold nb; rw [← sum_sub]
  exact sum_congr fun k _ => by grind
 constructor
 ·intro h a ha; rw [e, h a ha]; grind
 ·intro h a ha; have := h a ha; rw [e] at this; grind
theorem av_sub (n : Nat) (A : Nat → Nat → Rat) (x y : Nat → Rat) (i : Nat) : av n A (fun c => x c - y c) i = av n A x i - av n A y i := by
 unfold av; rw [← sum_sub]; exact sum_congr fun c _ => by grind
theorem fit_unique {m n : Nat} {A : Nat → Nat → Rat} {P L x y : Nat → Rat} (hP : ∀ i, i < m → 0 < P i) (h : Nsol m n A P L x) (h' : Nsol m n A P L y) : ∀ i, i < m → av n A x i = av n A y i := by
 intro i hi
 have h1 := normal_zero (A := A) (y := fun c => x c - y c) hP (fun a ha => by
  have e : ∀ b, nm m A P a b * (x b - y b) = nm m A P a b * x b - nm m A P a b * y b := fun b => by grind
  rw [sum_congr (fun b _ => e b), sum_sub, h a ha, h' a ha]; grind) i hi
 rw [av_sub] at h1
 grind
def bas (A : Nat → Nat → Rat) (p : List Nat) (i s : Nat) : Rat := A i (p[s]?.getD 0)
theorem bas_reg {m n : Nat} {A M : Nat → Nat → Rat} {P : Nat → Rat} {p : List Nat} (h : Rref m n A M p) (hP : ∀ i, i < m → 0 < P i) : Reg p.length (nm m (bas A p) P) := by
 intro x hx
 exact cols_free h (normal_zero (A := bas A p) hP hx)
def fits (r : Nat) (B X : Nat → Nat → Rat) (i j : Nat) : Rat := sum r (fun s => B i s * sum r (fun t => X s t * B j t))
def coef (m r : Nat) (B X : Nat → Nat → Rat) (P L : Nat → Rat) (s : Nat) : Rat := sum r (fun t => X s t * nb m B P L t)
theorem fits_av (m r : Nat) (B X : Nat → Nat → Rat) (P L : Nat → Rat) (i : Nat) : sum m (fun j => fits r B X i j * P j * L j) = av r B (coef m r B X P L) i := by
 unfold fits av coef nb
 have e : ∀ j, sum r (fun s => B i s * sum r (fun t => X s t * B j t)) * P j * L j = sum r (fun s => B i s * sum r (fun t => X s t * (B j t * (P j * L j)))) := by
  intro j
  have e1 : ∀ s, B i s * sum r (fun t => X s t * (B j t * (P j * L j))) = B i s * sum r (fun t => X s t * B j t) * (P j * L j) := by
   intro s
   have : sum r (fun t => X s t * (B j t * (P j * L j))) = sum r (fun t => X s t * B j t) * (P j * L j) := by
    rw [← sum_mul_right]; exact sum_congr fun t _ => by grind
   rw [this]; grind
  rw [sum_congr (fun s _ => e1 s), sum_mul_right]; grind
 rw [sum_congr (fun j _ => e j), sum_comm]
 refine sum_congr fun s _ => ?_
 rw [sum_mul, sum_comm]
 congr 1
 exact sum_congr fun t _ => sum_mul _ _ _
theorem coef_nsol {m r : Nat} {B X : Nat → Nat → Rat} {P L : Nat → Rat} (hX : ∀ i, i < r → ∀ c, c < r → mm r (nm m B P) X i c = dlt i c) : Nsol m r B P L (coef m r B X P L) := by
 intro a ha
 unfold coef
 have e : ∀ b, nm m B P a b * sum r (fun t => X b t * nb m B P L t) = sum r (fun t => (nm m B P a b * X b t) * nb m B P L t) := by
  intro b; rw [← sum_mul]; exact sum_congr fun t _ => by grind
 rw [sum_congr (fun b _ => e b), sum_comm]
 rw [sum_congr (g := fun t => dlt a t * nb m B P L t) (fun t ht => by rw [sum_mul_right, ← hX a ha t ht]; rfl)]
 exact sum_dlt ha _
def spread (p : List Nat) (z : Nat → Rat) (c : Nat) : Rat := sum p.length (fun s => dlt (p[s]?.getD 0) c * z s)
theorem av_spread {m n : Nat} {A M : Nat → Nat → Rat} {p : List Nat} (h : Rref m n A M p) (z : Nat → Rat) (i : Nat) : av n A (spread p z) i = av p.length (bas A p) z i := by
 unfold av spread
 have e : ∀ c, A i c * sum p.length (fun s => dlt (p[s]?.getD 0) c * z s) = sum p.length (fun s => dlt (p[s]?.getD 0) c * (A i c * z s)) := by
  intro c; rw [← sum_mul]; exact sum_congr fun s _ => by grind
 rw [sum_congr (fun c _ => e c), sum_comm]
 exact sum_congr fun s hs => sum_dlt (h.low s hs) (fun c => A i c * z s)
theorem orth_bas {m n : Nat} {A M : Nat → Nat → Rat} {P v : Nat → Rat} {p : List Nat} (h : Rref m n A M p) (ho : Orth m p.length (bas A p) P v) : Orth m n A P v := by
 intro a ha
 have e : ∀ k, k < m → A k a * (P k * v k) = sum p.length (fun s => M s a * (bas A p k s * (P k * v k))) := by
  intro k hk
  rw [cols_span h hk ha, ← sum_mul_right]
  exact sum_congr fun s _ => by unfold bas; grind
 rw [sum_congr e, sum_comm]
 refine sum_eq_zero fun s hs => ?_
 rw [sum_mul, ho s hs]; grind
theorem fits_fit {m n : Nat} {A M X : Nat → Nat → Rat} {P L x : Nat → Rat} {p : List Nat} (h : Rref m n A M p) (hP : ∀ i, i < m → 0 < P i)
  (hX : ∀ i, i < p.length → ∀ c, c < p.length → mm p.length (nm m (bas A p) P) X i c = dlt i c) (hx : Nsol m n A P L x) :
  ∀ i, i < m → sum m (fun j => fits p.length (bas A p) X i j * P j * L j) = av n A x i := by
 intro i hi
 rw [fits_av, ← av_spread h]
 refine fit_unique hP ?_ hx i hi
 rw [nsol_orth]
 refine orth_bas h ?_
 have h1 := nsol_orth.1 (coef_nsol (L := L) hX)
 intro a ha
 rw [← h1 a ha]
 exact sum_congr fun k _ => by simp only [av_spread h]
end Go.Proofs.YtghpfnhmlpfgcaaGreat
namespace Go.Proofs.YtghpfnhmlpfgcaaGreat
theorem inv_symm {r : Nat} {K X : Nat → Nat → Rat} (hK : ∀ i j, K i j = K j i) (h1 : ∀ i, i < r → ∀ c, c < r → mm r K X i c = dlt i c) (h2 : ∀ i, i < r → ∀ c, c < r → mm r X K i c = dlt i c) : ∀ i, i < r → ∀ j, j < r → X i j = X j i := by
 intro i hi j hj
 have a1 : mm r (mm r X K) (fun a b => X b a) i j = X j i := by
  rw [mm_congr (a' := dlt) (b' := fun a b => X b a) (fun k hk => h2 i hi k hk) (fun _ _ => rfl), one_mm _ hi]
 have a2 : mm r (mm r X K) (fun a b => X b a) i j = X i j := by
  rw [mm_assoc, mm_congr (a' := X) (b' := dlt) (fun _ _ => rfl) (fun k hk => ?_), mm_one _ hj]
  have := h2 j hj k hk
  have hd : dlt k j = dlt j k := by
   by_cases h : k = j
   ·rw [h]
   ·rw [dlt_ne h, dlt_ne (fun e => h e.symm)]
  rw [hd, ← this]
  exact sum_congr fun l _ => by rw [hK k l]; grind
 rw [← a1, a2]
theorem fits_symm {r : Nat} {B X : Nat → Nat → Rat} (hX : ∀ i, i < r → ∀ j, j < r → X i j = X j i) (i j : Nat) : fits r B X i j = fits r B X j i := by
 unfold fits
 have e1 : ∀ s, B i s * sum r (fun t => X s t * B j t) = sum r (fun t => B i s * (X s t * B j t)) := fun s => (sum_mul _ _ _).symm
 have e2 : ∀ s, B j s * sum r (fun t => X s t * B i t) = sum r (fun t => B j s * (X s t * B i t)) := fun s => (sum_mul _ _ _).symm
 rw [sum_congr (fun s _ => e1 s), sum_congr (fun s _ => e2 s), sum_comm]
 exact sum_congr fun t ht => sum_congr fun s hs => by rw [hX s hs t ht]; grind
structure Model (m n : Nat) (A M X : Nat → Nat → Rat) (P : Nat → Rat) (p : List Nat) : Prop where
 rr : Rref m n A M p
 pos : ∀ i, i < m → 0 < P i
 kx : ∀ i, i < p.length → ∀ c, c < p.length → mm p.length (nm m (bas A p) P) X i c = dlt i c
 xk : ∀ i, i < p.length → ∀ c, c < p.length → mm p.length X (nm m (bas A p) P) i c = dlt i c
variable {m n : Nat} {A M X : Nat → Nat → Rat} {P : Nat → Rat} {p : List Nat}
def gf (A X : Nat → Nat → Rat) (p : List Nat) (i j : Nat) : Rat := fits p.length (bas A p) X i j
theorem Model.symm (h : Model m n A M X P p) (i j : Nat) : gf A X p i j = gf A X p j i :=
 fits_symm (inv_symm (nm_symm m (bas A p) P) h.kx h.xk) i j
theorem Model.fix (h : Model m n A M X P p) (x : Nat → Rat) : ∀ i, i < m → sum m (fun j => gf A X p i j * P j * av n A x j) = av n A x i := by
 refine fits_fit h.rr h.pos h.kx (x := x) ?_
 rw [nsol_orth]
 intro a _
 exact sum_eq_zero fun k _ => by grind
theorem Model.col (h : Model m n A M X P p) (k : Nat) : ∃ x : Nat → Rat, ∀ i, gf A X p i k = av n A x i := by
 refine ⟨spread p (fun s => sum p.length (fun t => X s t * bas A p k t)), fun i => ?_⟩
 rw [av_spread h.rr]
 rfl
theorem Model.idem (h : Model m n A M X P p) (i k : Nat) (hi : i < m) : sum m (fun j => gf A X p i j * P j * gf A X p j k) = gf A X p i k := by
 obtain ⟨x, hx⟩ := h.col k
 rw [hx i, ← h.fix x i hi]
 exact sum_congr fun j _ => by rw [hx j]
theorem Model.sq (h : Model m n A M X P p) (i : Nat) (hi : i < m) : gf A X p i i = sum m (fun j => P j * (gf A X p i j * gf A X p i j)) := by
 rw [← h.idem i i hi]
 exact sum_congr fun j _ => by rw [h.symm j i]; grind
def hd (A X : Nat → Nat → Rat) (P : Nat → Rat) (p : List Nat) (i : Nat) : Rat := gf A X p i i * P i
theorem sum_ge_one {m i : Nat} {f : Nat → Rat} (hi : i < m) (h : ∀ k, k < m → 0 ≤ f k) : f i ≤ sum m f := by
 have h1 : sum m f = sum m (fun k => if k = i then f i else 0) + sum m (fun k => if k = i then 0 else f k) := by
  rw [← sum_add]
  refine sum_congr fun k _ => ?_
  by_cases hk : k = i
  ·subst hk; simp <;> grind
  ·simp [hk] <;> grind
 have h2 : sum m (fun k => if k = i then f i else 0) = f i := by
  rw [sum_single hi (fun k _ hk => by simp [hk])]; simp
 have h3 : 0 ≤ sum m (fun k => if k = i then 0 else f k) := sum_nonneg fun k hk => by
  by_cases hk' : k = i
  ·simp [hk'] <;> grind
  ·simp [hk']; exact h k hk
 grind
theorem Model.diag (h : Model m n A M X P p) {i : Nat} (hi : i < m) : 0 ≤ hd A X P p i ∧ hd A X P p i ≤ 1 := by
 have h0 : ∀ k, k < m → 0 ≤ P k * (gf A X p i k * gf A X p i k) := fun k hk => Rat.mul_nonneg (by have := h.pos k hk; grind) (sq_nonneg _)
 have h1 := h.sq i hi
 have h2 := sum_ge_one hi h0
 rw [← h1] at h2
 have h3 := sum_nonneg h0
 rw [← h1] at h3
 have hp := h.pos i hi
 unfold hd
 generalize gf A X p i i = g at *
 have h4 : 0 ≤ g * P i := Rat.mul_nonneg h3 (by grind)
 refine ⟨h4, ?_⟩
 have h5 : (g * P i) * (g * P i) ≤ g * P i := by
  have := Rat.mul_le_mul_of_nonneg_right h2 (Rat.le_of_lt hp)
  grind
 rcases Rat.le_total (a := g * P i) (b := 1) with h6 | h6
 ·exact h6
 ·have h7 := Rat.mul_le_mul_of_nonneg_right h6 h4
  rw [Rat.one_mul] at h7
  have h8 := Rat.le_antisymm h5 h7
  have h9 : (g * P i) * (g * P i - 1) = 0 := by grind
  rcases Rat.mul_eq_zero.1 h9 with h10 | h10
  ·rw [h10] at h6; exact absurd h6 (by decide)
  ·grind
theorem sum_const (r : Nat) : sum r (fun _ => 1) = (r : Rat) := by
 induction r with
 | zero => rfl
 | succ r ih => rw [sum_succ, ih]; simp [Rat.natCast_add]
theorem Model.trace (h : Model m n A M X P p) : sum m (fun i => hd A X P p i) = (p.length : Rat) := by
 unfold hd gf fits
 have e : ∀ i, sum p.length (fun s => bas A p i s * sum p.length (fun t => X s t * bas A p i t)) * P i = sum p.length (fun s => sum p.length (fun t => X s t * (bas A p i t * (P i * bas A p i s)))) := by
  intro i
  rw [← sum_mul_right]
  refine sum_congr fun s _ => ?_
  have : sum p.length (fun t => X s t * (bas A p i t * (P i * bas A p i s))) = sum p.length (fun t => X s t * bas A p i t) * (P i * bas A p i s) := by
   rw [← sum_mul_right]; exact sum_congr fun t _ => by grind
  rw [this]; grind
 rw [sum_congr (fun i _ => e i), sum_comm, ← sum_const p.length]
 refine sum_congr fun s hs => ?_
 rw [sum_comm, ← dlt_same s, ← h.xk s hs s hs]
 exact sum_congr fun t _ => sum_mul _ _ _
end Go.Proofs.YtghpfnhmlpfgcaaGreat
