import Derived.Test.YtghpfnhmlpfgcaaGreatWa43
import Derived.Deep.CutBlock
set_option linter.all false
namespace Go.Proofs.YtghpfnhmlpfgcaaGreat
open Go.RowKit
theorem few_bnd {m n : Nat} (hm : m ≤ 6) (hn : n ≤ 4) : ∃ k2 k3, Bnd m n 17 4 k2 k3 ∧ k3 ≤ 1000000 := by
 have h5 : (5 : Nat) ^ 4 = 625 := by decide
 refine ⟨625 * (m * 52 + 2), 4 * (625 * (m * 52 + 2) + 17 + 1) + 1, ⟨hn, by omega, by omega, by rw [h5], by omega, rfl, by omega⟩, by omega⟩
def vvOf (m n : Nat) (X : Nat → Nat → Rat) (y p : Nat → Rat) (i : Nat) : Rat := - y i + sum m (fun j => fitsOf m n X p i j * p j * y j)
theorem vvOf_ht {m n k2 k3 : Nat} {X : Nat → Nat → Rat} {y p : Nat → Rat} (hm : m ≤ 6) (hB : Bnd m n 17 4 k2 k3) (hk : k3 ≤ 1000000) (hkx : HtM m n 17 X) (hky : HtL m 17 y) (hkp : HtL m 17 p) : HtL m 30000000 (vvOf m n X y p) := by
 intro i hi
 have h1 := fitsOf_ht hB hkx hkp
 have h2 : Ht 29000000 (sum m (fun j => fitsOf m n X p i j * p j * y j)) := sum_ht (n := m) (k := 4 * (17 + k3 + 1) + 1 + 17 + 17) (fun j hj => ((h1 i hi j hj).mul (hkp j hj)).mul (hky j hj)) (Nat.le_refl _) (by
  have h3 : m * (4 * (17 + k3 + 1) + 1 + 17 + 17 + 1) ≤ 6 * (4 * (17 + 1000000 + 1) + 1 + 17 + 17 + 1) := Nat.mul_le_mul hm (by omega)
  omega)
 exact ((hky i hi).neg.add h2).mono (by omega)
theorem sol37_ht {m n : Nat} {X : Nat → Nat → Rat} {y p : Nat → Rat} (hm : m ≤ 6) (hn : n ≤ 4) (hkx : HtM m n 17 X) (hky : HtL m 17 y) (hkp : HtL m 17 p) : HtL n 5000000 (sol37 m n X y p) := by
 have h5 : (5 : Nat) ^ 4 = 625 := by decide
 have hk1 : HtM n n 1500 (nrm37 m X p) := fun i hi j hj => by
  refine Ht.mono (mm_ht (ka := m * (17 + 17 + 1) + 1) (kb := 17) (mm_ht (ka := 17) (kb := 17) (fun a ha b hb => hkx b hb a ha) (diagTo_ht hkp (by omega))) hkx i hi j hj) ?_
  have h1 : m * (17 + 17 + 1) + 1 ≤ 211 := by omega
  have h2 : m * (m * (17 + 17 + 1) + 1 + 17 + 1) ≤ 6 * (211 + 17 + 1) := Nat.mul_le_mul hm (by omega)
  omega
 have hk2 : HtL n 1500 (rhs37 m X y p) := fun i hi => by
  rw [rhs37_nb]
  refine Ht.mono (sum_ht (n := m) (k := 17 + (17 + 17)) (K := m * (17 + (17 + 17) + 1) + 1) (fun t ht => (hkx t ht i hi).mul ((hkp t ht).mul (hky t ht))) (Nat.le_refl _) (Nat.le_refl _)) (by omega)
 have hk3 : HtM n (n + 1) 1500 (aug n (nrm37 m X p) (rhs37 m X y p)) := fun i hi c hc => by
  unfold aug
  split
  ·exact hk1 i hi c ‹_›
  ·exact hk2 i hi
 have hk4 : HtM n (n + 1) 937500 (rref n (aug n (nrm37 m X p) (rhs37 m X y p)) (n + 1)).1 := (rref_ht' (p := 4) hk3 (j := n + 1) (Nat.le_refl _) (.inl hn)).mono (by rw [h5]; omega)
 have hlen := (rref_len n (aug n (nrm37 m X p) (rhs37 m X y p)) (n + 1)).1
 intro c hc
 unfold sol37 sol red37
 refine Ht.mono (sum_ht (n := (rref n (aug n (nrm37 m X p) (rhs37 m X y p)) (n + 1)).2.length) (k := 937501) (K := 4000000) (fun s hs => Ht.mono (Ht.mul (k := 1) ?_ (hk4 s (by omega) n (by omega))) (by omega)) (Nat.le_refl _) ?_) (by omega)
 ·unfold dlt; split
  ·exact Ht.one
  ·exact Ht.zero
 ·have h2 : (rref n (aug n (nrm37 m X p) (rhs37 m X y p)) (n + 1)).2.length * (937501 + 1) ≤ 4 * (937501 + 1) := Nat.mul_le_mul_right _ (Nat.le_trans hlen hn)
  exact Nat.le_trans (Nat.succ_le_succ h2) (by decide)
set_option maxRecDepth 100000 in
set_option maxHeartbeats 4000000 in
theorem res_out {N lo hi lo' hi' : Nat} {w : World} {v u : Value} {Z : Lin} {n : Nat} {R : Nat → Raw} (h : LinV N lo hi w v Z) (hx : LsR N lo' hi' w u n R) (hs : fewB Z = false ∨ (fewB Z = true ∧ shortB n R = false)) :
  Calls Tryz.prog 3 #[v, u] w (RetV w (.bool true)) := by
 have hI := h
 obtain ⟨A1, c1, A2, c2, A3, c3, rfl, -⟩ := h.parts
 obtain ⟨A4, c4, rfl, -⟩ := hx.form
 have hX := hx
 rcases hs with hs | ⟨hs, hs'⟩
 ·have HS := Lib.hid hs
  clear h hx hs
  go_enter Tryz.func3, Tryz.ntmps3
  go_wp2_with (go_at_call 9; refine Hid.out ?_)
  refine boxesC1 ?_
  intro W hE hsz B0
  refine (l37_known W).mono ?_
  rintro e w1 ⟨rfl, e1⟩
  replace hE := hE.trans e1
  replace B0 := e1.block B0
  have hs1 := e1.size
  replace hsz : w.heap.size < w1.heap.size := by omega
  clear e1 hs1
  obtain ⟨a0, a1, a2, -⟩ := cells3 B0
  go_wp2_with (go_at_call 10; refine Hid.out ?_)
  refine (l37_few (hI.ext hE)).mono ?_
  rintro e w2 ⟨rfl, e2⟩
  rw [HS.out]
  replace hE := hE.trans e2
  replace B0 := e2.block B0
  have hs2 := e2.size
  replace hsz : w.heap.size < w2.heap.size := by omega
  clear a0 a1 a2 e2 hs2
  obtain ⟨a0, a1, a2, -⟩ := cells3 B0
  go_wp2
  go_ret
  exact ⟨rfl, hE⟩
 ·have HS := Lib.hid hs
  have HS' := Lib.hid hs'
  clear h hx hs hs'
  go_enter Tryz.func3, Tryz.ntmps3
  go_wp2_with (go_at_call 9; refine Hid.out ?_)
  refine boxesC1 ?_
  intro W hE hsz B0
  refine (l37_known W).mono ?_
  rintro e w1 ⟨rfl, e1⟩
  replace hE := hE.trans e1
  replace B0 := e1.block B0
  have hs1 := e1.size
  replace hsz : w.heap.size < w1.heap.size := by omega
  clear e1 hs1
  obtain ⟨a0, a1, a2, -⟩ := cells3 B0
  go_wp2_with (go_at_call 10; refine Hid.out ?_)
  refine (l37_few (hI.ext hE)).mono ?_
  rintro e w2 ⟨rfl, e2⟩
  rw [HS.out]
  replace hE := hE.trans e2
  replace B0 := e2.block B0
  have hs2 := e2.size
  replace hsz : w.heap.size < w2.heap.size := by omega
  clear a0 a1 a2 e2 hs2
  obtain ⟨a0, a1, a2, -⟩ := cells3 B0
  go_wp2_with (go_at_call 11; refine Hid.out ?_)
  refine (l37_short (hX.ext hE)).mono ?_
  rintro e w3 ⟨rfl, e3⟩
  rw [HS'.out]
  go_wp2
  go_ret
  exact ⟨rfl, hE.trans e3⟩
set_option maxRecDepth 100000 in
set_option maxHeartbeats 4000000 in
theorem res_bad {N lo hi lo' hi' : Nat} {w : World} {v u : Value} {Z : Lin} {n : Nat} {R : Nat → Raw} (h : LinV N lo hi w v Z) (hx : LsR N lo' hi' w u n R) (hs : fewB Z = true) (hs' : shortB n R = true) (hc : codeOf Z ≠ 0) :
  Calls Tryz.prog 3 #[v, u] w (RetV w (.bool true)) := by
 have hI := h
 obtain ⟨A1, c1, A2, c2, A3, c3, rfl, -⟩ := h.parts
 obtain ⟨A4, c4, rfl, -⟩ := hx.form
 have hX := hx
 obtain ⟨f1, f2, f3⟩ := few_sz hs
 have HS := Lib.hid hs
 have HS' := Lib.hid hs'
 have HC := Lib.hid hc
 have HF2 := Lib.hid f2
 have HF3 := Lib.hid f3
 have HF1 := Lib.hid f1
 obtain ⟨r, hr⟩ := hid_eq (codeOf Z)
 have hr0 : (r == 0) = false := by rw [hr.out]; simpa using hc
 have hr1 : (r != 0) = true := by simpa using hr0
 have hr2 : (r == r) = true := by simp
 clear h hx hs hs' hc f1 f2 f3
 go_enter Tryz.func3, Tryz.ntmps3
 go_wp2_with (go_at_call 9; refine Hid.out ?_)
 refine boxesC1 ?_
 intro W hE hsz B0
 refine (l37_known W).mono ?_
 rintro e w1 ⟨rfl, e1⟩
 replace hE := hE.trans e1
 replace B0 := e1.block B0
 have hs1 := e1.size
 replace hsz : w.heap.size < w1.heap.size := by omega
 clear e1 hs1
 obtain ⟨a0, a1, a2, -⟩ := cells3 B0
 go_wp2_with (go_at_call 10; refine Hid.out ?_)
 refine (l37_few (hI.ext hE)).mono ?_
 rintro e w2 ⟨rfl, e2⟩
 rw [HS.out]
 replace hE := hE.trans e2
 replace B0 := e2.block B0
 have hs2 := e2.size
 replace hsz : w.heap.size < w2.heap.size := by omega
 clear a0 a1 a2 e2 hs2
 obtain ⟨a0, a1, a2, -⟩ := cells3 B0
 go_wp2_with (go_at_call 11; refine Hid.out ?_)
 refine (l37_short (hX.ext hE)).mono ?_
 rintro e w3 ⟨rfl, e3⟩
 rw [HS'.out]
 replace hE := hE.trans e3
 replace B0 := e3.block B0
 replace hsz := blk_lt B0
 clear a0 a1 a2
 obtain ⟨a0, a1, a2, -⟩ := cells3 B0
 go_wp2_with (go_at_call 12; refine Hid.out ?_)
 refine (rl_Residuals_bad (hI.ext hE) HF2.out HF3.out HC.out).mono ?_
 rintro e w4 ⟨rfl, e4⟩
 rw [← hr.out]
 replace hE := hE.trans e4
 replace B0 := e4.block B0
 replace hsz := blk_lt B0
 clear a0 a1 a2
 obtain ⟨a0, a1, a2, -⟩ := cells3 B0
 go_wp2_with (go_at_call 13; refine Hid.out ?_)
 refine (rl_Factor_bad (hI.ext hE) HF2.out HF3.out HC.out).mono ?_
 rintro e w5 ⟨rfl, e5⟩
 rw [← hr.out]
 unfold nilRat
 replace hE := hE.trans e5
 replace B0 := e5.block B0
 replace hsz := blk_lt B0
 clear a0 a1 a2
 obtain ⟨a0, a1, a2, -⟩ := cells3 B0
 go_wp2_with (go_at_call 14; refine Hid.out ?_)
 refine boxesC1 ?_
 intro w6 e6 hsz6 B6
 replace hE := hE.trans e6
 refine (l37_code (hI.ext hE) HF2.out HF3.out HF1.out).mono ?_
 rintro e w7 ⟨rfl, e7⟩
 rw [← hr.out]
 replace hE := hE.trans e7
 replace B6 := e7.block B6
 clear a0 a1 a2
 obtain ⟨a0, a1, a2, a3, -⟩ := cells4 B6
 go_wp2_with (go_at_call 15; refine Hid.out ?_)
 refine r2_zero.mono ?_
 rintro e w8 ⟨rfl, e8⟩
 go_wp2
 go_ret
 exact ⟨rfl, hE.trans e8⟩
end Go.Proofs.YtghpfnhmlpfgcaaGreat
