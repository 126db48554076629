/-
  Proved here: the statement SnoopSnoops of fiduciallaw38 returns true for every input and leaves its arguments as they were. No condition.
-/
import Derived.Test.YthkkknjcoidioaaGreatRows
import Derived.Test.YthkkknjcoidioaaGreatWsg03
import Derived.ShutString
import Derived.ChangeOld
set_option linter.all false
set_option maxHeartbeats 8000000
namespace Go.Proofs.YthkkknjcoidioaaGreat
open Go.ChangeShapes Go.WideShapes Go.ChangeAt Go.RowKit Go.Joins
theorem l38_snoops {N lo hi : Nat} {w : World} {v u : Value} {Z : Lin} {R : Raw} (h : LinV N lo hi w v Z) (hx : RawV N w u R) (hsx : RawL R) :
  Calls Tryz.prog 4 #[v, u] w (RetV w (.bool true)) := by
 cases hf : few34 7 4 Z with
 | false => exact snoops_bad h hx hsx (.inl hf)
 | true =>
  rcases Nat.lt_or_ge 6 (dgn R) with hd | hd
  ·exact snoops_bad h hx hsx (.inr ⟨hf, .inl hd⟩)
  by_cases hc : code38 Z 1 (fun _ => R) = 0
  ·have g := code38_zero hf hc;have hok : okR R = true := allB_true.1 g.ok 0 (by omega)
   have hxr : RatV N w u (ratOf R) := by
    show RawV N w u (raw (ratOf R))
    rw [← raw_ratOf hok]; exact hx
   have hI := h;obtain ⟨A1, c1, A2, c2, A3, c3, rfl, h1, h2, h3, -⟩ := h.parts;obtain ⟨k1, k2, k3⟩ := g.few.mem h1 h2 h3;have e1 := g.few.nl;have e2 := g.few.np;rw [e1, e2] at hI ⊢;exact snoops_good hI hf hc k1 k2 k3 hx hxr hsx hd (dgn_ht hok hd) g.few.md g.reg
  ·exact snoops_bad h hx hsx (.inr ⟨hf, .inr ⟨hd, hc⟩⟩)
set_option maxRecDepth 100000 in
theorem lifted_sa (os : Os) (started : os.Started) (H : Type) (enc : TypeId × Value → H) :
  ReturnsInHanded {} Tryz.checked os 4 .any (Rows.snoopSnoopsSpec.pre6 enc Tryz.prog Tryz.f4 Rows.snoopSnoopsRow.domain false) (Rows.snoopSnoopsSpec.post enc Tryz.prog Tryz.f4 false true false false) := by
 refine returnsInHanded_of_change_sized (C := Tryz.checked) own started (by kernel_rfl) Tryz.func4
  (ChangeSpec.witness6 (enc := enc) (C := Tryz.checked) false ⟨#[], #[.agg #[.slice none 0 0, .slice none 0 0, .slice none 0 0], .agg #[.bool false, .slice none 0 0, .bool false, .slice none 0 0]], []⟩ 8 (by kernel_rfl) (by kernel_rfl) (by kernel_rfl) (by kernel_rfl)) ?_
 intro W base args ds gs before hval0 hW hcnd hsz0 _;have hval : ∀ (j : Nat) t v, Tryz.f4.params[j]? = some t → args[j]? = some v → Value.okWide Tryz.prog W .any base t v := hval0;have hsz : (DataW.weightsEach Tryz.prog (Tryz.f4.params.toList ++ Rows.snoopSnoopsSpec.plain.varTypes Tryz.prog) (ds ++ gs)).all (· ≤ reachBytes) = true := hsz0;have hW' := hW;obtain ⟨p, q, hA0, hV, rfl, hfz, hnd⟩ := hW;have hA : DataW.TrodAll enc Tryz.prog W 0 (fun _ => true) true Tryz.f4.params.toList args.toList ds p := hA0;rw [Tryz.params4] at hA hval hsz;obtain ⟨v0, vs0, d0, ds0, p0, q0, hargs, rfl, rfl, h0, r0⟩ := trodAll_cons hA;obtain ⟨v1, vs1, d1, ds1, p1, q1, rfl, rfl, rfl, h1, r1⟩ := trodAll_cons r0;obtain ⟨rfl, rfl, rfl⟩ := trodAll_nil r1;obtain rfl : args = #[v0, v1] := by cases args; simp_all
 obtain ⟨rfl, rfl⟩ := trodVars_none hV;have k0 := h0;have k1 := h1;have lt0 : ∀ x ∈ p0, x.block < W.heap.size := by obtain ⟨m, hm⟩ := k0; exact DataW.trod_lt m _ _ _ hm
 have lt1 : ∀ x ∈ p1, x.block < W.heap.size := by obtain ⟨m, hm⟩ := k1; exact DataW.trod_lt m _ _ _ hm
 obtain ⟨c0, c1, c2, y0, y1, y2, n0, rfl, -, -, t0, t1, t2⟩ := open_agg3 Tryz.underlying26 (by kernel_rfl) cells_lin (hval 0 26 v0 rfl rfl) h0
 obtain ⟨R, xr, sr⟩ := open_rat (hval 1 36 v1 rfl rfl) h1 (fun k hk => by
  have h9 := List.all_eq_true.1 hsz k (DataW.weights_mem_each (j := 1) (by rfl) (by rfl) k hk)
  simpa using h9)
 obtain ⟨mz, Lz, Az, x0⟩ := mt_of_trod t0;obtain ⟨nl, lz, x1⟩ := ls_of_trod t1;obtain ⟨np, pz, x2⟩ := ls_of_trod t2;clear hA0 hval0;refine (l38_snoops (Z := ⟨mz, Lz, Az, nl, lz, np, pz⟩) ⟨_, _, _, rfl, x0, x1, x2⟩ xr sr).mono fun e W' hh => ?_
 obtain ⟨rfl, bel⟩ := hh;exact ⟨_, rfl, _, _, _, [], _, [], hW', trodAll_mk1 (shut_bool Tryz.underlying4 _), (trodAll_cons_mk (Below.trod laidOut (by kernel_rfl) (of_decide_eq_true (by kernel_rfl)) k0 bel lt0) (trodAll_cons_mk (Below.trod laidOut (by kernel_rfl) (of_decide_eq_true (by kernel_rfl)) k1 bel lt1) trodAll_mk0)), rfl, bel.below.frame _, fun h => by cases h⟩
theorem over_sa : Rows.snoopSnoopsRow.holds Tryz.pinned (OpenSpec.ofChange Rows.snoopSnoopsSpec) :=
 OpenClaim.holds_of_wide 4 Tryz.f4 rfl rfl rfl rfl rfl rfl rfl ⟨rfl, rfl, rfl, rfl, rfl⟩ rfl rfl rfl rfl rfl (by kernel_rfl) Tryz.func4 (by kernel_rfl)
  (of_decide_eq_true (by kernel_rfl)) (by unfold Func.isWrapper; first | (rw [if_pos (by decide +kernel)]; kernel_rfl) | (rw [if_neg (by decide +kernel)]; exact ⟨rfl, rfl⟩))
  (fun os started H enc _ => lifted_sa os started H enc)
theorem snoops_proved : Rows.SnoopSnoopsSaid := over_sa
#print axioms snoops_proved
end Go.Proofs.YthkkknjcoidioaaGreat
