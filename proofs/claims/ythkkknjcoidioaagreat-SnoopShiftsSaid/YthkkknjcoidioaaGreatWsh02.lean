/-
  Proved here: the statement SnoopShifts of fiduciallaw38 returns true for every input and leaves its arguments as they were. No condition.
-/
import Derived.Test.YthkkknjcoidioaaGreatRows
import Derived.Test.YthkkknjcoidioaaGreatWsh01
import Derived.ShutString
import Derived.ChangeOld
set_option linter.all false
set_option maxHeartbeats 8000000
namespace Go.Proofs.YthkkknjcoidioaaGreat
open Go.ChangeShapes Go.WideShapes Go.ChangeAt Go.RowKit Go.Joins
theorem l38_shifts {N lo hi : Nat} {w : World} {v : Value} {Z : Lin} (h : LinV N lo hi w v Z) (z : Int) :
  Calls Tryz.prog 9 #[v, .int .i64 z] w (RetV w (.bool true)) := by
 cases hf : few34 7 4 Z with
 | false => exact shifts_out h z (.inl hf)
 | true =>
  by_cases hc : code38 Z 0 (fun _ => raw 0) = 0
  ·have g := code38_zero hf hc;have hI := h;obtain ⟨A1, c1, A2, c2, A3, c3, rfl, h1, h2, h3, -⟩ := h.parts;obtain ⟨k1, k2, k3⟩ := g.few.mem h1 h2 h3;have e1 := g.few.nl;have e2 := g.few.np;rw [e1, e2] at hI ⊢;cases hb : inB Z.m z with
   | false => exact shifts_bad hI rfl hf hc k1 k2 k3 g.few.md g.reg z (.inl hb)
   | true =>
    obtain ⟨i, hi⟩ : ∃ i, i = z.toNat := ⟨_, rfl⟩
    have hz := (inB_true hb).1;have hm := (inB_true hb).2;rw [← hi] at hz hm
    by_cases h0 : rS Z.m (Z.L 0) (fun i j => ratOf (Z.A i j)) (fun i => ratOf (Z.p i)) i = 0
    ·exact shifts_bad hI rfl hf hc k1 k2 k3 g.few.md g.reg z (.inr ⟨hb, by rw [← hi]; exact h0⟩)
    ·clear hi;subst hz;exact shifts_good hI rfl hf hc k1 k2 k3 g.few.md g.few.hX g.few.hy g.few.hp g.reg hm hb h0
  ·exact shifts_out h z (.inr ⟨hf, hc⟩)
set_option maxRecDepth 100000 in
theorem lifted_sa (os : Os) (started : os.Started) (H : Type) (enc : TypeId × Value → H) :
  ReturnsInHanded {} Tryz.checked os 9 .any (Rows.snoopShiftsSpec.pre6 enc Tryz.prog Tryz.f9 Rows.snoopShiftsRow.domain false) (Rows.snoopShiftsSpec.post enc Tryz.prog Tryz.f9 false true false false) := by
 refine returnsInHanded_of_change (C := Tryz.checked) own started (by kernel_rfl) Tryz.func9
  (ChangeSpec.witness6 (enc := enc) (C := Tryz.checked) false ⟨#[], #[.agg #[.slice none 0 0, .slice none 0 0, .slice none 0 0], .int .i64 0], []⟩ 8 (by kernel_rfl) (by kernel_rfl) (by kernel_rfl) (by kernel_rfl)) ?_
 intro W base args ds gs before hval0 hW hcnd _;have hval : ∀ (j : Nat) t v, Tryz.f9.params[j]? = some t → args[j]? = some v → Value.okWide Tryz.prog W .any base t v := hval0;have hW' := hW;obtain ⟨p, q, hA0, hV, rfl, hfz, hnd⟩ := hW;have hA : DataW.TrodAll enc Tryz.prog W 0 (fun _ => true) true Tryz.f9.params.toList args.toList ds p := hA0;rw [Tryz.params9] at hA hval;obtain ⟨v0, vs0, d0, ds0, p0, q0, hargs, rfl, rfl, h0, r0⟩ := trodAll_cons hA;obtain ⟨v1, vs1, d1, ds1, p1, q1, rfl, rfl, rfl, h1, r1⟩ := trodAll_cons r0;obtain ⟨rfl, rfl, rfl⟩ := trodAll_nil r1;obtain rfl : args = #[v0, v1] := by cases args; simp_all
 obtain ⟨rfl, rfl⟩ := trodVars_none hV;have k0 := h0;have lt0 : ∀ x ∈ p0, x.block < W.heap.size := by obtain ⟨m, hm⟩ := k0; exact DataW.trod_lt m _ _ _ hm
 obtain ⟨c0, c1, c2, y0, y1, y2, n0, rfl, -, -, t0, t1, t2⟩ := open_agg3 Tryz.underlying26 (by kernel_rfl) cells_lin (hval 0 26 v0 rfl rfl) h0;obtain ⟨z, rfl, rfl, rfl, wz⟩ := open_int Tryz.underlying3 (hval 1 3 v1 rfl rfl) h1;obtain ⟨mz, Lz, Az, x0⟩ := mt_of_trod t0;obtain ⟨nl, lz, x1⟩ := ls_of_trod t1;obtain ⟨np, pz, x2⟩ := ls_of_trod t2;clear hA0 hval0;refine (l38_shifts (Z := ⟨mz, Lz, Az, nl, lz, np, pz⟩) ⟨_, _, _, rfl, x0, x1, x2⟩ z).mono fun e W' hh => ?_
 obtain ⟨rfl, bel⟩ := hh;exact ⟨_, rfl, _, _, _, [], _, [], hW', trodAll_mk1 (shut_bool Tryz.underlying4 _), (trodAll_cons_mk (Below.trod laidOut (by kernel_rfl) (of_decide_eq_true (by kernel_rfl)) k0 bel lt0) (trodAll_cons_mk (shut_int Tryz.underlying3 wz) trodAll_mk0)), rfl, bel.below.frame _, fun h => by cases h⟩
theorem over_sa : Rows.snoopShiftsRow.holds Tryz.pinned (OpenSpec.ofChange Rows.snoopShiftsSpec) :=
 OpenClaim.holds_of_wide 9 Tryz.f9 rfl rfl rfl rfl rfl rfl rfl ⟨rfl, rfl, rfl, rfl, rfl⟩ rfl rfl rfl rfl rfl (by kernel_rfl) Tryz.func9 (by kernel_rfl)
  (of_decide_eq_true (by kernel_rfl)) (by unfold Func.isWrapper; first | (rw [if_pos (by decide +kernel)]; kernel_rfl) | (rw [if_neg (by decide +kernel)]; exact ⟨rfl, rfl⟩))
  (fun os started H enc _ => lifted_sa os started H enc)
theorem shifts_proved : Rows.SnoopShiftsSaid := over_sa
#print axioms shifts_proved
end Go.Proofs.YthkkknjcoidioaaGreat
