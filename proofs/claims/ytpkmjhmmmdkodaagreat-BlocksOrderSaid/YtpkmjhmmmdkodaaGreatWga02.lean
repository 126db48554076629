/-
  Proved here: the statement BlocksOrder of fiduciallaw06 returns true for every input and leaves its arguments as they were. No condition.
-/
import Derived.Test.YtpkmjhmmmdkodaaGreatRows
import Derived.Test.YtpkmjhmmmdkodaaGreatWga01
import Derived.ShutString
import Derived.ChangeOld
set_option linter.all false
set_option maxHeartbeats 8000000
namespace Go.Proofs.YtpkmjhmmmdkodaaGreat
open Go.ChangeShapes Go.WideShapes Go.ChangeAt Go.RowKit Go.Joins
set_option maxRecDepth 100000 in
theorem q8q (os : Os) (started : os.Started) (H : Type) (enc : TypeId × Value -> H) :
  ReturnsInHanded {} Tryz.checked os 6 .any (Rows.blocksOrderSpec.pre6 enc Tryz.prog Tryz.f6 Rows.blocksOrderRow.domain false) (Rows.blocksOrderSpec.post enc Tryz.prog Tryz.f6 false true false false) := by
 refine returnsInHanded_of_change (C := Tryz.checked) own started (by kernel_rfl) Tryz.func6
  (ChangeSpec.witness6 (enc := enc) (C := Tryz.checked) false ⟨#[], #[.agg #[.slice none 0 0, .slice none 0 0, .slice none 0 0]], []⟩ 8 (by kernel_rfl) (by kernel_rfl) (by kernel_rfl) (by kernel_rfl)) ?_
 intro W base args ds gs before hval0 hW hcnd _;have hval : ∀ (j : Nat) t v, Tryz.f6.params[j]? = some t -> args[j]? = some v -> Value.okWide Tryz.prog W .any base t v := hval0;have hW' := hW;obtain ⟨p, q, hA0, hV, rfl, hfz, hnd⟩ := hW;have hA : DataW.TrodAll enc Tryz.prog W 0 (fun _ => true) true Tryz.f6.params.toList args.toList ds p := hA0;rw [Tryz.params6] at hA hval;obtain ⟨v0, vs0, d0, ds0, p0, q0, hargs, rfl, rfl, h0, r0⟩ := trodAll_cons hA;obtain ⟨rfl, rfl, rfl⟩ := trodAll_nil r0;obtain rfl : args = #[v0] := by cases args; simp_all
 obtain ⟨rfl, rfl⟩ := trodVars_none hV;have k0 := h0;have lt0 : ∀ x ∈ p0, x.block < W.heap.size := by obtain ⟨m, hm⟩ := k0; exact DataW.trod_lt m _ _ _ hm
 obtain ⟨c0, c1, c2, y0, y1, y2, n0, rfl, -, -, t0, t1, t2⟩ := open_agg3 Tryz.underlying26 (by kernel_rfl) q7H (hval 0 26 v0 rfl rfl) h0;obtain ⟨ks, zs, x0⟩ := q6Q t0;obtain ⟨kb, bs, x1⟩ := q6t t1;obtain ⟨kr, rs, x2⟩ := q0a t2;clear hA0 hval0;refine (q8r (Z := ⟨ks, zs, kb, bs, kr, rs⟩) ⟨_, _, _, rfl, ⟨rfl, x0.2⟩, x1, x2⟩).mono fun e W' hh => ?_
 obtain ⟨rfl, bel⟩ := hh;exact ⟨_, rfl, _, _, _, [], _, [], hW', trodAll_mk1 (shut_bool Tryz.underlying4 _), (trodAll_cons_mk (Below.trod laidOut (by kernel_rfl) (of_decide_eq_true (by kernel_rfl)) k0 bel lt0) trodAll_mk0), rfl, bel.below.frame _, fun h => by cases h⟩
theorem q8F : Rows.blocksOrderRow.holds Tryz.pinned (OpenSpec.ofChange Rows.blocksOrderSpec) :=
 OpenClaim.holds_of_wide 6 Tryz.f6 rfl rfl rfl rfl rfl rfl rfl ⟨rfl, rfl, rfl, rfl, rfl⟩ rfl rfl rfl rfl rfl (by kernel_rfl) Tryz.func6 (by kernel_rfl)
  (of_decide_eq_true (by kernel_rfl)) (by unfold Func.isWrapper; first | (rw [if_pos (by decide +kernel)]; kernel_rfl) | (rw [if_neg (by decide +kernel)]; exact ⟨rfl, rfl⟩))
  (fun os started H enc _ => q8q os started H enc)
theorem border_proved : Rows.BlocksOrderSaid := q8F
#print axioms border_proved
end Go.Proofs.YtpkmjhmmmdkodaaGreat
