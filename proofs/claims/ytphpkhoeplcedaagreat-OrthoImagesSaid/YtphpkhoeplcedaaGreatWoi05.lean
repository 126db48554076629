/-
  Proved here: the statement OrthoImages of fiduciallaw49 returns true for every input and leaves its arguments as they were. No condition.
-/
import Derived.Test.YtphpkhoeplcedaaGreatRows
import Derived.Test.YtphpkhoeplcedaaGreatWoi04
import Derived.ShutString
import Derived.ChangeOld
set_option linter.all false
set_option maxHeartbeats 8000000
set_option maxRecDepth 100000
namespace Go.Proofs.YtphpkhoeplcedaaGreat
open Go.ChangeShapes Go.WideShapes Go.ChangeAt Go.RowKit Go.Joins
variable {v:Value}
section
variable {H : Type} {enc : TypeId × Value -> H} {w : World} {spare : Nat -> Bool} {held : Bool}
theorem q5M {r: Reach} {b0: Nat} {d: DataW H} {p: List MemPlace} (hv : Value.okWide Tryz.prog w r b0 69 v) (h : DataW.Trod enc Tryz.prog w 0 spare held 69 v d p) : ∃ S : Sta, v = S.v := by
 obtain ⟨cs, rfl, hsz⟩ := okWide_struct Tryz.underlying69 hv;rw [q5K] at hsz;obtain ⟨l⟩ := cs
 match l, hsz with
 | [c0, c1, c2, c3, c4, c5, c6, c7, c8, c9], _ =>
  obtain ⟨fuel, hf⟩ := h;obtain ⟨S, rfl, rfl, rfl, rfl, rfl, rfl, rfl, rfl, rfl, rfl⟩ := q2J hf;exact ⟨S, rfl⟩
theorem q5D {r: Reach} {b0: Nat} {d: DataW H} {p: List MemPlace} (hv : Value.okWide Tryz.prog w r b0 63 v) (h : DataW.Trod enc Tryz.prog w 0 spare held 63 v d p) : ∃ X Y Z : Int, v = .agg #[.int .i64 X, .int .i64 Y, .int .i64 Z] := by
 obtain ⟨cs, rfl, hsz⟩ := okWide_struct Tryz.underlying63 hv;rw [Vx] at hsz;obtain ⟨l⟩ := cs
 match l, hsz with
 | [c0, c1, c2], _ =>
  obtain ⟨fuel, hf⟩ := h;obtain ⟨X, Y, Z, rfl, rfl, rfl⟩ := X9 hf;exact ⟨X, Y, Z, rfl⟩
theorem q64 {r: Reach} {b0: Nat} {d: DataW H} {p: List MemPlace} (hv : Value.okWide Tryz.prog w r b0 43 v) (h : DataW.Trod enc Tryz.prog w 0 spare held 43 v d p) : ∃ cp R, v = .agg cp /\ PtA w.heap.size w cp R := by
 simp only [Value.okWide, q2F] at hv;obtain ⟨cs, rfl, hsz, -⟩ := hv;obtain ⟨fuel, hf⟩ := h;obtain ⟨R, hR⟩ := q2W hf;simp only [Value.cells, Array.toArray_toList] at hR;exact ⟨cs, R, rfl, hR⟩
end
theorem q5J (os : Os) (started : os.Started) (H : Type) (enc : TypeId × Value -> H) :
  ReturnsInHanded {} Tryz.checked os 7 .any (Rows.orthoImagesSpec.pre6 enc Tryz.prog Tryz.f7 Rows.orthoImagesRow.domain false) (Rows.orthoImagesSpec.post enc Tryz.prog Tryz.f7 false true false false) := by
 refine returnsInHanded_of_change (C := Tryz.checked) own started (by kernel_rfl) Tryz.func7
  (ChangeSpec.witness6 (enc := enc) (C := Tryz.checked) false ⟨#[], #[.agg #[.int .i64 0, .int .i64 0, .int .i64 0, .int .i64 0, .int .i64 0, .int .i64 0, .int .i64 0, .int .i64 0, .int .i64 0, .int .i64 0], .agg #[.bool false, .slice none 0 0, .bool false, .slice none 0 0, .bool false, .slice none 0 0, .bool false, .slice none 0 0, .bool false, .slice none 0 0, .bool false, .slice none 0 0], .agg #[.int .i64 0, .int .i64 0, .int .i64 0]], []⟩ 8 (by kernel_rfl) (by kernel_rfl) (by kernel_rfl) (by kernel_rfl)) ?_
 intro W base args ds gs before hval0 hW hcnd _;have hval : ∀ (j : Nat) t v, Tryz.f7.params[j]? = some t -> args[j]? = some v -> Value.okWide Tryz.prog W .any base t v := hval0;have hW' := hW;obtain ⟨p, q, hA0, hV, rfl, hfz, hnd⟩ := hW;have hA : DataW.TrodAll enc Tryz.prog W 0 (fun _ => true) true Tryz.f7.params.toList args.toList ds p := hA0;rw [Tryz.params7] at hA hval;obtain ⟨v0, vs0, d0, ds0, p0, q0, hargs, rfl, rfl, h0, r0⟩ := trodAll_cons hA;obtain ⟨v1, vs1, d1, ds1, p1, q1, rfl, rfl, rfl, h1, r1⟩ := trodAll_cons r0;obtain ⟨v2, vs2, d2, ds2, p2, q2, rfl, rfl, rfl, h2, r2⟩ := trodAll_cons r1;obtain ⟨rfl, rfl, rfl⟩ := trodAll_nil r2;obtain rfl : args = #[v0, v1, v2] := by cases args; simp_all
 obtain ⟨rfl, rfl⟩ := trodVars_none hV;have k0 := h0;have lt0 : ∀ x ∈ p0, x.block < W.heap.size := by obtain ⟨m, hm⟩ := k0; exact DataW.trod_lt m _ _ _ hm
 have k1 := h1;have lt1 : ∀ x ∈ p1, x.block < W.heap.size := by obtain ⟨m, hm⟩ := k1; exact DataW.trod_lt m _ _ _ hm
 have k2 := h2;have lt2 : ∀ x ∈ p2, x.block < W.heap.size := by obtain ⟨m, hm⟩ := k2; exact DataW.trod_lt m _ _ _ hm
 obtain ⟨S, rfl⟩ := q5M (hval 0 69 v0 rfl rfl) h0;obtain ⟨cp, R, rfl, hp⟩ := q64 (hval 1 43 v1 rfl rfl) h1;obtain ⟨X, Y, Z, rfl⟩ := q5D (hval 2 63 v2 rfl rfl) h2;clear hA0 hval0;refine (q5B hp (q_r)).mono fun e W' hh => ?_
 obtain ⟨rfl, bel⟩ := hh;exact ⟨_, rfl, _, _, _, [], _, [], hW', trodAll_mk1 (shut_bool Tryz.underlying4 _), (trodAll_cons_mk (Below.trod laidOut (by kernel_rfl) (of_decide_eq_true (by kernel_rfl)) k0 bel lt0) (trodAll_cons_mk (Below.trod laidOut (by kernel_rfl) (of_decide_eq_true (by kernel_rfl)) k1 bel lt1) (trodAll_cons_mk (Below.trod laidOut (by kernel_rfl) (of_decide_eq_true (by kernel_rfl)) k2 bel lt2) trodAll_mk0))), rfl, bel.below.frame _, fun h => by cases h⟩
theorem q65 : Rows.orthoImagesRow.holds Tryz.pinned (OpenSpec.ofChange Rows.orthoImagesSpec) :=
 OpenClaim.holds_of_wide 7 Tryz.f7 rfl rfl rfl rfl rfl rfl rfl ⟨rfl, rfl, rfl, rfl, rfl⟩ rfl rfl rfl rfl rfl (by kernel_rfl) Tryz.func7 (by kernel_rfl)
  (of_decide_eq_true (by kernel_rfl)) (by unfold Func.isWrapper; first | (rw [if_pos (by decide +kernel)]; kernel_rfl) | (rw [if_neg (by decide +kernel)]; exact ⟨rfl, rfl⟩))
  (fun os started H enc _ => q5J os started H enc)
theorem images_proved : Rows.OrthoImagesSaid := q65
#print axioms images_proved
end Go.Proofs.YtphpkhoeplcedaaGreat
