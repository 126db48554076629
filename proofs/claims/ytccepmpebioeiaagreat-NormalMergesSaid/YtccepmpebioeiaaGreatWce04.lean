/-
  Proved here: the statement NormalMerges of fiduciallaw34 returns true for every input and leaves its arguments as they were. No condition.
-/
import Derived.Test.YtccepmpebioeiaaGreatRows
import Derived.Test.YtccepmpebioeiaaGreatWce03
import Derived.WideKeyPair
import Derived.ShutString
import Derived.ChangeOld
set_option linter.all false
set_option maxHeartbeats 8000000
namespace Go.Proofs.YtccepmpebioeiaaGreat
open Go.ChangeShapes Go.WideShapes Go.ChangeAt Go.RowKit Go.Joins
section
variable {H : Type} {enc : TypeId × Value → H} {P : Program} {k e : TypeId} {w : World} {base : Nat} {sp : Nat → Bool} {held : Bool}
structure Arr2 (P : Program) (k e : TypeId) : Prop where
 hu : P.underlying k = some (.array 2 e)
 one : P.cellsOf e = 1
 size : P.cellsOf k = 2
theorem okWide_arr2 (A : Arr2 P k e) {r : Reach} {b0 : Nat} {v : Value} (h : Value.okWide P w r b0 k v) : ∃ c0 c1, v = .agg #[c0, c1] := by
 simp only [Value.okWide, A.hu] at h;obtain ⟨cs, h1, h2, _⟩ := h;rw [A.size] at h2;obtain ⟨l⟩ := cs
 match l, h2 with
 | [c0, c1], _ => exact ⟨c0, c1, h1⟩
theorem open_arr2 (A : Arr2 P k e) {c0 c1 : Value} {d : DataW H} {ps : List MemPlace} (hd : DataW.Trod enc P w base sp held k (.agg #[c0, c1]) d ps) : ∃ y0 y1 n, DataW.trod enc P w base sp held n e [c0] = some y0 ∧ DataW.trod enc P w base sp held n e [c1] = some y1 := by
 obtain ⟨fuel, hf⟩ := hd;cases fuel with
 | zero => simp [DataW.trod] at hf
 | succ n =>
  rw [DataW.trod_step] at hf;unfold DataW.trodStep at hf;simp only [A.hu, Value.cells] at hf;rw [if_pos (by rw [A.size]; rfl)] at hf;simp only [Option.map_eq_some_iff] at hf;obtain ⟨xs, hx, e1⟩ := hf;rw [show List.range 2 = [0, 1] from rfl, List.mapM_cons, List.mapM_cons, List.mapM_nil] at hx;simp only [bind, Option.bind_eq_some_iff, pure, Option.some.injEq, A.one] at hx;obtain ⟨y0, h0, _, ⟨y1, h1, _, rfl, rfl⟩, rfl⟩ := hx;exact ⟨y0, y1, n, h0, h1⟩
end
theorem ar_int2 : Arr2 Tryz.prog 77 3 := ⟨by kernel_rfl, by kernel_rfl, by kernel_rfl⟩
theorem ar_rats2 : Arr2 Tryz.prog 78 24 := ⟨by kernel_rfl, by kernel_rfl, by kernel_rfl⟩
theorem l34_mergelaw {N lo hi lo0 hi0 lo1 hi1 : Nat} {w : World} {v u0 u1 : Value} {Z : Lin} {n0 n1 : Nat} {R0 R1 : Nat → Raw} (h : LinV N lo hi w v Z) (x0 : LsR N lo0 hi0 w u0 n0 R0) (x1 : LsR N lo1 hi1 w u1 n1 R1) (iz jz : Int) :
  Calls Tryz.prog 8 #[v, .agg #[.int .i64 iz, .int .i64 jz], .agg #[u0, u1]] w (RetV w (.bool true)) := by
 cases hf : few34 8 5 Z with
 | false => exact merges_out h x0 x1 (.inl hf)
 | true =>
 cases hs0 : shB 8 n0 R0 with
 | false => exact merges_out h x0 x1 (.inr ⟨hf, .inl hs0⟩)
 | true =>
 cases hs1 : shB 8 n1 R1 with
 | false => exact merges_out h x0 x1 (.inr ⟨hf, .inr ⟨hs0, hs1⟩⟩)
 | true =>
 by_cases hc : codeOf Z = 0
 ·have f := few34_lin hf hc;have hI := h;obtain ⟨A1, c1, A2, c2, A3, c3, rfl, h1, h2, h3, -⟩ := h.parts;obtain ⟨A4, c4, rfl, -⟩ := x0.form;obtain ⟨A5, c5, rfl, -⟩ := x1.form;obtain ⟨k1, k2, k3⟩ := f.mem h1 h2 h3;have e1 := f.nl;have e2 := f.np;rw [e1, e2] at hI ⊢
  by_cases hz : iz < 0 ∨ (Z.m : Int) ≤ iz ∨ jz < 0 ∨ (Z.m : Int) ≤ jz ∨ iz = jz
  ·exact merges_range hI x0 x1 hf hs0 hs1 hc k1 k2 k3 f.m0 f.mr f.n0 f.nc f.pos f.hX f.hy f.hp hz
  ·obtain ⟨a, b, hab, hb, hz2⟩ : ∃ a b : Nat, a < b ∧ b < Z.m ∧ ((iz = (a : Int) ∧ jz = (b : Int)) ∨ (iz = (b : Int) ∧ jz = (a : Int))) := by
    by_cases hl : iz < jz
    ·exact ⟨iz.toNat, jz.toNat, by omega, by omega, .inl ⟨by omega, by omega⟩⟩
    ·exact ⟨jz.toNat, iz.toNat, by omega, by omega, .inr ⟨by omega, by omega⟩⟩
   cases hr : allB (Z.L 0) (fun c => decide (ratOf (Z.A a c) = ratOf (Z.A b c))) with
   | false => exact merges_state hI x0 x1 hf hs0 hs1 hc k1 k2 k3 f.m0 f.mr f.n0 f.nc f.pos f.hX f.hy f.hp hab hb hz2 hr
   | true => exact merges_good hI x0 x1 hf hs0 hs1 hc k1 k2 k3 f.m0 f.mr f.n0 f.nc f.pos f.hX f.hy f.hp hab hb hz2 hr
 ·exact merges_bad h x0 x1 hf hs0 hs1 hc
set_option maxRecDepth 100000 in
theorem lifted_e (os : Os) (started : os.Started) (H : Type) (enc : TypeId × Value → H) :
  ReturnsInHanded {} Tryz.checked os 8 .any (Rows.normalMergesSpec.pre6 enc Tryz.prog Tryz.f8 Rows.normalMergesRow.domain false) (Rows.normalMergesSpec.post enc Tryz.prog Tryz.f8 false true false false) := by
 refine returnsInHanded_of_change (C := Tryz.checked) own started (by kernel_rfl) Tryz.func8
  (ChangeSpec.witness6 (enc := enc) (C := Tryz.checked) false ⟨#[], #[.agg #[.slice none 0 0, .slice none 0 0, .slice none 0 0], .agg #[.int .i64 0, .int .i64 0], .agg #[.slice none 0 0, .slice none 0 0]], []⟩ 8 (by kernel_rfl) (by kernel_rfl) (by kernel_rfl) (by kernel_rfl)) ?_
 intro W base args ds gs before hval0 hW hcnd _;have hval : ∀ (j : Nat) t v, Tryz.f8.params[j]? = some t → args[j]? = some v → Value.okWide Tryz.prog W .any base t v := hval0;have hW' := hW;obtain ⟨p, q, hA0, hV, rfl, hfz, hnd⟩ := hW;have hA : DataW.TrodAll enc Tryz.prog W 0 (fun _ => true) true Tryz.f8.params.toList args.toList ds p := hA0;rw [Tryz.params8] at hA hval;obtain ⟨v0, vs0, d0, ds0, p0, q0, hargs, rfl, rfl, h0, r0⟩ := trodAll_cons hA;obtain ⟨v1, vs1, d1, ds1, p1, q1, rfl, rfl, rfl, h1, r1⟩ := trodAll_cons r0;obtain ⟨v2, vs2, d2, ds2, p2, q2, rfl, rfl, rfl, h2, r2⟩ := trodAll_cons r1;obtain ⟨rfl, rfl, rfl⟩ := trodAll_nil r2;obtain rfl : args = #[v0, v1, v2] := by cases args; simp_all
 obtain ⟨rfl, rfl⟩ := trodVars_none hV;have k0 := h0;have lt0 : ∀ x ∈ p0, x.block < W.heap.size := by obtain ⟨m, hm⟩ := k0; exact DataW.trod_lt m _ _ _ hm
 have k1 := h1;have lt1 : ∀ x ∈ p1, x.block < W.heap.size := by obtain ⟨m, hm⟩ := k1; exact DataW.trod_lt m _ _ _ hm
 obtain ⟨c0, c1, c2, y0, y1, y2, n0, rfl, -, -, t0, t1, t2⟩ := open_agg3 Tryz.underlying26 (by kernel_rfl) cells_lin (hval 0 26 v0 rfl rfl) h0;have k2 := h2;have lt2 : ∀ x ∈ p2, x.block < W.heap.size := by obtain ⟨m, hm⟩ := k2; exact DataW.trod_lt m _ _ _ hm
 obtain ⟨i0, i1, rfl⟩ := okWide_arr2 ar_int2 (hval 1 77 v1 rfl rfl);obtain ⟨yi0, yi1, ni, ti0, ti1⟩ := open_arr2 ar_int2 h1;obtain ⟨iz, ei0, -, -⟩ := DataW.trod_int Tryz.underlying3 ti0;obtain ⟨jz, ei1, -, -⟩ := DataW.trod_int Tryz.underlying3 ti1;simp only [List.cons.injEq, and_true] at ei0 ei1;subst ei0 ei1;obtain ⟨l0, l1, rfl⟩ := okWide_arr2 ar_rats2 (hval 2 78 v2 rfl rfl);obtain ⟨yl0, yl1, nl', tl0, tl1⟩ := open_arr2 ar_rats2 h2;obtain ⟨mz, Lz, Az, x0⟩ := mt_of_trod t0;obtain ⟨nl, lz, x1⟩ := ls_of_trod t1;obtain ⟨np, pz, x2⟩ := ls_of_trod t2;obtain ⟨n0', R0, x3⟩ := ls_of_trod tl0;obtain ⟨n1', R1, x4⟩ := ls_of_trod tl1;clear hA0 hval0;refine (l34_mergelaw (Z := ⟨mz, Lz, Az, nl, lz, np, pz⟩) ⟨_, _, _, rfl, x0, x1, x2⟩ x3 x4 iz jz).mono fun e W' hh => ?_
 obtain ⟨rfl, bel⟩ := hh;exact ⟨_, rfl, _, _, _, [], _, [], hW', trodAll_mk1 (shut_bool Tryz.underlying4 _), (trodAll_cons_mk (Below.trod laidOut (by kernel_rfl) (of_decide_eq_true (by kernel_rfl)) k0 bel lt0) (trodAll_cons_mk (Below.trod laidOut (by kernel_rfl) (of_decide_eq_true (by kernel_rfl)) k1 bel lt1) (trodAll_cons_mk (Below.trod laidOut (by kernel_rfl) (of_decide_eq_true (by kernel_rfl)) k2 bel lt2) trodAll_mk0))), rfl, bel.below.frame _, fun h => by cases h⟩
theorem over_e : Rows.normalMergesRow.holds Tryz.pinned (OpenSpec.ofChange Rows.normalMergesSpec) :=
 OpenClaim.holds_of_wide 8 Tryz.f8 rfl rfl rfl rfl rfl rfl rfl ⟨rfl, rfl, rfl, rfl, rfl⟩ rfl rfl rfl rfl rfl (by kernel_rfl) Tryz.func8 (by kernel_rfl)
  (of_decide_eq_true (by kernel_rfl)) (by unfold Func.isWrapper; first | (rw [if_pos (by decide +kernel)]; kernel_rfl) | (rw [if_neg (by decide +kernel)]; exact ⟨rfl, rfl⟩))
  (fun os started H enc _ => lifted_e os started H enc)
theorem merges_proved : Rows.NormalMergesSaid := over_e
#print axioms merges_proved
end Go.Proofs.YtccepmpebioeiaaGreat
