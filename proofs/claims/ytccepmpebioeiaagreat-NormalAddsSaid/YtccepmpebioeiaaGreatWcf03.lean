/-
  Proved here: the statement NormalAdds of fiduciallaw34 returns true for every input and leaves its arguments as they were. No condition.
-/
import Derived.Test.YtccepmpebioeiaaGreatRows
import Derived.Test.YtccepmpebioeiaaGreatWcf02
import Derived.ShutString
import Derived.ChangeOld
set_option linter.all false
set_option maxHeartbeats 8000000
namespace Go.Proofs.YtccepmpebioeiaaGreat
open Go.ChangeShapes Go.WideShapes Go.ChangeAt Go.RowKit Go.Joins
theorem cells_obs : Tryz.prog.cellsOf 68 = 9 := by kernel_rfl
theorem arr9 {cs : Array Value} (h : cs.size = 9) : ∃ z0 z1 z2 z3 z4 z5 z6 z7 z8 : Value, cs = #[z0, z1, z2, z3, z4, z5, z6, z7, z8] := by
 obtain ⟨l⟩ := cs;have h9 : l.length = 9 := h
 match l, h9 with
 | [z0, z1, z2, z3, z4, z5, z6, z7, z8], _ => exact ⟨z0, z1, z2, z3, z4, z5, z6, z7, z8, rfl⟩
theorem l34_addlaw {N lo hi lo' hi' : Nat} {w : World} {v vr s1 s2 s3 s4 : Value} {Z : Lin} {k : Nat} {R : Nat → Raw} {RV RW : Raw} {iz : Int} (h : LinV N lo hi w v Z) (x0 : LsR N lo' hi' w vr k R)
  (gv1 : Gs N w s1 RV.l1) (gv2 : Gs N w s2 RV.l2) (gw1 : Gs N w s3 RW.l1) (gw2 : Gs N w s4 RW.l2) (hl1 : RawL RV) (hl2 : RawL RW) :
  Calls Tryz.prog 7 #[v, .agg #[vr, .bool RV.b1, s1, .bool RV.b2, s2, .bool RW.b1, s3, .bool RW.b2, s4], .int .i64 iz] w (RetV w (.bool true)) := by
 obtain ⟨A4, c4, rfl, -⟩ := x0.form;obtain ⟨A5, n5, c5, rfl, -⟩ := gv1.form;obtain ⟨A6, n6, c6, rfl, -⟩ := gv2.form;obtain ⟨A7, n7, c7, rfl, -⟩ := gw1.form;obtain ⟨A8, n8, c8, rfl, -⟩ := gw2.form;cases hf : few34 8 5 Z with
 | false => exact adds_out h x0 gv1 gv2 gw1 gw2 hl1 hl2 (.inl hf)
 | true =>
 cases hm : shB 8 k R with
 | false => exact adds_out h x0 gv1 gv2 gw1 gw2 hl1 hl2 (.inr ⟨hf, .inl hm⟩)
 | true =>
 by_cases hd : 12 < dgn RV + dgn RW
 ·exact adds_out h x0 gv1 gv2 gw1 gw2 hl1 hl2 (.inr ⟨hf, .inr ⟨hm, hd⟩⟩)
 have hd' : dgn RV + dgn RW ≤ 12 := by omega
 by_cases hc : codeOf Z = 0
 ·have f := few34_lin hf hc;have hI := h;obtain ⟨A1, c1, A2, c2, A3, c3, rfl, h1, h2, h3, -⟩ := h.parts;obtain ⟨k1, k2, k3⟩ := f.mem h1 h2 h3;have e1 := f.nl;have e2 := f.np;rw [e1, e2] at hI ⊢;exact adds_main hI x0 gv1 gv2 gw1 gw2 hl1 hl2 hf hm hd' hc k1 k2 k3 f.m0 f.mr f.n0 f.nc f.pos f.hX f.hy f.hp
 ·exact adds_bad h x0 gv1 gv2 gw1 gw2 hl1 hl2 hf hm hd' hc
set_option maxHeartbeats 4000000 in
set_option maxRecDepth 100000 in
theorem lifted_f (os : Os) (started : os.Started) (H : Type) (enc : TypeId × Value → H) :
  ReturnsInHanded {} Tryz.checked os 7 .any (Rows.normalAddsSpec.pre6 enc Tryz.prog Tryz.f7 Rows.normalAddsRow.domain false) (Rows.normalAddsSpec.post enc Tryz.prog Tryz.f7 false true false false) := by
 refine returnsInHanded_of_change_sized (C := Tryz.checked) own started (by kernel_rfl) Tryz.func7
  (ChangeSpec.witness6 (enc := enc) (C := Tryz.checked) false ⟨#[], #[.agg #[.slice none 0 0, .slice none 0 0, .slice none 0 0], .agg #[.slice none 0 0, .bool false, .slice none 0 0, .bool false, .slice none 0 0, .bool false, .slice none 0 0, .bool false, .slice none 0 0], .int .i64 0], []⟩ 8 (by kernel_rfl) (by kernel_rfl) (by kernel_rfl) (by kernel_rfl)) ?_
 intro W base args ds gs before hval0 hW hcnd hsz0 _;have hval : ∀ (j : Nat) t v, Tryz.f7.params[j]? = some t → args[j]? = some v → Value.okWide Tryz.prog W .any base t v := hval0;have hsz : (DataW.weightsEach Tryz.prog (Tryz.f7.params.toList ++ Rows.normalAddsSpec.plain.varTypes Tryz.prog) (ds ++ gs)).all (· ≤ reachBytes) = true := hsz0;have hW' := hW;obtain ⟨p, q, hA0, hV, rfl, hfz, hnd⟩ := hW;have hA : DataW.TrodAll enc Tryz.prog W 0 (fun _ => true) true Tryz.f7.params.toList args.toList ds p := hA0;rw [Tryz.params7] at hA hval hsz;obtain ⟨v0, vs0, d0, ds0, p0, q0, hargs, rfl, rfl, h0, r0⟩ := trodAll_cons hA;obtain ⟨v1, vs1, d1, ds1, p1, q1, rfl, rfl, rfl, h1, r1⟩ := trodAll_cons r0;obtain ⟨v2, vs2, d2, ds2, p2, q2, rfl, rfl, rfl, h2, r2⟩ := trodAll_cons r1;obtain ⟨rfl, rfl, rfl⟩ := trodAll_nil r2;obtain rfl : args = #[v0, v1, v2] := by cases args; simp_all
 obtain ⟨rfl, rfl⟩ := trodVars_none hV;have k0 := h0;have k1 := h1;have lt0 : ∀ x ∈ p0, x.block < W.heap.size := by obtain ⟨m, hm⟩ := k0; exact DataW.trod_lt m _ _ _ hm
 have lt1 : ∀ x ∈ p1, x.block < W.heap.size := by obtain ⟨m, hm⟩ := k1; exact DataW.trod_lt m _ _ _ hm
 obtain ⟨c0, c1, c2, y0, y1, y2, n0, rfl, -, -, t0, t1, t2⟩ := open_agg3 Tryz.underlying26 (by kernel_rfl) cells_lin (hval 0 26 v0 rfl rfl) h0;obtain ⟨cs, rfl, hcs⟩ := okWide_struct Tryz.underlying68 (hval 1 68 v1 rfl rfl);obtain ⟨z, rfl, rfl, rfl, wz⟩ := open_int Tryz.underlying3 (hval 2 3 v2 rfl rfl) h2
 have hw1 : ∀ k ∈ d1.weights Tryz.prog 68, k ≤ reachBytes := fun k hk => by
  have h9 := List.all_eq_true.1 hsz k (DataW.weights_mem_each (j := 1) (by rfl) (by rfl) k hk);simpa using h9
 obtain ⟨z0, z1, z2, z3, z4, z5, z6, z7, z8, rfl⟩ := arr9 (hcs.trans cells_obs);obtain ⟨fuel, hf⟩ := h1;have hf' : DataW.trod enc Tryz.prog W 0 (fun _ => true) true fuel 68 [z0, z1, z2, z3, z4, z5, z6, z7, z8] = some (d1, p1) := hf;obtain ⟨u0, u1, u2, n1, hx, -, f0, f1, f2⟩ := Go.Deep.trod_struct3 Tryz.underlying68 hf';simp only [Prod.mk.injEq] at hx;obtain ⟨rfl, -⟩ := hx;simp only [cells_rat, cells_rats, List.drop_zero, List.take_succ_cons, List.take_zero, List.drop_succ_cons] at f0 f1 f2;obtain ⟨R, rfl, rfl, g1, g2, sr⟩ := rat_of_trodW f1 (fun k hk => hw1 k (by simp [DataW.weights, DataW.weightsEach, Tryz.underlying68, hk]));obtain ⟨S, rfl, rfl, g3, g4, ss⟩ := rat_of_trodW f2 (fun k hk => hw1 k (by simp [DataW.weights, DataW.weightsEach, Tryz.underlying68, hk]));obtain ⟨kS, RS, xS⟩ := ls_of_trod f0;obtain ⟨mz, Lz, Az, x0⟩ := mt_of_trod t0;obtain ⟨nl, lz, x1⟩ := ls_of_trod t1;obtain ⟨np, pz, x2⟩ := ls_of_trod t2;clear hA0 hval0;refine (l34_addlaw (Z := ⟨mz, Lz, Az, nl, lz, np, pz⟩) ⟨_, _, _, rfl, x0, x1, x2⟩ xS g1 g2 g3 g4 sr ss).mono fun e W' hh => ?_
 obtain ⟨rfl, bel⟩ := hh;exact ⟨_, rfl, _, _, _, [], _, [], hW', trodAll_mk1 (shut_bool Tryz.underlying4 _), (trodAll_cons_mk (Below.trod laidOut (by kernel_rfl) (of_decide_eq_true (by kernel_rfl)) k0 bel lt0) (trodAll_cons_mk (Below.trod laidOut (by kernel_rfl) (of_decide_eq_true (by kernel_rfl)) k1 bel lt1) (trodAll_cons_mk (shut_int Tryz.underlying3 wz) trodAll_mk0))), rfl, bel.below.frame _, fun h => by cases h⟩
theorem over_f : Rows.normalAddsRow.holds Tryz.pinned (OpenSpec.ofChange Rows.normalAddsSpec) :=
 OpenClaim.holds_of_wide 7 Tryz.f7 rfl rfl rfl rfl rfl rfl rfl ⟨rfl, rfl, rfl, rfl, rfl⟩ rfl rfl rfl rfl rfl (by kernel_rfl) Tryz.func7 (by kernel_rfl)
  (of_decide_eq_true (by kernel_rfl)) (by unfold Func.isWrapper; first | (rw [if_pos (by decide +kernel)]; kernel_rfl) | (rw [if_neg (by decide +kernel)]; exact ⟨rfl, rfl⟩))
  (fun os started H enc _ => lifted_f os started H enc)
theorem adds_proved : Rows.NormalAddsSaid := over_f
#print axioms adds_proved
end Go.Proofs.YtccepmpebioeiaaGreat
