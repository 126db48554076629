/-
  Proved here: the statement SnoopInvariant of fiduciallaw38 returns true for every input and leaves its arguments as they were. No condition.
-/
import Derived.Test.YthkkknjcoidioaaGreatWb01
import Derived.Test.YthkkknjcoidioaaGreatWb02
import Derived.Test.YthkkknjcoidioaaGreatWb03
import Derived.Test.YthkkknjcoidioaaGreatWb04
import Derived.Test.YthkkknjcoidioaaGreatWb05
import Derived.Test.YthkkknjcoidioaaGreatWb06
import Derived.Test.YthkkknjcoidioaaGreatWb07
import Derived.Test.YthkkknjcoidioaaGreatWb08
import Derived.Test.YthkkknjcoidioaaGreatWb09
import Derived.Test.YthkkknjcoidioaaGreatWb10
import Derived.Test.YthkkknjcoidioaaGreatWb11
import Derived.Test.YthkkknjcoidioaaGreatWb12
import Derived.Test.YthkkknjcoidioaaGreatWb13
import Derived.Test.YthkkknjcoidioaaGreatWb14
import Derived.Test.YthkkknjcoidioaaGreatWb15
import Derived.Test.YthkkknjcoidioaaGreatWb16
import Derived.Test.YthkkknjcoidioaaGreatWb17
import Derived.Test.YthkkknjcoidioaaGreatWb18
import Derived.Test.YthkkknjcoidioaaGreatWb19
import Derived.Test.YthkkknjcoidioaaGreatWb20
import Derived.Test.YthkkknjcoidioaaGreatWb21
import Derived.Test.YthkkknjcoidioaaGreatWb22
import Derived.Test.YthkkknjcoidioaaGreatWb23
import Derived.Test.YthkkknjcoidioaaGreatWb24
import Derived.Test.YthkkknjcoidioaaGreatWb25
import Derived.Test.YthkkknjcoidioaaGreatWb26
import Derived.Test.YthkkknjcoidioaaGreatWb27
import Derived.Test.YthkkknjcoidioaaGreatWb28
import Derived.Test.YthkkknjcoidioaaGreatWb29
import Derived.Test.YthkkknjcoidioaaGreatWb30
import Derived.Test.YthkkknjcoidioaaGreatWb31
import Derived.Test.YthkkknjcoidioaaGreatWb32
import Derived.Test.YthkkknjcoidioaaGreatWb33
import Derived.Test.YthkkknjcoidioaaGreatWb34
import Derived.Test.YthkkknjcoidioaaGreatWb35
import Derived.Test.YthkkknjcoidioaaGreatWb36
import Derived.Test.YthkkknjcoidioaaGreatWb37
import Derived.Test.YthkkknjcoidioaaGreatWb38
import Derived.Test.YthkkknjcoidioaaGreatWb39
import Derived.Test.YthkkknjcoidioaaGreatWb40
import Derived.Test.YthkkknjcoidioaaGreatWb41
import Derived.Test.YthkkknjcoidioaaGreatWb42
import Derived.Test.YthkkknjcoidioaaGreatWb46
import Derived.Test.YthkkknjcoidioaaGreatRows
import Derived.Test.YthkkknjcoidioaaGreatWse02
import Derived.SizedLaws
import Derived.Test.YthkkknjcoidioaaGreatWse01
import Derived.Deep.AppendLies
import Derived.WalkKit
import Derived.WalkSpells
import Derived.WalkLawsBesides
import Derived.Lib.Hide
import Derived.Deep.RegionHeld3
import Derived.Deep.QuietTactic
import Derived.BigQuiet
import Derived.Maps.AppendAt
import Derived.Deep.DeepCutAuto
import Derived.Deep.RegionWith
import Derived.Deep.DeepMust
import Derived.Deep.CutBlock
import Derived.OrdersIn
import Derived.RegionTactic
import Derived.RangeFuncNested
import Derived.RangeFuncBound
import Derived.RangeFuncCalls
import Derived.RangeFuncLeaves
import Derived.RangeFuncBox
import Derived.Shelf.Abstract
import Derived.OwnWalkIn
import Derived.TacticsInMore
import Derived.LoopNIn
import Derived.LoopIn
import Derived.ProofKit
import Derived.OpenShut
import Derived.ShutString
import Derived.ChangeOld
import Derived.Below
set_option linter.all false
set_option maxHeartbeats 8000000
namespace Go.Proofs.YthkkknjcoidioaaGreat
open Go.ChangeShapes Go.WideShapes Go.ChangeAt Go.RowKit Go.Joins
theorem cells_chg : Tryz.prog.cellsOf 67 = 6 := by kernel_rfl
theorem arr6 {cs : Array Value} (h : cs.size = 6) : ∃ z0 z1 z2 z3 z4 z5 : Value, cs = #[z0, z1, z2, z3, z4, z5] := by
 obtain ⟨l⟩ := cs;have h9 : l.length = 6 := h
 match l, h9 with
 | [z0, z1, z2, z3, z4, z5], _ => exact ⟨z0, z1, z2, z3, z4, z5, rfl⟩
theorem cells_mat : Tryz.prog.cellsOf 23 = 1 := by kernel_rfl
theorem l38_invariant {N lo hi lo2 hi2 : Nat} {w : World} {v sB s1 s2 sS : Value} {Z : Lin} {mB kS : Nat} {LB : Nat → Nat} {AR : Nat → Nat → Raw} {R : Raw} {RS : Nat → Raw} (h : LinV N lo hi w v Z) (hB : MtR N lo2 hi2 w sB mB LB AR) (gx1 : Gs N w s1 R.l1) (gx2 : Gs N w s2 R.l2) (hS : LsR N lo2 hi2 w sS kS RS) (hsx : RawL R) :
  Calls Tryz.prog 6 #[v, .agg #[sB, .bool R.b1, s1, .bool R.b2, s2, sS]] w (RetV w (.bool true)) := by
 obtain ⟨Q1, k1, l1, e9, -⟩ := gx1.form;subst e9;obtain ⟨Q2, k2, l2, e9, -⟩ := gx2.form;subst e9;cases hf : few34 7 4 Z with
 | false => exact inv_out h hB gx1 gx2 hS hsx (.inl hf)
 | true =>
  by_cases hc : code38 Z 1 (fun _ => R) = 0
  ·have g := code38_zero hf hc;have hok : okR R = true := allB_true.1 g.ok 0 (by omega);have hx : RawV N w (.agg #[.bool R.b1, .slice Q1 k1 l1, .bool R.b2, .slice Q2 k2 l2]) R := ⟨_, _, rfl, gx1, gx2⟩
   have hxr : RatV N w (.agg #[.bool R.b1, .slice Q1 k1 l1, .bool R.b2, .slice Q2 k2 l2]) (ratOf R) := by
    show RawV N w _ (raw (ratOf R))
    rw [← raw_ratOf hok]; exact hx
   have hI := h;obtain ⟨A1, c1, A2, c2, A3, c3, rfl, h1, h2, h3, -⟩ := h.parts;obtain ⟨i1, i2, i3⟩ := g.few.mem h1 h2 h3;have e1 := g.few.nl;have e2 := g.few.np;rw [e1, e2] at hI ⊢;obtain ⟨AB, cB, rfl, -⟩ := hB.form;obtain ⟨AS, cS, rfl, -⟩ := hS.form;exact inv_main hI hf hc i1 i2 i3 g.few.md g.few.hX g.few.hy g.few.hp g.reg hB hx gx1 gx2 hS hsx hxr (fun h9 => dgn_ht hok h9)
  ·exact inv_out h hB gx1 gx2 hS hsx (.inr ⟨hf, hc⟩)
set_option maxHeartbeats 4000000 in
set_option maxRecDepth 100000 in
theorem lifted_sa (os : Os) (started : os.Started) (H : Type) (enc : TypeId × Value → H) :
  ReturnsInHanded {} Tryz.checked os 6 .any (Rows.snoopInvariantSpec.pre6 enc Tryz.prog Tryz.f6 Rows.snoopInvariantRow.domain false) (Rows.snoopInvariantSpec.post enc Tryz.prog Tryz.f6 false true false false) := by
 refine returnsInHanded_of_change_sized (C := Tryz.checked) own started (by kernel_rfl) Tryz.func6
  (ChangeSpec.witness6 (enc := enc) (C := Tryz.checked) false ⟨#[], #[.agg #[.slice none 0 0, .slice none 0 0, .slice none 0 0], .agg #[.slice none 0 0, .bool false, .slice none 0 0, .bool false, .slice none 0 0, .slice none 0 0]], []⟩ 8 (by kernel_rfl) (by kernel_rfl) (by kernel_rfl) (by kernel_rfl)) ?_
 intro W base args ds gs before hval0 hW hcnd hsz0 _;have hval : ∀ (j : Nat) t v, Tryz.f6.params[j]? = some t → args[j]? = some v → Value.okWide Tryz.prog W .any base t v := hval0;have hsz : (DataW.weightsEach Tryz.prog (Tryz.f6.params.toList ++ Rows.snoopInvariantSpec.plain.varTypes Tryz.prog) (ds ++ gs)).all (· ≤ reachBytes) = true := hsz0;have hW' := hW;obtain ⟨p, q, hA0, hV, rfl, hfz, hnd⟩ := hW;have hA : DataW.TrodAll enc Tryz.prog W 0 (fun _ => true) true Tryz.f6.params.toList args.toList ds p := hA0;rw [Tryz.params6] at hA hval hsz;obtain ⟨v0, vs0, d0, ds0, p0, q0, hargs, rfl, rfl, h0, r0⟩ := trodAll_cons hA;obtain ⟨v1, vs1, d1, ds1, p1, q1, rfl, rfl, rfl, h1, r1⟩ := trodAll_cons r0;obtain ⟨rfl, rfl, rfl⟩ := trodAll_nil r1;obtain rfl : args = #[v0, v1] := by cases args; simp_all
 obtain ⟨rfl, rfl⟩ := trodVars_none hV;have k0 := h0;have k1 := h1;have lt0 : ∀ x ∈ p0, x.block < W.heap.size := by obtain ⟨m, hm⟩ := k0; exact DataW.trod_lt m _ _ _ hm
 have lt1 : ∀ x ∈ p1, x.block < W.heap.size := by obtain ⟨m, hm⟩ := k1; exact DataW.trod_lt m _ _ _ hm
 obtain ⟨c0, c1, c2, y0, y1, y2, n0, rfl, -, -, t0, t1, t2⟩ := open_agg3 Tryz.underlying26 (by kernel_rfl) cells_lin (hval 0 26 v0 rfl rfl) h0;obtain ⟨cs, rfl, hcs⟩ := okWide_struct Tryz.underlying67 (hval 1 67 v1 rfl rfl)
 have hw1 : ∀ k ∈ d1.weights Tryz.prog 67, k ≤ reachBytes := fun k hk => by
  have h9 := List.all_eq_true.1 hsz k (DataW.weights_mem_each (j := 1) (by rfl) (by rfl) k hk);simpa using h9
 obtain ⟨z0, z1, z2, z3, z4, z5, rfl⟩ := arr6 (hcs.trans cells_chg);obtain ⟨fuel, hf⟩ := h1;have hf' : DataW.trod enc Tryz.prog W 0 (fun _ => true) true fuel 67 [z0, z1, z2, z3, z4, z5] = some (d1, p1) := hf;obtain ⟨u0, u1, u2, n1, hx, -, f0, f1, f2⟩ := Go.Deep.trod_struct3 Tryz.underlying67 hf';simp only [Prod.mk.injEq] at hx;obtain ⟨rfl, -⟩ := hx;simp only [cells_mat, cells_rat, cells_rats, List.drop_zero, List.take_succ_cons, List.take_zero, List.drop_succ_cons] at f0 f1 f2;obtain ⟨R, rfl, rfl, g1, g2, sr⟩ := rat_of_trodW f1 (fun k hk => hw1 k (by simp [DataW.weights, DataW.weightsEach, Tryz.underlying67, hk]));obtain ⟨mB, LB, AR, xB⟩ := mt_of_trod f0;obtain ⟨kS, RS, xS⟩ := ls_of_trod f2;obtain ⟨mz, Lz, Az, x0⟩ := mt_of_trod t0;obtain ⟨nl, lz, x1⟩ := ls_of_trod t1;obtain ⟨np, pz, x2⟩ := ls_of_trod t2;clear hA0 hval0;refine (l38_invariant (Z := ⟨mz, Lz, Az, nl, lz, np, pz⟩) ⟨_, _, _, rfl, x0, x1, x2⟩ xB g1 g2 xS sr).mono fun e W' hh => ?_
 obtain ⟨rfl, bel⟩ := hh;exact ⟨_, rfl, _, _, _, [], _, [], hW', trodAll_mk1 (shut_bool Tryz.underlying4 _), (trodAll_cons_mk (Below.trod laidOut (by kernel_rfl) (of_decide_eq_true (by kernel_rfl)) k0 bel lt0) (trodAll_cons_mk (Below.trod laidOut (by kernel_rfl) (of_decide_eq_true (by kernel_rfl)) k1 bel lt1) trodAll_mk0)), rfl, bel.below.frame _, fun h => by cases h⟩
theorem over_sa : Rows.snoopInvariantRow.holds Tryz.pinned (OpenSpec.ofChange Rows.snoopInvariantSpec) :=
 OpenClaim.holds_of_wide 6 Tryz.f6 rfl rfl rfl rfl rfl rfl rfl ⟨rfl, rfl, rfl, rfl, rfl⟩ rfl rfl rfl rfl rfl (by kernel_rfl) Tryz.func6 (by kernel_rfl)
  (of_decide_eq_true (by kernel_rfl)) (by unfold Func.isWrapper; first | (rw [if_pos (by decide +kernel)]; kernel_rfl) | (rw [if_neg (by decide +kernel)]; exact ⟨rfl, rfl⟩))
  (fun os started H enc _ => lifted_sa os started H enc)
theorem invariant_proved : Rows.SnoopInvariantSaid := over_sa
#print axioms invariant_proved
end Go.Proofs.YthkkknjcoidioaaGreat
