/-
  Proved here: the statement SnoopSingle of fiduciallaw38 returns true for every input and leaves its arguments as they were. No condition.
-/
import Derived.Test.YthkkknjcoidioaaGreatWb01
import Derived.Test.YthkkknjcoidioaaGreatWb02
import Derived.Test.YthkkknjcoidioaaGreatWb03
import Derived.Test.YthkkknjcoidioaaGreatWb04
import Derived.Test.YthkkknjcoidioaaGreatWb05
import Derived.Test.YthkkknjcoidioaaGreatWb06
import Derived.Test.YthkkknjcoidioaaGreatWb07
import Derived.Test.YthkkknjcoidioaaGreatWb08
import Derived.Test.YthkkknjcoidioaaGreatWb09
import Derived.Test.YthkkknjcoidioaaGreatWb10
import Derived.Test.YthkkknjcoidioaaGreatWb11
import Derived.Test.YthkkknjcoidioaaGreatWb12
import Derived.Test.YthkkknjcoidioaaGreatWb13
import Derived.Test.YthkkknjcoidioaaGreatWb14
import Derived.Test.YthkkknjcoidioaaGreatWb15
import Derived.Test.YthkkknjcoidioaaGreatWb16
import Derived.Test.YthkkknjcoidioaaGreatWb17
import Derived.Test.YthkkknjcoidioaaGreatWb18
import Derived.Test.YthkkknjcoidioaaGreatWb19
import Derived.Test.YthkkknjcoidioaaGreatWb20
import Derived.Test.YthkkknjcoidioaaGreatWb21
import Derived.Test.YthkkknjcoidioaaGreatWb22
import Derived.Test.YthkkknjcoidioaaGreatWb23
import Derived.Test.YthkkknjcoidioaaGreatWb24
import Derived.Test.YthkkknjcoidioaaGreatWb25
import Derived.Test.YthkkknjcoidioaaGreatWb26
import Derived.Test.YthkkknjcoidioaaGreatWb27
import Derived.Test.YthkkknjcoidioaaGreatWb28
import Derived.Test.YthkkknjcoidioaaGreatWb29
import Derived.Test.YthkkknjcoidioaaGreatWb30
import Derived.Test.YthkkknjcoidioaaGreatWb31
import Derived.Test.YthkkknjcoidioaaGreatWb32
import Derived.Test.YthkkknjcoidioaaGreatWb33
import Derived.Test.YthkkknjcoidioaaGreatWb34
import Derived.Test.YthkkknjcoidioaaGreatWb35
import Derived.Test.YthkkknjcoidioaaGreatWb36
import Derived.Test.YthkkknjcoidioaaGreatWb37
import Derived.Test.YthkkknjcoidioaaGreatWb38
import Derived.Test.YthkkknjcoidioaaGreatWb39
import Derived.Test.YthkkknjcoidioaaGreatWb40
import Derived.Test.YthkkknjcoidioaaGreatWb41
import Derived.Test.YthkkknjcoidioaaGreatWb42
import Derived.Test.YthkkknjcoidioaaGreatWb46
import Derived.Test.YthkkknjcoidioaaGreatRows
import Derived.Test.YthkkknjcoidioaaGreatWsd01
import Derived.WalkKit
import Derived.ProofKit
import Derived.OpenShut
import Derived.ShutString
import Derived.ChangeOld
import Derived.Below
set_option linter.all false
set_option maxHeartbeats 8000000
namespace Go.Proofs.YthkkknjcoidioaaGreat
open Go.ChangeShapes Go.WideShapes Go.ChangeAt Go.RowKit Go.Joins
theorem l38_single {N lo hi lo2 hi2 : Nat} {w : World} {v vx u : Value} {Z : Lin} {kx : Nat} {Rx : Nat → Raw} {R : Raw} (h : LinV N lo hi w v Z) (hl : LsR N lo2 hi2 w vx kx Rx) (hsl : ∀ i, i < kx → RawL (Rx i)) (hx : RawV N w u R) (hsx : RawL R) :
  Calls Tryz.prog 5 #[v, vx, u] w (RetV w (.bool true)) := by
 cases hf : few34 7 4 Z with
 | false => exact single_out h hl hx hsx (.inl hf)
 | true =>
  by_cases hc : code38 Z 1 (fun _ => R) = 0
  ·have g := code38_zero hf hc;have hok : okR R = true := allB_true.1 g.ok 0 (by omega)
   have hxr : RatV N w u (ratOf R) := by
    show RawV N w u (raw (ratOf R))
    rw [← raw_ratOf hok]; exact hx
   have hI := h;obtain ⟨A1, c1, A2, c2, A3, c3, rfl, h1, h2, h3, -⟩ := h.parts;obtain ⟨k1, k2, k3⟩ := g.few.mem h1 h2 h3;have e1 := g.few.nl;have e2 := g.few.np;rw [e1, e2] at hI ⊢
   by_cases hk : kx = Z.L 0
   ·cases hb1 : allB kx (fun i => okR (Rx i)) with
    | false => exact single_bad hI rfl hf hc k1 k2 k3 hl hsl hx hsx g.few.md g.reg (.inr ⟨hk, .inl hb1⟩)
    | true =>
     cases hb2 : shB 4 kx Rx with
     | false => exact single_bad hI rfl hf hc k1 k2 k3 hl hsl hx hsx g.few.md g.reg (.inr ⟨hk, .inr ⟨hb1, .inl hb2⟩⟩)
     | true =>
      rcases Nat.lt_or_ge 6 (dgn R) with hd | hd
      ·exact single_bad hI rfl hf hc k1 k2 k3 hl hsl hx hsx g.few.md g.reg (.inr ⟨hk, .inr ⟨hb1, .inr ⟨hb2, hd⟩⟩⟩)
      ·obtain ⟨q1, q2⟩ := shB_lsv hb2 hb1 hl;subst hk;exact single_good hI rfl hf hc k1 k2 k3 hl hsl hx hsx g.few.md g.reg hb1 hb2 hd q1 q2 g.few.hX hxr (dgn_ht hok hd)
   ·exact single_bad hI rfl hf hc k1 k2 k3 hl hsl hx hsx g.few.md g.reg (.inl hk)
  ·exact single_out h hl hx hsx (.inr ⟨hf, hc⟩)
set_option maxRecDepth 100000 in
theorem lifted_sa (os : Os) (started : os.Started) (H : Type) (enc : TypeId × Value → H) :
  ReturnsInHanded {} Tryz.checked os 5 .any (Rows.snoopSingleSpec.pre6 enc Tryz.prog Tryz.f5 Rows.snoopSingleRow.domain false) (Rows.snoopSingleSpec.post enc Tryz.prog Tryz.f5 false true false false) := by
 refine returnsInHanded_of_change_sized (C := Tryz.checked) own started (by kernel_rfl) Tryz.func5
  (ChangeSpec.witness6 (enc := enc) (C := Tryz.checked) false ⟨#[], #[.agg #[.slice none 0 0, .slice none 0 0, .slice none 0 0], .slice none 0 0, .agg #[.bool false, .slice none 0 0, .bool false, .slice none 0 0]], []⟩ 8 (by kernel_rfl) (by kernel_rfl) (by kernel_rfl) (by kernel_rfl)) ?_
 intro W base args ds gs before hval0 hW hcnd hsz0 _;have hval : ∀ (j : Nat) t v, Tryz.f5.params[j]? = some t → args[j]? = some v → Value.okWide Tryz.prog W .any base t v := hval0;have hsz : (DataW.weightsEach Tryz.prog (Tryz.f5.params.toList ++ Rows.snoopSingleSpec.plain.varTypes Tryz.prog) (ds ++ gs)).all (· ≤ reachBytes) = true := hsz0;have hW' := hW;obtain ⟨p, q, hA0, hV, rfl, hfz, hnd⟩ := hW;have hA : DataW.TrodAll enc Tryz.prog W 0 (fun _ => true) true Tryz.f5.params.toList args.toList ds p := hA0;rw [Tryz.params5] at hA hval hsz;obtain ⟨v0, vs0, d0, ds0, p0, q0, hargs, rfl, rfl, h0, r0⟩ := trodAll_cons hA;obtain ⟨v1, vs1, d1, ds1, p1, q1, rfl, rfl, rfl, h1, r1⟩ := trodAll_cons r0;obtain ⟨v2, vs2, d2, ds2, p2, q2, rfl, rfl, rfl, h2, r2⟩ := trodAll_cons r1;obtain ⟨rfl, rfl, rfl⟩ := trodAll_nil r2;obtain rfl : args = #[v0, v1, v2] := by cases args; simp_all
 obtain ⟨rfl, rfl⟩ := trodVars_none hV;have k0 := h0;have k1 := h1;have lt1 : ∀ x ∈ p1, x.block < W.heap.size := by obtain ⟨m, hm⟩ := k1; exact DataW.trod_lt m _ _ _ hm
 have k2 := h2;have lt0 : ∀ x ∈ p0, x.block < W.heap.size := by obtain ⟨m, hm⟩ := k0; exact DataW.trod_lt m _ _ _ hm
 have lt2 : ∀ x ∈ p2, x.block < W.heap.size := by obtain ⟨m, hm⟩ := k2; exact DataW.trod_lt m _ _ _ hm
 obtain ⟨c0, c1, c2, y0, y1, y2, n0, rfl, -, -, t0, t1, t2⟩ := open_agg3 Tryz.underlying26 (by kernel_rfl) cells_lin (hval 0 26 v0 rfl rfl) h0;obtain ⟨a4, len4, cap4, rfl⟩ := okWide_slice Tryz.underlying24 (hval 1 24 v1 rfl rfl);obtain ⟨n1, t4⟩ := h1
 obtain ⟨nx, rx, x3, s3⟩ := ls_of_trodW (v := .slice a4 len4 cap4) t4 (fun k hk => by
  have h9 := List.all_eq_true.1 hsz k (DataW.weights_mem_each (j := 1) (by rfl) (by rfl) k hk)
  simpa using h9)
 obtain ⟨R, xr, sr⟩ := open_rat (hval 2 36 v2 rfl rfl) h2 (fun k hk => by
  have h9 := List.all_eq_true.1 hsz k (DataW.weights_mem_each (j := 2) (by rfl) (by rfl) k hk)
  simpa using h9)
 obtain ⟨mz, Lz, Az, x0⟩ := mt_of_trod t0;obtain ⟨nl, lz, x1⟩ := ls_of_trod t1;obtain ⟨np, pz, x2⟩ := ls_of_trod t2;clear hA0 hval0;refine (l38_single (Z := ⟨mz, Lz, Az, nl, lz, np, pz⟩) ⟨_, _, _, rfl, x0, x1, x2⟩ x3 s3 xr sr).mono fun e W' hh => ?_
 obtain ⟨rfl, bel⟩ := hh;exact ⟨_, rfl, _, _, _, [], _, [], hW', trodAll_mk1 (shut_bool Tryz.underlying4 _), (trodAll_cons_mk (Below.trod laidOut (by kernel_rfl) (of_decide_eq_true (by kernel_rfl)) k0 bel lt0) (trodAll_cons_mk (Below.trod laidOut (by kernel_rfl) (of_decide_eq_true (by kernel_rfl)) k1 bel lt1) (trodAll_cons_mk (Below.trod laidOut (by kernel_rfl) (of_decide_eq_true (by kernel_rfl)) k2 bel lt2) trodAll_mk0))), rfl, bel.below.frame _, fun h => by cases h⟩
theorem over_sa : Rows.snoopSingleRow.holds Tryz.pinned (OpenSpec.ofChange Rows.snoopSingleSpec) :=
 OpenClaim.holds_of_wide 5 Tryz.f5 rfl rfl rfl rfl rfl rfl rfl ⟨rfl, rfl, rfl, rfl, rfl⟩ rfl rfl rfl rfl rfl (by kernel_rfl) Tryz.func5 (by kernel_rfl)
  (of_decide_eq_true (by kernel_rfl)) (by unfold Func.isWrapper; first | (rw [if_pos (by decide +kernel)]; kernel_rfl) | (rw [if_neg (by decide +kernel)]; exact ⟨rfl, rfl⟩))
  (fun os started H enc _ => lifted_sa os started H enc)
theorem single_proved : Rows.SnoopSingleSaid := over_sa
#print axioms single_proved
end Go.Proofs.YthkkknjcoidioaaGreat
