/-
  Proved here: the statement NormalReduced of fiduciallaw34 returns true for every input and leaves its arguments as they were. No condition.
-/
import Derived.Test.YtccepmpebioeiaaGreatWb01
import Derived.Test.YtccepmpebioeiaaGreatWb02
import Derived.Test.YtccepmpebioeiaaGreatWb03
import Derived.Test.YtccepmpebioeiaaGreatWb04
import Derived.Test.YtccepmpebioeiaaGreatWb05
import Derived.Test.YtccepmpebioeiaaGreatWb06
import Derived.Test.YtccepmpebioeiaaGreatWb07
import Derived.Test.YtccepmpebioeiaaGreatWb08
import Derived.Test.YtccepmpebioeiaaGreatWb09
import Derived.Test.YtccepmpebioeiaaGreatWb10
import Derived.Test.YtccepmpebioeiaaGreatWb11
import Derived.Test.YtccepmpebioeiaaGreatWb12
import Derived.Test.YtccepmpebioeiaaGreatWb13
import Derived.Test.YtccepmpebioeiaaGreatWb14
import Derived.Test.YtccepmpebioeiaaGreatWb15
import Derived.Test.YtccepmpebioeiaaGreatWb16
import Derived.Test.YtccepmpebioeiaaGreatWb17
import Derived.Test.YtccepmpebioeiaaGreatWb18
import Derived.Test.YtccepmpebioeiaaGreatWb19
import Derived.Test.YtccepmpebioeiaaGreatWb20
import Derived.Test.YtccepmpebioeiaaGreatWb21
import Derived.Test.YtccepmpebioeiaaGreatWb22
import Derived.Test.YtccepmpebioeiaaGreatWb23
import Derived.Test.YtccepmpebioeiaaGreatWb24
import Derived.Test.YtccepmpebioeiaaGreatWb25
import Derived.Test.YtccepmpebioeiaaGreatWb26
import Derived.Test.YtccepmpebioeiaaGreatWb27
import Derived.Test.YtccepmpebioeiaaGreatWb28
import Derived.Test.YtccepmpebioeiaaGreatWb29
import Derived.Test.YtccepmpebioeiaaGreatWb30
import Derived.Test.YtccepmpebioeiaaGreatWb31
import Derived.Test.YtccepmpebioeiaaGreatWb32
import Derived.Test.YtccepmpebioeiaaGreatWb33
import Derived.Test.YtccepmpebioeiaaGreatWb34
import Derived.Test.YtccepmpebioeiaaGreatWb35
import Derived.Test.YtccepmpebioeiaaGreatWb36
import Derived.Test.YtccepmpebioeiaaGreatWb37
import Derived.Test.YtccepmpebioeiaaGreatWb38
import Derived.Test.YtccepmpebioeiaaGreatWb39
import Derived.Test.YtccepmpebioeiaaGreatWb40
import Derived.Test.YtccepmpebioeiaaGreatWb41
import Derived.Test.YtccepmpebioeiaaGreatWb42
import Derived.Test.YtccepmpebioeiaaGreatWb43
import Derived.Test.YtccepmpebioeiaaGreatWb44
import Derived.Test.YtccepmpebioeiaaGreatRows
import Derived.Test.YtccepmpebioeiaaGreatWcb01
import Derived.WalkKit
import Derived.ProofKit
import Derived.OpenShut
import Derived.ShutString
import Derived.ChangeOld
import Derived.Below
set_option linter.all false
set_option maxHeartbeats 8000000
namespace Go.Proofs.YtccepmpebioeiaaGreat
open Go.ChangeShapes Go.WideShapes Go.ChangeAt Go.RowKit Go.Joins
theorem l34_redlaw {N lo hi : Nat} {w : World} {v : Value} {Z : Lin} (h : LinV N lo hi w v Z) (z : Int) :
  Calls Tryz.prog 4 #[v, .int .i64 z] w (RetV w (.bool true)) := by
 cases hf : few34 8 5 Z with
 | false => exact red_out z h hf
 | true =>
  by_cases hc : codeOf Z = 0
  ·have f := few34_lin hf hc
   have hI := h
   obtain ⟨A1, c1, A2, c2, A3, c3, rfl, h1, h2, h3, -⟩ := h.parts
   obtain ⟨k1, k2, k3⟩ := f.mem h1 h2 h3
   have e1 := f.nl
   have e2 := f.np
   rw [e1, e2] at hI ⊢
   exact red_good z hI hf hc k1 k2 k3 f.m0 f.mr f.n0 f.nc f.pos f.hX f.hy f.hp
  ·exact red_bad z h hf hc
set_option maxRecDepth 100000 in
theorem lifted_c (os : Os) (started : os.Started) (H : Type) (enc : TypeId × Value → H) :
  ReturnsInHanded {} Tryz.checked os 4 .any (Rows.normalReducedSpec.pre6 enc Tryz.prog Tryz.f4 Rows.normalReducedRow.domain false) (Rows.normalReducedSpec.post enc Tryz.prog Tryz.f4 false true false false) := by
 refine returnsInHanded_of_change (C := Tryz.checked) own started (by kernel_rfl) Tryz.func4
  (ChangeSpec.witness6 (enc := enc) (C := Tryz.checked) false ⟨#[], #[.agg #[.slice none 0 0, .slice none 0 0, .slice none 0 0], .int .i64 0], []⟩ 8 (by kernel_rfl) (by kernel_rfl) (by kernel_rfl) (by kernel_rfl)) ?_
 intro W base args ds gs before hval0 hW hcnd _
 have hval : ∀ (j : Nat) t v, Tryz.f4.params[j]? = some t → args[j]? = some v → Value.okWide Tryz.prog W .any base t v := hval0
 have hW' := hW
 obtain ⟨p, q, hA0, hV, rfl, hfz, hnd⟩ := hW
 have hA : DataW.TrodAll enc Tryz.prog W 0 (fun _ => true) true Tryz.f4.params.toList args.toList ds p := hA0
 rw [Tryz.params4] at hA hval
 obtain ⟨v0, vs0, d0, ds0, p0, q0, hargs, rfl, rfl, h0, r0⟩ := trodAll_cons hA
 obtain ⟨v1, vs1, d1, ds1, p1, q1, rfl, rfl, rfl, h1, r1⟩ := trodAll_cons r0
 obtain ⟨rfl, rfl, rfl⟩ := trodAll_nil r1
 obtain rfl : args = #[v0, v1] := by cases args; simp_all
 obtain ⟨rfl, rfl⟩ := trodVars_none hV
 have k0 := h0
 have lt0 : ∀ x ∈ p0, x.block < W.heap.size := by obtain ⟨m, hm⟩ := k0; exact DataW.trod_lt m _ _ _ hm
 obtain ⟨c0, c1, c2, y0, y1, y2, n0, rfl, -, -, t0, t1, t2⟩ := open_agg3 Tryz.underlying26 (by kernel_rfl) cells_lin (hval 0 26 v0 rfl rfl) h0
 obtain ⟨z, rfl, rfl, rfl, wz⟩ := open_int Tryz.underlying3 (hval 1 3 v1 rfl rfl) h1
 obtain ⟨mz, Lz, Az, x0⟩ := mt_of_trod t0
 obtain ⟨nl, lz, x1⟩ := ls_of_trod t1
 obtain ⟨np, pz, x2⟩ := ls_of_trod t2
 clear hA0 hval0
 refine (l34_redlaw (Z := ⟨mz, Lz, Az, nl, lz, np, pz⟩) ⟨_, _, _, rfl, x0, x1, x2⟩ z).mono fun e W' hh => ?_
 obtain ⟨rfl, bel⟩ := hh
 exact ⟨_, rfl, _, _, _, [], _, [], hW', trodAll_mk1 (shut_bool Tryz.underlying4 _), (trodAll_cons_mk (Below.trod laidOut (by kernel_rfl) (of_decide_eq_true (by kernel_rfl)) k0 bel lt0) (trodAll_cons_mk (shut_int Tryz.underlying3 wz) trodAll_mk0)), rfl, bel.below.frame _, fun h => by cases h⟩
theorem over_c : Rows.normalReducedRow.holds Tryz.pinned (OpenSpec.ofChange Rows.normalReducedSpec) :=
 OpenClaim.holds_of_wide 4 Tryz.f4 rfl rfl rfl rfl rfl rfl rfl ⟨rfl, rfl, rfl, rfl, rfl⟩ rfl rfl rfl rfl rfl (by kernel_rfl) Tryz.func4 (by kernel_rfl)
  (of_decide_eq_true (by kernel_rfl)) (by unfold Func.isWrapper; first | (rw [if_pos (by decide +kernel)]; kernel_rfl) | (rw [if_neg (by decide +kernel)]; exact ⟨rfl, rfl⟩))
  (fun os started H enc _ => lifted_c os started H enc)
theorem reduced_proved : Rows.NormalReducedSaid := over_c
#print axioms reduced_proved
end Go.Proofs.YtccepmpebioeiaaGreat
