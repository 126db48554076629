/-
  Proved here: the statement NormalValues of fiduciallaw34 returns true for every input and leaves its arguments as they were. No condition.
-/
import Derived.Test.YtccepmpebioeiaaGreatWb01
import Derived.Test.YtccepmpebioeiaaGreatWb02
import Derived.Test.YtccepmpebioeiaaGreatWb03
import Derived.Test.YtccepmpebioeiaaGreatWb04
import Derived.Test.YtccepmpebioeiaaGreatWb05
import Derived.Test.YtccepmpebioeiaaGreatWb06
import Derived.Test.YtccepmpebioeiaaGreatWb07
import Derived.Test.YtccepmpebioeiaaGreatWb08
import Derived.Test.YtccepmpebioeiaaGreatWb09
import Derived.Test.YtccepmpebioeiaaGreatWb10
import Derived.Test.YtccepmpebioeiaaGreatWb11
import Derived.Test.YtccepmpebioeiaaGreatWb12
import Derived.Test.YtccepmpebioeiaaGreatWb13
import Derived.Test.YtccepmpebioeiaaGreatWb14
import Derived.Test.YtccepmpebioeiaaGreatWb15
import Derived.Test.YtccepmpebioeiaaGreatWb16
import Derived.Test.YtccepmpebioeiaaGreatWb17
import Derived.Test.YtccepmpebioeiaaGreatWb18
import Derived.Test.YtccepmpebioeiaaGreatWb19
import Derived.Test.YtccepmpebioeiaaGreatWb20
import Derived.Test.YtccepmpebioeiaaGreatWb21
import Derived.Test.YtccepmpebioeiaaGreatWb22
import Derived.Test.YtccepmpebioeiaaGreatWb23
import Derived.Test.YtccepmpebioeiaaGreatWb24
import Derived.Test.YtccepmpebioeiaaGreatWb25
import Derived.Test.YtccepmpebioeiaaGreatWb26
import Derived.Test.YtccepmpebioeiaaGreatWb27
import Derived.Test.YtccepmpebioeiaaGreatWb29
import Derived.Test.YtccepmpebioeiaaGreatWb30
import Derived.Test.YtccepmpebioeiaaGreatWb31
import Derived.Test.YtccepmpebioeiaaGreatWb32
import Derived.Test.YtccepmpebioeiaaGreatWb33
import Derived.Test.YtccepmpebioeiaaGreatWb34
import Derived.Test.YtccepmpebioeiaaGreatWb35
import Derived.Test.YtccepmpebioeiaaGreatWb37
import Derived.Test.YtccepmpebioeiaaGreatWb38
import Derived.Test.YtccepmpebioeiaaGreatWb39
import Derived.Test.YtccepmpebioeiaaGreatWb40
import Derived.Test.YtccepmpebioeiaaGreatWb41
import Derived.Test.YtccepmpebioeiaaGreatWb42
import Derived.Test.YtccepmpebioeiaaGreatWb43
import Derived.Test.YtccepmpebioeiaaGreatWb44
import Derived.Test.YtccepmpebioeiaaGreatRows
import Derived.Test.YtccepmpebioeiaaGreatWcc01
import Derived.WalkKit
import Derived.ProofKit
import Derived.OpenShut
import Derived.ShutString
import Derived.ChangeOld
import Derived.Below
set_option linter.all false
set_option maxHeartbeats 8000000
namespace Go.Proofs.YtccepmpebioeiaaGreat
open Go.ChangeShapes Go.WideShapes Go.ChangeAt Go.RowKit Go.Joins
theorem giv_zero {Z : Lin} {n : Nat} {R : Nat → Raw} (h : givCode Z n R = 0) : codeOf Z = 0 ∧ allB n (fun i => okR (R i)) = true ∧ n = Z.L 0 := by
 unfold givCode at h
 by_cases h1 : codeOf Z ≠ 0
 ·rw [if_pos h1] at h; exact absurd h h1
 rw [if_neg h1] at h
 by_cases h2 : allB n (fun i => okR (R i)) = false
 ·rw [if_pos h2] at h; exact absurd h (by decide)
 rw [if_neg h2] at h
 by_cases h3 : n ≠ Z.L 0
 ·rw [if_pos h3] at h; exact absurd h (by decide)
 exact ⟨by omega, by simpa using h2, by omega⟩
theorem l34_values {N lo hi lo' hi' : Nat} {w : World} {v u : Value} {Z : Lin} {n : Nat} {R : Nat → Raw} (h : LinV N lo hi w v Z) (hx : LsR N lo' hi' w u n R) :
  Calls Tryz.prog 6 #[v, u] w (RetV w (.bool true)) := by
 cases hf : few34 8 6 Z with
 | false => exact val_out h hx (.inl hf)
 | true =>
  cases hs : shB 8 n R with
  | false => exact val_out h hx (.inr ⟨hf, hs⟩)
  | true =>
   by_cases hg : givCode Z n R = 0
   ·obtain ⟨hc, hok, hL⟩ := giv_zero hg
    have f := few34_lin hf hc
    rw [← hL] at f
    have hI := h
    obtain ⟨A1, c1, A2, c2, A3, c3, rfl, h1, h2, h3, -⟩ := h.parts
    obtain ⟨A4, c4, rfl, -⟩ := hx.form
    obtain ⟨k1, k2, k3⟩ := f.mem h1 h2 h3
    obtain ⟨k4, k5⟩ := shB_lsv hs hok hx
    have e1 := f.nl
    have e2 := f.np
    rw [e1, e2] at hI ⊢
    exact val_good hI hx hf hs hc hok k1 k2 k3 k4 f.m0 f.mr f.n0 f.nc f.pos f.hX f.hy f.hp k5
   ·exact val_bad h hx hf hs hg
set_option maxRecDepth 100000 in
theorem lifted_v (os : Os) (started : os.Started) (H : Type) (enc : TypeId × Value → H) :
  ReturnsInHanded {} Tryz.checked os 6 .any (Rows.normalValuesSpec.pre6 enc Tryz.prog Tryz.f6 Rows.normalValuesRow.domain false) (Rows.normalValuesSpec.post enc Tryz.prog Tryz.f6 false true false false) := by
 refine returnsInHanded_of_change (C := Tryz.checked) own started (by kernel_rfl) Tryz.func6
  (ChangeSpec.witness6 (enc := enc) (C := Tryz.checked) false ⟨#[], #[.agg #[.slice none 0 0, .slice none 0 0, .slice none 0 0], .slice none 0 0], []⟩ 8 (by kernel_rfl) (by kernel_rfl) (by kernel_rfl) (by kernel_rfl)) ?_
 intro W base args ds gs before hval0 hW hcnd _
 have hval : ∀ (j : Nat) t v, Tryz.f6.params[j]? = some t → args[j]? = some v → Value.okWide Tryz.prog W .any base t v := hval0
 have hW' := hW
 obtain ⟨p, q, hA0, hV, rfl, hfz, hnd⟩ := hW
 have hA : DataW.TrodAll enc Tryz.prog W 0 (fun _ => true) true Tryz.f6.params.toList args.toList ds p := hA0
 rw [Tryz.params6] at hA hval
 obtain ⟨v0, vs0, d0, ds0, p0, q0, hargs, rfl, rfl, h0, r0⟩ := trodAll_cons hA
 obtain ⟨v1, vs1, d1, ds1, p1, q1, rfl, rfl, rfl, h1, r1⟩ := trodAll_cons r0
 obtain ⟨rfl, rfl, rfl⟩ := trodAll_nil r1
 obtain rfl : args = #[v0, v1] := by cases args; simp_all
 obtain ⟨rfl, rfl⟩ := trodVars_none hV
 have k0 := h0
 have lt0 : ∀ x ∈ p0, x.block < W.heap.size := by obtain ⟨m, hm⟩ := k0; exact DataW.trod_lt m _ _ _ hm
 have k1 := h1
 have lt1 : ∀ x ∈ p1, x.block < W.heap.size := by obtain ⟨m, hm⟩ := k1; exact DataW.trod_lt m _ _ _ hm
 obtain ⟨c0, c1, c2, y0, y1, y2, n0, rfl, -, -, t0, t1, t2⟩ := open_agg3 Tryz.underlying26 (by kernel_rfl) cells_lin (hval 0 26 v0 rfl rfl) h0
 obtain ⟨a4, len4, cap4, rfl⟩ := okWide_slice Tryz.underlying24 (hval 1 24 v1 rfl rfl)
 obtain ⟨n1, t4⟩ := h1
 obtain ⟨mz, Lz, Az, x0⟩ := mt_of_trod t0
 obtain ⟨nl, lz, x1⟩ := ls_of_trod t1
 obtain ⟨np, pz, x2⟩ := ls_of_trod t2
 obtain ⟨nx, rx, x3⟩ := ls_of_trod (v := .slice a4 len4 cap4) t4
 clear hA0 hval0
 refine (l34_values (Z := ⟨mz, Lz, Az, nl, lz, np, pz⟩) ⟨_, _, _, rfl, x0, x1, x2⟩ x3).mono fun e W' hh => ?_
 obtain ⟨rfl, bel⟩ := hh
 exact ⟨_, rfl, _, _, _, [], _, [], hW', trodAll_mk1 (shut_bool Tryz.underlying4 _), (trodAll_cons_mk (Below.trod laidOut (by kernel_rfl) (of_decide_eq_true (by kernel_rfl)) k0 bel lt0) (trodAll_cons_mk (Below.trod laidOut (by kernel_rfl) (of_decide_eq_true (by kernel_rfl)) k1 bel lt1) trodAll_mk0)), rfl, bel.below.frame _, fun h => by cases h⟩
theorem over_v : Rows.normalValuesRow.holds Tryz.pinned (OpenSpec.ofChange Rows.normalValuesSpec) :=
 OpenClaim.holds_of_wide 6 Tryz.f6 rfl rfl rfl rfl rfl rfl rfl ⟨rfl, rfl, rfl, rfl, rfl⟩ rfl rfl rfl rfl rfl (by kernel_rfl) Tryz.func6 (by kernel_rfl)
  (of_decide_eq_true (by kernel_rfl)) (by unfold Func.isWrapper; first | (rw [if_pos (by decide +kernel)]; kernel_rfl) | (rw [if_neg (by decide +kernel)]; exact ⟨rfl, rfl⟩))
  (fun os started H enc _ => lifted_v os started H enc)
theorem values_proved : Rows.NormalValuesSaid := over_v
#print axioms values_proved
end Go.Proofs.YtccepmpebioeiaaGreat
