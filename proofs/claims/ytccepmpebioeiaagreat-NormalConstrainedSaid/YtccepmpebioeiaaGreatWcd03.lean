/-
  Proved here: the statement NormalConstrained of fiduciallaw34 returns true for every input and leaves its arguments as they were. No condition.
-/
import Derived.Test.YtccepmpebioeiaaGreatWb01
import Derived.Test.YtccepmpebioeiaaGreatWb02
import Derived.Test.YtccepmpebioeiaaGreatWb03
import Derived.Test.YtccepmpebioeiaaGreatWb04
import Derived.Test.YtccepmpebioeiaaGreatWb05
import Derived.Test.YtccepmpebioeiaaGreatWb06
import Derived.Test.YtccepmpebioeiaaGreatWb07
import Derived.Test.YtccepmpebioeiaaGreatWb08
import Derived.Test.YtccepmpebioeiaaGreatWb09
import Derived.Test.YtccepmpebioeiaaGreatWb10
import Derived.Test.YtccepmpebioeiaaGreatWb11
import Derived.Test.YtccepmpebioeiaaGreatWb12
import Derived.Test.YtccepmpebioeiaaGreatWb13
import Derived.Test.YtccepmpebioeiaaGreatWb14
import Derived.Test.YtccepmpebioeiaaGreatWb15
import Derived.Test.YtccepmpebioeiaaGreatWb16
import Derived.Test.YtccepmpebioeiaaGreatWb17
import Derived.Test.YtccepmpebioeiaaGreatWb18
import Derived.Test.YtccepmpebioeiaaGreatWb19
import Derived.Test.YtccepmpebioeiaaGreatWb20
import Derived.Test.YtccepmpebioeiaaGreatWb21
import Derived.Test.YtccepmpebioeiaaGreatWb22
import Derived.Test.YtccepmpebioeiaaGreatWb23
import Derived.Test.YtccepmpebioeiaaGreatWb24
import Derived.Test.YtccepmpebioeiaaGreatWb25
import Derived.Test.YtccepmpebioeiaaGreatWb26
import Derived.Test.YtccepmpebioeiaaGreatWb27
import Derived.Test.YtccepmpebioeiaaGreatWb28
import Derived.Test.YtccepmpebioeiaaGreatWb29
import Derived.Test.YtccepmpebioeiaaGreatWb30
import Derived.Test.YtccepmpebioeiaaGreatWb31
import Derived.Test.YtccepmpebioeiaaGreatWb32
import Derived.Test.YtccepmpebioeiaaGreatWb33
import Derived.Test.YtccepmpebioeiaaGreatWb34
import Derived.Test.YtccepmpebioeiaaGreatWb35
import Derived.Test.YtccepmpebioeiaaGreatWb36
import Derived.Test.YtccepmpebioeiaaGreatWb37
import Derived.Test.YtccepmpebioeiaaGreatWb38
import Derived.Test.YtccepmpebioeiaaGreatWb39
import Derived.Test.YtccepmpebioeiaaGreatWb40
import Derived.Test.YtccepmpebioeiaaGreatWb41
import Derived.Test.YtccepmpebioeiaaGreatWb42
import Derived.Test.YtccepmpebioeiaaGreatWb43
import Derived.Test.YtccepmpebioeiaaGreatWb44
import Derived.Test.YtccepmpebioeiaaGreatRows
import Derived.Test.YtccepmpebioeiaaGreatWcd02
import Derived.WalkKit
import Derived.ProofKit
import Derived.OpenShut
import Derived.ShutString
import Derived.ChangeOld
import Derived.Below
set_option linter.all false
set_option maxHeartbeats 8000000
namespace Go.Proofs.YtccepmpebioeiaaGreat
open Go.ChangeShapes Go.WideShapes Go.ChangeAt Go.RowKit Go.Joins
theorem cells_con : Tryz.prog.cellsOf 54 = 2 := by kernel_rfl
theorem l34_conlaw {N lo hi loc hic lod hid lor hir : Nat} {w : World} {v vc vd vr : Value} {Z : Lin} {k nd nx : Nat} {L : Nat → Nat} {C : Nat → Nat → Raw} {D R : Nat → Raw} (h : LinV N lo hi w v Z) (hIC : MtR N loc hic w vc k L C) (hID : LsR N lod hid w vd nd D) (hIR : LsR N lor hir w vr nx R) :
  Calls Tryz.prog 5 #[v, .agg #[vc, vd], vr] w (RetV w (.bool true)) := by
 cases hf : few34 6 4 Z with
 | false => exact con_out h hIC hID hIR (.inl hf)
 | true =>
 cases hm : shM 14 k L C with
 | false => exact con_out h hIC hID hIR (.inr ⟨hf, .inl hm⟩)
 | true =>
 by_cases hk : 3 < k ∧ k ≤ 12
 ·exact con_out h hIC hID hIR (.inr ⟨hf, .inr ⟨hm, .inl hk⟩⟩)
 have hk' : k ≤ 3 ∨ 12 < k := by omega
 cases hd : shB 14 nd D with
 | false => exact con_out h hIC hID hIR (.inr ⟨hf, .inr ⟨hm, .inr ⟨hk', .inl hd⟩⟩⟩)
 | true =>
 cases hr : shB 8 nx R with
 | false => exact con_out h hIC hID hIR (.inr ⟨hf, .inr ⟨hm, .inr ⟨hk', .inr ⟨hd, hr⟩⟩⟩⟩)
 | true =>
 by_cases hc : codeOf Z = 0
 ·have f := few34_lin hf hc
  have hI := h
  obtain ⟨A1, c1, A2, c2, A3, c3, rfl, h1, h2, h3, -⟩ := h.parts
  obtain ⟨k1, k2, k3⟩ := f.mem h1 h2 h3
  have e1 := f.nl
  have e2 := f.np
  rw [e1, e2] at hI ⊢
  by_cases hb : conCode (Z.L 0) k L C nd D = 0
  ·obtain ⟨g1, g2, g3, g4, g5, g6⟩ := con_zero hb
   subst g6
   obtain ⟨A4, c4, rfl, -⟩ := hIC.form
   obtain ⟨A5, c5, rfl, -⟩ := hID.form
   obtain ⟨A6, c6, rfl, -⟩ := hIR.form
   obtain ⟨k5, k6⟩ := shB_lsv hd (allB_true.2 g2) hID
   have k4 : MtV N loc hic w (.slice A4 nd c4) nd (Z.L 0) (fun i j => ratOf (C i j)) := MtR.congr hIC g5 (fun i hi j hj => raw_ratOf (g1 i hi j hj))
   have k7 : HtM nd (Z.L 0) 17 (fun i j => ratOf (C i j)) := fun i hi j hj => by
    refine brief_ht ?_
    rw [← raw_ratOf (g1 i hi j (by rw [g5 i hi]; exact hj))]
    exact ((shM_all hm).2 i hi).2 j (by rw [g5 i hi]; exact hj)
   exact con_good hI hIC hID hIR hf hm (by omega) hd hr hc hb k1 k2 k3 k4 k5 f.m0 f.mr f.n0 f.nc (by omega) f.pos f.hX f.hy f.hp k7 k6
  ·exact con_cbad hI hIC hID hIR hf hm hk' hd hr hc hb k1 k2 k3 f.m0 f.mr f.n0 f.nc f.pos f.hX f.hy f.hp
 ·exact con_lbad h hIC hID hIR hf hm hk' hd hr hc
set_option maxRecDepth 100000 in
theorem lifted_d (os : Os) (started : os.Started) (H : Type) (enc : TypeId × Value → H) :
  ReturnsInHanded {} Tryz.checked os 5 .any (Rows.normalConstrainedSpec.pre6 enc Tryz.prog Tryz.f5 Rows.normalConstrainedRow.domain false) (Rows.normalConstrainedSpec.post enc Tryz.prog Tryz.f5 false true false false) := by
 refine returnsInHanded_of_change (C := Tryz.checked) own started (by kernel_rfl) Tryz.func5
  (ChangeSpec.witness6 (enc := enc) (C := Tryz.checked) false ⟨#[], #[.agg #[.slice none 0 0, .slice none 0 0, .slice none 0 0], .agg #[.slice none 0 0, .slice none 0 0], .slice none 0 0], []⟩ 8 (by kernel_rfl) (by kernel_rfl) (by kernel_rfl) (by kernel_rfl)) ?_
 intro W base args ds gs before hval0 hW hcnd _
 have hval : ∀ (j : Nat) t v, Tryz.f5.params[j]? = some t → args[j]? = some v → Value.okWide Tryz.prog W .any base t v := hval0
 have hW' := hW
 obtain ⟨p, q, hA0, hV, rfl, hfz, hnd⟩ := hW
 have hA : DataW.TrodAll enc Tryz.prog W 0 (fun _ => true) true Tryz.f5.params.toList args.toList ds p := hA0
 rw [Tryz.params5] at hA hval
 obtain ⟨v0, vs0, d0, ds0, p0, q0, hargs, rfl, rfl, h0, r0⟩ := trodAll_cons hA
 obtain ⟨v1, vs1, d1, ds1, p1, q1, rfl, rfl, rfl, h1, r1⟩ := trodAll_cons r0
 obtain ⟨v2, vs2, d2, ds2, p2, q2, rfl, rfl, rfl, h2, r2⟩ := trodAll_cons r1
 obtain ⟨rfl, rfl, rfl⟩ := trodAll_nil r2
 obtain rfl : args = #[v0, v1, v2] := by cases args; simp_all
 obtain ⟨rfl, rfl⟩ := trodVars_none hV
 have k0 := h0
 have lt0 : ∀ x ∈ p0, x.block < W.heap.size := by obtain ⟨m, hm⟩ := k0; exact DataW.trod_lt m _ _ _ hm
 have k1 := h1
 have lt1 : ∀ x ∈ p1, x.block < W.heap.size := by obtain ⟨m, hm⟩ := k1; exact DataW.trod_lt m _ _ _ hm
 obtain ⟨c0, c1, c2, y0, y1, y2, n0, rfl, -, -, t0, t1, t2⟩ := open_agg3 Tryz.underlying26 (by kernel_rfl) cells_lin (hval 0 26 v0 rfl rfl) h0
 have k2 := h2
 have lt2 : ∀ x ∈ p2, x.block < W.heap.size := by obtain ⟨m, hm⟩ := k2; exact DataW.trod_lt m _ _ _ hm
 obtain ⟨cc0, cc1, z0, z1, n1, rfl, -, -, u0, u1⟩ := open_agg2 Tryz.underlying54 (by kernel_rfl) cells_con (hval 1 54 v1 rfl rfl) h1
 obtain ⟨a4, len4, cap4, rfl⟩ := okWide_slice Tryz.underlying24 (hval 2 24 v2 rfl rfl)
 obtain ⟨n2, t4⟩ := h2
 obtain ⟨mz, Lz, Az, x0⟩ := mt_of_trod t0
 obtain ⟨nl, lz, x1⟩ := ls_of_trod t1
 obtain ⟨np, pz, x2⟩ := ls_of_trod t2
 obtain ⟨mk, Lk, Ck, x3⟩ := mt_of_trod u0
 obtain ⟨nd, Dk, x4⟩ := ls_of_trod u1
 obtain ⟨nr, Rk, x5⟩ := ls_of_trod (v := .slice a4 len4 cap4) t4
 clear hA0 hval0
 refine (l34_conlaw (Z := ⟨mz, Lz, Az, nl, lz, np, pz⟩) ⟨_, _, _, rfl, x0, x1, x2⟩ x3 x4 x5).mono fun e W' hh => ?_
 obtain ⟨rfl, bel⟩ := hh
 exact ⟨_, rfl, _, _, _, [], _, [], hW', trodAll_mk1 (shut_bool Tryz.underlying4 _), (trodAll_cons_mk (Below.trod laidOut (by kernel_rfl) (of_decide_eq_true (by kernel_rfl)) k0 bel lt0) (trodAll_cons_mk (Below.trod laidOut (by kernel_rfl) (of_decide_eq_true (by kernel_rfl)) k1 bel lt1) (trodAll_cons_mk (Below.trod laidOut (by kernel_rfl) (of_decide_eq_true (by kernel_rfl)) k2 bel lt2) trodAll_mk0))), rfl, bel.below.frame _, fun h => by cases h⟩
theorem over_d : Rows.normalConstrainedRow.holds Tryz.pinned (OpenSpec.ofChange Rows.normalConstrainedSpec) :=
 OpenClaim.holds_of_wide 5 Tryz.f5 rfl rfl rfl rfl rfl rfl rfl ⟨rfl, rfl, rfl, rfl, rfl⟩ rfl rfl rfl rfl rfl (by kernel_rfl) Tryz.func5 (by kernel_rfl)
  (of_decide_eq_true (by kernel_rfl)) (by unfold Func.isWrapper; first | (rw [if_pos (by decide +kernel)]; kernel_rfl) | (rw [if_neg (by decide +kernel)]; exact ⟨rfl, rfl⟩))
  (fun os started H enc _ => lifted_d os started H enc)
theorem constrained_proved : Rows.NormalConstrainedSaid := over_d
#print axioms constrained_proved
end Go.Proofs.YtccepmpebioeiaaGreat
