/-
  Proved here: the statement ReliabilityScales of fiduciallaw37 returns true for every input and leaves its arguments as they were. No condition.
-/
import Derived.Test.YtghpfnhmlpfgcaaGreatWb01
import Derived.Test.YtghpfnhmlpfgcaaGreatWb02
import Derived.Test.YtghpfnhmlpfgcaaGreatWb03
import Derived.Test.YtghpfnhmlpfgcaaGreatWb04
import Derived.Test.YtghpfnhmlpfgcaaGreatWb05
import Derived.Test.YtghpfnhmlpfgcaaGreatWb06
import Derived.Test.YtghpfnhmlpfgcaaGreatWb07
import Derived.Test.YtghpfnhmlpfgcaaGreatWb08
import Derived.Test.YtghpfnhmlpfgcaaGreatWb09
import Derived.Test.YtghpfnhmlpfgcaaGreatWb10
import Derived.Test.YtghpfnhmlpfgcaaGreatWb11
import Derived.Test.YtghpfnhmlpfgcaaGreatWb12
import Derived.Test.YtghpfnhmlpfgcaaGreatWb13
import Derived.Test.YtghpfnhmlpfgcaaGreatWb14
import Derived.Test.YtghpfnhmlpfgcaaGreatWb15
import Derived.Test.YtghpfnhmlpfgcaaGreatWb16
import Derived.Test.YtghpfnhmlpfgcaaGreatWb17
import Derived.Test.YtghpfnhmlpfgcaaGreatWb18
import Derived.Test.YtghpfnhmlpfgcaaGreatWb19
import Derived.Test.YtghpfnhmlpfgcaaGreatWb20
import Derived.Test.YtghpfnhmlpfgcaaGreatWb21
import Derived.Test.YtghpfnhmlpfgcaaGreatWb22
import Derived.Test.YtghpfnhmlpfgcaaGreatWb23
import Derived.Test.YtghpfnhmlpfgcaaGreatWb24
import Derived.Test.YtghpfnhmlpfgcaaGreatWb25
import Derived.Test.YtghpfnhmlpfgcaaGreatWb26
import Derived.Test.YtghpfnhmlpfgcaaGreatWb27
import Derived.Test.YtghpfnhmlpfgcaaGreatWb28
import Derived.Test.YtghpfnhmlpfgcaaGreatWb29
import Derived.Test.YtghpfnhmlpfgcaaGreatWb30
import Derived.Test.YtghpfnhmlpfgcaaGreatWb31
import Derived.Test.YtghpfnhmlpfgcaaGreatWb32
import Derived.Test.YtghpfnhmlpfgcaaGreatWb33
import Derived.Test.YtghpfnhmlpfgcaaGreatWb34
import Derived.Test.YtghpfnhmlpfgcaaGreatWb35
import Derived.Test.YtghpfnhmlpfgcaaGreatWb36
import Derived.Test.YtghpfnhmlpfgcaaGreatWb37
import Derived.Test.YtghpfnhmlpfgcaaGreatWb38
import Derived.Test.YtghpfnhmlpfgcaaGreatWb39
import Derived.Test.YtghpfnhmlpfgcaaGreatWb40
import Derived.Test.YtghpfnhmlpfgcaaGreatWb41
import Derived.Test.YtghpfnhmlpfgcaaGreatWb42
import Derived.Test.YtghpfnhmlpfgcaaGreatRows
import Derived.Test.YtghpfnhmlpfgcaaGreatWf02
import Derived.Deep.Slices
import Derived.Deep.Strs
import Derived.Lib.SmallJoins
import Derived.ProofKit
import Derived.OpenShut
import Derived.WalkKit
import Derived.Below
import Derived.Deep.AppendLies
import Derived.WalkSpells
import Derived.WalkLawsBesides
import Derived.Lib.Hide
import Derived.Deep.RegionHeld3
import Derived.Deep.QuietTactic
import Derived.BigQuiet
import Derived.Maps.AppendAt
import Derived.Deep.DeepCutAuto
import Derived.Deep.RegionWith
import Derived.Deep.DeepMust
import Derived.Test.YtghpfnhmlpfgcaaGreatWf01
import Derived.Laws.IdiomCopy
import Derived.Shelf.Bits.Mul64
import Derived.Deep.CutBlock
import Derived.OrdersIn
import Derived.RegionTactic
import Derived.RangeFuncNested
import Derived.RangeFuncBound
import Derived.RangeFuncCalls
import Derived.RangeFuncLeaves
import Derived.RangeFuncBox
import Derived.Shelf.Abstract
import Derived.OwnWalkIn
import Derived.TacticsInMore
import Derived.LoopNIn
import Derived.LoopIn
import Derived.ShutString
import Derived.ChangeOld
set_option linter.all false
namespace Go.Proofs.YtghpfnhmlpfgcaaGreat
open Go.ChangeShapes Go.WideShapes Go.ChangeAt Go.RowKit Go.Joins
theorem l37_scales {N lo hi lo' hi' : Nat} {w : World} {v u : Value} {Z : Lin} {m : Nat} {L : Nat → Nat} {A : Nat → Nat → Raw} {sc : Nat} (h : LinV N lo hi w v Z) (ht : MtR N lo' hi' w u m L A) (hsc : sc < 256) :
  Calls Tryz.prog 5 #[v, u, .int .u8 (sc : Int)] w (RetV w (.bool true)) := by
 cases hb : scB Z m L A with
 | false => exact sc_early h ht hsc hb
 | true =>
  unfold scB at hb
  simp only [Bool.and_eq_true, decide_eq_true_eq] at hb
  obtain ⟨hf, hf2, hc, hck, hmL, hmZ, hiv⟩ := hb
  have f := few_lin hf hc
  obtain ⟨g1, g2, g3, g4, g5, g6, g7⟩ := few_mat hf2 hck
  have hI := h
  obtain ⟨A1, c1, A2, c2, A3, c3, rfl, h1, h2, h3, -⟩ := h.parts
  obtain ⟨A4, c4, rfl, -, -⟩ := ht.form
  obtain ⟨k1, k2, k3⟩ := f.mem h1 h2 h3
  have e1 := f.nl
  have e2 := f.np
  rw [e1, e2] at hI ⊢
  have hT : MtV N lo' hi' w (.slice A4 m c4) m m (fun i j => ratOf (A i j)) :=
   MtR.congr (L' := fun _ => m) ht (fun i hi => by rw [g5 i hi]; exact hmL.symm) (R' := fun i j => raw (ratOf (A i j))) (fun i hi j hj => g6 i hi j (by rw [← g5 i hi]; exact hj))
  have f2 : FewLin Z m (fun i j => ratOf (Z.A i j)) (fun i => ratOf (Z.l i)) (fun i => ratOf (Z.p i)) := by rw [hmZ]; exact f
  rw [← hmZ] at k1
  rw [← hmL] at g7
  exact sc_good hI hf hc k1 k2 k3 f2.m0 f2.m6 f2.n0 f2.n4 f2.pos f2.hX f2.hy f2.hp ht hf2 hck hmL hT g7 hiv hsc
set_option maxRecDepth 100000 in
theorem lifted_e (os : Os) (started : os.Started) (H : Type) (enc : TypeId × Value → H) :
  ReturnsInHanded {} Tryz.checked os 5 .any (Rows.reliabilityScalesSpec.pre6 enc Tryz.prog Tryz.f5 Rows.reliabilityScalesRow.domain false) (Rows.reliabilityScalesSpec.post enc Tryz.prog Tryz.f5 false true false false) := by
 refine returnsInHanded_of_change (C := Tryz.checked) own started (by kernel_rfl) Tryz.func5
  (ChangeSpec.witness6 (enc := enc) (C := Tryz.checked) false ⟨#[], #[.agg #[.slice none 0 0, .slice none 0 0, .slice none 0 0], .slice none 0 0, .int .u8 0], []⟩ 8 (by kernel_rfl) (by kernel_rfl) (by kernel_rfl) (by kernel_rfl)) ?_
 intro W base args ds gs before hval0 hW hcnd _
 have hval : ∀ (j : Nat) t v, Tryz.f5.params[j]? = some t → args[j]? = some v → Value.okWide Tryz.prog W .any base t v := hval0
 have hW' := hW
 obtain ⟨p, q, hA0, hV, rfl, hfz, hnd⟩ := hW
 have hA : DataW.TrodAll enc Tryz.prog W 0 (fun _ => true) true Tryz.f5.params.toList args.toList ds p := hA0
 rw [Tryz.params5] at hA hval
 obtain ⟨v0, vs0, d0, ds0, p0, q0, hargs, rfl, rfl, h0, r0⟩ := trodAll_cons hA
 obtain ⟨v1, vs1, d1, ds1, p1, q1, rfl, rfl, rfl, h1, r1⟩ := trodAll_cons r0
 obtain ⟨v2, vs2, d2, ds2, p2, q2, rfl, rfl, rfl, h2, r2⟩ := trodAll_cons r1
 obtain ⟨rfl, rfl, rfl⟩ := trodAll_nil r2
 obtain rfl : args = #[v0, v1, v2] := by cases args; simp_all
 obtain ⟨rfl, rfl⟩ := trodVars_none hV
 have k0 := h0
 have lt0 : ∀ x ∈ p0, x.block < W.heap.size := by obtain ⟨m, hm⟩ := k0; exact DataW.trod_lt m _ _ _ hm
 have k1 := h1
 have lt1 : ∀ x ∈ p1, x.block < W.heap.size := by obtain ⟨m, hm⟩ := k1; exact DataW.trod_lt m _ _ _ hm
 obtain ⟨c0, c1, c2, y0, y1, y2, n0, rfl, -, -, t0, t1, t2⟩ := open_agg3 Tryz.underlying26 (by kernel_rfl) cells_lin (hval 0 26 v0 rfl rfl) h0
 obtain ⟨a4, len4, cap4, rfl⟩ := okWide_slice Tryz.underlying23 (hval 1 23 v1 rfl rfl)
 obtain ⟨n1, t4⟩ := h1
 obtain ⟨z, rfl, rfl, rfl, wz⟩ := open_int Tryz.underlying5 (hval 2 5 v2 rfl rfl) h2
 have hz := bounds_u8 wz
 obtain ⟨mz, Lz, Az, x0⟩ := mt_of_trod t0
 obtain ⟨nl, lz, x1⟩ := ls_of_trod t1
 obtain ⟨np, pz, x2⟩ := ls_of_trod t2
 obtain ⟨mt, Lt, At, x3⟩ := mt_of_trod (v := .slice a4 len4 cap4) t4
 clear hA0 hval0
 obtain ⟨sc, rfl⟩ := Int.eq_ofNat_of_zero_le hz.1
 refine (l37_scales (Z := ⟨mz, Lz, Az, nl, lz, np, pz⟩) ⟨_, _, _, rfl, x0, x1, x2⟩ x3 (sc := sc) (by omega)).mono fun e W' hh => ?_
 obtain ⟨rfl, bel⟩ := hh
 exact ⟨_, rfl, _, _, _, [], _, [], hW', trodAll_mk1 (shut_bool Tryz.underlying4 _), (trodAll_cons_mk (Below.trod laidOut (by kernel_rfl) (of_decide_eq_true (by kernel_rfl)) k0 bel lt0) (trodAll_cons_mk (Below.trod laidOut (by kernel_rfl) (of_decide_eq_true (by kernel_rfl)) k1 bel lt1) (trodAll_cons_mk (shut_int Tryz.underlying5 wz) trodAll_mk0))), rfl, bel.below.frame _, fun h => by cases h⟩
theorem over_e : Rows.reliabilityScalesRow.holds Tryz.pinned (OpenSpec.ofChange Rows.reliabilityScalesSpec) :=
 OpenClaim.holds_of_wide 5 Tryz.f5 rfl rfl rfl rfl rfl rfl rfl ⟨rfl, rfl, rfl, rfl, rfl⟩ rfl rfl rfl rfl rfl (by kernel_rfl) Tryz.func5 (by kernel_rfl)
  (of_decide_eq_true (by kernel_rfl)) (by unfold Func.isWrapper; first | (rw [if_pos (by decide +kernel)]; kernel_rfl) | (rw [if_neg (by decide +kernel)]; exact ⟨rfl, rfl⟩))
  (fun os started H enc _ => lifted_e os started H enc)
theorem scales_proved : Rows.ReliabilityScalesSaid := over_e
#print axioms scales_proved
end Go.Proofs.YtghpfnhmlpfgcaaGreat
