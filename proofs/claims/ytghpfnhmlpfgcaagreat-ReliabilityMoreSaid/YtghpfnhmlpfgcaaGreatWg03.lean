/-
  Proved here: the statement ReliabilityMore of fiduciallaw37 returns true for every input and leaves its arguments as they were. No condition.
-/
import Derived.Test.YtghpfnhmlpfgcaaGreatWb01
import Derived.Test.YtghpfnhmlpfgcaaGreatWb02
import Derived.Test.YtghpfnhmlpfgcaaGreatWb03
import Derived.Test.YtghpfnhmlpfgcaaGreatWb04
import Derived.Test.YtghpfnhmlpfgcaaGreatWb05
import Derived.Test.YtghpfnhmlpfgcaaGreatWb06
import Derived.Test.YtghpfnhmlpfgcaaGreatWb07
import Derived.Test.YtghpfnhmlpfgcaaGreatWb08
import Derived.Test.YtghpfnhmlpfgcaaGreatWb09
import Derived.Test.YtghpfnhmlpfgcaaGreatWb10
import Derived.Test.YtghpfnhmlpfgcaaGreatWb11
import Derived.Test.YtghpfnhmlpfgcaaGreatWb12
import Derived.Test.YtghpfnhmlpfgcaaGreatWb13
import Derived.Test.YtghpfnhmlpfgcaaGreatWb14
import Derived.Test.YtghpfnhmlpfgcaaGreatWb15
import Derived.Test.YtghpfnhmlpfgcaaGreatWb16
import Derived.Test.YtghpfnhmlpfgcaaGreatWb17
import Derived.Test.YtghpfnhmlpfgcaaGreatWb18
import Derived.Test.YtghpfnhmlpfgcaaGreatWb19
import Derived.Test.YtghpfnhmlpfgcaaGreatWb21
import Derived.Test.YtghpfnhmlpfgcaaGreatWb22
import Derived.Test.YtghpfnhmlpfgcaaGreatWb23
import Derived.Test.YtghpfnhmlpfgcaaGreatWb24
import Derived.Test.YtghpfnhmlpfgcaaGreatWb25
import Derived.Test.YtghpfnhmlpfgcaaGreatWb26
import Derived.Test.YtghpfnhmlpfgcaaGreatWb28
import Derived.Test.YtghpfnhmlpfgcaaGreatWb29
import Derived.Test.YtghpfnhmlpfgcaaGreatWb30
import Derived.Test.YtghpfnhmlpfgcaaGreatWb31
import Derived.Test.YtghpfnhmlpfgcaaGreatWb32
import Derived.Test.YtghpfnhmlpfgcaaGreatWb33
import Derived.Test.YtghpfnhmlpfgcaaGreatWb34
import Derived.Test.YtghpfnhmlpfgcaaGreatWb35
import Derived.Test.YtghpfnhmlpfgcaaGreatWb36
import Derived.Test.YtghpfnhmlpfgcaaGreatWb37
import Derived.Test.YtghpfnhmlpfgcaaGreatWb38
import Derived.Test.YtghpfnhmlpfgcaaGreatWb39
import Derived.Test.YtghpfnhmlpfgcaaGreatWb40
import Derived.Test.YtghpfnhmlpfgcaaGreatWb41
import Derived.Test.YtghpfnhmlpfgcaaGreatWb42
import Derived.Test.YtghpfnhmlpfgcaaGreatRows
import Derived.Test.YtghpfnhmlpfgcaaGreatWg02
import Derived.Deep.Slices
import Derived.Deep.Strs
import Derived.Lib.SmallJoins
import Derived.ProofKit
import Derived.OpenShut
import Derived.WalkKit
import Derived.Below
import Derived.Deep.AppendLies
import Derived.WalkSpells
import Derived.WalkLawsBesides
import Derived.Lib.Hide
import Derived.Deep.RegionHeld3
import Derived.Deep.QuietTactic
import Derived.BigQuiet
import Derived.Maps.AppendAt
import Derived.Deep.DeepCutAuto
import Derived.Deep.RegionWith
import Derived.Deep.DeepMust
import Derived.Deep.CutBlock
import Derived.OrdersIn
import Derived.RegionTactic
import Derived.RangeFuncNested
import Derived.RangeFuncBound
import Derived.RangeFuncCalls
import Derived.RangeFuncLeaves
import Derived.RangeFuncBox
import Derived.Shelf.Abstract
import Derived.OwnWalkIn
import Derived.TacticsInMore
import Derived.LoopNIn
import Derived.LoopIn
import Derived.Laws.IdiomCopy
import Derived.Shelf.Bits.Mul64
import Derived.ShutString
import Derived.ChangeOld
set_option linter.all false
namespace Go.Proofs.YtghpfnhmlpfgcaaGreat
open Go.ChangeShapes Go.WideShapes Go.ChangeAt Go.RowKit Go.Joins
theorem l37_more {N lo hi lo' hi' : Nat} {w : World} {v u : Value} {Z : Lin} {n : Nat} {R : Nat → Raw} (h : LinV N lo hi w v Z) (hx : LsR N lo' hi' w u n R) :
  Calls Tryz.prog 8 #[v, u] w (RetV w (.bool true)) := by
 cases hb : moB Z n R with
 | false => exact mo_early h hx hb
 | true =>
  unfold moB at hb
  simp only [Bool.and_eq_true, decide_eq_true_eq] at hb
  obtain ⟨hf, hs, hc, hm2, hok, hnL⟩ := hb
  have f := few_lin hf hc
  have hI := h
  obtain ⟨A1, c1, A2, c2, A3, c3, rfl, h1, h2, h3, -⟩ := h.parts
  obtain ⟨A4, c4, rfl, -⟩ := hx.form
  obtain ⟨k1, k2, k3⟩ := f.mem h1 h2 h3
  have e1 := f.nl
  have e2 := f.np
  rw [e1, e2] at hI ⊢
  rw [← hnL] at f k1
  have hr : ∀ i, i < n → R i = raw (ratOf (R i)) := fun i hi => raw_ratOf (allB_true.1 hok i hi)
  have h4 : LsV N lo' hi' w (.slice A4 n c4) n (fun i => ratOf (R i)) := LsR.congr hx hr
  have hk : HtL n 17 (fun i => ratOf (R i)) := fun i hi => by
   refine brief_ht ?_
   rw [← hr i hi]
   exact (short_all hs).2 i hi
  exact mo_good hI hx hf hs hc hok k1 k2 k3 h4 hm2 f.m6 f.n0 f.n4 f.pos f.hX f.hy f.hp hk
set_option maxRecDepth 100000 in
theorem lifted_f (os : Os) (started : os.Started) (H : Type) (enc : TypeId × Value → H) :
  ReturnsInHanded {} Tryz.checked os 8 .any (Rows.reliabilityMoreSpec.pre6 enc Tryz.prog Tryz.f8 Rows.reliabilityMoreRow.domain false) (Rows.reliabilityMoreSpec.post enc Tryz.prog Tryz.f8 false true false false) := by
 refine returnsInHanded_of_change (C := Tryz.checked) own started (by kernel_rfl) Tryz.func8
  (ChangeSpec.witness6 (enc := enc) (C := Tryz.checked) false ⟨#[], #[.agg #[.slice none 0 0, .slice none 0 0, .slice none 0 0], .slice none 0 0], []⟩ 8 (by kernel_rfl) (by kernel_rfl) (by kernel_rfl) (by kernel_rfl)) ?_
 intro W base args ds gs before hval0 hW hcnd _
 have hval : ∀ (j : Nat) t v, Tryz.f8.params[j]? = some t → args[j]? = some v → Value.okWide Tryz.prog W .any base t v := hval0
 have hW' := hW
 obtain ⟨p, q, hA0, hV, rfl, hfz, hnd⟩ := hW
 have hA : DataW.TrodAll enc Tryz.prog W 0 (fun _ => true) true Tryz.f8.params.toList args.toList ds p := hA0
 rw [Tryz.params8] at hA hval
 obtain ⟨v0, vs0, d0, ds0, p0, q0, hargs, rfl, rfl, h0, r0⟩ := trodAll_cons hA
 obtain ⟨v1, vs1, d1, ds1, p1, q1, rfl, rfl, rfl, h1, r1⟩ := trodAll_cons r0
 obtain ⟨rfl, rfl, rfl⟩ := trodAll_nil r1
 obtain rfl : args = #[v0, v1] := by cases args; simp_all
 obtain ⟨rfl, rfl⟩ := trodVars_none hV
 have k0 := h0
 have lt0 : ∀ x ∈ p0, x.block < W.heap.size := by obtain ⟨m, hm⟩ := k0; exact DataW.trod_lt m _ _ _ hm
 have k1 := h1
 have lt1 : ∀ x ∈ p1, x.block < W.heap.size := by obtain ⟨m, hm⟩ := k1; exact DataW.trod_lt m _ _ _ hm
 obtain ⟨c0, c1, c2, y0, y1, y2, n0, rfl, -, -, t0, t1, t2⟩ := open_agg3 Tryz.underlying26 (by kernel_rfl) cells_lin (hval 0 26 v0 rfl rfl) h0
 obtain ⟨a4, len4, cap4, rfl⟩ := okWide_slice Tryz.underlying24 (hval 1 24 v1 rfl rfl)
 obtain ⟨n1, t4⟩ := h1
 obtain ⟨mz, Lz, Az, x0⟩ := mt_of_trod t0
 obtain ⟨nl, lz, x1⟩ := ls_of_trod t1
 obtain ⟨np, pz, x2⟩ := ls_of_trod t2
 obtain ⟨nx, rx, x3⟩ := ls_of_trod (v := .slice a4 len4 cap4) t4
 clear hA0 hval0
 refine (l37_more (Z := ⟨mz, Lz, Az, nl, lz, np, pz⟩) ⟨_, _, _, rfl, x0, x1, x2⟩ x3).mono fun e W' hh => ?_
 obtain ⟨rfl, bel⟩ := hh
 exact ⟨_, rfl, _, _, _, [], _, [], hW', trodAll_mk1 (shut_bool Tryz.underlying4 _), (trodAll_cons_mk (Below.trod laidOut (by kernel_rfl) (of_decide_eq_true (by kernel_rfl)) k0 bel lt0) (trodAll_cons_mk (Below.trod laidOut (by kernel_rfl) (of_decide_eq_true (by kernel_rfl)) k1 bel lt1) trodAll_mk0)), rfl, bel.below.frame _, fun h => by cases h⟩
theorem over_f : Rows.reliabilityMoreRow.holds Tryz.pinned (OpenSpec.ofChange Rows.reliabilityMoreSpec) :=
 OpenClaim.holds_of_wide 8 Tryz.f8 rfl rfl rfl rfl rfl rfl rfl ⟨rfl, rfl, rfl, rfl, rfl⟩ rfl rfl rfl rfl rfl (by kernel_rfl) Tryz.func8 (by kernel_rfl)
  (of_decide_eq_true (by kernel_rfl)) (by unfold Func.isWrapper; first | (rw [if_pos (by decide +kernel)]; kernel_rfl) | (rw [if_neg (by decide +kernel)]; exact ⟨rfl, rfl⟩))
  (fun os started H enc _ => lifted_f os started H enc)
theorem more_proved : Rows.ReliabilityMoreSaid := over_f
#print axioms more_proved
end Go.Proofs.YtghpfnhmlpfgcaaGreat
