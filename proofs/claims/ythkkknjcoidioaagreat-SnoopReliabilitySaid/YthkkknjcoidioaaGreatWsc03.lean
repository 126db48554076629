/-
  Proved here: the statement SnoopReliability of fiduciallaw38 returns true for every input and leaves its arguments as they were. No condition.
-/
import Derived.Test.YthkkknjcoidioaaGreatWb01
import Derived.Test.YthkkknjcoidioaaGreatWb02
import Derived.Test.YthkkknjcoidioaaGreatWb03
import Derived.Test.YthkkknjcoidioaaGreatWb04
import Derived.Test.YthkkknjcoidioaaGreatWb05
import Derived.Test.YthkkknjcoidioaaGreatWb06
import Derived.Test.YthkkknjcoidioaaGreatWb07
import Derived.Test.YthkkknjcoidioaaGreatWb08
import Derived.Test.YthkkknjcoidioaaGreatWb09
import Derived.Test.YthkkknjcoidioaaGreatWb10
import Derived.Test.YthkkknjcoidioaaGreatWb11
import Derived.Test.YthkkknjcoidioaaGreatWb12
import Derived.Test.YthkkknjcoidioaaGreatWb13
import Derived.Test.YthkkknjcoidioaaGreatWb14
import Derived.Test.YthkkknjcoidioaaGreatWb15
import Derived.Test.YthkkknjcoidioaaGreatWb16
import Derived.Test.YthkkknjcoidioaaGreatWb17
import Derived.Test.YthkkknjcoidioaaGreatWb18
import Derived.Test.YthkkknjcoidioaaGreatWb19
import Derived.Test.YthkkknjcoidioaaGreatWb20
import Derived.Test.YthkkknjcoidioaaGreatWb21
import Derived.Test.YthkkknjcoidioaaGreatWb22
import Derived.Test.YthkkknjcoidioaaGreatWb23
import Derived.Test.YthkkknjcoidioaaGreatWb24
import Derived.Test.YthkkknjcoidioaaGreatWb25
import Derived.Test.YthkkknjcoidioaaGreatWb26
import Derived.Test.YthkkknjcoidioaaGreatWb27
import Derived.Test.YthkkknjcoidioaaGreatWb28
import Derived.Test.YthkkknjcoidioaaGreatWb29
import Derived.Test.YthkkknjcoidioaaGreatWb30
import Derived.Test.YthkkknjcoidioaaGreatWb31
import Derived.Test.YthkkknjcoidioaaGreatWb32
import Derived.Test.YthkkknjcoidioaaGreatWb33
import Derived.Test.YthkkknjcoidioaaGreatWb34
import Derived.Test.YthkkknjcoidioaaGreatWb35
import Derived.Test.YthkkknjcoidioaaGreatWb36
import Derived.Test.YthkkknjcoidioaaGreatWb37
import Derived.Test.YthkkknjcoidioaaGreatWb38
import Derived.Test.YthkkknjcoidioaaGreatWb39
import Derived.Test.YthkkknjcoidioaaGreatWb40
import Derived.Test.YthkkknjcoidioaaGreatWb41
import Derived.Test.YthkkknjcoidioaaGreatWb42
import Derived.Test.YthkkknjcoidioaaGreatWb43
import Derived.Test.YthkkknjcoidioaaGreatWb44
import Derived.Test.YthkkknjcoidioaaGreatWb46
import Derived.Test.YthkkknjcoidioaaGreatRows
import Derived.Test.YthkkknjcoidioaaGreatWsc02
import Derived.Test.YthkkknjcoidioaaGreatWsc01
import Derived.WalkKit
import Derived.ProofKit
import Derived.OpenShut
import Derived.ShutString
import Derived.ChangeOld
import Derived.Below
set_option linter.all false
set_option maxHeartbeats 8000000
namespace Go.Proofs.YthkkknjcoidioaaGreat
open Go.ChangeShapes Go.WideShapes Go.ChangeAt Go.RowKit Go.Joins
theorem code38_less {Z : Lin} {k : Nat} {R : Nat → Raw} (h : code38 Z k R = 0) : code38 Z 0 (fun _ => raw 0) = 0 := by
 unfold code38 at h ⊢
 by_cases h1 : codeOf Z ≠ 0
 ·rw [if_pos h1] at h; exact absurd h h1
 ·rw [if_neg h1] at h ⊢
  by_cases h2 : allB k (fun i => okR (R i)) = false
  ·rw [if_pos h2] at h; cases h
  ·rw [if_neg h2] at h;rw [if_neg (by decide)]; exact h
theorem rok {N : Nat} {w : World} {u : Value} {Z : Lin} {R : Raw} (hx : RawV N w u R) (hf : few34 7 4 Z = true) (hd : dgn R ≤ 6) (hc : code38 Z 1 (fun _ => R) = 0) : RatV N w u (ratOf R) ∧ Ht 180 (ratOf R) := by
 have hok : okR R = true := allB_true.1 (code38_zero hf hc).ok 0 (by omega);refine ⟨?_, dgn_ht hok hd⟩
 show RawV N w u (raw (ratOf R))
 rw [← raw_ratOf hok]; exact hx
theorem l38_reli {N lo hi : Nat} {w : World} {v u : Value} {Z : Lin} {R : Raw} (h : LinV N lo hi w v Z) (hx : RawV N w u R) (hsx : RawL R) (z : Int) :
  Calls Tryz.prog 7 #[v, .int .i64 z, u] w (RetV w (.bool true)) := by
 cases hf : few34 7 4 Z with
 | false => exact reli_out h hx hsx z (.inl hf)
 | true =>
  rcases Nat.lt_or_ge 6 (dgn R) with hd | hd
  ·exact reli_out h hx hsx z (.inr ⟨hf, hd⟩)
  by_cases hc : code38 Z 0 (fun _ => raw 0) = 0
  ·have g := code38_zero hf hc;have hI := h;obtain ⟨A1, c1, A2, c2, A3, c3, rfl, h1, h2, h3, -⟩ := h.parts;obtain ⟨k1, k2, k3⟩ := g.few.mem h1 h2 h3;have e1 := g.few.nl;have e2 := g.few.np;rw [e1, e2] at hI ⊢;cases hb : inB Z.m z with
   | false =>
    by_cases hc1 : code38 Z 1 (fun _ => R) = 0
    ·obtain ⟨hxr, hdh⟩ := rok hx hf hd hc1;exact reli_okO hI rfl hf hc k1 k2 k3 g.few.md g.reg hx hsx hd z hxr hdh hc1 hb
    ·exact reli_badO hI rfl hf hc k1 k2 k3 g.few.md g.reg hx hsx hd z hc1 hb
   | true =>
    obtain ⟨cw, hcw⟩ := hid_eq (if code38 Z 1 (fun _ => R) = 0 then (if ratOf R ≤ 0 then 2 else if rS Z.m (Z.L 0) (fun i j => ratOf (Z.A i j)) (fun i => ratOf (Z.p i)) z.toNat = 0 then 13 else 0) else code38 Z 1 (fun _ => R));refine reli_main hI rfl hf hc k1 k2 k3 g.few.md g.reg hx hsx hd z rfl rfl rfl (fun W e => ?_) (fun W e => ?_) (rok hx hf hd) hcw hb
    all_goals by_cases hc1 : code38 Z 1 (fun _ => R) = 0
    all_goals have hh := hcw.out
    all_goals first | rw [if_pos hc1] at hh | rw [if_neg hc1] at hh
    ·obtain ⟨hxr, hdh⟩ := rok hx hf hd hc1;have hz := hdh.sz (show 180 ≤ 29000000000 by omega)
     by_cases h1 : ratOf R ≤ 0
     ·rw [if_pos h1] at hh;rw [hh];exact (sn_Detectable_neg (k1.ext e) (k2.ext e) (k3.ext e) (hxr.ext e) g.few.md g.reg hz z hb h1).mono fun _ _ h9 => RetDR.no h9 (by decide)
     ·rw [if_neg h1] at hh
      by_cases h2 : rS Z.m (Z.L 0) (fun i j => ratOf (Z.A i j)) (fun i => ratOf (Z.p i)) z.toNat = 0
      ·rw [if_pos h2] at hh;rw [hh];exact (sn_Detectable_deg (k1.ext e) (k2.ext e) (k3.ext e) (hxr.ext e) g.few.md g.reg hz z hb (Rat.not_le.1 h1) h2).mono fun _ _ h9 => RetDR.no h9 (by decide)
      ·rw [if_neg h2] at hh;rw [hh];exact (sn_Detectable (k1.ext e) (k2.ext e) (k3.ext e) (hxr.ext e) g.few.md g.reg (hdh.mono (by omega)) z hb (Rat.not_le.1 h1) h2).mono fun _ _ h9 => RetDR.yes h9
    ·exact (sn_Detectable_bad (hI.ext e) (hx.ext e) hf (dgn_sz hd) hc1 z).mono fun _ _ h9 => RetDR.no (by rw [hh]; exact h9) (by rw [hh]; exact hc1)
    ·obtain ⟨hxr, hdh⟩ := rok hx hf hd hc1;have hz := hdh.sz (show 180 ≤ 29000000000 by omega)
     by_cases h1 : ratOf R ≤ 0
     ·rw [if_pos h1] at hh;rw [hh];exact (sn_Reach_neg (k1.ext e) (k2.ext e) (k3.ext e) (hxr.ext e) g.few.md g.reg hz z hb h1).mono fun _ _ h9 => RetDR.no h9 (by decide)
     ·rw [if_neg h1] at hh
      by_cases h2 : rS Z.m (Z.L 0) (fun i j => ratOf (Z.A i j)) (fun i => ratOf (Z.p i)) z.toNat = 0
      ·rw [if_pos h2] at hh;rw [hh];exact (sn_Reach_deg (k1.ext e) (k2.ext e) (k3.ext e) (hxr.ext e) g.few.md g.reg hz z hb (Rat.not_le.1 h1) h2).mono fun _ _ h9 => RetDR.no h9 (by decide)
      ·rw [if_neg h2] at hh;rw [hh];exact (sn_Reach (k1.ext e) (k2.ext e) (k3.ext e) (hxr.ext e) g.few.md g.reg (hdh.mono (by omega)) z hb (Rat.not_le.1 h1) h2).mono fun _ _ h9 => RetDR.yes h9
    ·exact (sn_Reach_bad (hI.ext e) (hx.ext e) hf (dgn_sz hd) hc1 z).mono fun _ _ h9 => RetDR.no (by rw [hh]; exact h9) (by rw [hh]; exact hc1)
  ·exact reli_bad h hx hsx z hf hd hc (fun h9 => hc (code38_less h9))
set_option maxRecDepth 100000 in
theorem lifted_sa (os : Os) (started : os.Started) (H : Type) (enc : TypeId × Value → H) :
  ReturnsInHanded {} Tryz.checked os 7 .any (Rows.snoopReliabilitySpec.pre6 enc Tryz.prog Tryz.f7 Rows.snoopReliabilityRow.domain false) (Rows.snoopReliabilitySpec.post enc Tryz.prog Tryz.f7 false true false false) := by
 refine returnsInHanded_of_change_sized (C := Tryz.checked) own started (by kernel_rfl) Tryz.func7
  (ChangeSpec.witness6 (enc := enc) (C := Tryz.checked) false ⟨#[], #[.agg #[.slice none 0 0, .slice none 0 0, .slice none 0 0], .int .i64 0, .agg #[.bool false, .slice none 0 0, .bool false, .slice none 0 0]], []⟩ 8 (by kernel_rfl) (by kernel_rfl) (by kernel_rfl) (by kernel_rfl)) ?_
 intro W base args ds gs before hval0 hW hcnd hsz0 _;have hval : ∀ (j : Nat) t v, Tryz.f7.params[j]? = some t → args[j]? = some v → Value.okWide Tryz.prog W .any base t v := hval0;have hsz : (DataW.weightsEach Tryz.prog (Tryz.f7.params.toList ++ Rows.snoopReliabilitySpec.plain.varTypes Tryz.prog) (ds ++ gs)).all (· ≤ reachBytes) = true := hsz0;have hW' := hW;obtain ⟨p, q, hA0, hV, rfl, hfz, hnd⟩ := hW;have hA : DataW.TrodAll enc Tryz.prog W 0 (fun _ => true) true Tryz.f7.params.toList args.toList ds p := hA0;rw [Tryz.params7] at hA hval hsz;obtain ⟨v0, vs0, d0, ds0, p0, q0, hargs, rfl, rfl, h0, r0⟩ := trodAll_cons hA;obtain ⟨v1, vs1, d1, ds1, p1, q1, rfl, rfl, rfl, h1, r1⟩ := trodAll_cons r0;obtain ⟨v2, vs2, d2, ds2, p2, q2, rfl, rfl, rfl, h2, r2⟩ := trodAll_cons r1;obtain ⟨rfl, rfl, rfl⟩ := trodAll_nil r2;obtain rfl : args = #[v0, v1, v2] := by cases args; simp_all
 obtain ⟨rfl, rfl⟩ := trodVars_none hV;have k0 := h0;have k2 := h2;have lt0 : ∀ x ∈ p0, x.block < W.heap.size := by obtain ⟨m, hm⟩ := k0; exact DataW.trod_lt m _ _ _ hm
 have lt2 : ∀ x ∈ p2, x.block < W.heap.size := by obtain ⟨m, hm⟩ := k2; exact DataW.trod_lt m _ _ _ hm
 obtain ⟨c0, c1, c2, y0, y1, y2, n0, rfl, -, -, t0, t1, t2⟩ := open_agg3 Tryz.underlying26 (by kernel_rfl) cells_lin (hval 0 26 v0 rfl rfl) h0;obtain ⟨z, rfl, rfl, rfl, wz⟩ := open_int Tryz.underlying3 (hval 1 3 v1 rfl rfl) h1
 obtain ⟨R, xr, sr⟩ := open_rat (hval 2 36 v2 rfl rfl) h2 (fun k hk => by
  have h9 := List.all_eq_true.1 hsz k (DataW.weights_mem_each (j := 2) (by rfl) (by rfl) k hk)
  simpa using h9)
 obtain ⟨mz, Lz, Az, x0⟩ := mt_of_trod t0;obtain ⟨nl, lz, x1⟩ := ls_of_trod t1;obtain ⟨np, pz, x2⟩ := ls_of_trod t2;clear hA0 hval0;refine (l38_reli (Z := ⟨mz, Lz, Az, nl, lz, np, pz⟩) ⟨_, _, _, rfl, x0, x1, x2⟩ xr sr z).mono fun e W' hh => ?_
 obtain ⟨rfl, bel⟩ := hh;exact ⟨_, rfl, _, _, _, [], _, [], hW', trodAll_mk1 (shut_bool Tryz.underlying4 _), (trodAll_cons_mk (Below.trod laidOut (by kernel_rfl) (of_decide_eq_true (by kernel_rfl)) k0 bel lt0) (trodAll_cons_mk (shut_int Tryz.underlying3 wz) (trodAll_cons_mk (Below.trod laidOut (by kernel_rfl) (of_decide_eq_true (by kernel_rfl)) k2 bel lt2) trodAll_mk0))), rfl, bel.below.frame _, fun h => by cases h⟩
theorem over_sa : Rows.snoopReliabilityRow.holds Tryz.pinned (OpenSpec.ofChange Rows.snoopReliabilitySpec) :=
 OpenClaim.holds_of_wide 7 Tryz.f7 rfl rfl rfl rfl rfl rfl rfl ⟨rfl, rfl, rfl, rfl, rfl⟩ rfl rfl rfl rfl rfl (by kernel_rfl) Tryz.func7 (by kernel_rfl)
  (of_decide_eq_true (by kernel_rfl)) (by unfold Func.isWrapper; first | (rw [if_pos (by decide +kernel)]; kernel_rfl) | (rw [if_neg (by decide +kernel)]; exact ⟨rfl, rfl⟩))
  (fun os started H enc _ => lifted_sa os started H enc)
theorem reliability_proved : Rows.SnoopReliabilitySaid := over_sa
#print axioms reliability_proved
end Go.Proofs.YthkkknjcoidioaaGreat
