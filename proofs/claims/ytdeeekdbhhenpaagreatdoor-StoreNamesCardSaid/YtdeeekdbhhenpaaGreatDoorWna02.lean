/-
  Proved here: the statement StoreNames of fiduciallaw14 returns true for every input and leaves its arguments as they were, where the listed package variables read as the program's text lays them (the card ties this). No further condition.
-/
import Derived.Test.YtdeeekdbhhenpaaGreatDoorCards
import Derived.Test.YtdeeekdbhhenpaaGreatDoorTie
import Derived.Test.YtdeeekdbhhenpaaGreatDoorWna01
import Derived.ShutString
import Derived.ChangeOld
set_option linter.all false
set_option maxHeartbeats 8000000
namespace Go.Proofs.YtdeeekdbhhenpaaGreatDoor
open Go.ChangeShapes Go.WideShapes Go.ChangeAt Go.RowKit Go.Joins
set_option maxRecDepth 100000 in
theorem Vq (os : Os) (started : os.Started) (H : Type) (enc : TypeId × Value -> H) :
  ReturnsInHanded {} Tryz.checked os 5 .any (fun w args => (Rows.storeNamesSpec.pre enc Tryz.prog Tryz.f5 [] false w args /\ laidMetH Tryz.prog V9 w) /\ sizedMet enc Tryz.prog Tryz.f5 (OpenSpec.ofChange Rows.storeNamesSpec) false w args) (Rows.storeNamesSpec.post enc Tryz.prog Tryz.f5 false true false false) := by
 refine returnsInHanded_of_change_and (C := Tryz.checked) (X := fun w _ => laidMetH Tryz.prog V9 w) (fun _ _ _ hh h => h.of_heap hh) own started (by kernel_rfl) Tryz.func5
  (ChangeSpec.witness_shaped (enc := enc) (C := Tryz.checked) (os := os) (X := fun w _ => laidMetH Tryz.prog V9 w) false (World.doorLaid Tryz.prog 86 os) #[.slice none 0 0, .slice none 0 0] 8 rfl (World.shaped_of_RefB (by kernel_rfl) (by kernel_rfl)) (by kernel_rfl) (by kernel_rfl) (by kernel_rfl) (door_met os _)) ?_
 intro W base args ds gs before hval0 hW hcnd hsz hL _;have hval : ∀ (j : Nat) t v, Tryz.f5.params[j]? = some t -> args[j]? = some v -> Value.okWide Tryz.prog W .any base t v := hval0;have hW' := hW;obtain ⟨p, q, hA0, hV, rfl, hfz, hnd⟩ := hW;have hA : DataW.TrodAll enc Tryz.prog W 0 (fun _ => true) true Tryz.f5.params.toList args.toList ds p := hA0;have hpar := Tryz.params5;rw [hpar] at hA hval hsz;obtain ⟨v0, vs0, d0, ds0, p0, q0, hargs, rfl, rfl, h0, r0⟩ := trodAll_cons hA;obtain ⟨v1, vs1, d1, ds1, p1, q1, rfl, rfl, rfl, h1, r1⟩ := trodAll_cons r0;obtain ⟨rfl, rfl, rfl⟩ := trodAll_nil r1;obtain rfl : args = #[v0, v1] := by cases args; simp_all
 obtain ⟨rfl, rfl⟩ := trodVars_none hV;have k0 := h0;have lt0 : ∀ x ∈ p0, x.block < W.heap.size := by obtain ⟨m, hm⟩ := k0; exact DataW.trod_lt m _ _ _ hm
 have k1 := h1;have lt1 : ∀ x ∈ p1, x.block < W.heap.size := by obtain ⟨m, hm⟩ := k1; exact DataW.trod_lt m _ _ _ hm
 obtain ⟨A1, n1, c1, rfl⟩ := okWide_slice Tryz.underlying44 (hval 0 44 v0 rfl rfl);obtain ⟨A2, n2, c2, rfl⟩ := okWide_slice Tryz.underlying27 (hval 1 27 v1 rfl rfl)
 obtain ⟨D, hD⟩ : ∃ D, kS W (.slice A1 n1 c1) D := by
  obtain ⟨m, hm⟩ := h0;exact V8 (x := (d0, p0)) hm
 obtain ⟨ord, ho⟩ : ∃ l, ByV W (.slice A2 n2 c2) l := by
  obtain ⟨m, hm⟩ := h1;exact YY (x := (d1, p1)) hm
 have he := Va hL;clear hA0 hval0 hsz;refine (YV hD ho he (Yq he)).mono fun e W' hh => ?_
 obtain ⟨rfl, bel⟩ := hh;exact ⟨_, rfl, _, _, _, [], _, [], hW', trodAll_mk1 (shut_bool Tryz.underlying4 _), (trodAll_cons_mk (Below.trod laidOut (by kernel_rfl) (of_decide_eq_true (by kernel_rfl)) k0 bel lt0) (trodAll_cons_mk (Below.trod laidOut (by kernel_rfl) (of_decide_eq_true (by kernel_rfl)) k1 bel lt1) trodAll_mk0)), rfl, bel.below.frame _, fun h => by cases h⟩
theorem VJ : Rows.StoreNamesSaid :=
 OpenClaim.holds_of_wide 5 Tryz.f5 rfl rfl rfl rfl rfl rfl rfl ⟨rfl, rfl, rfl, rfl, rfl⟩ rfl rfl rfl rfl rfl (by kernel_rfl) Tryz.func5 (by kernel_rfl)
  (of_decide_eq_true (by kernel_rfl)) (by unfold Func.isWrapper; first | (rw [if_pos (by decide +kernel)]; kernel_rfl) | (rw [if_neg (by decide +kernel)]; exact ⟨rfl, rfl⟩))
  (fun os started H enc _ => Vq os started H enc)
theorem names_proved : Rows.StoreNamesCardSaid :=
 Claim7.holds_tied_plain_at .later [] [.data, .data, .data, .sentinel, .sentinel, .sentinel, .widerDeep] true (true, "517ff850ec7196cb47ee098cef92a6e41172aa42a7bdc321071c7533d0e695a8") true
  VJ (fun _ h => by cases h) (by kernel_rfl) (fun _ h => by cases h) storeNames_row_tie rfl ⟨rfl, rfl⟩ (by kernel_rfl) rfl
  (fun f fn hf hfn => by
   obtain rfl : f = 5 := Option.some.inj ((show Tryz.prog.funcNamed "fiducial/fiduciallaw14.StoreNames" = some 5 by kernel_rfl).symm.trans hf) |>.symm
   obtain rfl : fn = Tryz.f5 := (Option.some.inj (Tryz.func5.symm.trans hfn)).symm
   exact ⟨by kernel_rfl, fun j t ht => by
    rw [Tryz.params5] at ht;have hm : t ∈ [44, 27] := by simpa using Array.mem_of_getElem? ht
    have hall : ([44, 27].all fun u => !Tryz.prog.wantsStandIn u) = true := by kernel_rfl
    exact (show Tryz.prog.wantsStandIn t = false by simpa using List.all_eq_true.1 hall t hm)⟩)
  (by kernel_rfl)
#print axioms names_proved
end Go.Proofs.YtdeeekdbhhenpaaGreatDoor
