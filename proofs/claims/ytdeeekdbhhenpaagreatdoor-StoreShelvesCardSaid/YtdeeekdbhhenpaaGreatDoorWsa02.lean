/-
  Proved here: the statement StoreShelves of fiduciallaw14 returns true for every input and leaves its arguments as they were, where the listed package variables read as the program's text lays them (the card ties this). No further condition.
-/
import Derived.Test.YtdeeekdbhhenpaaGreatDoorWsa01
set_option linter.all false
set_option maxHeartbeats 8000000
namespace Go.Proofs.YtdeeekdbhhenpaaGreatDoor
open Go.ChangeShapes Go.WideShapes Go.ChangeAt Go.RowKit Go.Joins
theorem jf_ss : joinedFacts Tryz.prog 7 Tryz.f7 Rows.storeShelvesSpec Rows.storeShelvesRow = true := by kernel_rfl
theorem hf_ss : Tryz.prog.funcNamed Rows.storeShelvesRow.func = some 7 := by kernel_rfl
theorem hi_ss : Tryz.f7.isInstance Tryz.prog Rows.storeShelvesRow.origin Rows.storeShelvesRow.targs := of_decide_eq_true (by kernel_rfl)
theorem hw_ss : Tryz.f7.isWrapper Tryz.prog Rows.storeShelvesRow.wrapper Rows.storeShelvesRow.mainSum := by unfold Func.isWrapper; first | (rw [if_pos (by decide +kernel)]; kernel_rfl) | (rw [if_neg (by decide +kernel)]; exact ⟨rfl, rfl⟩)
theorem q4i : Rows.StoreShelvesSaid :=
 OpenClaim.holds_of_wide 7 Tryz.f7 rfl rfl rfl rfl rfl rfl rfl ⟨rfl, rfl, rfl, rfl, rfl⟩ rfl rfl rfl rfl rfl hf_ss Tryz.func7 jf_ss hi_ss hw_ss
  (fun os started H enc _ => q43 os started H enc)
theorem shelves_proved : Rows.StoreShelvesCardSaid :=
 Claim7.holds_tied_plain_at .later [] [.data, .data, .data, .sentinel, .sentinel, .sentinel, .widerDeep] true (true, "517ff850ec7196cb47ee098cef92a6e41172aa42a7bdc321071c7533d0e695a8") true
  q4i (fun _ h => by cases h) (by kernel_rfl) (fun _ h => by cases h) storeShelves_row_tie rfl ⟨rfl, rfl⟩ (by kernel_rfl) rfl
  (fun f fn hf hfn => by
   obtain rfl : f = 7 := Option.some.inj ((show Tryz.prog.funcNamed "fiducial/fiduciallaw14.StoreShelves" = some 7 by kernel_rfl).symm.trans hf) |>.symm
   obtain rfl : fn = Tryz.f7 := (Option.some.inj (Tryz.func7.symm.trans hfn)).symm
   exact ⟨by kernel_rfl, fun j t ht => by
    rw [Tryz.params7] at ht;have hm : t ∈ [25, 9, 9] := by simpa using Array.mem_of_getElem? ht
    have hall : ([25, 9, 9].all fun u => !Tryz.prog.wantsStandIn u) = true := by kernel_rfl
    exact (show Tryz.prog.wantsStandIn t = false by simpa using List.all_eq_true.1 hall t hm)⟩)
  (by kernel_rfl)
#print axioms shelves_proved
end Go.Proofs.YtdeeekdbhhenpaaGreatDoor
