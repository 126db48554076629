/-
  Proved here: the statement StoreTags of fiduciallaw14 returns true for every input and leaves its arguments as they were, where the listed package variables read as the program's text lays them (the card ties this). No further condition.
-/
import Derived.Test.YtdeeekdbhhenpaaGreatDoorWta02
set_option linter.all false
set_option maxHeartbeats 8000000
namespace Go.Proofs.YtdeeekdbhhenpaaGreatDoor
open Go.ChangeShapes Go.WideShapes Go.ChangeAt Go.RowKit Go.Joins
theorem jf_st : joinedFacts Tryz.prog 9 Tryz.f9 Rows.storeTagsSpec Rows.storeTagsRow = true := by kernel_rfl
theorem hf_st : Tryz.prog.funcNamed Rows.storeTagsRow.func = some 9 := by kernel_rfl
theorem hi_st : Tryz.f9.isInstance Tryz.prog Rows.storeTagsRow.origin Rows.storeTagsRow.targs := of_decide_eq_true (by kernel_rfl)
theorem hw_st : Tryz.f9.isWrapper Tryz.prog Rows.storeTagsRow.wrapper Rows.storeTagsRow.mainSum := by unfold Func.isWrapper; first | (rw [if_pos (by decide +kernel)]; kernel_rfl) | (rw [if_neg (by decide +kernel)]; exact ⟨rfl, rfl⟩)
theorem q4G : Rows.StoreTagsSaid :=
 OpenClaim.holds_of_wide 9 Tryz.f9 rfl rfl rfl rfl rfl rfl rfl ⟨rfl, rfl, rfl, rfl, rfl⟩ rfl rfl rfl rfl rfl hf_st Tryz.func9 jf_st hi_st hw_st
  (fun os started H enc _ => q4l os started H enc)
theorem tags_proved : Rows.StoreTagsCardSaid :=
 Claim7.holds_tied_plain_at .later [] [.data, .data, .data, .sentinel, .sentinel, .sentinel, .widerDeep] true (true, "517ff850ec7196cb47ee098cef92a6e41172aa42a7bdc321071c7533d0e695a8") true
  q4G (fun _ h => by cases h) (by kernel_rfl) (fun _ h => by cases h) storeTags_row_tie rfl ⟨rfl, rfl⟩ (by kernel_rfl) rfl
  (fun f fn hf hfn => by
   obtain rfl : f = 9 := Option.some.inj ((show Tryz.prog.funcNamed "fiducial/fiduciallaw14.StoreTags" = some 9 by kernel_rfl).symm.trans hf) |>.symm
   obtain rfl : fn = Tryz.f9 := (Option.some.inj (Tryz.func9.symm.trans hfn)).symm
   exact ⟨by kernel_rfl, fun j t ht => by
    rw [Tryz.params9] at ht;have hm : t ∈ [25, 9, 9] := by simpa using Array.mem_of_getElem? ht
    have hall : ([25, 9, 9].all fun u => !Tryz.prog.wantsStandIn u) = true := by kernel_rfl
    exact (show Tryz.prog.wantsStandIn t = false by simpa using List.all_eq_true.1 hall t hm)⟩)
  (by kernel_rfl)
#print axioms tags_proved
end Go.Proofs.YtdeeekdbhhenpaaGreatDoor
