/-
  DERIVED. GIVEN WITH THE SEED: THE CARDS: each row of YtdeeekdbhhenpaaGreatDoorRows.lean that lists a variable, with what it lists TIED to the program's text (the seventh form; the later family's looks); each row that meets fmt, with fmt's text TOLD by the authors' own Lean function (tested against real Go, not proved from fmt's source: count such statements apart). THE CARD IS WHAT COUNTS. Prove the row's statement (the work); the ties are given (YtdeeekdbhhenpaaGreatDoorTie.lean); close each card by the builder's one call (the guide's Derived/Test/ToyasCard.lean, 'card_holds'). Laid BY PROGRAM, IN A SANDBOX (cutbox-door.mjs). By AI agents, Wed Nov 11 2026. No macro, syntax, notation, axiom, sorry.
-/
import Derived.Test.YtdeeekdbhhenpaaGreatDoorRows
import GoSem.ClaimSeven
namespace Go.Proofs.YtdeeekdbhhenpaaGreatDoor
namespace Rows

/-- THE TIED CARD OF 'fiduciallaw14.StorePuts'. -/
def storePutsCard : Claim7 := { stood := { row := storePutsRow, standIns := [], harness := (true, "517ff850ec7196cb47ee098cef92a6e41172aa42a7bdc321071c7533d0e695a8"), looks := true }, kinds := [], alts := [], laidByText := true, laidKinds := [.data, .data, .data, .sentinel, .sentinel, .sentinel, .widerDeep], laidTests := true, laidLooks := .later }
def StorePutsCardSaid : Prop := Claim7.holds Tryz.pinned (.plain (OpenSpec.ofChange storePutsSpec)) storePutsCard

/-- THE TIED CARD OF 'fiduciallaw14.StoreAtomic'. -/
def storeAtomicCard : Claim7 := { stood := { row := storeAtomicRow, standIns := [], harness := (true, "517ff850ec7196cb47ee098cef92a6e41172aa42a7bdc321071c7533d0e695a8"), looks := true }, kinds := [], alts := [], laidByText := true, laidKinds := [.data, .data, .data, .sentinel, .sentinel, .sentinel, .widerDeep], laidTests := true, laidLooks := .later }
def StoreAtomicCardSaid : Prop := Claim7.holds Tryz.pinned (.plain (OpenSpec.ofChange storeAtomicSpec)) storeAtomicCard

/-- THE TIED CARD OF 'fiduciallaw14.StoreNames'. -/
def storeNamesCard : Claim7 := { stood := { row := storeNamesRow, standIns := [], harness := (true, "517ff850ec7196cb47ee098cef92a6e41172aa42a7bdc321071c7533d0e695a8"), looks := true }, kinds := [], alts := [], laidByText := true, laidKinds := [.data, .data, .data, .sentinel, .sentinel, .sentinel, .widerDeep], laidTests := true, laidLooks := .later }
def StoreNamesCardSaid : Prop := Claim7.holds Tryz.pinned (.plain (OpenSpec.ofChange storeNamesSpec)) storeNamesCard

/-- THE TIED CARD OF 'fiduciallaw14.StoreLoads'. -/
def storeLoadsCard : Claim7 := { stood := { row := storeLoadsRow, standIns := [], harness := (true, "517ff850ec7196cb47ee098cef92a6e41172aa42a7bdc321071c7533d0e695a8"), looks := true }, kinds := [], alts := [], laidByText := true, laidKinds := [.data, .data, .data, .sentinel, .sentinel, .sentinel, .widerDeep], laidTests := true, laidLooks := .later }
def StoreLoadsCardSaid : Prop := Claim7.holds Tryz.pinned (.plain (OpenSpec.ofChange storeLoadsSpec)) storeLoadsCard

/-- THE TIED CARD OF 'fiduciallaw14.StoreShelves'. -/
def storeShelvesCard : Claim7 := { stood := { row := storeShelvesRow, standIns := [], harness := (true, "517ff850ec7196cb47ee098cef92a6e41172aa42a7bdc321071c7533d0e695a8"), looks := true }, kinds := [], alts := [], laidByText := true, laidKinds := [.data, .data, .data, .sentinel, .sentinel, .sentinel, .widerDeep], laidTests := true, laidLooks := .later }
def StoreShelvesCardSaid : Prop := Claim7.holds Tryz.pinned (.plain (OpenSpec.ofChange storeShelvesSpec)) storeShelvesCard

/-- THE TIED CARD OF 'fiduciallaw14.StoreKeeps'. -/
def storeKeepsCard : Claim7 := { stood := { row := storeKeepsRow, standIns := [], harness := (true, "517ff850ec7196cb47ee098cef92a6e41172aa42a7bdc321071c7533d0e695a8"), looks := true }, kinds := [], alts := [], laidByText := true, laidKinds := [.data, .data, .data, .sentinel, .sentinel, .sentinel, .widerDeep], laidTests := true, laidLooks := .later }
def StoreKeepsCardSaid : Prop := Claim7.holds Tryz.pinned (.plain (OpenSpec.ofChange storeKeepsSpec)) storeKeepsCard

/-- THE TIED CARD OF 'fiduciallaw14.StoreTags'. -/
def storeTagsCard : Claim7 := { stood := { row := storeTagsRow, standIns := [], harness := (true, "517ff850ec7196cb47ee098cef92a6e41172aa42a7bdc321071c7533d0e695a8"), looks := true }, kinds := [], alts := [], laidByText := true, laidKinds := [.data, .data, .data, .sentinel, .sentinel, .sentinel, .widerDeep], laidTests := true, laidLooks := .later }
def StoreTagsCardSaid : Prop := Claim7.holds Tryz.pinned (.plain (OpenSpec.ofChange storeTagsSpec)) storeTagsCard

/-- THE SECOND FORM's CARD OF 'fiduciallaw14.StorePuts'. -/
def storePutsUptoCard : Claim7 := { stood := { row := storePutsUptoRow, standIns := [], harness := (true, "517ff850ec7196cb47ee098cef92a6e41172aa42a7bdc321071c7533d0e695a8"), looks := true }, kinds := [], alts := [], laidByText := true, laidKinds := [.data, .data, .data, .sentinel, .sentinel, .sentinel, .widerDeep], laidTests := true, laidLooks := .later }
def StorePutsUptoCardSaid : Prop := Claim7.holds Tryz.pinned (.plain (OpenSpec.upto storePutsSpec)) storePutsUptoCard

/-- THE SECOND FORM's CARD OF 'fiduciallaw14.StoreAtomic'. -/
def storeAtomicUptoCard : Claim7 := { stood := { row := storeAtomicUptoRow, standIns := [], harness := (true, "517ff850ec7196cb47ee098cef92a6e41172aa42a7bdc321071c7533d0e695a8"), looks := true }, kinds := [], alts := [], laidByText := true, laidKinds := [.data, .data, .data, .sentinel, .sentinel, .sentinel, .widerDeep], laidTests := true, laidLooks := .later }
def StoreAtomicUptoCardSaid : Prop := Claim7.holds Tryz.pinned (.plain (OpenSpec.upto storeAtomicSpec)) storeAtomicUptoCard

/-- THE SECOND FORM's CARD OF 'fiduciallaw14.StoreNames'. -/
def storeNamesUptoCard : Claim7 := { stood := { row := storeNamesUptoRow, standIns := [], harness := (true, "517ff850ec7196cb47ee098cef92a6e41172aa42a7bdc321071c7533d0e695a8"), looks := true }, kinds := [], alts := [], laidByText := true, laidKinds := [.data, .data, .data, .sentinel, .sentinel, .sentinel, .widerDeep], laidTests := true, laidLooks := .later }
def StoreNamesUptoCardSaid : Prop := Claim7.holds Tryz.pinned (.plain (OpenSpec.upto storeNamesSpec)) storeNamesUptoCard

/-- THE SECOND FORM's CARD OF 'fiduciallaw14.StoreLoads'. -/
def storeLoadsUptoCard : Claim7 := { stood := { row := storeLoadsUptoRow, standIns := [], harness := (true, "517ff850ec7196cb47ee098cef92a6e41172aa42a7bdc321071c7533d0e695a8"), looks := true }, kinds := [], alts := [], laidByText := true, laidKinds := [.data, .data, .data, .sentinel, .sentinel, .sentinel, .widerDeep], laidTests := true, laidLooks := .later }
def StoreLoadsUptoCardSaid : Prop := Claim7.holds Tryz.pinned (.plain (OpenSpec.upto storeLoadsSpec)) storeLoadsUptoCard

/-- THE SECOND FORM's CARD OF 'fiduciallaw14.StoreShelves'. -/
def storeShelvesUptoCard : Claim7 := { stood := { row := storeShelvesUptoRow, standIns := [], harness := (true, "517ff850ec7196cb47ee098cef92a6e41172aa42a7bdc321071c7533d0e695a8"), looks := true }, kinds := [], alts := [], laidByText := true, laidKinds := [.data, .data, .data, .sentinel, .sentinel, .sentinel, .widerDeep], laidTests := true, laidLooks := .later }
def StoreShelvesUptoCardSaid : Prop := Claim7.holds Tryz.pinned (.plain (OpenSpec.upto storeShelvesSpec)) storeShelvesUptoCard

/-- THE SECOND FORM's CARD OF 'fiduciallaw14.StoreKeeps'. -/
def storeKeepsUptoCard : Claim7 := { stood := { row := storeKeepsUptoRow, standIns := [], harness := (true, "517ff850ec7196cb47ee098cef92a6e41172aa42a7bdc321071c7533d0e695a8"), looks := true }, kinds := [], alts := [], laidByText := true, laidKinds := [.data, .data, .data, .sentinel, .sentinel, .sentinel, .widerDeep], laidTests := true, laidLooks := .later }
def StoreKeepsUptoCardSaid : Prop := Claim7.holds Tryz.pinned (.plain (OpenSpec.upto storeKeepsSpec)) storeKeepsUptoCard

/-- THE SECOND FORM's CARD OF 'fiduciallaw14.StoreTags'. -/
def storeTagsUptoCard : Claim7 := { stood := { row := storeTagsUptoRow, standIns := [], harness := (true, "517ff850ec7196cb47ee098cef92a6e41172aa42a7bdc321071c7533d0e695a8"), looks := true }, kinds := [], alts := [], laidByText := true, laidKinds := [.data, .data, .data, .sentinel, .sentinel, .sentinel, .widerDeep], laidTests := true, laidLooks := .later }
def StoreTagsUptoCardSaid : Prop := Claim7.holds Tryz.pinned (.plain (OpenSpec.upto storeTagsSpec)) storeTagsUptoCard
end Rows
end Go.Proofs.YtdeeekdbhhenpaaGreatDoor
