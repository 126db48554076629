/-
  No cell of these rows narrows 'for every input' (looked for: loops, veiled, ifaces, maps, wideKeys, modest, calm, conditions, laid).
  DERIVED. THE GIVEN ROWS OF THIS SEAT. 7 by the template 'for every input the law returns true; each argument reads behind the call as it read before'; 0 by the template 'total and deterministic' (their statements: YthkkknjcoidioaaGreatTotals.lean).
  GIVEN WITH THE SEED: the statements are not yours to turn. If you find one false, say at which input.
  Laid BY PROGRAM, IN A SANDBOX (cutbox-rows.mjs): the forced cells as the released guide's own fill.sh prints them over the translation a808d4973188b92c… (all of the seat's roots in one cut). By AI agents, Wed Nov 11 2026. No macro, syntax, notation, axiom, sorry.
-/
import Derived.Test.YthkkknjcoidioaaGreatChecked
import GoSem.Claim
import GoSem.ClaimJoined
import GoSem.ClaimMapViews
import Derived.JoinedTies
import Derived.KernelRfl
namespace Go.Proofs.YthkkknjcoidioaaGreat
/- THE CELL 'sum', in the pinned program and in every row, IS THE sha256 OF THE DUMP (.gsa) THAT YthkkknjcoidioaaGreatProg.lean LOADS. Nothing in Lean hashes anything: it is a label: what it is worth is what the hold of that sum in a sandbox is worth. -/
noncomputable def Tryz.pinned : Pinned := { name := "ythkkknjcoidioaagreat", sum := "a808d4973188b92c93453c40c26a0e8a910ba591d616b100081b7237407e5d33", checked := Tryz.checked }
namespace Rows
def none {H : Type} : Left H := { results := [], args := [] }

/-- 'fiduciallaw38.SnoopDrops': WHATEVER THE INPUT: true; the input reads as it did. -/
def snoopDropsSpec : ChangeSpec := { name := "snoopDrops", fn := fun _ => fun
  | [d1, d2] => { results := [.lit (.bool true)], args := [d1, d2] }
  | _ => none }
def snoopDropsRow : OpenClaim := { program := "ythkkknjcoidioaagreat", sum := "a808d4973188b92c93453c40c26a0e8a910ba591d616b100081b7237407e5d33", func := "fiducial/fiduciallaw38.SnoopDrops", spec := "snoopDrops", unfollowed := true, recurses := true, apart := false }
def SnoopDropsSaid : Prop := snoopDropsRow.holds Tryz.pinned (OpenSpec.ofChange snoopDropsSpec)

/-- ITS FALSE NEIGHBOUR: 'it returns false'. Refute it at one input. -/
def snoopDropsWrong : ChangeSpec := { name := "snoopDrops", fn := fun _ => fun
  | [d1, d2] => { results := [.lit (.bool false)], args := [d1, d2] }
  | _ => none }
def SnoopDropsWrongFalsely : Prop := snoopDropsRow.holds Tryz.pinned (OpenSpec.ofChange snoopDropsWrong)

/-- 'fiduciallaw38.SnoopSnoops': WHATEVER THE INPUT: true; the input reads as it did. -/
def snoopSnoopsSpec : ChangeSpec := { name := "snoopSnoops", fn := fun _ => fun
  | [d1, d2] => { results := [.lit (.bool true)], args := [d1, d2] }
  | _ => none }
def snoopSnoopsRow : OpenClaim := { program := "ythkkknjcoidioaagreat", sum := "a808d4973188b92c93453c40c26a0e8a910ba591d616b100081b7237407e5d33", func := "fiducial/fiduciallaw38.SnoopSnoops", spec := "snoopSnoops", unfollowed := true, recurses := true, apart := false }
def SnoopSnoopsSaid : Prop := snoopSnoopsRow.holds Tryz.pinned (OpenSpec.ofChange snoopSnoopsSpec)

/-- ITS FALSE NEIGHBOUR: 'it returns false'. Refute it at one input. -/
def snoopSnoopsWrong : ChangeSpec := { name := "snoopSnoops", fn := fun _ => fun
  | [d1, d2] => { results := [.lit (.bool false)], args := [d1, d2] }
  | _ => none }
def SnoopSnoopsWrongFalsely : Prop := snoopSnoopsRow.holds Tryz.pinned (OpenSpec.ofChange snoopSnoopsWrong)

/-- 'fiduciallaw38.SnoopSingle': WHATEVER THE INPUT: true; the input reads as it did. -/
def snoopSingleSpec : ChangeSpec := { name := "snoopSingle", fn := fun _ => fun
  | [d1, d2, d3] => { results := [.lit (.bool true)], args := [d1, d2, d3] }
  | _ => none }
def snoopSingleRow : OpenClaim := { program := "ythkkknjcoidioaagreat", sum := "a808d4973188b92c93453c40c26a0e8a910ba591d616b100081b7237407e5d33", func := "fiducial/fiduciallaw38.SnoopSingle", spec := "snoopSingle", unfollowed := true, recurses := true, apart := false }
def SnoopSingleSaid : Prop := snoopSingleRow.holds Tryz.pinned (OpenSpec.ofChange snoopSingleSpec)

/-- ITS FALSE NEIGHBOUR: 'it returns false'. Refute it at one input. -/
def snoopSingleWrong : ChangeSpec := { name := "snoopSingle", fn := fun _ => fun
  | [d1, d2, d3] => { results := [.lit (.bool false)], args := [d1, d2, d3] }
  | _ => none }
def SnoopSingleWrongFalsely : Prop := snoopSingleRow.holds Tryz.pinned (OpenSpec.ofChange snoopSingleWrong)

/-- 'fiduciallaw38.SnoopInvariant': WHATEVER THE INPUT: true; the input reads as it did. -/
def snoopInvariantSpec : ChangeSpec := { name := "snoopInvariant", fn := fun _ => fun
  | [d1, d2] => { results := [.lit (.bool true)], args := [d1, d2] }
  | _ => none }
def snoopInvariantRow : OpenClaim := { program := "ythkkknjcoidioaagreat", sum := "a808d4973188b92c93453c40c26a0e8a910ba591d616b100081b7237407e5d33", func := "fiducial/fiduciallaw38.SnoopInvariant", spec := "snoopInvariant", unfollowed := true, recurses := true, apart := false }
def SnoopInvariantSaid : Prop := snoopInvariantRow.holds Tryz.pinned (OpenSpec.ofChange snoopInvariantSpec)

/-- ITS FALSE NEIGHBOUR: 'it returns false'. Refute it at one input. -/
def snoopInvariantWrong : ChangeSpec := { name := "snoopInvariant", fn := fun _ => fun
  | [d1, d2] => { results := [.lit (.bool false)], args := [d1, d2] }
  | _ => none }
def SnoopInvariantWrongFalsely : Prop := snoopInvariantRow.holds Tryz.pinned (OpenSpec.ofChange snoopInvariantWrong)

/-- 'fiduciallaw38.SnoopReliability': WHATEVER THE INPUT: true; the input reads as it did. -/
def snoopReliabilitySpec : ChangeSpec := { name := "snoopReliability", fn := fun _ => fun
  | [d1, d2, d3] => { results := [.lit (.bool true)], args := [d1, d2, d3] }
  | _ => none }
def snoopReliabilityRow : OpenClaim := { program := "ythkkknjcoidioaagreat", sum := "a808d4973188b92c93453c40c26a0e8a910ba591d616b100081b7237407e5d33", func := "fiducial/fiduciallaw38.SnoopReliability", spec := "snoopReliability", unfollowed := true, recurses := true, apart := false }
def SnoopReliabilitySaid : Prop := snoopReliabilityRow.holds Tryz.pinned (OpenSpec.ofChange snoopReliabilitySpec)

/-- ITS FALSE NEIGHBOUR: 'it returns false'. Refute it at one input. -/
def snoopReliabilityWrong : ChangeSpec := { name := "snoopReliability", fn := fun _ => fun
  | [d1, d2, d3] => { results := [.lit (.bool false)], args := [d1, d2, d3] }
  | _ => none }
def SnoopReliabilityWrongFalsely : Prop := snoopReliabilityRow.holds Tryz.pinned (OpenSpec.ofChange snoopReliabilityWrong)

/-- 'fiduciallaw38.SnoopChanges': WHATEVER THE INPUT: true; the input reads as it did. -/
def snoopChangesSpec : ChangeSpec := { name := "snoopChanges", fn := fun _ => fun
  | [d1, d2, d3] => { results := [.lit (.bool true)], args := [d1, d2, d3] }
  | _ => none }
def snoopChangesRow : OpenClaim := { program := "ythkkknjcoidioaagreat", sum := "a808d4973188b92c93453c40c26a0e8a910ba591d616b100081b7237407e5d33", func := "fiducial/fiduciallaw38.SnoopChanges", spec := "snoopChanges", unfollowed := true, recurses := true, apart := false }
def SnoopChangesSaid : Prop := snoopChangesRow.holds Tryz.pinned (OpenSpec.ofChange snoopChangesSpec)

/-- ITS FALSE NEIGHBOUR: 'it returns false'. Refute it at one input. -/
def snoopChangesWrong : ChangeSpec := { name := "snoopChanges", fn := fun _ => fun
  | [d1, d2, d3] => { results := [.lit (.bool false)], args := [d1, d2, d3] }
  | _ => none }
def SnoopChangesWrongFalsely : Prop := snoopChangesRow.holds Tryz.pinned (OpenSpec.ofChange snoopChangesWrong)

/-- 'fiduciallaw38.SnoopShifts': WHATEVER THE INPUT: true; the input reads as it did. -/
def snoopShiftsSpec : ChangeSpec := { name := "snoopShifts", fn := fun _ => fun
  | [d1, d2] => { results := [.lit (.bool true)], args := [d1, d2] }
  | _ => none }
def snoopShiftsRow : OpenClaim := { program := "ythkkknjcoidioaagreat", sum := "a808d4973188b92c93453c40c26a0e8a910ba591d616b100081b7237407e5d33", func := "fiducial/fiduciallaw38.SnoopShifts", spec := "snoopShifts", unfollowed := true, recurses := true, apart := false }
def SnoopShiftsSaid : Prop := snoopShiftsRow.holds Tryz.pinned (OpenSpec.ofChange snoopShiftsSpec)

/-- ITS FALSE NEIGHBOUR: 'it returns false'. Refute it at one input. -/
def snoopShiftsWrong : ChangeSpec := { name := "snoopShifts", fn := fun _ => fun
  | [d1, d2] => { results := [.lit (.bool false)], args := [d1, d2] }
  | _ => none }
def SnoopShiftsWrongFalsely : Prop := snoopShiftsRow.holds Tryz.pinned (OpenSpec.ofChange snoopShiftsWrong)

/- THE SECOND FORM. 'bulk': how many values and letters a reading holds, each counted each time it is reached (what is shared counts as often as it is met; a slice's spare places count too). A statement '..UptoSaid' is the law's where the arguments, and the package variables that the reading takes, are together of bulk at most 1048576: NARROWER than '..Said'. Prove '..Said' where nothing that the law and all that it calls make is longer than what came in: it says more and counts as full. Else prove '..UptoSaid'. A law counts once. -/
mutual
def uptoBulk {H : Type} : DataW H → Nat
  | .lit (.string bytes) => bytes.length + 1
  | .lit _ => 1
  | .nil => 1
  | .ptr d => uptoBulk d + 1
  | .slice elems spare => uptoBulkAll elems + uptoBulkAll spare + 1
  | .agg parts => uptoBulkAll parts + 1
  | .iface _ d => uptoBulk d + 1
  | .map entries => uptoBulkEntries entries + 1
  | .held _ => 1
def uptoBulkAll {H : Type} : List (DataW H) → Nat
  | [] => 0
  | d :: r => uptoBulk d + uptoBulkAll r
def uptoBulkEntries {H : Type} : List (Lit × DataW H) → Nat
  | [] => 0
  | x :: r => uptoBulkEntry x + uptoBulkEntries r
def uptoBulkEntry {H : Type} : Lit × DataW H → Nat
  | (.string bytes, d) => bytes.length + uptoBulk d + 1
  | (_, d) => uptoBulk d + 1
 end
def uptoSmall : (H : Type) → List (DataW H) → Bool := fun _ ds => decide (uptoBulkAll ds ≤ 1048576)
def OpenSpec.upto (s : _root_.Go.ChangeSpec) : _root_.Go.OpenSpec := { _root_.Go.OpenSpec.ofChange s with cond := some uptoSmall }

/-- 'fiduciallaw38.SnoopDrops', WHERE WHAT IT READS IS OF BULK AT MOST 1048576: true; the input reads as it did. -/
def snoopDropsUptoRow : OpenClaim := { program := "ythkkknjcoidioaagreat", sum := "a808d4973188b92c93453c40c26a0e8a910ba591d616b100081b7237407e5d33", func := "fiducial/fiduciallaw38.SnoopDrops", spec := "snoopDrops", unfollowed := true, recurses := true, apart := false, narrowed := true }
def SnoopDropsUptoSaid : Prop := snoopDropsUptoRow.holds Tryz.pinned (OpenSpec.upto snoopDropsSpec)

/-- 'fiduciallaw38.SnoopSnoops', WHERE WHAT IT READS IS OF BULK AT MOST 1048576: true; the input reads as it did. -/
def snoopSnoopsUptoRow : OpenClaim := { program := "ythkkknjcoidioaagreat", sum := "a808d4973188b92c93453c40c26a0e8a910ba591d616b100081b7237407e5d33", func := "fiducial/fiduciallaw38.SnoopSnoops", spec := "snoopSnoops", unfollowed := true, recurses := true, apart := false, narrowed := true }
def SnoopSnoopsUptoSaid : Prop := snoopSnoopsUptoRow.holds Tryz.pinned (OpenSpec.upto snoopSnoopsSpec)

/-- 'fiduciallaw38.SnoopSingle', WHERE WHAT IT READS IS OF BULK AT MOST 1048576: true; the input reads as it did. -/
def snoopSingleUptoRow : OpenClaim := { program := "ythkkknjcoidioaagreat", sum := "a808d4973188b92c93453c40c26a0e8a910ba591d616b100081b7237407e5d33", func := "fiducial/fiduciallaw38.SnoopSingle", spec := "snoopSingle", unfollowed := true, recurses := true, apart := false, narrowed := true }
def SnoopSingleUptoSaid : Prop := snoopSingleUptoRow.holds Tryz.pinned (OpenSpec.upto snoopSingleSpec)

/-- 'fiduciallaw38.SnoopInvariant', WHERE WHAT IT READS IS OF BULK AT MOST 1048576: true; the input reads as it did. -/
def snoopInvariantUptoRow : OpenClaim := { program := "ythkkknjcoidioaagreat", sum := "a808d4973188b92c93453c40c26a0e8a910ba591d616b100081b7237407e5d33", func := "fiducial/fiduciallaw38.SnoopInvariant", spec := "snoopInvariant", unfollowed := true, recurses := true, apart := false, narrowed := true }
def SnoopInvariantUptoSaid : Prop := snoopInvariantUptoRow.holds Tryz.pinned (OpenSpec.upto snoopInvariantSpec)

/-- 'fiduciallaw38.SnoopReliability', WHERE WHAT IT READS IS OF BULK AT MOST 1048576: true; the input reads as it did. -/
def snoopReliabilityUptoRow : OpenClaim := { program := "ythkkknjcoidioaagreat", sum := "a808d4973188b92c93453c40c26a0e8a910ba591d616b100081b7237407e5d33", func := "fiducial/fiduciallaw38.SnoopReliability", spec := "snoopReliability", unfollowed := true, recurses := true, apart := false, narrowed := true }
def SnoopReliabilityUptoSaid : Prop := snoopReliabilityUptoRow.holds Tryz.pinned (OpenSpec.upto snoopReliabilitySpec)

/-- 'fiduciallaw38.SnoopChanges', WHERE WHAT IT READS IS OF BULK AT MOST 1048576: true; the input reads as it did. -/
def snoopChangesUptoRow : OpenClaim := { program := "ythkkknjcoidioaagreat", sum := "a808d4973188b92c93453c40c26a0e8a910ba591d616b100081b7237407e5d33", func := "fiducial/fiduciallaw38.SnoopChanges", spec := "snoopChanges", unfollowed := true, recurses := true, apart := false, narrowed := true }
def SnoopChangesUptoSaid : Prop := snoopChangesUptoRow.holds Tryz.pinned (OpenSpec.upto snoopChangesSpec)

/-- 'fiduciallaw38.SnoopShifts', WHERE WHAT IT READS IS OF BULK AT MOST 1048576: true; the input reads as it did. -/
def snoopShiftsUptoRow : OpenClaim := { program := "ythkkknjcoidioaagreat", sum := "a808d4973188b92c93453c40c26a0e8a910ba591d616b100081b7237407e5d33", func := "fiducial/fiduciallaw38.SnoopShifts", spec := "snoopShifts", unfollowed := true, recurses := true, apart := false, narrowed := true }
def SnoopShiftsUptoSaid : Prop := snoopShiftsUptoRow.holds Tryz.pinned (OpenSpec.upto snoopShiftsSpec)

end Rows
end Go.Proofs.YthkkknjcoidioaaGreat
