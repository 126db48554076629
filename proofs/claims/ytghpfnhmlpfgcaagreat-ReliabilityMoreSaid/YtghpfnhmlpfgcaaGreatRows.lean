/-
  No cell of these rows narrows 'for every input' (looked for: loops, veiled, ifaces, maps, wideKeys, modest, calm, conditions, laid).
  DERIVED. THE GIVEN ROWS OF THIS SEAT. 6 by the template 'for every input the law returns true; each argument reads behind the call as it read before'; 0 by the template 'total and deterministic' (their statements: YtghpfnhmlpfgcaaGreatTotals.lean).
  GIVEN WITH THE SEED: the statements are not yours to turn. If you find one false, say at which input.
  Laid BY PROGRAM, IN A SANDBOX (cutbox-rows.mjs): the forced cells as the released guide's own fill.sh prints them over the translation fb29eae7386284dd… (all of the seat's roots in one cut). By AI agents, Wed Nov 11 2026. No macro, syntax, notation, axiom, sorry.
-/
import Derived.Test.YtghpfnhmlpfgcaaGreatChecked
import GoSem.Claim
import GoSem.ClaimJoined
import GoSem.ClaimMapViews
import Derived.JoinedTies
import Derived.KernelRfl
namespace Go.Proofs.YtghpfnhmlpfgcaaGreat
/- THE CELL 'sum', in the pinned program and in every row, IS THE sha256 OF THE DUMP (.gsa) THAT YtghpfnhmlpfgcaaGreatProg.lean LOADS. Nothing in Lean hashes anything: it is a label: what it is worth is what the hold of that sum in a sandbox is worth. -/
noncomputable def Tryz.pinned : Pinned := { name := "ytghpfnhmlpfgcaagreat", sum := "fb29eae7386284dd669358c8b1915ad76b836d4274617ad4a2a39cde61ebab3c", checked := Tryz.checked }
namespace Rows
def none {H : Type} : Left H := { results := [], args := [] }

/-- 'fiduciallaw37.ReliabilityResiduals': WHATEVER THE INPUT: true; the input reads as it did. -/
def reliabilityResidualsSpec : ChangeSpec := { name := "reliabilityResiduals", fn := fun _ => fun
  | [d1, d2] => { results := [.lit (.bool true)], args := [d1, d2] }
  | _ => none }
def reliabilityResidualsRow : OpenClaim := { program := "ytghpfnhmlpfgcaagreat", sum := "fb29eae7386284dd669358c8b1915ad76b836d4274617ad4a2a39cde61ebab3c", func := "fiducial/fiduciallaw37.ReliabilityResiduals", spec := "reliabilityResiduals", unfollowed := true, recurses := true, apart := false }
def ReliabilityResidualsSaid : Prop := reliabilityResidualsRow.holds Tryz.pinned (OpenSpec.ofChange reliabilityResidualsSpec)

/-- ITS FALSE NEIGHBOUR: 'it returns false'. Refute it at one input. -/
def reliabilityResidualsWrong : ChangeSpec := { name := "reliabilityResiduals", fn := fun _ => fun
  | [d1, d2] => { results := [.lit (.bool false)], args := [d1, d2] }
  | _ => none }
def ReliabilityResidualsWrongFalsely : Prop := reliabilityResidualsRow.holds Tryz.pinned (OpenSpec.ofChange reliabilityResidualsWrong)

/-- 'fiduciallaw37.ReliabilityRedundancy': WHATEVER THE INPUT: true; the input reads as it did. -/
def reliabilityRedundancySpec : ChangeSpec := { name := "reliabilityRedundancy", fn := fun _ => fun
  | [d] => { results := [.lit (.bool true)], args := [d] }
  | _ => none }
def reliabilityRedundancyRow : OpenClaim := { program := "ytghpfnhmlpfgcaagreat", sum := "fb29eae7386284dd669358c8b1915ad76b836d4274617ad4a2a39cde61ebab3c", func := "fiducial/fiduciallaw37.ReliabilityRedundancy", spec := "reliabilityRedundancy", unfollowed := true, recurses := true, apart := false }
def ReliabilityRedundancySaid : Prop := reliabilityRedundancyRow.holds Tryz.pinned (OpenSpec.ofChange reliabilityRedundancySpec)

/-- ITS FALSE NEIGHBOUR: 'it returns false'. Refute it at one input. -/
def reliabilityRedundancyWrong : ChangeSpec := { name := "reliabilityRedundancy", fn := fun _ => fun
  | [d] => { results := [.lit (.bool false)], args := [d] }
  | _ => none }
def ReliabilityRedundancyWrongFalsely : Prop := reliabilityRedundancyRow.holds Tryz.pinned (OpenSpec.ofChange reliabilityRedundancyWrong)

/-- 'fiduciallaw37.ReliabilityScales': WHATEVER THE INPUT: true; the input reads as it did. -/
def reliabilityScalesSpec : ChangeSpec := { name := "reliabilityScales", fn := fun _ => fun
  | [d1, d2, d3] => { results := [.lit (.bool true)], args := [d1, d2, d3] }
  | _ => none }
def reliabilityScalesRow : OpenClaim := { program := "ytghpfnhmlpfgcaagreat", sum := "fb29eae7386284dd669358c8b1915ad76b836d4274617ad4a2a39cde61ebab3c", func := "fiducial/fiduciallaw37.ReliabilityScales", spec := "reliabilityScales", unfollowed := true, recurses := true, apart := false }
def ReliabilityScalesSaid : Prop := reliabilityScalesRow.holds Tryz.pinned (OpenSpec.ofChange reliabilityScalesSpec)

/-- ITS FALSE NEIGHBOUR: 'it returns false'. Refute it at one input. -/
def reliabilityScalesWrong : ChangeSpec := { name := "reliabilityScales", fn := fun _ => fun
  | [d1, d2, d3] => { results := [.lit (.bool false)], args := [d1, d2, d3] }
  | _ => none }
def ReliabilityScalesWrongFalsely : Prop := reliabilityScalesRow.holds Tryz.pinned (OpenSpec.ofChange reliabilityScalesWrong)

/-- 'fiduciallaw37.ReliabilityCorrelations': WHATEVER THE INPUT: true; the input reads as it did. -/
def reliabilityCorrelationsSpec : ChangeSpec := { name := "reliabilityCorrelations", fn := fun _ => fun
  | [d1, d2, d3] => { results := [.lit (.bool true)], args := [d1, d2, d3] }
  | _ => none }
def reliabilityCorrelationsRow : OpenClaim := { program := "ytghpfnhmlpfgcaagreat", sum := "fb29eae7386284dd669358c8b1915ad76b836d4274617ad4a2a39cde61ebab3c", func := "fiducial/fiduciallaw37.ReliabilityCorrelations", spec := "reliabilityCorrelations", unfollowed := true, recurses := true, apart := false }
def ReliabilityCorrelationsSaid : Prop := reliabilityCorrelationsRow.holds Tryz.pinned (OpenSpec.ofChange reliabilityCorrelationsSpec)

/-- ITS FALSE NEIGHBOUR: 'it returns false'. Refute it at one input. -/
def reliabilityCorrelationsWrong : ChangeSpec := { name := "reliabilityCorrelations", fn := fun _ => fun
  | [d1, d2, d3] => { results := [.lit (.bool false)], args := [d1, d2, d3] }
  | _ => none }
def ReliabilityCorrelationsWrongFalsely : Prop := reliabilityCorrelationsRow.holds Tryz.pinned (OpenSpec.ofChange reliabilityCorrelationsWrong)

/-- 'fiduciallaw37.ReliabilityAlone': WHATEVER THE INPUT: true; the input reads as it did. -/
def reliabilityAloneSpec : ChangeSpec := { name := "reliabilityAlone", fn := fun _ => fun
  | [d1, d2] => { results := [.lit (.bool true)], args := [d1, d2] }
  | _ => none }
def reliabilityAloneRow : OpenClaim := { program := "ytghpfnhmlpfgcaagreat", sum := "fb29eae7386284dd669358c8b1915ad76b836d4274617ad4a2a39cde61ebab3c", func := "fiducial/fiduciallaw37.ReliabilityAlone", spec := "reliabilityAlone", unfollowed := true, recurses := true, apart := false }
def ReliabilityAloneSaid : Prop := reliabilityAloneRow.holds Tryz.pinned (OpenSpec.ofChange reliabilityAloneSpec)

/-- ITS FALSE NEIGHBOUR: 'it returns false'. Refute it at one input. -/
def reliabilityAloneWrong : ChangeSpec := { name := "reliabilityAlone", fn := fun _ => fun
  | [d1, d2] => { results := [.lit (.bool false)], args := [d1, d2] }
  | _ => none }
def ReliabilityAloneWrongFalsely : Prop := reliabilityAloneRow.holds Tryz.pinned (OpenSpec.ofChange reliabilityAloneWrong)

/-- 'fiduciallaw37.ReliabilityMore': WHATEVER THE INPUT: true; the input reads as it did. -/
def reliabilityMoreSpec : ChangeSpec := { name := "reliabilityMore", fn := fun _ => fun
  | [d1, d2] => { results := [.lit (.bool true)], args := [d1, d2] }
  | _ => none }
def reliabilityMoreRow : OpenClaim := { program := "ytghpfnhmlpfgcaagreat", sum := "fb29eae7386284dd669358c8b1915ad76b836d4274617ad4a2a39cde61ebab3c", func := "fiducial/fiduciallaw37.ReliabilityMore", spec := "reliabilityMore", unfollowed := true, recurses := true, apart := false }
def ReliabilityMoreSaid : Prop := reliabilityMoreRow.holds Tryz.pinned (OpenSpec.ofChange reliabilityMoreSpec)

/-- ITS FALSE NEIGHBOUR: 'it returns false'. Refute it at one input. -/
def reliabilityMoreWrong : ChangeSpec := { name := "reliabilityMore", fn := fun _ => fun
  | [d1, d2] => { results := [.lit (.bool false)], args := [d1, d2] }
  | _ => none }
def ReliabilityMoreWrongFalsely : Prop := reliabilityMoreRow.holds Tryz.pinned (OpenSpec.ofChange reliabilityMoreWrong)

/- THE SECOND FORM. 'bulk': how many values and letters a reading holds, each counted each time it is reached (what is shared counts as often as it is met; a slice's spare places count too). A statement '..UptoSaid' is the law's where the arguments, and the package variables that the reading takes, are together of bulk at most 1048576: NARROWER than '..Said'. Prove '..Said' where nothing that the law and all that it calls make is longer than what came in: it says more and counts as full. Else prove '..UptoSaid'. A law counts once. -/
mutual
def uptoBulk {H : Type} : DataW H → Nat
  | .lit (.string bytes) => bytes.length + 1
  | .lit _ => 1
  | .nil => 1
  | .ptr d => uptoBulk d + 1
  | .slice elems spare => uptoBulkAll elems + uptoBulkAll spare + 1
  | .agg parts => uptoBulkAll parts + 1
  | .iface _ d => uptoBulk d + 1
  | .map entries => uptoBulkEntries entries + 1
  | .held _ => 1
def uptoBulkAll {H : Type} : List (DataW H) → Nat
  | [] => 0
  | d :: r => uptoBulk d + uptoBulkAll r
def uptoBulkEntries {H : Type} : List (Lit × DataW H) → Nat
  | [] => 0
  | x :: r => uptoBulkEntry x + uptoBulkEntries r
def uptoBulkEntry {H : Type} : Lit × DataW H → Nat
  | (.string bytes, d) => bytes.length + uptoBulk d + 1
  | (_, d) => uptoBulk d + 1
 end
def uptoSmall : (H : Type) → List (DataW H) → Bool := fun _ ds => decide (uptoBulkAll ds ≤ 1048576)
def OpenSpec.upto (s : _root_.Go.ChangeSpec) : _root_.Go.OpenSpec := { _root_.Go.OpenSpec.ofChange s with cond := some uptoSmall }

/-- 'fiduciallaw37.ReliabilityResiduals', WHERE WHAT IT READS IS OF BULK AT MOST 1048576: true; the input reads as it did. -/
def reliabilityResidualsUptoRow : OpenClaim := { program := "ytghpfnhmlpfgcaagreat", sum := "fb29eae7386284dd669358c8b1915ad76b836d4274617ad4a2a39cde61ebab3c", func := "fiducial/fiduciallaw37.ReliabilityResiduals", spec := "reliabilityResiduals", unfollowed := true, recurses := true, apart := false, narrowed := true }
def ReliabilityResidualsUptoSaid : Prop := reliabilityResidualsUptoRow.holds Tryz.pinned (OpenSpec.upto reliabilityResidualsSpec)

/-- 'fiduciallaw37.ReliabilityRedundancy', WHERE WHAT IT READS IS OF BULK AT MOST 1048576: true; the input reads as it did. -/
def reliabilityRedundancyUptoRow : OpenClaim := { program := "ytghpfnhmlpfgcaagreat", sum := "fb29eae7386284dd669358c8b1915ad76b836d4274617ad4a2a39cde61ebab3c", func := "fiducial/fiduciallaw37.ReliabilityRedundancy", spec := "reliabilityRedundancy", unfollowed := true, recurses := true, apart := false, narrowed := true }
def ReliabilityRedundancyUptoSaid : Prop := reliabilityRedundancyUptoRow.holds Tryz.pinned (OpenSpec.upto reliabilityRedundancySpec)

/-- 'fiduciallaw37.ReliabilityScales', WHERE WHAT IT READS IS OF BULK AT MOST 1048576: true; the input reads as it did. -/
def reliabilityScalesUptoRow : OpenClaim := { program := "ytghpfnhmlpfgcaagreat", sum := "fb29eae7386284dd669358c8b1915ad76b836d4274617ad4a2a39cde61ebab3c", func := "fiducial/fiduciallaw37.ReliabilityScales", spec := "reliabilityScales", unfollowed := true, recurses := true, apart := false, narrowed := true }
def ReliabilityScalesUptoSaid : Prop := reliabilityScalesUptoRow.holds Tryz.pinned (OpenSpec.upto reliabilityScalesSpec)

/-- 'fiduciallaw37.ReliabilityCorrelations', WHERE WHAT IT READS IS OF BULK AT MOST 1048576: true; the input reads as it did. -/
def reliabilityCorrelationsUptoRow : OpenClaim := { program := "ytghpfnhmlpfgcaagreat", sum := "fb29eae7386284dd669358c8b1915ad76b836d4274617ad4a2a39cde61ebab3c", func := "fiducial/fiduciallaw37.ReliabilityCorrelations", spec := "reliabilityCorrelations", unfollowed := true, recurses := true, apart := false, narrowed := true }
def ReliabilityCorrelationsUptoSaid : Prop := reliabilityCorrelationsUptoRow.holds Tryz.pinned (OpenSpec.upto reliabilityCorrelationsSpec)

/-- 'fiduciallaw37.ReliabilityAlone', WHERE WHAT IT READS IS OF BULK AT MOST 1048576: true; the input reads as it did. -/
def reliabilityAloneUptoRow : OpenClaim := { program := "ytghpfnhmlpfgcaagreat", sum := "fb29eae7386284dd669358c8b1915ad76b836d4274617ad4a2a39cde61ebab3c", func := "fiducial/fiduciallaw37.ReliabilityAlone", spec := "reliabilityAlone", unfollowed := true, recurses := true, apart := false, narrowed := true }
def ReliabilityAloneUptoSaid : Prop := reliabilityAloneUptoRow.holds Tryz.pinned (OpenSpec.upto reliabilityAloneSpec)

/-- 'fiduciallaw37.ReliabilityMore', WHERE WHAT IT READS IS OF BULK AT MOST 1048576: true; the input reads as it did. -/
def reliabilityMoreUptoRow : OpenClaim := { program := "ytghpfnhmlpfgcaagreat", sum := "fb29eae7386284dd669358c8b1915ad76b836d4274617ad4a2a39cde61ebab3c", func := "fiducial/fiduciallaw37.ReliabilityMore", spec := "reliabilityMore", unfollowed := true, recurses := true, apart := false, narrowed := true }
def ReliabilityMoreUptoSaid : Prop := reliabilityMoreUptoRow.holds Tryz.pinned (OpenSpec.upto reliabilityMoreSpec)

end Rows
end Go.Proofs.YtghpfnhmlpfgcaaGreat
