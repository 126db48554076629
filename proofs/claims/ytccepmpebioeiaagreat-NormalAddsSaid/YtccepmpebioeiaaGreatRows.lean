/-
  No cell of these rows narrows 'for every input' (looked for: loops, veiled, ifaces, maps, wideKeys, modest, calm, conditions, laid).
  DERIVED. THE GIVEN ROWS OF THIS SEAT. 7 by the template 'for every input the law returns true; each argument reads behind the call as it read before'; 0 by the template 'total and deterministic' (their statements: YtccepmpebioeiaaGreatTotals.lean).
  GIVEN WITH THE SEED: the statements are not yours to turn. If you find one false, say at which input.
  Laid BY PROGRAM, IN A SANDBOX (cutbox-rows.mjs): the forced cells as the released guide's own fill.sh prints them over the translation b9243c9fc2e03ef5… (all of the seat's roots in one cut). By AI agents, Wed Nov 11 2026. No macro, syntax, notation, axiom, sorry.
-/
import Derived.Test.YtccepmpebioeiaaGreatChecked
import GoSem.Claim
import GoSem.ClaimJoined
import GoSem.ClaimMapViews
import Derived.JoinedTies
import Derived.KernelRfl
namespace Go.Proofs.YtccepmpebioeiaaGreat
/- THE CELL 'sum', in the pinned program and in every row, IS THE sha256 OF THE DUMP (.gsa) THAT YtccepmpebioeiaaGreatProg.lean LOADS. Nothing in Lean hashes anything: it is a label: what it is worth is what the hold of that sum in a sandbox is worth. -/
noncomputable def Tryz.pinned : Pinned := { name := "ytccepmpebioeiaagreat", sum := "b9243c9fc2e03ef5ff87a4e205005d24dbaced8cc4c4ce0d37295bcbce89d9a1", checked := Tryz.checked }
namespace Rows
def none {H : Type} : Left H := { results := [], args := [] }

/-- 'fiduciallaw34.NormalLeast': WHATEVER THE INPUT: true; the input reads as it did. -/
def normalLeastSpec : ChangeSpec := { name := "normalLeast", fn := fun _ => fun
  | [d1, d2] => { results := [.lit (.bool true)], args := [d1, d2] }
  | _ => none }
def normalLeastRow : OpenClaim := { program := "ytccepmpebioeiaagreat", sum := "b9243c9fc2e03ef5ff87a4e205005d24dbaced8cc4c4ce0d37295bcbce89d9a1", func := "fiducial/fiduciallaw34.NormalLeast", spec := "normalLeast", unfollowed := true, recurses := true, plainKeys := false, apart := false }
def NormalLeastSaid : Prop := normalLeastRow.holds Tryz.pinned (OpenSpec.ofChange normalLeastSpec)

/-- ITS FALSE NEIGHBOUR: 'it returns false'. Refute it at one input. -/
def normalLeastWrong : ChangeSpec := { name := "normalLeast", fn := fun _ => fun
  | [d1, d2] => { results := [.lit (.bool false)], args := [d1, d2] }
  | _ => none }
def NormalLeastWrongFalsely : Prop := normalLeastRow.holds Tryz.pinned (OpenSpec.ofChange normalLeastWrong)

/-- 'fiduciallaw34.NormalReduced': WHATEVER THE INPUT: true; the input reads as it did. -/
def normalReducedSpec : ChangeSpec := { name := "normalReduced", fn := fun _ => fun
  | [d1, d2] => { results := [.lit (.bool true)], args := [d1, d2] }
  | _ => none }
def normalReducedRow : OpenClaim := { program := "ytccepmpebioeiaagreat", sum := "b9243c9fc2e03ef5ff87a4e205005d24dbaced8cc4c4ce0d37295bcbce89d9a1", func := "fiducial/fiduciallaw34.NormalReduced", spec := "normalReduced", unfollowed := true, recurses := true, plainKeys := false, apart := false }
def NormalReducedSaid : Prop := normalReducedRow.holds Tryz.pinned (OpenSpec.ofChange normalReducedSpec)

/-- ITS FALSE NEIGHBOUR: 'it returns false'. Refute it at one input. -/
def normalReducedWrong : ChangeSpec := { name := "normalReduced", fn := fun _ => fun
  | [d1, d2] => { results := [.lit (.bool false)], args := [d1, d2] }
  | _ => none }
def NormalReducedWrongFalsely : Prop := normalReducedRow.holds Tryz.pinned (OpenSpec.ofChange normalReducedWrong)

/-- 'fiduciallaw34.NormalConstrained': WHATEVER THE INPUT: true; the input reads as it did. -/
def normalConstrainedSpec : ChangeSpec := { name := "normalConstrained", fn := fun _ => fun
  | [d1, d2, d3] => { results := [.lit (.bool true)], args := [d1, d2, d3] }
  | _ => none }
def normalConstrainedRow : OpenClaim := { program := "ytccepmpebioeiaagreat", sum := "b9243c9fc2e03ef5ff87a4e205005d24dbaced8cc4c4ce0d37295bcbce89d9a1", func := "fiducial/fiduciallaw34.NormalConstrained", spec := "normalConstrained", unfollowed := true, recurses := true, plainKeys := false, apart := false }
def NormalConstrainedSaid : Prop := normalConstrainedRow.holds Tryz.pinned (OpenSpec.ofChange normalConstrainedSpec)

/-- ITS FALSE NEIGHBOUR: 'it returns false'. Refute it at one input. -/
def normalConstrainedWrong : ChangeSpec := { name := "normalConstrained", fn := fun _ => fun
  | [d1, d2, d3] => { results := [.lit (.bool false)], args := [d1, d2, d3] }
  | _ => none }
def NormalConstrainedWrongFalsely : Prop := normalConstrainedRow.holds Tryz.pinned (OpenSpec.ofChange normalConstrainedWrong)

/-- 'fiduciallaw34.NormalValues': WHATEVER THE INPUT: true; the input reads as it did. -/
def normalValuesSpec : ChangeSpec := { name := "normalValues", fn := fun _ => fun
  | [d1, d2] => { results := [.lit (.bool true)], args := [d1, d2] }
  | _ => none }
def normalValuesRow : OpenClaim := { program := "ytccepmpebioeiaagreat", sum := "b9243c9fc2e03ef5ff87a4e205005d24dbaced8cc4c4ce0d37295bcbce89d9a1", func := "fiducial/fiduciallaw34.NormalValues", spec := "normalValues", unfollowed := true, recurses := true, plainKeys := false, apart := false }
def NormalValuesSaid : Prop := normalValuesRow.holds Tryz.pinned (OpenSpec.ofChange normalValuesSpec)

/-- ITS FALSE NEIGHBOUR: 'it returns false'. Refute it at one input. -/
def normalValuesWrong : ChangeSpec := { name := "normalValues", fn := fun _ => fun
  | [d1, d2] => { results := [.lit (.bool false)], args := [d1, d2] }
  | _ => none }
def NormalValuesWrongFalsely : Prop := normalValuesRow.holds Tryz.pinned (OpenSpec.ofChange normalValuesWrong)

/-- 'fiduciallaw34.NormalAdds': WHATEVER THE INPUT: true; the input reads as it did. -/
def normalAddsSpec : ChangeSpec := { name := "normalAdds", fn := fun _ => fun
  | [d1, d2, d3] => { results := [.lit (.bool true)], args := [d1, d2, d3] }
  | _ => none }
def normalAddsRow : OpenClaim := { program := "ytccepmpebioeiaagreat", sum := "b9243c9fc2e03ef5ff87a4e205005d24dbaced8cc4c4ce0d37295bcbce89d9a1", func := "fiducial/fiduciallaw34.NormalAdds", spec := "normalAdds", unfollowed := true, recurses := true, plainKeys := false, apart := false }
def NormalAddsSaid : Prop := normalAddsRow.holds Tryz.pinned (OpenSpec.ofChange normalAddsSpec)

/-- ITS FALSE NEIGHBOUR: 'it returns false'. Refute it at one input. -/
def normalAddsWrong : ChangeSpec := { name := "normalAdds", fn := fun _ => fun
  | [d1, d2, d3] => { results := [.lit (.bool false)], args := [d1, d2, d3] }
  | _ => none }
def NormalAddsWrongFalsely : Prop := normalAddsRow.holds Tryz.pinned (OpenSpec.ofChange normalAddsWrong)

/-- 'fiduciallaw34.NormalMerges': WHATEVER THE INPUT: true; the input reads as it did. -/
def normalMergesSpec : ChangeSpec := { name := "normalMerges", fn := fun _ => fun
  | [d1, d2, d3] => { results := [.lit (.bool true)], args := [d1, d2, d3] }
  | _ => none }
def normalMergesRow : OpenClaim := { program := "ytccepmpebioeiaagreat", sum := "b9243c9fc2e03ef5ff87a4e205005d24dbaced8cc4c4ce0d37295bcbce89d9a1", func := "fiducial/fiduciallaw34.NormalMerges", spec := "normalMerges", unfollowed := true, recurses := true, plainKeys := false, apart := false }
def NormalMergesSaid : Prop := normalMergesRow.holds Tryz.pinned (OpenSpec.ofChange normalMergesSpec)

/-- ITS FALSE NEIGHBOUR: 'it returns false'. Refute it at one input. -/
def normalMergesWrong : ChangeSpec := { name := "normalMerges", fn := fun _ => fun
  | [d1, d2, d3] => { results := [.lit (.bool false)], args := [d1, d2, d3] }
  | _ => none }
def NormalMergesWrongFalsely : Prop := normalMergesRow.holds Tryz.pinned (OpenSpec.ofChange normalMergesWrong)

/-- 'fiduciallaw34.NormalBlocks': WHATEVER THE INPUT: true; the input reads as it did. -/
def normalBlocksSpec : ChangeSpec := { name := "normalBlocks", fn := fun _ => fun
  | [d1, d2, d3] => { results := [.lit (.bool true)], args := [d1, d2, d3] }
  | _ => none }
def normalBlocksRow : OpenClaim := { program := "ytccepmpebioeiaagreat", sum := "b9243c9fc2e03ef5ff87a4e205005d24dbaced8cc4c4ce0d37295bcbce89d9a1", func := "fiducial/fiduciallaw34.NormalBlocks", spec := "normalBlocks", unfollowed := true, recurses := true, plainKeys := false, apart := false }
def NormalBlocksSaid : Prop := normalBlocksRow.holds Tryz.pinned (OpenSpec.ofChange normalBlocksSpec)

/-- ITS FALSE NEIGHBOUR: 'it returns false'. Refute it at one input. -/
def normalBlocksWrong : ChangeSpec := { name := "normalBlocks", fn := fun _ => fun
  | [d1, d2, d3] => { results := [.lit (.bool false)], args := [d1, d2, d3] }
  | _ => none }
def NormalBlocksWrongFalsely : Prop := normalBlocksRow.holds Tryz.pinned (OpenSpec.ofChange normalBlocksWrong)

/- THE SECOND FORM. 'bulk': how many values and letters a reading holds, each counted each time it is reached (what is shared counts as often as it is met; a slice's spare places count too). A statement '..UptoSaid' is the law's where the arguments, and the package variables that the reading takes, are together of bulk at most 1048576: NARROWER than '..Said'. Prove '..Said' where nothing that the law and all that it calls make is longer than what came in: it says more and counts as full. Else prove '..UptoSaid'. A law counts once. -/
mutual
def uptoBulk {H : Type} : DataW H → Nat
  | .lit (.string bytes) => bytes.length + 1
  | .lit _ => 1
  | .nil => 1
  | .ptr d => uptoBulk d + 1
  | .slice elems spare => uptoBulkAll elems + uptoBulkAll spare + 1
  | .agg parts => uptoBulkAll parts + 1
  | .iface _ d => uptoBulk d + 1
  | .map entries => uptoBulkEntries entries + 1
  | .held _ => 1
def uptoBulkAll {H : Type} : List (DataW H) → Nat
  | [] => 0
  | d :: r => uptoBulk d + uptoBulkAll r
def uptoBulkEntries {H : Type} : List (Lit × DataW H) → Nat
  | [] => 0
  | x :: r => uptoBulkEntry x + uptoBulkEntries r
def uptoBulkEntry {H : Type} : Lit × DataW H → Nat
  | (.string bytes, d) => bytes.length + uptoBulk d + 1
  | (_, d) => uptoBulk d + 1
 end
def uptoSmall : (H : Type) → List (DataW H) → Bool := fun _ ds => decide (uptoBulkAll ds ≤ 1048576)
def OpenSpec.upto (s : _root_.Go.ChangeSpec) : _root_.Go.OpenSpec := { _root_.Go.OpenSpec.ofChange s with cond := some uptoSmall }

/-- 'fiduciallaw34.NormalLeast', WHERE WHAT IT READS IS OF BULK AT MOST 1048576: true; the input reads as it did. -/
def normalLeastUptoRow : OpenClaim := { program := "ytccepmpebioeiaagreat", sum := "b9243c9fc2e03ef5ff87a4e205005d24dbaced8cc4c4ce0d37295bcbce89d9a1", func := "fiducial/fiduciallaw34.NormalLeast", spec := "normalLeast", unfollowed := true, recurses := true, plainKeys := false, apart := false, narrowed := true }
def NormalLeastUptoSaid : Prop := normalLeastUptoRow.holds Tryz.pinned (OpenSpec.upto normalLeastSpec)

/-- 'fiduciallaw34.NormalReduced', WHERE WHAT IT READS IS OF BULK AT MOST 1048576: true; the input reads as it did. -/
def normalReducedUptoRow : OpenClaim := { program := "ytccepmpebioeiaagreat", sum := "b9243c9fc2e03ef5ff87a4e205005d24dbaced8cc4c4ce0d37295bcbce89d9a1", func := "fiducial/fiduciallaw34.NormalReduced", spec := "normalReduced", unfollowed := true, recurses := true, plainKeys := false, apart := false, narrowed := true }
def NormalReducedUptoSaid : Prop := normalReducedUptoRow.holds Tryz.pinned (OpenSpec.upto normalReducedSpec)

/-- 'fiduciallaw34.NormalConstrained', WHERE WHAT IT READS IS OF BULK AT MOST 1048576: true; the input reads as it did. -/
def normalConstrainedUptoRow : OpenClaim := { program := "ytccepmpebioeiaagreat", sum := "b9243c9fc2e03ef5ff87a4e205005d24dbaced8cc4c4ce0d37295bcbce89d9a1", func := "fiducial/fiduciallaw34.NormalConstrained", spec := "normalConstrained", unfollowed := true, recurses := true, plainKeys := false, apart := false, narrowed := true }
def NormalConstrainedUptoSaid : Prop := normalConstrainedUptoRow.holds Tryz.pinned (OpenSpec.upto normalConstrainedSpec)

/-- 'fiduciallaw34.NormalValues', WHERE WHAT IT READS IS OF BULK AT MOST 1048576: true; the input reads as it did. -/
def normalValuesUptoRow : OpenClaim := { program := "ytccepmpebioeiaagreat", sum := "b9243c9fc2e03ef5ff87a4e205005d24dbaced8cc4c4ce0d37295bcbce89d9a1", func := "fiducial/fiduciallaw34.NormalValues", spec := "normalValues", unfollowed := true, recurses := true, plainKeys := false, apart := false, narrowed := true }
def NormalValuesUptoSaid : Prop := normalValuesUptoRow.holds Tryz.pinned (OpenSpec.upto normalValuesSpec)

/-- 'fiduciallaw34.NormalAdds', WHERE WHAT IT READS IS OF BULK AT MOST 1048576: true; the input reads as it did. -/
def normalAddsUptoRow : OpenClaim := { program := "ytccepmpebioeiaagreat", sum := "b9243c9fc2e03ef5ff87a4e205005d24dbaced8cc4c4ce0d37295bcbce89d9a1", func := "fiducial/fiduciallaw34.NormalAdds", spec := "normalAdds", unfollowed := true, recurses := true, plainKeys := false, apart := false, narrowed := true }
def NormalAddsUptoSaid : Prop := normalAddsUptoRow.holds Tryz.pinned (OpenSpec.upto normalAddsSpec)

/-- 'fiduciallaw34.NormalMerges', WHERE WHAT IT READS IS OF BULK AT MOST 1048576: true; the input reads as it did. -/
def normalMergesUptoRow : OpenClaim := { program := "ytccepmpebioeiaagreat", sum := "b9243c9fc2e03ef5ff87a4e205005d24dbaced8cc4c4ce0d37295bcbce89d9a1", func := "fiducial/fiduciallaw34.NormalMerges", spec := "normalMerges", unfollowed := true, recurses := true, plainKeys := false, apart := false, narrowed := true }
def NormalMergesUptoSaid : Prop := normalMergesUptoRow.holds Tryz.pinned (OpenSpec.upto normalMergesSpec)

/-- 'fiduciallaw34.NormalBlocks', WHERE WHAT IT READS IS OF BULK AT MOST 1048576: true; the input reads as it did. -/
def normalBlocksUptoRow : OpenClaim := { program := "ytccepmpebioeiaagreat", sum := "b9243c9fc2e03ef5ff87a4e205005d24dbaced8cc4c4ce0d37295bcbce89d9a1", func := "fiducial/fiduciallaw34.NormalBlocks", spec := "normalBlocks", unfollowed := true, recurses := true, plainKeys := false, apart := false, narrowed := true }
def NormalBlocksUptoSaid : Prop := normalBlocksUptoRow.holds Tryz.pinned (OpenSpec.upto normalBlocksSpec)

end Rows
end Go.Proofs.YtccepmpebioeiaaGreat
