/-
  No cell of these rows narrows 'for every input' (looked for: loops, veiled, ifaces, maps, wideKeys, modest, calm, conditions, laid).
  DERIVED. THE GIVEN ROWS OF THIS SEAT. 5 by the template 'for every input the law returns true; each argument reads behind the call as it read before'; 0 by the template 'total and deterministic' (their statements: YtpkmjhmmmdkodaaGreatTotals.lean).
  GIVEN WITH THE SEED: the statements are not yours to turn. If you find one false, say at which input.
  Laid BY PROGRAM, IN A SANDBOX (cutbox-rows.mjs): the forced cells as the released guide's own fill.sh prints them over the translation 39c90ab5d42113a6… (all of the seat's roots in one cut). By AI agents, Wed Nov 11 2026. No macro, syntax, notation, axiom, sorry.
-/
import Derived.Test.YtpkmjhmmmdkodaaGreatChecked
import GoSem.Claim
import GoSem.ClaimJoined
import GoSem.ClaimMapViews
import Derived.JoinedTies
import Derived.KernelRfl
namespace Go.Proofs.YtpkmjhmmmdkodaaGreat
/- THE CELL 'sum', in the pinned program and in every row, IS THE sha256 OF THE DUMP (.gsa) THAT YtpkmjhmmmdkodaaGreatProg.lean LOADS. Nothing in Lean hashes anything: it is a label: what it is worth is what the hold of that sum in a sandbox is worth. -/
noncomputable def Tryz.pinned : Pinned := { name := "ytpkmjhmmmdkodaagreat", sum := "39c90ab5d42113a6829a1948ec0ceb7ee1b5adc6d9fce3b08758dd78de4055fd", checked := Tryz.checked }
namespace Rows
def none {H : Type} : Left H := { results := [], args := [] }

/-- 'fiduciallaw06.BlocksTwice': WHATEVER THE INPUT: true; the input reads as it did. -/
def blocksTwiceSpec : ChangeSpec := { name := "blocksTwice", fn := fun _ => fun
  | [d1, d2, d3] => { results := [.lit (.bool true)], args := [d1, d2, d3] }
  | _ => none }
def blocksTwiceRow : OpenClaim := { program := "ytpkmjhmmmdkodaagreat", sum := "39c90ab5d42113a6829a1948ec0ceb7ee1b5adc6d9fce3b08758dd78de4055fd", func := "fiducial/fiduciallaw06.BlocksTwice", spec := "blocksTwice", unfollowed := true, recurses := true, plainKeys := false, apart := false }
def BlocksTwiceSaid : Prop := blocksTwiceRow.holds Tryz.pinned (OpenSpec.ofChange blocksTwiceSpec)

/-- ITS FALSE NEIGHBOUR: 'it returns false'. Refute it at one input. -/
def blocksTwiceWrong : ChangeSpec := { name := "blocksTwice", fn := fun _ => fun
  | [d1, d2, d3] => { results := [.lit (.bool false)], args := [d1, d2, d3] }
  | _ => none }
def BlocksTwiceWrongFalsely : Prop := blocksTwiceRow.holds Tryz.pinned (OpenSpec.ofChange blocksTwiceWrong)

/-- 'fiduciallaw06.BlocksDefinite': WHATEVER THE INPUT: true; the input reads as it did. -/
def blocksDefiniteSpec : ChangeSpec := { name := "blocksDefinite", fn := fun _ => fun
  | [d1, d2, d3] => { results := [.lit (.bool true)], args := [d1, d2, d3] }
  | _ => none }
def blocksDefiniteRow : OpenClaim := { program := "ytpkmjhmmmdkodaagreat", sum := "39c90ab5d42113a6829a1948ec0ceb7ee1b5adc6d9fce3b08758dd78de4055fd", func := "fiducial/fiduciallaw06.BlocksDefinite", spec := "blocksDefinite", unfollowed := true, recurses := true, plainKeys := false, apart := false }
def BlocksDefiniteSaid : Prop := blocksDefiniteRow.holds Tryz.pinned (OpenSpec.ofChange blocksDefiniteSpec)

/-- ITS FALSE NEIGHBOUR: 'it returns false'. Refute it at one input. -/
def blocksDefiniteWrong : ChangeSpec := { name := "blocksDefinite", fn := fun _ => fun
  | [d1, d2, d3] => { results := [.lit (.bool false)], args := [d1, d2, d3] }
  | _ => none }
def BlocksDefiniteWrongFalsely : Prop := blocksDefiniteRow.holds Tryz.pinned (OpenSpec.ofChange blocksDefiniteWrong)

/-- 'fiduciallaw06.BlocksFill': WHATEVER THE INPUT: true; the input reads as it did. -/
def blocksFillSpec : ChangeSpec := { name := "blocksFill", fn := fun _ => fun
  | [d1, d2, d3] => { results := [.lit (.bool true)], args := [d1, d2, d3] }
  | _ => none }
def blocksFillRow : OpenClaim := { program := "ytpkmjhmmmdkodaagreat", sum := "39c90ab5d42113a6829a1948ec0ceb7ee1b5adc6d9fce3b08758dd78de4055fd", func := "fiducial/fiduciallaw06.BlocksFill", spec := "blocksFill", unfollowed := true, recurses := true, plainKeys := false, apart := false }
def BlocksFillSaid : Prop := blocksFillRow.holds Tryz.pinned (OpenSpec.ofChange blocksFillSpec)

/-- ITS FALSE NEIGHBOUR: 'it returns false'. Refute it at one input. -/
def blocksFillWrong : ChangeSpec := { name := "blocksFill", fn := fun _ => fun
  | [d1, d2, d3] => { results := [.lit (.bool false)], args := [d1, d2, d3] }
  | _ => none }
def BlocksFillWrongFalsely : Prop := blocksFillRow.holds Tryz.pinned (OpenSpec.ofChange blocksFillWrong)

/-- 'fiduciallaw06.BlocksOrder': WHATEVER THE INPUT: true; the input reads as it did. -/
def blocksOrderSpec : ChangeSpec := { name := "blocksOrder", fn := fun _ => fun
  | [d] => { results := [.lit (.bool true)], args := [d] }
  | _ => none }
def blocksOrderRow : OpenClaim := { program := "ytpkmjhmmmdkodaagreat", sum := "39c90ab5d42113a6829a1948ec0ceb7ee1b5adc6d9fce3b08758dd78de4055fd", func := "fiducial/fiduciallaw06.BlocksOrder", spec := "blocksOrder", unfollowed := true, recurses := true, plainKeys := false, apart := false }
def BlocksOrderSaid : Prop := blocksOrderRow.holds Tryz.pinned (OpenSpec.ofChange blocksOrderSpec)

/-- ITS FALSE NEIGHBOUR: 'it returns false'. Refute it at one input. -/
def blocksOrderWrong : ChangeSpec := { name := "blocksOrder", fn := fun _ => fun
  | [d] => { results := [.lit (.bool false)], args := [d] }
  | _ => none }
def BlocksOrderWrongFalsely : Prop := blocksOrderRow.holds Tryz.pinned (OpenSpec.ofChange blocksOrderWrong)

/-- 'fiduciallaw06.BlocksChecks': WHATEVER THE INPUT: true; the input reads as it did. -/
def blocksChecksSpec : ChangeSpec := { name := "blocksChecks", fn := fun _ => fun
  | [d] => { results := [.lit (.bool true)], args := [d] }
  | _ => none }
def blocksChecksRow : OpenClaim := { program := "ytpkmjhmmmdkodaagreat", sum := "39c90ab5d42113a6829a1948ec0ceb7ee1b5adc6d9fce3b08758dd78de4055fd", func := "fiducial/fiduciallaw06.BlocksChecks", spec := "blocksChecks", unfollowed := true, recurses := true, plainKeys := false, apart := false }
def BlocksChecksSaid : Prop := blocksChecksRow.holds Tryz.pinned (OpenSpec.ofChange blocksChecksSpec)

/-- ITS FALSE NEIGHBOUR: 'it returns false'. Refute it at one input. -/
def blocksChecksWrong : ChangeSpec := { name := "blocksChecks", fn := fun _ => fun
  | [d] => { results := [.lit (.bool false)], args := [d] }
  | _ => none }
def BlocksChecksWrongFalsely : Prop := blocksChecksRow.holds Tryz.pinned (OpenSpec.ofChange blocksChecksWrong)

/- THE SECOND FORM. 'bulk': how many values and letters a reading holds, each counted each time it is reached (what is shared counts as often as it is met; a slice's spare places count too). A statement '..UptoSaid' is the law's where the arguments, and the package variables that the reading takes, are together of bulk at most 1048576: NARROWER than '..Said'. Prove '..Said' where nothing that the law and all that it calls make is longer than what came in: it says more and counts as full. Else prove '..UptoSaid'. A law counts once. -/
mutual
def uptoBulk {H : Type} : DataW H → Nat
  | .lit (.string bytes) => bytes.length + 1
  | .lit _ => 1
  | .nil => 1
  | .ptr d => uptoBulk d + 1
  | .slice elems spare => uptoBulkAll elems + uptoBulkAll spare + 1
  | .agg parts => uptoBulkAll parts + 1
  | .iface _ d => uptoBulk d + 1
  | .map entries => uptoBulkEntries entries + 1
  | .held _ => 1
def uptoBulkAll {H : Type} : List (DataW H) → Nat
  | [] => 0
  | d :: r => uptoBulk d + uptoBulkAll r
def uptoBulkEntries {H : Type} : List (Lit × DataW H) → Nat
  | [] => 0
  | x :: r => uptoBulkEntry x + uptoBulkEntries r
def uptoBulkEntry {H : Type} : Lit × DataW H → Nat
  | (.string bytes, d) => bytes.length + uptoBulk d + 1
  | (_, d) => uptoBulk d + 1
 end
def uptoSmall : (H : Type) → List (DataW H) → Bool := fun _ ds => decide (uptoBulkAll ds ≤ 1048576)
def OpenSpec.upto (s : _root_.Go.ChangeSpec) : _root_.Go.OpenSpec := { _root_.Go.OpenSpec.ofChange s with cond := some uptoSmall }

/-- 'fiduciallaw06.BlocksTwice', WHERE WHAT IT READS IS OF BULK AT MOST 1048576: true; the input reads as it did. -/
def blocksTwiceUptoRow : OpenClaim := { program := "ytpkmjhmmmdkodaagreat", sum := "39c90ab5d42113a6829a1948ec0ceb7ee1b5adc6d9fce3b08758dd78de4055fd", func := "fiducial/fiduciallaw06.BlocksTwice", spec := "blocksTwice", unfollowed := true, recurses := true, plainKeys := false, apart := false, narrowed := true }
def BlocksTwiceUptoSaid : Prop := blocksTwiceUptoRow.holds Tryz.pinned (OpenSpec.upto blocksTwiceSpec)

/-- 'fiduciallaw06.BlocksDefinite', WHERE WHAT IT READS IS OF BULK AT MOST 1048576: true; the input reads as it did. -/
def blocksDefiniteUptoRow : OpenClaim := { program := "ytpkmjhmmmdkodaagreat", sum := "39c90ab5d42113a6829a1948ec0ceb7ee1b5adc6d9fce3b08758dd78de4055fd", func := "fiducial/fiduciallaw06.BlocksDefinite", spec := "blocksDefinite", unfollowed := true, recurses := true, plainKeys := false, apart := false, narrowed := true }
def BlocksDefiniteUptoSaid : Prop := blocksDefiniteUptoRow.holds Tryz.pinned (OpenSpec.upto blocksDefiniteSpec)

/-- 'fiduciallaw06.BlocksFill', WHERE WHAT IT READS IS OF BULK AT MOST 1048576: true; the input reads as it did. -/
def blocksFillUptoRow : OpenClaim := { program := "ytpkmjhmmmdkodaagreat", sum := "39c90ab5d42113a6829a1948ec0ceb7ee1b5adc6d9fce3b08758dd78de4055fd", func := "fiducial/fiduciallaw06.BlocksFill", spec := "blocksFill", unfollowed := true, recurses := true, plainKeys := false, apart := false, narrowed := true }
def BlocksFillUptoSaid : Prop := blocksFillUptoRow.holds Tryz.pinned (OpenSpec.upto blocksFillSpec)

/-- 'fiduciallaw06.BlocksOrder', WHERE WHAT IT READS IS OF BULK AT MOST 1048576: true; the input reads as it did. -/
def blocksOrderUptoRow : OpenClaim := { program := "ytpkmjhmmmdkodaagreat", sum := "39c90ab5d42113a6829a1948ec0ceb7ee1b5adc6d9fce3b08758dd78de4055fd", func := "fiducial/fiduciallaw06.BlocksOrder", spec := "blocksOrder", unfollowed := true, recurses := true, plainKeys := false, apart := false, narrowed := true }
def BlocksOrderUptoSaid : Prop := blocksOrderUptoRow.holds Tryz.pinned (OpenSpec.upto blocksOrderSpec)

/-- 'fiduciallaw06.BlocksChecks', WHERE WHAT IT READS IS OF BULK AT MOST 1048576: true; the input reads as it did. -/
def blocksChecksUptoRow : OpenClaim := { program := "ytpkmjhmmmdkodaagreat", sum := "39c90ab5d42113a6829a1948ec0ceb7ee1b5adc6d9fce3b08758dd78de4055fd", func := "fiducial/fiduciallaw06.BlocksChecks", spec := "blocksChecks", unfollowed := true, recurses := true, plainKeys := false, apart := false, narrowed := true }
def BlocksChecksUptoSaid : Prop := blocksChecksUptoRow.holds Tryz.pinned (OpenSpec.upto blocksChecksSpec)

end Rows
end Go.Proofs.YtpkmjhmmmdkodaaGreat
