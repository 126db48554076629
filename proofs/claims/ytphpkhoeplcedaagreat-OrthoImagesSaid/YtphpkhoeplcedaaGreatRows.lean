/-
  No cell of these rows narrows 'for every input' (looked for: loops, veiled, ifaces, maps, wideKeys, modest, calm, conditions, laid).
  DERIVED. THE GIVEN ROWS OF THIS SEAT. 7 by the template 'for every input the law returns true; each argument reads behind the call as it read before'; 0 by the template 'total and deterministic' (their statements: YtphpkhoeplcedaaGreatTotals.lean).
  GIVEN WITH THE SEED: the statements are not yours to turn. If you find one false, say at which input.
  Laid BY PROGRAM, IN A SANDBOX (cutbox-rows.mjs): the forced cells as the released guide's own fill.sh prints them over the translation be86e6951c43f412… (all of the seat's roots in one cut). By AI agents, Wed Nov 11 2026. No macro, syntax, notation, axiom, sorry.
-/
import Derived.Test.YtphpkhoeplcedaaGreatChecked
import GoSem.Claim
import GoSem.ClaimJoined
import GoSem.ClaimMapViews
import Derived.JoinedTies
import Derived.KernelRfl
namespace Go.Proofs.YtphpkhoeplcedaaGreat
/- THE CELL 'sum', in the pinned program and in every row, IS THE sha256 OF THE DUMP (.gsa) THAT YtphpkhoeplcedaaGreatProg.lean LOADS. Nothing in Lean hashes anything: it is a label: what it is worth is what the hold of that sum in a sandbox is worth. -/
noncomputable def Tryz.pinned : Pinned := { name := "ytphpkhoeplcedaagreat", sum := "be86e6951c43f412163eb3d055b05e92d6d28ab5f259a547d3d32ab80ac8f9e0", checked := Tryz.checked }
namespace Rows
def none {H : Type} : Left H := { results := [], args := [] }

/-- 'fiduciallaw49.OrthoHeights': WHATEVER THE INPUT: true; the input reads as it did. -/
def orthoHeightsSpec : ChangeSpec := { name := "orthoHeights", fn := fun _ => fun
  | [d1, d2] => { results := [.lit (.bool true)], args := [d1, d2] }
  | _ => none }
def orthoHeightsRow : OpenClaim := { program := "ytphpkhoeplcedaagreat", sum := "be86e6951c43f412163eb3d055b05e92d6d28ab5f259a547d3d32ab80ac8f9e0", func := "fiducial/fiduciallaw49.OrthoHeights", spec := "orthoHeights", unfollowed := true, recurses := true, plainKeys := false, apart := false }
def OrthoHeightsSaid : Prop := orthoHeightsRow.holds Tryz.pinned (OpenSpec.ofChange orthoHeightsSpec)

/-- ITS FALSE NEIGHBOUR: 'it returns false'. Refute it at one input. -/
def orthoHeightsWrong : ChangeSpec := { name := "orthoHeights", fn := fun _ => fun
  | [d1, d2] => { results := [.lit (.bool false)], args := [d1, d2] }
  | _ => none }
def OrthoHeightsWrongFalsely : Prop := orthoHeightsRow.holds Tryz.pinned (OpenSpec.ofChange orthoHeightsWrong)

/-- 'fiduciallaw49.OrthoBlocks': WHATEVER THE INPUT: true; the input reads as it did. -/
def orthoBlocksSpec : ChangeSpec := { name := "orthoBlocks", fn := fun _ => fun
  | [d1, d2, d3] => { results := [.lit (.bool true)], args := [d1, d2, d3] }
  | _ => none }
def orthoBlocksRow : OpenClaim := { program := "ytphpkhoeplcedaagreat", sum := "be86e6951c43f412163eb3d055b05e92d6d28ab5f259a547d3d32ab80ac8f9e0", func := "fiducial/fiduciallaw49.OrthoBlocks", spec := "orthoBlocks", unfollowed := true, recurses := true, plainKeys := false, apart := false }
def OrthoBlocksSaid : Prop := orthoBlocksRow.holds Tryz.pinned (OpenSpec.ofChange orthoBlocksSpec)

/-- ITS FALSE NEIGHBOUR: 'it returns false'. Refute it at one input. -/
def orthoBlocksWrong : ChangeSpec := { name := "orthoBlocks", fn := fun _ => fun
  | [d1, d2, d3] => { results := [.lit (.bool false)], args := [d1, d2, d3] }
  | _ => none }
def OrthoBlocksWrongFalsely : Prop := orthoBlocksRow.holds Tryz.pinned (OpenSpec.ofChange orthoBlocksWrong)

/-- 'fiduciallaw49.OrthoParts': WHATEVER THE INPUT: true; the input reads as it did. -/
def orthoPartsSpec : ChangeSpec := { name := "orthoParts", fn := fun _ => fun
  | [d1, d2, d3] => { results := [.lit (.bool true)], args := [d1, d2, d3] }
  | _ => none }
def orthoPartsRow : OpenClaim := { program := "ytphpkhoeplcedaagreat", sum := "be86e6951c43f412163eb3d055b05e92d6d28ab5f259a547d3d32ab80ac8f9e0", func := "fiducial/fiduciallaw49.OrthoParts", spec := "orthoParts", unfollowed := true, recurses := true, plainKeys := false, apart := false }
def OrthoPartsSaid : Prop := orthoPartsRow.holds Tryz.pinned (OpenSpec.ofChange orthoPartsSpec)

/-- ITS FALSE NEIGHBOUR: 'it returns false'. Refute it at one input. -/
def orthoPartsWrong : ChangeSpec := { name := "orthoParts", fn := fun _ => fun
  | [d1, d2, d3] => { results := [.lit (.bool false)], args := [d1, d2, d3] }
  | _ => none }
def OrthoPartsWrongFalsely : Prop := orthoPartsRow.holds Tryz.pinned (OpenSpec.ofChange orthoPartsWrong)

/-- 'fiduciallaw49.OrthoShifts': WHATEVER THE INPUT: true; the input reads as it did. -/
def orthoShiftsSpec : ChangeSpec := { name := "orthoShifts", fn := fun _ => fun
  | [d1, d2, d3] => { results := [.lit (.bool true)], args := [d1, d2, d3] }
  | _ => none }
def orthoShiftsRow : OpenClaim := { program := "ytphpkhoeplcedaagreat", sum := "be86e6951c43f412163eb3d055b05e92d6d28ab5f259a547d3d32ab80ac8f9e0", func := "fiducial/fiduciallaw49.OrthoShifts", spec := "orthoShifts", unfollowed := true, recurses := true, plainKeys := false, apart := false }
def OrthoShiftsSaid : Prop := orthoShiftsRow.holds Tryz.pinned (OpenSpec.ofChange orthoShiftsSpec)

/-- ITS FALSE NEIGHBOUR: 'it returns false'. Refute it at one input. -/
def orthoShiftsWrong : ChangeSpec := { name := "orthoShifts", fn := fun _ => fun
  | [d1, d2, d3] => { results := [.lit (.bool false)], args := [d1, d2, d3] }
  | _ => none }
def OrthoShiftsWrongFalsely : Prop := orthoShiftsRow.holds Tryz.pinned (OpenSpec.ofChange orthoShiftsWrong)

/-- 'fiduciallaw49.OrthoImages': WHATEVER THE INPUT: true; the input reads as it did. -/
def orthoImagesSpec : ChangeSpec := { name := "orthoImages", fn := fun _ => fun
  | [d1, d2, d3] => { results := [.lit (.bool true)], args := [d1, d2, d3] }
  | _ => none }
def orthoImagesRow : OpenClaim := { program := "ytphpkhoeplcedaagreat", sum := "be86e6951c43f412163eb3d055b05e92d6d28ab5f259a547d3d32ab80ac8f9e0", func := "fiducial/fiduciallaw49.OrthoImages", spec := "orthoImages", unfollowed := true, recurses := true, plainKeys := false, apart := false }
def OrthoImagesSaid : Prop := orthoImagesRow.holds Tryz.pinned (OpenSpec.ofChange orthoImagesSpec)

/-- ITS FALSE NEIGHBOUR: 'it returns false'. Refute it at one input. -/
def orthoImagesWrong : ChangeSpec := { name := "orthoImages", fn := fun _ => fun
  | [d1, d2, d3] => { results := [.lit (.bool false)], args := [d1, d2, d3] }
  | _ => none }
def OrthoImagesWrongFalsely : Prop := orthoImagesRow.holds Tryz.pinned (OpenSpec.ofChange orthoImagesWrong)

/-- 'fiduciallaw49.OrthoSources': WHATEVER THE INPUT: true; the input reads as it did. -/
def orthoSourcesSpec : ChangeSpec := { name := "orthoSources", fn := fun _ => fun
  | [d1, d2, d3] => { results := [.lit (.bool true)], args := [d1, d2, d3] }
  | _ => none }
def orthoSourcesRow : OpenClaim := { program := "ytphpkhoeplcedaagreat", sum := "be86e6951c43f412163eb3d055b05e92d6d28ab5f259a547d3d32ab80ac8f9e0", func := "fiducial/fiduciallaw49.OrthoSources", spec := "orthoSources", unfollowed := true, recurses := true, plainKeys := false, apart := false }
def OrthoSourcesSaid : Prop := orthoSourcesRow.holds Tryz.pinned (OpenSpec.ofChange orthoSourcesSpec)

/-- ITS FALSE NEIGHBOUR: 'it returns false'. Refute it at one input. -/
def orthoSourcesWrong : ChangeSpec := { name := "orthoSources", fn := fun _ => fun
  | [d1, d2, d3] => { results := [.lit (.bool false)], args := [d1, d2, d3] }
  | _ => none }
def OrthoSourcesWrongFalsely : Prop := orthoSourcesRow.holds Tryz.pinned (OpenSpec.ofChange orthoSourcesWrong)

/-- 'fiduciallaw49.OrthoPhotos': WHATEVER THE INPUT: true; the input reads as it did. -/
def orthoPhotosSpec : ChangeSpec := { name := "orthoPhotos", fn := fun _ => fun
  | [d1, d2, d3] => { results := [.lit (.bool true)], args := [d1, d2, d3] }
  | _ => none }
def orthoPhotosRow : OpenClaim := { program := "ytphpkhoeplcedaagreat", sum := "be86e6951c43f412163eb3d055b05e92d6d28ab5f259a547d3d32ab80ac8f9e0", func := "fiducial/fiduciallaw49.OrthoPhotos", spec := "orthoPhotos", unfollowed := true, recurses := true, plainKeys := false, apart := false }
def OrthoPhotosSaid : Prop := orthoPhotosRow.holds Tryz.pinned (OpenSpec.ofChange orthoPhotosSpec)

/-- ITS FALSE NEIGHBOUR: 'it returns false'. Refute it at one input. -/
def orthoPhotosWrong : ChangeSpec := { name := "orthoPhotos", fn := fun _ => fun
  | [d1, d2, d3] => { results := [.lit (.bool false)], args := [d1, d2, d3] }
  | _ => none }
def OrthoPhotosWrongFalsely : Prop := orthoPhotosRow.holds Tryz.pinned (OpenSpec.ofChange orthoPhotosWrong)

/- THE SECOND FORM. 'bulk': how many values and letters a reading holds, each counted each time it is reached (what is shared counts as often as it is met; a slice's spare places count too). A statement '..UptoSaid' is the law's where the arguments, and the package variables that the reading takes, are together of bulk at most 1048576: NARROWER than '..Said'. Prove '..Said' where nothing that the law and all that it calls make is longer than what came in: it says more and counts as full. Else prove '..UptoSaid'. A law counts once. -/
mutual
def uptoBulk {H : Type} : DataW H → Nat
  | .lit (.string bytes) => bytes.length + 1
  | .lit _ => 1
  | .nil => 1
  | .ptr d => uptoBulk d + 1
  | .slice elems spare => uptoBulkAll elems + uptoBulkAll spare + 1
  | .agg parts => uptoBulkAll parts + 1
  | .iface _ d => uptoBulk d + 1
  | .map entries => uptoBulkEntries entries + 1
  | .held _ => 1
def uptoBulkAll {H : Type} : List (DataW H) → Nat
  | [] => 0
  | d :: r => uptoBulk d + uptoBulkAll r
def uptoBulkEntries {H : Type} : List (Lit × DataW H) → Nat
  | [] => 0
  | x :: r => uptoBulkEntry x + uptoBulkEntries r
def uptoBulkEntry {H : Type} : Lit × DataW H → Nat
  | (.string bytes, d) => bytes.length + uptoBulk d + 1
  | (_, d) => uptoBulk d + 1
 end
def uptoSmall : (H : Type) → List (DataW H) → Bool := fun _ ds => decide (uptoBulkAll ds ≤ 1048576)
def OpenSpec.upto (s : _root_.Go.ChangeSpec) : _root_.Go.OpenSpec := { _root_.Go.OpenSpec.ofChange s with cond := some uptoSmall }

/-- 'fiduciallaw49.OrthoHeights', WHERE WHAT IT READS IS OF BULK AT MOST 1048576: true; the input reads as it did. -/
def orthoHeightsUptoRow : OpenClaim := { program := "ytphpkhoeplcedaagreat", sum := "be86e6951c43f412163eb3d055b05e92d6d28ab5f259a547d3d32ab80ac8f9e0", func := "fiducial/fiduciallaw49.OrthoHeights", spec := "orthoHeights", unfollowed := true, recurses := true, plainKeys := false, apart := false, narrowed := true }
def OrthoHeightsUptoSaid : Prop := orthoHeightsUptoRow.holds Tryz.pinned (OpenSpec.upto orthoHeightsSpec)

/-- 'fiduciallaw49.OrthoBlocks', WHERE WHAT IT READS IS OF BULK AT MOST 1048576: true; the input reads as it did. -/
def orthoBlocksUptoRow : OpenClaim := { program := "ytphpkhoeplcedaagreat", sum := "be86e6951c43f412163eb3d055b05e92d6d28ab5f259a547d3d32ab80ac8f9e0", func := "fiducial/fiduciallaw49.OrthoBlocks", spec := "orthoBlocks", unfollowed := true, recurses := true, plainKeys := false, apart := false, narrowed := true }
def OrthoBlocksUptoSaid : Prop := orthoBlocksUptoRow.holds Tryz.pinned (OpenSpec.upto orthoBlocksSpec)

/-- 'fiduciallaw49.OrthoParts', WHERE WHAT IT READS IS OF BULK AT MOST 1048576: true; the input reads as it did. -/
def orthoPartsUptoRow : OpenClaim := { program := "ytphpkhoeplcedaagreat", sum := "be86e6951c43f412163eb3d055b05e92d6d28ab5f259a547d3d32ab80ac8f9e0", func := "fiducial/fiduciallaw49.OrthoParts", spec := "orthoParts", unfollowed := true, recurses := true, plainKeys := false, apart := false, narrowed := true }
def OrthoPartsUptoSaid : Prop := orthoPartsUptoRow.holds Tryz.pinned (OpenSpec.upto orthoPartsSpec)

/-- 'fiduciallaw49.OrthoShifts', WHERE WHAT IT READS IS OF BULK AT MOST 1048576: true; the input reads as it did. -/
def orthoShiftsUptoRow : OpenClaim := { program := "ytphpkhoeplcedaagreat", sum := "be86e6951c43f412163eb3d055b05e92d6d28ab5f259a547d3d32ab80ac8f9e0", func := "fiducial/fiduciallaw49.OrthoShifts", spec := "orthoShifts", unfollowed := true, recurses := true, plainKeys := false, apart := false, narrowed := true }
def OrthoShiftsUptoSaid : Prop := orthoShiftsUptoRow.holds Tryz.pinned (OpenSpec.upto orthoShiftsSpec)

/-- 'fiduciallaw49.OrthoImages', WHERE WHAT IT READS IS OF BULK AT MOST 1048576: true; the input reads as it did. -/
def orthoImagesUptoRow : OpenClaim := { program := "ytphpkhoeplcedaagreat", sum := "be86e6951c43f412163eb3d055b05e92d6d28ab5f259a547d3d32ab80ac8f9e0", func := "fiducial/fiduciallaw49.OrthoImages", spec := "orthoImages", unfollowed := true, recurses := true, plainKeys := false, apart := false, narrowed := true }
def OrthoImagesUptoSaid : Prop := orthoImagesUptoRow.holds Tryz.pinned (OpenSpec.upto orthoImagesSpec)

/-- 'fiduciallaw49.OrthoSources', WHERE WHAT IT READS IS OF BULK AT MOST 1048576: true; the input reads as it did. -/
def orthoSourcesUptoRow : OpenClaim := { program := "ytphpkhoeplcedaagreat", sum := "be86e6951c43f412163eb3d055b05e92d6d28ab5f259a547d3d32ab80ac8f9e0", func := "fiducial/fiduciallaw49.OrthoSources", spec := "orthoSources", unfollowed := true, recurses := true, plainKeys := false, apart := false, narrowed := true }
def OrthoSourcesUptoSaid : Prop := orthoSourcesUptoRow.holds Tryz.pinned (OpenSpec.upto orthoSourcesSpec)

/-- 'fiduciallaw49.OrthoPhotos', WHERE WHAT IT READS IS OF BULK AT MOST 1048576: true; the input reads as it did. -/
def orthoPhotosUptoRow : OpenClaim := { program := "ytphpkhoeplcedaagreat", sum := "be86e6951c43f412163eb3d055b05e92d6d28ab5f259a547d3d32ab80ac8f9e0", func := "fiducial/fiduciallaw49.OrthoPhotos", spec := "orthoPhotos", unfollowed := true, recurses := true, plainKeys := false, apart := false, narrowed := true }
def OrthoPhotosUptoSaid : Prop := orthoPhotosUptoRow.holds Tryz.pinned (OpenSpec.upto orthoPhotosSpec)

end Rows
end Go.Proofs.YtphpkhoeplcedaaGreat
