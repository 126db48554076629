/-
  NARROWER THAN 'FOR EVERY INPUT', by the rows' own cells (each row's printed sentence says how): StorePuts: laid · StoreAtomic: laid · StoreNames: laid · StoreLoads: laid · StoreShelves: laid · StoreKeeps: laid · StoreTags: laid.
  DERIVED. THE GIVEN ROWS OF THIS SEAT. 7 by the template 'for every input the law returns true; each argument reads behind the call as it read before'; 0 by the template 'total and deterministic' (their statements: YtdeeekdbhhenpaaGreatDoorTotals.lean).
  GIVEN WITH THE SEED: the statements are not yours to turn. If you find one false, say at which input.
  Laid BY PROGRAM, IN A SANDBOX (cutbox-rows.mjs): the forced cells as the released guide's own fill.sh prints them over the translation 113cc04f0727100a… (all of the seat's roots in one cut). By AI agents, Wed Nov 11 2026. No macro, syntax, notation, axiom, sorry.
-/
import Derived.Test.YtdeeekdbhhenpaaGreatDoorChecked
import GoSem.Claim
import GoSem.ClaimJoined
import GoSem.ClaimMapViews
import Derived.JoinedTies
import Derived.KernelRfl
namespace Go.Proofs.YtdeeekdbhhenpaaGreatDoor
/- THE CELL 'sum', in the pinned program and in every row, IS THE sha256 OF THE DUMP (.gsa) THAT YtdeeekdbhhenpaaGreatDoorProg.lean LOADS. Nothing in Lean hashes anything: it is a label: what it is worth is what the hold of that sum in a sandbox is worth. -/
noncomputable def Tryz.pinned : Pinned := { name := "ytdeeekdbhhenpaagreatdoor", sum := "113cc04f0727100a94d8961cfb8a7479b34848d4fbe130e4a36b5d909b0cee5a", checked := Tryz.checked }
namespace Rows
def none {H : Type} : Left H := { results := [], args := [] }

/- WHAT THE LISTED PACKAGE-LEVEL VARIABLES READ AS WHEN THE CALL BEGINS. Each datum BY PROGRAM (the guide's laid-datum.mjs) off the statement by which the dump's own 'gosem.cut.vars' lays the variable. In a bare row this is a premise. The card (YtdeeekdbhhenpaaGreatDoorCards.lean) ties it to the program's text. -/
def laid_math_bits_deBruijn32tab {H : Type} : DataW H := .agg [.lit (.int .u8 0), .lit (.int .u8 1), .lit (.int .u8 28), .lit (.int .u8 2), .lit (.int .u8 29), .lit (.int .u8 14), .lit (.int .u8 24), .lit (.int .u8 3), .lit (.int .u8 30), .lit (.int .u8 22), .lit (.int .u8 20), .lit (.int .u8 15), .lit (.int .u8 25), .lit (.int .u8 17), .lit (.int .u8 4), .lit (.int .u8 8), .lit (.int .u8 31), .lit (.int .u8 27), .lit (.int .u8 13), .lit (.int .u8 23), .lit (.int .u8 21), .lit (.int .u8 19), .lit (.int .u8 16), .lit (.int .u8 7), .lit (.int .u8 26), .lit (.int .u8 12), .lit (.int .u8 18), .lit (.int .u8 6), .lit (.int .u8 11), .lit (.int .u8 5), .lit (.int .u8 10), .lit (.int .u8 9)]
def laid_math_bits_deBruijn64tab {H : Type} : DataW H := .agg [.lit (.int .u8 0), .lit (.int .u8 1), .lit (.int .u8 56), .lit (.int .u8 2), .lit (.int .u8 57), .lit (.int .u8 49), .lit (.int .u8 28), .lit (.int .u8 3), .lit (.int .u8 61), .lit (.int .u8 58), .lit (.int .u8 42), .lit (.int .u8 50), .lit (.int .u8 38), .lit (.int .u8 29), .lit (.int .u8 17), .lit (.int .u8 4), .lit (.int .u8 62), .lit (.int .u8 47), .lit (.int .u8 59), .lit (.int .u8 36), .lit (.int .u8 45), .lit (.int .u8 43), .lit (.int .u8 51), .lit (.int .u8 22), .lit (.int .u8 53), .lit (.int .u8 39), .lit (.int .u8 33), .lit (.int .u8 30), .lit (.int .u8 24), .lit (.int .u8 18), .lit (.int .u8 12), .lit (.int .u8 5), .lit (.int .u8 63), .lit (.int .u8 55), .lit (.int .u8 48), .lit (.int .u8 27), .lit (.int .u8 60), .lit (.int .u8 41), .lit (.int .u8 37), .lit (.int .u8 16), .lit (.int .u8 46), .lit (.int .u8 35), .lit (.int .u8 44), .lit (.int .u8 21), .lit (.int .u8 52), .lit (.int .u8 32), .lit (.int .u8 23), .lit (.int .u8 11), .lit (.int .u8 54), .lit (.int .u8 26), .lit (.int .u8 40), .lit (.int .u8 15), .lit (.int .u8 34), .lit (.int .u8 20), .lit (.int .u8 31), .lit (.int .u8 10), .lit (.int .u8 25), .lit (.int .u8 14), .lit (.int .u8 19), .lit (.int .u8 9), .lit (.int .u8 13), .lit (.int .u8 8), .lit (.int .u8 7), .lit (.int .u8 6)]
def laid_internal_strconv_uint64pow10 {H : Type} : DataW H := .agg [.lit (.int .u64 1), .lit (.int .u64 10), .lit (.int .u64 100), .lit (.int .u64 1000), .lit (.int .u64 10000), .lit (.int .u64 100000), .lit (.int .u64 1000000), .lit (.int .u64 10000000), .lit (.int .u64 100000000), .lit (.int .u64 1000000000), .lit (.int .u64 10000000000), .lit (.int .u64 100000000000), .lit (.int .u64 1000000000000), .lit (.int .u64 10000000000000), .lit (.int .u64 100000000000000), .lit (.int .u64 1000000000000000), .lit (.int .u64 10000000000000000), .lit (.int .u64 100000000000000000), .lit (.int .u64 1000000000000000000), .lit (.int .u64 10000000000000000000)]
def laid_strconv_ErrRange {H : Type} : DataW H := .iface "*errors.errorString" (.ptr (.agg [.lit (.string [118, 97, 108, 117, 101, 32, 111, 117, 116, 32, 111, 102, 32, 114, 97, 110, 103, 101])]))
def laid_strconv_ErrSyntax {H : Type} : DataW H := .iface "*errors.errorString" (.ptr (.agg [.lit (.string [105, 110, 118, 97, 108, 105, 100, 32, 115, 121, 110, 116, 97, 120])]))
def laid_bytes_ErrTooLarge {H : Type} : DataW H := .iface "*errors.errorString" (.ptr (.agg [.lit (.string [98, 121, 116, 101, 115, 46, 66, 117, 102, 102, 101, 114, 58, 32, 116, 111, 111, 32, 108, 97, 114, 103, 101])]))
def laid_fiducial_store_mark {H : Type} : DataW H := .slice [.lit (.int .u8 70), .lit (.int .u8 83), .lit (.int .u8 66), .lit (.int .u8 49)] []

/-- 'fiduciallaw14.StorePuts': WHATEVER THE INPUT: true; the input reads as it did. -/
def storePutsSpec : ChangeSpec := { name := "storePuts", fn := fun _ => fun
  | [d1, d2] => { results := [.lit (.bool true)], args := [d1, d2] }
  | _ => none }
def storePutsRow : OpenClaim := { program := "ytdeeekdbhhenpaagreatdoor", sum := "113cc04f0727100a94d8961cfb8a7479b34848d4fbe130e4a36b5d909b0cee5a", func := "fiducial/fiduciallaw14.StorePuts", spec := "storePuts", inPlace := ["internal/bytealg.MakeNoZero", "internal/bytealg.IndexByte", "slices.overlaps[fiducial/api.Tag]"], unfollowed := true, recurses := true, named := ["fiducial/store.mark", "strconv.ErrSyntax", "strconv.ErrRange", "internal/strconv.uint64pow10", "math/bits.deBruijn32tab", "math/bits.deBruijn64tab", "bytes.ErrTooLarge"], apart := false, laid := [("math/bits.deBruijn32tab", laid_math_bits_deBruijn32tab), ("math/bits.deBruijn64tab", laid_math_bits_deBruijn64tab), ("internal/strconv.uint64pow10", laid_internal_strconv_uint64pow10), ("strconv.ErrRange", laid_strconv_ErrRange), ("strconv.ErrSyntax", laid_strconv_ErrSyntax), ("bytes.ErrTooLarge", laid_bytes_ErrTooLarge), ("fiducial/store.mark", laid_fiducial_store_mark)] }
def StorePutsSaid : Prop := storePutsRow.holds Tryz.pinned (OpenSpec.ofChange storePutsSpec)

/-- ITS FALSE NEIGHBOUR: 'it returns false'. Refute it at one input. -/
def storePutsWrong : ChangeSpec := { name := "storePuts", fn := fun _ => fun
  | [d1, d2] => { results := [.lit (.bool false)], args := [d1, d2] }
  | _ => none }
def StorePutsWrongFalsely : Prop := storePutsRow.holds Tryz.pinned (OpenSpec.ofChange storePutsWrong)

/-- 'fiduciallaw14.StoreAtomic': WHATEVER THE INPUT: true; the input reads as it did. -/
def storeAtomicSpec : ChangeSpec := { name := "storeAtomic", fn := fun _ => fun
  | [d] => { results := [.lit (.bool true)], args := [d] }
  | _ => none }
def storeAtomicRow : OpenClaim := { program := "ytdeeekdbhhenpaagreatdoor", sum := "113cc04f0727100a94d8961cfb8a7479b34848d4fbe130e4a36b5d909b0cee5a", func := "fiducial/fiduciallaw14.StoreAtomic", spec := "storeAtomic", inPlace := ["internal/bytealg.MakeNoZero", "internal/bytealg.IndexByte", "slices.overlaps[fiducial/api.Tag]"], unfollowed := true, recurses := true, named := ["fiducial/store.mark", "strconv.ErrSyntax", "strconv.ErrRange", "internal/strconv.uint64pow10", "math/bits.deBruijn32tab", "math/bits.deBruijn64tab", "bytes.ErrTooLarge"], apart := false, laid := [("math/bits.deBruijn32tab", laid_math_bits_deBruijn32tab), ("math/bits.deBruijn64tab", laid_math_bits_deBruijn64tab), ("internal/strconv.uint64pow10", laid_internal_strconv_uint64pow10), ("strconv.ErrRange", laid_strconv_ErrRange), ("strconv.ErrSyntax", laid_strconv_ErrSyntax), ("bytes.ErrTooLarge", laid_bytes_ErrTooLarge), ("fiducial/store.mark", laid_fiducial_store_mark)] }
def StoreAtomicSaid : Prop := storeAtomicRow.holds Tryz.pinned (OpenSpec.ofChange storeAtomicSpec)

/-- ITS FALSE NEIGHBOUR: 'it returns false'. Refute it at one input. -/
def storeAtomicWrong : ChangeSpec := { name := "storeAtomic", fn := fun _ => fun
  | [d] => { results := [.lit (.bool false)], args := [d] }
  | _ => none }
def StoreAtomicWrongFalsely : Prop := storeAtomicRow.holds Tryz.pinned (OpenSpec.ofChange storeAtomicWrong)

/-- 'fiduciallaw14.StoreNames': WHATEVER THE INPUT: true; the input reads as it did. -/
def storeNamesSpec : ChangeSpec := { name := "storeNames", fn := fun _ => fun
  | [d1, d2] => { results := [.lit (.bool true)], args := [d1, d2] }
  | _ => none }
def storeNamesRow : OpenClaim := { program := "ytdeeekdbhhenpaagreatdoor", sum := "113cc04f0727100a94d8961cfb8a7479b34848d4fbe130e4a36b5d909b0cee5a", func := "fiducial/fiduciallaw14.StoreNames", spec := "storeNames", inPlace := ["internal/bytealg.MakeNoZero", "internal/bytealg.IndexByte", "slices.overlaps[fiducial/api.Tag]"], unfollowed := true, recurses := true, named := ["fiducial/store.mark", "strconv.ErrSyntax", "strconv.ErrRange", "internal/strconv.uint64pow10", "math/bits.deBruijn32tab", "math/bits.deBruijn64tab", "bytes.ErrTooLarge"], apart := false, laid := [("math/bits.deBruijn32tab", laid_math_bits_deBruijn32tab), ("math/bits.deBruijn64tab", laid_math_bits_deBruijn64tab), ("internal/strconv.uint64pow10", laid_internal_strconv_uint64pow10), ("strconv.ErrRange", laid_strconv_ErrRange), ("strconv.ErrSyntax", laid_strconv_ErrSyntax), ("bytes.ErrTooLarge", laid_bytes_ErrTooLarge), ("fiducial/store.mark", laid_fiducial_store_mark)] }
def StoreNamesSaid : Prop := storeNamesRow.holds Tryz.pinned (OpenSpec.ofChange storeNamesSpec)

/-- ITS FALSE NEIGHBOUR: 'it returns false'. Refute it at one input. -/
def storeNamesWrong : ChangeSpec := { name := "storeNames", fn := fun _ => fun
  | [d1, d2] => { results := [.lit (.bool false)], args := [d1, d2] }
  | _ => none }
def StoreNamesWrongFalsely : Prop := storeNamesRow.holds Tryz.pinned (OpenSpec.ofChange storeNamesWrong)

/-- 'fiduciallaw14.StoreLoads': WHATEVER THE INPUT: true; the input reads as it did. -/
def storeLoadsSpec : ChangeSpec := { name := "storeLoads", fn := fun _ => fun
  | [d1, d2] => { results := [.lit (.bool true)], args := [d1, d2] }
  | _ => none }
def storeLoadsRow : OpenClaim := { program := "ytdeeekdbhhenpaagreatdoor", sum := "113cc04f0727100a94d8961cfb8a7479b34848d4fbe130e4a36b5d909b0cee5a", func := "fiducial/fiduciallaw14.StoreLoads", spec := "storeLoads", inPlace := ["internal/bytealg.MakeNoZero", "internal/bytealg.IndexByte", "slices.overlaps[fiducial/api.Tag]"], unfollowed := true, recurses := true, named := ["fiducial/store.mark", "strconv.ErrSyntax", "strconv.ErrRange", "internal/strconv.uint64pow10", "math/bits.deBruijn32tab", "math/bits.deBruijn64tab", "bytes.ErrTooLarge"], apart := false, laid := [("math/bits.deBruijn32tab", laid_math_bits_deBruijn32tab), ("math/bits.deBruijn64tab", laid_math_bits_deBruijn64tab), ("internal/strconv.uint64pow10", laid_internal_strconv_uint64pow10), ("strconv.ErrRange", laid_strconv_ErrRange), ("strconv.ErrSyntax", laid_strconv_ErrSyntax), ("bytes.ErrTooLarge", laid_bytes_ErrTooLarge), ("fiducial/store.mark", laid_fiducial_store_mark)] }
def StoreLoadsSaid : Prop := storeLoadsRow.holds Tryz.pinned (OpenSpec.ofChange storeLoadsSpec)

/-- ITS FALSE NEIGHBOUR: 'it returns false'. Refute it at one input. -/
def storeLoadsWrong : ChangeSpec := { name := "storeLoads", fn := fun _ => fun
  | [d1, d2] => { results := [.lit (.bool false)], args := [d1, d2] }
  | _ => none }
def StoreLoadsWrongFalsely : Prop := storeLoadsRow.holds Tryz.pinned (OpenSpec.ofChange storeLoadsWrong)

/-- 'fiduciallaw14.StoreShelves': WHATEVER THE INPUT: true; the input reads as it did. -/
def storeShelvesSpec : ChangeSpec := { name := "storeShelves", fn := fun _ => fun
  | [d1, d2, d3] => { results := [.lit (.bool true)], args := [d1, d2, d3] }
  | _ => none }
def storeShelvesRow : OpenClaim := { program := "ytdeeekdbhhenpaagreatdoor", sum := "113cc04f0727100a94d8961cfb8a7479b34848d4fbe130e4a36b5d909b0cee5a", func := "fiducial/fiduciallaw14.StoreShelves", spec := "storeShelves", inPlace := ["internal/bytealg.MakeNoZero", "internal/bytealg.IndexByte", "slices.overlaps[fiducial/api.Tag]"], unfollowed := true, recurses := true, named := ["fiducial/store.mark", "strconv.ErrSyntax", "strconv.ErrRange", "internal/strconv.uint64pow10", "math/bits.deBruijn32tab", "math/bits.deBruijn64tab", "bytes.ErrTooLarge"], apart := false, laid := [("math/bits.deBruijn32tab", laid_math_bits_deBruijn32tab), ("math/bits.deBruijn64tab", laid_math_bits_deBruijn64tab), ("internal/strconv.uint64pow10", laid_internal_strconv_uint64pow10), ("strconv.ErrRange", laid_strconv_ErrRange), ("strconv.ErrSyntax", laid_strconv_ErrSyntax), ("bytes.ErrTooLarge", laid_bytes_ErrTooLarge), ("fiducial/store.mark", laid_fiducial_store_mark)] }
def StoreShelvesSaid : Prop := storeShelvesRow.holds Tryz.pinned (OpenSpec.ofChange storeShelvesSpec)

/-- ITS FALSE NEIGHBOUR: 'it returns false'. Refute it at one input. -/
def storeShelvesWrong : ChangeSpec := { name := "storeShelves", fn := fun _ => fun
  | [d1, d2, d3] => { results := [.lit (.bool false)], args := [d1, d2, d3] }
  | _ => none }
def StoreShelvesWrongFalsely : Prop := storeShelvesRow.holds Tryz.pinned (OpenSpec.ofChange storeShelvesWrong)

/-- 'fiduciallaw14.StoreKeeps': WHATEVER THE INPUT: true; the input reads as it did. -/
def storeKeepsSpec : ChangeSpec := { name := "storeKeeps", fn := fun _ => fun
  | [d] => { results := [.lit (.bool true)], args := [d] }
  | _ => none }
def storeKeepsRow : OpenClaim := { program := "ytdeeekdbhhenpaagreatdoor", sum := "113cc04f0727100a94d8961cfb8a7479b34848d4fbe130e4a36b5d909b0cee5a", func := "fiducial/fiduciallaw14.StoreKeeps", spec := "storeKeeps", inPlace := ["internal/bytealg.MakeNoZero", "internal/bytealg.IndexByte", "slices.overlaps[fiducial/api.Tag]"], unfollowed := true, recurses := true, named := ["fiducial/store.mark", "strconv.ErrSyntax", "strconv.ErrRange", "internal/strconv.uint64pow10", "math/bits.deBruijn32tab", "math/bits.deBruijn64tab", "bytes.ErrTooLarge"], apart := false, laid := [("math/bits.deBruijn32tab", laid_math_bits_deBruijn32tab), ("math/bits.deBruijn64tab", laid_math_bits_deBruijn64tab), ("internal/strconv.uint64pow10", laid_internal_strconv_uint64pow10), ("strconv.ErrRange", laid_strconv_ErrRange), ("strconv.ErrSyntax", laid_strconv_ErrSyntax), ("bytes.ErrTooLarge", laid_bytes_ErrTooLarge), ("fiducial/store.mark", laid_fiducial_store_mark)] }
def StoreKeepsSaid : Prop := storeKeepsRow.holds Tryz.pinned (OpenSpec.ofChange storeKeepsSpec)

/-- ITS FALSE NEIGHBOUR: 'it returns false'. Refute it at one input. -/
def storeKeepsWrong : ChangeSpec := { name := "storeKeeps", fn := fun _ => fun
  | [d] => { results := [.lit (.bool false)], args := [d] }
  | _ => none }
def StoreKeepsWrongFalsely : Prop := storeKeepsRow.holds Tryz.pinned (OpenSpec.ofChange storeKeepsWrong)

/-- 'fiduciallaw14.StoreTags': WHATEVER THE INPUT: true; the input reads as it did. -/
def storeTagsSpec : ChangeSpec := { name := "storeTags", fn := fun _ => fun
  | [d1, d2, d3] => { results := [.lit (.bool true)], args := [d1, d2, d3] }
  | _ => none }
def storeTagsRow : OpenClaim := { program := "ytdeeekdbhhenpaagreatdoor", sum := "113cc04f0727100a94d8961cfb8a7479b34848d4fbe130e4a36b5d909b0cee5a", func := "fiducial/fiduciallaw14.StoreTags", spec := "storeTags", inPlace := ["internal/bytealg.MakeNoZero", "internal/bytealg.IndexByte", "slices.overlaps[fiducial/api.Tag]"], unfollowed := true, recurses := true, named := ["fiducial/store.mark", "strconv.ErrSyntax", "strconv.ErrRange", "internal/strconv.uint64pow10", "math/bits.deBruijn32tab", "math/bits.deBruijn64tab", "bytes.ErrTooLarge"], apart := false, laid := [("math/bits.deBruijn32tab", laid_math_bits_deBruijn32tab), ("math/bits.deBruijn64tab", laid_math_bits_deBruijn64tab), ("internal/strconv.uint64pow10", laid_internal_strconv_uint64pow10), ("strconv.ErrRange", laid_strconv_ErrRange), ("strconv.ErrSyntax", laid_strconv_ErrSyntax), ("bytes.ErrTooLarge", laid_bytes_ErrTooLarge), ("fiducial/store.mark", laid_fiducial_store_mark)] }
def StoreTagsSaid : Prop := storeTagsRow.holds Tryz.pinned (OpenSpec.ofChange storeTagsSpec)

/-- ITS FALSE NEIGHBOUR: 'it returns false'. Refute it at one input. -/
def storeTagsWrong : ChangeSpec := { name := "storeTags", fn := fun _ => fun
  | [d1, d2, d3] => { results := [.lit (.bool false)], args := [d1, d2, d3] }
  | _ => none }
def StoreTagsWrongFalsely : Prop := storeTagsRow.holds Tryz.pinned (OpenSpec.ofChange storeTagsWrong)

/- THE SECOND FORM. 'bulk': how many values and letters a reading holds, each counted each time it is reached (what is shared counts as often as it is met; a slice's spare places count too). A statement '..UptoSaid' is the law's where the arguments, and the package variables that the reading takes, are together of bulk at most 1048576: NARROWER than '..Said'. Prove '..Said' where nothing that the law and all that it calls make is longer than what came in: it says more and counts as full. Else prove '..UptoSaid'. A law counts once. -/
mutual
def uptoBulk {H : Type} : DataW H → Nat
  | .lit (.string bytes) => bytes.length + 1
  | .lit _ => 1
  | .nil => 1
  | .ptr d => uptoBulk d + 1
  | .slice elems spare => uptoBulkAll elems + uptoBulkAll spare + 1
  | .agg parts => uptoBulkAll parts + 1
  | .iface _ d => uptoBulk d + 1
  | .map entries => uptoBulkEntries entries + 1
  | .held _ => 1
def uptoBulkAll {H : Type} : List (DataW H) → Nat
  | [] => 0
  | d :: r => uptoBulk d + uptoBulkAll r
def uptoBulkEntries {H : Type} : List (Lit × DataW H) → Nat
  | [] => 0
  | x :: r => uptoBulkEntry x + uptoBulkEntries r
def uptoBulkEntry {H : Type} : Lit × DataW H → Nat
  | (.string bytes, d) => bytes.length + uptoBulk d + 1
  | (_, d) => uptoBulk d + 1
 end
def uptoSmall : (H : Type) → List (DataW H) → Bool := fun _ ds => decide (uptoBulkAll ds ≤ 1048576)
def OpenSpec.upto (s : _root_.Go.ChangeSpec) : _root_.Go.OpenSpec := { _root_.Go.OpenSpec.ofChange s with cond := some uptoSmall }

/-- 'fiduciallaw14.StorePuts', WHERE WHAT IT READS IS OF BULK AT MOST 1048576: true; the input reads as it did. -/
def storePutsUptoRow : OpenClaim := { program := "ytdeeekdbhhenpaagreatdoor", sum := "113cc04f0727100a94d8961cfb8a7479b34848d4fbe130e4a36b5d909b0cee5a", func := "fiducial/fiduciallaw14.StorePuts", spec := "storePuts", inPlace := ["internal/bytealg.MakeNoZero", "internal/bytealg.IndexByte", "slices.overlaps[fiducial/api.Tag]"], unfollowed := true, recurses := true, named := ["fiducial/store.mark", "strconv.ErrSyntax", "strconv.ErrRange", "internal/strconv.uint64pow10", "math/bits.deBruijn32tab", "math/bits.deBruijn64tab", "bytes.ErrTooLarge"], apart := false, laid := [("math/bits.deBruijn32tab", laid_math_bits_deBruijn32tab), ("math/bits.deBruijn64tab", laid_math_bits_deBruijn64tab), ("internal/strconv.uint64pow10", laid_internal_strconv_uint64pow10), ("strconv.ErrRange", laid_strconv_ErrRange), ("strconv.ErrSyntax", laid_strconv_ErrSyntax), ("bytes.ErrTooLarge", laid_bytes_ErrTooLarge), ("fiducial/store.mark", laid_fiducial_store_mark)], narrowed := true }
def StorePutsUptoSaid : Prop := storePutsUptoRow.holds Tryz.pinned (OpenSpec.upto storePutsSpec)

/-- 'fiduciallaw14.StoreAtomic', WHERE WHAT IT READS IS OF BULK AT MOST 1048576: true; the input reads as it did. -/
def storeAtomicUptoRow : OpenClaim := { program := "ytdeeekdbhhenpaagreatdoor", sum := "113cc04f0727100a94d8961cfb8a7479b34848d4fbe130e4a36b5d909b0cee5a", func := "fiducial/fiduciallaw14.StoreAtomic", spec := "storeAtomic", inPlace := ["internal/bytealg.MakeNoZero", "internal/bytealg.IndexByte", "slices.overlaps[fiducial/api.Tag]"], unfollowed := true, recurses := true, named := ["fiducial/store.mark", "strconv.ErrSyntax", "strconv.ErrRange", "internal/strconv.uint64pow10", "math/bits.deBruijn32tab", "math/bits.deBruijn64tab", "bytes.ErrTooLarge"], apart := false, laid := [("math/bits.deBruijn32tab", laid_math_bits_deBruijn32tab), ("math/bits.deBruijn64tab", laid_math_bits_deBruijn64tab), ("internal/strconv.uint64pow10", laid_internal_strconv_uint64pow10), ("strconv.ErrRange", laid_strconv_ErrRange), ("strconv.ErrSyntax", laid_strconv_ErrSyntax), ("bytes.ErrTooLarge", laid_bytes_ErrTooLarge), ("fiducial/store.mark", laid_fiducial_store_mark)], narrowed := true }
def StoreAtomicUptoSaid : Prop := storeAtomicUptoRow.holds Tryz.pinned (OpenSpec.upto storeAtomicSpec)

/-- 'fiduciallaw14.StoreNames', WHERE WHAT IT READS IS OF BULK AT MOST 1048576: true; the input reads as it did. -/
def storeNamesUptoRow : OpenClaim := { program := "ytdeeekdbhhenpaagreatdoor", sum := "113cc04f0727100a94d8961cfb8a7479b34848d4fbe130e4a36b5d909b0cee5a", func := "fiducial/fiduciallaw14.StoreNames", spec := "storeNames", inPlace := ["internal/bytealg.MakeNoZero", "internal/bytealg.IndexByte", "slices.overlaps[fiducial/api.Tag]"], unfollowed := true, recurses := true, named := ["fiducial/store.mark", "strconv.ErrSyntax", "strconv.ErrRange", "internal/strconv.uint64pow10", "math/bits.deBruijn32tab", "math/bits.deBruijn64tab", "bytes.ErrTooLarge"], apart := false, laid := [("math/bits.deBruijn32tab", laid_math_bits_deBruijn32tab), ("math/bits.deBruijn64tab", laid_math_bits_deBruijn64tab), ("internal/strconv.uint64pow10", laid_internal_strconv_uint64pow10), ("strconv.ErrRange", laid_strconv_ErrRange), ("strconv.ErrSyntax", laid_strconv_ErrSyntax), ("bytes.ErrTooLarge", laid_bytes_ErrTooLarge), ("fiducial/store.mark", laid_fiducial_store_mark)], narrowed := true }
def StoreNamesUptoSaid : Prop := storeNamesUptoRow.holds Tryz.pinned (OpenSpec.upto storeNamesSpec)

/-- 'fiduciallaw14.StoreLoads', WHERE WHAT IT READS IS OF BULK AT MOST 1048576: true; the input reads as it did. -/
def storeLoadsUptoRow : OpenClaim := { program := "ytdeeekdbhhenpaagreatdoor", sum := "113cc04f0727100a94d8961cfb8a7479b34848d4fbe130e4a36b5d909b0cee5a", func := "fiducial/fiduciallaw14.StoreLoads", spec := "storeLoads", inPlace := ["internal/bytealg.MakeNoZero", "internal/bytealg.IndexByte", "slices.overlaps[fiducial/api.Tag]"], unfollowed := true, recurses := true, named := ["fiducial/store.mark", "strconv.ErrSyntax", "strconv.ErrRange", "internal/strconv.uint64pow10", "math/bits.deBruijn32tab", "math/bits.deBruijn64tab", "bytes.ErrTooLarge"], apart := false, laid := [("math/bits.deBruijn32tab", laid_math_bits_deBruijn32tab), ("math/bits.deBruijn64tab", laid_math_bits_deBruijn64tab), ("internal/strconv.uint64pow10", laid_internal_strconv_uint64pow10), ("strconv.ErrRange", laid_strconv_ErrRange), ("strconv.ErrSyntax", laid_strconv_ErrSyntax), ("bytes.ErrTooLarge", laid_bytes_ErrTooLarge), ("fiducial/store.mark", laid_fiducial_store_mark)], narrowed := true }
def StoreLoadsUptoSaid : Prop := storeLoadsUptoRow.holds Tryz.pinned (OpenSpec.upto storeLoadsSpec)

/-- 'fiduciallaw14.StoreShelves', WHERE WHAT IT READS IS OF BULK AT MOST 1048576: true; the input reads as it did. -/
def storeShelvesUptoRow : OpenClaim := { program := "ytdeeekdbhhenpaagreatdoor", sum := "113cc04f0727100a94d8961cfb8a7479b34848d4fbe130e4a36b5d909b0cee5a", func := "fiducial/fiduciallaw14.StoreShelves", spec := "storeShelves", inPlace := ["internal/bytealg.MakeNoZero", "internal/bytealg.IndexByte", "slices.overlaps[fiducial/api.Tag]"], unfollowed := true, recurses := true, named := ["fiducial/store.mark", "strconv.ErrSyntax", "strconv.ErrRange", "internal/strconv.uint64pow10", "math/bits.deBruijn32tab", "math/bits.deBruijn64tab", "bytes.ErrTooLarge"], apart := false, laid := [("math/bits.deBruijn32tab", laid_math_bits_deBruijn32tab), ("math/bits.deBruijn64tab", laid_math_bits_deBruijn64tab), ("internal/strconv.uint64pow10", laid_internal_strconv_uint64pow10), ("strconv.ErrRange", laid_strconv_ErrRange), ("strconv.ErrSyntax", laid_strconv_ErrSyntax), ("bytes.ErrTooLarge", laid_bytes_ErrTooLarge), ("fiducial/store.mark", laid_fiducial_store_mark)], narrowed := true }
def StoreShelvesUptoSaid : Prop := storeShelvesUptoRow.holds Tryz.pinned (OpenSpec.upto storeShelvesSpec)

/-- 'fiduciallaw14.StoreKeeps', WHERE WHAT IT READS IS OF BULK AT MOST 1048576: true; the input reads as it did. -/
def storeKeepsUptoRow : OpenClaim := { program := "ytdeeekdbhhenpaagreatdoor", sum := "113cc04f0727100a94d8961cfb8a7479b34848d4fbe130e4a36b5d909b0cee5a", func := "fiducial/fiduciallaw14.StoreKeeps", spec := "storeKeeps", inPlace := ["internal/bytealg.MakeNoZero", "internal/bytealg.IndexByte", "slices.overlaps[fiducial/api.Tag]"], unfollowed := true, recurses := true, named := ["fiducial/store.mark", "strconv.ErrSyntax", "strconv.ErrRange", "internal/strconv.uint64pow10", "math/bits.deBruijn32tab", "math/bits.deBruijn64tab", "bytes.ErrTooLarge"], apart := false, laid := [("math/bits.deBruijn32tab", laid_math_bits_deBruijn32tab), ("math/bits.deBruijn64tab", laid_math_bits_deBruijn64tab), ("internal/strconv.uint64pow10", laid_internal_strconv_uint64pow10), ("strconv.ErrRange", laid_strconv_ErrRange), ("strconv.ErrSyntax", laid_strconv_ErrSyntax), ("bytes.ErrTooLarge", laid_bytes_ErrTooLarge), ("fiducial/store.mark", laid_fiducial_store_mark)], narrowed := true }
def StoreKeepsUptoSaid : Prop := storeKeepsUptoRow.holds Tryz.pinned (OpenSpec.upto storeKeepsSpec)

/-- 'fiduciallaw14.StoreTags', WHERE WHAT IT READS IS OF BULK AT MOST 1048576: true; the input reads as it did. -/
def storeTagsUptoRow : OpenClaim := { program := "ytdeeekdbhhenpaagreatdoor", sum := "113cc04f0727100a94d8961cfb8a7479b34848d4fbe130e4a36b5d909b0cee5a", func := "fiducial/fiduciallaw14.StoreTags", spec := "storeTags", inPlace := ["internal/bytealg.MakeNoZero", "internal/bytealg.IndexByte", "slices.overlaps[fiducial/api.Tag]"], unfollowed := true, recurses := true, named := ["fiducial/store.mark", "strconv.ErrSyntax", "strconv.ErrRange", "internal/strconv.uint64pow10", "math/bits.deBruijn32tab", "math/bits.deBruijn64tab", "bytes.ErrTooLarge"], apart := false, laid := [("math/bits.deBruijn32tab", laid_math_bits_deBruijn32tab), ("math/bits.deBruijn64tab", laid_math_bits_deBruijn64tab), ("internal/strconv.uint64pow10", laid_internal_strconv_uint64pow10), ("strconv.ErrRange", laid_strconv_ErrRange), ("strconv.ErrSyntax", laid_strconv_ErrSyntax), ("bytes.ErrTooLarge", laid_bytes_ErrTooLarge), ("fiducial/store.mark", laid_fiducial_store_mark)], narrowed := true }
def StoreTagsUptoSaid : Prop := storeTagsUptoRow.holds Tryz.pinned (OpenSpec.upto storeTagsSpec)

end Rows
end Go.Proofs.YtdeeekdbhhenpaaGreatDoor
