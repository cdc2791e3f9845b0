/-
  NARROWER THAN 'FOR EVERY INPUT', by the rows' own cells (each row's printed sentence says how): StreamBytes: laid · StreamCuts: laid · StreamNone: laid · BundleNone: laid · AuditNone: laid · StoreApplies: laid · StoreNone: laid · StoreDisks: laid.
  DERIVED. THE GIVEN ROWS OF THIS SEAT. 8 by the template 'for every input the law returns true; each argument reads behind the call as it read before'; 0 by the template 'total and deterministic' (their statements: YtmfppdpfljpphaaGreatDoorTotals.lean).
  GIVEN WITH THE SEED: the statements are not yours to turn. If you find one false, say at which input.
  Laid BY PROGRAM, IN A SANDBOX (cutbox-rows.mjs): the forced cells as the released guide's own fill.sh prints them over the translation 240c3bb1056c8c40… (all of the seat's roots in one cut). By AI agents, Wed Nov 11 2026. No macro, syntax, notation, axiom, sorry.
-/
import Derived.Test.YtmfppdpfljpphaaGreatDoorChecked
import GoSem.PinnedTables
import GoSem.Claim
import GoSem.ClaimJoined
import GoSem.ClaimMapViews
import Derived.JoinedTies
import Derived.KernelRfl
namespace Go.Proofs.YtmfppdpfljpphaaGreatDoor
/- THE CELL 'sum', in the pinned program and in every row, IS THE sha256 OF THE DUMP (.gsa) THAT YtmfppdpfljpphaaGreatDoorProg.lean LOADS. Nothing in Lean hashes anything: it is a label: what it is worth is what the hold of that sum in a sandbox is worth. -/
noncomputable def Tryz.pinned : Pinned := { name := "ytmfppdpfljpphaagreatdoor", sum := "240c3bb1056c8c40215b4c1a5434afedf7eee05649d10a281d4c34a581c60250", checked := Tryz.checked }
namespace Rows
def none {H : Type} : Left H := { results := [], args := [] }

/- WHAT THE LISTED PACKAGE-LEVEL VARIABLES READ AS WHEN THE CALL BEGINS. Each datum BY PROGRAM (the guide's laid-datum.mjs) off the statement by which the dump's own 'gosem.cut.vars' lays the variable. In a bare row this is a premise. The card (YtmfppdpfljpphaaGreatDoorCards.lean) ties it to the program's text. -/
def laid_unicode_utf8_acceptRanges {H : Type} : DataW H := .agg [.agg [.lit (.int .u8 128), .lit (.int .u8 191)], .agg [.lit (.int .u8 160), .lit (.int .u8 191)], .agg [.lit (.int .u8 128), .lit (.int .u8 159)], .agg [.lit (.int .u8 144), .lit (.int .u8 191)], .agg [.lit (.int .u8 128), .lit (.int .u8 143)], .agg [.lit (.int .u8 0), .lit (.int .u8 0)], .agg [.lit (.int .u8 0), .lit (.int .u8 0)], .agg [.lit (.int .u8 0), .lit (.int .u8 0)], .agg [.lit (.int .u8 0), .lit (.int .u8 0)], .agg [.lit (.int .u8 0), .lit (.int .u8 0)], .agg [.lit (.int .u8 0), .lit (.int .u8 0)], .agg [.lit (.int .u8 0), .lit (.int .u8 0)], .agg [.lit (.int .u8 0), .lit (.int .u8 0)], .agg [.lit (.int .u8 0), .lit (.int .u8 0)], .agg [.lit (.int .u8 0), .lit (.int .u8 0)], .agg [.lit (.int .u8 0), .lit (.int .u8 0)]]
def laid_quadriga_sum_nibbles {H : Type} : DataW H := .agg [.lit (.int .u32 0), .lit (.int .u32 498536548), .lit (.int .u32 997073096), .lit (.int .u32 651767980), .lit (.int .u32 1994146192), .lit (.int .u32 1802195444), .lit (.int .u32 1303535960), .lit (.int .u32 1342533948), .lit (.int .u32 3988292384), .lit (.int .u32 4027552580), .lit (.int .u32 3604390888), .lit (.int .u32 3412177804), .lit (.int .u32 2607071920), .lit (.int .u32 2262029012), .lit (.int .u32 2685067896), .lit (.int .u32 3183342108)]
/-- One of Go's own tables, pinned by name: the form's constant. -/
def laid_unicode_utf8_first : DataW Unit := Go.Pinned.utf8First

/-- 'quadrigalaw08.StreamBytes': WHATEVER THE INPUT: true; the input reads as it did. -/
def streamBytesSpec : ChangeSpec := { name := "streamBytes", fn := fun _ => fun
  | [d1, d2, d3, d4] => { results := [.lit (.bool true)], args := [d1, d2, d3, d4] }
  | _ => none }
def streamBytesRow : OpenClaim := { program := "ytmfppdpfljpphaagreatdoor", sum := "240c3bb1056c8c40215b4c1a5434afedf7eee05649d10a281d4c34a581c60250", func := "quadriga/quadrigalaw08.StreamBytes", spec := "streamBytes", inPlace := ["internal/abi.NoEscape", "internal/bytealg.MakeNoZero", "internal/bytealg.IndexByteString", "internal/bytealg.IndexString"], unfollowed := true, recurses := true, named := ["quadriga/sum.nibbles", "unicode/utf8.first", "unicode/utf8.acceptRanges", "internal/bytealg.MaxLen"], plainKeys := false, apart := false, laid := [("unicode/utf8.acceptRanges", laid_unicode_utf8_acceptRanges), ("quadriga/sum.nibbles", laid_quadriga_sum_nibbles), ("unicode/utf8.first", laid_unicode_utf8_first)] }
def StreamBytesSaid : Prop := streamBytesRow.holds Tryz.pinned (OpenSpec.ofChange streamBytesSpec)

/-- ITS FALSE NEIGHBOUR: 'it returns false'. Refute it at one input. -/
def streamBytesWrong : ChangeSpec := { name := "streamBytes", fn := fun _ => fun
  | [d1, d2, d3, d4] => { results := [.lit (.bool false)], args := [d1, d2, d3, d4] }
  | _ => none }
def StreamBytesWrongFalsely : Prop := streamBytesRow.holds Tryz.pinned (OpenSpec.ofChange streamBytesWrong)

/-- 'quadrigalaw08.StreamCuts': WHATEVER THE INPUT: true; the input reads as it did. -/
def streamCutsSpec : ChangeSpec := { name := "streamCuts", fn := fun _ => fun
  | [d1, d2, d3, d4, d5, d6, d7] => { results := [.lit (.bool true)], args := [d1, d2, d3, d4, d5, d6, d7] }
  | _ => none }
def streamCutsRow : OpenClaim := { program := "ytmfppdpfljpphaagreatdoor", sum := "240c3bb1056c8c40215b4c1a5434afedf7eee05649d10a281d4c34a581c60250", func := "quadriga/quadrigalaw08.StreamCuts", spec := "streamCuts", inPlace := ["internal/abi.NoEscape", "internal/bytealg.MakeNoZero", "internal/bytealg.IndexByteString", "internal/bytealg.IndexString"], unfollowed := true, recurses := true, named := ["quadriga/sum.nibbles", "unicode/utf8.first", "unicode/utf8.acceptRanges", "internal/bytealg.MaxLen"], plainKeys := false, apart := false, laid := [("unicode/utf8.acceptRanges", laid_unicode_utf8_acceptRanges), ("quadriga/sum.nibbles", laid_quadriga_sum_nibbles), ("unicode/utf8.first", laid_unicode_utf8_first)] }
def StreamCutsSaid : Prop := streamCutsRow.holds Tryz.pinned (OpenSpec.ofChange streamCutsSpec)

/-- ITS FALSE NEIGHBOUR: 'it returns false'. Refute it at one input. -/
def streamCutsWrong : ChangeSpec := { name := "streamCuts", fn := fun _ => fun
  | [d1, d2, d3, d4, d5, d6, d7] => { results := [.lit (.bool false)], args := [d1, d2, d3, d4, d5, d6, d7] }
  | _ => none }
def StreamCutsWrongFalsely : Prop := streamCutsRow.holds Tryz.pinned (OpenSpec.ofChange streamCutsWrong)

/-- 'quadrigalaw08.StreamNone': WHATEVER THE INPUT: true; the input reads as it did. -/
def streamNoneSpec : ChangeSpec := { name := "streamNone", fn := fun _ => fun
  | [d1, d2] => { results := [.lit (.bool true)], args := [d1, d2] }
  | _ => none }
def streamNoneRow : OpenClaim := { program := "ytmfppdpfljpphaagreatdoor", sum := "240c3bb1056c8c40215b4c1a5434afedf7eee05649d10a281d4c34a581c60250", func := "quadriga/quadrigalaw08.StreamNone", spec := "streamNone", inPlace := ["internal/abi.NoEscape", "internal/bytealg.MakeNoZero", "internal/bytealg.IndexByteString", "internal/bytealg.IndexString"], unfollowed := true, recurses := true, named := ["quadriga/sum.nibbles", "unicode/utf8.first", "unicode/utf8.acceptRanges", "internal/bytealg.MaxLen"], plainKeys := false, apart := false, laid := [("unicode/utf8.acceptRanges", laid_unicode_utf8_acceptRanges), ("quadriga/sum.nibbles", laid_quadriga_sum_nibbles), ("unicode/utf8.first", laid_unicode_utf8_first)] }
def StreamNoneSaid : Prop := streamNoneRow.holds Tryz.pinned (OpenSpec.ofChange streamNoneSpec)

/-- ITS FALSE NEIGHBOUR: 'it returns false'. Refute it at one input. -/
def streamNoneWrong : ChangeSpec := { name := "streamNone", fn := fun _ => fun
  | [d1, d2] => { results := [.lit (.bool false)], args := [d1, d2] }
  | _ => none }
def StreamNoneWrongFalsely : Prop := streamNoneRow.holds Tryz.pinned (OpenSpec.ofChange streamNoneWrong)

/-- 'quadrigalaw10.BundleNone': WHATEVER THE INPUT: true; the input reads as it did. -/
def bundleNoneSpec : ChangeSpec := { name := "bundleNone", fn := fun _ => fun
  | [d1, d2] => { results := [.lit (.bool true)], args := [d1, d2] }
  | _ => none }
def bundleNoneRow : OpenClaim := { program := "ytmfppdpfljpphaagreatdoor", sum := "240c3bb1056c8c40215b4c1a5434afedf7eee05649d10a281d4c34a581c60250", func := "quadriga/quadrigalaw10.BundleNone", spec := "bundleNone", inPlace := ["internal/abi.NoEscape", "internal/bytealg.MakeNoZero", "internal/bytealg.IndexByteString", "internal/bytealg.IndexString"], unfollowed := true, recurses := true, named := ["quadriga/sum.nibbles", "unicode/utf8.first", "unicode/utf8.acceptRanges", "internal/bytealg.MaxLen"], plainKeys := false, apart := false, laid := [("unicode/utf8.acceptRanges", laid_unicode_utf8_acceptRanges), ("quadriga/sum.nibbles", laid_quadriga_sum_nibbles), ("unicode/utf8.first", laid_unicode_utf8_first)] }
def BundleNoneSaid : Prop := bundleNoneRow.holds Tryz.pinned (OpenSpec.ofChange bundleNoneSpec)

/-- ITS FALSE NEIGHBOUR: 'it returns false'. Refute it at one input. -/
def bundleNoneWrong : ChangeSpec := { name := "bundleNone", fn := fun _ => fun
  | [d1, d2] => { results := [.lit (.bool false)], args := [d1, d2] }
  | _ => none }
def BundleNoneWrongFalsely : Prop := bundleNoneRow.holds Tryz.pinned (OpenSpec.ofChange bundleNoneWrong)

/-- 'quadrigalaw28.AuditNone': WHATEVER THE INPUT: true; the input reads as it did. -/
def auditNoneSpec : ChangeSpec := { name := "auditNone", fn := fun _ => fun
  | [d1, d2] => { results := [.lit (.bool true)], args := [d1, d2] }
  | _ => none }
def auditNoneRow : OpenClaim := { program := "ytmfppdpfljpphaagreatdoor", sum := "240c3bb1056c8c40215b4c1a5434afedf7eee05649d10a281d4c34a581c60250", func := "quadriga/quadrigalaw28.AuditNone", spec := "auditNone", inPlace := ["internal/abi.NoEscape", "internal/bytealg.MakeNoZero", "internal/bytealg.IndexByteString", "internal/bytealg.IndexString"], unfollowed := true, recurses := true, named := ["quadriga/sum.nibbles", "unicode/utf8.first", "unicode/utf8.acceptRanges", "internal/bytealg.MaxLen"], plainKeys := false, apart := false, laid := [("unicode/utf8.acceptRanges", laid_unicode_utf8_acceptRanges), ("quadriga/sum.nibbles", laid_quadriga_sum_nibbles), ("unicode/utf8.first", laid_unicode_utf8_first)] }
def AuditNoneSaid : Prop := auditNoneRow.holds Tryz.pinned (OpenSpec.ofChange auditNoneSpec)

/-- ITS FALSE NEIGHBOUR: 'it returns false'. Refute it at one input. -/
def auditNoneWrong : ChangeSpec := { name := "auditNone", fn := fun _ => fun
  | [d1, d2] => { results := [.lit (.bool false)], args := [d1, d2] }
  | _ => none }
def AuditNoneWrongFalsely : Prop := auditNoneRow.holds Tryz.pinned (OpenSpec.ofChange auditNoneWrong)

/-- 'quadrigalaw20.StoreApplies': WHATEVER THE INPUT: true; the input reads as it did. -/
def storeAppliesSpec : ChangeSpec := { name := "storeApplies", fn := fun _ => fun
  | [d1, d2, d3, d4] => { results := [.lit (.bool true)], args := [d1, d2, d3, d4] }
  | _ => none }
def storeAppliesRow : OpenClaim := { program := "ytmfppdpfljpphaagreatdoor", sum := "240c3bb1056c8c40215b4c1a5434afedf7eee05649d10a281d4c34a581c60250", func := "quadriga/quadrigalaw20.StoreApplies", spec := "storeApplies", inPlace := ["internal/abi.NoEscape", "internal/bytealg.MakeNoZero", "internal/bytealg.IndexByteString", "internal/bytealg.IndexString", "slices.overlaps[quadriga/api.Cell]"], unfollowed := true, recurses := true, named := ["quadriga/sum.nibbles", "unicode/utf8.first", "unicode/utf8.acceptRanges", "internal/bytealg.MaxLen"], plainKeys := false, apart := false, laid := [("unicode/utf8.acceptRanges", laid_unicode_utf8_acceptRanges), ("quadriga/sum.nibbles", laid_quadriga_sum_nibbles), ("unicode/utf8.first", laid_unicode_utf8_first)] }
def StoreAppliesSaid : Prop := storeAppliesRow.holds Tryz.pinned (OpenSpec.ofChange storeAppliesSpec)

/-- ITS FALSE NEIGHBOUR: 'it returns false'. Refute it at one input. -/
def storeAppliesWrong : ChangeSpec := { name := "storeApplies", fn := fun _ => fun
  | [d1, d2, d3, d4] => { results := [.lit (.bool false)], args := [d1, d2, d3, d4] }
  | _ => none }
def StoreAppliesWrongFalsely : Prop := storeAppliesRow.holds Tryz.pinned (OpenSpec.ofChange storeAppliesWrong)

/-- 'quadrigalaw20.StoreNone': WHATEVER THE INPUT: true; the input reads as it did. -/
def storeNoneSpec : ChangeSpec := { name := "storeNone", fn := fun _ => fun
  | [d1, d2] => { results := [.lit (.bool true)], args := [d1, d2] }
  | _ => none }
def storeNoneRow : OpenClaim := { program := "ytmfppdpfljpphaagreatdoor", sum := "240c3bb1056c8c40215b4c1a5434afedf7eee05649d10a281d4c34a581c60250", func := "quadriga/quadrigalaw20.StoreNone", spec := "storeNone", inPlace := ["internal/abi.NoEscape", "internal/bytealg.MakeNoZero", "internal/bytealg.IndexByteString", "internal/bytealg.IndexString", "slices.overlaps[quadriga/api.Cell]"], unfollowed := true, recurses := true, named := ["quadriga/sum.nibbles", "unicode/utf8.first", "unicode/utf8.acceptRanges", "internal/bytealg.MaxLen"], plainKeys := false, apart := false, laid := [("unicode/utf8.acceptRanges", laid_unicode_utf8_acceptRanges), ("quadriga/sum.nibbles", laid_quadriga_sum_nibbles), ("unicode/utf8.first", laid_unicode_utf8_first)] }
def StoreNoneSaid : Prop := storeNoneRow.holds Tryz.pinned (OpenSpec.ofChange storeNoneSpec)

/-- ITS FALSE NEIGHBOUR: 'it returns false'. Refute it at one input. -/
def storeNoneWrong : ChangeSpec := { name := "storeNone", fn := fun _ => fun
  | [d1, d2] => { results := [.lit (.bool false)], args := [d1, d2] }
  | _ => none }
def StoreNoneWrongFalsely : Prop := storeNoneRow.holds Tryz.pinned (OpenSpec.ofChange storeNoneWrong)

/-- 'quadrigalaw20.StoreDisks': WHATEVER THE INPUT: true; the input reads as it did. -/
def storeDisksSpec : ChangeSpec := { name := "storeDisks", fn := fun _ => fun
  | [d1, d2, d3, d4] => { results := [.lit (.bool true)], args := [d1, d2, d3, d4] }
  | _ => none }
def storeDisksRow : OpenClaim := { program := "ytmfppdpfljpphaagreatdoor", sum := "240c3bb1056c8c40215b4c1a5434afedf7eee05649d10a281d4c34a581c60250", func := "quadriga/quadrigalaw20.StoreDisks", spec := "storeDisks", inPlace := ["internal/abi.NoEscape", "internal/bytealg.MakeNoZero", "internal/bytealg.IndexByteString", "internal/bytealg.IndexString", "slices.overlaps[quadriga/api.Cell]"], unfollowed := true, recurses := true, named := ["quadriga/sum.nibbles", "unicode/utf8.first", "unicode/utf8.acceptRanges", "internal/bytealg.MaxLen"], plainKeys := false, apart := false, laid := [("unicode/utf8.acceptRanges", laid_unicode_utf8_acceptRanges), ("quadriga/sum.nibbles", laid_quadriga_sum_nibbles), ("unicode/utf8.first", laid_unicode_utf8_first)] }
def StoreDisksSaid : Prop := storeDisksRow.holds Tryz.pinned (OpenSpec.ofChange storeDisksSpec)

/-- ITS FALSE NEIGHBOUR: 'it returns false'. Refute it at one input. -/
def storeDisksWrong : ChangeSpec := { name := "storeDisks", fn := fun _ => fun
  | [d1, d2, d3, d4] => { results := [.lit (.bool false)], args := [d1, d2, d3, d4] }
  | _ => none }
def StoreDisksWrongFalsely : Prop := storeDisksRow.holds Tryz.pinned (OpenSpec.ofChange storeDisksWrong)

/- THE SECOND FORM. 'bulk': how many values and letters a reading holds, each counted each time it is reached (what is shared counts as often as it is met; a slice's spare places count too). A statement '..UptoSaid' is the law's where the arguments, and the package variables that the reading takes, are together of bulk at most 1048576: NARROWER than '..Said'. Prove '..Said' where nothing that the law and all that it calls make is longer than what came in: it says more and counts as full. Else prove '..UptoSaid'. A law counts once. -/
mutual
def uptoBulk {H : Type} : DataW H → Nat
  | .lit (.string bytes) => bytes.length + 1
  | .lit _ => 1
  | .nil => 1
  | .ptr d => uptoBulk d + 1
  | .slice elems spare => uptoBulkAll elems + uptoBulkAll spare + 1
  | .agg parts => uptoBulkAll parts + 1
  | .iface _ d => uptoBulk d + 1
  | .map entries => uptoBulkEntries entries + 1
  | .held _ => 1
def uptoBulkAll {H : Type} : List (DataW H) → Nat
  | [] => 0
  | d :: r => uptoBulk d + uptoBulkAll r
def uptoBulkEntries {H : Type} : List (Lit × DataW H) → Nat
  | [] => 0
  | x :: r => uptoBulkEntry x + uptoBulkEntries r
def uptoBulkEntry {H : Type} : Lit × DataW H → Nat
  | (.string bytes, d) => bytes.length + uptoBulk d + 1
  | (_, d) => uptoBulk d + 1
 end
def uptoSmall : (H : Type) → List (DataW H) → Bool := fun _ ds => decide (uptoBulkAll ds ≤ 1048576)
def OpenSpec.upto (s : _root_.Go.ChangeSpec) : _root_.Go.OpenSpec := { _root_.Go.OpenSpec.ofChange s with cond := some uptoSmall }

/-- 'quadrigalaw08.StreamBytes', WHERE WHAT IT READS IS OF BULK AT MOST 1048576: true; the input reads as it did. -/
def streamBytesUptoRow : OpenClaim := { program := "ytmfppdpfljpphaagreatdoor", sum := "240c3bb1056c8c40215b4c1a5434afedf7eee05649d10a281d4c34a581c60250", func := "quadriga/quadrigalaw08.StreamBytes", spec := "streamBytes", inPlace := ["internal/abi.NoEscape", "internal/bytealg.MakeNoZero", "internal/bytealg.IndexByteString", "internal/bytealg.IndexString"], unfollowed := true, recurses := true, named := ["quadriga/sum.nibbles", "unicode/utf8.first", "unicode/utf8.acceptRanges", "internal/bytealg.MaxLen"], plainKeys := false, apart := false, laid := [("unicode/utf8.acceptRanges", laid_unicode_utf8_acceptRanges), ("quadriga/sum.nibbles", laid_quadriga_sum_nibbles), ("unicode/utf8.first", laid_unicode_utf8_first)], narrowed := true }
def StreamBytesUptoSaid : Prop := streamBytesUptoRow.holds Tryz.pinned (OpenSpec.upto streamBytesSpec)

/-- 'quadrigalaw08.StreamCuts', WHERE WHAT IT READS IS OF BULK AT MOST 1048576: true; the input reads as it did. -/
def streamCutsUptoRow : OpenClaim := { program := "ytmfppdpfljpphaagreatdoor", sum := "240c3bb1056c8c40215b4c1a5434afedf7eee05649d10a281d4c34a581c60250", func := "quadriga/quadrigalaw08.StreamCuts", spec := "streamCuts", inPlace := ["internal/abi.NoEscape", "internal/bytealg.MakeNoZero", "internal/bytealg.IndexByteString", "internal/bytealg.IndexString"], unfollowed := true, recurses := true, named := ["quadriga/sum.nibbles", "unicode/utf8.first", "unicode/utf8.acceptRanges", "internal/bytealg.MaxLen"], plainKeys := false, apart := false, laid := [("unicode/utf8.acceptRanges", laid_unicode_utf8_acceptRanges), ("quadriga/sum.nibbles", laid_quadriga_sum_nibbles), ("unicode/utf8.first", laid_unicode_utf8_first)], narrowed := true }
def StreamCutsUptoSaid : Prop := streamCutsUptoRow.holds Tryz.pinned (OpenSpec.upto streamCutsSpec)

/-- 'quadrigalaw08.StreamNone', WHERE WHAT IT READS IS OF BULK AT MOST 1048576: true; the input reads as it did. -/
def streamNoneUptoRow : OpenClaim := { program := "ytmfppdpfljpphaagreatdoor", sum := "240c3bb1056c8c40215b4c1a5434afedf7eee05649d10a281d4c34a581c60250", func := "quadriga/quadrigalaw08.StreamNone", spec := "streamNone", inPlace := ["internal/abi.NoEscape", "internal/bytealg.MakeNoZero", "internal/bytealg.IndexByteString", "internal/bytealg.IndexString"], unfollowed := true, recurses := true, named := ["quadriga/sum.nibbles", "unicode/utf8.first", "unicode/utf8.acceptRanges", "internal/bytealg.MaxLen"], plainKeys := false, apart := false, laid := [("unicode/utf8.acceptRanges", laid_unicode_utf8_acceptRanges), ("quadriga/sum.nibbles", laid_quadriga_sum_nibbles), ("unicode/utf8.first", laid_unicode_utf8_first)], narrowed := true }
def StreamNoneUptoSaid : Prop := streamNoneUptoRow.holds Tryz.pinned (OpenSpec.upto streamNoneSpec)

/-- 'quadrigalaw10.BundleNone', WHERE WHAT IT READS IS OF BULK AT MOST 1048576: true; the input reads as it did. -/
def bundleNoneUptoRow : OpenClaim := { program := "ytmfppdpfljpphaagreatdoor", sum := "240c3bb1056c8c40215b4c1a5434afedf7eee05649d10a281d4c34a581c60250", func := "quadriga/quadrigalaw10.BundleNone", spec := "bundleNone", inPlace := ["internal/abi.NoEscape", "internal/bytealg.MakeNoZero", "internal/bytealg.IndexByteString", "internal/bytealg.IndexString"], unfollowed := true, recurses := true, named := ["quadriga/sum.nibbles", "unicode/utf8.first", "unicode/utf8.acceptRanges", "internal/bytealg.MaxLen"], plainKeys := false, apart := false, laid := [("unicode/utf8.acceptRanges", laid_unicode_utf8_acceptRanges), ("quadriga/sum.nibbles", laid_quadriga_sum_nibbles), ("unicode/utf8.first", laid_unicode_utf8_first)], narrowed := true }
def BundleNoneUptoSaid : Prop := bundleNoneUptoRow.holds Tryz.pinned (OpenSpec.upto bundleNoneSpec)

/-- 'quadrigalaw28.AuditNone', WHERE WHAT IT READS IS OF BULK AT MOST 1048576: true; the input reads as it did. -/
def auditNoneUptoRow : OpenClaim := { program := "ytmfppdpfljpphaagreatdoor", sum := "240c3bb1056c8c40215b4c1a5434afedf7eee05649d10a281d4c34a581c60250", func := "quadriga/quadrigalaw28.AuditNone", spec := "auditNone", inPlace := ["internal/abi.NoEscape", "internal/bytealg.MakeNoZero", "internal/bytealg.IndexByteString", "internal/bytealg.IndexString"], unfollowed := true, recurses := true, named := ["quadriga/sum.nibbles", "unicode/utf8.first", "unicode/utf8.acceptRanges", "internal/bytealg.MaxLen"], plainKeys := false, apart := false, laid := [("unicode/utf8.acceptRanges", laid_unicode_utf8_acceptRanges), ("quadriga/sum.nibbles", laid_quadriga_sum_nibbles), ("unicode/utf8.first", laid_unicode_utf8_first)], narrowed := true }
def AuditNoneUptoSaid : Prop := auditNoneUptoRow.holds Tryz.pinned (OpenSpec.upto auditNoneSpec)

/-- 'quadrigalaw20.StoreApplies', WHERE WHAT IT READS IS OF BULK AT MOST 1048576: true; the input reads as it did. -/
def storeAppliesUptoRow : OpenClaim := { program := "ytmfppdpfljpphaagreatdoor", sum := "240c3bb1056c8c40215b4c1a5434afedf7eee05649d10a281d4c34a581c60250", func := "quadriga/quadrigalaw20.StoreApplies", spec := "storeApplies", inPlace := ["internal/abi.NoEscape", "internal/bytealg.MakeNoZero", "internal/bytealg.IndexByteString", "internal/bytealg.IndexString", "slices.overlaps[quadriga/api.Cell]"], unfollowed := true, recurses := true, named := ["quadriga/sum.nibbles", "unicode/utf8.first", "unicode/utf8.acceptRanges", "internal/bytealg.MaxLen"], plainKeys := false, apart := false, laid := [("unicode/utf8.acceptRanges", laid_unicode_utf8_acceptRanges), ("quadriga/sum.nibbles", laid_quadriga_sum_nibbles), ("unicode/utf8.first", laid_unicode_utf8_first)], narrowed := true }
def StoreAppliesUptoSaid : Prop := storeAppliesUptoRow.holds Tryz.pinned (OpenSpec.upto storeAppliesSpec)

/-- 'quadrigalaw20.StoreNone', WHERE WHAT IT READS IS OF BULK AT MOST 1048576: true; the input reads as it did. -/
def storeNoneUptoRow : OpenClaim := { program := "ytmfppdpfljpphaagreatdoor", sum := "240c3bb1056c8c40215b4c1a5434afedf7eee05649d10a281d4c34a581c60250", func := "quadriga/quadrigalaw20.StoreNone", spec := "storeNone", inPlace := ["internal/abi.NoEscape", "internal/bytealg.MakeNoZero", "internal/bytealg.IndexByteString", "internal/bytealg.IndexString", "slices.overlaps[quadriga/api.Cell]"], unfollowed := true, recurses := true, named := ["quadriga/sum.nibbles", "unicode/utf8.first", "unicode/utf8.acceptRanges", "internal/bytealg.MaxLen"], plainKeys := false, apart := false, laid := [("unicode/utf8.acceptRanges", laid_unicode_utf8_acceptRanges), ("quadriga/sum.nibbles", laid_quadriga_sum_nibbles), ("unicode/utf8.first", laid_unicode_utf8_first)], narrowed := true }
def StoreNoneUptoSaid : Prop := storeNoneUptoRow.holds Tryz.pinned (OpenSpec.upto storeNoneSpec)

/-- 'quadrigalaw20.StoreDisks', WHERE WHAT IT READS IS OF BULK AT MOST 1048576: true; the input reads as it did. -/
def storeDisksUptoRow : OpenClaim := { program := "ytmfppdpfljpphaagreatdoor", sum := "240c3bb1056c8c40215b4c1a5434afedf7eee05649d10a281d4c34a581c60250", func := "quadriga/quadrigalaw20.StoreDisks", spec := "storeDisks", inPlace := ["internal/abi.NoEscape", "internal/bytealg.MakeNoZero", "internal/bytealg.IndexByteString", "internal/bytealg.IndexString", "slices.overlaps[quadriga/api.Cell]"], unfollowed := true, recurses := true, named := ["quadriga/sum.nibbles", "unicode/utf8.first", "unicode/utf8.acceptRanges", "internal/bytealg.MaxLen"], plainKeys := false, apart := false, laid := [("unicode/utf8.acceptRanges", laid_unicode_utf8_acceptRanges), ("quadriga/sum.nibbles", laid_quadriga_sum_nibbles), ("unicode/utf8.first", laid_unicode_utf8_first)], narrowed := true }
def StoreDisksUptoSaid : Prop := storeDisksUptoRow.holds Tryz.pinned (OpenSpec.upto storeDisksSpec)

end Rows
end Go.Proofs.YtmfppdpfljpphaaGreatDoor
