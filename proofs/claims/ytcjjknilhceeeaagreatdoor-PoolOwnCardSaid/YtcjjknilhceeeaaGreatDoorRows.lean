/-
  NARROWER THAN 'FOR EVERY INPUT', by the rows' own cells (each row's printed sentence says how): TwiceStores: laid · TwiceCrashes: laid · TwiceNone: laid · TwiceOpens: laid · PoolOwn: laid · PoolAhead: laid · PoolNone: laid · PoolPlays: laid.
  DERIVED. THE GIVEN ROWS OF THIS SEAT. 8 by the template 'for every input the law returns true; each argument reads behind the call as it read before'; 0 by the template 'total and deterministic' (their statements: YtcjjknilhceeeaaGreatDoorTotals.lean).
  GIVEN WITH THE SEED: the statements are not yours to turn. If you find one false, say at which input.
  Laid BY PROGRAM, IN A SANDBOX (cutbox-rows.mjs): the forced cells as the released guide's own fill.sh prints them over the translation 312c939434b4e02d… (all of the seat's roots in one cut). By AI agents, Wed Nov 11 2026. No macro, syntax, notation, axiom, sorry.
-/
import Derived.Test.YtcjjknilhceeeaaGreatDoorChecked
import GoSem.PinnedTables
import GoSem.Claim
import GoSem.ClaimJoined
import GoSem.ClaimMapViews
import Derived.JoinedTies
import Derived.KernelRfl
namespace Go.Proofs.YtcjjknilhceeeaaGreatDoor
/- THE CELL 'sum', in the pinned program and in every row, IS THE sha256 OF THE DUMP (.gsa) THAT YtcjjknilhceeeaaGreatDoorProg.lean LOADS. Nothing in Lean hashes anything: it is a label: what it is worth is what the hold of that sum in a sandbox is worth. -/
noncomputable def Tryz.pinned : Pinned := { name := "ytcjjknilhceeeaagreatdoor", sum := "312c939434b4e02dffa0b3c86acea2d5c104921f2ab276317287f928a51bc70e", checked := Tryz.checked }
namespace Rows
def none {H : Type} : Left H := { results := [], args := [] }

/- WHAT THE LISTED PACKAGE-LEVEL VARIABLES READ AS WHEN THE CALL BEGINS. Each datum BY PROGRAM (the guide's laid-datum.mjs) off the statement by which the dump's own 'gosem.cut.vars' lays the variable. In a bare row this is a premise. The card (YtcjjknilhceeeaaGreatDoorCards.lean) ties it to the program's text. -/
def laid_unicode_utf8_acceptRanges {H : Type} : DataW H := .agg [.agg [.lit (.int .u8 128), .lit (.int .u8 191)], .agg [.lit (.int .u8 160), .lit (.int .u8 191)], .agg [.lit (.int .u8 128), .lit (.int .u8 159)], .agg [.lit (.int .u8 144), .lit (.int .u8 191)], .agg [.lit (.int .u8 128), .lit (.int .u8 143)], .agg [.lit (.int .u8 0), .lit (.int .u8 0)], .agg [.lit (.int .u8 0), .lit (.int .u8 0)], .agg [.lit (.int .u8 0), .lit (.int .u8 0)], .agg [.lit (.int .u8 0), .lit (.int .u8 0)], .agg [.lit (.int .u8 0), .lit (.int .u8 0)], .agg [.lit (.int .u8 0), .lit (.int .u8 0)], .agg [.lit (.int .u8 0), .lit (.int .u8 0)], .agg [.lit (.int .u8 0), .lit (.int .u8 0)], .agg [.lit (.int .u8 0), .lit (.int .u8 0)], .agg [.lit (.int .u8 0), .lit (.int .u8 0)], .agg [.lit (.int .u8 0), .lit (.int .u8 0)]]
def laid_quadriga_sum_nibbles {H : Type} : DataW H := .agg [.lit (.int .u32 0), .lit (.int .u32 498536548), .lit (.int .u32 997073096), .lit (.int .u32 651767980), .lit (.int .u32 1994146192), .lit (.int .u32 1802195444), .lit (.int .u32 1303535960), .lit (.int .u32 1342533948), .lit (.int .u32 3988292384), .lit (.int .u32 4027552580), .lit (.int .u32 3604390888), .lit (.int .u32 3412177804), .lit (.int .u32 2607071920), .lit (.int .u32 2262029012), .lit (.int .u32 2685067896), .lit (.int .u32 3183342108)]
/-- One of Go's own tables, pinned by name: the form's constant. -/
def laid_unicode_utf8_first : DataW Unit := Go.Pinned.utf8First

/-- 'quadrigalaw12.TwiceStores': WHATEVER THE INPUT: true; the input reads as it did. -/
def twiceStoresSpec : ChangeSpec := { name := "twiceStores", fn := fun _ => fun
  | [d1, d2, d3] => { results := [.lit (.bool true)], args := [d1, d2, d3] }
  | _ => none }
def twiceStoresRow : OpenClaim := { program := "ytcjjknilhceeeaagreatdoor", sum := "312c939434b4e02dffa0b3c86acea2d5c104921f2ab276317287f928a51bc70e", func := "quadriga/quadrigalaw12.TwiceStores", spec := "twiceStores", inPlace := ["internal/abi.NoEscape", "internal/bytealg.MakeNoZero", "internal/bytealg.IndexByteString", "internal/bytealg.IndexString"], unfollowed := true, recurses := true, named := ["quadriga/sum.nibbles", "unicode/utf8.first", "unicode/utf8.acceptRanges", "internal/bytealg.MaxLen"], apart := false, laid := [("unicode/utf8.acceptRanges", laid_unicode_utf8_acceptRanges), ("quadriga/sum.nibbles", laid_quadriga_sum_nibbles), ("unicode/utf8.first", laid_unicode_utf8_first)] }
def TwiceStoresSaid : Prop := twiceStoresRow.holds Tryz.pinned (OpenSpec.ofChange twiceStoresSpec)

/-- ITS FALSE NEIGHBOUR: 'it returns false'. Refute it at one input. -/
def twiceStoresWrong : ChangeSpec := { name := "twiceStores", fn := fun _ => fun
  | [d1, d2, d3] => { results := [.lit (.bool false)], args := [d1, d2, d3] }
  | _ => none }
def TwiceStoresWrongFalsely : Prop := twiceStoresRow.holds Tryz.pinned (OpenSpec.ofChange twiceStoresWrong)

/-- 'quadrigalaw12.TwiceCrashes': WHATEVER THE INPUT: true; the input reads as it did. -/
def twiceCrashesSpec : ChangeSpec := { name := "twiceCrashes", fn := fun _ => fun
  | [d1, d2, d3, d4, d5] => { results := [.lit (.bool true)], args := [d1, d2, d3, d4, d5] }
  | _ => none }
def twiceCrashesRow : OpenClaim := { program := "ytcjjknilhceeeaagreatdoor", sum := "312c939434b4e02dffa0b3c86acea2d5c104921f2ab276317287f928a51bc70e", func := "quadriga/quadrigalaw12.TwiceCrashes", spec := "twiceCrashes", inPlace := ["internal/abi.NoEscape", "internal/bytealg.MakeNoZero", "internal/bytealg.IndexByteString", "internal/bytealg.IndexString"], unfollowed := true, recurses := true, named := ["quadriga/sum.nibbles", "unicode/utf8.first", "unicode/utf8.acceptRanges", "internal/bytealg.MaxLen"], apart := false, laid := [("unicode/utf8.acceptRanges", laid_unicode_utf8_acceptRanges), ("quadriga/sum.nibbles", laid_quadriga_sum_nibbles), ("unicode/utf8.first", laid_unicode_utf8_first)] }
def TwiceCrashesSaid : Prop := twiceCrashesRow.holds Tryz.pinned (OpenSpec.ofChange twiceCrashesSpec)

/-- ITS FALSE NEIGHBOUR: 'it returns false'. Refute it at one input. -/
def twiceCrashesWrong : ChangeSpec := { name := "twiceCrashes", fn := fun _ => fun
  | [d1, d2, d3, d4, d5] => { results := [.lit (.bool false)], args := [d1, d2, d3, d4, d5] }
  | _ => none }
def TwiceCrashesWrongFalsely : Prop := twiceCrashesRow.holds Tryz.pinned (OpenSpec.ofChange twiceCrashesWrong)

/-- 'quadrigalaw12.TwiceNone': WHATEVER THE INPUT: true; the input reads as it did. -/
def twiceNoneSpec : ChangeSpec := { name := "twiceNone", fn := fun _ => fun
  | [d1, d2] => { results := [.lit (.bool true)], args := [d1, d2] }
  | _ => none }
def twiceNoneRow : OpenClaim := { program := "ytcjjknilhceeeaagreatdoor", sum := "312c939434b4e02dffa0b3c86acea2d5c104921f2ab276317287f928a51bc70e", func := "quadriga/quadrigalaw12.TwiceNone", spec := "twiceNone", inPlace := ["internal/abi.NoEscape", "internal/bytealg.MakeNoZero", "internal/bytealg.IndexByteString", "internal/bytealg.IndexString"], unfollowed := true, recurses := true, named := ["quadriga/sum.nibbles", "unicode/utf8.first", "unicode/utf8.acceptRanges", "internal/bytealg.MaxLen"], apart := false, laid := [("unicode/utf8.acceptRanges", laid_unicode_utf8_acceptRanges), ("quadriga/sum.nibbles", laid_quadriga_sum_nibbles), ("unicode/utf8.first", laid_unicode_utf8_first)] }
def TwiceNoneSaid : Prop := twiceNoneRow.holds Tryz.pinned (OpenSpec.ofChange twiceNoneSpec)

/-- ITS FALSE NEIGHBOUR: 'it returns false'. Refute it at one input. -/
def twiceNoneWrong : ChangeSpec := { name := "twiceNone", fn := fun _ => fun
  | [d1, d2] => { results := [.lit (.bool false)], args := [d1, d2] }
  | _ => none }
def TwiceNoneWrongFalsely : Prop := twiceNoneRow.holds Tryz.pinned (OpenSpec.ofChange twiceNoneWrong)

/-- 'quadrigalaw12.TwiceOpens': WHATEVER THE INPUT: true; the input reads as it did. -/
def twiceOpensSpec : ChangeSpec := { name := "twiceOpens", fn := fun _ => fun
  | [d1, d2, d3, d4] => { results := [.lit (.bool true)], args := [d1, d2, d3, d4] }
  | _ => none }
def twiceOpensRow : OpenClaim := { program := "ytcjjknilhceeeaagreatdoor", sum := "312c939434b4e02dffa0b3c86acea2d5c104921f2ab276317287f928a51bc70e", func := "quadriga/quadrigalaw12.TwiceOpens", spec := "twiceOpens", inPlace := ["internal/abi.NoEscape", "internal/bytealg.MakeNoZero", "internal/bytealg.IndexByteString", "internal/bytealg.IndexString"], unfollowed := true, recurses := true, named := ["quadriga/sum.nibbles", "unicode/utf8.first", "unicode/utf8.acceptRanges", "internal/bytealg.MaxLen"], apart := false, laid := [("unicode/utf8.acceptRanges", laid_unicode_utf8_acceptRanges), ("quadriga/sum.nibbles", laid_quadriga_sum_nibbles), ("unicode/utf8.first", laid_unicode_utf8_first)] }
def TwiceOpensSaid : Prop := twiceOpensRow.holds Tryz.pinned (OpenSpec.ofChange twiceOpensSpec)

/-- ITS FALSE NEIGHBOUR: 'it returns false'. Refute it at one input. -/
def twiceOpensWrong : ChangeSpec := { name := "twiceOpens", fn := fun _ => fun
  | [d1, d2, d3, d4] => { results := [.lit (.bool false)], args := [d1, d2, d3, d4] }
  | _ => none }
def TwiceOpensWrongFalsely : Prop := twiceOpensRow.holds Tryz.pinned (OpenSpec.ofChange twiceOpensWrong)

/-- 'quadrigalaw13.PoolOwn': WHATEVER THE INPUT: true; the input reads as it did. -/
def poolOwnSpec : ChangeSpec := { name := "poolOwn", fn := fun _ => fun
  | [d1, d2] => { results := [.lit (.bool true)], args := [d1, d2] }
  | _ => none }
def poolOwnRow : OpenClaim := { program := "ytcjjknilhceeeaagreatdoor", sum := "312c939434b4e02dffa0b3c86acea2d5c104921f2ab276317287f928a51bc70e", func := "quadriga/quadrigalaw13.PoolOwn", spec := "poolOwn", inPlace := ["internal/abi.NoEscape", "internal/bytealg.MakeNoZero", "internal/bytealg.IndexByteString", "internal/bytealg.IndexString"], unfollowed := true, recurses := true, named := ["unicode/utf8.first", "unicode/utf8.acceptRanges", "quadriga/sum.nibbles", "internal/bytealg.MaxLen"], apart := false, laid := [("unicode/utf8.acceptRanges", laid_unicode_utf8_acceptRanges), ("quadriga/sum.nibbles", laid_quadriga_sum_nibbles), ("unicode/utf8.first", laid_unicode_utf8_first)] }
def PoolOwnSaid : Prop := poolOwnRow.holds Tryz.pinned (OpenSpec.ofChange poolOwnSpec)

/-- ITS FALSE NEIGHBOUR: 'it returns false'. Refute it at one input. -/
def poolOwnWrong : ChangeSpec := { name := "poolOwn", fn := fun _ => fun
  | [d1, d2] => { results := [.lit (.bool false)], args := [d1, d2] }
  | _ => none }
def PoolOwnWrongFalsely : Prop := poolOwnRow.holds Tryz.pinned (OpenSpec.ofChange poolOwnWrong)

/-- 'quadrigalaw13.PoolAhead': WHATEVER THE INPUT: true; the input reads as it did. -/
def poolAheadSpec : ChangeSpec := { name := "poolAhead", fn := fun _ => fun
  | [d1, d2] => { results := [.lit (.bool true)], args := [d1, d2] }
  | _ => none }
def poolAheadRow : OpenClaim := { program := "ytcjjknilhceeeaagreatdoor", sum := "312c939434b4e02dffa0b3c86acea2d5c104921f2ab276317287f928a51bc70e", func := "quadriga/quadrigalaw13.PoolAhead", spec := "poolAhead", inPlace := ["internal/abi.NoEscape", "internal/bytealg.MakeNoZero", "internal/bytealg.IndexByteString", "internal/bytealg.IndexString"], unfollowed := true, recurses := true, named := ["unicode/utf8.first", "unicode/utf8.acceptRanges", "quadriga/sum.nibbles", "internal/bytealg.MaxLen"], apart := false, laid := [("unicode/utf8.acceptRanges", laid_unicode_utf8_acceptRanges), ("quadriga/sum.nibbles", laid_quadriga_sum_nibbles), ("unicode/utf8.first", laid_unicode_utf8_first)] }
def PoolAheadSaid : Prop := poolAheadRow.holds Tryz.pinned (OpenSpec.ofChange poolAheadSpec)

/-- ITS FALSE NEIGHBOUR: 'it returns false'. Refute it at one input. -/
def poolAheadWrong : ChangeSpec := { name := "poolAhead", fn := fun _ => fun
  | [d1, d2] => { results := [.lit (.bool false)], args := [d1, d2] }
  | _ => none }
def PoolAheadWrongFalsely : Prop := poolAheadRow.holds Tryz.pinned (OpenSpec.ofChange poolAheadWrong)

/-- 'quadrigalaw13.PoolNone': WHATEVER THE INPUT: true; the input reads as it did. -/
def poolNoneSpec : ChangeSpec := { name := "poolNone", fn := fun _ => fun
  | [d1, d2] => { results := [.lit (.bool true)], args := [d1, d2] }
  | _ => none }
def poolNoneRow : OpenClaim := { program := "ytcjjknilhceeeaagreatdoor", sum := "312c939434b4e02dffa0b3c86acea2d5c104921f2ab276317287f928a51bc70e", func := "quadriga/quadrigalaw13.PoolNone", spec := "poolNone", inPlace := ["internal/abi.NoEscape", "internal/bytealg.MakeNoZero", "internal/bytealg.IndexByteString", "internal/bytealg.IndexString"], unfollowed := true, recurses := true, named := ["unicode/utf8.first", "unicode/utf8.acceptRanges", "quadriga/sum.nibbles", "internal/bytealg.MaxLen"], apart := false, laid := [("unicode/utf8.acceptRanges", laid_unicode_utf8_acceptRanges), ("quadriga/sum.nibbles", laid_quadriga_sum_nibbles), ("unicode/utf8.first", laid_unicode_utf8_first)] }
def PoolNoneSaid : Prop := poolNoneRow.holds Tryz.pinned (OpenSpec.ofChange poolNoneSpec)

/-- ITS FALSE NEIGHBOUR: 'it returns false'. Refute it at one input. -/
def poolNoneWrong : ChangeSpec := { name := "poolNone", fn := fun _ => fun
  | [d1, d2] => { results := [.lit (.bool false)], args := [d1, d2] }
  | _ => none }
def PoolNoneWrongFalsely : Prop := poolNoneRow.holds Tryz.pinned (OpenSpec.ofChange poolNoneWrong)

/-- 'quadrigalaw13.PoolPlays': WHATEVER THE INPUT: true; the input reads as it did. -/
def poolPlaysSpec : ChangeSpec := { name := "poolPlays", fn := fun _ => fun
  | [d1, d2, d3] => { results := [.lit (.bool true)], args := [d1, d2, d3] }
  | _ => none }
def poolPlaysRow : OpenClaim := { program := "ytcjjknilhceeeaagreatdoor", sum := "312c939434b4e02dffa0b3c86acea2d5c104921f2ab276317287f928a51bc70e", func := "quadriga/quadrigalaw13.PoolPlays", spec := "poolPlays", inPlace := ["internal/abi.NoEscape", "internal/bytealg.MakeNoZero", "internal/bytealg.IndexByteString", "internal/bytealg.IndexString"], unfollowed := true, recurses := true, named := ["unicode/utf8.first", "unicode/utf8.acceptRanges", "quadriga/sum.nibbles", "internal/bytealg.MaxLen"], apart := false, laid := [("unicode/utf8.acceptRanges", laid_unicode_utf8_acceptRanges), ("quadriga/sum.nibbles", laid_quadriga_sum_nibbles), ("unicode/utf8.first", laid_unicode_utf8_first)] }
def PoolPlaysSaid : Prop := poolPlaysRow.holds Tryz.pinned (OpenSpec.ofChange poolPlaysSpec)

/-- ITS FALSE NEIGHBOUR: 'it returns false'. Refute it at one input. -/
def poolPlaysWrong : ChangeSpec := { name := "poolPlays", fn := fun _ => fun
  | [d1, d2, d3] => { results := [.lit (.bool false)], args := [d1, d2, d3] }
  | _ => none }
def PoolPlaysWrongFalsely : Prop := poolPlaysRow.holds Tryz.pinned (OpenSpec.ofChange poolPlaysWrong)

/- THE SECOND FORM. 'bulk': how many values and letters a reading holds, each counted each time it is reached (what is shared counts as often as it is met; a slice's spare places count too). A statement '..UptoSaid' is the law's where the arguments, and the package variables that the reading takes, are together of bulk at most 1048576: NARROWER than '..Said'. Prove '..Said' where nothing that the law and all that it calls make is longer than what came in: it says more and counts as full. Else prove '..UptoSaid'. A law counts once. -/
mutual
def uptoBulk {H : Type} : DataW H → Nat
  | .lit (.string bytes) => bytes.length + 1
  | .lit _ => 1
  | .nil => 1
  | .ptr d => uptoBulk d + 1
  | .slice elems spare => uptoBulkAll elems + uptoBulkAll spare + 1
  | .agg parts => uptoBulkAll parts + 1
  | .iface _ d => uptoBulk d + 1
  | .map entries => uptoBulkEntries entries + 1
  | .held _ => 1
def uptoBulkAll {H : Type} : List (DataW H) → Nat
  | [] => 0
  | d :: r => uptoBulk d + uptoBulkAll r
def uptoBulkEntries {H : Type} : List (Lit × DataW H) → Nat
  | [] => 0
  | x :: r => uptoBulkEntry x + uptoBulkEntries r
def uptoBulkEntry {H : Type} : Lit × DataW H → Nat
  | (.string bytes, d) => bytes.length + uptoBulk d + 1
  | (_, d) => uptoBulk d + 1
 end
def uptoSmall : (H : Type) → List (DataW H) → Bool := fun _ ds => decide (uptoBulkAll ds ≤ 1048576)
def OpenSpec.upto (s : _root_.Go.ChangeSpec) : _root_.Go.OpenSpec := { _root_.Go.OpenSpec.ofChange s with cond := some uptoSmall }

/-- 'quadrigalaw12.TwiceStores', WHERE WHAT IT READS IS OF BULK AT MOST 1048576: true; the input reads as it did. -/
def twiceStoresUptoRow : OpenClaim := { program := "ytcjjknilhceeeaagreatdoor", sum := "312c939434b4e02dffa0b3c86acea2d5c104921f2ab276317287f928a51bc70e", func := "quadriga/quadrigalaw12.TwiceStores", spec := "twiceStores", inPlace := ["internal/abi.NoEscape", "internal/bytealg.MakeNoZero", "internal/bytealg.IndexByteString", "internal/bytealg.IndexString"], unfollowed := true, recurses := true, named := ["quadriga/sum.nibbles", "unicode/utf8.first", "unicode/utf8.acceptRanges", "internal/bytealg.MaxLen"], apart := false, laid := [("unicode/utf8.acceptRanges", laid_unicode_utf8_acceptRanges), ("quadriga/sum.nibbles", laid_quadriga_sum_nibbles), ("unicode/utf8.first", laid_unicode_utf8_first)], narrowed := true }
def TwiceStoresUptoSaid : Prop := twiceStoresUptoRow.holds Tryz.pinned (OpenSpec.upto twiceStoresSpec)

/-- 'quadrigalaw12.TwiceCrashes', WHERE WHAT IT READS IS OF BULK AT MOST 1048576: true; the input reads as it did. -/
def twiceCrashesUptoRow : OpenClaim := { program := "ytcjjknilhceeeaagreatdoor", sum := "312c939434b4e02dffa0b3c86acea2d5c104921f2ab276317287f928a51bc70e", func := "quadriga/quadrigalaw12.TwiceCrashes", spec := "twiceCrashes", inPlace := ["internal/abi.NoEscape", "internal/bytealg.MakeNoZero", "internal/bytealg.IndexByteString", "internal/bytealg.IndexString"], unfollowed := true, recurses := true, named := ["quadriga/sum.nibbles", "unicode/utf8.first", "unicode/utf8.acceptRanges", "internal/bytealg.MaxLen"], apart := false, laid := [("unicode/utf8.acceptRanges", laid_unicode_utf8_acceptRanges), ("quadriga/sum.nibbles", laid_quadriga_sum_nibbles), ("unicode/utf8.first", laid_unicode_utf8_first)], narrowed := true }
def TwiceCrashesUptoSaid : Prop := twiceCrashesUptoRow.holds Tryz.pinned (OpenSpec.upto twiceCrashesSpec)

/-- 'quadrigalaw12.TwiceNone', WHERE WHAT IT READS IS OF BULK AT MOST 1048576: true; the input reads as it did. -/
def twiceNoneUptoRow : OpenClaim := { program := "ytcjjknilhceeeaagreatdoor", sum := "312c939434b4e02dffa0b3c86acea2d5c104921f2ab276317287f928a51bc70e", func := "quadriga/quadrigalaw12.TwiceNone", spec := "twiceNone", inPlace := ["internal/abi.NoEscape", "internal/bytealg.MakeNoZero", "internal/bytealg.IndexByteString", "internal/bytealg.IndexString"], unfollowed := true, recurses := true, named := ["quadriga/sum.nibbles", "unicode/utf8.first", "unicode/utf8.acceptRanges", "internal/bytealg.MaxLen"], apart := false, laid := [("unicode/utf8.acceptRanges", laid_unicode_utf8_acceptRanges), ("quadriga/sum.nibbles", laid_quadriga_sum_nibbles), ("unicode/utf8.first", laid_unicode_utf8_first)], narrowed := true }
def TwiceNoneUptoSaid : Prop := twiceNoneUptoRow.holds Tryz.pinned (OpenSpec.upto twiceNoneSpec)

/-- 'quadrigalaw12.TwiceOpens', WHERE WHAT IT READS IS OF BULK AT MOST 1048576: true; the input reads as it did. -/
def twiceOpensUptoRow : OpenClaim := { program := "ytcjjknilhceeeaagreatdoor", sum := "312c939434b4e02dffa0b3c86acea2d5c104921f2ab276317287f928a51bc70e", func := "quadriga/quadrigalaw12.TwiceOpens", spec := "twiceOpens", inPlace := ["internal/abi.NoEscape", "internal/bytealg.MakeNoZero", "internal/bytealg.IndexByteString", "internal/bytealg.IndexString"], unfollowed := true, recurses := true, named := ["quadriga/sum.nibbles", "unicode/utf8.first", "unicode/utf8.acceptRanges", "internal/bytealg.MaxLen"], apart := false, laid := [("unicode/utf8.acceptRanges", laid_unicode_utf8_acceptRanges), ("quadriga/sum.nibbles", laid_quadriga_sum_nibbles), ("unicode/utf8.first", laid_unicode_utf8_first)], narrowed := true }
def TwiceOpensUptoSaid : Prop := twiceOpensUptoRow.holds Tryz.pinned (OpenSpec.upto twiceOpensSpec)

/-- 'quadrigalaw13.PoolOwn', WHERE WHAT IT READS IS OF BULK AT MOST 1048576: true; the input reads as it did. -/
def poolOwnUptoRow : OpenClaim := { program := "ytcjjknilhceeeaagreatdoor", sum := "312c939434b4e02dffa0b3c86acea2d5c104921f2ab276317287f928a51bc70e", func := "quadriga/quadrigalaw13.PoolOwn", spec := "poolOwn", inPlace := ["internal/abi.NoEscape", "internal/bytealg.MakeNoZero", "internal/bytealg.IndexByteString", "internal/bytealg.IndexString"], unfollowed := true, recurses := true, named := ["unicode/utf8.first", "unicode/utf8.acceptRanges", "quadriga/sum.nibbles", "internal/bytealg.MaxLen"], apart := false, laid := [("unicode/utf8.acceptRanges", laid_unicode_utf8_acceptRanges), ("quadriga/sum.nibbles", laid_quadriga_sum_nibbles), ("unicode/utf8.first", laid_unicode_utf8_first)], narrowed := true }
def PoolOwnUptoSaid : Prop := poolOwnUptoRow.holds Tryz.pinned (OpenSpec.upto poolOwnSpec)

/-- 'quadrigalaw13.PoolAhead', WHERE WHAT IT READS IS OF BULK AT MOST 1048576: true; the input reads as it did. -/
def poolAheadUptoRow : OpenClaim := { program := "ytcjjknilhceeeaagreatdoor", sum := "312c939434b4e02dffa0b3c86acea2d5c104921f2ab276317287f928a51bc70e", func := "quadriga/quadrigalaw13.PoolAhead", spec := "poolAhead", inPlace := ["internal/abi.NoEscape", "internal/bytealg.MakeNoZero", "internal/bytealg.IndexByteString", "internal/bytealg.IndexString"], unfollowed := true, recurses := true, named := ["unicode/utf8.first", "unicode/utf8.acceptRanges", "quadriga/sum.nibbles", "internal/bytealg.MaxLen"], apart := false, laid := [("unicode/utf8.acceptRanges", laid_unicode_utf8_acceptRanges), ("quadriga/sum.nibbles", laid_quadriga_sum_nibbles), ("unicode/utf8.first", laid_unicode_utf8_first)], narrowed := true }
def PoolAheadUptoSaid : Prop := poolAheadUptoRow.holds Tryz.pinned (OpenSpec.upto poolAheadSpec)

/-- 'quadrigalaw13.PoolNone', WHERE WHAT IT READS IS OF BULK AT MOST 1048576: true; the input reads as it did. -/
def poolNoneUptoRow : OpenClaim := { program := "ytcjjknilhceeeaagreatdoor", sum := "312c939434b4e02dffa0b3c86acea2d5c104921f2ab276317287f928a51bc70e", func := "quadriga/quadrigalaw13.PoolNone", spec := "poolNone", inPlace := ["internal/abi.NoEscape", "internal/bytealg.MakeNoZero", "internal/bytealg.IndexByteString", "internal/bytealg.IndexString"], unfollowed := true, recurses := true, named := ["unicode/utf8.first", "unicode/utf8.acceptRanges", "quadriga/sum.nibbles", "internal/bytealg.MaxLen"], apart := false, laid := [("unicode/utf8.acceptRanges", laid_unicode_utf8_acceptRanges), ("quadriga/sum.nibbles", laid_quadriga_sum_nibbles), ("unicode/utf8.first", laid_unicode_utf8_first)], narrowed := true }
def PoolNoneUptoSaid : Prop := poolNoneUptoRow.holds Tryz.pinned (OpenSpec.upto poolNoneSpec)

/-- 'quadrigalaw13.PoolPlays', WHERE WHAT IT READS IS OF BULK AT MOST 1048576: true; the input reads as it did. -/
def poolPlaysUptoRow : OpenClaim := { program := "ytcjjknilhceeeaagreatdoor", sum := "312c939434b4e02dffa0b3c86acea2d5c104921f2ab276317287f928a51bc70e", func := "quadriga/quadrigalaw13.PoolPlays", spec := "poolPlays", inPlace := ["internal/abi.NoEscape", "internal/bytealg.MakeNoZero", "internal/bytealg.IndexByteString", "internal/bytealg.IndexString"], unfollowed := true, recurses := true, named := ["unicode/utf8.first", "unicode/utf8.acceptRanges", "quadriga/sum.nibbles", "internal/bytealg.MaxLen"], apart := false, laid := [("unicode/utf8.acceptRanges", laid_unicode_utf8_acceptRanges), ("quadriga/sum.nibbles", laid_quadriga_sum_nibbles), ("unicode/utf8.first", laid_unicode_utf8_first)], narrowed := true }
def PoolPlaysUptoSaid : Prop := poolPlaysUptoRow.holds Tryz.pinned (OpenSpec.upto poolPlaysSpec)

end Rows
end Go.Proofs.YtcjjknilhceeeaaGreatDoor
