/-
  NARROWER THAN 'FOR EVERY INPUT', by the rows' own cells (each row's printed sentence says how): HeadBytes: laid · HeadLoads: laid · PointLows: laid · PointNone: laid · PointKeeps: laid · PointCrashes: laid.
  DERIVED. THE GIVEN ROWS OF THIS SEAT. 6 by the template 'for every input the law returns true; each argument reads behind the call as it read before'; 0 by the template 'total and deterministic' (their statements: YtcnfkdodgemeeaaGreatDoorTotals.lean).
  GIVEN WITH THE SEED: the statements are not yours to turn. If you find one false, say at which input.
  Laid BY PROGRAM, IN A SANDBOX (cutbox-rows.mjs): the forced cells as the released guide's own fill.sh prints them over the translation 168fd9578d681d0d… (all of the seat's roots in one cut). By AI agents, Wed Nov 11 2026. No macro, syntax, notation, axiom, sorry.
-/
import Derived.Test.YtcnfkdodgemeeaaGreatDoorChecked
import GoSem.PinnedTables
import GoSem.Claim
import GoSem.ClaimJoined
import GoSem.ClaimMapViews
import Derived.JoinedTies
import Derived.KernelRfl
namespace Go.Proofs.YtcnfkdodgemeeaaGreatDoor
/- THE CELL 'sum', in the pinned program and in every row, IS THE sha256 OF THE DUMP (.gsa) THAT YtcnfkdodgemeeaaGreatDoorProg.lean LOADS. Nothing in Lean hashes anything: it is a label: what it is worth is what the hold of that sum in a sandbox is worth. -/
noncomputable def Tryz.pinned : Pinned := { name := "ytcnfkdodgemeeaagreatdoor", sum := "168fd9578d681d0daa3a2784e56b3a64cc71c56b0152c73ec8a3a5e1f8e48fae", checked := Tryz.checked }
namespace Rows
def none {H : Type} : Left H := { results := [], args := [] }

/- WHAT THE LISTED PACKAGE-LEVEL VARIABLES READ AS WHEN THE CALL BEGINS. Each datum BY PROGRAM (the guide's laid-datum.mjs) off the statement by which the dump's own 'gosem.cut.vars' lays the variable. In a bare row this is a premise. The card (YtcnfkdodgemeeaaGreatDoorCards.lean) ties it to the program's text. -/
def laid_unicode_utf8_acceptRanges {H : Type} : DataW H := .agg [.agg [.lit (.int .u8 128), .lit (.int .u8 191)], .agg [.lit (.int .u8 160), .lit (.int .u8 191)], .agg [.lit (.int .u8 128), .lit (.int .u8 159)], .agg [.lit (.int .u8 144), .lit (.int .u8 191)], .agg [.lit (.int .u8 128), .lit (.int .u8 143)], .agg [.lit (.int .u8 0), .lit (.int .u8 0)], .agg [.lit (.int .u8 0), .lit (.int .u8 0)], .agg [.lit (.int .u8 0), .lit (.int .u8 0)], .agg [.lit (.int .u8 0), .lit (.int .u8 0)], .agg [.lit (.int .u8 0), .lit (.int .u8 0)], .agg [.lit (.int .u8 0), .lit (.int .u8 0)], .agg [.lit (.int .u8 0), .lit (.int .u8 0)], .agg [.lit (.int .u8 0), .lit (.int .u8 0)], .agg [.lit (.int .u8 0), .lit (.int .u8 0)], .agg [.lit (.int .u8 0), .lit (.int .u8 0)], .agg [.lit (.int .u8 0), .lit (.int .u8 0)]]
def laid_quadriga_sum_nibbles {H : Type} : DataW H := .agg [.lit (.int .u32 0), .lit (.int .u32 498536548), .lit (.int .u32 997073096), .lit (.int .u32 651767980), .lit (.int .u32 1994146192), .lit (.int .u32 1802195444), .lit (.int .u32 1303535960), .lit (.int .u32 1342533948), .lit (.int .u32 3988292384), .lit (.int .u32 4027552580), .lit (.int .u32 3604390888), .lit (.int .u32 3412177804), .lit (.int .u32 2607071920), .lit (.int .u32 2262029012), .lit (.int .u32 2685067896), .lit (.int .u32 3183342108)]
/-- One of Go's own tables, pinned by name: the form's constant. -/
def laid_unicode_utf8_first : DataW Unit := Go.Pinned.utf8First

/-- 'quadrigalaw07.HeadBytes': WHATEVER THE INPUT: true; the input reads as it did. -/
def headBytesSpec : ChangeSpec := { name := "headBytes", fn := fun _ => fun
  | [d1, d2] => { results := [.lit (.bool true)], args := [d1, d2] }
  | _ => none }
def headBytesRow : OpenClaim := { program := "ytcnfkdodgemeeaagreatdoor", sum := "168fd9578d681d0daa3a2784e56b3a64cc71c56b0152c73ec8a3a5e1f8e48fae", func := "quadriga/quadrigalaw07.HeadBytes", spec := "headBytes", inPlace := ["internal/abi.NoEscape", "internal/bytealg.MakeNoZero", "internal/bytealg.IndexByteString", "internal/bytealg.IndexString"], unfollowed := true, recurses := true, named := ["quadriga/sum.nibbles", "unicode/utf8.first", "unicode/utf8.acceptRanges", "internal/bytealg.MaxLen"], apart := false, laid := [("unicode/utf8.acceptRanges", laid_unicode_utf8_acceptRanges), ("quadriga/sum.nibbles", laid_quadriga_sum_nibbles), ("unicode/utf8.first", laid_unicode_utf8_first)] }
def HeadBytesSaid : Prop := headBytesRow.holds Tryz.pinned (OpenSpec.ofChange headBytesSpec)

/-- ITS FALSE NEIGHBOUR: 'it returns false'. Refute it at one input. -/
def headBytesWrong : ChangeSpec := { name := "headBytes", fn := fun _ => fun
  | [d1, d2] => { results := [.lit (.bool false)], args := [d1, d2] }
  | _ => none }
def HeadBytesWrongFalsely : Prop := headBytesRow.holds Tryz.pinned (OpenSpec.ofChange headBytesWrong)

/-- 'quadrigalaw07.HeadLoads': WHATEVER THE INPUT: true; the input reads as it did. -/
def headLoadsSpec : ChangeSpec := { name := "headLoads", fn := fun _ => fun
  | [d1, d2, d3] => { results := [.lit (.bool true)], args := [d1, d2, d3] }
  | _ => none }
def headLoadsRow : OpenClaim := { program := "ytcnfkdodgemeeaagreatdoor", sum := "168fd9578d681d0daa3a2784e56b3a64cc71c56b0152c73ec8a3a5e1f8e48fae", func := "quadriga/quadrigalaw07.HeadLoads", spec := "headLoads", inPlace := ["internal/abi.NoEscape", "internal/bytealg.MakeNoZero", "internal/bytealg.IndexByteString", "internal/bytealg.IndexString"], unfollowed := true, recurses := true, named := ["quadriga/sum.nibbles", "unicode/utf8.first", "unicode/utf8.acceptRanges", "internal/bytealg.MaxLen"], apart := false, laid := [("unicode/utf8.acceptRanges", laid_unicode_utf8_acceptRanges), ("quadriga/sum.nibbles", laid_quadriga_sum_nibbles), ("unicode/utf8.first", laid_unicode_utf8_first)] }
def HeadLoadsSaid : Prop := headLoadsRow.holds Tryz.pinned (OpenSpec.ofChange headLoadsSpec)

/-- ITS FALSE NEIGHBOUR: 'it returns false'. Refute it at one input. -/
def headLoadsWrong : ChangeSpec := { name := "headLoads", fn := fun _ => fun
  | [d1, d2, d3] => { results := [.lit (.bool false)], args := [d1, d2, d3] }
  | _ => none }
def HeadLoadsWrongFalsely : Prop := headLoadsRow.holds Tryz.pinned (OpenSpec.ofChange headLoadsWrong)

/-- 'quadrigalaw19.PointLows': WHATEVER THE INPUT: true; the input reads as it did. -/
def pointLowsSpec : ChangeSpec := { name := "pointLows", fn := fun _ => fun
  | [d1, d2] => { results := [.lit (.bool true)], args := [d1, d2] }
  | _ => none }
def pointLowsRow : OpenClaim := { program := "ytcnfkdodgemeeaagreatdoor", sum := "168fd9578d681d0daa3a2784e56b3a64cc71c56b0152c73ec8a3a5e1f8e48fae", func := "quadriga/quadrigalaw19.PointLows", spec := "pointLows", inPlace := ["internal/abi.NoEscape", "internal/bytealg.MakeNoZero", "internal/bytealg.IndexByteString", "internal/bytealg.IndexString"], unfollowed := true, recurses := true, named := ["quadriga/sum.nibbles", "unicode/utf8.first", "unicode/utf8.acceptRanges", "internal/bytealg.MaxLen"], apart := false, laid := [("unicode/utf8.acceptRanges", laid_unicode_utf8_acceptRanges), ("quadriga/sum.nibbles", laid_quadriga_sum_nibbles), ("unicode/utf8.first", laid_unicode_utf8_first)] }
def PointLowsSaid : Prop := pointLowsRow.holds Tryz.pinned (OpenSpec.ofChange pointLowsSpec)

/-- ITS FALSE NEIGHBOUR: 'it returns false'. Refute it at one input. -/
def pointLowsWrong : ChangeSpec := { name := "pointLows", fn := fun _ => fun
  | [d1, d2] => { results := [.lit (.bool false)], args := [d1, d2] }
  | _ => none }
def PointLowsWrongFalsely : Prop := pointLowsRow.holds Tryz.pinned (OpenSpec.ofChange pointLowsWrong)

/-- 'quadrigalaw19.PointNone': WHATEVER THE INPUT: true; the input reads as it did. -/
def pointNoneSpec : ChangeSpec := { name := "pointNone", fn := fun _ => fun
  | [d1, d2] => { results := [.lit (.bool true)], args := [d1, d2] }
  | _ => none }
def pointNoneRow : OpenClaim := { program := "ytcnfkdodgemeeaagreatdoor", sum := "168fd9578d681d0daa3a2784e56b3a64cc71c56b0152c73ec8a3a5e1f8e48fae", func := "quadriga/quadrigalaw19.PointNone", spec := "pointNone", inPlace := ["internal/abi.NoEscape", "internal/bytealg.MakeNoZero", "internal/bytealg.IndexByteString", "internal/bytealg.IndexString"], unfollowed := true, recurses := true, named := ["quadriga/sum.nibbles", "unicode/utf8.first", "unicode/utf8.acceptRanges", "internal/bytealg.MaxLen"], apart := false, laid := [("unicode/utf8.acceptRanges", laid_unicode_utf8_acceptRanges), ("quadriga/sum.nibbles", laid_quadriga_sum_nibbles), ("unicode/utf8.first", laid_unicode_utf8_first)] }
def PointNoneSaid : Prop := pointNoneRow.holds Tryz.pinned (OpenSpec.ofChange pointNoneSpec)

/-- ITS FALSE NEIGHBOUR: 'it returns false'. Refute it at one input. -/
def pointNoneWrong : ChangeSpec := { name := "pointNone", fn := fun _ => fun
  | [d1, d2] => { results := [.lit (.bool false)], args := [d1, d2] }
  | _ => none }
def PointNoneWrongFalsely : Prop := pointNoneRow.holds Tryz.pinned (OpenSpec.ofChange pointNoneWrong)

/-- 'quadrigalaw19.PointKeeps': WHATEVER THE INPUT: true; the input reads as it did. -/
def pointKeepsSpec : ChangeSpec := { name := "pointKeeps", fn := fun _ => fun
  | [d] => { results := [.lit (.bool true)], args := [d] }
  | _ => none }
def pointKeepsRow : OpenClaim := { program := "ytcnfkdodgemeeaagreatdoor", sum := "168fd9578d681d0daa3a2784e56b3a64cc71c56b0152c73ec8a3a5e1f8e48fae", func := "quadriga/quadrigalaw19.PointKeeps", spec := "pointKeeps", inPlace := ["internal/abi.NoEscape", "internal/bytealg.MakeNoZero", "internal/bytealg.IndexByteString", "internal/bytealg.IndexString"], unfollowed := true, recurses := true, named := ["quadriga/sum.nibbles", "unicode/utf8.first", "unicode/utf8.acceptRanges", "internal/bytealg.MaxLen"], apart := false, laid := [("unicode/utf8.acceptRanges", laid_unicode_utf8_acceptRanges), ("quadriga/sum.nibbles", laid_quadriga_sum_nibbles), ("unicode/utf8.first", laid_unicode_utf8_first)] }
def PointKeepsSaid : Prop := pointKeepsRow.holds Tryz.pinned (OpenSpec.ofChange pointKeepsSpec)

/-- ITS FALSE NEIGHBOUR: 'it returns false'. Refute it at one input. -/
def pointKeepsWrong : ChangeSpec := { name := "pointKeeps", fn := fun _ => fun
  | [d] => { results := [.lit (.bool false)], args := [d] }
  | _ => none }
def PointKeepsWrongFalsely : Prop := pointKeepsRow.holds Tryz.pinned (OpenSpec.ofChange pointKeepsWrong)

/-- 'quadrigalaw19.PointCrashes': WHATEVER THE INPUT: true; the input reads as it did. -/
def pointCrashesSpec : ChangeSpec := { name := "pointCrashes", fn := fun _ => fun
  | [d1, d2, d3] => { results := [.lit (.bool true)], args := [d1, d2, d3] }
  | _ => none }
def pointCrashesRow : OpenClaim := { program := "ytcnfkdodgemeeaagreatdoor", sum := "168fd9578d681d0daa3a2784e56b3a64cc71c56b0152c73ec8a3a5e1f8e48fae", func := "quadriga/quadrigalaw19.PointCrashes", spec := "pointCrashes", inPlace := ["internal/abi.NoEscape", "internal/bytealg.MakeNoZero", "internal/bytealg.IndexByteString", "internal/bytealg.IndexString"], unfollowed := true, recurses := true, named := ["quadriga/sum.nibbles", "unicode/utf8.first", "unicode/utf8.acceptRanges", "internal/bytealg.MaxLen"], apart := false, laid := [("unicode/utf8.acceptRanges", laid_unicode_utf8_acceptRanges), ("quadriga/sum.nibbles", laid_quadriga_sum_nibbles), ("unicode/utf8.first", laid_unicode_utf8_first)] }
def PointCrashesSaid : Prop := pointCrashesRow.holds Tryz.pinned (OpenSpec.ofChange pointCrashesSpec)

/-- ITS FALSE NEIGHBOUR: 'it returns false'. Refute it at one input. -/
def pointCrashesWrong : ChangeSpec := { name := "pointCrashes", fn := fun _ => fun
  | [d1, d2, d3] => { results := [.lit (.bool false)], args := [d1, d2, d3] }
  | _ => none }
def PointCrashesWrongFalsely : Prop := pointCrashesRow.holds Tryz.pinned (OpenSpec.ofChange pointCrashesWrong)

/- THE SECOND FORM. 'bulk': how many values and letters a reading holds, each counted each time it is reached (what is shared counts as often as it is met; a slice's spare places count too). A statement '..UptoSaid' is the law's where the arguments, and the package variables that the reading takes, are together of bulk at most 1048576: NARROWER than '..Said'. Prove '..Said' where nothing that the law and all that it calls make is longer than what came in: it says more and counts as full. Else prove '..UptoSaid'. A law counts once. -/
mutual
def uptoBulk {H : Type} : DataW H → Nat
  | .lit (.string bytes) => bytes.length + 1
  | .lit _ => 1
  | .nil => 1
  | .ptr d => uptoBulk d + 1
  | .slice elems spare => uptoBulkAll elems + uptoBulkAll spare + 1
  | .agg parts => uptoBulkAll parts + 1
  | .iface _ d => uptoBulk d + 1
  | .map entries => uptoBulkEntries entries + 1
  | .held _ => 1
def uptoBulkAll {H : Type} : List (DataW H) → Nat
  | [] => 0
  | d :: r => uptoBulk d + uptoBulkAll r
def uptoBulkEntries {H : Type} : List (Lit × DataW H) → Nat
  | [] => 0
  | x :: r => uptoBulkEntry x + uptoBulkEntries r
def uptoBulkEntry {H : Type} : Lit × DataW H → Nat
  | (.string bytes, d) => bytes.length + uptoBulk d + 1
  | (_, d) => uptoBulk d + 1
 end
def uptoSmall : (H : Type) → List (DataW H) → Bool := fun _ ds => decide (uptoBulkAll ds ≤ 1048576)
def OpenSpec.upto (s : _root_.Go.ChangeSpec) : _root_.Go.OpenSpec := { _root_.Go.OpenSpec.ofChange s with cond := some uptoSmall }

/-- 'quadrigalaw07.HeadBytes', WHERE WHAT IT READS IS OF BULK AT MOST 1048576: true; the input reads as it did. -/
def headBytesUptoRow : OpenClaim := { program := "ytcnfkdodgemeeaagreatdoor", sum := "168fd9578d681d0daa3a2784e56b3a64cc71c56b0152c73ec8a3a5e1f8e48fae", func := "quadriga/quadrigalaw07.HeadBytes", spec := "headBytes", inPlace := ["internal/abi.NoEscape", "internal/bytealg.MakeNoZero", "internal/bytealg.IndexByteString", "internal/bytealg.IndexString"], unfollowed := true, recurses := true, named := ["quadriga/sum.nibbles", "unicode/utf8.first", "unicode/utf8.acceptRanges", "internal/bytealg.MaxLen"], apart := false, laid := [("unicode/utf8.acceptRanges", laid_unicode_utf8_acceptRanges), ("quadriga/sum.nibbles", laid_quadriga_sum_nibbles), ("unicode/utf8.first", laid_unicode_utf8_first)], narrowed := true }
def HeadBytesUptoSaid : Prop := headBytesUptoRow.holds Tryz.pinned (OpenSpec.upto headBytesSpec)

/-- 'quadrigalaw07.HeadLoads', WHERE WHAT IT READS IS OF BULK AT MOST 1048576: true; the input reads as it did. -/
def headLoadsUptoRow : OpenClaim := { program := "ytcnfkdodgemeeaagreatdoor", sum := "168fd9578d681d0daa3a2784e56b3a64cc71c56b0152c73ec8a3a5e1f8e48fae", func := "quadriga/quadrigalaw07.HeadLoads", spec := "headLoads", inPlace := ["internal/abi.NoEscape", "internal/bytealg.MakeNoZero", "internal/bytealg.IndexByteString", "internal/bytealg.IndexString"], unfollowed := true, recurses := true, named := ["quadriga/sum.nibbles", "unicode/utf8.first", "unicode/utf8.acceptRanges", "internal/bytealg.MaxLen"], apart := false, laid := [("unicode/utf8.acceptRanges", laid_unicode_utf8_acceptRanges), ("quadriga/sum.nibbles", laid_quadriga_sum_nibbles), ("unicode/utf8.first", laid_unicode_utf8_first)], narrowed := true }
def HeadLoadsUptoSaid : Prop := headLoadsUptoRow.holds Tryz.pinned (OpenSpec.upto headLoadsSpec)

/-- 'quadrigalaw19.PointLows', WHERE WHAT IT READS IS OF BULK AT MOST 1048576: true; the input reads as it did. -/
def pointLowsUptoRow : OpenClaim := { program := "ytcnfkdodgemeeaagreatdoor", sum := "168fd9578d681d0daa3a2784e56b3a64cc71c56b0152c73ec8a3a5e1f8e48fae", func := "quadriga/quadrigalaw19.PointLows", spec := "pointLows", inPlace := ["internal/abi.NoEscape", "internal/bytealg.MakeNoZero", "internal/bytealg.IndexByteString", "internal/bytealg.IndexString"], unfollowed := true, recurses := true, named := ["quadriga/sum.nibbles", "unicode/utf8.first", "unicode/utf8.acceptRanges", "internal/bytealg.MaxLen"], apart := false, laid := [("unicode/utf8.acceptRanges", laid_unicode_utf8_acceptRanges), ("quadriga/sum.nibbles", laid_quadriga_sum_nibbles), ("unicode/utf8.first", laid_unicode_utf8_first)], narrowed := true }
def PointLowsUptoSaid : Prop := pointLowsUptoRow.holds Tryz.pinned (OpenSpec.upto pointLowsSpec)

/-- 'quadrigalaw19.PointNone', WHERE WHAT IT READS IS OF BULK AT MOST 1048576: true; the input reads as it did. -/
def pointNoneUptoRow : OpenClaim := { program := "ytcnfkdodgemeeaagreatdoor", sum := "168fd9578d681d0daa3a2784e56b3a64cc71c56b0152c73ec8a3a5e1f8e48fae", func := "quadriga/quadrigalaw19.PointNone", spec := "pointNone", inPlace := ["internal/abi.NoEscape", "internal/bytealg.MakeNoZero", "internal/bytealg.IndexByteString", "internal/bytealg.IndexString"], unfollowed := true, recurses := true, named := ["quadriga/sum.nibbles", "unicode/utf8.first", "unicode/utf8.acceptRanges", "internal/bytealg.MaxLen"], apart := false, laid := [("unicode/utf8.acceptRanges", laid_unicode_utf8_acceptRanges), ("quadriga/sum.nibbles", laid_quadriga_sum_nibbles), ("unicode/utf8.first", laid_unicode_utf8_first)], narrowed := true }
def PointNoneUptoSaid : Prop := pointNoneUptoRow.holds Tryz.pinned (OpenSpec.upto pointNoneSpec)

/-- 'quadrigalaw19.PointKeeps', WHERE WHAT IT READS IS OF BULK AT MOST 1048576: true; the input reads as it did. -/
def pointKeepsUptoRow : OpenClaim := { program := "ytcnfkdodgemeeaagreatdoor", sum := "168fd9578d681d0daa3a2784e56b3a64cc71c56b0152c73ec8a3a5e1f8e48fae", func := "quadriga/quadrigalaw19.PointKeeps", spec := "pointKeeps", inPlace := ["internal/abi.NoEscape", "internal/bytealg.MakeNoZero", "internal/bytealg.IndexByteString", "internal/bytealg.IndexString"], unfollowed := true, recurses := true, named := ["quadriga/sum.nibbles", "unicode/utf8.first", "unicode/utf8.acceptRanges", "internal/bytealg.MaxLen"], apart := false, laid := [("unicode/utf8.acceptRanges", laid_unicode_utf8_acceptRanges), ("quadriga/sum.nibbles", laid_quadriga_sum_nibbles), ("unicode/utf8.first", laid_unicode_utf8_first)], narrowed := true }
def PointKeepsUptoSaid : Prop := pointKeepsUptoRow.holds Tryz.pinned (OpenSpec.upto pointKeepsSpec)

/-- 'quadrigalaw19.PointCrashes', WHERE WHAT IT READS IS OF BULK AT MOST 1048576: true; the input reads as it did. -/
def pointCrashesUptoRow : OpenClaim := { program := "ytcnfkdodgemeeaagreatdoor", sum := "168fd9578d681d0daa3a2784e56b3a64cc71c56b0152c73ec8a3a5e1f8e48fae", func := "quadriga/quadrigalaw19.PointCrashes", spec := "pointCrashes", inPlace := ["internal/abi.NoEscape", "internal/bytealg.MakeNoZero", "internal/bytealg.IndexByteString", "internal/bytealg.IndexString"], unfollowed := true, recurses := true, named := ["quadriga/sum.nibbles", "unicode/utf8.first", "unicode/utf8.acceptRanges", "internal/bytealg.MaxLen"], apart := false, laid := [("unicode/utf8.acceptRanges", laid_unicode_utf8_acceptRanges), ("quadriga/sum.nibbles", laid_quadriga_sum_nibbles), ("unicode/utf8.first", laid_unicode_utf8_first)], narrowed := true }
def PointCrashesUptoSaid : Prop := pointCrashesUptoRow.holds Tryz.pinned (OpenSpec.upto pointCrashesSpec)

end Rows
end Go.Proofs.YtcnfkdodgemeeaaGreatDoor
