/-
  NARROWER THAN 'FOR EVERY INPUT', by the rows' own cells (each row's printed sentence says how): PageRights: laid · PageSets: laid · PageBack: laid · PageBytes: laid · AreaPlays: laid.
  DERIVED. THE GIVEN ROWS OF THIS SEAT. 5 by the template 'for every input the law returns true; each argument reads behind the call as it read before'; 0 by the template 'total and deterministic' (their statements: YtcffibbdbalmjaaDoorTotals.lean).
  GIVEN WITH THE SEED: the statements are not yours to turn. If you find one false, say at which input.
  Laid BY PROGRAM, IN A SANDBOX (cutbox-rows.mjs): the forced cells as the released guide's own fill.sh prints them over the translation 20aa1730948787c7… (all of the seat's roots in one cut). By AI agents, Wed Nov 11 2026. No macro, syntax, notation, axiom, sorry.
-/
import Derived.Test.YtcffibbdbalmjaaDoorChecked
import GoSem.PinnedTables
import GoSem.Claim
import GoSem.ClaimJoined
import GoSem.ClaimMapViews
import Derived.JoinedTies
import Derived.KernelRfl
namespace Go.Proofs.YtcffibbdbalmjaaDoor
/- THE CELL 'sum', in the pinned program and in every row, IS THE sha256 OF THE DUMP (.gsa) THAT YtcffibbdbalmjaaDoorProg.lean LOADS. Nothing in Lean hashes anything: it is a label: what it is worth is what the hold of that sum in a sandbox is worth. -/
noncomputable def Tryd.pinned : Pinned := { name := "ytcffibbdbalmjaadoor", sum := "20aa1730948787c707408a4e2b12da9e713acd58c1779efe3edae6d07ad462f5", checked := Tryd.checked }
namespace Rows
def none {H : Type} : Left H := { results := [], args := [] }

/- WHAT THE LISTED PACKAGE-LEVEL VARIABLES READ AS WHEN THE CALL BEGINS. Each datum BY PROGRAM (the guide's laid-datum.mjs) off the statement by which the dump's own 'gosem.cut.vars' lays the variable. In a bare row this is a premise. The card (YtcffibbdbalmjaaDoorCards.lean) ties it to the program's text. -/
def laid_quadriga_sum_nibbles {H : Type} : DataW H := .agg [.lit (.int .u32 0), .lit (.int .u32 498536548), .lit (.int .u32 997073096), .lit (.int .u32 651767980), .lit (.int .u32 1994146192), .lit (.int .u32 1802195444), .lit (.int .u32 1303535960), .lit (.int .u32 1342533948), .lit (.int .u32 3988292384), .lit (.int .u32 4027552580), .lit (.int .u32 3604390888), .lit (.int .u32 3412177804), .lit (.int .u32 2607071920), .lit (.int .u32 2262029012), .lit (.int .u32 2685067896), .lit (.int .u32 3183342108)]
def laid_unicode_utf8_acceptRanges {H : Type} : DataW H := .agg [.agg [.lit (.int .u8 128), .lit (.int .u8 191)], .agg [.lit (.int .u8 160), .lit (.int .u8 191)], .agg [.lit (.int .u8 128), .lit (.int .u8 159)], .agg [.lit (.int .u8 144), .lit (.int .u8 191)], .agg [.lit (.int .u8 128), .lit (.int .u8 143)], .agg [.lit (.int .u8 0), .lit (.int .u8 0)], .agg [.lit (.int .u8 0), .lit (.int .u8 0)], .agg [.lit (.int .u8 0), .lit (.int .u8 0)], .agg [.lit (.int .u8 0), .lit (.int .u8 0)], .agg [.lit (.int .u8 0), .lit (.int .u8 0)], .agg [.lit (.int .u8 0), .lit (.int .u8 0)], .agg [.lit (.int .u8 0), .lit (.int .u8 0)], .agg [.lit (.int .u8 0), .lit (.int .u8 0)], .agg [.lit (.int .u8 0), .lit (.int .u8 0)], .agg [.lit (.int .u8 0), .lit (.int .u8 0)], .agg [.lit (.int .u8 0), .lit (.int .u8 0)]]
/-- One of Go's own tables, pinned by name: the form's constant. -/
def laid_unicode_utf8_first : DataW Unit := Go.Pinned.utf8First

/-- 'quadrigalaw11.PageRights': WHATEVER THE INPUT: true; the input reads as it did. -/
def pageRightsSpec : ChangeSpec := { name := "pageRights", fn := fun _ => fun
  | [d1, d2, d3] => { results := [.lit (.bool true)], args := [d1, d2, d3] }
  | _ => none }
def pageRightsRow : OpenClaim := { program := "ytcffibbdbalmjaadoor", sum := "20aa1730948787c707408a4e2b12da9e713acd58c1779efe3edae6d07ad462f5", func := "quadriga/quadrigalaw11.PageRights", spec := "pageRights", inPlace := ["slices.overlaps[quadriga/api.Cell]", "internal/abi.NoEscape", "internal/bytealg.MakeNoZero"], unfollowed := true, recurses := true, named := ["quadriga/sum.nibbles"], apart := false, laid := [("quadriga/sum.nibbles", laid_quadriga_sum_nibbles)] }
def PageRightsSaid : Prop := pageRightsRow.holds Tryd.pinned (OpenSpec.ofChange pageRightsSpec)

/-- ITS FALSE NEIGHBOUR: 'it returns false'. Refute it at one input. -/
def pageRightsWrong : ChangeSpec := { name := "pageRights", fn := fun _ => fun
  | [d1, d2, d3] => { results := [.lit (.bool false)], args := [d1, d2, d3] }
  | _ => none }
def PageRightsWrongFalsely : Prop := pageRightsRow.holds Tryd.pinned (OpenSpec.ofChange pageRightsWrong)

/-- 'quadrigalaw11.PageSets': WHATEVER THE INPUT: true; the input reads as it did. -/
def pageSetsSpec : ChangeSpec := { name := "pageSets", fn := fun _ => fun
  | [d1, d2, d3, d4] => { results := [.lit (.bool true)], args := [d1, d2, d3, d4] }
  | _ => none }
def pageSetsRow : OpenClaim := { program := "ytcffibbdbalmjaadoor", sum := "20aa1730948787c707408a4e2b12da9e713acd58c1779efe3edae6d07ad462f5", func := "quadriga/quadrigalaw11.PageSets", spec := "pageSets", inPlace := ["slices.overlaps[quadriga/api.Cell]", "internal/abi.NoEscape", "internal/bytealg.MakeNoZero"], unfollowed := true, recurses := true, named := ["quadriga/sum.nibbles"], apart := false, laid := [("quadriga/sum.nibbles", laid_quadriga_sum_nibbles)] }
def PageSetsSaid : Prop := pageSetsRow.holds Tryd.pinned (OpenSpec.ofChange pageSetsSpec)

/-- ITS FALSE NEIGHBOUR: 'it returns false'. Refute it at one input. -/
def pageSetsWrong : ChangeSpec := { name := "pageSets", fn := fun _ => fun
  | [d1, d2, d3, d4] => { results := [.lit (.bool false)], args := [d1, d2, d3, d4] }
  | _ => none }
def PageSetsWrongFalsely : Prop := pageSetsRow.holds Tryd.pinned (OpenSpec.ofChange pageSetsWrong)

/-- 'quadrigalaw11.PageBack': WHATEVER THE INPUT: true; the input reads as it did. -/
def pageBackSpec : ChangeSpec := { name := "pageBack", fn := fun _ => fun
  | [d1, d2, d3] => { results := [.lit (.bool true)], args := [d1, d2, d3] }
  | _ => none }
def pageBackRow : OpenClaim := { program := "ytcffibbdbalmjaadoor", sum := "20aa1730948787c707408a4e2b12da9e713acd58c1779efe3edae6d07ad462f5", func := "quadriga/quadrigalaw11.PageBack", spec := "pageBack", inPlace := ["slices.overlaps[quadriga/api.Cell]", "internal/abi.NoEscape", "internal/bytealg.MakeNoZero"], unfollowed := true, recurses := true, named := ["quadriga/sum.nibbles"], apart := false, laid := [("quadriga/sum.nibbles", laid_quadriga_sum_nibbles)] }
def PageBackSaid : Prop := pageBackRow.holds Tryd.pinned (OpenSpec.ofChange pageBackSpec)

/-- ITS FALSE NEIGHBOUR: 'it returns false'. Refute it at one input. -/
def pageBackWrong : ChangeSpec := { name := "pageBack", fn := fun _ => fun
  | [d1, d2, d3] => { results := [.lit (.bool false)], args := [d1, d2, d3] }
  | _ => none }
def PageBackWrongFalsely : Prop := pageBackRow.holds Tryd.pinned (OpenSpec.ofChange pageBackWrong)

/-- 'quadrigalaw11.PageBytes': WHATEVER THE INPUT: true; the input reads as it did. -/
def pageBytesSpec : ChangeSpec := { name := "pageBytes", fn := fun _ => fun
  | [d1, d2, d3] => { results := [.lit (.bool true)], args := [d1, d2, d3] }
  | _ => none }
def pageBytesRow : OpenClaim := { program := "ytcffibbdbalmjaadoor", sum := "20aa1730948787c707408a4e2b12da9e713acd58c1779efe3edae6d07ad462f5", func := "quadriga/quadrigalaw11.PageBytes", spec := "pageBytes", inPlace := ["slices.overlaps[quadriga/api.Cell]", "internal/abi.NoEscape", "internal/bytealg.MakeNoZero"], unfollowed := true, recurses := true, named := ["quadriga/sum.nibbles"], apart := false, laid := [("quadriga/sum.nibbles", laid_quadriga_sum_nibbles)] }
def PageBytesSaid : Prop := pageBytesRow.holds Tryd.pinned (OpenSpec.ofChange pageBytesSpec)

/-- ITS FALSE NEIGHBOUR: 'it returns false'. Refute it at one input. -/
def pageBytesWrong : ChangeSpec := { name := "pageBytes", fn := fun _ => fun
  | [d1, d2, d3] => { results := [.lit (.bool false)], args := [d1, d2, d3] }
  | _ => none }
def PageBytesWrongFalsely : Prop := pageBytesRow.holds Tryd.pinned (OpenSpec.ofChange pageBytesWrong)

/-- 'quadrigalaw06.AreaPlays': WHATEVER THE INPUT: true; the input reads as it did. -/
def areaPlaysSpec : ChangeSpec := { name := "areaPlays", fn := fun _ => fun
  | [d1, d2, d3, d4] => { results := [.lit (.bool true)], args := [d1, d2, d3, d4] }
  | _ => none }
def areaPlaysRow : OpenClaim := { program := "ytcffibbdbalmjaadoor", sum := "20aa1730948787c707408a4e2b12da9e713acd58c1779efe3edae6d07ad462f5", func := "quadriga/quadrigalaw06.AreaPlays", spec := "areaPlays", inPlace := ["internal/abi.NoEscape", "internal/bytealg.MakeNoZero", "internal/bytealg.IndexByteString", "internal/bytealg.IndexString"], unfollowed := true, recurses := true, named := ["unicode/utf8.first", "unicode/utf8.acceptRanges", "internal/bytealg.MaxLen"], apart := false, laid := [("unicode/utf8.acceptRanges", laid_unicode_utf8_acceptRanges), ("unicode/utf8.first", laid_unicode_utf8_first)] }
def AreaPlaysSaid : Prop := areaPlaysRow.holds Tryd.pinned (OpenSpec.ofChange areaPlaysSpec)

/-- ITS FALSE NEIGHBOUR: 'it returns false'. Refute it at one input. -/
def areaPlaysWrong : ChangeSpec := { name := "areaPlays", fn := fun _ => fun
  | [d1, d2, d3, d4] => { results := [.lit (.bool false)], args := [d1, d2, d3, d4] }
  | _ => none }
def AreaPlaysWrongFalsely : Prop := areaPlaysRow.holds Tryd.pinned (OpenSpec.ofChange areaPlaysWrong)

/- THE SECOND FORM. 'bulk': how many values and letters a reading holds, each counted each time it is reached (what is shared counts as often as it is met; a slice's spare places count too). A statement '..UptoSaid' is the law's where the arguments, and the package variables that the reading takes, are together of bulk at most 1048576: NARROWER than '..Said'. Prove '..Said' where nothing that the law and all that it calls make is longer than what came in: it says more and counts as full. Else prove '..UptoSaid'. A law counts once. -/
mutual
def uptoBulk {H : Type} : DataW H → Nat
  | .lit (.string bytes) => bytes.length + 1
  | .lit _ => 1
  | .nil => 1
  | .ptr d => uptoBulk d + 1
  | .slice elems spare => uptoBulkAll elems + uptoBulkAll spare + 1
  | .agg parts => uptoBulkAll parts + 1
  | .iface _ d => uptoBulk d + 1
  | .map entries => uptoBulkEntries entries + 1
  | .held _ => 1
def uptoBulkAll {H : Type} : List (DataW H) → Nat
  | [] => 0
  | d :: r => uptoBulk d + uptoBulkAll r
def uptoBulkEntries {H : Type} : List (Lit × DataW H) → Nat
  | [] => 0
  | x :: r => uptoBulkEntry x + uptoBulkEntries r
def uptoBulkEntry {H : Type} : Lit × DataW H → Nat
  | (.string bytes, d) => bytes.length + uptoBulk d + 1
  | (_, d) => uptoBulk d + 1
 end
def uptoSmall : (H : Type) → List (DataW H) → Bool := fun _ ds => decide (uptoBulkAll ds ≤ 1048576)
def OpenSpec.upto (s : _root_.Go.ChangeSpec) : _root_.Go.OpenSpec := { _root_.Go.OpenSpec.ofChange s with cond := some uptoSmall }

/-- 'quadrigalaw11.PageRights', WHERE WHAT IT READS IS OF BULK AT MOST 1048576: true; the input reads as it did. -/
def pageRightsUptoRow : OpenClaim := { program := "ytcffibbdbalmjaadoor", sum := "20aa1730948787c707408a4e2b12da9e713acd58c1779efe3edae6d07ad462f5", func := "quadriga/quadrigalaw11.PageRights", spec := "pageRights", inPlace := ["slices.overlaps[quadriga/api.Cell]", "internal/abi.NoEscape", "internal/bytealg.MakeNoZero"], unfollowed := true, recurses := true, named := ["quadriga/sum.nibbles"], apart := false, laid := [("quadriga/sum.nibbles", laid_quadriga_sum_nibbles)], narrowed := true }
def PageRightsUptoSaid : Prop := pageRightsUptoRow.holds Tryd.pinned (OpenSpec.upto pageRightsSpec)

/-- 'quadrigalaw11.PageSets', WHERE WHAT IT READS IS OF BULK AT MOST 1048576: true; the input reads as it did. -/
def pageSetsUptoRow : OpenClaim := { program := "ytcffibbdbalmjaadoor", sum := "20aa1730948787c707408a4e2b12da9e713acd58c1779efe3edae6d07ad462f5", func := "quadriga/quadrigalaw11.PageSets", spec := "pageSets", inPlace := ["slices.overlaps[quadriga/api.Cell]", "internal/abi.NoEscape", "internal/bytealg.MakeNoZero"], unfollowed := true, recurses := true, named := ["quadriga/sum.nibbles"], apart := false, laid := [("quadriga/sum.nibbles", laid_quadriga_sum_nibbles)], narrowed := true }
def PageSetsUptoSaid : Prop := pageSetsUptoRow.holds Tryd.pinned (OpenSpec.upto pageSetsSpec)

/-- 'quadrigalaw11.PageBack', WHERE WHAT IT READS IS OF BULK AT MOST 1048576: true; the input reads as it did. -/
def pageBackUptoRow : OpenClaim := { program := "ytcffibbdbalmjaadoor", sum := "20aa1730948787c707408a4e2b12da9e713acd58c1779efe3edae6d07ad462f5", func := "quadriga/quadrigalaw11.PageBack", spec := "pageBack", inPlace := ["slices.overlaps[quadriga/api.Cell]", "internal/abi.NoEscape", "internal/bytealg.MakeNoZero"], unfollowed := true, recurses := true, named := ["quadriga/sum.nibbles"], apart := false, laid := [("quadriga/sum.nibbles", laid_quadriga_sum_nibbles)], narrowed := true }
def PageBackUptoSaid : Prop := pageBackUptoRow.holds Tryd.pinned (OpenSpec.upto pageBackSpec)

/-- 'quadrigalaw11.PageBytes', WHERE WHAT IT READS IS OF BULK AT MOST 1048576: true; the input reads as it did. -/
def pageBytesUptoRow : OpenClaim := { program := "ytcffibbdbalmjaadoor", sum := "20aa1730948787c707408a4e2b12da9e713acd58c1779efe3edae6d07ad462f5", func := "quadriga/quadrigalaw11.PageBytes", spec := "pageBytes", inPlace := ["slices.overlaps[quadriga/api.Cell]", "internal/abi.NoEscape", "internal/bytealg.MakeNoZero"], unfollowed := true, recurses := true, named := ["quadriga/sum.nibbles"], apart := false, laid := [("quadriga/sum.nibbles", laid_quadriga_sum_nibbles)], narrowed := true }
def PageBytesUptoSaid : Prop := pageBytesUptoRow.holds Tryd.pinned (OpenSpec.upto pageBytesSpec)

/-- 'quadrigalaw06.AreaPlays', WHERE WHAT IT READS IS OF BULK AT MOST 1048576: true; the input reads as it did. -/
def areaPlaysUptoRow : OpenClaim := { program := "ytcffibbdbalmjaadoor", sum := "20aa1730948787c707408a4e2b12da9e713acd58c1779efe3edae6d07ad462f5", func := "quadriga/quadrigalaw06.AreaPlays", spec := "areaPlays", inPlace := ["internal/abi.NoEscape", "internal/bytealg.MakeNoZero", "internal/bytealg.IndexByteString", "internal/bytealg.IndexString"], unfollowed := true, recurses := true, named := ["unicode/utf8.first", "unicode/utf8.acceptRanges", "internal/bytealg.MaxLen"], apart := false, laid := [("unicode/utf8.acceptRanges", laid_unicode_utf8_acceptRanges), ("unicode/utf8.first", laid_unicode_utf8_first)], narrowed := true }
def AreaPlaysUptoSaid : Prop := areaPlaysUptoRow.holds Tryd.pinned (OpenSpec.upto areaPlaysSpec)

end Rows
end Go.Proofs.YtcffibbdbalmjaaDoor
