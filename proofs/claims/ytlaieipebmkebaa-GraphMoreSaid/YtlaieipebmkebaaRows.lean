/-
  No cell of these rows narrows 'for every input' (looked for: loops, veiled, ifaces, maps, wideKeys, modest, calm, conditions, laid).
  DERIVED. THE GIVEN ROWS OF THIS SEAT. 4 by the template 'for every input the law returns true; each argument reads behind the call as it read before'; 0 by the template 'total and deterministic' (their statements: YtlaieipebmkebaaTotals.lean).
  GIVEN WITH THE SEED: the statements are not yours to turn. If you find one false, say at which input.
  Laid BY PROGRAM, IN A SANDBOX (cutbox-rows.mjs): the forced cells as the released guide's own fill.sh prints them over the translation 2af7ab6b50d3e7f6… (all of the seat's roots in one cut). By AI agents, Wed Nov 11 2026. No macro, syntax, notation, axiom, sorry.
-/
import Derived.Test.YtlaieipebmkebaaChecked
import GoSem.Claim
import GoSem.ClaimJoined
import GoSem.ClaimMapViews
import Derived.JoinedTies
import Derived.KernelRfl
namespace Go.Proofs.Ytlaieipebmkebaa
/- THE CELL 'sum', in the pinned program and in every row, IS THE sha256 OF THE DUMP (.gsa) THAT YtlaieipebmkebaaProg.lean LOADS. Nothing in Lean hashes anything: it is a label: what it is worth is what the hold of that sum in a sandbox is worth. -/
noncomputable def Try.pinned : Pinned := { name := "ytlaieipebmkebaa", sum := "2af7ab6b50d3e7f6c04ff9b0a541640343bff0267c8c0fbd090d0ad71419c6b7", checked := Try.checked }
namespace Rows
def none {H : Type} : Left H := { results := [], args := [] }

/-- 'quadrigalaw15.GraphReaches': WHATEVER THE INPUT: true; the input reads as it did. -/
def graphReachesSpec : ChangeSpec := { name := "graphReaches", fn := fun _ => fun
  | [d1, d2] => { results := [.lit (.bool true)], args := [d1, d2] }
  | _ => none }
def graphReachesRow : OpenClaim := { program := "ytlaieipebmkebaa", sum := "2af7ab6b50d3e7f6c04ff9b0a541640343bff0267c8c0fbd090d0ad71419c6b7", func := "quadriga/quadrigalaw15.GraphReaches", spec := "graphReaches", inPlace := ["slices.overlaps[int]"], unfollowed := true, recurses := true, apart := false }
def GraphReachesSaid : Prop := graphReachesRow.holds Try.pinned (OpenSpec.ofChange graphReachesSpec)

/-- ITS FALSE NEIGHBOUR: 'it returns false'. Refute it at one input. -/
def graphReachesWrong : ChangeSpec := { name := "graphReaches", fn := fun _ => fun
  | [d1, d2] => { results := [.lit (.bool false)], args := [d1, d2] }
  | _ => none }
def GraphReachesWrongFalsely : Prop := graphReachesRow.holds Try.pinned (OpenSpec.ofChange graphReachesWrong)

/-- 'quadrigalaw15.GraphWays': WHATEVER THE INPUT: true; the input reads as it did. -/
def graphWaysSpec : ChangeSpec := { name := "graphWays", fn := fun _ => fun
  | [d1, d2, d3] => { results := [.lit (.bool true)], args := [d1, d2, d3] }
  | _ => none }
def graphWaysRow : OpenClaim := { program := "ytlaieipebmkebaa", sum := "2af7ab6b50d3e7f6c04ff9b0a541640343bff0267c8c0fbd090d0ad71419c6b7", func := "quadriga/quadrigalaw15.GraphWays", spec := "graphWays", inPlace := ["slices.overlaps[int]"], unfollowed := true, recurses := true, apart := false }
def GraphWaysSaid : Prop := graphWaysRow.holds Try.pinned (OpenSpec.ofChange graphWaysSpec)

/-- ITS FALSE NEIGHBOUR: 'it returns false'. Refute it at one input. -/
def graphWaysWrong : ChangeSpec := { name := "graphWays", fn := fun _ => fun
  | [d1, d2, d3] => { results := [.lit (.bool false)], args := [d1, d2, d3] }
  | _ => none }
def GraphWaysWrongFalsely : Prop := graphWaysRow.holds Try.pinned (OpenSpec.ofChange graphWaysWrong)

/-- 'quadrigalaw15.GraphStands': WHATEVER THE INPUT: true; the input reads as it did. -/
def graphStandsSpec : ChangeSpec := { name := "graphStands", fn := fun _ => fun
  | [d1, d2, d3] => { results := [.lit (.bool true)], args := [d1, d2, d3] }
  | _ => none }
def graphStandsRow : OpenClaim := { program := "ytlaieipebmkebaa", sum := "2af7ab6b50d3e7f6c04ff9b0a541640343bff0267c8c0fbd090d0ad71419c6b7", func := "quadriga/quadrigalaw15.GraphStands", spec := "graphStands", inPlace := ["slices.overlaps[int]"], unfollowed := true, recurses := true, apart := false }
def GraphStandsSaid : Prop := graphStandsRow.holds Try.pinned (OpenSpec.ofChange graphStandsSpec)

/-- ITS FALSE NEIGHBOUR: 'it returns false'. Refute it at one input. -/
def graphStandsWrong : ChangeSpec := { name := "graphStands", fn := fun _ => fun
  | [d1, d2, d3] => { results := [.lit (.bool false)], args := [d1, d2, d3] }
  | _ => none }
def GraphStandsWrongFalsely : Prop := graphStandsRow.holds Try.pinned (OpenSpec.ofChange graphStandsWrong)

/-- 'quadrigalaw15.GraphMore': WHATEVER THE INPUT: true; the input reads as it did. -/
def graphMoreSpec : ChangeSpec := { name := "graphMore", fn := fun _ => fun
  | [d1, d2, d3, d4] => { results := [.lit (.bool true)], args := [d1, d2, d3, d4] }
  | _ => none }
def graphMoreRow : OpenClaim := { program := "ytlaieipebmkebaa", sum := "2af7ab6b50d3e7f6c04ff9b0a541640343bff0267c8c0fbd090d0ad71419c6b7", func := "quadriga/quadrigalaw15.GraphMore", spec := "graphMore", inPlace := ["slices.overlaps[int]"], unfollowed := true, recurses := true, apart := false }
def GraphMoreSaid : Prop := graphMoreRow.holds Try.pinned (OpenSpec.ofChange graphMoreSpec)

/-- ITS FALSE NEIGHBOUR: 'it returns false'. Refute it at one input. -/
def graphMoreWrong : ChangeSpec := { name := "graphMore", fn := fun _ => fun
  | [d1, d2, d3, d4] => { results := [.lit (.bool false)], args := [d1, d2, d3, d4] }
  | _ => none }
def GraphMoreWrongFalsely : Prop := graphMoreRow.holds Try.pinned (OpenSpec.ofChange graphMoreWrong)

/- THE SECOND FORM. 'bulk': how many values and letters a reading holds, each counted each time it is reached (what is shared counts as often as it is met; a slice's spare places count too). A statement '..UptoSaid' is the law's where the arguments, and the package variables that the reading takes, are together of bulk at most 1048576: NARROWER than '..Said'. Prove '..Said' where nothing that the law and all that it calls make is longer than what came in: it says more and counts as full. Else prove '..UptoSaid'. A law counts once. -/
mutual
def uptoBulk {H : Type} : DataW H → Nat
  | .lit (.string bytes) => bytes.length + 1
  | .lit _ => 1
  | .nil => 1
  | .ptr d => uptoBulk d + 1
  | .slice elems spare => uptoBulkAll elems + uptoBulkAll spare + 1
  | .agg parts => uptoBulkAll parts + 1
  | .iface _ d => uptoBulk d + 1
  | .map entries => uptoBulkEntries entries + 1
  | .held _ => 1
def uptoBulkAll {H : Type} : List (DataW H) → Nat
  | [] => 0
  | d :: r => uptoBulk d + uptoBulkAll r
def uptoBulkEntries {H : Type} : List (Lit × DataW H) → Nat
  | [] => 0
  | x :: r => uptoBulkEntry x + uptoBulkEntries r
def uptoBulkEntry {H : Type} : Lit × DataW H → Nat
  | (.string bytes, d) => bytes.length + uptoBulk d + 1
  | (_, d) => uptoBulk d + 1
 end
def uptoSmall : (H : Type) → List (DataW H) → Bool := fun _ ds => decide (uptoBulkAll ds ≤ 1048576)
def OpenSpec.upto (s : _root_.Go.ChangeSpec) : _root_.Go.OpenSpec := { _root_.Go.OpenSpec.ofChange s with cond := some uptoSmall }

/-- 'quadrigalaw15.GraphReaches', WHERE WHAT IT READS IS OF BULK AT MOST 1048576: true; the input reads as it did. -/
def graphReachesUptoRow : OpenClaim := { program := "ytlaieipebmkebaa", sum := "2af7ab6b50d3e7f6c04ff9b0a541640343bff0267c8c0fbd090d0ad71419c6b7", func := "quadriga/quadrigalaw15.GraphReaches", spec := "graphReaches", inPlace := ["slices.overlaps[int]"], unfollowed := true, recurses := true, apart := false, narrowed := true }
def GraphReachesUptoSaid : Prop := graphReachesUptoRow.holds Try.pinned (OpenSpec.upto graphReachesSpec)

/-- 'quadrigalaw15.GraphWays', WHERE WHAT IT READS IS OF BULK AT MOST 1048576: true; the input reads as it did. -/
def graphWaysUptoRow : OpenClaim := { program := "ytlaieipebmkebaa", sum := "2af7ab6b50d3e7f6c04ff9b0a541640343bff0267c8c0fbd090d0ad71419c6b7", func := "quadriga/quadrigalaw15.GraphWays", spec := "graphWays", inPlace := ["slices.overlaps[int]"], unfollowed := true, recurses := true, apart := false, narrowed := true }
def GraphWaysUptoSaid : Prop := graphWaysUptoRow.holds Try.pinned (OpenSpec.upto graphWaysSpec)

/-- 'quadrigalaw15.GraphStands', WHERE WHAT IT READS IS OF BULK AT MOST 1048576: true; the input reads as it did. -/
def graphStandsUptoRow : OpenClaim := { program := "ytlaieipebmkebaa", sum := "2af7ab6b50d3e7f6c04ff9b0a541640343bff0267c8c0fbd090d0ad71419c6b7", func := "quadriga/quadrigalaw15.GraphStands", spec := "graphStands", inPlace := ["slices.overlaps[int]"], unfollowed := true, recurses := true, apart := false, narrowed := true }
def GraphStandsUptoSaid : Prop := graphStandsUptoRow.holds Try.pinned (OpenSpec.upto graphStandsSpec)

/-- 'quadrigalaw15.GraphMore', WHERE WHAT IT READS IS OF BULK AT MOST 1048576: true; the input reads as it did. -/
def graphMoreUptoRow : OpenClaim := { program := "ytlaieipebmkebaa", sum := "2af7ab6b50d3e7f6c04ff9b0a541640343bff0267c8c0fbd090d0ad71419c6b7", func := "quadriga/quadrigalaw15.GraphMore", spec := "graphMore", inPlace := ["slices.overlaps[int]"], unfollowed := true, recurses := true, apart := false, narrowed := true }
def GraphMoreUptoSaid : Prop := graphMoreUptoRow.holds Try.pinned (OpenSpec.upto graphMoreSpec)

end Rows
end Go.Proofs.Ytlaieipebmkebaa
