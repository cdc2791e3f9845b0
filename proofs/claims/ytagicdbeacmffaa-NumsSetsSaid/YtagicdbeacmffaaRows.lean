/-
  No cell of these rows narrows 'for every input' (looked for: loops, veiled, ifaces, maps, wideKeys, modest, calm, conditions, laid).
  DERIVED. THE GIVEN ROWS OF THIS SEAT. 8 by the template 'for every input the law returns true; each argument reads behind the call as it read before'; 0 by the template 'total and deterministic' (their statements: YtagicdbeacmffaaTotals.lean).
  GIVEN WITH THE SEED: the statements are not yours to turn. If you find one false, say at which input.
  Laid BY PROGRAM, IN A SANDBOX (cutbox-rows.mjs): the forced cells as the released guide's own fill.sh prints them over the translation 186d5fac76819a55… (all of the seat's roots in one cut). By AI agents, Wed Nov 11 2026. No macro, syntax, notation, axiom, sorry.
-/
import Derived.Test.YtagicdbeacmffaaChecked
import GoSem.Claim
import GoSem.ClaimJoined
import GoSem.ClaimMapViews
import Derived.JoinedTies
import Derived.KernelRfl
namespace Go.Proofs.Ytagicdbeacmffaa
/- THE CELL 'sum', in the pinned program and in every row, IS THE sha256 OF THE DUMP (.gsa) THAT YtagicdbeacmffaaProg.lean LOADS. Nothing in Lean hashes anything: it is a label: what it is worth is what the hold of that sum in a sandbox is worth. -/
noncomputable def Try.pinned : Pinned := { name := "ytagicdbeacmffaa", sum := "186d5fac76819a55537a32f03d6e1910e724598d602758140958626a1dae5587", checked := Try.checked }
namespace Rows
def none {H : Type} : Left H := { results := [], args := [] }

/-- 'quadrigalaw09.ClockRises': WHATEVER THE INPUT: true; the input reads as it did. -/
def clockRisesSpec : ChangeSpec := { name := "clockRises", fn := fun _ => fun
  | [d] => { results := [.lit (.bool true)], args := [d] }
  | _ => none }
def clockRisesRow : OpenClaim := { program := "ytagicdbeacmffaa", sum := "186d5fac76819a55537a32f03d6e1910e724598d602758140958626a1dae5587", func := "quadriga/quadrigalaw09.ClockRises", spec := "clockRises", apart := false }
def ClockRisesSaid : Prop := clockRisesRow.holds Try.pinned (OpenSpec.ofChange clockRisesSpec)

/-- ITS FALSE NEIGHBOUR: 'it returns false'. Refute it at one input. -/
def clockRisesWrong : ChangeSpec := { name := "clockRises", fn := fun _ => fun
  | [d] => { results := [.lit (.bool false)], args := [d] }
  | _ => none }
def ClockRisesWrongFalsely : Prop := clockRisesRow.holds Try.pinned (OpenSpec.ofChange clockRisesWrong)

/-- 'quadrigalaw09.ClockNone': WHATEVER THE INPUT: true; the input reads as it did. -/
def clockNoneSpec : ChangeSpec := { name := "clockNone", fn := fun _ => fun
  | [d] => { results := [.lit (.bool true)], args := [d] }
  | _ => none }
def clockNoneRow : OpenClaim := { program := "ytagicdbeacmffaa", sum := "186d5fac76819a55537a32f03d6e1910e724598d602758140958626a1dae5587", func := "quadriga/quadrigalaw09.ClockNone", spec := "clockNone", apart := false }
def ClockNoneSaid : Prop := clockNoneRow.holds Try.pinned (OpenSpec.ofChange clockNoneSpec)

/-- ITS FALSE NEIGHBOUR: 'it returns false'. Refute it at one input. -/
def clockNoneWrong : ChangeSpec := { name := "clockNone", fn := fun _ => fun
  | [d] => { results := [.lit (.bool false)], args := [d] }
  | _ => none }
def ClockNoneWrongFalsely : Prop := clockNoneRow.holds Try.pinned (OpenSpec.ofChange clockNoneWrong)

/-- 'quadrigalaw01.NumsRises': WHATEVER THE INPUT: true; the input reads as it did. -/
def numsRisesSpec : ChangeSpec := { name := "numsRises", fn := fun _ => fun
  | [d1, d2, d3] => { results := [.lit (.bool true)], args := [d1, d2, d3] }
  | _ => none }
def numsRisesRow : OpenClaim := { program := "ytagicdbeacmffaa", sum := "186d5fac76819a55537a32f03d6e1910e724598d602758140958626a1dae5587", func := "quadriga/quadrigalaw01.NumsRises", spec := "numsRises", inPlace := ["slices.overlaps[int]"], apart := false }
def NumsRisesSaid : Prop := numsRisesRow.holds Try.pinned (OpenSpec.ofChange numsRisesSpec)

/-- ITS FALSE NEIGHBOUR: 'it returns false'. Refute it at one input. -/
def numsRisesWrong : ChangeSpec := { name := "numsRises", fn := fun _ => fun
  | [d1, d2, d3] => { results := [.lit (.bool false)], args := [d1, d2, d3] }
  | _ => none }
def NumsRisesWrongFalsely : Prop := numsRisesRow.holds Try.pinned (OpenSpec.ofChange numsRisesWrong)

/-- 'quadrigalaw01.NumsLays': WHATEVER THE INPUT: true; the input reads as it did. -/
def numsLaysSpec : ChangeSpec := { name := "numsLays", fn := fun _ => fun
  | [d1, d2, d3, d4] => { results := [.lit (.bool true)], args := [d1, d2, d3, d4] }
  | _ => none }
def numsLaysRow : OpenClaim := { program := "ytagicdbeacmffaa", sum := "186d5fac76819a55537a32f03d6e1910e724598d602758140958626a1dae5587", func := "quadriga/quadrigalaw01.NumsLays", spec := "numsLays", inPlace := ["slices.overlaps[int]"], apart := false }
def NumsLaysSaid : Prop := numsLaysRow.holds Try.pinned (OpenSpec.ofChange numsLaysSpec)

/-- ITS FALSE NEIGHBOUR: 'it returns false'. Refute it at one input. -/
def numsLaysWrong : ChangeSpec := { name := "numsLays", fn := fun _ => fun
  | [d1, d2, d3, d4] => { results := [.lit (.bool false)], args := [d1, d2, d3, d4] }
  | _ => none }
def NumsLaysWrongFalsely : Prop := numsLaysRow.holds Try.pinned (OpenSpec.ofChange numsLaysWrong)

/-- 'quadrigalaw01.NumsBack': WHATEVER THE INPUT: true; the input reads as it did. -/
def numsBackSpec : ChangeSpec := { name := "numsBack", fn := fun _ => fun
  | [d1, d2, d3] => { results := [.lit (.bool true)], args := [d1, d2, d3] }
  | _ => none }
def numsBackRow : OpenClaim := { program := "ytagicdbeacmffaa", sum := "186d5fac76819a55537a32f03d6e1910e724598d602758140958626a1dae5587", func := "quadriga/quadrigalaw01.NumsBack", spec := "numsBack", inPlace := ["slices.overlaps[int]"], apart := false }
def NumsBackSaid : Prop := numsBackRow.holds Try.pinned (OpenSpec.ofChange numsBackSpec)

/-- ITS FALSE NEIGHBOUR: 'it returns false'. Refute it at one input. -/
def numsBackWrong : ChangeSpec := { name := "numsBack", fn := fun _ => fun
  | [d1, d2, d3] => { results := [.lit (.bool false)], args := [d1, d2, d3] }
  | _ => none }
def NumsBackWrongFalsely : Prop := numsBackRow.holds Try.pinned (OpenSpec.ofChange numsBackWrong)

/-- 'quadrigalaw01.NumsEnds': WHATEVER THE INPUT: true; the input reads as it did. -/
def numsEndsSpec : ChangeSpec := { name := "numsEnds", fn := fun _ => fun
  | [d1, d2] => { results := [.lit (.bool true)], args := [d1, d2] }
  | _ => none }
def numsEndsRow : OpenClaim := { program := "ytagicdbeacmffaa", sum := "186d5fac76819a55537a32f03d6e1910e724598d602758140958626a1dae5587", func := "quadriga/quadrigalaw01.NumsEnds", spec := "numsEnds", inPlace := ["slices.overlaps[int]"], apart := false }
def NumsEndsSaid : Prop := numsEndsRow.holds Try.pinned (OpenSpec.ofChange numsEndsSpec)

/-- ITS FALSE NEIGHBOUR: 'it returns false'. Refute it at one input. -/
def numsEndsWrong : ChangeSpec := { name := "numsEnds", fn := fun _ => fun
  | [d1, d2] => { results := [.lit (.bool false)], args := [d1, d2] }
  | _ => none }
def NumsEndsWrongFalsely : Prop := numsEndsRow.holds Try.pinned (OpenSpec.ofChange numsEndsWrong)

/-- 'quadrigalaw01.NumsSets': WHATEVER THE INPUT: true; the input reads as it did. -/
def numsSetsSpec : ChangeSpec := { name := "numsSets", fn := fun _ => fun
  | [d1, d2, d3, d4] => { results := [.lit (.bool true)], args := [d1, d2, d3, d4] }
  | _ => none }
def numsSetsRow : OpenClaim := { program := "ytagicdbeacmffaa", sum := "186d5fac76819a55537a32f03d6e1910e724598d602758140958626a1dae5587", func := "quadriga/quadrigalaw01.NumsSets", spec := "numsSets", inPlace := ["slices.overlaps[int]"], apart := false }
def NumsSetsSaid : Prop := numsSetsRow.holds Try.pinned (OpenSpec.ofChange numsSetsSpec)

/-- ITS FALSE NEIGHBOUR: 'it returns false'. Refute it at one input. -/
def numsSetsWrong : ChangeSpec := { name := "numsSets", fn := fun _ => fun
  | [d1, d2, d3, d4] => { results := [.lit (.bool false)], args := [d1, d2, d3, d4] }
  | _ => none }
def NumsSetsWrongFalsely : Prop := numsSetsRow.holds Try.pinned (OpenSpec.ofChange numsSetsWrong)

/-- 'quadrigalaw01.NumsNone': WHATEVER THE INPUT: true; the input reads as it did. -/
def numsNoneSpec : ChangeSpec := { name := "numsNone", fn := fun _ => fun
  | [d] => { results := [.lit (.bool true)], args := [d] }
  | _ => none }
def numsNoneRow : OpenClaim := { program := "ytagicdbeacmffaa", sum := "186d5fac76819a55537a32f03d6e1910e724598d602758140958626a1dae5587", func := "quadriga/quadrigalaw01.NumsNone", spec := "numsNone", inPlace := ["slices.overlaps[int]"], apart := false }
def NumsNoneSaid : Prop := numsNoneRow.holds Try.pinned (OpenSpec.ofChange numsNoneSpec)

/-- ITS FALSE NEIGHBOUR: 'it returns false'. Refute it at one input. -/
def numsNoneWrong : ChangeSpec := { name := "numsNone", fn := fun _ => fun
  | [d] => { results := [.lit (.bool false)], args := [d] }
  | _ => none }
def NumsNoneWrongFalsely : Prop := numsNoneRow.holds Try.pinned (OpenSpec.ofChange numsNoneWrong)

/- THE SECOND FORM. 'bulk': how many values and letters a reading holds, each counted each time it is reached (what is shared counts as often as it is met; a slice's spare places count too). A statement '..UptoSaid' is the law's where the arguments, and the package variables that the reading takes, are together of bulk at most 1048576: NARROWER than '..Said'. Prove '..Said' where nothing that the law and all that it calls make is longer than what came in: it says more and counts as full. Else prove '..UptoSaid'. A law counts once. -/
mutual
def uptoBulk {H : Type} : DataW H → Nat
  | .lit (.string bytes) => bytes.length + 1
  | .lit _ => 1
  | .nil => 1
  | .ptr d => uptoBulk d + 1
  | .slice elems spare => uptoBulkAll elems + uptoBulkAll spare + 1
  | .agg parts => uptoBulkAll parts + 1
  | .iface _ d => uptoBulk d + 1
  | .map entries => uptoBulkEntries entries + 1
  | .held _ => 1
def uptoBulkAll {H : Type} : List (DataW H) → Nat
  | [] => 0
  | d :: r => uptoBulk d + uptoBulkAll r
def uptoBulkEntries {H : Type} : List (Lit × DataW H) → Nat
  | [] => 0
  | x :: r => uptoBulkEntry x + uptoBulkEntries r
def uptoBulkEntry {H : Type} : Lit × DataW H → Nat
  | (.string bytes, d) => bytes.length + uptoBulk d + 1
  | (_, d) => uptoBulk d + 1
 end
def uptoSmall : (H : Type) → List (DataW H) → Bool := fun _ ds => decide (uptoBulkAll ds ≤ 1048576)
def OpenSpec.upto (s : _root_.Go.ChangeSpec) : _root_.Go.OpenSpec := { _root_.Go.OpenSpec.ofChange s with cond := some uptoSmall }

/-- 'quadrigalaw09.ClockRises', WHERE WHAT IT READS IS OF BULK AT MOST 1048576: true; the input reads as it did. -/
def clockRisesUptoRow : OpenClaim := { program := "ytagicdbeacmffaa", sum := "186d5fac76819a55537a32f03d6e1910e724598d602758140958626a1dae5587", func := "quadriga/quadrigalaw09.ClockRises", spec := "clockRises", apart := false, narrowed := true }
def ClockRisesUptoSaid : Prop := clockRisesUptoRow.holds Try.pinned (OpenSpec.upto clockRisesSpec)

/-- 'quadrigalaw09.ClockNone', WHERE WHAT IT READS IS OF BULK AT MOST 1048576: true; the input reads as it did. -/
def clockNoneUptoRow : OpenClaim := { program := "ytagicdbeacmffaa", sum := "186d5fac76819a55537a32f03d6e1910e724598d602758140958626a1dae5587", func := "quadriga/quadrigalaw09.ClockNone", spec := "clockNone", apart := false, narrowed := true }
def ClockNoneUptoSaid : Prop := clockNoneUptoRow.holds Try.pinned (OpenSpec.upto clockNoneSpec)

/-- 'quadrigalaw01.NumsRises', WHERE WHAT IT READS IS OF BULK AT MOST 1048576: true; the input reads as it did. -/
def numsRisesUptoRow : OpenClaim := { program := "ytagicdbeacmffaa", sum := "186d5fac76819a55537a32f03d6e1910e724598d602758140958626a1dae5587", func := "quadriga/quadrigalaw01.NumsRises", spec := "numsRises", inPlace := ["slices.overlaps[int]"], apart := false, narrowed := true }
def NumsRisesUptoSaid : Prop := numsRisesUptoRow.holds Try.pinned (OpenSpec.upto numsRisesSpec)

/-- 'quadrigalaw01.NumsLays', WHERE WHAT IT READS IS OF BULK AT MOST 1048576: true; the input reads as it did. -/
def numsLaysUptoRow : OpenClaim := { program := "ytagicdbeacmffaa", sum := "186d5fac76819a55537a32f03d6e1910e724598d602758140958626a1dae5587", func := "quadriga/quadrigalaw01.NumsLays", spec := "numsLays", inPlace := ["slices.overlaps[int]"], apart := false, narrowed := true }
def NumsLaysUptoSaid : Prop := numsLaysUptoRow.holds Try.pinned (OpenSpec.upto numsLaysSpec)

/-- 'quadrigalaw01.NumsBack', WHERE WHAT IT READS IS OF BULK AT MOST 1048576: true; the input reads as it did. -/
def numsBackUptoRow : OpenClaim := { program := "ytagicdbeacmffaa", sum := "186d5fac76819a55537a32f03d6e1910e724598d602758140958626a1dae5587", func := "quadriga/quadrigalaw01.NumsBack", spec := "numsBack", inPlace := ["slices.overlaps[int]"], apart := false, narrowed := true }
def NumsBackUptoSaid : Prop := numsBackUptoRow.holds Try.pinned (OpenSpec.upto numsBackSpec)

/-- 'quadrigalaw01.NumsEnds', WHERE WHAT IT READS IS OF BULK AT MOST 1048576: true; the input reads as it did. -/
def numsEndsUptoRow : OpenClaim := { program := "ytagicdbeacmffaa", sum := "186d5fac76819a55537a32f03d6e1910e724598d602758140958626a1dae5587", func := "quadriga/quadrigalaw01.NumsEnds", spec := "numsEnds", inPlace := ["slices.overlaps[int]"], apart := false, narrowed := true }
def NumsEndsUptoSaid : Prop := numsEndsUptoRow.holds Try.pinned (OpenSpec.upto numsEndsSpec)

/-- 'quadrigalaw01.NumsSets', WHERE WHAT IT READS IS OF BULK AT MOST 1048576: true; the input reads as it did. -/
def numsSetsUptoRow : OpenClaim := { program := "ytagicdbeacmffaa", sum := "186d5fac76819a55537a32f03d6e1910e724598d602758140958626a1dae5587", func := "quadriga/quadrigalaw01.NumsSets", spec := "numsSets", inPlace := ["slices.overlaps[int]"], apart := false, narrowed := true }
def NumsSetsUptoSaid : Prop := numsSetsUptoRow.holds Try.pinned (OpenSpec.upto numsSetsSpec)

/-- 'quadrigalaw01.NumsNone', WHERE WHAT IT READS IS OF BULK AT MOST 1048576: true; the input reads as it did. -/
def numsNoneUptoRow : OpenClaim := { program := "ytagicdbeacmffaa", sum := "186d5fac76819a55537a32f03d6e1910e724598d602758140958626a1dae5587", func := "quadriga/quadrigalaw01.NumsNone", spec := "numsNone", inPlace := ["slices.overlaps[int]"], apart := false, narrowed := true }
def NumsNoneUptoSaid : Prop := numsNoneUptoRow.holds Try.pinned (OpenSpec.upto numsNoneSpec)

end Rows
end Go.Proofs.Ytagicdbeacmffaa
