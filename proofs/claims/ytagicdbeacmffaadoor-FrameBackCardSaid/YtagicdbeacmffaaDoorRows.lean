/-
  NARROWER THAN 'FOR EVERY INPUT', by the rows' own cells (each row's printed sentence says how): SumOf: laid · SumTurned: laid · SumOpens: laid · SumParts: laid · FrameOpens: laid · FrameTurned: laid · FrameChains: laid · FrameBack: laid · FrameMakes: laid.
  DERIVED. THE GIVEN ROWS OF THIS SEAT. 9 by the template 'for every input the law returns true; each argument reads behind the call as it read before'; 0 by the template 'total and deterministic' (their statements: YtagicdbeacmffaaDoorTotals.lean).
  GIVEN WITH THE SEED: the statements are not yours to turn. If you find one false, say at which input.
  Laid BY PROGRAM, IN A SANDBOX (cutbox-rows.mjs): the forced cells as the released guide's own fill.sh prints them over the translation fc6b1ec9e02e530b… (all of the seat's roots in one cut). By AI agents, Wed Nov 11 2026. No macro, syntax, notation, axiom, sorry.
-/
import Derived.Test.YtagicdbeacmffaaDoorChecked
import GoSem.Claim
import GoSem.ClaimJoined
import GoSem.ClaimMapViews
import Derived.JoinedTies
import Derived.KernelRfl
namespace Go.Proofs.YtagicdbeacmffaaDoor
/- THE CELL 'sum', in the pinned program and in every row, IS THE sha256 OF THE DUMP (.gsa) THAT YtagicdbeacmffaaDoorProg.lean LOADS. Nothing in Lean hashes anything: it is a label: what it is worth is what the hold of that sum in a sandbox is worth. -/
noncomputable def Tryd.pinned : Pinned := { name := "ytagicdbeacmffaadoor", sum := "fc6b1ec9e02e530b36a638166e6ae334ed3ca56097dcbd7513088a8981620d48", checked := Tryd.checked }
namespace Rows
def none {H : Type} : Left H := { results := [], args := [] }

/- WHAT THE LISTED PACKAGE-LEVEL VARIABLES READ AS WHEN THE CALL BEGINS. Each datum BY PROGRAM (the guide's laid-datum.mjs) off the statement by which the dump's own 'gosem.cut.vars' lays the variable. In a bare row this is a premise. The card (YtagicdbeacmffaaDoorCards.lean) ties it to the program's text. -/
def laid_quadriga_sum_nibbles {H : Type} : DataW H := .agg [.lit (.int .u32 0), .lit (.int .u32 498536548), .lit (.int .u32 997073096), .lit (.int .u32 651767980), .lit (.int .u32 1994146192), .lit (.int .u32 1802195444), .lit (.int .u32 1303535960), .lit (.int .u32 1342533948), .lit (.int .u32 3988292384), .lit (.int .u32 4027552580), .lit (.int .u32 3604390888), .lit (.int .u32 3412177804), .lit (.int .u32 2607071920), .lit (.int .u32 2262029012), .lit (.int .u32 2685067896), .lit (.int .u32 3183342108)]

/-- 'quadrigalaw02.SumOf': WHATEVER THE INPUT: true; the input reads as it did. -/
def sumOfSpec : ChangeSpec := { name := "sumOf", fn := fun _ => fun
  | [d] => { results := [.lit (.bool true)], args := [d] }
  | _ => none }
def sumOfRow : OpenClaim := { program := "ytagicdbeacmffaadoor", sum := "fc6b1ec9e02e530b36a638166e6ae334ed3ca56097dcbd7513088a8981620d48", func := "quadriga/quadrigalaw02.SumOf", spec := "sumOf", inPlace := ["internal/abi.NoEscape", "internal/bytealg.MakeNoZero"], named := ["quadriga/sum.nibbles"], apart := false, laid := [("quadriga/sum.nibbles", laid_quadriga_sum_nibbles)] }
def SumOfSaid : Prop := sumOfRow.holds Tryd.pinned (OpenSpec.ofChange sumOfSpec)

/-- ITS FALSE NEIGHBOUR: 'it returns false'. Refute it at one input. -/
def sumOfWrong : ChangeSpec := { name := "sumOf", fn := fun _ => fun
  | [d] => { results := [.lit (.bool false)], args := [d] }
  | _ => none }
def SumOfWrongFalsely : Prop := sumOfRow.holds Tryd.pinned (OpenSpec.ofChange sumOfWrong)

/-- 'quadrigalaw02.SumTurned': WHATEVER THE INPUT: true; the input reads as it did. -/
def sumTurnedSpec : ChangeSpec := { name := "sumTurned", fn := fun _ => fun
  | [d1, d2, d3] => { results := [.lit (.bool true)], args := [d1, d2, d3] }
  | _ => none }
def sumTurnedRow : OpenClaim := { program := "ytagicdbeacmffaadoor", sum := "fc6b1ec9e02e530b36a638166e6ae334ed3ca56097dcbd7513088a8981620d48", func := "quadriga/quadrigalaw02.SumTurned", spec := "sumTurned", inPlace := ["internal/abi.NoEscape", "internal/bytealg.MakeNoZero"], named := ["quadriga/sum.nibbles"], apart := false, laid := [("quadriga/sum.nibbles", laid_quadriga_sum_nibbles)] }
def SumTurnedSaid : Prop := sumTurnedRow.holds Tryd.pinned (OpenSpec.ofChange sumTurnedSpec)

/-- ITS FALSE NEIGHBOUR: 'it returns false'. Refute it at one input. -/
def sumTurnedWrong : ChangeSpec := { name := "sumTurned", fn := fun _ => fun
  | [d1, d2, d3] => { results := [.lit (.bool false)], args := [d1, d2, d3] }
  | _ => none }
def SumTurnedWrongFalsely : Prop := sumTurnedRow.holds Tryd.pinned (OpenSpec.ofChange sumTurnedWrong)

/-- 'quadrigalaw02.SumOpens': WHATEVER THE INPUT: true; the input reads as it did. -/
def sumOpensSpec : ChangeSpec := { name := "sumOpens", fn := fun _ => fun
  | [d] => { results := [.lit (.bool true)], args := [d] }
  | _ => none }
def sumOpensRow : OpenClaim := { program := "ytagicdbeacmffaadoor", sum := "fc6b1ec9e02e530b36a638166e6ae334ed3ca56097dcbd7513088a8981620d48", func := "quadriga/quadrigalaw02.SumOpens", spec := "sumOpens", inPlace := ["internal/abi.NoEscape", "internal/bytealg.MakeNoZero"], named := ["quadriga/sum.nibbles"], apart := false, laid := [("quadriga/sum.nibbles", laid_quadriga_sum_nibbles)] }
def SumOpensSaid : Prop := sumOpensRow.holds Tryd.pinned (OpenSpec.ofChange sumOpensSpec)

/-- ITS FALSE NEIGHBOUR: 'it returns false'. Refute it at one input. -/
def sumOpensWrong : ChangeSpec := { name := "sumOpens", fn := fun _ => fun
  | [d] => { results := [.lit (.bool false)], args := [d] }
  | _ => none }
def SumOpensWrongFalsely : Prop := sumOpensRow.holds Tryd.pinned (OpenSpec.ofChange sumOpensWrong)

/-- 'quadrigalaw02.SumParts': WHATEVER THE INPUT: true; the input reads as it did. -/
def sumPartsSpec : ChangeSpec := { name := "sumParts", fn := fun _ => fun
  | [d1, d2] => { results := [.lit (.bool true)], args := [d1, d2] }
  | _ => none }
def sumPartsRow : OpenClaim := { program := "ytagicdbeacmffaadoor", sum := "fc6b1ec9e02e530b36a638166e6ae334ed3ca56097dcbd7513088a8981620d48", func := "quadriga/quadrigalaw02.SumParts", spec := "sumParts", inPlace := ["internal/abi.NoEscape", "internal/bytealg.MakeNoZero"], named := ["quadriga/sum.nibbles"], apart := false, laid := [("quadriga/sum.nibbles", laid_quadriga_sum_nibbles)] }
def SumPartsSaid : Prop := sumPartsRow.holds Tryd.pinned (OpenSpec.ofChange sumPartsSpec)

/-- ITS FALSE NEIGHBOUR: 'it returns false'. Refute it at one input. -/
def sumPartsWrong : ChangeSpec := { name := "sumParts", fn := fun _ => fun
  | [d1, d2] => { results := [.lit (.bool false)], args := [d1, d2] }
  | _ => none }
def SumPartsWrongFalsely : Prop := sumPartsRow.holds Tryd.pinned (OpenSpec.ofChange sumPartsWrong)

/-- 'quadrigalaw03.FrameOpens': WHATEVER THE INPUT: true; the input reads as it did. -/
def frameOpensSpec : ChangeSpec := { name := "frameOpens", fn := fun _ => fun
  | [d] => { results := [.lit (.bool true)], args := [d] }
  | _ => none }
def frameOpensRow : OpenClaim := { program := "ytagicdbeacmffaadoor", sum := "fc6b1ec9e02e530b36a638166e6ae334ed3ca56097dcbd7513088a8981620d48", func := "quadriga/quadrigalaw03.FrameOpens", spec := "frameOpens", inPlace := ["internal/abi.NoEscape", "internal/bytealg.MakeNoZero"], named := ["quadriga/sum.nibbles"], apart := false, laid := [("quadriga/sum.nibbles", laid_quadriga_sum_nibbles)] }
def FrameOpensSaid : Prop := frameOpensRow.holds Tryd.pinned (OpenSpec.ofChange frameOpensSpec)

/-- ITS FALSE NEIGHBOUR: 'it returns false'. Refute it at one input. -/
def frameOpensWrong : ChangeSpec := { name := "frameOpens", fn := fun _ => fun
  | [d] => { results := [.lit (.bool false)], args := [d] }
  | _ => none }
def FrameOpensWrongFalsely : Prop := frameOpensRow.holds Tryd.pinned (OpenSpec.ofChange frameOpensWrong)

/-- 'quadrigalaw03.FrameTurned': WHATEVER THE INPUT: true; the input reads as it did. -/
def frameTurnedSpec : ChangeSpec := { name := "frameTurned", fn := fun _ => fun
  | [d1, d2, d3] => { results := [.lit (.bool true)], args := [d1, d2, d3] }
  | _ => none }
def frameTurnedRow : OpenClaim := { program := "ytagicdbeacmffaadoor", sum := "fc6b1ec9e02e530b36a638166e6ae334ed3ca56097dcbd7513088a8981620d48", func := "quadriga/quadrigalaw03.FrameTurned", spec := "frameTurned", inPlace := ["internal/abi.NoEscape", "internal/bytealg.MakeNoZero"], named := ["quadriga/sum.nibbles"], apart := false, laid := [("quadriga/sum.nibbles", laid_quadriga_sum_nibbles)] }
def FrameTurnedSaid : Prop := frameTurnedRow.holds Tryd.pinned (OpenSpec.ofChange frameTurnedSpec)

/-- ITS FALSE NEIGHBOUR: 'it returns false'. Refute it at one input. -/
def frameTurnedWrong : ChangeSpec := { name := "frameTurned", fn := fun _ => fun
  | [d1, d2, d3] => { results := [.lit (.bool false)], args := [d1, d2, d3] }
  | _ => none }
def FrameTurnedWrongFalsely : Prop := frameTurnedRow.holds Tryd.pinned (OpenSpec.ofChange frameTurnedWrong)

/-- 'quadrigalaw03.FrameChains': WHATEVER THE INPUT: true; the input reads as it did. -/
def frameChainsSpec : ChangeSpec := { name := "frameChains", fn := fun _ => fun
  | [d1, d2, d3, d4, d5, d6] => { results := [.lit (.bool true)], args := [d1, d2, d3, d4, d5, d6] }
  | _ => none }
def frameChainsRow : OpenClaim := { program := "ytagicdbeacmffaadoor", sum := "fc6b1ec9e02e530b36a638166e6ae334ed3ca56097dcbd7513088a8981620d48", func := "quadriga/quadrigalaw03.FrameChains", spec := "frameChains", inPlace := ["internal/abi.NoEscape", "internal/bytealg.MakeNoZero"], named := ["quadriga/sum.nibbles"], apart := false, laid := [("quadriga/sum.nibbles", laid_quadriga_sum_nibbles)] }
def FrameChainsSaid : Prop := frameChainsRow.holds Tryd.pinned (OpenSpec.ofChange frameChainsSpec)

/-- ITS FALSE NEIGHBOUR: 'it returns false'. Refute it at one input. -/
def frameChainsWrong : ChangeSpec := { name := "frameChains", fn := fun _ => fun
  | [d1, d2, d3, d4, d5, d6] => { results := [.lit (.bool false)], args := [d1, d2, d3, d4, d5, d6] }
  | _ => none }
def FrameChainsWrongFalsely : Prop := frameChainsRow.holds Tryd.pinned (OpenSpec.ofChange frameChainsWrong)

/-- 'quadrigalaw03.FrameBack': WHATEVER THE INPUT: true; the input reads as it did. -/
def frameBackSpec : ChangeSpec := { name := "frameBack", fn := fun _ => fun
  | [d1, d2, d3, d4] => { results := [.lit (.bool true)], args := [d1, d2, d3, d4] }
  | _ => none }
def frameBackRow : OpenClaim := { program := "ytagicdbeacmffaadoor", sum := "fc6b1ec9e02e530b36a638166e6ae334ed3ca56097dcbd7513088a8981620d48", func := "quadriga/quadrigalaw03.FrameBack", spec := "frameBack", inPlace := ["internal/abi.NoEscape", "internal/bytealg.MakeNoZero"], named := ["quadriga/sum.nibbles"], apart := false, laid := [("quadriga/sum.nibbles", laid_quadriga_sum_nibbles)] }
def FrameBackSaid : Prop := frameBackRow.holds Tryd.pinned (OpenSpec.ofChange frameBackSpec)

/-- ITS FALSE NEIGHBOUR: 'it returns false'. Refute it at one input. -/
def frameBackWrong : ChangeSpec := { name := "frameBack", fn := fun _ => fun
  | [d1, d2, d3, d4] => { results := [.lit (.bool false)], args := [d1, d2, d3, d4] }
  | _ => none }
def FrameBackWrongFalsely : Prop := frameBackRow.holds Tryd.pinned (OpenSpec.ofChange frameBackWrong)

/-- 'quadrigalaw03.FrameMakes': WHATEVER THE INPUT: true; the input reads as it did. -/
def frameMakesSpec : ChangeSpec := { name := "frameMakes", fn := fun _ => fun
  | [d1, d2] => { results := [.lit (.bool true)], args := [d1, d2] }
  | _ => none }
def frameMakesRow : OpenClaim := { program := "ytagicdbeacmffaadoor", sum := "fc6b1ec9e02e530b36a638166e6ae334ed3ca56097dcbd7513088a8981620d48", func := "quadriga/quadrigalaw03.FrameMakes", spec := "frameMakes", inPlace := ["internal/abi.NoEscape", "internal/bytealg.MakeNoZero"], named := ["quadriga/sum.nibbles"], apart := false, laid := [("quadriga/sum.nibbles", laid_quadriga_sum_nibbles)] }
def FrameMakesSaid : Prop := frameMakesRow.holds Tryd.pinned (OpenSpec.ofChange frameMakesSpec)

/-- ITS FALSE NEIGHBOUR: 'it returns false'. Refute it at one input. -/
def frameMakesWrong : ChangeSpec := { name := "frameMakes", fn := fun _ => fun
  | [d1, d2] => { results := [.lit (.bool false)], args := [d1, d2] }
  | _ => none }
def FrameMakesWrongFalsely : Prop := frameMakesRow.holds Tryd.pinned (OpenSpec.ofChange frameMakesWrong)

/- THE SECOND FORM. 'bulk': how many values and letters a reading holds, each counted each time it is reached (what is shared counts as often as it is met; a slice's spare places count too). A statement '..UptoSaid' is the law's where the arguments, and the package variables that the reading takes, are together of bulk at most 1048576: NARROWER than '..Said'. Prove '..Said' where nothing that the law and all that it calls make is longer than what came in: it says more and counts as full. Else prove '..UptoSaid'. A law counts once. -/
mutual
def uptoBulk {H : Type} : DataW H → Nat
  | .lit (.string bytes) => bytes.length + 1
  | .lit _ => 1
  | .nil => 1
  | .ptr d => uptoBulk d + 1
  | .slice elems spare => uptoBulkAll elems + uptoBulkAll spare + 1
  | .agg parts => uptoBulkAll parts + 1
  | .iface _ d => uptoBulk d + 1
  | .map entries => uptoBulkEntries entries + 1
  | .held _ => 1
def uptoBulkAll {H : Type} : List (DataW H) → Nat
  | [] => 0
  | d :: r => uptoBulk d + uptoBulkAll r
def uptoBulkEntries {H : Type} : List (Lit × DataW H) → Nat
  | [] => 0
  | x :: r => uptoBulkEntry x + uptoBulkEntries r
def uptoBulkEntry {H : Type} : Lit × DataW H → Nat
  | (.string bytes, d) => bytes.length + uptoBulk d + 1
  | (_, d) => uptoBulk d + 1
 end
def uptoSmall : (H : Type) → List (DataW H) → Bool := fun _ ds => decide (uptoBulkAll ds ≤ 1048576)
def OpenSpec.upto (s : _root_.Go.ChangeSpec) : _root_.Go.OpenSpec := { _root_.Go.OpenSpec.ofChange s with cond := some uptoSmall }

/-- 'quadrigalaw02.SumOf', WHERE WHAT IT READS IS OF BULK AT MOST 1048576: true; the input reads as it did. -/
def sumOfUptoRow : OpenClaim := { program := "ytagicdbeacmffaadoor", sum := "fc6b1ec9e02e530b36a638166e6ae334ed3ca56097dcbd7513088a8981620d48", func := "quadriga/quadrigalaw02.SumOf", spec := "sumOf", inPlace := ["internal/abi.NoEscape", "internal/bytealg.MakeNoZero"], named := ["quadriga/sum.nibbles"], apart := false, laid := [("quadriga/sum.nibbles", laid_quadriga_sum_nibbles)], narrowed := true }
def SumOfUptoSaid : Prop := sumOfUptoRow.holds Tryd.pinned (OpenSpec.upto sumOfSpec)

/-- 'quadrigalaw02.SumTurned', WHERE WHAT IT READS IS OF BULK AT MOST 1048576: true; the input reads as it did. -/
def sumTurnedUptoRow : OpenClaim := { program := "ytagicdbeacmffaadoor", sum := "fc6b1ec9e02e530b36a638166e6ae334ed3ca56097dcbd7513088a8981620d48", func := "quadriga/quadrigalaw02.SumTurned", spec := "sumTurned", inPlace := ["internal/abi.NoEscape", "internal/bytealg.MakeNoZero"], named := ["quadriga/sum.nibbles"], apart := false, laid := [("quadriga/sum.nibbles", laid_quadriga_sum_nibbles)], narrowed := true }
def SumTurnedUptoSaid : Prop := sumTurnedUptoRow.holds Tryd.pinned (OpenSpec.upto sumTurnedSpec)

/-- 'quadrigalaw02.SumOpens', WHERE WHAT IT READS IS OF BULK AT MOST 1048576: true; the input reads as it did. -/
def sumOpensUptoRow : OpenClaim := { program := "ytagicdbeacmffaadoor", sum := "fc6b1ec9e02e530b36a638166e6ae334ed3ca56097dcbd7513088a8981620d48", func := "quadriga/quadrigalaw02.SumOpens", spec := "sumOpens", inPlace := ["internal/abi.NoEscape", "internal/bytealg.MakeNoZero"], named := ["quadriga/sum.nibbles"], apart := false, laid := [("quadriga/sum.nibbles", laid_quadriga_sum_nibbles)], narrowed := true }
def SumOpensUptoSaid : Prop := sumOpensUptoRow.holds Tryd.pinned (OpenSpec.upto sumOpensSpec)

/-- 'quadrigalaw02.SumParts', WHERE WHAT IT READS IS OF BULK AT MOST 1048576: true; the input reads as it did. -/
def sumPartsUptoRow : OpenClaim := { program := "ytagicdbeacmffaadoor", sum := "fc6b1ec9e02e530b36a638166e6ae334ed3ca56097dcbd7513088a8981620d48", func := "quadriga/quadrigalaw02.SumParts", spec := "sumParts", inPlace := ["internal/abi.NoEscape", "internal/bytealg.MakeNoZero"], named := ["quadriga/sum.nibbles"], apart := false, laid := [("quadriga/sum.nibbles", laid_quadriga_sum_nibbles)], narrowed := true }
def SumPartsUptoSaid : Prop := sumPartsUptoRow.holds Tryd.pinned (OpenSpec.upto sumPartsSpec)

/-- 'quadrigalaw03.FrameOpens', WHERE WHAT IT READS IS OF BULK AT MOST 1048576: true; the input reads as it did. -/
def frameOpensUptoRow : OpenClaim := { program := "ytagicdbeacmffaadoor", sum := "fc6b1ec9e02e530b36a638166e6ae334ed3ca56097dcbd7513088a8981620d48", func := "quadriga/quadrigalaw03.FrameOpens", spec := "frameOpens", inPlace := ["internal/abi.NoEscape", "internal/bytealg.MakeNoZero"], named := ["quadriga/sum.nibbles"], apart := false, laid := [("quadriga/sum.nibbles", laid_quadriga_sum_nibbles)], narrowed := true }
def FrameOpensUptoSaid : Prop := frameOpensUptoRow.holds Tryd.pinned (OpenSpec.upto frameOpensSpec)

/-- 'quadrigalaw03.FrameTurned', WHERE WHAT IT READS IS OF BULK AT MOST 1048576: true; the input reads as it did. -/
def frameTurnedUptoRow : OpenClaim := { program := "ytagicdbeacmffaadoor", sum := "fc6b1ec9e02e530b36a638166e6ae334ed3ca56097dcbd7513088a8981620d48", func := "quadriga/quadrigalaw03.FrameTurned", spec := "frameTurned", inPlace := ["internal/abi.NoEscape", "internal/bytealg.MakeNoZero"], named := ["quadriga/sum.nibbles"], apart := false, laid := [("quadriga/sum.nibbles", laid_quadriga_sum_nibbles)], narrowed := true }
def FrameTurnedUptoSaid : Prop := frameTurnedUptoRow.holds Tryd.pinned (OpenSpec.upto frameTurnedSpec)

/-- 'quadrigalaw03.FrameChains', WHERE WHAT IT READS IS OF BULK AT MOST 1048576: true; the input reads as it did. -/
def frameChainsUptoRow : OpenClaim := { program := "ytagicdbeacmffaadoor", sum := "fc6b1ec9e02e530b36a638166e6ae334ed3ca56097dcbd7513088a8981620d48", func := "quadriga/quadrigalaw03.FrameChains", spec := "frameChains", inPlace := ["internal/abi.NoEscape", "internal/bytealg.MakeNoZero"], named := ["quadriga/sum.nibbles"], apart := false, laid := [("quadriga/sum.nibbles", laid_quadriga_sum_nibbles)], narrowed := true }
def FrameChainsUptoSaid : Prop := frameChainsUptoRow.holds Tryd.pinned (OpenSpec.upto frameChainsSpec)

/-- 'quadrigalaw03.FrameBack', WHERE WHAT IT READS IS OF BULK AT MOST 1048576: true; the input reads as it did. -/
def frameBackUptoRow : OpenClaim := { program := "ytagicdbeacmffaadoor", sum := "fc6b1ec9e02e530b36a638166e6ae334ed3ca56097dcbd7513088a8981620d48", func := "quadriga/quadrigalaw03.FrameBack", spec := "frameBack", inPlace := ["internal/abi.NoEscape", "internal/bytealg.MakeNoZero"], named := ["quadriga/sum.nibbles"], apart := false, laid := [("quadriga/sum.nibbles", laid_quadriga_sum_nibbles)], narrowed := true }
def FrameBackUptoSaid : Prop := frameBackUptoRow.holds Tryd.pinned (OpenSpec.upto frameBackSpec)

/-- 'quadrigalaw03.FrameMakes', WHERE WHAT IT READS IS OF BULK AT MOST 1048576: true; the input reads as it did. -/
def frameMakesUptoRow : OpenClaim := { program := "ytagicdbeacmffaadoor", sum := "fc6b1ec9e02e530b36a638166e6ae334ed3ca56097dcbd7513088a8981620d48", func := "quadriga/quadrigalaw03.FrameMakes", spec := "frameMakes", inPlace := ["internal/abi.NoEscape", "internal/bytealg.MakeNoZero"], named := ["quadriga/sum.nibbles"], apart := false, laid := [("quadriga/sum.nibbles", laid_quadriga_sum_nibbles)], narrowed := true }
def FrameMakesUptoSaid : Prop := frameMakesUptoRow.holds Tryd.pinned (OpenSpec.upto frameMakesSpec)

end Rows
end Go.Proofs.YtagicdbeacmffaaDoor
