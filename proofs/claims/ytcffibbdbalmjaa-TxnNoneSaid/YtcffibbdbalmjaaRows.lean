/-
  No cell of these rows narrows 'for every input' (looked for: loops, veiled, ifaces, maps, wideKeys, modest, calm, conditions, laid).
  DERIVED. THE GIVEN ROWS OF THIS SEAT. 12 by the template 'for every input the law returns true; each argument reads behind the call as it read before'; 0 by the template 'total and deterministic' (their statements: YtcffibbdbalmjaaTotals.lean).
  GIVEN WITH THE SEED: the statements are not yours to turn. If you find one false, say at which input.
  Laid BY PROGRAM, IN A SANDBOX (cutbox-rows.mjs): the forced cells as the released guide's own fill.sh prints them over the translation 9578b0b4f28da69e… (all of the seat's roots in one cut). By AI agents, Wed Nov 11 2026. No macro, syntax, notation, axiom, sorry.
-/
import Derived.Test.YtcffibbdbalmjaaChecked
import GoSem.Claim
import GoSem.ClaimJoined
import GoSem.ClaimMapViews
import Derived.JoinedTies
import Derived.KernelRfl
namespace Go.Proofs.Ytcffibbdbalmjaa
/- THE CELL 'sum', in the pinned program and in every row, IS THE sha256 OF THE DUMP (.gsa) THAT YtcffibbdbalmjaaProg.lean LOADS. Nothing in Lean hashes anything: it is a label: what it is worth is what the hold of that sum in a sandbox is worth. -/
noncomputable def Try.pinned : Pinned := { name := "ytcffibbdbalmjaa", sum := "9578b0b4f28da69ef2f6fa0b6509e601a44cce3abfd3c9585f1cec80a21adeaf", checked := Try.checked }
namespace Rows
def none {H : Type} : Left H := { results := [], args := [] }

/-- 'quadrigalaw17.TxnOwn': WHATEVER THE INPUT: true; the input reads as it did. -/
def txnOwnSpec : ChangeSpec := { name := "txnOwn", fn := fun _ => fun
  | [d1, d2] => { results := [.lit (.bool true)], args := [d1, d2] }
  | _ => none }
def txnOwnRow : OpenClaim := { program := "ytcffibbdbalmjaa", sum := "9578b0b4f28da69ef2f6fa0b6509e601a44cce3abfd3c9585f1cec80a21adeaf", func := "quadriga/quadrigalaw17.TxnOwn", spec := "txnOwn", unfollowed := true, recurses := true, apart := false }
def TxnOwnSaid : Prop := txnOwnRow.holds Try.pinned (OpenSpec.ofChange txnOwnSpec)

/-- ITS FALSE NEIGHBOUR: 'it returns false'. Refute it at one input. -/
def txnOwnWrong : ChangeSpec := { name := "txnOwn", fn := fun _ => fun
  | [d1, d2] => { results := [.lit (.bool false)], args := [d1, d2] }
  | _ => none }
def TxnOwnWrongFalsely : Prop := txnOwnRow.holds Try.pinned (OpenSpec.ofChange txnOwnWrong)

/-- 'quadrigalaw17.TxnBack': WHATEVER THE INPUT: true; the input reads as it did. -/
def txnBackSpec : ChangeSpec := { name := "txnBack", fn := fun _ => fun
  | [d1, d2, d3] => { results := [.lit (.bool true)], args := [d1, d2, d3] }
  | _ => none }
def txnBackRow : OpenClaim := { program := "ytcffibbdbalmjaa", sum := "9578b0b4f28da69ef2f6fa0b6509e601a44cce3abfd3c9585f1cec80a21adeaf", func := "quadriga/quadrigalaw17.TxnBack", spec := "txnBack", unfollowed := true, recurses := true, apart := false }
def TxnBackSaid : Prop := txnBackRow.holds Try.pinned (OpenSpec.ofChange txnBackSpec)

/-- ITS FALSE NEIGHBOUR: 'it returns false'. Refute it at one input. -/
def txnBackWrong : ChangeSpec := { name := "txnBack", fn := fun _ => fun
  | [d1, d2, d3] => { results := [.lit (.bool false)], args := [d1, d2, d3] }
  | _ => none }
def TxnBackWrongFalsely : Prop := txnBackRow.holds Try.pinned (OpenSpec.ofChange txnBackWrong)

/-- 'quadrigalaw06.AreaApart': WHATEVER THE INPUT: true; the input reads as it did. -/
def areaApartSpec : ChangeSpec := { name := "areaApart", fn := fun _ => fun
  | [d1, d2, d3] => { results := [.lit (.bool true)], args := [d1, d2, d3] }
  | _ => none }
def areaApartRow : OpenClaim := { program := "ytcffibbdbalmjaa", sum := "9578b0b4f28da69ef2f6fa0b6509e601a44cce3abfd3c9585f1cec80a21adeaf", func := "quadriga/quadrigalaw06.AreaApart", spec := "areaApart", inPlace := ["internal/abi.NoEscape", "internal/bytealg.MakeNoZero"], apart := false }
def AreaApartSaid : Prop := areaApartRow.holds Try.pinned (OpenSpec.ofChange areaApartSpec)

/-- ITS FALSE NEIGHBOUR: 'it returns false'. Refute it at one input. -/
def areaApartWrong : ChangeSpec := { name := "areaApart", fn := fun _ => fun
  | [d1, d2, d3] => { results := [.lit (.bool false)], args := [d1, d2, d3] }
  | _ => none }
def AreaApartWrongFalsely : Prop := areaApartRow.holds Try.pinned (OpenSpec.ofChange areaApartWrong)

/-- 'quadrigalaw05.DeviceKeeps': WHATEVER THE INPUT: true; the input reads as it did. -/
def deviceKeepsSpec : ChangeSpec := { name := "deviceKeeps", fn := fun _ => fun
  | [d1, d2, d3] => { results := [.lit (.bool true)], args := [d1, d2, d3] }
  | _ => none }
def deviceKeepsRow : OpenClaim := { program := "ytcffibbdbalmjaa", sum := "9578b0b4f28da69ef2f6fa0b6509e601a44cce3abfd3c9585f1cec80a21adeaf", func := "quadriga/quadrigalaw05.DeviceKeeps", spec := "deviceKeeps", inPlace := ["internal/abi.NoEscape", "internal/bytealg.MakeNoZero"], unfollowed := true, recurses := true, apart := false }
def DeviceKeepsSaid : Prop := deviceKeepsRow.holds Try.pinned (OpenSpec.ofChange deviceKeepsSpec)

/-- ITS FALSE NEIGHBOUR: 'it returns false'. Refute it at one input. -/
def deviceKeepsWrong : ChangeSpec := { name := "deviceKeeps", fn := fun _ => fun
  | [d1, d2, d3] => { results := [.lit (.bool false)], args := [d1, d2, d3] }
  | _ => none }
def DeviceKeepsWrongFalsely : Prop := deviceKeepsRow.holds Try.pinned (OpenSpec.ofChange deviceKeepsWrong)

/-- 'quadrigalaw14.LockSafe': WHATEVER THE INPUT: true; the input reads as it did. -/
def lockSafeSpec : ChangeSpec := { name := "lockSafe", fn := fun _ => fun
  | [d] => { results := [.lit (.bool true)], args := [d] }
  | _ => none }
def lockSafeRow : OpenClaim := { program := "ytcffibbdbalmjaa", sum := "9578b0b4f28da69ef2f6fa0b6509e601a44cce3abfd3c9585f1cec80a21adeaf", func := "quadriga/quadrigalaw14.LockSafe", spec := "lockSafe", inPlace := ["slices.overlaps[quadriga/lock.place]"], unfollowed := true, recurses := true, apart := false }
def LockSafeSaid : Prop := lockSafeRow.holds Try.pinned (OpenSpec.ofChange lockSafeSpec)

/-- ITS FALSE NEIGHBOUR: 'it returns false'. Refute it at one input. -/
def lockSafeWrong : ChangeSpec := { name := "lockSafe", fn := fun _ => fun
  | [d] => { results := [.lit (.bool false)], args := [d] }
  | _ => none }
def LockSafeWrongFalsely : Prop := lockSafeRow.holds Try.pinned (OpenSpec.ofChange lockSafeWrong)

/-- 'quadrigalaw14.LockPlays': WHATEVER THE INPUT: true; the input reads as it did. -/
def lockPlaysSpec : ChangeSpec := { name := "lockPlays", fn := fun _ => fun
  | [d1, d2, d3] => { results := [.lit (.bool true)], args := [d1, d2, d3] }
  | _ => none }
def lockPlaysRow : OpenClaim := { program := "ytcffibbdbalmjaa", sum := "9578b0b4f28da69ef2f6fa0b6509e601a44cce3abfd3c9585f1cec80a21adeaf", func := "quadriga/quadrigalaw14.LockPlays", spec := "lockPlays", inPlace := ["slices.overlaps[quadriga/lock.place]"], unfollowed := true, recurses := true, apart := false }
def LockPlaysSaid : Prop := lockPlaysRow.holds Try.pinned (OpenSpec.ofChange lockPlaysSpec)

/-- ITS FALSE NEIGHBOUR: 'it returns false'. Refute it at one input. -/
def lockPlaysWrong : ChangeSpec := { name := "lockPlays", fn := fun _ => fun
  | [d1, d2, d3] => { results := [.lit (.bool false)], args := [d1, d2, d3] }
  | _ => none }
def LockPlaysWrongFalsely : Prop := lockPlaysRow.holds Try.pinned (OpenSpec.ofChange lockPlaysWrong)

/-- 'quadrigalaw14.LockNone': WHATEVER THE INPUT: true; the input reads as it did. -/
def lockNoneSpec : ChangeSpec := { name := "lockNone", fn := fun _ => fun
  | [d1, d2] => { results := [.lit (.bool true)], args := [d1, d2] }
  | _ => none }
def lockNoneRow : OpenClaim := { program := "ytcffibbdbalmjaa", sum := "9578b0b4f28da69ef2f6fa0b6509e601a44cce3abfd3c9585f1cec80a21adeaf", func := "quadriga/quadrigalaw14.LockNone", spec := "lockNone", inPlace := ["slices.overlaps[quadriga/lock.place]"], unfollowed := true, recurses := true, apart := false }
def LockNoneSaid : Prop := lockNoneRow.holds Try.pinned (OpenSpec.ofChange lockNoneSpec)

/-- ITS FALSE NEIGHBOUR: 'it returns false'. Refute it at one input. -/
def lockNoneWrong : ChangeSpec := { name := "lockNone", fn := fun _ => fun
  | [d1, d2] => { results := [.lit (.bool false)], args := [d1, d2] }
  | _ => none }
def LockNoneWrongFalsely : Prop := lockNoneRow.holds Try.pinned (OpenSpec.ofChange lockNoneWrong)

/-- 'quadrigalaw14.LockQuits': WHATEVER THE INPUT: true; the input reads as it did. -/
def lockQuitsSpec : ChangeSpec := { name := "lockQuits", fn := fun _ => fun
  | [d1, d2, d3, d4] => { results := [.lit (.bool true)], args := [d1, d2, d3, d4] }
  | _ => none }
def lockQuitsRow : OpenClaim := { program := "ytcffibbdbalmjaa", sum := "9578b0b4f28da69ef2f6fa0b6509e601a44cce3abfd3c9585f1cec80a21adeaf", func := "quadriga/quadrigalaw14.LockQuits", spec := "lockQuits", inPlace := ["slices.overlaps[quadriga/lock.place]"], unfollowed := true, recurses := true, apart := false }
def LockQuitsSaid : Prop := lockQuitsRow.holds Try.pinned (OpenSpec.ofChange lockQuitsSpec)

/-- ITS FALSE NEIGHBOUR: 'it returns false'. Refute it at one input. -/
def lockQuitsWrong : ChangeSpec := { name := "lockQuits", fn := fun _ => fun
  | [d1, d2, d3, d4] => { results := [.lit (.bool false)], args := [d1, d2, d3, d4] }
  | _ => none }
def LockQuitsWrongFalsely : Prop := lockQuitsRow.holds Try.pinned (OpenSpec.ofChange lockQuitsWrong)

/-- 'quadrigalaw05.DeviceApart': WHATEVER THE INPUT: true; the input reads as it did. -/
def deviceApartSpec : ChangeSpec := { name := "deviceApart", fn := fun _ => fun
  | [d1, d2] => { results := [.lit (.bool true)], args := [d1, d2] }
  | _ => none }
def deviceApartRow : OpenClaim := { program := "ytcffibbdbalmjaa", sum := "9578b0b4f28da69ef2f6fa0b6509e601a44cce3abfd3c9585f1cec80a21adeaf", func := "quadriga/quadrigalaw05.DeviceApart", spec := "deviceApart", inPlace := ["internal/abi.NoEscape", "internal/bytealg.MakeNoZero"], unfollowed := true, recurses := true, apart := false }
def DeviceApartSaid : Prop := deviceApartRow.holds Try.pinned (OpenSpec.ofChange deviceApartSpec)

/-- ITS FALSE NEIGHBOUR: 'it returns false'. Refute it at one input. -/
def deviceApartWrong : ChangeSpec := { name := "deviceApart", fn := fun _ => fun
  | [d1, d2] => { results := [.lit (.bool false)], args := [d1, d2] }
  | _ => none }
def DeviceApartWrongFalsely : Prop := deviceApartRow.holds Try.pinned (OpenSpec.ofChange deviceApartWrong)

/-- 'quadrigalaw05.DevicePlays': WHATEVER THE INPUT: true; the input reads as it did. -/
def devicePlaysSpec : ChangeSpec := { name := "devicePlays", fn := fun _ => fun
  | [d1, d2, d3] => { results := [.lit (.bool true)], args := [d1, d2, d3] }
  | _ => none }
def devicePlaysRow : OpenClaim := { program := "ytcffibbdbalmjaa", sum := "9578b0b4f28da69ef2f6fa0b6509e601a44cce3abfd3c9585f1cec80a21adeaf", func := "quadriga/quadrigalaw05.DevicePlays", spec := "devicePlays", inPlace := ["internal/abi.NoEscape", "internal/bytealg.MakeNoZero"], unfollowed := true, recurses := true, apart := false }
def DevicePlaysSaid : Prop := devicePlaysRow.holds Try.pinned (OpenSpec.ofChange devicePlaysSpec)

/-- ITS FALSE NEIGHBOUR: 'it returns false'. Refute it at one input. -/
def devicePlaysWrong : ChangeSpec := { name := "devicePlays", fn := fun _ => fun
  | [d1, d2, d3] => { results := [.lit (.bool false)], args := [d1, d2, d3] }
  | _ => none }
def DevicePlaysWrongFalsely : Prop := devicePlaysRow.holds Try.pinned (OpenSpec.ofChange devicePlaysWrong)

/-- 'quadrigalaw05.DeviceNone': WHATEVER THE INPUT: true; the input reads as it did. -/
def deviceNoneSpec : ChangeSpec := { name := "deviceNone", fn := fun _ => fun
  | [d] => { results := [.lit (.bool true)], args := [d] }
  | _ => none }
def deviceNoneRow : OpenClaim := { program := "ytcffibbdbalmjaa", sum := "9578b0b4f28da69ef2f6fa0b6509e601a44cce3abfd3c9585f1cec80a21adeaf", func := "quadriga/quadrigalaw05.DeviceNone", spec := "deviceNone", inPlace := ["internal/abi.NoEscape", "internal/bytealg.MakeNoZero"], unfollowed := true, recurses := true, apart := false }
def DeviceNoneSaid : Prop := deviceNoneRow.holds Try.pinned (OpenSpec.ofChange deviceNoneSpec)

/-- ITS FALSE NEIGHBOUR: 'it returns false'. Refute it at one input. -/
def deviceNoneWrong : ChangeSpec := { name := "deviceNone", fn := fun _ => fun
  | [d] => { results := [.lit (.bool false)], args := [d] }
  | _ => none }
def DeviceNoneWrongFalsely : Prop := deviceNoneRow.holds Try.pinned (OpenSpec.ofChange deviceNoneWrong)

/-- 'quadrigalaw17.TxnNone': WHATEVER THE INPUT: true; the input reads as it did. -/
def txnNoneSpec : ChangeSpec := { name := "txnNone", fn := fun _ => fun
  | [d1, d2] => { results := [.lit (.bool true)], args := [d1, d2] }
  | _ => none }
def txnNoneRow : OpenClaim := { program := "ytcffibbdbalmjaa", sum := "9578b0b4f28da69ef2f6fa0b6509e601a44cce3abfd3c9585f1cec80a21adeaf", func := "quadriga/quadrigalaw17.TxnNone", spec := "txnNone", unfollowed := true, recurses := true, apart := false }
def TxnNoneSaid : Prop := txnNoneRow.holds Try.pinned (OpenSpec.ofChange txnNoneSpec)

/-- ITS FALSE NEIGHBOUR: 'it returns false'. Refute it at one input. -/
def txnNoneWrong : ChangeSpec := { name := "txnNone", fn := fun _ => fun
  | [d1, d2] => { results := [.lit (.bool false)], args := [d1, d2] }
  | _ => none }
def TxnNoneWrongFalsely : Prop := txnNoneRow.holds Try.pinned (OpenSpec.ofChange txnNoneWrong)

/- THE SECOND FORM. 'bulk': how many values and letters a reading holds, each counted each time it is reached (what is shared counts as often as it is met; a slice's spare places count too). A statement '..UptoSaid' is the law's where the arguments, and the package variables that the reading takes, are together of bulk at most 1048576: NARROWER than '..Said'. Prove '..Said' where nothing that the law and all that it calls make is longer than what came in: it says more and counts as full. Else prove '..UptoSaid'. A law counts once. -/
mutual
def uptoBulk {H : Type} : DataW H → Nat
  | .lit (.string bytes) => bytes.length + 1
  | .lit _ => 1
  | .nil => 1
  | .ptr d => uptoBulk d + 1
  | .slice elems spare => uptoBulkAll elems + uptoBulkAll spare + 1
  | .agg parts => uptoBulkAll parts + 1
  | .iface _ d => uptoBulk d + 1
  | .map entries => uptoBulkEntries entries + 1
  | .held _ => 1
def uptoBulkAll {H : Type} : List (DataW H) → Nat
  | [] => 0
  | d :: r => uptoBulk d + uptoBulkAll r
def uptoBulkEntries {H : Type} : List (Lit × DataW H) → Nat
  | [] => 0
  | x :: r => uptoBulkEntry x + uptoBulkEntries r
def uptoBulkEntry {H : Type} : Lit × DataW H → Nat
  | (.string bytes, d) => bytes.length + uptoBulk d + 1
  | (_, d) => uptoBulk d + 1
 end
def uptoSmall : (H : Type) → List (DataW H) → Bool := fun _ ds => decide (uptoBulkAll ds ≤ 1048576)
def OpenSpec.upto (s : _root_.Go.ChangeSpec) : _root_.Go.OpenSpec := { _root_.Go.OpenSpec.ofChange s with cond := some uptoSmall }

/-- 'quadrigalaw17.TxnOwn', WHERE WHAT IT READS IS OF BULK AT MOST 1048576: true; the input reads as it did. -/
def txnOwnUptoRow : OpenClaim := { program := "ytcffibbdbalmjaa", sum := "9578b0b4f28da69ef2f6fa0b6509e601a44cce3abfd3c9585f1cec80a21adeaf", func := "quadriga/quadrigalaw17.TxnOwn", spec := "txnOwn", unfollowed := true, recurses := true, apart := false, narrowed := true }
def TxnOwnUptoSaid : Prop := txnOwnUptoRow.holds Try.pinned (OpenSpec.upto txnOwnSpec)

/-- 'quadrigalaw17.TxnBack', WHERE WHAT IT READS IS OF BULK AT MOST 1048576: true; the input reads as it did. -/
def txnBackUptoRow : OpenClaim := { program := "ytcffibbdbalmjaa", sum := "9578b0b4f28da69ef2f6fa0b6509e601a44cce3abfd3c9585f1cec80a21adeaf", func := "quadriga/quadrigalaw17.TxnBack", spec := "txnBack", unfollowed := true, recurses := true, apart := false, narrowed := true }
def TxnBackUptoSaid : Prop := txnBackUptoRow.holds Try.pinned (OpenSpec.upto txnBackSpec)

/-- 'quadrigalaw06.AreaApart', WHERE WHAT IT READS IS OF BULK AT MOST 1048576: true; the input reads as it did. -/
def areaApartUptoRow : OpenClaim := { program := "ytcffibbdbalmjaa", sum := "9578b0b4f28da69ef2f6fa0b6509e601a44cce3abfd3c9585f1cec80a21adeaf", func := "quadriga/quadrigalaw06.AreaApart", spec := "areaApart", inPlace := ["internal/abi.NoEscape", "internal/bytealg.MakeNoZero"], apart := false, narrowed := true }
def AreaApartUptoSaid : Prop := areaApartUptoRow.holds Try.pinned (OpenSpec.upto areaApartSpec)

/-- 'quadrigalaw05.DeviceKeeps', WHERE WHAT IT READS IS OF BULK AT MOST 1048576: true; the input reads as it did. -/
def deviceKeepsUptoRow : OpenClaim := { program := "ytcffibbdbalmjaa", sum := "9578b0b4f28da69ef2f6fa0b6509e601a44cce3abfd3c9585f1cec80a21adeaf", func := "quadriga/quadrigalaw05.DeviceKeeps", spec := "deviceKeeps", inPlace := ["internal/abi.NoEscape", "internal/bytealg.MakeNoZero"], unfollowed := true, recurses := true, apart := false, narrowed := true }
def DeviceKeepsUptoSaid : Prop := deviceKeepsUptoRow.holds Try.pinned (OpenSpec.upto deviceKeepsSpec)

/-- 'quadrigalaw14.LockSafe', WHERE WHAT IT READS IS OF BULK AT MOST 1048576: true; the input reads as it did. -/
def lockSafeUptoRow : OpenClaim := { program := "ytcffibbdbalmjaa", sum := "9578b0b4f28da69ef2f6fa0b6509e601a44cce3abfd3c9585f1cec80a21adeaf", func := "quadriga/quadrigalaw14.LockSafe", spec := "lockSafe", inPlace := ["slices.overlaps[quadriga/lock.place]"], unfollowed := true, recurses := true, apart := false, narrowed := true }
def LockSafeUptoSaid : Prop := lockSafeUptoRow.holds Try.pinned (OpenSpec.upto lockSafeSpec)

/-- 'quadrigalaw14.LockPlays', WHERE WHAT IT READS IS OF BULK AT MOST 1048576: true; the input reads as it did. -/
def lockPlaysUptoRow : OpenClaim := { program := "ytcffibbdbalmjaa", sum := "9578b0b4f28da69ef2f6fa0b6509e601a44cce3abfd3c9585f1cec80a21adeaf", func := "quadriga/quadrigalaw14.LockPlays", spec := "lockPlays", inPlace := ["slices.overlaps[quadriga/lock.place]"], unfollowed := true, recurses := true, apart := false, narrowed := true }
def LockPlaysUptoSaid : Prop := lockPlaysUptoRow.holds Try.pinned (OpenSpec.upto lockPlaysSpec)

/-- 'quadrigalaw14.LockNone', WHERE WHAT IT READS IS OF BULK AT MOST 1048576: true; the input reads as it did. -/
def lockNoneUptoRow : OpenClaim := { program := "ytcffibbdbalmjaa", sum := "9578b0b4f28da69ef2f6fa0b6509e601a44cce3abfd3c9585f1cec80a21adeaf", func := "quadriga/quadrigalaw14.LockNone", spec := "lockNone", inPlace := ["slices.overlaps[quadriga/lock.place]"], unfollowed := true, recurses := true, apart := false, narrowed := true }
def LockNoneUptoSaid : Prop := lockNoneUptoRow.holds Try.pinned (OpenSpec.upto lockNoneSpec)

/-- 'quadrigalaw14.LockQuits', WHERE WHAT IT READS IS OF BULK AT MOST 1048576: true; the input reads as it did. -/
def lockQuitsUptoRow : OpenClaim := { program := "ytcffibbdbalmjaa", sum := "9578b0b4f28da69ef2f6fa0b6509e601a44cce3abfd3c9585f1cec80a21adeaf", func := "quadriga/quadrigalaw14.LockQuits", spec := "lockQuits", inPlace := ["slices.overlaps[quadriga/lock.place]"], unfollowed := true, recurses := true, apart := false, narrowed := true }
def LockQuitsUptoSaid : Prop := lockQuitsUptoRow.holds Try.pinned (OpenSpec.upto lockQuitsSpec)

/-- 'quadrigalaw05.DeviceApart', WHERE WHAT IT READS IS OF BULK AT MOST 1048576: true; the input reads as it did. -/
def deviceApartUptoRow : OpenClaim := { program := "ytcffibbdbalmjaa", sum := "9578b0b4f28da69ef2f6fa0b6509e601a44cce3abfd3c9585f1cec80a21adeaf", func := "quadriga/quadrigalaw05.DeviceApart", spec := "deviceApart", inPlace := ["internal/abi.NoEscape", "internal/bytealg.MakeNoZero"], unfollowed := true, recurses := true, apart := false, narrowed := true }
def DeviceApartUptoSaid : Prop := deviceApartUptoRow.holds Try.pinned (OpenSpec.upto deviceApartSpec)

/-- 'quadrigalaw05.DevicePlays', WHERE WHAT IT READS IS OF BULK AT MOST 1048576: true; the input reads as it did. -/
def devicePlaysUptoRow : OpenClaim := { program := "ytcffibbdbalmjaa", sum := "9578b0b4f28da69ef2f6fa0b6509e601a44cce3abfd3c9585f1cec80a21adeaf", func := "quadriga/quadrigalaw05.DevicePlays", spec := "devicePlays", inPlace := ["internal/abi.NoEscape", "internal/bytealg.MakeNoZero"], unfollowed := true, recurses := true, apart := false, narrowed := true }
def DevicePlaysUptoSaid : Prop := devicePlaysUptoRow.holds Try.pinned (OpenSpec.upto devicePlaysSpec)

/-- 'quadrigalaw05.DeviceNone', WHERE WHAT IT READS IS OF BULK AT MOST 1048576: true; the input reads as it did. -/
def deviceNoneUptoRow : OpenClaim := { program := "ytcffibbdbalmjaa", sum := "9578b0b4f28da69ef2f6fa0b6509e601a44cce3abfd3c9585f1cec80a21adeaf", func := "quadriga/quadrigalaw05.DeviceNone", spec := "deviceNone", inPlace := ["internal/abi.NoEscape", "internal/bytealg.MakeNoZero"], unfollowed := true, recurses := true, apart := false, narrowed := true }
def DeviceNoneUptoSaid : Prop := deviceNoneUptoRow.holds Try.pinned (OpenSpec.upto deviceNoneSpec)

/-- 'quadrigalaw17.TxnNone', WHERE WHAT IT READS IS OF BULK AT MOST 1048576: true; the input reads as it did. -/
def txnNoneUptoRow : OpenClaim := { program := "ytcffibbdbalmjaa", sum := "9578b0b4f28da69ef2f6fa0b6509e601a44cce3abfd3c9585f1cec80a21adeaf", func := "quadriga/quadrigalaw17.TxnNone", spec := "txnNone", unfollowed := true, recurses := true, apart := false, narrowed := true }
def TxnNoneUptoSaid : Prop := txnNoneUptoRow.holds Try.pinned (OpenSpec.upto txnNoneSpec)

end Rows
end Go.Proofs.Ytcffibbdbalmjaa
