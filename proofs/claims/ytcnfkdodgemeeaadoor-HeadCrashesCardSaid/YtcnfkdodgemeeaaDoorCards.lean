/-
  DERIVED. GIVEN WITH THE SEED: THE CARDS: each row of YtcnfkdodgemeeaaDoorRows.lean that lists a variable, with what it lists TIED to the program's text (the seventh form; the later family's looks); each row that meets fmt, with fmt's text TOLD by the authors' own Lean function (tested against real Go, not proved from fmt's source: count such statements apart). THE CARD IS WHAT COUNTS. Prove the row's statement (the work); the ties are given (YtcnfkdodgemeeaaDoorTie.lean); close each card by the builder's one call (the guide's Derived/Test/ToyasCard.lean, 'card_holds'). Laid BY PROGRAM, IN A SANDBOX (cutbox-door.mjs). By AI agents, Wed Nov 11 2026. No macro, syntax, notation, axiom, sorry.
-/
import Derived.Test.YtcnfkdodgemeeaaDoorRows
import GoSem.ClaimSeven
namespace Go.Proofs.YtcnfkdodgemeeaaDoor
namespace Rows

/-- THE TIED CARD OF 'quadrigalaw07.HeadNone'. -/
def headNoneCard : Claim7 := { stood := { row := headNoneRow, standIns := [], harness := (true, "838c9cdcfd322a803a2fcefc282b1894923e5c5e06ac44ed7ddc6a2e733ab913"), looks := false }, kinds := [], alts := [], laidByText := true, laidKinds := [.data, .data, .pinned], laidTests := true, laidLooks := .later }
def HeadNoneCardSaid : Prop := Claim7.holds Tryd.pinned (.plain (OpenSpec.ofChange headNoneSpec)) headNoneCard

/-- THE TIED CARD OF 'quadrigalaw07.HeadCrashes'. -/
def headCrashesCard : Claim7 := { stood := { row := headCrashesRow, standIns := [], harness := (true, "838c9cdcfd322a803a2fcefc282b1894923e5c5e06ac44ed7ddc6a2e733ab913"), looks := false }, kinds := [], alts := [], laidByText := true, laidKinds := [.data, .data, .pinned], laidTests := true, laidLooks := .later }
def HeadCrashesCardSaid : Prop := Claim7.holds Tryd.pinned (.plain (OpenSpec.ofChange headCrashesSpec)) headCrashesCard

/-- THE SECOND FORM's CARD OF 'quadrigalaw07.HeadNone'. -/
def headNoneUptoCard : Claim7 := { stood := { row := headNoneUptoRow, standIns := [], harness := (true, "838c9cdcfd322a803a2fcefc282b1894923e5c5e06ac44ed7ddc6a2e733ab913"), looks := false }, kinds := [], alts := [], laidByText := true, laidKinds := [.data, .data, .pinned], laidTests := true, laidLooks := .later }
def HeadNoneUptoCardSaid : Prop := Claim7.holds Tryd.pinned (.plain (OpenSpec.upto headNoneSpec)) headNoneUptoCard

/-- THE SECOND FORM's CARD OF 'quadrigalaw07.HeadCrashes'. -/
def headCrashesUptoCard : Claim7 := { stood := { row := headCrashesUptoRow, standIns := [], harness := (true, "838c9cdcfd322a803a2fcefc282b1894923e5c5e06ac44ed7ddc6a2e733ab913"), looks := false }, kinds := [], alts := [], laidByText := true, laidKinds := [.data, .data, .pinned], laidTests := true, laidLooks := .later }
def HeadCrashesUptoCardSaid : Prop := Claim7.holds Tryd.pinned (.plain (OpenSpec.upto headCrashesSpec)) headCrashesUptoCard
end Rows
end Go.Proofs.YtcnfkdodgemeeaaDoor
