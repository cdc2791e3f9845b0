/-
  DERIVED. GIVEN WITH THE SEED: THE CARDS: each row of YtcnfkdodgemeeaaGreatDoorRows.lean that lists a variable, with what it lists TIED to the program's text (the seventh form; the later family's looks); each row that meets fmt, with fmt's text TOLD by the authors' own Lean function (tested against real Go, not proved from fmt's source: count such statements apart). THE CARD IS WHAT COUNTS. Prove the row's statement (the work); the ties are given (YtcnfkdodgemeeaaGreatDoorTie.lean); close each card by the builder's one call (the guide's Derived/Test/ToyasCard.lean, 'card_holds'). Laid BY PROGRAM, IN A SANDBOX (cutbox-door.mjs). By AI agents, Wed Nov 11 2026. No macro, syntax, notation, axiom, sorry.
-/
import Derived.Test.YtcnfkdodgemeeaaGreatDoorRows
import GoSem.ClaimSeven
namespace Go.Proofs.YtcnfkdodgemeeaaGreatDoor
namespace Rows

/-- THE TIED CARD OF 'quadrigalaw07.HeadBytes'. -/
def headBytesCard : Claim7 := { stood := { row := headBytesRow, standIns := [], harness := (true, "5390e9c87ac42d5c432a7507b4b6a6ff856a3e8347a45776eccce8787079d741"), looks := false }, kinds := [], alts := [], laidByText := true, laidKinds := [.data, .data, .pinned], laidTests := true, laidLooks := .later }
def HeadBytesCardSaid : Prop := Claim7.holds Tryz.pinned (.plain (OpenSpec.ofChange headBytesSpec)) headBytesCard

/-- THE TIED CARD OF 'quadrigalaw07.HeadLoads'. -/
def headLoadsCard : Claim7 := { stood := { row := headLoadsRow, standIns := [], harness := (true, "5390e9c87ac42d5c432a7507b4b6a6ff856a3e8347a45776eccce8787079d741"), looks := false }, kinds := [], alts := [], laidByText := true, laidKinds := [.data, .data, .pinned], laidTests := true, laidLooks := .later }
def HeadLoadsCardSaid : Prop := Claim7.holds Tryz.pinned (.plain (OpenSpec.ofChange headLoadsSpec)) headLoadsCard

/-- THE TIED CARD OF 'quadrigalaw19.PointLows'. -/
def pointLowsCard : Claim7 := { stood := { row := pointLowsRow, standIns := [], harness := (true, "5390e9c87ac42d5c432a7507b4b6a6ff856a3e8347a45776eccce8787079d741"), looks := false }, kinds := [], alts := [], laidByText := true, laidKinds := [.data, .data, .pinned], laidTests := true, laidLooks := .later }
def PointLowsCardSaid : Prop := Claim7.holds Tryz.pinned (.plain (OpenSpec.ofChange pointLowsSpec)) pointLowsCard

/-- THE TIED CARD OF 'quadrigalaw19.PointNone'. -/
def pointNoneCard : Claim7 := { stood := { row := pointNoneRow, standIns := [], harness := (true, "5390e9c87ac42d5c432a7507b4b6a6ff856a3e8347a45776eccce8787079d741"), looks := false }, kinds := [], alts := [], laidByText := true, laidKinds := [.data, .data, .pinned], laidTests := true, laidLooks := .later }
def PointNoneCardSaid : Prop := Claim7.holds Tryz.pinned (.plain (OpenSpec.ofChange pointNoneSpec)) pointNoneCard

/-- THE TIED CARD OF 'quadrigalaw19.PointKeeps'. -/
def pointKeepsCard : Claim7 := { stood := { row := pointKeepsRow, standIns := [], harness := (true, "5390e9c87ac42d5c432a7507b4b6a6ff856a3e8347a45776eccce8787079d741"), looks := false }, kinds := [], alts := [], laidByText := true, laidKinds := [.data, .data, .pinned], laidTests := true, laidLooks := .later }
def PointKeepsCardSaid : Prop := Claim7.holds Tryz.pinned (.plain (OpenSpec.ofChange pointKeepsSpec)) pointKeepsCard

/-- THE TIED CARD OF 'quadrigalaw19.PointCrashes'. -/
def pointCrashesCard : Claim7 := { stood := { row := pointCrashesRow, standIns := [], harness := (true, "5390e9c87ac42d5c432a7507b4b6a6ff856a3e8347a45776eccce8787079d741"), looks := false }, kinds := [], alts := [], laidByText := true, laidKinds := [.data, .data, .pinned], laidTests := true, laidLooks := .later }
def PointCrashesCardSaid : Prop := Claim7.holds Tryz.pinned (.plain (OpenSpec.ofChange pointCrashesSpec)) pointCrashesCard

/-- THE SECOND FORM's CARD OF 'quadrigalaw07.HeadBytes'. -/
def headBytesUptoCard : Claim7 := { stood := { row := headBytesUptoRow, standIns := [], harness := (true, "5390e9c87ac42d5c432a7507b4b6a6ff856a3e8347a45776eccce8787079d741"), looks := false }, kinds := [], alts := [], laidByText := true, laidKinds := [.data, .data, .pinned], laidTests := true, laidLooks := .later }
def HeadBytesUptoCardSaid : Prop := Claim7.holds Tryz.pinned (.plain (OpenSpec.upto headBytesSpec)) headBytesUptoCard

/-- THE SECOND FORM's CARD OF 'quadrigalaw07.HeadLoads'. -/
def headLoadsUptoCard : Claim7 := { stood := { row := headLoadsUptoRow, standIns := [], harness := (true, "5390e9c87ac42d5c432a7507b4b6a6ff856a3e8347a45776eccce8787079d741"), looks := false }, kinds := [], alts := [], laidByText := true, laidKinds := [.data, .data, .pinned], laidTests := true, laidLooks := .later }
def HeadLoadsUptoCardSaid : Prop := Claim7.holds Tryz.pinned (.plain (OpenSpec.upto headLoadsSpec)) headLoadsUptoCard

/-- THE SECOND FORM's CARD OF 'quadrigalaw19.PointLows'. -/
def pointLowsUptoCard : Claim7 := { stood := { row := pointLowsUptoRow, standIns := [], harness := (true, "5390e9c87ac42d5c432a7507b4b6a6ff856a3e8347a45776eccce8787079d741"), looks := false }, kinds := [], alts := [], laidByText := true, laidKinds := [.data, .data, .pinned], laidTests := true, laidLooks := .later }
def PointLowsUptoCardSaid : Prop := Claim7.holds Tryz.pinned (.plain (OpenSpec.upto pointLowsSpec)) pointLowsUptoCard

/-- THE SECOND FORM's CARD OF 'quadrigalaw19.PointNone'. -/
def pointNoneUptoCard : Claim7 := { stood := { row := pointNoneUptoRow, standIns := [], harness := (true, "5390e9c87ac42d5c432a7507b4b6a6ff856a3e8347a45776eccce8787079d741"), looks := false }, kinds := [], alts := [], laidByText := true, laidKinds := [.data, .data, .pinned], laidTests := true, laidLooks := .later }
def PointNoneUptoCardSaid : Prop := Claim7.holds Tryz.pinned (.plain (OpenSpec.upto pointNoneSpec)) pointNoneUptoCard

/-- THE SECOND FORM's CARD OF 'quadrigalaw19.PointKeeps'. -/
def pointKeepsUptoCard : Claim7 := { stood := { row := pointKeepsUptoRow, standIns := [], harness := (true, "5390e9c87ac42d5c432a7507b4b6a6ff856a3e8347a45776eccce8787079d741"), looks := false }, kinds := [], alts := [], laidByText := true, laidKinds := [.data, .data, .pinned], laidTests := true, laidLooks := .later }
def PointKeepsUptoCardSaid : Prop := Claim7.holds Tryz.pinned (.plain (OpenSpec.upto pointKeepsSpec)) pointKeepsUptoCard

/-- THE SECOND FORM's CARD OF 'quadrigalaw19.PointCrashes'. -/
def pointCrashesUptoCard : Claim7 := { stood := { row := pointCrashesUptoRow, standIns := [], harness := (true, "5390e9c87ac42d5c432a7507b4b6a6ff856a3e8347a45776eccce8787079d741"), looks := false }, kinds := [], alts := [], laidByText := true, laidKinds := [.data, .data, .pinned], laidTests := true, laidLooks := .later }
def PointCrashesUptoCardSaid : Prop := Claim7.holds Tryz.pinned (.plain (OpenSpec.upto pointCrashesSpec)) pointCrashesUptoCard
end Rows
end Go.Proofs.YtcnfkdodgemeeaaGreatDoor
