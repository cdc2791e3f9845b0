/-
  DERIVED. GIVEN WITH THE SEED: THE CARDS: each row of YtcffibbdbalmjaaDoorRows.lean that lists a variable, with what it lists TIED to the program's text (the seventh form; the later family's looks); each row that meets fmt, with fmt's text TOLD by the authors' own Lean function (tested against real Go, not proved from fmt's source: count such statements apart). THE CARD IS WHAT COUNTS. Prove the row's statement (the work); the ties are given (YtcffibbdbalmjaaDoorTie.lean); close each card by the builder's one call (the guide's Derived/Test/ToyasCard.lean, 'card_holds'). Laid BY PROGRAM, IN A SANDBOX (cutbox-door.mjs). By AI agents, Wed Nov 11 2026. No macro, syntax, notation, axiom, sorry.
-/
import Derived.Test.YtcffibbdbalmjaaDoorRows
import GoSem.ClaimSeven
namespace Go.Proofs.YtcffibbdbalmjaaDoor
namespace Rows

/-- THE TIED CARD OF 'quadrigalaw11.PageRights'. -/
def pageRightsCard : Claim7 := { stood := { row := pageRightsRow, standIns := [], harness := (true, "0d10646641be07bf326f5ac7992fb16c7e837eaed5ed9e6a24f7ca0964f02b51"), looks := false }, kinds := [], alts := [], laidByText := true, laidKinds := [.data], laidTests := true, laidLooks := .later }
def PageRightsCardSaid : Prop := Claim7.holds Tryd.pinned (.plain (OpenSpec.ofChange pageRightsSpec)) pageRightsCard

/-- THE TIED CARD OF 'quadrigalaw11.PageSets'. -/
def pageSetsCard : Claim7 := { stood := { row := pageSetsRow, standIns := [], harness := (true, "0d10646641be07bf326f5ac7992fb16c7e837eaed5ed9e6a24f7ca0964f02b51"), looks := false }, kinds := [], alts := [], laidByText := true, laidKinds := [.data], laidTests := true, laidLooks := .later }
def PageSetsCardSaid : Prop := Claim7.holds Tryd.pinned (.plain (OpenSpec.ofChange pageSetsSpec)) pageSetsCard

/-- THE TIED CARD OF 'quadrigalaw11.PageBack'. -/
def pageBackCard : Claim7 := { stood := { row := pageBackRow, standIns := [], harness := (true, "0d10646641be07bf326f5ac7992fb16c7e837eaed5ed9e6a24f7ca0964f02b51"), looks := false }, kinds := [], alts := [], laidByText := true, laidKinds := [.data], laidTests := true, laidLooks := .later }
def PageBackCardSaid : Prop := Claim7.holds Tryd.pinned (.plain (OpenSpec.ofChange pageBackSpec)) pageBackCard

/-- THE TIED CARD OF 'quadrigalaw11.PageBytes'. -/
def pageBytesCard : Claim7 := { stood := { row := pageBytesRow, standIns := [], harness := (true, "0d10646641be07bf326f5ac7992fb16c7e837eaed5ed9e6a24f7ca0964f02b51"), looks := false }, kinds := [], alts := [], laidByText := true, laidKinds := [.data], laidTests := true, laidLooks := .later }
def PageBytesCardSaid : Prop := Claim7.holds Tryd.pinned (.plain (OpenSpec.ofChange pageBytesSpec)) pageBytesCard

/-- THE TIED CARD OF 'quadrigalaw06.AreaPlays'. -/
def areaPlaysCard : Claim7 := { stood := { row := areaPlaysRow, standIns := [], harness := (true, "0d10646641be07bf326f5ac7992fb16c7e837eaed5ed9e6a24f7ca0964f02b51"), looks := false }, kinds := [], alts := [], laidByText := true, laidKinds := [.data, .pinned], laidTests := true, laidLooks := .later }
def AreaPlaysCardSaid : Prop := Claim7.holds Tryd.pinned (.plain (OpenSpec.ofChange areaPlaysSpec)) areaPlaysCard

/-- THE SECOND FORM's CARD OF 'quadrigalaw11.PageRights'. -/
def pageRightsUptoCard : Claim7 := { stood := { row := pageRightsUptoRow, standIns := [], harness := (true, "0d10646641be07bf326f5ac7992fb16c7e837eaed5ed9e6a24f7ca0964f02b51"), looks := false }, kinds := [], alts := [], laidByText := true, laidKinds := [.data], laidTests := true, laidLooks := .later }
def PageRightsUptoCardSaid : Prop := Claim7.holds Tryd.pinned (.plain (OpenSpec.upto pageRightsSpec)) pageRightsUptoCard

/-- THE SECOND FORM's CARD OF 'quadrigalaw11.PageSets'. -/
def pageSetsUptoCard : Claim7 := { stood := { row := pageSetsUptoRow, standIns := [], harness := (true, "0d10646641be07bf326f5ac7992fb16c7e837eaed5ed9e6a24f7ca0964f02b51"), looks := false }, kinds := [], alts := [], laidByText := true, laidKinds := [.data], laidTests := true, laidLooks := .later }
def PageSetsUptoCardSaid : Prop := Claim7.holds Tryd.pinned (.plain (OpenSpec.upto pageSetsSpec)) pageSetsUptoCard

/-- THE SECOND FORM's CARD OF 'quadrigalaw11.PageBack'. -/
def pageBackUptoCard : Claim7 := { stood := { row := pageBackUptoRow, standIns := [], harness := (true, "0d10646641be07bf326f5ac7992fb16c7e837eaed5ed9e6a24f7ca0964f02b51"), looks := false }, kinds := [], alts := [], laidByText := true, laidKinds := [.data], laidTests := true, laidLooks := .later }
def PageBackUptoCardSaid : Prop := Claim7.holds Tryd.pinned (.plain (OpenSpec.upto pageBackSpec)) pageBackUptoCard

/-- THE SECOND FORM's CARD OF 'quadrigalaw11.PageBytes'. -/
def pageBytesUptoCard : Claim7 := { stood := { row := pageBytesUptoRow, standIns := [], harness := (true, "0d10646641be07bf326f5ac7992fb16c7e837eaed5ed9e6a24f7ca0964f02b51"), looks := false }, kinds := [], alts := [], laidByText := true, laidKinds := [.data], laidTests := true, laidLooks := .later }
def PageBytesUptoCardSaid : Prop := Claim7.holds Tryd.pinned (.plain (OpenSpec.upto pageBytesSpec)) pageBytesUptoCard

/-- THE SECOND FORM's CARD OF 'quadrigalaw06.AreaPlays'. -/
def areaPlaysUptoCard : Claim7 := { stood := { row := areaPlaysUptoRow, standIns := [], harness := (true, "0d10646641be07bf326f5ac7992fb16c7e837eaed5ed9e6a24f7ca0964f02b51"), looks := false }, kinds := [], alts := [], laidByText := true, laidKinds := [.data, .pinned], laidTests := true, laidLooks := .later }
def AreaPlaysUptoCardSaid : Prop := Claim7.holds Tryd.pinned (.plain (OpenSpec.upto areaPlaysSpec)) areaPlaysUptoCard
end Rows
end Go.Proofs.YtcffibbdbalmjaaDoor
