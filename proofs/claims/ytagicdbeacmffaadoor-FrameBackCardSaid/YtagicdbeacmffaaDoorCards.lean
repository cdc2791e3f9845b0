/-
  DERIVED. GIVEN WITH THE SEED: THE CARDS: each row of YtagicdbeacmffaaDoorRows.lean that lists a variable, with what it lists TIED to the program's text (the seventh form; the later family's looks); each row that meets fmt, with fmt's text TOLD by the authors' own Lean function (tested against real Go, not proved from fmt's source: count such statements apart). THE CARD IS WHAT COUNTS. Prove the row's statement (the work); the ties are given (YtagicdbeacmffaaDoorTie.lean); close each card by the builder's one call (the guide's Derived/Test/ToyasCard.lean, 'card_holds'). Laid BY PROGRAM, IN A SANDBOX (cutbox-door.mjs). By AI agents, Wed Nov 11 2026. No macro, syntax, notation, axiom, sorry.
-/
import Derived.Test.YtagicdbeacmffaaDoorRows
import GoSem.ClaimSeven
namespace Go.Proofs.YtagicdbeacmffaaDoor
namespace Rows

/-- THE TIED CARD OF 'quadrigalaw02.SumOf'. -/
def sumOfCard : Claim7 := { stood := { row := sumOfRow, standIns := [], harness := (true, "5e6f5e490da1f8d3d0a24b7761c3510e7f6457f06e89beb916a6868d4973c593"), looks := false }, kinds := [], alts := [], laidByText := true, laidKinds := [.data], laidTests := true, laidLooks := .later }
def SumOfCardSaid : Prop := Claim7.holds Tryd.pinned (.plain (OpenSpec.ofChange sumOfSpec)) sumOfCard

/-- THE TIED CARD OF 'quadrigalaw02.SumTurned'. -/
def sumTurnedCard : Claim7 := { stood := { row := sumTurnedRow, standIns := [], harness := (true, "5e6f5e490da1f8d3d0a24b7761c3510e7f6457f06e89beb916a6868d4973c593"), looks := false }, kinds := [], alts := [], laidByText := true, laidKinds := [.data], laidTests := true, laidLooks := .later }
def SumTurnedCardSaid : Prop := Claim7.holds Tryd.pinned (.plain (OpenSpec.ofChange sumTurnedSpec)) sumTurnedCard

/-- THE TIED CARD OF 'quadrigalaw02.SumOpens'. -/
def sumOpensCard : Claim7 := { stood := { row := sumOpensRow, standIns := [], harness := (true, "5e6f5e490da1f8d3d0a24b7761c3510e7f6457f06e89beb916a6868d4973c593"), looks := false }, kinds := [], alts := [], laidByText := true, laidKinds := [.data], laidTests := true, laidLooks := .later }
def SumOpensCardSaid : Prop := Claim7.holds Tryd.pinned (.plain (OpenSpec.ofChange sumOpensSpec)) sumOpensCard

/-- THE TIED CARD OF 'quadrigalaw02.SumParts'. -/
def sumPartsCard : Claim7 := { stood := { row := sumPartsRow, standIns := [], harness := (true, "5e6f5e490da1f8d3d0a24b7761c3510e7f6457f06e89beb916a6868d4973c593"), looks := false }, kinds := [], alts := [], laidByText := true, laidKinds := [.data], laidTests := true, laidLooks := .later }
def SumPartsCardSaid : Prop := Claim7.holds Tryd.pinned (.plain (OpenSpec.ofChange sumPartsSpec)) sumPartsCard

/-- THE TIED CARD OF 'quadrigalaw03.FrameOpens'. -/
def frameOpensCard : Claim7 := { stood := { row := frameOpensRow, standIns := [], harness := (true, "5e6f5e490da1f8d3d0a24b7761c3510e7f6457f06e89beb916a6868d4973c593"), looks := false }, kinds := [], alts := [], laidByText := true, laidKinds := [.data], laidTests := true, laidLooks := .later }
def FrameOpensCardSaid : Prop := Claim7.holds Tryd.pinned (.plain (OpenSpec.ofChange frameOpensSpec)) frameOpensCard

/-- THE TIED CARD OF 'quadrigalaw03.FrameTurned'. -/
def frameTurnedCard : Claim7 := { stood := { row := frameTurnedRow, standIns := [], harness := (true, "5e6f5e490da1f8d3d0a24b7761c3510e7f6457f06e89beb916a6868d4973c593"), looks := false }, kinds := [], alts := [], laidByText := true, laidKinds := [.data], laidTests := true, laidLooks := .later }
def FrameTurnedCardSaid : Prop := Claim7.holds Tryd.pinned (.plain (OpenSpec.ofChange frameTurnedSpec)) frameTurnedCard

/-- THE TIED CARD OF 'quadrigalaw03.FrameChains'. -/
def frameChainsCard : Claim7 := { stood := { row := frameChainsRow, standIns := [], harness := (true, "5e6f5e490da1f8d3d0a24b7761c3510e7f6457f06e89beb916a6868d4973c593"), looks := false }, kinds := [], alts := [], laidByText := true, laidKinds := [.data], laidTests := true, laidLooks := .later }
def FrameChainsCardSaid : Prop := Claim7.holds Tryd.pinned (.plain (OpenSpec.ofChange frameChainsSpec)) frameChainsCard

/-- THE TIED CARD OF 'quadrigalaw03.FrameBack'. -/
def frameBackCard : Claim7 := { stood := { row := frameBackRow, standIns := [], harness := (true, "5e6f5e490da1f8d3d0a24b7761c3510e7f6457f06e89beb916a6868d4973c593"), looks := false }, kinds := [], alts := [], laidByText := true, laidKinds := [.data], laidTests := true, laidLooks := .later }
def FrameBackCardSaid : Prop := Claim7.holds Tryd.pinned (.plain (OpenSpec.ofChange frameBackSpec)) frameBackCard

/-- THE TIED CARD OF 'quadrigalaw03.FrameMakes'. -/
def frameMakesCard : Claim7 := { stood := { row := frameMakesRow, standIns := [], harness := (true, "5e6f5e490da1f8d3d0a24b7761c3510e7f6457f06e89beb916a6868d4973c593"), looks := false }, kinds := [], alts := [], laidByText := true, laidKinds := [.data], laidTests := true, laidLooks := .later }
def FrameMakesCardSaid : Prop := Claim7.holds Tryd.pinned (.plain (OpenSpec.ofChange frameMakesSpec)) frameMakesCard

/-- THE SECOND FORM's CARD OF 'quadrigalaw02.SumOf'. -/
def sumOfUptoCard : Claim7 := { stood := { row := sumOfUptoRow, standIns := [], harness := (true, "5e6f5e490da1f8d3d0a24b7761c3510e7f6457f06e89beb916a6868d4973c593"), looks := false }, kinds := [], alts := [], laidByText := true, laidKinds := [.data], laidTests := true, laidLooks := .later }
def SumOfUptoCardSaid : Prop := Claim7.holds Tryd.pinned (.plain (OpenSpec.upto sumOfSpec)) sumOfUptoCard

/-- THE SECOND FORM's CARD OF 'quadrigalaw02.SumTurned'. -/
def sumTurnedUptoCard : Claim7 := { stood := { row := sumTurnedUptoRow, standIns := [], harness := (true, "5e6f5e490da1f8d3d0a24b7761c3510e7f6457f06e89beb916a6868d4973c593"), looks := false }, kinds := [], alts := [], laidByText := true, laidKinds := [.data], laidTests := true, laidLooks := .later }
def SumTurnedUptoCardSaid : Prop := Claim7.holds Tryd.pinned (.plain (OpenSpec.upto sumTurnedSpec)) sumTurnedUptoCard

/-- THE SECOND FORM's CARD OF 'quadrigalaw02.SumOpens'. -/
def sumOpensUptoCard : Claim7 := { stood := { row := sumOpensUptoRow, standIns := [], harness := (true, "5e6f5e490da1f8d3d0a24b7761c3510e7f6457f06e89beb916a6868d4973c593"), looks := false }, kinds := [], alts := [], laidByText := true, laidKinds := [.data], laidTests := true, laidLooks := .later }
def SumOpensUptoCardSaid : Prop := Claim7.holds Tryd.pinned (.plain (OpenSpec.upto sumOpensSpec)) sumOpensUptoCard

/-- THE SECOND FORM's CARD OF 'quadrigalaw02.SumParts'. -/
def sumPartsUptoCard : Claim7 := { stood := { row := sumPartsUptoRow, standIns := [], harness := (true, "5e6f5e490da1f8d3d0a24b7761c3510e7f6457f06e89beb916a6868d4973c593"), looks := false }, kinds := [], alts := [], laidByText := true, laidKinds := [.data], laidTests := true, laidLooks := .later }
def SumPartsUptoCardSaid : Prop := Claim7.holds Tryd.pinned (.plain (OpenSpec.upto sumPartsSpec)) sumPartsUptoCard

/-- THE SECOND FORM's CARD OF 'quadrigalaw03.FrameOpens'. -/
def frameOpensUptoCard : Claim7 := { stood := { row := frameOpensUptoRow, standIns := [], harness := (true, "5e6f5e490da1f8d3d0a24b7761c3510e7f6457f06e89beb916a6868d4973c593"), looks := false }, kinds := [], alts := [], laidByText := true, laidKinds := [.data], laidTests := true, laidLooks := .later }
def FrameOpensUptoCardSaid : Prop := Claim7.holds Tryd.pinned (.plain (OpenSpec.upto frameOpensSpec)) frameOpensUptoCard

/-- THE SECOND FORM's CARD OF 'quadrigalaw03.FrameTurned'. -/
def frameTurnedUptoCard : Claim7 := { stood := { row := frameTurnedUptoRow, standIns := [], harness := (true, "5e6f5e490da1f8d3d0a24b7761c3510e7f6457f06e89beb916a6868d4973c593"), looks := false }, kinds := [], alts := [], laidByText := true, laidKinds := [.data], laidTests := true, laidLooks := .later }
def FrameTurnedUptoCardSaid : Prop := Claim7.holds Tryd.pinned (.plain (OpenSpec.upto frameTurnedSpec)) frameTurnedUptoCard

/-- THE SECOND FORM's CARD OF 'quadrigalaw03.FrameChains'. -/
def frameChainsUptoCard : Claim7 := { stood := { row := frameChainsUptoRow, standIns := [], harness := (true, "5e6f5e490da1f8d3d0a24b7761c3510e7f6457f06e89beb916a6868d4973c593"), looks := false }, kinds := [], alts := [], laidByText := true, laidKinds := [.data], laidTests := true, laidLooks := .later }
def FrameChainsUptoCardSaid : Prop := Claim7.holds Tryd.pinned (.plain (OpenSpec.upto frameChainsSpec)) frameChainsUptoCard

/-- THE SECOND FORM's CARD OF 'quadrigalaw03.FrameBack'. -/
def frameBackUptoCard : Claim7 := { stood := { row := frameBackUptoRow, standIns := [], harness := (true, "5e6f5e490da1f8d3d0a24b7761c3510e7f6457f06e89beb916a6868d4973c593"), looks := false }, kinds := [], alts := [], laidByText := true, laidKinds := [.data], laidTests := true, laidLooks := .later }
def FrameBackUptoCardSaid : Prop := Claim7.holds Tryd.pinned (.plain (OpenSpec.upto frameBackSpec)) frameBackUptoCard

/-- THE SECOND FORM's CARD OF 'quadrigalaw03.FrameMakes'. -/
def frameMakesUptoCard : Claim7 := { stood := { row := frameMakesUptoRow, standIns := [], harness := (true, "5e6f5e490da1f8d3d0a24b7761c3510e7f6457f06e89beb916a6868d4973c593"), looks := false }, kinds := [], alts := [], laidByText := true, laidKinds := [.data], laidTests := true, laidLooks := .later }
def FrameMakesUptoCardSaid : Prop := Claim7.holds Tryd.pinned (.plain (OpenSpec.upto frameMakesSpec)) frameMakesUptoCard
end Rows
end Go.Proofs.YtagicdbeacmffaaDoor
