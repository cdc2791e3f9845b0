/-
  DERIVED. GIVEN WITH THE SEED: THE CARDS: each row of YtmfppdpfljpphaaGreatDoorRows.lean that lists a variable, with what it lists TIED to the program's text (the seventh form; the later family's looks); each row that meets fmt, with fmt's text TOLD by the authors' own Lean function (tested against real Go, not proved from fmt's source: count such statements apart). THE CARD IS WHAT COUNTS. Prove the row's statement (the work); the ties are given (YtmfppdpfljpphaaGreatDoorTie.lean); close each card by the builder's one call (the guide's Derived/Test/ToyasCard.lean, 'card_holds'). Laid BY PROGRAM, IN A SANDBOX (cutbox-door.mjs). By AI agents, Wed Nov 11 2026. No macro, syntax, notation, axiom, sorry.
-/
import Derived.Test.YtmfppdpfljpphaaGreatDoorRows
import GoSem.ClaimSeven
namespace Go.Proofs.YtmfppdpfljpphaaGreatDoor
namespace Rows

/-- THE TIED CARD OF 'quadrigalaw08.StreamBytes'. -/
def streamBytesCard : Claim7 := { stood := { row := streamBytesRow, standIns := [], harness := (true, "26b445e7deca38c5f4faaa049739f6fd9d6f8a5da62ffb964f1ce82b65fd30f7"), looks := false }, kinds := [], alts := [], laidByText := true, laidKinds := [.data, .data, .pinned], laidTests := true, laidLooks := .later }
def StreamBytesCardSaid : Prop := Claim7.holds Tryz.pinned (.plain (OpenSpec.ofChange streamBytesSpec)) streamBytesCard

/-- THE TIED CARD OF 'quadrigalaw08.StreamCuts'. -/
def streamCutsCard : Claim7 := { stood := { row := streamCutsRow, standIns := [], harness := (true, "26b445e7deca38c5f4faaa049739f6fd9d6f8a5da62ffb964f1ce82b65fd30f7"), looks := false }, kinds := [], alts := [], laidByText := true, laidKinds := [.data, .data, .pinned], laidTests := true, laidLooks := .later }
def StreamCutsCardSaid : Prop := Claim7.holds Tryz.pinned (.plain (OpenSpec.ofChange streamCutsSpec)) streamCutsCard

/-- THE TIED CARD OF 'quadrigalaw08.StreamNone'. -/
def streamNoneCard : Claim7 := { stood := { row := streamNoneRow, standIns := [], harness := (true, "26b445e7deca38c5f4faaa049739f6fd9d6f8a5da62ffb964f1ce82b65fd30f7"), looks := false }, kinds := [], alts := [], laidByText := true, laidKinds := [.data, .data, .pinned], laidTests := true, laidLooks := .later }
def StreamNoneCardSaid : Prop := Claim7.holds Tryz.pinned (.plain (OpenSpec.ofChange streamNoneSpec)) streamNoneCard

/-- THE TIED CARD OF 'quadrigalaw10.BundleNone'. -/
def bundleNoneCard : Claim7 := { stood := { row := bundleNoneRow, standIns := [], harness := (true, "26b445e7deca38c5f4faaa049739f6fd9d6f8a5da62ffb964f1ce82b65fd30f7"), looks := false }, kinds := [], alts := [], laidByText := true, laidKinds := [.data, .data, .pinned], laidTests := true, laidLooks := .later }
def BundleNoneCardSaid : Prop := Claim7.holds Tryz.pinned (.plain (OpenSpec.ofChange bundleNoneSpec)) bundleNoneCard

/-- THE TIED CARD OF 'quadrigalaw28.AuditNone'. -/
def auditNoneCard : Claim7 := { stood := { row := auditNoneRow, standIns := [], harness := (true, "26b445e7deca38c5f4faaa049739f6fd9d6f8a5da62ffb964f1ce82b65fd30f7"), looks := false }, kinds := [], alts := [], laidByText := true, laidKinds := [.data, .data, .pinned], laidTests := true, laidLooks := .later }
def AuditNoneCardSaid : Prop := Claim7.holds Tryz.pinned (.plain (OpenSpec.ofChange auditNoneSpec)) auditNoneCard

/-- THE TIED CARD OF 'quadrigalaw20.StoreApplies'. -/
def storeAppliesCard : Claim7 := { stood := { row := storeAppliesRow, standIns := [], harness := (true, "26b445e7deca38c5f4faaa049739f6fd9d6f8a5da62ffb964f1ce82b65fd30f7"), looks := false }, kinds := [], alts := [], laidByText := true, laidKinds := [.data, .data, .pinned], laidTests := true, laidLooks := .later }
def StoreAppliesCardSaid : Prop := Claim7.holds Tryz.pinned (.plain (OpenSpec.ofChange storeAppliesSpec)) storeAppliesCard

/-- THE TIED CARD OF 'quadrigalaw20.StoreNone'. -/
def storeNoneCard : Claim7 := { stood := { row := storeNoneRow, standIns := [], harness := (true, "26b445e7deca38c5f4faaa049739f6fd9d6f8a5da62ffb964f1ce82b65fd30f7"), looks := false }, kinds := [], alts := [], laidByText := true, laidKinds := [.data, .data, .pinned], laidTests := true, laidLooks := .later }
def StoreNoneCardSaid : Prop := Claim7.holds Tryz.pinned (.plain (OpenSpec.ofChange storeNoneSpec)) storeNoneCard

/-- THE TIED CARD OF 'quadrigalaw20.StoreDisks'. -/
def storeDisksCard : Claim7 := { stood := { row := storeDisksRow, standIns := [], harness := (true, "26b445e7deca38c5f4faaa049739f6fd9d6f8a5da62ffb964f1ce82b65fd30f7"), looks := false }, kinds := [], alts := [], laidByText := true, laidKinds := [.data, .data, .pinned], laidTests := true, laidLooks := .later }
def StoreDisksCardSaid : Prop := Claim7.holds Tryz.pinned (.plain (OpenSpec.ofChange storeDisksSpec)) storeDisksCard

/-- THE SECOND FORM's CARD OF 'quadrigalaw08.StreamBytes'. -/
def streamBytesUptoCard : Claim7 := { stood := { row := streamBytesUptoRow, standIns := [], harness := (true, "26b445e7deca38c5f4faaa049739f6fd9d6f8a5da62ffb964f1ce82b65fd30f7"), looks := false }, kinds := [], alts := [], laidByText := true, laidKinds := [.data, .data, .pinned], laidTests := true, laidLooks := .later }
def StreamBytesUptoCardSaid : Prop := Claim7.holds Tryz.pinned (.plain (OpenSpec.upto streamBytesSpec)) streamBytesUptoCard

/-- THE SECOND FORM's CARD OF 'quadrigalaw08.StreamCuts'. -/
def streamCutsUptoCard : Claim7 := { stood := { row := streamCutsUptoRow, standIns := [], harness := (true, "26b445e7deca38c5f4faaa049739f6fd9d6f8a5da62ffb964f1ce82b65fd30f7"), looks := false }, kinds := [], alts := [], laidByText := true, laidKinds := [.data, .data, .pinned], laidTests := true, laidLooks := .later }
def StreamCutsUptoCardSaid : Prop := Claim7.holds Tryz.pinned (.plain (OpenSpec.upto streamCutsSpec)) streamCutsUptoCard

/-- THE SECOND FORM's CARD OF 'quadrigalaw08.StreamNone'. -/
def streamNoneUptoCard : Claim7 := { stood := { row := streamNoneUptoRow, standIns := [], harness := (true, "26b445e7deca38c5f4faaa049739f6fd9d6f8a5da62ffb964f1ce82b65fd30f7"), looks := false }, kinds := [], alts := [], laidByText := true, laidKinds := [.data, .data, .pinned], laidTests := true, laidLooks := .later }
def StreamNoneUptoCardSaid : Prop := Claim7.holds Tryz.pinned (.plain (OpenSpec.upto streamNoneSpec)) streamNoneUptoCard

/-- THE SECOND FORM's CARD OF 'quadrigalaw10.BundleNone'. -/
def bundleNoneUptoCard : Claim7 := { stood := { row := bundleNoneUptoRow, standIns := [], harness := (true, "26b445e7deca38c5f4faaa049739f6fd9d6f8a5da62ffb964f1ce82b65fd30f7"), looks := false }, kinds := [], alts := [], laidByText := true, laidKinds := [.data, .data, .pinned], laidTests := true, laidLooks := .later }
def BundleNoneUptoCardSaid : Prop := Claim7.holds Tryz.pinned (.plain (OpenSpec.upto bundleNoneSpec)) bundleNoneUptoCard

/-- THE SECOND FORM's CARD OF 'quadrigalaw28.AuditNone'. -/
def auditNoneUptoCard : Claim7 := { stood := { row := auditNoneUptoRow, standIns := [], harness := (true, "26b445e7deca38c5f4faaa049739f6fd9d6f8a5da62ffb964f1ce82b65fd30f7"), looks := false }, kinds := [], alts := [], laidByText := true, laidKinds := [.data, .data, .pinned], laidTests := true, laidLooks := .later }
def AuditNoneUptoCardSaid : Prop := Claim7.holds Tryz.pinned (.plain (OpenSpec.upto auditNoneSpec)) auditNoneUptoCard

/-- THE SECOND FORM's CARD OF 'quadrigalaw20.StoreApplies'. -/
def storeAppliesUptoCard : Claim7 := { stood := { row := storeAppliesUptoRow, standIns := [], harness := (true, "26b445e7deca38c5f4faaa049739f6fd9d6f8a5da62ffb964f1ce82b65fd30f7"), looks := false }, kinds := [], alts := [], laidByText := true, laidKinds := [.data, .data, .pinned], laidTests := true, laidLooks := .later }
def StoreAppliesUptoCardSaid : Prop := Claim7.holds Tryz.pinned (.plain (OpenSpec.upto storeAppliesSpec)) storeAppliesUptoCard

/-- THE SECOND FORM's CARD OF 'quadrigalaw20.StoreNone'. -/
def storeNoneUptoCard : Claim7 := { stood := { row := storeNoneUptoRow, standIns := [], harness := (true, "26b445e7deca38c5f4faaa049739f6fd9d6f8a5da62ffb964f1ce82b65fd30f7"), looks := false }, kinds := [], alts := [], laidByText := true, laidKinds := [.data, .data, .pinned], laidTests := true, laidLooks := .later }
def StoreNoneUptoCardSaid : Prop := Claim7.holds Tryz.pinned (.plain (OpenSpec.upto storeNoneSpec)) storeNoneUptoCard

/-- THE SECOND FORM's CARD OF 'quadrigalaw20.StoreDisks'. -/
def storeDisksUptoCard : Claim7 := { stood := { row := storeDisksUptoRow, standIns := [], harness := (true, "26b445e7deca38c5f4faaa049739f6fd9d6f8a5da62ffb964f1ce82b65fd30f7"), looks := false }, kinds := [], alts := [], laidByText := true, laidKinds := [.data, .data, .pinned], laidTests := true, laidLooks := .later }
def StoreDisksUptoCardSaid : Prop := Claim7.holds Tryz.pinned (.plain (OpenSpec.upto storeDisksSpec)) storeDisksUptoCard
end Rows
end Go.Proofs.YtmfppdpfljpphaaGreatDoor
