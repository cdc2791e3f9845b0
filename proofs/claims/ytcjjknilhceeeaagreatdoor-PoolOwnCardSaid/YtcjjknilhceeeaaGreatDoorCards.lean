/-
  DERIVED. GIVEN WITH THE SEED: THE CARDS: each row of YtcjjknilhceeeaaGreatDoorRows.lean that lists a variable, with what it lists TIED to the program's text (the seventh form; the later family's looks); each row that meets fmt, with fmt's text TOLD by the authors' own Lean function (tested against real Go, not proved from fmt's source: count such statements apart). THE CARD IS WHAT COUNTS. Prove the row's statement (the work); the ties are given (YtcjjknilhceeeaaGreatDoorTie.lean); close each card by the builder's one call (the guide's Derived/Test/ToyasCard.lean, 'card_holds'). Laid BY PROGRAM, IN A SANDBOX (cutbox-door.mjs). By AI agents, Wed Nov 11 2026. No macro, syntax, notation, axiom, sorry.
-/
import Derived.Test.YtcjjknilhceeeaaGreatDoorRows
import GoSem.ClaimSeven
namespace Go.Proofs.YtcjjknilhceeeaaGreatDoor
namespace Rows

/-- THE TIED CARD OF 'quadrigalaw12.TwiceStores'. -/
def twiceStoresCard : Claim7 := { stood := { row := twiceStoresRow, standIns := [], harness := (true, "02754bfd267f5af45ea435624e8b60bc73c820199fd780f2a486777f42d783e4"), looks := false }, kinds := [], alts := [], laidByText := true, laidKinds := [.data, .data, .pinned], laidTests := true, laidLooks := .later }
def TwiceStoresCardSaid : Prop := Claim7.holds Tryz.pinned (.plain (OpenSpec.ofChange twiceStoresSpec)) twiceStoresCard

/-- THE TIED CARD OF 'quadrigalaw12.TwiceCrashes'. -/
def twiceCrashesCard : Claim7 := { stood := { row := twiceCrashesRow, standIns := [], harness := (true, "02754bfd267f5af45ea435624e8b60bc73c820199fd780f2a486777f42d783e4"), looks := false }, kinds := [], alts := [], laidByText := true, laidKinds := [.data, .data, .pinned], laidTests := true, laidLooks := .later }
def TwiceCrashesCardSaid : Prop := Claim7.holds Tryz.pinned (.plain (OpenSpec.ofChange twiceCrashesSpec)) twiceCrashesCard

/-- THE TIED CARD OF 'quadrigalaw12.TwiceNone'. -/
def twiceNoneCard : Claim7 := { stood := { row := twiceNoneRow, standIns := [], harness := (true, "02754bfd267f5af45ea435624e8b60bc73c820199fd780f2a486777f42d783e4"), looks := false }, kinds := [], alts := [], laidByText := true, laidKinds := [.data, .data, .pinned], laidTests := true, laidLooks := .later }
def TwiceNoneCardSaid : Prop := Claim7.holds Tryz.pinned (.plain (OpenSpec.ofChange twiceNoneSpec)) twiceNoneCard

/-- THE TIED CARD OF 'quadrigalaw12.TwiceOpens'. -/
def twiceOpensCard : Claim7 := { stood := { row := twiceOpensRow, standIns := [], harness := (true, "02754bfd267f5af45ea435624e8b60bc73c820199fd780f2a486777f42d783e4"), looks := false }, kinds := [], alts := [], laidByText := true, laidKinds := [.data, .data, .pinned], laidTests := true, laidLooks := .later }
def TwiceOpensCardSaid : Prop := Claim7.holds Tryz.pinned (.plain (OpenSpec.ofChange twiceOpensSpec)) twiceOpensCard

/-- THE TIED CARD OF 'quadrigalaw13.PoolOwn'. -/
def poolOwnCard : Claim7 := { stood := { row := poolOwnRow, standIns := [], harness := (true, "02754bfd267f5af45ea435624e8b60bc73c820199fd780f2a486777f42d783e4"), looks := false }, kinds := [], alts := [], laidByText := true, laidKinds := [.data, .data, .pinned], laidTests := true, laidLooks := .later }
def PoolOwnCardSaid : Prop := Claim7.holds Tryz.pinned (.plain (OpenSpec.ofChange poolOwnSpec)) poolOwnCard

/-- THE TIED CARD OF 'quadrigalaw13.PoolAhead'. -/
def poolAheadCard : Claim7 := { stood := { row := poolAheadRow, standIns := [], harness := (true, "02754bfd267f5af45ea435624e8b60bc73c820199fd780f2a486777f42d783e4"), looks := false }, kinds := [], alts := [], laidByText := true, laidKinds := [.data, .data, .pinned], laidTests := true, laidLooks := .later }
def PoolAheadCardSaid : Prop := Claim7.holds Tryz.pinned (.plain (OpenSpec.ofChange poolAheadSpec)) poolAheadCard

/-- THE TIED CARD OF 'quadrigalaw13.PoolNone'. -/
def poolNoneCard : Claim7 := { stood := { row := poolNoneRow, standIns := [], harness := (true, "02754bfd267f5af45ea435624e8b60bc73c820199fd780f2a486777f42d783e4"), looks := false }, kinds := [], alts := [], laidByText := true, laidKinds := [.data, .data, .pinned], laidTests := true, laidLooks := .later }
def PoolNoneCardSaid : Prop := Claim7.holds Tryz.pinned (.plain (OpenSpec.ofChange poolNoneSpec)) poolNoneCard

/-- THE TIED CARD OF 'quadrigalaw13.PoolPlays'. -/
def poolPlaysCard : Claim7 := { stood := { row := poolPlaysRow, standIns := [], harness := (true, "02754bfd267f5af45ea435624e8b60bc73c820199fd780f2a486777f42d783e4"), looks := false }, kinds := [], alts := [], laidByText := true, laidKinds := [.data, .data, .pinned], laidTests := true, laidLooks := .later }
def PoolPlaysCardSaid : Prop := Claim7.holds Tryz.pinned (.plain (OpenSpec.ofChange poolPlaysSpec)) poolPlaysCard

/-- THE SECOND FORM's CARD OF 'quadrigalaw12.TwiceStores'. -/
def twiceStoresUptoCard : Claim7 := { stood := { row := twiceStoresUptoRow, standIns := [], harness := (true, "02754bfd267f5af45ea435624e8b60bc73c820199fd780f2a486777f42d783e4"), looks := false }, kinds := [], alts := [], laidByText := true, laidKinds := [.data, .data, .pinned], laidTests := true, laidLooks := .later }
def TwiceStoresUptoCardSaid : Prop := Claim7.holds Tryz.pinned (.plain (OpenSpec.upto twiceStoresSpec)) twiceStoresUptoCard

/-- THE SECOND FORM's CARD OF 'quadrigalaw12.TwiceCrashes'. -/
def twiceCrashesUptoCard : Claim7 := { stood := { row := twiceCrashesUptoRow, standIns := [], harness := (true, "02754bfd267f5af45ea435624e8b60bc73c820199fd780f2a486777f42d783e4"), looks := false }, kinds := [], alts := [], laidByText := true, laidKinds := [.data, .data, .pinned], laidTests := true, laidLooks := .later }
def TwiceCrashesUptoCardSaid : Prop := Claim7.holds Tryz.pinned (.plain (OpenSpec.upto twiceCrashesSpec)) twiceCrashesUptoCard

/-- THE SECOND FORM's CARD OF 'quadrigalaw12.TwiceNone'. -/
def twiceNoneUptoCard : Claim7 := { stood := { row := twiceNoneUptoRow, standIns := [], harness := (true, "02754bfd267f5af45ea435624e8b60bc73c820199fd780f2a486777f42d783e4"), looks := false }, kinds := [], alts := [], laidByText := true, laidKinds := [.data, .data, .pinned], laidTests := true, laidLooks := .later }
def TwiceNoneUptoCardSaid : Prop := Claim7.holds Tryz.pinned (.plain (OpenSpec.upto twiceNoneSpec)) twiceNoneUptoCard

/-- THE SECOND FORM's CARD OF 'quadrigalaw12.TwiceOpens'. -/
def twiceOpensUptoCard : Claim7 := { stood := { row := twiceOpensUptoRow, standIns := [], harness := (true, "02754bfd267f5af45ea435624e8b60bc73c820199fd780f2a486777f42d783e4"), looks := false }, kinds := [], alts := [], laidByText := true, laidKinds := [.data, .data, .pinned], laidTests := true, laidLooks := .later }
def TwiceOpensUptoCardSaid : Prop := Claim7.holds Tryz.pinned (.plain (OpenSpec.upto twiceOpensSpec)) twiceOpensUptoCard

/-- THE SECOND FORM's CARD OF 'quadrigalaw13.PoolOwn'. -/
def poolOwnUptoCard : Claim7 := { stood := { row := poolOwnUptoRow, standIns := [], harness := (true, "02754bfd267f5af45ea435624e8b60bc73c820199fd780f2a486777f42d783e4"), looks := false }, kinds := [], alts := [], laidByText := true, laidKinds := [.data, .data, .pinned], laidTests := true, laidLooks := .later }
def PoolOwnUptoCardSaid : Prop := Claim7.holds Tryz.pinned (.plain (OpenSpec.upto poolOwnSpec)) poolOwnUptoCard

/-- THE SECOND FORM's CARD OF 'quadrigalaw13.PoolAhead'. -/
def poolAheadUptoCard : Claim7 := { stood := { row := poolAheadUptoRow, standIns := [], harness := (true, "02754bfd267f5af45ea435624e8b60bc73c820199fd780f2a486777f42d783e4"), looks := false }, kinds := [], alts := [], laidByText := true, laidKinds := [.data, .data, .pinned], laidTests := true, laidLooks := .later }
def PoolAheadUptoCardSaid : Prop := Claim7.holds Tryz.pinned (.plain (OpenSpec.upto poolAheadSpec)) poolAheadUptoCard

/-- THE SECOND FORM's CARD OF 'quadrigalaw13.PoolNone'. -/
def poolNoneUptoCard : Claim7 := { stood := { row := poolNoneUptoRow, standIns := [], harness := (true, "02754bfd267f5af45ea435624e8b60bc73c820199fd780f2a486777f42d783e4"), looks := false }, kinds := [], alts := [], laidByText := true, laidKinds := [.data, .data, .pinned], laidTests := true, laidLooks := .later }
def PoolNoneUptoCardSaid : Prop := Claim7.holds Tryz.pinned (.plain (OpenSpec.upto poolNoneSpec)) poolNoneUptoCard

/-- THE SECOND FORM's CARD OF 'quadrigalaw13.PoolPlays'. -/
def poolPlaysUptoCard : Claim7 := { stood := { row := poolPlaysUptoRow, standIns := [], harness := (true, "02754bfd267f5af45ea435624e8b60bc73c820199fd780f2a486777f42d783e4"), looks := false }, kinds := [], alts := [], laidByText := true, laidKinds := [.data, .data, .pinned], laidTests := true, laidLooks := .later }
def PoolPlaysUptoCardSaid : Prop := Claim7.holds Tryz.pinned (.plain (OpenSpec.upto poolPlaysSpec)) poolPlaysUptoCard
end Rows
end Go.Proofs.YtcjjknilhceeeaaGreatDoor
