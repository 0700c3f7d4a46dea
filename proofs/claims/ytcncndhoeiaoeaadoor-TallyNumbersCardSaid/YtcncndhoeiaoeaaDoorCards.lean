/-
  DERIVED. GIVEN WITH THE SEED: THE CARDS: each row of YtcncndhoeiaoeaaDoorRows.lean that lists a variable, with what it lists TIED to the program's text (the seventh form; the later family's looks); each row that meets fmt, with fmt's text TOLD by the authors' own Lean function (tested against real Go, not proved from fmt's source: count such statements apart). THE CARD IS WHAT COUNTS. Prove the row's statement (the work); the ties are given (YtcncndhoeiaoeaaDoorTie.lean); close each card by the builder's one call (the guide's Derived/Test/ToyasCard.lean, 'card_holds'). Laid BY PROGRAM, IN A SANDBOX (cutbox-door.mjs). By AI agents, Wed Nov 11 2026. No macro, syntax, notation, axiom, sorry.
-/
import Derived.Test.YtcncndhoeiaoeaaDoorRows
import GoSem.ClaimSeven
namespace Go.Proofs.YtcncndhoeiaoeaaDoor
namespace Rows

/-- THE TIED CARD OF 'revenantlaw05.PlaceExact'. -/
def placeExactCard : Claim7 := { stood := { row := placeExactRow, standIns := [], harness := (true, "8f843bdbcbc78b8742d9b97ecfd2cd8f3bc15d9dc17ee0497f98512325980756"), looks := false }, kinds := [], alts := [], laidByText := true, laidKinds := [.data, .data, .data], laidTests := true, laidLooks := .later }
def PlaceExactCardSaid : Prop := Claim7.holds Tryd.pinned (.plain (OpenSpec.ofChange placeExactSpec)) placeExactCard

/-- THE TIED CARD OF 'revenantlaw05.PlaceMakes'. -/
def placeMakesCard : Claim7 := { stood := { row := placeMakesRow, standIns := [], harness := (true, "8f843bdbcbc78b8742d9b97ecfd2cd8f3bc15d9dc17ee0497f98512325980756"), looks := false }, kinds := [], alts := [], laidByText := true, laidKinds := [.data, .data, .data], laidTests := true, laidLooks := .later }
def PlaceMakesCardSaid : Prop := Claim7.holds Tryd.pinned (.plain (OpenSpec.ofChange placeMakesSpec)) placeMakesCard

/-- THE TIED CARD OF 'revenantlaw05.PlaceBack'. -/
def placeBackCard : Claim7 := { stood := { row := placeBackRow, standIns := [], harness := (true, "8f843bdbcbc78b8742d9b97ecfd2cd8f3bc15d9dc17ee0497f98512325980756"), looks := false }, kinds := [], alts := [], laidByText := true, laidKinds := [.data, .data, .data], laidTests := true, laidLooks := .later }
def PlaceBackCardSaid : Prop := Claim7.holds Tryd.pinned (.plain (OpenSpec.ofChange placeBackSpec)) placeBackCard

/-- THE TIED CARD OF 'revenantlaw05.PlaceNames'. -/
def placeNamesCard : Claim7 := { stood := { row := placeNamesRow, standIns := [], harness := (true, "8f843bdbcbc78b8742d9b97ecfd2cd8f3bc15d9dc17ee0497f98512325980756"), looks := false }, kinds := [], alts := [], laidByText := true, laidKinds := [.data, .data, .data], laidTests := true, laidLooks := .later }
def PlaceNamesCardSaid : Prop := Claim7.holds Tryd.pinned (.plain (OpenSpec.ofChange placeNamesSpec)) placeNamesCard

/-- THE TIED CARD OF 'revenantlaw35.TallyExact'. -/
def tallyExactCard : Claim7 := { stood := { row := tallyExactRow, standIns := [], harness := (true, "8f843bdbcbc78b8742d9b97ecfd2cd8f3bc15d9dc17ee0497f98512325980756"), looks := false }, kinds := [], alts := [], laidByText := true, laidKinds := [.data, .data, .data], laidTests := true, laidLooks := .later }
def TallyExactCardSaid : Prop := Claim7.holds Tryd.pinned (.plain (OpenSpec.ofChange tallyExactSpec)) tallyExactCard

/-- THE TIED CARD OF 'revenantlaw35.TallyNumbers'. -/
def tallyNumbersCard : Claim7 := { stood := { row := tallyNumbersRow, standIns := [], harness := (true, "8f843bdbcbc78b8742d9b97ecfd2cd8f3bc15d9dc17ee0497f98512325980756"), looks := false }, kinds := [], alts := [], laidByText := true, laidKinds := [.data, .data, .data], laidTests := true, laidLooks := .later }
def TallyNumbersCardSaid : Prop := Claim7.holds Tryd.pinned (.plain (OpenSpec.ofChange tallyNumbersSpec)) tallyNumbersCard

/-- THE SECOND FORM's CARD OF 'revenantlaw05.PlaceExact'. -/
def placeExactUptoCard : Claim7 := { stood := { row := placeExactUptoRow, standIns := [], harness := (true, "8f843bdbcbc78b8742d9b97ecfd2cd8f3bc15d9dc17ee0497f98512325980756"), looks := false }, kinds := [], alts := [], laidByText := true, laidKinds := [.data, .data, .data], laidTests := true, laidLooks := .later }
def PlaceExactUptoCardSaid : Prop := Claim7.holds Tryd.pinned (.plain (OpenSpec.upto placeExactSpec)) placeExactUptoCard

/-- THE SECOND FORM's CARD OF 'revenantlaw05.PlaceMakes'. -/
def placeMakesUptoCard : Claim7 := { stood := { row := placeMakesUptoRow, standIns := [], harness := (true, "8f843bdbcbc78b8742d9b97ecfd2cd8f3bc15d9dc17ee0497f98512325980756"), looks := false }, kinds := [], alts := [], laidByText := true, laidKinds := [.data, .data, .data], laidTests := true, laidLooks := .later }
def PlaceMakesUptoCardSaid : Prop := Claim7.holds Tryd.pinned (.plain (OpenSpec.upto placeMakesSpec)) placeMakesUptoCard

/-- THE SECOND FORM's CARD OF 'revenantlaw05.PlaceBack'. -/
def placeBackUptoCard : Claim7 := { stood := { row := placeBackUptoRow, standIns := [], harness := (true, "8f843bdbcbc78b8742d9b97ecfd2cd8f3bc15d9dc17ee0497f98512325980756"), looks := false }, kinds := [], alts := [], laidByText := true, laidKinds := [.data, .data, .data], laidTests := true, laidLooks := .later }
def PlaceBackUptoCardSaid : Prop := Claim7.holds Tryd.pinned (.plain (OpenSpec.upto placeBackSpec)) placeBackUptoCard

/-- THE SECOND FORM's CARD OF 'revenantlaw05.PlaceNames'. -/
def placeNamesUptoCard : Claim7 := { stood := { row := placeNamesUptoRow, standIns := [], harness := (true, "8f843bdbcbc78b8742d9b97ecfd2cd8f3bc15d9dc17ee0497f98512325980756"), looks := false }, kinds := [], alts := [], laidByText := true, laidKinds := [.data, .data, .data], laidTests := true, laidLooks := .later }
def PlaceNamesUptoCardSaid : Prop := Claim7.holds Tryd.pinned (.plain (OpenSpec.upto placeNamesSpec)) placeNamesUptoCard

/-- THE SECOND FORM's CARD OF 'revenantlaw35.TallyExact'. -/
def tallyExactUptoCard : Claim7 := { stood := { row := tallyExactUptoRow, standIns := [], harness := (true, "8f843bdbcbc78b8742d9b97ecfd2cd8f3bc15d9dc17ee0497f98512325980756"), looks := false }, kinds := [], alts := [], laidByText := true, laidKinds := [.data, .data, .data], laidTests := true, laidLooks := .later }
def TallyExactUptoCardSaid : Prop := Claim7.holds Tryd.pinned (.plain (OpenSpec.upto tallyExactSpec)) tallyExactUptoCard

/-- THE SECOND FORM's CARD OF 'revenantlaw35.TallyNumbers'. -/
def tallyNumbersUptoCard : Claim7 := { stood := { row := tallyNumbersUptoRow, standIns := [], harness := (true, "8f843bdbcbc78b8742d9b97ecfd2cd8f3bc15d9dc17ee0497f98512325980756"), looks := false }, kinds := [], alts := [], laidByText := true, laidKinds := [.data, .data, .data], laidTests := true, laidLooks := .later }
def TallyNumbersUptoCardSaid : Prop := Claim7.holds Tryd.pinned (.plain (OpenSpec.upto tallyNumbersSpec)) tallyNumbersUptoCard
end Rows
end Go.Proofs.YtcncndhoeiaoeaaDoor
