/-
  DERIVED. GIVEN WITH THE SEED: THE CARDS: each row of YtinmmnljicmppaaDoorRows.lean that lists a variable, with what it lists TIED to the program's text (the seventh form; the later family's looks); each row that meets fmt, with fmt's text TOLD by the authors' own Lean function (tested against real Go, not proved from fmt's source: count such statements apart). THE CARD IS WHAT COUNTS. Prove the row's statement (the work); the ties are given (YtinmmnljicmppaaDoorTie.lean); close each card by the builder's one call (the guide's Derived/Test/ToyasCard.lean, 'card_holds'). Laid BY PROGRAM, IN A SANDBOX (cutbox-door.mjs). By AI agents, Wed Nov 11 2026. No macro, syntax, notation, axiom, sorry.
-/
import Derived.Test.YtinmmnljicmppaaDoorRows
import GoSem.ClaimSeven
namespace Go.Proofs.YtinmmnljicmppaaDoor
namespace Rows

/-- THE TIED CARD OF 'revenantlaw32.TaleTells'. -/
def taleTellsCard : Claim7 := { stood := { row := taleTellsRow, standIns := [], harness := (true, "647acb670b4818140d16c449fd34cacc85cb61512d04fc82fe2f10442c846f1d"), looks := true }, kinds := [], alts := [], laidByText := true, laidKinds := [.data, .data, .data, .data, .sentinel, .sentinel, .pinned], laidTests := true, laidLooks := .later }
def TaleTellsCardSaid : Prop := Claim7.holds Tryd.pinned (.plain (OpenSpec.ofChange taleTellsSpec)) taleTellsCard

/-- THE TIED CARD OF 'revenantlaw32.TaleApart'. -/
def taleApartCard : Claim7 := { stood := { row := taleApartRow, standIns := [], harness := (true, "647acb670b4818140d16c449fd34cacc85cb61512d04fc82fe2f10442c846f1d"), looks := true }, kinds := [], alts := [], laidByText := true, laidKinds := [.data, .data, .data, .data, .sentinel, .sentinel, .pinned], laidTests := true, laidLooks := .later }
def TaleApartCardSaid : Prop := Claim7.holds Tryd.pinned (.plain (OpenSpec.ofChange taleApartSpec)) taleApartCard

/-- THE SECOND FORM's CARD OF 'revenantlaw32.TaleTells'. -/
def taleTellsUptoCard : Claim7 := { stood := { row := taleTellsUptoRow, standIns := [], harness := (true, "647acb670b4818140d16c449fd34cacc85cb61512d04fc82fe2f10442c846f1d"), looks := true }, kinds := [], alts := [], laidByText := true, laidKinds := [.data, .data, .data, .data, .sentinel, .sentinel, .pinned], laidTests := true, laidLooks := .later }
def TaleTellsUptoCardSaid : Prop := Claim7.holds Tryd.pinned (.plain (OpenSpec.upto taleTellsSpec)) taleTellsUptoCard

/-- THE SECOND FORM's CARD OF 'revenantlaw32.TaleApart'. -/
def taleApartUptoCard : Claim7 := { stood := { row := taleApartUptoRow, standIns := [], harness := (true, "647acb670b4818140d16c449fd34cacc85cb61512d04fc82fe2f10442c846f1d"), looks := true }, kinds := [], alts := [], laidByText := true, laidKinds := [.data, .data, .data, .data, .sentinel, .sentinel, .pinned], laidTests := true, laidLooks := .later }
def TaleApartUptoCardSaid : Prop := Claim7.holds Tryd.pinned (.plain (OpenSpec.upto taleApartSpec)) taleApartUptoCard
end Rows
end Go.Proofs.YtinmmnljicmppaaDoor
