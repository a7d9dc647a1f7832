/-
  DERIVED. GIVEN WITH THE SEED: THE CARDS: each row of YtkdfinfdocdpoaaDoorRows.lean that lists a variable, with what it lists TIED to the program's text (the seventh form; the later family's looks); each row that meets fmt, with fmt's text TOLD by the authors' own Lean function (tested against real Go, not proved from fmt's source: count such statements apart). THE CARD IS WHAT COUNTS. Prove the row's statement (the work); the ties are given (YtkdfinfdocdpoaaDoorTie.lean); close each card by the builder's one call (the guide's Derived/Test/ToyasCard.lean, 'card_holds'). Laid BY PROGRAM, IN A SANDBOX (cutbox-door.mjs). By AI agents, Wed Nov 11 2026. No macro, syntax, notation, axiom, sorry.
-/
import Derived.Test.YtkdfinfdocdpoaaDoorRows
import GoSem.ClaimSeven
namespace Go.Proofs.YtkdfinfdocdpoaaDoor
namespace Rows

/-- THE TIED CARD OF 'algoristlaw11.CountContents'. -/
def countContentsCard : Claim7 := { stood := { row := countContentsRow, standIns := [], harness := (true, "4b7c0a518a4d789cebb104cf870566f82ccc4300e3a3677923114b2bb8c739b5"), looks := false }, kinds := [], alts := [], laidByText := true, laidKinds := [.data], laidTests := true, laidLooks := .later }
def CountContentsCardSaid : Prop := Claim7.holds Tryd.pinned (.plain (OpenSpec.ofChange countContentsSpec)) countContentsCard

/-- THE TIED CARD OF 'algoristlaw11.CountRatios'. -/
def countRatiosCard : Claim7 := { stood := { row := countRatiosRow, standIns := [], harness := (true, "4b7c0a518a4d789cebb104cf870566f82ccc4300e3a3677923114b2bb8c739b5"), looks := false }, kinds := [], alts := [], laidByText := true, laidKinds := [.data], laidTests := true, laidLooks := .later }
def CountRatiosCardSaid : Prop := Claim7.holds Tryd.pinned (.plain (OpenSpec.ofChange countRatiosSpec)) countRatiosCard

/-- THE TIED CARD OF 'algoristlaw11.CountHurwitz'. -/
def countHurwitzCard : Claim7 := { stood := { row := countHurwitzRow, standIns := [], harness := (true, "4b7c0a518a4d789cebb104cf870566f82ccc4300e3a3677923114b2bb8c739b5"), looks := false }, kinds := [], alts := [], laidByText := true, laidKinds := [.data], laidTests := true, laidLooks := .later }
def CountHurwitzCardSaid : Prop := Claim7.holds Tryd.pinned (.plain (OpenSpec.ofChange countHurwitzSpec)) countHurwitzCard

/-- THE TIED CARD OF 'algoristlaw11.CountKronecker'. -/
def countKroneckerCard : Claim7 := { stood := { row := countKroneckerRow, standIns := [], harness := (true, "4b7c0a518a4d789cebb104cf870566f82ccc4300e3a3677923114b2bb8c739b5"), looks := false }, kinds := [], alts := [], laidByText := true, laidKinds := [.data], laidTests := true, laidLooks := .later }
def CountKroneckerCardSaid : Prop := Claim7.holds Tryd.pinned (.plain (OpenSpec.ofChange countKroneckerSpec)) countKroneckerCard

/-- THE TIED CARD OF 'algoristlaw11.CountConductor'. -/
def countConductorCard : Claim7 := { stood := { row := countConductorRow, standIns := [], harness := (true, "4b7c0a518a4d789cebb104cf870566f82ccc4300e3a3677923114b2bb8c739b5"), looks := false }, kinds := [], alts := [], laidByText := true, laidKinds := [.data], laidTests := true, laidLooks := .later }
def CountConductorCardSaid : Prop := Claim7.holds Tryd.pinned (.plain (OpenSpec.ofChange countConductorSpec)) countConductorCard

/-- THE TIED CARD OF 'algoristlaw11.CountDirichlet'. -/
def countDirichletCard : Claim7 := { stood := { row := countDirichletRow, standIns := [], harness := (true, "4b7c0a518a4d789cebb104cf870566f82ccc4300e3a3677923114b2bb8c739b5"), looks := false }, kinds := [], alts := [], laidByText := true, laidKinds := [.data], laidTests := true, laidLooks := .later }
def CountDirichletCardSaid : Prop := Claim7.holds Tryd.pinned (.plain (OpenSpec.ofChange countDirichletSpec)) countDirichletCard

/-- THE TIED CARD OF 'algoristlaw11.CountRefuses'. -/
def countRefusesCard : Claim7 := { stood := { row := countRefusesRow, standIns := [], harness := (true, "4b7c0a518a4d789cebb104cf870566f82ccc4300e3a3677923114b2bb8c739b5"), looks := false }, kinds := [], alts := [], laidByText := true, laidKinds := [.data], laidTests := true, laidLooks := .later }
def CountRefusesCardSaid : Prop := Claim7.holds Tryd.pinned (.plain (OpenSpec.ofChange countRefusesSpec)) countRefusesCard

/-- THE SECOND FORM's CARD OF 'algoristlaw11.CountContents'. -/
def countContentsUptoCard : Claim7 := { stood := { row := countContentsUptoRow, standIns := [], harness := (true, "4b7c0a518a4d789cebb104cf870566f82ccc4300e3a3677923114b2bb8c739b5"), looks := false }, kinds := [], alts := [], laidByText := true, laidKinds := [.data], laidTests := true, laidLooks := .later }
def CountContentsUptoCardSaid : Prop := Claim7.holds Tryd.pinned (.plain (OpenSpec.upto countContentsSpec)) countContentsUptoCard

/-- THE SECOND FORM's CARD OF 'algoristlaw11.CountRatios'. -/
def countRatiosUptoCard : Claim7 := { stood := { row := countRatiosUptoRow, standIns := [], harness := (true, "4b7c0a518a4d789cebb104cf870566f82ccc4300e3a3677923114b2bb8c739b5"), looks := false }, kinds := [], alts := [], laidByText := true, laidKinds := [.data], laidTests := true, laidLooks := .later }
def CountRatiosUptoCardSaid : Prop := Claim7.holds Tryd.pinned (.plain (OpenSpec.upto countRatiosSpec)) countRatiosUptoCard

/-- THE SECOND FORM's CARD OF 'algoristlaw11.CountHurwitz'. -/
def countHurwitzUptoCard : Claim7 := { stood := { row := countHurwitzUptoRow, standIns := [], harness := (true, "4b7c0a518a4d789cebb104cf870566f82ccc4300e3a3677923114b2bb8c739b5"), looks := false }, kinds := [], alts := [], laidByText := true, laidKinds := [.data], laidTests := true, laidLooks := .later }
def CountHurwitzUptoCardSaid : Prop := Claim7.holds Tryd.pinned (.plain (OpenSpec.upto countHurwitzSpec)) countHurwitzUptoCard

/-- THE SECOND FORM's CARD OF 'algoristlaw11.CountKronecker'. -/
def countKroneckerUptoCard : Claim7 := { stood := { row := countKroneckerUptoRow, standIns := [], harness := (true, "4b7c0a518a4d789cebb104cf870566f82ccc4300e3a3677923114b2bb8c739b5"), looks := false }, kinds := [], alts := [], laidByText := true, laidKinds := [.data], laidTests := true, laidLooks := .later }
def CountKroneckerUptoCardSaid : Prop := Claim7.holds Tryd.pinned (.plain (OpenSpec.upto countKroneckerSpec)) countKroneckerUptoCard

/-- THE SECOND FORM's CARD OF 'algoristlaw11.CountConductor'. -/
def countConductorUptoCard : Claim7 := { stood := { row := countConductorUptoRow, standIns := [], harness := (true, "4b7c0a518a4d789cebb104cf870566f82ccc4300e3a3677923114b2bb8c739b5"), looks := false }, kinds := [], alts := [], laidByText := true, laidKinds := [.data], laidTests := true, laidLooks := .later }
def CountConductorUptoCardSaid : Prop := Claim7.holds Tryd.pinned (.plain (OpenSpec.upto countConductorSpec)) countConductorUptoCard

/-- THE SECOND FORM's CARD OF 'algoristlaw11.CountDirichlet'. -/
def countDirichletUptoCard : Claim7 := { stood := { row := countDirichletUptoRow, standIns := [], harness := (true, "4b7c0a518a4d789cebb104cf870566f82ccc4300e3a3677923114b2bb8c739b5"), looks := false }, kinds := [], alts := [], laidByText := true, laidKinds := [.data], laidTests := true, laidLooks := .later }
def CountDirichletUptoCardSaid : Prop := Claim7.holds Tryd.pinned (.plain (OpenSpec.upto countDirichletSpec)) countDirichletUptoCard

/-- THE SECOND FORM's CARD OF 'algoristlaw11.CountRefuses'. -/
def countRefusesUptoCard : Claim7 := { stood := { row := countRefusesUptoRow, standIns := [], harness := (true, "4b7c0a518a4d789cebb104cf870566f82ccc4300e3a3677923114b2bb8c739b5"), looks := false }, kinds := [], alts := [], laidByText := true, laidKinds := [.data], laidTests := true, laidLooks := .later }
def CountRefusesUptoCardSaid : Prop := Claim7.holds Tryd.pinned (.plain (OpenSpec.upto countRefusesSpec)) countRefusesUptoCard
end Rows
end Go.Proofs.YtkdfinfdocdpoaaDoor
