/-
  DERIVED. GIVEN WITH THE SEED: THE CARDS: each row of YthaiejfjnllglaaGreatDoorRows.lean that lists a variable, with what it lists TIED to the program's text (the seventh form; the later family's looks); each row that meets fmt, with fmt's text TOLD by the authors' own Lean function (tested against real Go, not proved from fmt's source: count such statements apart). THE CARD IS WHAT COUNTS. Prove the row's statement (the work); the ties are given (YthaiejfjnllglaaGreatDoorTie.lean); close each card by the builder's one call (the guide's Derived/Test/ToyasCard.lean, 'card_holds'). Laid BY PROGRAM, IN A SANDBOX (cutbox-door.mjs). By AI agents, Wed Nov 11 2026. No macro, syntax, notation, axiom, sorry.
-/
import Derived.Test.YthaiejfjnllglaaGreatDoorRows
import GoSem.ClaimSeven
namespace Go.Proofs.YthaiejfjnllglaaGreatDoor
namespace Rows

/-- THE TIED CARD OF 'algoristtop.TopGenera'. -/
def topGeneraCard : Claim7 := { stood := { row := topGeneraRow, standIns := [], harness := (true, "78b2d204ac323a3d073ae603fa2ef421c80475e6d74e434713a6a1e03f22b4be"), looks := false }, kinds := [], alts := [], laidByText := true, laidKinds := [.data], laidTests := true, laidLooks := .later }
def TopGeneraCardSaid : Prop := Claim7.holds Tryz.pinned (.plain (OpenSpec.ofChange topGeneraSpec)) topGeneraCard

/-- THE TIED CARD OF 'algoristlaw15.RepresentMatchesReference'. -/
def representMatchesReferenceCard : Claim7 := { stood := { row := representMatchesReferenceRow, standIns := [], harness := (true, "78b2d204ac323a3d073ae603fa2ef421c80475e6d74e434713a6a1e03f22b4be"), looks := false }, kinds := [], alts := [], laidByText := true, laidKinds := [.data], laidTests := true, laidLooks := .later }
def RepresentMatchesReferenceCardSaid : Prop := Claim7.holds Tryz.pinned (.plain (OpenSpec.ofChange representMatchesReferenceSpec)) representMatchesReferenceCard

/-- THE TIED CARD OF 'algoristlaw15.RepresentAnswers'. -/
def representAnswersCard : Claim7 := { stood := { row := representAnswersRow, standIns := [], harness := (true, "78b2d204ac323a3d073ae603fa2ef421c80475e6d74e434713a6a1e03f22b4be"), looks := false }, kinds := [], alts := [], laidByText := true, laidKinds := [.data], laidTests := true, laidLooks := .later }
def RepresentAnswersCardSaid : Prop := Claim7.holds Tryz.pinned (.plain (OpenSpec.ofChange representAnswersSpec)) representAnswersCard

/-- THE TIED CARD OF 'algoristlaw15.RepresentCounts'. -/
def representCountsCard : Claim7 := { stood := { row := representCountsRow, standIns := [], harness := (true, "78b2d204ac323a3d073ae603fa2ef421c80475e6d74e434713a6a1e03f22b4be"), looks := false }, kinds := [], alts := [], laidByText := true, laidKinds := [.data], laidTests := true, laidLooks := .later }
def RepresentCountsCardSaid : Prop := Claim7.holds Tryz.pinned (.plain (OpenSpec.ofChange representCountsSpec)) representCountsCard

/-- THE TIED CARD OF 'algoristlaw15.RepresentMoves'. -/
def representMovesCard : Claim7 := { stood := { row := representMovesRow, standIns := [], harness := (true, "78b2d204ac323a3d073ae603fa2ef421c80475e6d74e434713a6a1e03f22b4be"), looks := false }, kinds := [], alts := [], laidByText := true, laidKinds := [.data], laidTests := true, laidLooks := .later }
def RepresentMovesCardSaid : Prop := Claim7.holds Tryz.pinned (.plain (OpenSpec.ofChange representMovesSpec)) representMovesCard

/-- THE TIED CARD OF 'algoristlaw15.RepresentClasses'. -/
def representClassesCard : Claim7 := { stood := { row := representClassesRow, standIns := [], harness := (true, "78b2d204ac323a3d073ae603fa2ef421c80475e6d74e434713a6a1e03f22b4be"), looks := false }, kinds := [], alts := [], laidByText := true, laidKinds := [.data], laidTests := true, laidLooks := .later }
def RepresentClassesCardSaid : Prop := Claim7.holds Tryz.pinned (.plain (OpenSpec.ofChange representClassesSpec)) representClassesCard

/-- THE TIED CARD OF 'algoristlaw15.RepresentObstructs'. -/
def representObstructsCard : Claim7 := { stood := { row := representObstructsRow, standIns := [], harness := (true, "78b2d204ac323a3d073ae603fa2ef421c80475e6d74e434713a6a1e03f22b4be"), looks := false }, kinds := [], alts := [], laidByText := true, laidKinds := [.data], laidTests := true, laidLooks := .later }
def RepresentObstructsCardSaid : Prop := Claim7.holds Tryz.pinned (.plain (OpenSpec.ofChange representObstructsSpec)) representObstructsCard

/-- THE SECOND FORM's CARD OF 'algoristtop.TopGenera'. -/
def topGeneraUptoCard : Claim7 := { stood := { row := topGeneraUptoRow, standIns := [], harness := (true, "78b2d204ac323a3d073ae603fa2ef421c80475e6d74e434713a6a1e03f22b4be"), looks := false }, kinds := [], alts := [], laidByText := true, laidKinds := [.data], laidTests := true, laidLooks := .later }
def TopGeneraUptoCardSaid : Prop := Claim7.holds Tryz.pinned (.plain (OpenSpec.upto topGeneraSpec)) topGeneraUptoCard

/-- THE SECOND FORM's CARD OF 'algoristlaw15.RepresentMatchesReference'. -/
def representMatchesReferenceUptoCard : Claim7 := { stood := { row := representMatchesReferenceUptoRow, standIns := [], harness := (true, "78b2d204ac323a3d073ae603fa2ef421c80475e6d74e434713a6a1e03f22b4be"), looks := false }, kinds := [], alts := [], laidByText := true, laidKinds := [.data], laidTests := true, laidLooks := .later }
def RepresentMatchesReferenceUptoCardSaid : Prop := Claim7.holds Tryz.pinned (.plain (OpenSpec.upto representMatchesReferenceSpec)) representMatchesReferenceUptoCard

/-- THE SECOND FORM's CARD OF 'algoristlaw15.RepresentAnswers'. -/
def representAnswersUptoCard : Claim7 := { stood := { row := representAnswersUptoRow, standIns := [], harness := (true, "78b2d204ac323a3d073ae603fa2ef421c80475e6d74e434713a6a1e03f22b4be"), looks := false }, kinds := [], alts := [], laidByText := true, laidKinds := [.data], laidTests := true, laidLooks := .later }
def RepresentAnswersUptoCardSaid : Prop := Claim7.holds Tryz.pinned (.plain (OpenSpec.upto representAnswersSpec)) representAnswersUptoCard

/-- THE SECOND FORM's CARD OF 'algoristlaw15.RepresentCounts'. -/
def representCountsUptoCard : Claim7 := { stood := { row := representCountsUptoRow, standIns := [], harness := (true, "78b2d204ac323a3d073ae603fa2ef421c80475e6d74e434713a6a1e03f22b4be"), looks := false }, kinds := [], alts := [], laidByText := true, laidKinds := [.data], laidTests := true, laidLooks := .later }
def RepresentCountsUptoCardSaid : Prop := Claim7.holds Tryz.pinned (.plain (OpenSpec.upto representCountsSpec)) representCountsUptoCard

/-- THE SECOND FORM's CARD OF 'algoristlaw15.RepresentMoves'. -/
def representMovesUptoCard : Claim7 := { stood := { row := representMovesUptoRow, standIns := [], harness := (true, "78b2d204ac323a3d073ae603fa2ef421c80475e6d74e434713a6a1e03f22b4be"), looks := false }, kinds := [], alts := [], laidByText := true, laidKinds := [.data], laidTests := true, laidLooks := .later }
def RepresentMovesUptoCardSaid : Prop := Claim7.holds Tryz.pinned (.plain (OpenSpec.upto representMovesSpec)) representMovesUptoCard

/-- THE SECOND FORM's CARD OF 'algoristlaw15.RepresentClasses'. -/
def representClassesUptoCard : Claim7 := { stood := { row := representClassesUptoRow, standIns := [], harness := (true, "78b2d204ac323a3d073ae603fa2ef421c80475e6d74e434713a6a1e03f22b4be"), looks := false }, kinds := [], alts := [], laidByText := true, laidKinds := [.data], laidTests := true, laidLooks := .later }
def RepresentClassesUptoCardSaid : Prop := Claim7.holds Tryz.pinned (.plain (OpenSpec.upto representClassesSpec)) representClassesUptoCard

/-- THE SECOND FORM's CARD OF 'algoristlaw15.RepresentObstructs'. -/
def representObstructsUptoCard : Claim7 := { stood := { row := representObstructsUptoRow, standIns := [], harness := (true, "78b2d204ac323a3d073ae603fa2ef421c80475e6d74e434713a6a1e03f22b4be"), looks := false }, kinds := [], alts := [], laidByText := true, laidKinds := [.data], laidTests := true, laidLooks := .later }
def RepresentObstructsUptoCardSaid : Prop := Claim7.holds Tryz.pinned (.plain (OpenSpec.upto representObstructsSpec)) representObstructsUptoCard
end Rows
end Go.Proofs.YthaiejfjnllglaaGreatDoor
