/-
  DERIVED. GIVEN WITH THE SEED: THE CARDS: each row of YtkdfinfdocdpoaaGreatDoorRows.lean that lists a variable, with what it lists TIED to the program's text (the seventh form; the later family's looks); each row that meets fmt, with fmt's text TOLD by the authors' own Lean function (tested against real Go, not proved from fmt's source: count such statements apart). THE CARD IS WHAT COUNTS. Prove the row's statement (the work); the ties are given (YtkdfinfdocdpoaaGreatDoorTie.lean); close each card by the builder's one call (the guide's Derived/Test/ToyasCard.lean, 'card_holds'). Laid BY PROGRAM, IN A SANDBOX (cutbox-door.mjs). By AI agents, Wed Nov 11 2026. No macro, syntax, notation, axiom, sorry.
-/
import Derived.Test.YtkdfinfdocdpoaaGreatDoorRows
import GoSem.ClaimSeven
namespace Go.Proofs.YtkdfinfdocdpoaaGreatDoor
namespace Rows

/-- THE TIED CARD OF 'algoristlaw11.CountMatchesReference'. -/
def countMatchesReferenceCard : Claim7 := { stood := { row := countMatchesReferenceRow, standIns := [], harness := (true, "d8ecb22db7dfc2a6c84aa14d15ec24665d4ba60cccecd55bad68200551081d3a"), looks := false }, kinds := [], alts := [], laidByText := true, laidKinds := [.data], laidTests := true, laidLooks := .later }
def CountMatchesReferenceCardSaid : Prop := Claim7.holds Tryz.pinned (.plain (OpenSpec.ofChange countMatchesReferenceSpec)) countMatchesReferenceCard

/-- THE TIED CARD OF 'algoristlaw11.CountForms'. -/
def countFormsCard : Claim7 := { stood := { row := countFormsRow, standIns := [], harness := (true, "d8ecb22db7dfc2a6c84aa14d15ec24665d4ba60cccecd55bad68200551081d3a"), looks := false }, kinds := [], alts := [], laidByText := true, laidKinds := [.data], laidTests := true, laidLooks := .later }
def CountFormsCardSaid : Prop := Claim7.holds Tryz.pinned (.plain (OpenSpec.ofChange countFormsSpec)) countFormsCard

/-- THE TIED CARD OF 'algoristlaw11.CountComplete'. -/
def countCompleteCard : Claim7 := { stood := { row := countCompleteRow, standIns := [], harness := (true, "d8ecb22db7dfc2a6c84aa14d15ec24665d4ba60cccecd55bad68200551081d3a"), looks := false }, kinds := [], alts := [], laidByText := true, laidKinds := [.data], laidTests := true, laidLooks := .later }
def CountCompleteCardSaid : Prop := Claim7.holds Tryz.pinned (.plain (OpenSpec.ofChange countCompleteSpec)) countCompleteCard

/-- THE SECOND FORM's CARD OF 'algoristlaw11.CountMatchesReference'. -/
def countMatchesReferenceUptoCard : Claim7 := { stood := { row := countMatchesReferenceUptoRow, standIns := [], harness := (true, "d8ecb22db7dfc2a6c84aa14d15ec24665d4ba60cccecd55bad68200551081d3a"), looks := false }, kinds := [], alts := [], laidByText := true, laidKinds := [.data], laidTests := true, laidLooks := .later }
def CountMatchesReferenceUptoCardSaid : Prop := Claim7.holds Tryz.pinned (.plain (OpenSpec.upto countMatchesReferenceSpec)) countMatchesReferenceUptoCard

/-- THE SECOND FORM's CARD OF 'algoristlaw11.CountForms'. -/
def countFormsUptoCard : Claim7 := { stood := { row := countFormsUptoRow, standIns := [], harness := (true, "d8ecb22db7dfc2a6c84aa14d15ec24665d4ba60cccecd55bad68200551081d3a"), looks := false }, kinds := [], alts := [], laidByText := true, laidKinds := [.data], laidTests := true, laidLooks := .later }
def CountFormsUptoCardSaid : Prop := Claim7.holds Tryz.pinned (.plain (OpenSpec.upto countFormsSpec)) countFormsUptoCard

/-- THE SECOND FORM's CARD OF 'algoristlaw11.CountComplete'. -/
def countCompleteUptoCard : Claim7 := { stood := { row := countCompleteUptoRow, standIns := [], harness := (true, "d8ecb22db7dfc2a6c84aa14d15ec24665d4ba60cccecd55bad68200551081d3a"), looks := false }, kinds := [], alts := [], laidByText := true, laidKinds := [.data], laidTests := true, laidLooks := .later }
def CountCompleteUptoCardSaid : Prop := Claim7.holds Tryz.pinned (.plain (OpenSpec.upto countCompleteSpec)) countCompleteUptoCard
end Rows
end Go.Proofs.YtkdfinfdocdpoaaGreatDoor
