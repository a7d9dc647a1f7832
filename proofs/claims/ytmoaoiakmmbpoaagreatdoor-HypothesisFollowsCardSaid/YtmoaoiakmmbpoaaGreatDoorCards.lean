/-
  DERIVED. GIVEN WITH THE SEED: THE CARDS: each row of YtmoaoiakmmbpoaaGreatDoorRows.lean that lists a variable, with what it lists TIED to the program's text (the seventh form; the later family's looks); each row that meets fmt, with fmt's text TOLD by the authors' own Lean function (tested against real Go, not proved from fmt's source: count such statements apart). THE CARD IS WHAT COUNTS. Prove the row's statement (the work); the ties are given (YtmoaoiakmmbpoaaGreatDoorTie.lean); close each card by the builder's one call (the guide's Derived/Test/ToyasCard.lean, 'card_holds'). Laid BY PROGRAM, IN A SANDBOX (cutbox-door.mjs). By AI agents, Wed Nov 11 2026. No macro, syntax, notation, axiom, sorry.
-/
import Derived.Test.YtmoaoiakmmbpoaaGreatDoorRows
import GoSem.ClaimSeven
namespace Go.Proofs.YtmoaoiakmmbpoaaGreatDoor
namespace Rows

/-- THE TIED CARD OF 'algoristlaw30.HypothesisFollows'. -/
def hypothesisFollowsCard : Claim7 := { stood := { row := hypothesisFollowsRow, standIns := [], harness := (true, "c030f6750b38b6128a824b0f74d130113eb2062d647291bbdc992babdba71ab8"), looks := true }, kinds := [], alts := [], laidByText := true, laidKinds := [.data], laidTests := true, laidLooks := .later }
def HypothesisFollowsCardSaid : Prop := Claim7.holds Tryz.pinned (.plain (OpenSpec.ofChange hypothesisFollowsSpec)) hypothesisFollowsCard

/-- THE TIED CARD OF 'algoristlaw30.HypothesisMonotone'. -/
def hypothesisMonotoneCard : Claim7 := { stood := { row := hypothesisMonotoneRow, standIns := [], harness := (true, "c030f6750b38b6128a824b0f74d130113eb2062d647291bbdc992babdba71ab8"), looks := true }, kinds := [], alts := [], laidByText := true, laidKinds := [.data], laidTests := true, laidLooks := .later }
def HypothesisMonotoneCardSaid : Prop := Claim7.holds Tryz.pinned (.plain (OpenSpec.ofChange hypothesisMonotoneSpec)) hypothesisMonotoneCard

/-- THE TIED CARD OF 'algoristlaw30.HypothesisRests'. -/
def hypothesisRestsCard : Claim7 := { stood := { row := hypothesisRestsRow, standIns := [], harness := (true, "c030f6750b38b6128a824b0f74d130113eb2062d647291bbdc992babdba71ab8"), looks := true }, kinds := [], alts := [], laidByText := true, laidKinds := [.data], laidTests := true, laidLooks := .later }
def HypothesisRestsCardSaid : Prop := Claim7.holds Tryz.pinned (.plain (OpenSpec.ofChange hypothesisRestsSpec)) hypothesisRestsCard

/-- THE TIED CARD OF 'algoristlaw30.HypothesisReplaces'. -/
def hypothesisReplacesCard : Claim7 := { stood := { row := hypothesisReplacesRow, standIns := [], harness := (true, "c030f6750b38b6128a824b0f74d130113eb2062d647291bbdc992babdba71ab8"), looks := true }, kinds := [], alts := [], laidByText := true, laidKinds := [.data], laidTests := true, laidLooks := .later }
def HypothesisReplacesCardSaid : Prop := Claim7.holds Tryz.pinned (.plain (OpenSpec.ofChange hypothesisReplacesSpec)) hypothesisReplacesCard

/-- THE TIED CARD OF 'algoristlaw30.HypothesisMatchesReference'. -/
def hypothesisMatchesReferenceCard : Claim7 := { stood := { row := hypothesisMatchesReferenceRow, standIns := [], harness := (true, "c030f6750b38b6128a824b0f74d130113eb2062d647291bbdc992babdba71ab8"), looks := true }, kinds := [], alts := [], laidByText := true, laidKinds := [.data], laidTests := true, laidLooks := .later }
def HypothesisMatchesReferenceCardSaid : Prop := Claim7.holds Tryz.pinned (.plain (OpenSpec.ofChange hypothesisMatchesReferenceSpec)) hypothesisMatchesReferenceCard

/-- THE TIED CARD OF 'algoristlaw30.HypothesisOrder'. -/
def hypothesisOrderCard : Claim7 := { stood := { row := hypothesisOrderRow, standIns := [], harness := (true, "c030f6750b38b6128a824b0f74d130113eb2062d647291bbdc992babdba71ab8"), looks := true }, kinds := [], alts := [], laidByText := true, laidKinds := [.data], laidTests := true, laidLooks := .later }
def HypothesisOrderCardSaid : Prop := Claim7.holds Tryz.pinned (.plain (OpenSpec.ofChange hypothesisOrderSpec)) hypothesisOrderCard

/-- THE SECOND FORM's CARD OF 'algoristlaw30.HypothesisFollows'. -/
def hypothesisFollowsUptoCard : Claim7 := { stood := { row := hypothesisFollowsUptoRow, standIns := [], harness := (true, "c030f6750b38b6128a824b0f74d130113eb2062d647291bbdc992babdba71ab8"), looks := true }, kinds := [], alts := [], laidByText := true, laidKinds := [.data], laidTests := true, laidLooks := .later }
def HypothesisFollowsUptoCardSaid : Prop := Claim7.holds Tryz.pinned (.plain (OpenSpec.upto hypothesisFollowsSpec)) hypothesisFollowsUptoCard

/-- THE SECOND FORM's CARD OF 'algoristlaw30.HypothesisMonotone'. -/
def hypothesisMonotoneUptoCard : Claim7 := { stood := { row := hypothesisMonotoneUptoRow, standIns := [], harness := (true, "c030f6750b38b6128a824b0f74d130113eb2062d647291bbdc992babdba71ab8"), looks := true }, kinds := [], alts := [], laidByText := true, laidKinds := [.data], laidTests := true, laidLooks := .later }
def HypothesisMonotoneUptoCardSaid : Prop := Claim7.holds Tryz.pinned (.plain (OpenSpec.upto hypothesisMonotoneSpec)) hypothesisMonotoneUptoCard

/-- THE SECOND FORM's CARD OF 'algoristlaw30.HypothesisRests'. -/
def hypothesisRestsUptoCard : Claim7 := { stood := { row := hypothesisRestsUptoRow, standIns := [], harness := (true, "c030f6750b38b6128a824b0f74d130113eb2062d647291bbdc992babdba71ab8"), looks := true }, kinds := [], alts := [], laidByText := true, laidKinds := [.data], laidTests := true, laidLooks := .later }
def HypothesisRestsUptoCardSaid : Prop := Claim7.holds Tryz.pinned (.plain (OpenSpec.upto hypothesisRestsSpec)) hypothesisRestsUptoCard

/-- THE SECOND FORM's CARD OF 'algoristlaw30.HypothesisReplaces'. -/
def hypothesisReplacesUptoCard : Claim7 := { stood := { row := hypothesisReplacesUptoRow, standIns := [], harness := (true, "c030f6750b38b6128a824b0f74d130113eb2062d647291bbdc992babdba71ab8"), looks := true }, kinds := [], alts := [], laidByText := true, laidKinds := [.data], laidTests := true, laidLooks := .later }
def HypothesisReplacesUptoCardSaid : Prop := Claim7.holds Tryz.pinned (.plain (OpenSpec.upto hypothesisReplacesSpec)) hypothesisReplacesUptoCard

/-- THE SECOND FORM's CARD OF 'algoristlaw30.HypothesisMatchesReference'. -/
def hypothesisMatchesReferenceUptoCard : Claim7 := { stood := { row := hypothesisMatchesReferenceUptoRow, standIns := [], harness := (true, "c030f6750b38b6128a824b0f74d130113eb2062d647291bbdc992babdba71ab8"), looks := true }, kinds := [], alts := [], laidByText := true, laidKinds := [.data], laidTests := true, laidLooks := .later }
def HypothesisMatchesReferenceUptoCardSaid : Prop := Claim7.holds Tryz.pinned (.plain (OpenSpec.upto hypothesisMatchesReferenceSpec)) hypothesisMatchesReferenceUptoCard

/-- THE SECOND FORM's CARD OF 'algoristlaw30.HypothesisOrder'. -/
def hypothesisOrderUptoCard : Claim7 := { stood := { row := hypothesisOrderUptoRow, standIns := [], harness := (true, "c030f6750b38b6128a824b0f74d130113eb2062d647291bbdc992babdba71ab8"), looks := true }, kinds := [], alts := [], laidByText := true, laidKinds := [.data], laidTests := true, laidLooks := .later }
def HypothesisOrderUptoCardSaid : Prop := Claim7.holds Tryz.pinned (.plain (OpenSpec.upto hypothesisOrderSpec)) hypothesisOrderUptoCard
end Rows
end Go.Proofs.YtmoaoiakmmbpoaaGreatDoor
