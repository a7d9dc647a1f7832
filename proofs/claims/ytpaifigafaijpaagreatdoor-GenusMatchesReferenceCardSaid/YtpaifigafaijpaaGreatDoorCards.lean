/-
  DERIVED. GIVEN WITH THE SEED: THE CARDS: each row of YtpaifigafaijpaaGreatDoorRows.lean that lists a variable, with what it lists TIED to the program's text (the seventh form; the later family's looks); each row that meets fmt, with fmt's text TOLD by the authors' own Lean function (tested against real Go, not proved from fmt's source: count such statements apart). THE CARD IS WHAT COUNTS. Prove the row's statement (the work); the ties are given (YtpaifigafaijpaaGreatDoorTie.lean); close each card by the builder's one call (the guide's Derived/Test/ToyasCard.lean, 'card_holds'). Laid BY PROGRAM, IN A SANDBOX (cutbox-door.mjs). By AI agents, Wed Nov 11 2026. No macro, syntax, notation, axiom, sorry.
-/
import Derived.Test.YtpaifigafaijpaaGreatDoorRows
import GoSem.ClaimSeven
namespace Go.Proofs.YtpaifigafaijpaaGreatDoor
namespace Rows

/-- THE TIED CARD OF 'algoristlaw10.GenusMatchesReference'. -/
def genusMatchesReferenceCard : Claim7 := { stood := { row := genusMatchesReferenceRow, standIns := [], harness := (true, "c221ffdd1b0219b0cef910423a669e61d67c0e99a60bd4ff81917b3e8781c845"), looks := false }, kinds := [], alts := [], laidByText := true, laidKinds := [.data], laidTests := true, laidLooks := .later }
def GenusMatchesReferenceCardSaid : Prop := Claim7.holds Tryz.pinned (.plain (OpenSpec.ofChange genusMatchesReferenceSpec)) genusMatchesReferenceCard

/-- THE TIED CARD OF 'algoristlaw10.GenusNumbers'. -/
def genusNumbersCard : Claim7 := { stood := { row := genusNumbersRow, standIns := [], harness := (true, "c221ffdd1b0219b0cef910423a669e61d67c0e99a60bd4ff81917b3e8781c845"), looks := false }, kinds := [], alts := [], laidByText := true, laidKinds := [.data], laidTests := true, laidLooks := .later }
def GenusNumbersCardSaid : Prop := Claim7.holds Tryz.pinned (.plain (OpenSpec.ofChange genusNumbersSpec)) genusNumbersCard

/-- THE TIED CARD OF 'algoristlaw10.GenusCounts'. -/
def genusCountsCard : Claim7 := { stood := { row := genusCountsRow, standIns := [], harness := (true, "c221ffdd1b0219b0cef910423a669e61d67c0e99a60bd4ff81917b3e8781c845"), looks := false }, kinds := [], alts := [], laidByText := true, laidKinds := [.data], laidTests := true, laidLooks := .later }
def GenusCountsCardSaid : Prop := Claim7.holds Tryz.pinned (.plain (OpenSpec.ofChange genusCountsSpec)) genusCountsCard

/-- THE TIED CARD OF 'algoristlaw10.GenusAmbiguous'. -/
def genusAmbiguousCard : Claim7 := { stood := { row := genusAmbiguousRow, standIns := [], harness := (true, "c221ffdd1b0219b0cef910423a669e61d67c0e99a60bd4ff81917b3e8781c845"), looks := false }, kinds := [], alts := [], laidByText := true, laidKinds := [.data], laidTests := true, laidLooks := .later }
def GenusAmbiguousCardSaid : Prop := Claim7.holds Tryz.pinned (.plain (OpenSpec.ofChange genusAmbiguousSpec)) genusAmbiguousCard

/-- THE TIED CARD OF 'algoristlaw09.ComposeMatchesReference'. -/
def composeMatchesReferenceCard : Claim7 := { stood := { row := composeMatchesReferenceRow, standIns := [], harness := (true, "c221ffdd1b0219b0cef910423a669e61d67c0e99a60bd4ff81917b3e8781c845"), looks := false }, kinds := [], alts := [], laidByText := true, laidKinds := [.data], laidTests := true, laidLooks := .later }
def ComposeMatchesReferenceCardSaid : Prop := Claim7.holds Tryz.pinned (.plain (OpenSpec.ofChange composeMatchesReferenceSpec)) composeMatchesReferenceCard

/-- THE TIED CARD OF 'algoristlaw09.ComposeValues'. -/
def composeValuesCard : Claim7 := { stood := { row := composeValuesRow, standIns := [], harness := (true, "c221ffdd1b0219b0cef910423a669e61d67c0e99a60bd4ff81917b3e8781c845"), looks := false }, kinds := [], alts := [], laidByText := true, laidKinds := [.data], laidTests := true, laidLooks := .later }
def ComposeValuesCardSaid : Prop := Claim7.holds Tryz.pinned (.plain (OpenSpec.ofChange composeValuesSpec)) composeValuesCard

/-- THE TIED CARD OF 'algoristlaw09.ComposePowers'. -/
def composePowersCard : Claim7 := { stood := { row := composePowersRow, standIns := [], harness := (true, "c221ffdd1b0219b0cef910423a669e61d67c0e99a60bd4ff81917b3e8781c845"), looks := false }, kinds := [], alts := [], laidByText := true, laidKinds := [.data], laidTests := true, laidLooks := .later }
def ComposePowersCardSaid : Prop := Claim7.holds Tryz.pinned (.plain (OpenSpec.ofChange composePowersSpec)) composePowersCard

/-- THE TIED CARD OF 'algoristlaw09.ComposeRoots'. -/
def composeRootsCard : Claim7 := { stood := { row := composeRootsRow, standIns := [], harness := (true, "c221ffdd1b0219b0cef910423a669e61d67c0e99a60bd4ff81917b3e8781c845"), looks := false }, kinds := [], alts := [], laidByText := true, laidKinds := [.data], laidTests := true, laidLooks := .later }
def ComposeRootsCardSaid : Prop := Claim7.holds Tryz.pinned (.plain (OpenSpec.ofChange composeRootsSpec)) composeRootsCard

/-- THE TIED CARD OF 'algoristlaw09.ComposeGroup'. -/
def composeGroupCard : Claim7 := { stood := { row := composeGroupRow, standIns := [], harness := (true, "c221ffdd1b0219b0cef910423a669e61d67c0e99a60bd4ff81917b3e8781c845"), looks := false }, kinds := [], alts := [], laidByText := true, laidKinds := [.data], laidTests := true, laidLooks := .later }
def ComposeGroupCardSaid : Prop := Claim7.holds Tryz.pinned (.plain (OpenSpec.ofChange composeGroupSpec)) composeGroupCard

/-- THE TIED CARD OF 'algoristlaw09.ComposePrimes'. -/
def composePrimesCard : Claim7 := { stood := { row := composePrimesRow, standIns := [], harness := (true, "c221ffdd1b0219b0cef910423a669e61d67c0e99a60bd4ff81917b3e8781c845"), looks := false }, kinds := [], alts := [], laidByText := true, laidKinds := [.data], laidTests := true, laidLooks := .later }
def ComposePrimesCardSaid : Prop := Claim7.holds Tryz.pinned (.plain (OpenSpec.ofChange composePrimesSpec)) composePrimesCard

/-- THE TIED CARD OF 'algoristlaw10.GenusProducts'. -/
def genusProductsCard : Claim7 := { stood := { row := genusProductsRow, standIns := [], harness := (true, "c221ffdd1b0219b0cef910423a669e61d67c0e99a60bd4ff81917b3e8781c845"), looks := false }, kinds := [], alts := [], laidByText := true, laidKinds := [.data], laidTests := true, laidLooks := .later }
def GenusProductsCardSaid : Prop := Claim7.holds Tryz.pinned (.plain (OpenSpec.ofChange genusProductsSpec)) genusProductsCard

/-- THE TIED CARD OF 'algoristlaw10.GenusSquares'. -/
def genusSquaresCard : Claim7 := { stood := { row := genusSquaresRow, standIns := [], harness := (true, "c221ffdd1b0219b0cef910423a669e61d67c0e99a60bd4ff81917b3e8781c845"), looks := false }, kinds := [], alts := [], laidByText := true, laidKinds := [.data], laidTests := true, laidLooks := .later }
def GenusSquaresCardSaid : Prop := Claim7.holds Tryz.pinned (.plain (OpenSpec.ofChange genusSquaresSpec)) genusSquaresCard

/-- THE SECOND FORM's CARD OF 'algoristlaw10.GenusMatchesReference'. -/
def genusMatchesReferenceUptoCard : Claim7 := { stood := { row := genusMatchesReferenceUptoRow, standIns := [], harness := (true, "c221ffdd1b0219b0cef910423a669e61d67c0e99a60bd4ff81917b3e8781c845"), looks := false }, kinds := [], alts := [], laidByText := true, laidKinds := [.data], laidTests := true, laidLooks := .later }
def GenusMatchesReferenceUptoCardSaid : Prop := Claim7.holds Tryz.pinned (.plain (OpenSpec.upto genusMatchesReferenceSpec)) genusMatchesReferenceUptoCard

/-- THE SECOND FORM's CARD OF 'algoristlaw10.GenusNumbers'. -/
def genusNumbersUptoCard : Claim7 := { stood := { row := genusNumbersUptoRow, standIns := [], harness := (true, "c221ffdd1b0219b0cef910423a669e61d67c0e99a60bd4ff81917b3e8781c845"), looks := false }, kinds := [], alts := [], laidByText := true, laidKinds := [.data], laidTests := true, laidLooks := .later }
def GenusNumbersUptoCardSaid : Prop := Claim7.holds Tryz.pinned (.plain (OpenSpec.upto genusNumbersSpec)) genusNumbersUptoCard

/-- THE SECOND FORM's CARD OF 'algoristlaw10.GenusCounts'. -/
def genusCountsUptoCard : Claim7 := { stood := { row := genusCountsUptoRow, standIns := [], harness := (true, "c221ffdd1b0219b0cef910423a669e61d67c0e99a60bd4ff81917b3e8781c845"), looks := false }, kinds := [], alts := [], laidByText := true, laidKinds := [.data], laidTests := true, laidLooks := .later }
def GenusCountsUptoCardSaid : Prop := Claim7.holds Tryz.pinned (.plain (OpenSpec.upto genusCountsSpec)) genusCountsUptoCard

/-- THE SECOND FORM's CARD OF 'algoristlaw10.GenusAmbiguous'. -/
def genusAmbiguousUptoCard : Claim7 := { stood := { row := genusAmbiguousUptoRow, standIns := [], harness := (true, "c221ffdd1b0219b0cef910423a669e61d67c0e99a60bd4ff81917b3e8781c845"), looks := false }, kinds := [], alts := [], laidByText := true, laidKinds := [.data], laidTests := true, laidLooks := .later }
def GenusAmbiguousUptoCardSaid : Prop := Claim7.holds Tryz.pinned (.plain (OpenSpec.upto genusAmbiguousSpec)) genusAmbiguousUptoCard

/-- THE SECOND FORM's CARD OF 'algoristlaw09.ComposeMatchesReference'. -/
def composeMatchesReferenceUptoCard : Claim7 := { stood := { row := composeMatchesReferenceUptoRow, standIns := [], harness := (true, "c221ffdd1b0219b0cef910423a669e61d67c0e99a60bd4ff81917b3e8781c845"), looks := false }, kinds := [], alts := [], laidByText := true, laidKinds := [.data], laidTests := true, laidLooks := .later }
def ComposeMatchesReferenceUptoCardSaid : Prop := Claim7.holds Tryz.pinned (.plain (OpenSpec.upto composeMatchesReferenceSpec)) composeMatchesReferenceUptoCard

/-- THE SECOND FORM's CARD OF 'algoristlaw09.ComposeValues'. -/
def composeValuesUptoCard : Claim7 := { stood := { row := composeValuesUptoRow, standIns := [], harness := (true, "c221ffdd1b0219b0cef910423a669e61d67c0e99a60bd4ff81917b3e8781c845"), looks := false }, kinds := [], alts := [], laidByText := true, laidKinds := [.data], laidTests := true, laidLooks := .later }
def ComposeValuesUptoCardSaid : Prop := Claim7.holds Tryz.pinned (.plain (OpenSpec.upto composeValuesSpec)) composeValuesUptoCard

/-- THE SECOND FORM's CARD OF 'algoristlaw09.ComposePowers'. -/
def composePowersUptoCard : Claim7 := { stood := { row := composePowersUptoRow, standIns := [], harness := (true, "c221ffdd1b0219b0cef910423a669e61d67c0e99a60bd4ff81917b3e8781c845"), looks := false }, kinds := [], alts := [], laidByText := true, laidKinds := [.data], laidTests := true, laidLooks := .later }
def ComposePowersUptoCardSaid : Prop := Claim7.holds Tryz.pinned (.plain (OpenSpec.upto composePowersSpec)) composePowersUptoCard

/-- THE SECOND FORM's CARD OF 'algoristlaw09.ComposeRoots'. -/
def composeRootsUptoCard : Claim7 := { stood := { row := composeRootsUptoRow, standIns := [], harness := (true, "c221ffdd1b0219b0cef910423a669e61d67c0e99a60bd4ff81917b3e8781c845"), looks := false }, kinds := [], alts := [], laidByText := true, laidKinds := [.data], laidTests := true, laidLooks := .later }
def ComposeRootsUptoCardSaid : Prop := Claim7.holds Tryz.pinned (.plain (OpenSpec.upto composeRootsSpec)) composeRootsUptoCard

/-- THE SECOND FORM's CARD OF 'algoristlaw09.ComposeGroup'. -/
def composeGroupUptoCard : Claim7 := { stood := { row := composeGroupUptoRow, standIns := [], harness := (true, "c221ffdd1b0219b0cef910423a669e61d67c0e99a60bd4ff81917b3e8781c845"), looks := false }, kinds := [], alts := [], laidByText := true, laidKinds := [.data], laidTests := true, laidLooks := .later }
def ComposeGroupUptoCardSaid : Prop := Claim7.holds Tryz.pinned (.plain (OpenSpec.upto composeGroupSpec)) composeGroupUptoCard

/-- THE SECOND FORM's CARD OF 'algoristlaw09.ComposePrimes'. -/
def composePrimesUptoCard : Claim7 := { stood := { row := composePrimesUptoRow, standIns := [], harness := (true, "c221ffdd1b0219b0cef910423a669e61d67c0e99a60bd4ff81917b3e8781c845"), looks := false }, kinds := [], alts := [], laidByText := true, laidKinds := [.data], laidTests := true, laidLooks := .later }
def ComposePrimesUptoCardSaid : Prop := Claim7.holds Tryz.pinned (.plain (OpenSpec.upto composePrimesSpec)) composePrimesUptoCard

/-- THE SECOND FORM's CARD OF 'algoristlaw10.GenusProducts'. -/
def genusProductsUptoCard : Claim7 := { stood := { row := genusProductsUptoRow, standIns := [], harness := (true, "c221ffdd1b0219b0cef910423a669e61d67c0e99a60bd4ff81917b3e8781c845"), looks := false }, kinds := [], alts := [], laidByText := true, laidKinds := [.data], laidTests := true, laidLooks := .later }
def GenusProductsUptoCardSaid : Prop := Claim7.holds Tryz.pinned (.plain (OpenSpec.upto genusProductsSpec)) genusProductsUptoCard

/-- THE SECOND FORM's CARD OF 'algoristlaw10.GenusSquares'. -/
def genusSquaresUptoCard : Claim7 := { stood := { row := genusSquaresUptoRow, standIns := [], harness := (true, "c221ffdd1b0219b0cef910423a669e61d67c0e99a60bd4ff81917b3e8781c845"), looks := false }, kinds := [], alts := [], laidByText := true, laidKinds := [.data], laidTests := true, laidLooks := .later }
def GenusSquaresUptoCardSaid : Prop := Claim7.holds Tryz.pinned (.plain (OpenSpec.upto genusSquaresSpec)) genusSquaresUptoCard
end Rows
end Go.Proofs.YtpaifigafaijpaaGreatDoor
