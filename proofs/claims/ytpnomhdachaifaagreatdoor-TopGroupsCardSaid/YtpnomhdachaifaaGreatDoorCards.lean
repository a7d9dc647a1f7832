/-
  DERIVED. GIVEN WITH THE SEED: THE CARDS: each row of YtpnomhdachaifaaGreatDoorRows.lean that lists a variable, with what it lists TIED to the program's text (the seventh form; the later family's looks); each row that meets fmt, with fmt's text TOLD by the authors' own Lean function (tested against real Go, not proved from fmt's source: count such statements apart). THE CARD IS WHAT COUNTS. Prove the row's statement (the work); the ties are given (YtpnomhdachaifaaGreatDoorTie.lean); close each card by the builder's one call (the guide's Derived/Test/ToyasCard.lean, 'card_holds'). Laid BY PROGRAM, IN A SANDBOX (cutbox-door.mjs). By AI agents, Wed Nov 11 2026. No macro, syntax, notation, axiom, sorry.
-/
import Derived.Test.YtpnomhdachaifaaGreatDoorRows
import GoSem.ClaimSeven
namespace Go.Proofs.YtpnomhdachaifaaGreatDoor
namespace Rows

/-- THE TIED CARD OF 'algoristtop.TopGroups'. -/
def topGroupsCard : Claim7 := { stood := { row := topGroupsRow, standIns := [], harness := (true, "4311f64e64503d44695d1b12870dc2169ef8809b9e6061526736ec17ab7e7cd5"), looks := false }, kinds := [], alts := [], laidByText := true, laidKinds := [.data, .data, .data, .data], laidTests := true, laidLooks := .later }
def TopGroupsCardSaid : Prop := Claim7.holds Tryz.pinned (.plain (OpenSpec.ofChange topGroupsSpec)) topGroupsCard

/-- THE SECOND FORM's CARD OF 'algoristtop.TopGroups'. -/
def topGroupsUptoCard : Claim7 := { stood := { row := topGroupsUptoRow, standIns := [], harness := (true, "4311f64e64503d44695d1b12870dc2169ef8809b9e6061526736ec17ab7e7cd5"), looks := false }, kinds := [], alts := [], laidByText := true, laidKinds := [.data, .data, .data, .data], laidTests := true, laidLooks := .later }
def TopGroupsUptoCardSaid : Prop := Claim7.holds Tryz.pinned (.plain (OpenSpec.upto topGroupsSpec)) topGroupsUptoCard
end Rows
end Go.Proofs.YtpnomhdachaifaaGreatDoor
