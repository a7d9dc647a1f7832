/-
  NARROWER THAN 'FOR EVERY INPUT', by the rows' own cells (each row's printed sentence says how): GenusMatchesReference: laid · GenusNumbers: laid · GenusCounts: laid · GenusAmbiguous: laid · ComposeMatchesReference: laid · ComposeValues: laid · ComposePowers: laid · ComposeRoots: laid · ComposeGroup: laid · ComposePrimes: laid · GenusProducts: laid · GenusSquares: laid.
  DERIVED. THE GIVEN ROWS OF THIS SEAT. 12 by the template 'for every input the law returns true; each argument reads behind the call as it read before'; 0 by the template 'total and deterministic' (their statements: YtpaifigafaijpaaGreatDoorTotals.lean).
  GIVEN WITH THE SEED: the statements are not yours to turn. If you find one false, say at which input.
  Laid BY PROGRAM, IN A SANDBOX (cutbox-rows.mjs): the forced cells as the released guide's own fill.sh prints them over the translation 00f6a4fdb78ec51c… (all of the seat's roots in one cut). By AI agents, Wed Nov 11 2026. No macro, syntax, notation, axiom, sorry.
-/
import Derived.Test.YtpaifigafaijpaaGreatDoorChecked
import GoSem.Claim
import GoSem.ClaimJoined
import GoSem.ClaimMapViews
import Derived.JoinedTies
import Derived.KernelRfl
namespace Go.Proofs.YtpaifigafaijpaaGreatDoor
/- THE CELL 'sum', in the pinned program and in every row, IS THE sha256 OF THE DUMP (.gsa) THAT YtpaifigafaijpaaGreatDoorProg.lean LOADS. Nothing in Lean hashes anything: it is a label: what it is worth is what the hold of that sum in a sandbox is worth. -/
noncomputable def Tryz.pinned : Pinned := { name := "ytpaifigafaijpaagreatdoor", sum := "00f6a4fdb78ec51cfbfcc111b4179979ff50fdfb47ebb97b79c438fe7f7224eb", checked := Tryz.checked }
namespace Rows
def none {H : Type} : Left H := { results := [], args := [] }

/- WHAT THE LISTED PACKAGE-LEVEL VARIABLES READ AS WHEN THE CALL BEGINS. Each datum BY PROGRAM (the guide's laid-datum.mjs) off the statement by which the dump's own 'gosem.cut.vars' lays the variable. In a bare row this is a premise. The card (YtpaifigafaijpaaGreatDoorCards.lean) ties it to the program's text. -/
def laid_algorist_modular_signs {H : Type} : DataW H := .agg [.lit (.int .i64 0), .lit (.int .i64 1), .lit (.int .i64 0), .lit (.int .i64 (-1)), .lit (.int .i64 0), .lit (.int .i64 (-1)), .lit (.int .i64 0), .lit (.int .i64 1)]

/-- 'algoristlaw10.GenusMatchesReference': WHATEVER THE INPUT: true; the input reads as it did. -/
def genusMatchesReferenceSpec : ChangeSpec := { name := "genusMatchesReference", fn := fun _ => fun
  | [d1, d2, d3] => { results := [.lit (.bool true)], args := [d1, d2, d3] }
  | _ => none }
def genusMatchesReferenceRow : OpenClaim := { program := "ytpaifigafaijpaagreatdoor", sum := "00f6a4fdb78ec51cfbfcc111b4179979ff50fdfb47ebb97b79c438fe7f7224eb", func := "algorist/algoristlaw10.GenusMatchesReference", spec := "genusMatchesReference", unfollowed := true, recurses := true, named := ["math/bits.overflowError", "algorist/modular.signs"], apart := false, laid := [("algorist/modular.signs", laid_algorist_modular_signs)] }
def GenusMatchesReferenceSaid : Prop := genusMatchesReferenceRow.holds Tryz.pinned (OpenSpec.ofChange genusMatchesReferenceSpec)

/-- ITS FALSE NEIGHBOUR: 'it returns false'. Refute it at one input. -/
def genusMatchesReferenceWrong : ChangeSpec := { name := "genusMatchesReference", fn := fun _ => fun
  | [d1, d2, d3] => { results := [.lit (.bool false)], args := [d1, d2, d3] }
  | _ => none }
def GenusMatchesReferenceWrongFalsely : Prop := genusMatchesReferenceRow.holds Tryz.pinned (OpenSpec.ofChange genusMatchesReferenceWrong)

/-- 'algoristlaw10.GenusNumbers': WHATEVER THE INPUT: true; the input reads as it did. -/
def genusNumbersSpec : ChangeSpec := { name := "genusNumbers", fn := fun _ => fun
  | [d1, d2] => { results := [.lit (.bool true)], args := [d1, d2] }
  | _ => none }
def genusNumbersRow : OpenClaim := { program := "ytpaifigafaijpaagreatdoor", sum := "00f6a4fdb78ec51cfbfcc111b4179979ff50fdfb47ebb97b79c438fe7f7224eb", func := "algorist/algoristlaw10.GenusNumbers", spec := "genusNumbers", unfollowed := true, recurses := true, named := ["math/bits.overflowError", "algorist/modular.signs"], apart := false, laid := [("algorist/modular.signs", laid_algorist_modular_signs)] }
def GenusNumbersSaid : Prop := genusNumbersRow.holds Tryz.pinned (OpenSpec.ofChange genusNumbersSpec)

/-- ITS FALSE NEIGHBOUR: 'it returns false'. Refute it at one input. -/
def genusNumbersWrong : ChangeSpec := { name := "genusNumbers", fn := fun _ => fun
  | [d1, d2] => { results := [.lit (.bool false)], args := [d1, d2] }
  | _ => none }
def GenusNumbersWrongFalsely : Prop := genusNumbersRow.holds Tryz.pinned (OpenSpec.ofChange genusNumbersWrong)

/-- 'algoristlaw10.GenusCounts': WHATEVER THE INPUT: true; the input reads as it did. -/
def genusCountsSpec : ChangeSpec := { name := "genusCounts", fn := fun _ => fun
  | [d] => { results := [.lit (.bool true)], args := [d] }
  | _ => none }
def genusCountsRow : OpenClaim := { program := "ytpaifigafaijpaagreatdoor", sum := "00f6a4fdb78ec51cfbfcc111b4179979ff50fdfb47ebb97b79c438fe7f7224eb", func := "algorist/algoristlaw10.GenusCounts", spec := "genusCounts", unfollowed := true, recurses := true, named := ["math/bits.overflowError", "algorist/modular.signs"], apart := false, laid := [("algorist/modular.signs", laid_algorist_modular_signs)] }
def GenusCountsSaid : Prop := genusCountsRow.holds Tryz.pinned (OpenSpec.ofChange genusCountsSpec)

/-- ITS FALSE NEIGHBOUR: 'it returns false'. Refute it at one input. -/
def genusCountsWrong : ChangeSpec := { name := "genusCounts", fn := fun _ => fun
  | [d] => { results := [.lit (.bool false)], args := [d] }
  | _ => none }
def GenusCountsWrongFalsely : Prop := genusCountsRow.holds Tryz.pinned (OpenSpec.ofChange genusCountsWrong)

/-- 'algoristlaw10.GenusAmbiguous': WHATEVER THE INPUT: true; the input reads as it did. -/
def genusAmbiguousSpec : ChangeSpec := { name := "genusAmbiguous", fn := fun _ => fun
  | [d] => { results := [.lit (.bool true)], args := [d] }
  | _ => none }
def genusAmbiguousRow : OpenClaim := { program := "ytpaifigafaijpaagreatdoor", sum := "00f6a4fdb78ec51cfbfcc111b4179979ff50fdfb47ebb97b79c438fe7f7224eb", func := "algorist/algoristlaw10.GenusAmbiguous", spec := "genusAmbiguous", unfollowed := true, recurses := true, named := ["math/bits.overflowError", "algorist/modular.signs"], apart := false, laid := [("algorist/modular.signs", laid_algorist_modular_signs)] }
def GenusAmbiguousSaid : Prop := genusAmbiguousRow.holds Tryz.pinned (OpenSpec.ofChange genusAmbiguousSpec)

/-- ITS FALSE NEIGHBOUR: 'it returns false'. Refute it at one input. -/
def genusAmbiguousWrong : ChangeSpec := { name := "genusAmbiguous", fn := fun _ => fun
  | [d] => { results := [.lit (.bool false)], args := [d] }
  | _ => none }
def GenusAmbiguousWrongFalsely : Prop := genusAmbiguousRow.holds Tryz.pinned (OpenSpec.ofChange genusAmbiguousWrong)

/-- 'algoristlaw09.ComposeMatchesReference': WHATEVER THE INPUT: true; the input reads as it did. -/
def composeMatchesReferenceSpec : ChangeSpec := { name := "composeMatchesReference", fn := fun _ => fun
  | [d1, d2, d3] => { results := [.lit (.bool true)], args := [d1, d2, d3] }
  | _ => none }
def composeMatchesReferenceRow : OpenClaim := { program := "ytpaifigafaijpaagreatdoor", sum := "00f6a4fdb78ec51cfbfcc111b4179979ff50fdfb47ebb97b79c438fe7f7224eb", func := "algorist/algoristlaw09.ComposeMatchesReference", spec := "composeMatchesReference", unfollowed := true, recurses := true, named := ["math/bits.overflowError", "algorist/modular.signs"], apart := false, laid := [("algorist/modular.signs", laid_algorist_modular_signs)] }
def ComposeMatchesReferenceSaid : Prop := composeMatchesReferenceRow.holds Tryz.pinned (OpenSpec.ofChange composeMatchesReferenceSpec)

/-- ITS FALSE NEIGHBOUR: 'it returns false'. Refute it at one input. -/
def composeMatchesReferenceWrong : ChangeSpec := { name := "composeMatchesReference", fn := fun _ => fun
  | [d1, d2, d3] => { results := [.lit (.bool false)], args := [d1, d2, d3] }
  | _ => none }
def ComposeMatchesReferenceWrongFalsely : Prop := composeMatchesReferenceRow.holds Tryz.pinned (OpenSpec.ofChange composeMatchesReferenceWrong)

/-- 'algoristlaw09.ComposeValues': WHATEVER THE INPUT: true; the input reads as it did. -/
def composeValuesSpec : ChangeSpec := { name := "composeValues", fn := fun _ => fun
  | [d1, d2] => { results := [.lit (.bool true)], args := [d1, d2] }
  | _ => none }
def composeValuesRow : OpenClaim := { program := "ytpaifigafaijpaagreatdoor", sum := "00f6a4fdb78ec51cfbfcc111b4179979ff50fdfb47ebb97b79c438fe7f7224eb", func := "algorist/algoristlaw09.ComposeValues", spec := "composeValues", unfollowed := true, recurses := true, named := ["math/bits.overflowError", "algorist/modular.signs"], apart := false, laid := [("algorist/modular.signs", laid_algorist_modular_signs)] }
def ComposeValuesSaid : Prop := composeValuesRow.holds Tryz.pinned (OpenSpec.ofChange composeValuesSpec)

/-- ITS FALSE NEIGHBOUR: 'it returns false'. Refute it at one input. -/
def composeValuesWrong : ChangeSpec := { name := "composeValues", fn := fun _ => fun
  | [d1, d2] => { results := [.lit (.bool false)], args := [d1, d2] }
  | _ => none }
def ComposeValuesWrongFalsely : Prop := composeValuesRow.holds Tryz.pinned (OpenSpec.ofChange composeValuesWrong)

/-- 'algoristlaw09.ComposePowers': WHATEVER THE INPUT: true; the input reads as it did. -/
def composePowersSpec : ChangeSpec := { name := "composePowers", fn := fun _ => fun
  | [d1, d2, d3] => { results := [.lit (.bool true)], args := [d1, d2, d3] }
  | _ => none }
def composePowersRow : OpenClaim := { program := "ytpaifigafaijpaagreatdoor", sum := "00f6a4fdb78ec51cfbfcc111b4179979ff50fdfb47ebb97b79c438fe7f7224eb", func := "algorist/algoristlaw09.ComposePowers", spec := "composePowers", unfollowed := true, recurses := true, named := ["math/bits.overflowError", "algorist/modular.signs"], apart := false, laid := [("algorist/modular.signs", laid_algorist_modular_signs)] }
def ComposePowersSaid : Prop := composePowersRow.holds Tryz.pinned (OpenSpec.ofChange composePowersSpec)

/-- ITS FALSE NEIGHBOUR: 'it returns false'. Refute it at one input. -/
def composePowersWrong : ChangeSpec := { name := "composePowers", fn := fun _ => fun
  | [d1, d2, d3] => { results := [.lit (.bool false)], args := [d1, d2, d3] }
  | _ => none }
def ComposePowersWrongFalsely : Prop := composePowersRow.holds Tryz.pinned (OpenSpec.ofChange composePowersWrong)

/-- 'algoristlaw09.ComposeRoots': WHATEVER THE INPUT: true; the input reads as it did. -/
def composeRootsSpec : ChangeSpec := { name := "composeRoots", fn := fun _ => fun
  | [d] => { results := [.lit (.bool true)], args := [d] }
  | _ => none }
def composeRootsRow : OpenClaim := { program := "ytpaifigafaijpaagreatdoor", sum := "00f6a4fdb78ec51cfbfcc111b4179979ff50fdfb47ebb97b79c438fe7f7224eb", func := "algorist/algoristlaw09.ComposeRoots", spec := "composeRoots", unfollowed := true, recurses := true, named := ["math/bits.overflowError", "algorist/modular.signs"], apart := false, laid := [("algorist/modular.signs", laid_algorist_modular_signs)] }
def ComposeRootsSaid : Prop := composeRootsRow.holds Tryz.pinned (OpenSpec.ofChange composeRootsSpec)

/-- ITS FALSE NEIGHBOUR: 'it returns false'. Refute it at one input. -/
def composeRootsWrong : ChangeSpec := { name := "composeRoots", fn := fun _ => fun
  | [d] => { results := [.lit (.bool false)], args := [d] }
  | _ => none }
def ComposeRootsWrongFalsely : Prop := composeRootsRow.holds Tryz.pinned (OpenSpec.ofChange composeRootsWrong)

/-- 'algoristlaw09.ComposeGroup': WHATEVER THE INPUT: true; the input reads as it did. -/
def composeGroupSpec : ChangeSpec := { name := "composeGroup", fn := fun _ => fun
  | [d] => { results := [.lit (.bool true)], args := [d] }
  | _ => none }
def composeGroupRow : OpenClaim := { program := "ytpaifigafaijpaagreatdoor", sum := "00f6a4fdb78ec51cfbfcc111b4179979ff50fdfb47ebb97b79c438fe7f7224eb", func := "algorist/algoristlaw09.ComposeGroup", spec := "composeGroup", unfollowed := true, recurses := true, named := ["math/bits.overflowError", "algorist/modular.signs"], apart := false, laid := [("algorist/modular.signs", laid_algorist_modular_signs)] }
def ComposeGroupSaid : Prop := composeGroupRow.holds Tryz.pinned (OpenSpec.ofChange composeGroupSpec)

/-- ITS FALSE NEIGHBOUR: 'it returns false'. Refute it at one input. -/
def composeGroupWrong : ChangeSpec := { name := "composeGroup", fn := fun _ => fun
  | [d] => { results := [.lit (.bool false)], args := [d] }
  | _ => none }
def ComposeGroupWrongFalsely : Prop := composeGroupRow.holds Tryz.pinned (OpenSpec.ofChange composeGroupWrong)

/-- 'algoristlaw09.ComposePrimes': WHATEVER THE INPUT: true; the input reads as it did. -/
def composePrimesSpec : ChangeSpec := { name := "composePrimes", fn := fun _ => fun
  | [d1, d2, d3] => { results := [.lit (.bool true)], args := [d1, d2, d3] }
  | _ => none }
def composePrimesRow : OpenClaim := { program := "ytpaifigafaijpaagreatdoor", sum := "00f6a4fdb78ec51cfbfcc111b4179979ff50fdfb47ebb97b79c438fe7f7224eb", func := "algorist/algoristlaw09.ComposePrimes", spec := "composePrimes", unfollowed := true, recurses := true, named := ["math/bits.overflowError", "algorist/modular.signs"], apart := false, laid := [("algorist/modular.signs", laid_algorist_modular_signs)] }
def ComposePrimesSaid : Prop := composePrimesRow.holds Tryz.pinned (OpenSpec.ofChange composePrimesSpec)

/-- ITS FALSE NEIGHBOUR: 'it returns false'. Refute it at one input. -/
def composePrimesWrong : ChangeSpec := { name := "composePrimes", fn := fun _ => fun
  | [d1, d2, d3] => { results := [.lit (.bool false)], args := [d1, d2, d3] }
  | _ => none }
def ComposePrimesWrongFalsely : Prop := composePrimesRow.holds Tryz.pinned (OpenSpec.ofChange composePrimesWrong)

/-- 'algoristlaw10.GenusProducts': WHATEVER THE INPUT: true; the input reads as it did. -/
def genusProductsSpec : ChangeSpec := { name := "genusProducts", fn := fun _ => fun
  | [d] => { results := [.lit (.bool true)], args := [d] }
  | _ => none }
def genusProductsRow : OpenClaim := { program := "ytpaifigafaijpaagreatdoor", sum := "00f6a4fdb78ec51cfbfcc111b4179979ff50fdfb47ebb97b79c438fe7f7224eb", func := "algorist/algoristlaw10.GenusProducts", spec := "genusProducts", unfollowed := true, recurses := true, named := ["math/bits.overflowError", "algorist/modular.signs"], apart := false, laid := [("algorist/modular.signs", laid_algorist_modular_signs)] }
def GenusProductsSaid : Prop := genusProductsRow.holds Tryz.pinned (OpenSpec.ofChange genusProductsSpec)

/-- ITS FALSE NEIGHBOUR: 'it returns false'. Refute it at one input. -/
def genusProductsWrong : ChangeSpec := { name := "genusProducts", fn := fun _ => fun
  | [d] => { results := [.lit (.bool false)], args := [d] }
  | _ => none }
def GenusProductsWrongFalsely : Prop := genusProductsRow.holds Tryz.pinned (OpenSpec.ofChange genusProductsWrong)

/-- 'algoristlaw10.GenusSquares': WHATEVER THE INPUT: true; the input reads as it did. -/
def genusSquaresSpec : ChangeSpec := { name := "genusSquares", fn := fun _ => fun
  | [d] => { results := [.lit (.bool true)], args := [d] }
  | _ => none }
def genusSquaresRow : OpenClaim := { program := "ytpaifigafaijpaagreatdoor", sum := "00f6a4fdb78ec51cfbfcc111b4179979ff50fdfb47ebb97b79c438fe7f7224eb", func := "algorist/algoristlaw10.GenusSquares", spec := "genusSquares", unfollowed := true, recurses := true, named := ["math/bits.overflowError", "algorist/modular.signs"], apart := false, laid := [("algorist/modular.signs", laid_algorist_modular_signs)] }
def GenusSquaresSaid : Prop := genusSquaresRow.holds Tryz.pinned (OpenSpec.ofChange genusSquaresSpec)

/-- ITS FALSE NEIGHBOUR: 'it returns false'. Refute it at one input. -/
def genusSquaresWrong : ChangeSpec := { name := "genusSquares", fn := fun _ => fun
  | [d] => { results := [.lit (.bool false)], args := [d] }
  | _ => none }
def GenusSquaresWrongFalsely : Prop := genusSquaresRow.holds Tryz.pinned (OpenSpec.ofChange genusSquaresWrong)

/- THE SECOND FORM. 'bulk': how many values and letters a reading holds, each counted each time it is reached (what is shared counts as often as it is met; a slice's spare places count too). A statement '..UptoSaid' is the law's where the arguments, and the package variables that the reading takes, are together of bulk at most 1048576: NARROWER than '..Said'. Prove '..Said' where nothing that the law and all that it calls make is longer than what came in: it says more and counts as full. Else prove '..UptoSaid'. A law counts once. -/
mutual
def uptoBulk {H : Type} : DataW H → Nat
  | .lit (.string bytes) => bytes.length + 1
  | .lit _ => 1
  | .nil => 1
  | .ptr d => uptoBulk d + 1
  | .slice elems spare => uptoBulkAll elems + uptoBulkAll spare + 1
  | .agg parts => uptoBulkAll parts + 1
  | .iface _ d => uptoBulk d + 1
  | .map entries => uptoBulkEntries entries + 1
  | .held _ => 1
def uptoBulkAll {H : Type} : List (DataW H) → Nat
  | [] => 0
  | d :: r => uptoBulk d + uptoBulkAll r
def uptoBulkEntries {H : Type} : List (Lit × DataW H) → Nat
  | [] => 0
  | x :: r => uptoBulkEntry x + uptoBulkEntries r
def uptoBulkEntry {H : Type} : Lit × DataW H → Nat
  | (.string bytes, d) => bytes.length + uptoBulk d + 1
  | (_, d) => uptoBulk d + 1
 end
def uptoSmall : (H : Type) → List (DataW H) → Bool := fun _ ds => decide (uptoBulkAll ds ≤ 1048576)
def OpenSpec.upto (s : _root_.Go.ChangeSpec) : _root_.Go.OpenSpec := { _root_.Go.OpenSpec.ofChange s with cond := some uptoSmall }

/-- 'algoristlaw10.GenusMatchesReference', WHERE WHAT IT READS IS OF BULK AT MOST 1048576: true; the input reads as it did. -/
def genusMatchesReferenceUptoRow : OpenClaim := { program := "ytpaifigafaijpaagreatdoor", sum := "00f6a4fdb78ec51cfbfcc111b4179979ff50fdfb47ebb97b79c438fe7f7224eb", func := "algorist/algoristlaw10.GenusMatchesReference", spec := "genusMatchesReference", unfollowed := true, recurses := true, named := ["math/bits.overflowError", "algorist/modular.signs"], apart := false, laid := [("algorist/modular.signs", laid_algorist_modular_signs)], narrowed := true }
def GenusMatchesReferenceUptoSaid : Prop := genusMatchesReferenceUptoRow.holds Tryz.pinned (OpenSpec.upto genusMatchesReferenceSpec)

/-- 'algoristlaw10.GenusNumbers', WHERE WHAT IT READS IS OF BULK AT MOST 1048576: true; the input reads as it did. -/
def genusNumbersUptoRow : OpenClaim := { program := "ytpaifigafaijpaagreatdoor", sum := "00f6a4fdb78ec51cfbfcc111b4179979ff50fdfb47ebb97b79c438fe7f7224eb", func := "algorist/algoristlaw10.GenusNumbers", spec := "genusNumbers", unfollowed := true, recurses := true, named := ["math/bits.overflowError", "algorist/modular.signs"], apart := false, laid := [("algorist/modular.signs", laid_algorist_modular_signs)], narrowed := true }
def GenusNumbersUptoSaid : Prop := genusNumbersUptoRow.holds Tryz.pinned (OpenSpec.upto genusNumbersSpec)

/-- 'algoristlaw10.GenusCounts', WHERE WHAT IT READS IS OF BULK AT MOST 1048576: true; the input reads as it did. -/
def genusCountsUptoRow : OpenClaim := { program := "ytpaifigafaijpaagreatdoor", sum := "00f6a4fdb78ec51cfbfcc111b4179979ff50fdfb47ebb97b79c438fe7f7224eb", func := "algorist/algoristlaw10.GenusCounts", spec := "genusCounts", unfollowed := true, recurses := true, named := ["math/bits.overflowError", "algorist/modular.signs"], apart := false, laid := [("algorist/modular.signs", laid_algorist_modular_signs)], narrowed := true }
def GenusCountsUptoSaid : Prop := genusCountsUptoRow.holds Tryz.pinned (OpenSpec.upto genusCountsSpec)

/-- 'algoristlaw10.GenusAmbiguous', WHERE WHAT IT READS IS OF BULK AT MOST 1048576: true; the input reads as it did. -/
def genusAmbiguousUptoRow : OpenClaim := { program := "ytpaifigafaijpaagreatdoor", sum := "00f6a4fdb78ec51cfbfcc111b4179979ff50fdfb47ebb97b79c438fe7f7224eb", func := "algorist/algoristlaw10.GenusAmbiguous", spec := "genusAmbiguous", unfollowed := true, recurses := true, named := ["math/bits.overflowError", "algorist/modular.signs"], apart := false, laid := [("algorist/modular.signs", laid_algorist_modular_signs)], narrowed := true }
def GenusAmbiguousUptoSaid : Prop := genusAmbiguousUptoRow.holds Tryz.pinned (OpenSpec.upto genusAmbiguousSpec)

/-- 'algoristlaw09.ComposeMatchesReference', WHERE WHAT IT READS IS OF BULK AT MOST 1048576: true; the input reads as it did. -/
def composeMatchesReferenceUptoRow : OpenClaim := { program := "ytpaifigafaijpaagreatdoor", sum := "00f6a4fdb78ec51cfbfcc111b4179979ff50fdfb47ebb97b79c438fe7f7224eb", func := "algorist/algoristlaw09.ComposeMatchesReference", spec := "composeMatchesReference", unfollowed := true, recurses := true, named := ["math/bits.overflowError", "algorist/modular.signs"], apart := false, laid := [("algorist/modular.signs", laid_algorist_modular_signs)], narrowed := true }
def ComposeMatchesReferenceUptoSaid : Prop := composeMatchesReferenceUptoRow.holds Tryz.pinned (OpenSpec.upto composeMatchesReferenceSpec)

/-- 'algoristlaw09.ComposeValues', WHERE WHAT IT READS IS OF BULK AT MOST 1048576: true; the input reads as it did. -/
def composeValuesUptoRow : OpenClaim := { program := "ytpaifigafaijpaagreatdoor", sum := "00f6a4fdb78ec51cfbfcc111b4179979ff50fdfb47ebb97b79c438fe7f7224eb", func := "algorist/algoristlaw09.ComposeValues", spec := "composeValues", unfollowed := true, recurses := true, named := ["math/bits.overflowError", "algorist/modular.signs"], apart := false, laid := [("algorist/modular.signs", laid_algorist_modular_signs)], narrowed := true }
def ComposeValuesUptoSaid : Prop := composeValuesUptoRow.holds Tryz.pinned (OpenSpec.upto composeValuesSpec)

/-- 'algoristlaw09.ComposePowers', WHERE WHAT IT READS IS OF BULK AT MOST 1048576: true; the input reads as it did. -/
def composePowersUptoRow : OpenClaim := { program := "ytpaifigafaijpaagreatdoor", sum := "00f6a4fdb78ec51cfbfcc111b4179979ff50fdfb47ebb97b79c438fe7f7224eb", func := "algorist/algoristlaw09.ComposePowers", spec := "composePowers", unfollowed := true, recurses := true, named := ["math/bits.overflowError", "algorist/modular.signs"], apart := false, laid := [("algorist/modular.signs", laid_algorist_modular_signs)], narrowed := true }
def ComposePowersUptoSaid : Prop := composePowersUptoRow.holds Tryz.pinned (OpenSpec.upto composePowersSpec)

/-- 'algoristlaw09.ComposeRoots', WHERE WHAT IT READS IS OF BULK AT MOST 1048576: true; the input reads as it did. -/
def composeRootsUptoRow : OpenClaim := { program := "ytpaifigafaijpaagreatdoor", sum := "00f6a4fdb78ec51cfbfcc111b4179979ff50fdfb47ebb97b79c438fe7f7224eb", func := "algorist/algoristlaw09.ComposeRoots", spec := "composeRoots", unfollowed := true, recurses := true, named := ["math/bits.overflowError", "algorist/modular.signs"], apart := false, laid := [("algorist/modular.signs", laid_algorist_modular_signs)], narrowed := true }
def ComposeRootsUptoSaid : Prop := composeRootsUptoRow.holds Tryz.pinned (OpenSpec.upto composeRootsSpec)

/-- 'algoristlaw09.ComposeGroup', WHERE WHAT IT READS IS OF BULK AT MOST 1048576: true; the input reads as it did. -/
def composeGroupUptoRow : OpenClaim := { program := "ytpaifigafaijpaagreatdoor", sum := "00f6a4fdb78ec51cfbfcc111b4179979ff50fdfb47ebb97b79c438fe7f7224eb", func := "algorist/algoristlaw09.ComposeGroup", spec := "composeGroup", unfollowed := true, recurses := true, named := ["math/bits.overflowError", "algorist/modular.signs"], apart := false, laid := [("algorist/modular.signs", laid_algorist_modular_signs)], narrowed := true }
def ComposeGroupUptoSaid : Prop := composeGroupUptoRow.holds Tryz.pinned (OpenSpec.upto composeGroupSpec)

/-- 'algoristlaw09.ComposePrimes', WHERE WHAT IT READS IS OF BULK AT MOST 1048576: true; the input reads as it did. -/
def composePrimesUptoRow : OpenClaim := { program := "ytpaifigafaijpaagreatdoor", sum := "00f6a4fdb78ec51cfbfcc111b4179979ff50fdfb47ebb97b79c438fe7f7224eb", func := "algorist/algoristlaw09.ComposePrimes", spec := "composePrimes", unfollowed := true, recurses := true, named := ["math/bits.overflowError", "algorist/modular.signs"], apart := false, laid := [("algorist/modular.signs", laid_algorist_modular_signs)], narrowed := true }
def ComposePrimesUptoSaid : Prop := composePrimesUptoRow.holds Tryz.pinned (OpenSpec.upto composePrimesSpec)

/-- 'algoristlaw10.GenusProducts', WHERE WHAT IT READS IS OF BULK AT MOST 1048576: true; the input reads as it did. -/
def genusProductsUptoRow : OpenClaim := { program := "ytpaifigafaijpaagreatdoor", sum := "00f6a4fdb78ec51cfbfcc111b4179979ff50fdfb47ebb97b79c438fe7f7224eb", func := "algorist/algoristlaw10.GenusProducts", spec := "genusProducts", unfollowed := true, recurses := true, named := ["math/bits.overflowError", "algorist/modular.signs"], apart := false, laid := [("algorist/modular.signs", laid_algorist_modular_signs)], narrowed := true }
def GenusProductsUptoSaid : Prop := genusProductsUptoRow.holds Tryz.pinned (OpenSpec.upto genusProductsSpec)

/-- 'algoristlaw10.GenusSquares', WHERE WHAT IT READS IS OF BULK AT MOST 1048576: true; the input reads as it did. -/
def genusSquaresUptoRow : OpenClaim := { program := "ytpaifigafaijpaagreatdoor", sum := "00f6a4fdb78ec51cfbfcc111b4179979ff50fdfb47ebb97b79c438fe7f7224eb", func := "algorist/algoristlaw10.GenusSquares", spec := "genusSquares", unfollowed := true, recurses := true, named := ["math/bits.overflowError", "algorist/modular.signs"], apart := false, laid := [("algorist/modular.signs", laid_algorist_modular_signs)], narrowed := true }
def GenusSquaresUptoSaid : Prop := genusSquaresUptoRow.holds Tryz.pinned (OpenSpec.upto genusSquaresSpec)

end Rows
end Go.Proofs.YtpaifigafaijpaaGreatDoor
