/-
  NARROWER THAN 'FOR EVERY INPUT', by the rows' own cells (each row's printed sentence says how): TopGenera: laid · RepresentMatchesReference: laid · RepresentAnswers: laid · RepresentCounts: laid · RepresentMoves: laid · RepresentClasses: laid · RepresentObstructs: laid.
  DERIVED. THE GIVEN ROWS OF THIS SEAT. 7 by the template 'for every input the law returns true; each argument reads behind the call as it read before'; 0 by the template 'total and deterministic' (their statements: YthaiejfjnllglaaGreatDoorTotals.lean).
  GIVEN WITH THE SEED: the statements are not yours to turn. If you find one false, say at which input.
  Laid BY PROGRAM, IN A SANDBOX (cutbox-rows.mjs): the forced cells as the released guide's own fill.sh prints them over the translation 9b7366fc48728abd… (all of the seat's roots in one cut). By AI agents, Wed Nov 11 2026. No macro, syntax, notation, axiom, sorry.
-/
import Derived.Test.YthaiejfjnllglaaGreatDoorChecked
import GoSem.Claim
import GoSem.ClaimJoined
import GoSem.ClaimMapViews
import Derived.JoinedTies
import Derived.KernelRfl
namespace Go.Proofs.YthaiejfjnllglaaGreatDoor
/- THE CELL 'sum', in the pinned program and in every row, IS THE sha256 OF THE DUMP (.gsa) THAT YthaiejfjnllglaaGreatDoorProg.lean LOADS. Nothing in Lean hashes anything: it is a label: what it is worth is what the hold of that sum in a sandbox is worth. -/
noncomputable def Tryz.pinned : Pinned := { name := "ythaiejfjnllglaagreatdoor", sum := "9b7366fc48728abd4613f6baa6bba1bc672006e457ae08f59329bbe5f91e6596", checked := Tryz.checked }
namespace Rows
def none {H : Type} : Left H := { results := [], args := [] }

/- WHAT THE LISTED PACKAGE-LEVEL VARIABLES READ AS WHEN THE CALL BEGINS. Each datum BY PROGRAM (the guide's laid-datum.mjs) off the statement by which the dump's own 'gosem.cut.vars' lays the variable. In a bare row this is a premise. The card (YthaiejfjnllglaaGreatDoorCards.lean) ties it to the program's text. -/
def laid_algorist_modular_signs {H : Type} : DataW H := .agg [.lit (.int .i64 0), .lit (.int .i64 1), .lit (.int .i64 0), .lit (.int .i64 (-1)), .lit (.int .i64 0), .lit (.int .i64 (-1)), .lit (.int .i64 0), .lit (.int .i64 1)]

/-- 'algoristtop.TopGenera': WHATEVER THE INPUT: true; the input reads as it did. -/
def topGeneraSpec : ChangeSpec := { name := "topGenera", fn := fun _ => fun
  | [d1, d2] => { results := [.lit (.bool true)], args := [d1, d2] }
  | _ => none }
def topGeneraRow : OpenClaim := { program := "ythaiejfjnllglaagreatdoor", sum := "9b7366fc48728abd4613f6baa6bba1bc672006e457ae08f59329bbe5f91e6596", func := "algorist/algoristtop.TopGenera", spec := "topGenera", unfollowed := true, recurses := true, named := ["math/bits.overflowError", "algorist/modular.signs"], apart := false, laid := [("algorist/modular.signs", laid_algorist_modular_signs)] }
def TopGeneraSaid : Prop := topGeneraRow.holds Tryz.pinned (OpenSpec.ofChange topGeneraSpec)

/-- ITS FALSE NEIGHBOUR: 'it returns false'. Refute it at one input. -/
def topGeneraWrong : ChangeSpec := { name := "topGenera", fn := fun _ => fun
  | [d1, d2] => { results := [.lit (.bool false)], args := [d1, d2] }
  | _ => none }
def TopGeneraWrongFalsely : Prop := topGeneraRow.holds Tryz.pinned (OpenSpec.ofChange topGeneraWrong)

/-- 'algoristlaw15.RepresentMatchesReference': WHATEVER THE INPUT: true; the input reads as it did. -/
def representMatchesReferenceSpec : ChangeSpec := { name := "representMatchesReference", fn := fun _ => fun
  | [d1, d2, d3] => { results := [.lit (.bool true)], args := [d1, d2, d3] }
  | _ => none }
def representMatchesReferenceRow : OpenClaim := { program := "ythaiejfjnllglaagreatdoor", sum := "9b7366fc48728abd4613f6baa6bba1bc672006e457ae08f59329bbe5f91e6596", func := "algorist/algoristlaw15.RepresentMatchesReference", spec := "representMatchesReference", unfollowed := true, recurses := true, named := ["math/bits.overflowError", "algorist/modular.signs"], apart := false, laid := [("algorist/modular.signs", laid_algorist_modular_signs)] }
def RepresentMatchesReferenceSaid : Prop := representMatchesReferenceRow.holds Tryz.pinned (OpenSpec.ofChange representMatchesReferenceSpec)

/-- ITS FALSE NEIGHBOUR: 'it returns false'. Refute it at one input. -/
def representMatchesReferenceWrong : ChangeSpec := { name := "representMatchesReference", fn := fun _ => fun
  | [d1, d2, d3] => { results := [.lit (.bool false)], args := [d1, d2, d3] }
  | _ => none }
def RepresentMatchesReferenceWrongFalsely : Prop := representMatchesReferenceRow.holds Tryz.pinned (OpenSpec.ofChange representMatchesReferenceWrong)

/-- 'algoristlaw15.RepresentAnswers': WHATEVER THE INPUT: true; the input reads as it did. -/
def representAnswersSpec : ChangeSpec := { name := "representAnswers", fn := fun _ => fun
  | [d1, d2] => { results := [.lit (.bool true)], args := [d1, d2] }
  | _ => none }
def representAnswersRow : OpenClaim := { program := "ythaiejfjnllglaagreatdoor", sum := "9b7366fc48728abd4613f6baa6bba1bc672006e457ae08f59329bbe5f91e6596", func := "algorist/algoristlaw15.RepresentAnswers", spec := "representAnswers", unfollowed := true, recurses := true, named := ["math/bits.overflowError", "algorist/modular.signs"], apart := false, laid := [("algorist/modular.signs", laid_algorist_modular_signs)] }
def RepresentAnswersSaid : Prop := representAnswersRow.holds Tryz.pinned (OpenSpec.ofChange representAnswersSpec)

/-- ITS FALSE NEIGHBOUR: 'it returns false'. Refute it at one input. -/
def representAnswersWrong : ChangeSpec := { name := "representAnswers", fn := fun _ => fun
  | [d1, d2] => { results := [.lit (.bool false)], args := [d1, d2] }
  | _ => none }
def RepresentAnswersWrongFalsely : Prop := representAnswersRow.holds Tryz.pinned (OpenSpec.ofChange representAnswersWrong)

/-- 'algoristlaw15.RepresentCounts': WHATEVER THE INPUT: true; the input reads as it did. -/
def representCountsSpec : ChangeSpec := { name := "representCounts", fn := fun _ => fun
  | [d] => { results := [.lit (.bool true)], args := [d] }
  | _ => none }
def representCountsRow : OpenClaim := { program := "ythaiejfjnllglaagreatdoor", sum := "9b7366fc48728abd4613f6baa6bba1bc672006e457ae08f59329bbe5f91e6596", func := "algorist/algoristlaw15.RepresentCounts", spec := "representCounts", unfollowed := true, recurses := true, named := ["math/bits.overflowError", "algorist/modular.signs"], apart := false, laid := [("algorist/modular.signs", laid_algorist_modular_signs)] }
def RepresentCountsSaid : Prop := representCountsRow.holds Tryz.pinned (OpenSpec.ofChange representCountsSpec)

/-- ITS FALSE NEIGHBOUR: 'it returns false'. Refute it at one input. -/
def representCountsWrong : ChangeSpec := { name := "representCounts", fn := fun _ => fun
  | [d] => { results := [.lit (.bool false)], args := [d] }
  | _ => none }
def RepresentCountsWrongFalsely : Prop := representCountsRow.holds Tryz.pinned (OpenSpec.ofChange representCountsWrong)

/-- 'algoristlaw15.RepresentMoves': WHATEVER THE INPUT: true; the input reads as it did. -/
def representMovesSpec : ChangeSpec := { name := "representMoves", fn := fun _ => fun
  | [d1, d2] => { results := [.lit (.bool true)], args := [d1, d2] }
  | _ => none }
def representMovesRow : OpenClaim := { program := "ythaiejfjnllglaagreatdoor", sum := "9b7366fc48728abd4613f6baa6bba1bc672006e457ae08f59329bbe5f91e6596", func := "algorist/algoristlaw15.RepresentMoves", spec := "representMoves", unfollowed := true, recurses := true, named := ["math/bits.overflowError", "algorist/modular.signs"], apart := false, laid := [("algorist/modular.signs", laid_algorist_modular_signs)] }
def RepresentMovesSaid : Prop := representMovesRow.holds Tryz.pinned (OpenSpec.ofChange representMovesSpec)

/-- ITS FALSE NEIGHBOUR: 'it returns false'. Refute it at one input. -/
def representMovesWrong : ChangeSpec := { name := "representMoves", fn := fun _ => fun
  | [d1, d2] => { results := [.lit (.bool false)], args := [d1, d2] }
  | _ => none }
def RepresentMovesWrongFalsely : Prop := representMovesRow.holds Tryz.pinned (OpenSpec.ofChange representMovesWrong)

/-- 'algoristlaw15.RepresentClasses': WHATEVER THE INPUT: true; the input reads as it did. -/
def representClassesSpec : ChangeSpec := { name := "representClasses", fn := fun _ => fun
  | [d] => { results := [.lit (.bool true)], args := [d] }
  | _ => none }
def representClassesRow : OpenClaim := { program := "ythaiejfjnllglaagreatdoor", sum := "9b7366fc48728abd4613f6baa6bba1bc672006e457ae08f59329bbe5f91e6596", func := "algorist/algoristlaw15.RepresentClasses", spec := "representClasses", unfollowed := true, recurses := true, named := ["math/bits.overflowError", "algorist/modular.signs"], apart := false, laid := [("algorist/modular.signs", laid_algorist_modular_signs)] }
def RepresentClassesSaid : Prop := representClassesRow.holds Tryz.pinned (OpenSpec.ofChange representClassesSpec)

/-- ITS FALSE NEIGHBOUR: 'it returns false'. Refute it at one input. -/
def representClassesWrong : ChangeSpec := { name := "representClasses", fn := fun _ => fun
  | [d] => { results := [.lit (.bool false)], args := [d] }
  | _ => none }
def RepresentClassesWrongFalsely : Prop := representClassesRow.holds Tryz.pinned (OpenSpec.ofChange representClassesWrong)

/-- 'algoristlaw15.RepresentObstructs': WHATEVER THE INPUT: true; the input reads as it did. -/
def representObstructsSpec : ChangeSpec := { name := "representObstructs", fn := fun _ => fun
  | [d] => { results := [.lit (.bool true)], args := [d] }
  | _ => none }
def representObstructsRow : OpenClaim := { program := "ythaiejfjnllglaagreatdoor", sum := "9b7366fc48728abd4613f6baa6bba1bc672006e457ae08f59329bbe5f91e6596", func := "algorist/algoristlaw15.RepresentObstructs", spec := "representObstructs", unfollowed := true, recurses := true, named := ["math/bits.overflowError", "algorist/modular.signs"], apart := false, laid := [("algorist/modular.signs", laid_algorist_modular_signs)] }
def RepresentObstructsSaid : Prop := representObstructsRow.holds Tryz.pinned (OpenSpec.ofChange representObstructsSpec)

/-- ITS FALSE NEIGHBOUR: 'it returns false'. Refute it at one input. -/
def representObstructsWrong : ChangeSpec := { name := "representObstructs", fn := fun _ => fun
  | [d] => { results := [.lit (.bool false)], args := [d] }
  | _ => none }
def RepresentObstructsWrongFalsely : Prop := representObstructsRow.holds Tryz.pinned (OpenSpec.ofChange representObstructsWrong)

/- THE SECOND FORM. 'bulk': how many values and letters a reading holds, each counted each time it is reached (what is shared counts as often as it is met; a slice's spare places count too). A statement '..UptoSaid' is the law's where the arguments, and the package variables that the reading takes, are together of bulk at most 1048576: NARROWER than '..Said'. Prove '..Said' where nothing that the law and all that it calls make is longer than what came in: it says more and counts as full. Else prove '..UptoSaid'. A law counts once. -/
mutual
def uptoBulk {H : Type} : DataW H → Nat
  | .lit (.string bytes) => bytes.length + 1
  | .lit _ => 1
  | .nil => 1
  | .ptr d => uptoBulk d + 1
  | .slice elems spare => uptoBulkAll elems + uptoBulkAll spare + 1
  | .agg parts => uptoBulkAll parts + 1
  | .iface _ d => uptoBulk d + 1
  | .map entries => uptoBulkEntries entries + 1
  | .held _ => 1
def uptoBulkAll {H : Type} : List (DataW H) → Nat
  | [] => 0
  | d :: r => uptoBulk d + uptoBulkAll r
def uptoBulkEntries {H : Type} : List (Lit × DataW H) → Nat
  | [] => 0
  | x :: r => uptoBulkEntry x + uptoBulkEntries r
def uptoBulkEntry {H : Type} : Lit × DataW H → Nat
  | (.string bytes, d) => bytes.length + uptoBulk d + 1
  | (_, d) => uptoBulk d + 1
 end
def uptoSmall : (H : Type) → List (DataW H) → Bool := fun _ ds => decide (uptoBulkAll ds ≤ 1048576)
def OpenSpec.upto (s : _root_.Go.ChangeSpec) : _root_.Go.OpenSpec := { _root_.Go.OpenSpec.ofChange s with cond := some uptoSmall }

/-- 'algoristtop.TopGenera', WHERE WHAT IT READS IS OF BULK AT MOST 1048576: true; the input reads as it did. -/
def topGeneraUptoRow : OpenClaim := { program := "ythaiejfjnllglaagreatdoor", sum := "9b7366fc48728abd4613f6baa6bba1bc672006e457ae08f59329bbe5f91e6596", func := "algorist/algoristtop.TopGenera", spec := "topGenera", unfollowed := true, recurses := true, named := ["math/bits.overflowError", "algorist/modular.signs"], apart := false, laid := [("algorist/modular.signs", laid_algorist_modular_signs)], narrowed := true }
def TopGeneraUptoSaid : Prop := topGeneraUptoRow.holds Tryz.pinned (OpenSpec.upto topGeneraSpec)

/-- 'algoristlaw15.RepresentMatchesReference', WHERE WHAT IT READS IS OF BULK AT MOST 1048576: true; the input reads as it did. -/
def representMatchesReferenceUptoRow : OpenClaim := { program := "ythaiejfjnllglaagreatdoor", sum := "9b7366fc48728abd4613f6baa6bba1bc672006e457ae08f59329bbe5f91e6596", func := "algorist/algoristlaw15.RepresentMatchesReference", spec := "representMatchesReference", unfollowed := true, recurses := true, named := ["math/bits.overflowError", "algorist/modular.signs"], apart := false, laid := [("algorist/modular.signs", laid_algorist_modular_signs)], narrowed := true }
def RepresentMatchesReferenceUptoSaid : Prop := representMatchesReferenceUptoRow.holds Tryz.pinned (OpenSpec.upto representMatchesReferenceSpec)

/-- 'algoristlaw15.RepresentAnswers', WHERE WHAT IT READS IS OF BULK AT MOST 1048576: true; the input reads as it did. -/
def representAnswersUptoRow : OpenClaim := { program := "ythaiejfjnllglaagreatdoor", sum := "9b7366fc48728abd4613f6baa6bba1bc672006e457ae08f59329bbe5f91e6596", func := "algorist/algoristlaw15.RepresentAnswers", spec := "representAnswers", unfollowed := true, recurses := true, named := ["math/bits.overflowError", "algorist/modular.signs"], apart := false, laid := [("algorist/modular.signs", laid_algorist_modular_signs)], narrowed := true }
def RepresentAnswersUptoSaid : Prop := representAnswersUptoRow.holds Tryz.pinned (OpenSpec.upto representAnswersSpec)

/-- 'algoristlaw15.RepresentCounts', WHERE WHAT IT READS IS OF BULK AT MOST 1048576: true; the input reads as it did. -/
def representCountsUptoRow : OpenClaim := { program := "ythaiejfjnllglaagreatdoor", sum := "9b7366fc48728abd4613f6baa6bba1bc672006e457ae08f59329bbe5f91e6596", func := "algorist/algoristlaw15.RepresentCounts", spec := "representCounts", unfollowed := true, recurses := true, named := ["math/bits.overflowError", "algorist/modular.signs"], apart := false, laid := [("algorist/modular.signs", laid_algorist_modular_signs)], narrowed := true }
def RepresentCountsUptoSaid : Prop := representCountsUptoRow.holds Tryz.pinned (OpenSpec.upto representCountsSpec)

/-- 'algoristlaw15.RepresentMoves', WHERE WHAT IT READS IS OF BULK AT MOST 1048576: true; the input reads as it did. -/
def representMovesUptoRow : OpenClaim := { program := "ythaiejfjnllglaagreatdoor", sum := "9b7366fc48728abd4613f6baa6bba1bc672006e457ae08f59329bbe5f91e6596", func := "algorist/algoristlaw15.RepresentMoves", spec := "representMoves", unfollowed := true, recurses := true, named := ["math/bits.overflowError", "algorist/modular.signs"], apart := false, laid := [("algorist/modular.signs", laid_algorist_modular_signs)], narrowed := true }
def RepresentMovesUptoSaid : Prop := representMovesUptoRow.holds Tryz.pinned (OpenSpec.upto representMovesSpec)

/-- 'algoristlaw15.RepresentClasses', WHERE WHAT IT READS IS OF BULK AT MOST 1048576: true; the input reads as it did. -/
def representClassesUptoRow : OpenClaim := { program := "ythaiejfjnllglaagreatdoor", sum := "9b7366fc48728abd4613f6baa6bba1bc672006e457ae08f59329bbe5f91e6596", func := "algorist/algoristlaw15.RepresentClasses", spec := "representClasses", unfollowed := true, recurses := true, named := ["math/bits.overflowError", "algorist/modular.signs"], apart := false, laid := [("algorist/modular.signs", laid_algorist_modular_signs)], narrowed := true }
def RepresentClassesUptoSaid : Prop := representClassesUptoRow.holds Tryz.pinned (OpenSpec.upto representClassesSpec)

/-- 'algoristlaw15.RepresentObstructs', WHERE WHAT IT READS IS OF BULK AT MOST 1048576: true; the input reads as it did. -/
def representObstructsUptoRow : OpenClaim := { program := "ythaiejfjnllglaagreatdoor", sum := "9b7366fc48728abd4613f6baa6bba1bc672006e457ae08f59329bbe5f91e6596", func := "algorist/algoristlaw15.RepresentObstructs", spec := "representObstructs", unfollowed := true, recurses := true, named := ["math/bits.overflowError", "algorist/modular.signs"], apart := false, laid := [("algorist/modular.signs", laid_algorist_modular_signs)], narrowed := true }
def RepresentObstructsUptoSaid : Prop := representObstructsUptoRow.holds Tryz.pinned (OpenSpec.upto representObstructsSpec)

end Rows
end Go.Proofs.YthaiejfjnllglaaGreatDoor
