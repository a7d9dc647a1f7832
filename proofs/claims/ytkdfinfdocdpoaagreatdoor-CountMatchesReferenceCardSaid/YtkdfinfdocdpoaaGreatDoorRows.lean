/-
  NARROWER THAN 'FOR EVERY INPUT', by the rows' own cells (each row's printed sentence says how): CountMatchesReference: laid · CountForms: laid · CountComplete: laid.
  DERIVED. THE GIVEN ROWS OF THIS SEAT. 3 by the template 'for every input the law returns true; each argument reads behind the call as it read before'; 0 by the template 'total and deterministic' (their statements: YtkdfinfdocdpoaaGreatDoorTotals.lean).
  GIVEN WITH THE SEED: the statements are not yours to turn. If you find one false, say at which input.
  Laid BY PROGRAM, IN A SANDBOX (cutbox-rows.mjs): the forced cells as the released guide's own fill.sh prints them over the translation 6ad8efa9dc8b0f52… (all of the seat's roots in one cut). By AI agents, Wed Nov 11 2026. No macro, syntax, notation, axiom, sorry.
-/
import Derived.Test.YtkdfinfdocdpoaaGreatDoorChecked
import GoSem.Claim
import GoSem.ClaimJoined
import GoSem.ClaimMapViews
import Derived.JoinedTies
import Derived.KernelRfl
namespace Go.Proofs.YtkdfinfdocdpoaaGreatDoor
/- THE CELL 'sum', in the pinned program and in every row, IS THE sha256 OF THE DUMP (.gsa) THAT YtkdfinfdocdpoaaGreatDoorProg.lean LOADS. Nothing in Lean hashes anything: it is a label: what it is worth is what the hold of that sum in a sandbox is worth. -/
noncomputable def Tryz.pinned : Pinned := { name := "ytkdfinfdocdpoaagreatdoor", sum := "6ad8efa9dc8b0f52c8815f7417d56ff30a8fce51a299703333e36791f61f93c0", checked := Tryz.checked }
namespace Rows
def none {H : Type} : Left H := { results := [], args := [] }

/- WHAT THE LISTED PACKAGE-LEVEL VARIABLES READ AS WHEN THE CALL BEGINS. Each datum BY PROGRAM (the guide's laid-datum.mjs) off the statement by which the dump's own 'gosem.cut.vars' lays the variable. In a bare row this is a premise. The card (YtkdfinfdocdpoaaGreatDoorCards.lean) ties it to the program's text. -/
def laid_algorist_modular_signs {H : Type} : DataW H := .agg [.lit (.int .i64 0), .lit (.int .i64 1), .lit (.int .i64 0), .lit (.int .i64 (-1)), .lit (.int .i64 0), .lit (.int .i64 (-1)), .lit (.int .i64 0), .lit (.int .i64 1)]

/-- 'algoristlaw11.CountMatchesReference': WHATEVER THE INPUT: true; the input reads as it did. -/
def countMatchesReferenceSpec : ChangeSpec := { name := "countMatchesReference", fn := fun _ => fun
  | [d1, d2] => { results := [.lit (.bool true)], args := [d1, d2] }
  | _ => none }
def countMatchesReferenceRow : OpenClaim := { program := "ytkdfinfdocdpoaagreatdoor", sum := "6ad8efa9dc8b0f52c8815f7417d56ff30a8fce51a299703333e36791f61f93c0", func := "algorist/algoristlaw11.CountMatchesReference", spec := "countMatchesReference", unfollowed := true, recurses := true, named := ["math/bits.overflowError", "algorist/modular.signs"], apart := false, laid := [("algorist/modular.signs", laid_algorist_modular_signs)] }
def CountMatchesReferenceSaid : Prop := countMatchesReferenceRow.holds Tryz.pinned (OpenSpec.ofChange countMatchesReferenceSpec)

/-- ITS FALSE NEIGHBOUR: 'it returns false'. Refute it at one input. -/
def countMatchesReferenceWrong : ChangeSpec := { name := "countMatchesReference", fn := fun _ => fun
  | [d1, d2] => { results := [.lit (.bool false)], args := [d1, d2] }
  | _ => none }
def CountMatchesReferenceWrongFalsely : Prop := countMatchesReferenceRow.holds Tryz.pinned (OpenSpec.ofChange countMatchesReferenceWrong)

/-- 'algoristlaw11.CountForms': WHATEVER THE INPUT: true; the input reads as it did. -/
def countFormsSpec : ChangeSpec := { name := "countForms", fn := fun _ => fun
  | [d] => { results := [.lit (.bool true)], args := [d] }
  | _ => none }
def countFormsRow : OpenClaim := { program := "ytkdfinfdocdpoaagreatdoor", sum := "6ad8efa9dc8b0f52c8815f7417d56ff30a8fce51a299703333e36791f61f93c0", func := "algorist/algoristlaw11.CountForms", spec := "countForms", unfollowed := true, recurses := true, named := ["math/bits.overflowError", "algorist/modular.signs"], apart := false, laid := [("algorist/modular.signs", laid_algorist_modular_signs)] }
def CountFormsSaid : Prop := countFormsRow.holds Tryz.pinned (OpenSpec.ofChange countFormsSpec)

/-- ITS FALSE NEIGHBOUR: 'it returns false'. Refute it at one input. -/
def countFormsWrong : ChangeSpec := { name := "countForms", fn := fun _ => fun
  | [d] => { results := [.lit (.bool false)], args := [d] }
  | _ => none }
def CountFormsWrongFalsely : Prop := countFormsRow.holds Tryz.pinned (OpenSpec.ofChange countFormsWrong)

/-- 'algoristlaw11.CountComplete': WHATEVER THE INPUT: true; the input reads as it did. -/
def countCompleteSpec : ChangeSpec := { name := "countComplete", fn := fun _ => fun
  | [d1, d2] => { results := [.lit (.bool true)], args := [d1, d2] }
  | _ => none }
def countCompleteRow : OpenClaim := { program := "ytkdfinfdocdpoaagreatdoor", sum := "6ad8efa9dc8b0f52c8815f7417d56ff30a8fce51a299703333e36791f61f93c0", func := "algorist/algoristlaw11.CountComplete", spec := "countComplete", unfollowed := true, recurses := true, named := ["math/bits.overflowError", "algorist/modular.signs"], apart := false, laid := [("algorist/modular.signs", laid_algorist_modular_signs)] }
def CountCompleteSaid : Prop := countCompleteRow.holds Tryz.pinned (OpenSpec.ofChange countCompleteSpec)

/-- ITS FALSE NEIGHBOUR: 'it returns false'. Refute it at one input. -/
def countCompleteWrong : ChangeSpec := { name := "countComplete", fn := fun _ => fun
  | [d1, d2] => { results := [.lit (.bool false)], args := [d1, d2] }
  | _ => none }
def CountCompleteWrongFalsely : Prop := countCompleteRow.holds Tryz.pinned (OpenSpec.ofChange countCompleteWrong)

/- THE SECOND FORM. 'bulk': how many values and letters a reading holds, each counted each time it is reached (what is shared counts as often as it is met; a slice's spare places count too). A statement '..UptoSaid' is the law's where the arguments, and the package variables that the reading takes, are together of bulk at most 1048576: NARROWER than '..Said'. Prove '..Said' where nothing that the law and all that it calls make is longer than what came in: it says more and counts as full. Else prove '..UptoSaid'. A law counts once. -/
mutual
def uptoBulk {H : Type} : DataW H → Nat
  | .lit (.string bytes) => bytes.length + 1
  | .lit _ => 1
  | .nil => 1
  | .ptr d => uptoBulk d + 1
  | .slice elems spare => uptoBulkAll elems + uptoBulkAll spare + 1
  | .agg parts => uptoBulkAll parts + 1
  | .iface _ d => uptoBulk d + 1
  | .map entries => uptoBulkEntries entries + 1
  | .held _ => 1
def uptoBulkAll {H : Type} : List (DataW H) → Nat
  | [] => 0
  | d :: r => uptoBulk d + uptoBulkAll r
def uptoBulkEntries {H : Type} : List (Lit × DataW H) → Nat
  | [] => 0
  | x :: r => uptoBulkEntry x + uptoBulkEntries r
def uptoBulkEntry {H : Type} : Lit × DataW H → Nat
  | (.string bytes, d) => bytes.length + uptoBulk d + 1
  | (_, d) => uptoBulk d + 1
 end
def uptoSmall : (H : Type) → List (DataW H) → Bool := fun _ ds => decide (uptoBulkAll ds ≤ 1048576)
def OpenSpec.upto (s : _root_.Go.ChangeSpec) : _root_.Go.OpenSpec := { _root_.Go.OpenSpec.ofChange s with cond := some uptoSmall }

/-- 'algoristlaw11.CountMatchesReference', WHERE WHAT IT READS IS OF BULK AT MOST 1048576: true; the input reads as it did. -/
def countMatchesReferenceUptoRow : OpenClaim := { program := "ytkdfinfdocdpoaagreatdoor", sum := "6ad8efa9dc8b0f52c8815f7417d56ff30a8fce51a299703333e36791f61f93c0", func := "algorist/algoristlaw11.CountMatchesReference", spec := "countMatchesReference", unfollowed := true, recurses := true, named := ["math/bits.overflowError", "algorist/modular.signs"], apart := false, laid := [("algorist/modular.signs", laid_algorist_modular_signs)], narrowed := true }
def CountMatchesReferenceUptoSaid : Prop := countMatchesReferenceUptoRow.holds Tryz.pinned (OpenSpec.upto countMatchesReferenceSpec)

/-- 'algoristlaw11.CountForms', WHERE WHAT IT READS IS OF BULK AT MOST 1048576: true; the input reads as it did. -/
def countFormsUptoRow : OpenClaim := { program := "ytkdfinfdocdpoaagreatdoor", sum := "6ad8efa9dc8b0f52c8815f7417d56ff30a8fce51a299703333e36791f61f93c0", func := "algorist/algoristlaw11.CountForms", spec := "countForms", unfollowed := true, recurses := true, named := ["math/bits.overflowError", "algorist/modular.signs"], apart := false, laid := [("algorist/modular.signs", laid_algorist_modular_signs)], narrowed := true }
def CountFormsUptoSaid : Prop := countFormsUptoRow.holds Tryz.pinned (OpenSpec.upto countFormsSpec)

/-- 'algoristlaw11.CountComplete', WHERE WHAT IT READS IS OF BULK AT MOST 1048576: true; the input reads as it did. -/
def countCompleteUptoRow : OpenClaim := { program := "ytkdfinfdocdpoaagreatdoor", sum := "6ad8efa9dc8b0f52c8815f7417d56ff30a8fce51a299703333e36791f61f93c0", func := "algorist/algoristlaw11.CountComplete", spec := "countComplete", unfollowed := true, recurses := true, named := ["math/bits.overflowError", "algorist/modular.signs"], apart := false, laid := [("algorist/modular.signs", laid_algorist_modular_signs)], narrowed := true }
def CountCompleteUptoSaid : Prop := countCompleteUptoRow.holds Tryz.pinned (OpenSpec.upto countCompleteSpec)

end Rows
end Go.Proofs.YtkdfinfdocdpoaaGreatDoor
