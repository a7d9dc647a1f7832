/-
  NARROWER THAN 'FOR EVERY INPUT', by the rows' own cells (each row's printed sentence says how): CountContents: laid · CountRatios: laid · CountHurwitz: laid · CountKronecker: laid · CountConductor: laid · CountDirichlet: laid · CountRefuses: laid.
  DERIVED. THE GIVEN ROWS OF THIS SEAT. 7 by the template 'for every input the law returns true; each argument reads behind the call as it read before'; 0 by the template 'total and deterministic' (their statements: YtkdfinfdocdpoaaDoorTotals.lean).
  GIVEN WITH THE SEED: the statements are not yours to turn. If you find one false, say at which input.
  Laid BY PROGRAM, IN A SANDBOX (cutbox-rows.mjs): the forced cells as the released guide's own fill.sh prints them over the translation 8e35a66cfc0a9364… (all of the seat's roots in one cut). By AI agents, Wed Nov 11 2026. No macro, syntax, notation, axiom, sorry.
-/
import Derived.Test.YtkdfinfdocdpoaaDoorChecked
import GoSem.Claim
import GoSem.ClaimJoined
import GoSem.ClaimMapViews
import Derived.JoinedTies
import Derived.KernelRfl
namespace Go.Proofs.YtkdfinfdocdpoaaDoor
/- THE CELL 'sum', in the pinned program and in every row, IS THE sha256 OF THE DUMP (.gsa) THAT YtkdfinfdocdpoaaDoorProg.lean LOADS. Nothing in Lean hashes anything: it is a label: what it is worth is what the hold of that sum in a sandbox is worth. -/
noncomputable def Tryd.pinned : Pinned := { name := "ytkdfinfdocdpoaadoor", sum := "8e35a66cfc0a936419b5170da57840dacde352017c217027feed432aaa75591c", checked := Tryd.checked }
namespace Rows
def none {H : Type} : Left H := { results := [], args := [] }

/- WHAT THE LISTED PACKAGE-LEVEL VARIABLES READ AS WHEN THE CALL BEGINS. Each datum BY PROGRAM (the guide's laid-datum.mjs) off the statement by which the dump's own 'gosem.cut.vars' lays the variable. In a bare row this is a premise. The card (YtkdfinfdocdpoaaDoorCards.lean) ties it to the program's text. -/
def laid_algorist_modular_signs {H : Type} : DataW H := .agg [.lit (.int .i64 0), .lit (.int .i64 1), .lit (.int .i64 0), .lit (.int .i64 (-1)), .lit (.int .i64 0), .lit (.int .i64 (-1)), .lit (.int .i64 0), .lit (.int .i64 1)]

/-- 'algoristlaw11.CountContents': WHATEVER THE INPUT: true; the input reads as it did. -/
def countContentsSpec : ChangeSpec := { name := "countContents", fn := fun _ => fun
  | [d] => { results := [.lit (.bool true)], args := [d] }
  | _ => none }
def countContentsRow : OpenClaim := { program := "ytkdfinfdocdpoaadoor", sum := "8e35a66cfc0a936419b5170da57840dacde352017c217027feed432aaa75591c", func := "algorist/algoristlaw11.CountContents", spec := "countContents", unfollowed := true, recurses := true, named := ["math/bits.overflowError", "algorist/modular.signs"], apart := false, laid := [("algorist/modular.signs", laid_algorist_modular_signs)] }
def CountContentsSaid : Prop := countContentsRow.holds Tryd.pinned (OpenSpec.ofChange countContentsSpec)

/-- ITS FALSE NEIGHBOUR: 'it returns false'. Refute it at one input. -/
def countContentsWrong : ChangeSpec := { name := "countContents", fn := fun _ => fun
  | [d] => { results := [.lit (.bool false)], args := [d] }
  | _ => none }
def CountContentsWrongFalsely : Prop := countContentsRow.holds Tryd.pinned (OpenSpec.ofChange countContentsWrong)

/-- 'algoristlaw11.CountRatios': WHATEVER THE INPUT: true; the input reads as it did. -/
def countRatiosSpec : ChangeSpec := { name := "countRatios", fn := fun _ => fun
  | [d1, d2] => { results := [.lit (.bool true)], args := [d1, d2] }
  | _ => none }
def countRatiosRow : OpenClaim := { program := "ytkdfinfdocdpoaadoor", sum := "8e35a66cfc0a936419b5170da57840dacde352017c217027feed432aaa75591c", func := "algorist/algoristlaw11.CountRatios", spec := "countRatios", unfollowed := true, recurses := true, named := ["math/bits.overflowError", "algorist/modular.signs"], apart := false, laid := [("algorist/modular.signs", laid_algorist_modular_signs)] }
def CountRatiosSaid : Prop := countRatiosRow.holds Tryd.pinned (OpenSpec.ofChange countRatiosSpec)

/-- ITS FALSE NEIGHBOUR: 'it returns false'. Refute it at one input. -/
def countRatiosWrong : ChangeSpec := { name := "countRatios", fn := fun _ => fun
  | [d1, d2] => { results := [.lit (.bool false)], args := [d1, d2] }
  | _ => none }
def CountRatiosWrongFalsely : Prop := countRatiosRow.holds Tryd.pinned (OpenSpec.ofChange countRatiosWrong)

/-- 'algoristlaw11.CountHurwitz': WHATEVER THE INPUT: true; the input reads as it did. -/
def countHurwitzSpec : ChangeSpec := { name := "countHurwitz", fn := fun _ => fun
  | [d] => { results := [.lit (.bool true)], args := [d] }
  | _ => none }
def countHurwitzRow : OpenClaim := { program := "ytkdfinfdocdpoaadoor", sum := "8e35a66cfc0a936419b5170da57840dacde352017c217027feed432aaa75591c", func := "algorist/algoristlaw11.CountHurwitz", spec := "countHurwitz", unfollowed := true, recurses := true, named := ["math/bits.overflowError", "algorist/modular.signs"], apart := false, laid := [("algorist/modular.signs", laid_algorist_modular_signs)] }
def CountHurwitzSaid : Prop := countHurwitzRow.holds Tryd.pinned (OpenSpec.ofChange countHurwitzSpec)

/-- ITS FALSE NEIGHBOUR: 'it returns false'. Refute it at one input. -/
def countHurwitzWrong : ChangeSpec := { name := "countHurwitz", fn := fun _ => fun
  | [d] => { results := [.lit (.bool false)], args := [d] }
  | _ => none }
def CountHurwitzWrongFalsely : Prop := countHurwitzRow.holds Tryd.pinned (OpenSpec.ofChange countHurwitzWrong)

/-- 'algoristlaw11.CountKronecker': WHATEVER THE INPUT: true; the input reads as it did. -/
def countKroneckerSpec : ChangeSpec := { name := "countKronecker", fn := fun _ => fun
  | [d] => { results := [.lit (.bool true)], args := [d] }
  | _ => none }
def countKroneckerRow : OpenClaim := { program := "ytkdfinfdocdpoaadoor", sum := "8e35a66cfc0a936419b5170da57840dacde352017c217027feed432aaa75591c", func := "algorist/algoristlaw11.CountKronecker", spec := "countKronecker", unfollowed := true, recurses := true, named := ["math/bits.overflowError", "algorist/modular.signs"], apart := false, laid := [("algorist/modular.signs", laid_algorist_modular_signs)] }
def CountKroneckerSaid : Prop := countKroneckerRow.holds Tryd.pinned (OpenSpec.ofChange countKroneckerSpec)

/-- ITS FALSE NEIGHBOUR: 'it returns false'. Refute it at one input. -/
def countKroneckerWrong : ChangeSpec := { name := "countKronecker", fn := fun _ => fun
  | [d] => { results := [.lit (.bool false)], args := [d] }
  | _ => none }
def CountKroneckerWrongFalsely : Prop := countKroneckerRow.holds Tryd.pinned (OpenSpec.ofChange countKroneckerWrong)

/-- 'algoristlaw11.CountConductor': WHATEVER THE INPUT: true; the input reads as it did. -/
def countConductorSpec : ChangeSpec := { name := "countConductor", fn := fun _ => fun
  | [d1, d2] => { results := [.lit (.bool true)], args := [d1, d2] }
  | _ => none }
def countConductorRow : OpenClaim := { program := "ytkdfinfdocdpoaadoor", sum := "8e35a66cfc0a936419b5170da57840dacde352017c217027feed432aaa75591c", func := "algorist/algoristlaw11.CountConductor", spec := "countConductor", unfollowed := true, recurses := true, named := ["math/bits.overflowError", "algorist/modular.signs"], apart := false, laid := [("algorist/modular.signs", laid_algorist_modular_signs)] }
def CountConductorSaid : Prop := countConductorRow.holds Tryd.pinned (OpenSpec.ofChange countConductorSpec)

/-- ITS FALSE NEIGHBOUR: 'it returns false'. Refute it at one input. -/
def countConductorWrong : ChangeSpec := { name := "countConductor", fn := fun _ => fun
  | [d1, d2] => { results := [.lit (.bool false)], args := [d1, d2] }
  | _ => none }
def CountConductorWrongFalsely : Prop := countConductorRow.holds Tryd.pinned (OpenSpec.ofChange countConductorWrong)

/-- 'algoristlaw11.CountDirichlet': WHATEVER THE INPUT: true; the input reads as it did. -/
def countDirichletSpec : ChangeSpec := { name := "countDirichlet", fn := fun _ => fun
  | [d] => { results := [.lit (.bool true)], args := [d] }
  | _ => none }
def countDirichletRow : OpenClaim := { program := "ytkdfinfdocdpoaadoor", sum := "8e35a66cfc0a936419b5170da57840dacde352017c217027feed432aaa75591c", func := "algorist/algoristlaw11.CountDirichlet", spec := "countDirichlet", unfollowed := true, recurses := true, named := ["math/bits.overflowError", "algorist/modular.signs"], apart := false, laid := [("algorist/modular.signs", laid_algorist_modular_signs)] }
def CountDirichletSaid : Prop := countDirichletRow.holds Tryd.pinned (OpenSpec.ofChange countDirichletSpec)

/-- ITS FALSE NEIGHBOUR: 'it returns false'. Refute it at one input. -/
def countDirichletWrong : ChangeSpec := { name := "countDirichlet", fn := fun _ => fun
  | [d] => { results := [.lit (.bool false)], args := [d] }
  | _ => none }
def CountDirichletWrongFalsely : Prop := countDirichletRow.holds Tryd.pinned (OpenSpec.ofChange countDirichletWrong)

/-- 'algoristlaw11.CountRefuses': WHATEVER THE INPUT: true; the input reads as it did. -/
def countRefusesSpec : ChangeSpec := { name := "countRefuses", fn := fun _ => fun
  | [d] => { results := [.lit (.bool true)], args := [d] }
  | _ => none }
def countRefusesRow : OpenClaim := { program := "ytkdfinfdocdpoaadoor", sum := "8e35a66cfc0a936419b5170da57840dacde352017c217027feed432aaa75591c", func := "algorist/algoristlaw11.CountRefuses", spec := "countRefuses", unfollowed := true, recurses := true, named := ["math/bits.overflowError", "algorist/modular.signs"], apart := false, laid := [("algorist/modular.signs", laid_algorist_modular_signs)] }
def CountRefusesSaid : Prop := countRefusesRow.holds Tryd.pinned (OpenSpec.ofChange countRefusesSpec)

/-- ITS FALSE NEIGHBOUR: 'it returns false'. Refute it at one input. -/
def countRefusesWrong : ChangeSpec := { name := "countRefuses", fn := fun _ => fun
  | [d] => { results := [.lit (.bool false)], args := [d] }
  | _ => none }
def CountRefusesWrongFalsely : Prop := countRefusesRow.holds Tryd.pinned (OpenSpec.ofChange countRefusesWrong)

/- THE SECOND FORM. 'bulk': how many values and letters a reading holds, each counted each time it is reached (what is shared counts as often as it is met; a slice's spare places count too). A statement '..UptoSaid' is the law's where the arguments, and the package variables that the reading takes, are together of bulk at most 1048576: NARROWER than '..Said'. Prove '..Said' where nothing that the law and all that it calls make is longer than what came in: it says more and counts as full. Else prove '..UptoSaid'. A law counts once. -/
mutual
def uptoBulk {H : Type} : DataW H → Nat
  | .lit (.string bytes) => bytes.length + 1
  | .lit _ => 1
  | .nil => 1
  | .ptr d => uptoBulk d + 1
  | .slice elems spare => uptoBulkAll elems + uptoBulkAll spare + 1
  | .agg parts => uptoBulkAll parts + 1
  | .iface _ d => uptoBulk d + 1
  | .map entries => uptoBulkEntries entries + 1
  | .held _ => 1
def uptoBulkAll {H : Type} : List (DataW H) → Nat
  | [] => 0
  | d :: r => uptoBulk d + uptoBulkAll r
def uptoBulkEntries {H : Type} : List (Lit × DataW H) → Nat
  | [] => 0
  | x :: r => uptoBulkEntry x + uptoBulkEntries r
def uptoBulkEntry {H : Type} : Lit × DataW H → Nat
  | (.string bytes, d) => bytes.length + uptoBulk d + 1
  | (_, d) => uptoBulk d + 1
 end
def uptoSmall : (H : Type) → List (DataW H) → Bool := fun _ ds => decide (uptoBulkAll ds ≤ 1048576)
def OpenSpec.upto (s : _root_.Go.ChangeSpec) : _root_.Go.OpenSpec := { _root_.Go.OpenSpec.ofChange s with cond := some uptoSmall }

/-- 'algoristlaw11.CountContents', WHERE WHAT IT READS IS OF BULK AT MOST 1048576: true; the input reads as it did. -/
def countContentsUptoRow : OpenClaim := { program := "ytkdfinfdocdpoaadoor", sum := "8e35a66cfc0a936419b5170da57840dacde352017c217027feed432aaa75591c", func := "algorist/algoristlaw11.CountContents", spec := "countContents", unfollowed := true, recurses := true, named := ["math/bits.overflowError", "algorist/modular.signs"], apart := false, laid := [("algorist/modular.signs", laid_algorist_modular_signs)], narrowed := true }
def CountContentsUptoSaid : Prop := countContentsUptoRow.holds Tryd.pinned (OpenSpec.upto countContentsSpec)

/-- 'algoristlaw11.CountRatios', WHERE WHAT IT READS IS OF BULK AT MOST 1048576: true; the input reads as it did. -/
def countRatiosUptoRow : OpenClaim := { program := "ytkdfinfdocdpoaadoor", sum := "8e35a66cfc0a936419b5170da57840dacde352017c217027feed432aaa75591c", func := "algorist/algoristlaw11.CountRatios", spec := "countRatios", unfollowed := true, recurses := true, named := ["math/bits.overflowError", "algorist/modular.signs"], apart := false, laid := [("algorist/modular.signs", laid_algorist_modular_signs)], narrowed := true }
def CountRatiosUptoSaid : Prop := countRatiosUptoRow.holds Tryd.pinned (OpenSpec.upto countRatiosSpec)

/-- 'algoristlaw11.CountHurwitz', WHERE WHAT IT READS IS OF BULK AT MOST 1048576: true; the input reads as it did. -/
def countHurwitzUptoRow : OpenClaim := { program := "ytkdfinfdocdpoaadoor", sum := "8e35a66cfc0a936419b5170da57840dacde352017c217027feed432aaa75591c", func := "algorist/algoristlaw11.CountHurwitz", spec := "countHurwitz", unfollowed := true, recurses := true, named := ["math/bits.overflowError", "algorist/modular.signs"], apart := false, laid := [("algorist/modular.signs", laid_algorist_modular_signs)], narrowed := true }
def CountHurwitzUptoSaid : Prop := countHurwitzUptoRow.holds Tryd.pinned (OpenSpec.upto countHurwitzSpec)

/-- 'algoristlaw11.CountKronecker', WHERE WHAT IT READS IS OF BULK AT MOST 1048576: true; the input reads as it did. -/
def countKroneckerUptoRow : OpenClaim := { program := "ytkdfinfdocdpoaadoor", sum := "8e35a66cfc0a936419b5170da57840dacde352017c217027feed432aaa75591c", func := "algorist/algoristlaw11.CountKronecker", spec := "countKronecker", unfollowed := true, recurses := true, named := ["math/bits.overflowError", "algorist/modular.signs"], apart := false, laid := [("algorist/modular.signs", laid_algorist_modular_signs)], narrowed := true }
def CountKroneckerUptoSaid : Prop := countKroneckerUptoRow.holds Tryd.pinned (OpenSpec.upto countKroneckerSpec)

/-- 'algoristlaw11.CountConductor', WHERE WHAT IT READS IS OF BULK AT MOST 1048576: true; the input reads as it did. -/
def countConductorUptoRow : OpenClaim := { program := "ytkdfinfdocdpoaadoor", sum := "8e35a66cfc0a936419b5170da57840dacde352017c217027feed432aaa75591c", func := "algorist/algoristlaw11.CountConductor", spec := "countConductor", unfollowed := true, recurses := true, named := ["math/bits.overflowError", "algorist/modular.signs"], apart := false, laid := [("algorist/modular.signs", laid_algorist_modular_signs)], narrowed := true }
def CountConductorUptoSaid : Prop := countConductorUptoRow.holds Tryd.pinned (OpenSpec.upto countConductorSpec)

/-- 'algoristlaw11.CountDirichlet', WHERE WHAT IT READS IS OF BULK AT MOST 1048576: true; the input reads as it did. -/
def countDirichletUptoRow : OpenClaim := { program := "ytkdfinfdocdpoaadoor", sum := "8e35a66cfc0a936419b5170da57840dacde352017c217027feed432aaa75591c", func := "algorist/algoristlaw11.CountDirichlet", spec := "countDirichlet", unfollowed := true, recurses := true, named := ["math/bits.overflowError", "algorist/modular.signs"], apart := false, laid := [("algorist/modular.signs", laid_algorist_modular_signs)], narrowed := true }
def CountDirichletUptoSaid : Prop := countDirichletUptoRow.holds Tryd.pinned (OpenSpec.upto countDirichletSpec)

/-- 'algoristlaw11.CountRefuses', WHERE WHAT IT READS IS OF BULK AT MOST 1048576: true; the input reads as it did. -/
def countRefusesUptoRow : OpenClaim := { program := "ytkdfinfdocdpoaadoor", sum := "8e35a66cfc0a936419b5170da57840dacde352017c217027feed432aaa75591c", func := "algorist/algoristlaw11.CountRefuses", spec := "countRefuses", unfollowed := true, recurses := true, named := ["math/bits.overflowError", "algorist/modular.signs"], apart := false, laid := [("algorist/modular.signs", laid_algorist_modular_signs)], narrowed := true }
def CountRefusesUptoSaid : Prop := countRefusesUptoRow.holds Tryd.pinned (OpenSpec.upto countRefusesSpec)

end Rows
end Go.Proofs.YtkdfinfdocdpoaaDoor
