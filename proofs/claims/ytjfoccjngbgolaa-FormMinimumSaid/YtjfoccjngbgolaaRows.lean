/-
  No cell of these rows narrows 'for every input' (looked for: loops, veiled, ifaces, maps, wideKeys, modest, calm, conditions, laid).
  DERIVED. THE GIVEN ROWS OF THIS SEAT. 6 by the template 'for every input the law returns true; each argument reads behind the call as it read before'; 0 by the template 'total and deterministic' (their statements: YtjfoccjngbgolaaTotals.lean).
  GIVEN WITH THE SEED: the statements are not yours to turn. If you find one false, say at which input.
  Laid BY PROGRAM, IN A SANDBOX (cutbox-rows.mjs): the forced cells as the released guide's own fill.sh prints them over the translation e781a6878650e88d… (all of the seat's roots in one cut). By AI agents, Wed Nov 11 2026. No macro, syntax, notation, axiom, sorry.
-/
import Derived.Test.YtjfoccjngbgolaaChecked
import GoSem.Claim
import GoSem.ClaimJoined
import GoSem.ClaimMapViews
import Derived.JoinedTies
import Derived.KernelRfl
namespace Go.Proofs.Ytjfoccjngbgolaa
/- THE CELL 'sum', in the pinned program and in every row, IS THE sha256 OF THE DUMP (.gsa) THAT YtjfoccjngbgolaaProg.lean LOADS. Nothing in Lean hashes anything: it is a label: what it is worth is what the hold of that sum in a sandbox is worth. -/
noncomputable def Try.pinned : Pinned := { name := "ytjfoccjngbgolaa", sum := "e781a6878650e88d2f50abf49c9d692b5a06d2355ae70b1d7ed7859cc1c870ba", checked := Try.checked }
namespace Rows
def none {H : Type} : Left H := { results := [], args := [] }

/-- 'algoristlaw08.FormReduces': WHATEVER THE INPUT: true; the input reads as it did. -/
def formReducesSpec : ChangeSpec := { name := "formReduces", fn := fun _ => fun
  | [d] => { results := [.lit (.bool true)], args := [d] }
  | _ => none }
def formReducesRow : OpenClaim := { program := "ytjfoccjngbgolaa", sum := "e781a6878650e88d2f50abf49c9d692b5a06d2355ae70b1d7ed7859cc1c870ba", func := "algorist/algoristlaw08.FormReduces", spec := "formReduces", unfollowed := true, recurses := true, named := ["math/bits.overflowError"], apart := false }
def FormReducesSaid : Prop := formReducesRow.holds Try.pinned (OpenSpec.ofChange formReducesSpec)

/-- ITS FALSE NEIGHBOUR: 'it returns false'. Refute it at one input. -/
def formReducesWrong : ChangeSpec := { name := "formReduces", fn := fun _ => fun
  | [d] => { results := [.lit (.bool false)], args := [d] }
  | _ => none }
def FormReducesWrongFalsely : Prop := formReducesRow.holds Try.pinned (OpenSpec.ofChange formReducesWrong)

/-- 'algoristlaw08.FormMinimum': WHATEVER THE INPUT: true; the input reads as it did. -/
def formMinimumSpec : ChangeSpec := { name := "formMinimum", fn := fun _ => fun
  | [d1, d2] => { results := [.lit (.bool true)], args := [d1, d2] }
  | _ => none }
def formMinimumRow : OpenClaim := { program := "ytjfoccjngbgolaa", sum := "e781a6878650e88d2f50abf49c9d692b5a06d2355ae70b1d7ed7859cc1c870ba", func := "algorist/algoristlaw08.FormMinimum", spec := "formMinimum", unfollowed := true, recurses := true, named := ["math/bits.overflowError"], apart := false }
def FormMinimumSaid : Prop := formMinimumRow.holds Try.pinned (OpenSpec.ofChange formMinimumSpec)

/-- ITS FALSE NEIGHBOUR: 'it returns false'. Refute it at one input. -/
def formMinimumWrong : ChangeSpec := { name := "formMinimum", fn := fun _ => fun
  | [d1, d2] => { results := [.lit (.bool false)], args := [d1, d2] }
  | _ => none }
def FormMinimumWrongFalsely : Prop := formMinimumRow.holds Try.pinned (OpenSpec.ofChange formMinimumWrong)

/-- 'algoristlaw08.FormAction': WHATEVER THE INPUT: true; the input reads as it did. -/
def formActionSpec : ChangeSpec := { name := "formAction", fn := fun _ => fun
  | [d1, d2] => { results := [.lit (.bool true)], args := [d1, d2] }
  | _ => none }
def formActionRow : OpenClaim := { program := "ytjfoccjngbgolaa", sum := "e781a6878650e88d2f50abf49c9d692b5a06d2355ae70b1d7ed7859cc1c870ba", func := "algorist/algoristlaw08.FormAction", spec := "formAction", unfollowed := true, recurses := true, named := ["math/bits.overflowError"], apart := false }
def FormActionSaid : Prop := formActionRow.holds Try.pinned (OpenSpec.ofChange formActionSpec)

/-- ITS FALSE NEIGHBOUR: 'it returns false'. Refute it at one input. -/
def formActionWrong : ChangeSpec := { name := "formAction", fn := fun _ => fun
  | [d1, d2] => { results := [.lit (.bool false)], args := [d1, d2] }
  | _ => none }
def FormActionWrongFalsely : Prop := formActionRow.holds Try.pinned (OpenSpec.ofChange formActionWrong)

/-- 'algoristlaw08.FormRefuses': WHATEVER THE INPUT: true; the input reads as it did. -/
def formRefusesSpec : ChangeSpec := { name := "formRefuses", fn := fun _ => fun
  | [d1, d2, d3] => { results := [.lit (.bool true)], args := [d1, d2, d3] }
  | _ => none }
def formRefusesRow : OpenClaim := { program := "ytjfoccjngbgolaa", sum := "e781a6878650e88d2f50abf49c9d692b5a06d2355ae70b1d7ed7859cc1c870ba", func := "algorist/algoristlaw08.FormRefuses", spec := "formRefuses", unfollowed := true, recurses := true, named := ["math/bits.overflowError"], apart := false }
def FormRefusesSaid : Prop := formRefusesRow.holds Try.pinned (OpenSpec.ofChange formRefusesSpec)

/-- ITS FALSE NEIGHBOUR: 'it returns false'. Refute it at one input. -/
def formRefusesWrong : ChangeSpec := { name := "formRefuses", fn := fun _ => fun
  | [d1, d2, d3] => { results := [.lit (.bool false)], args := [d1, d2, d3] }
  | _ => none }
def FormRefusesWrongFalsely : Prop := formRefusesRow.holds Try.pinned (OpenSpec.ofChange formRefusesWrong)

/-- 'algoristlaw08.FormInvariants': WHATEVER THE INPUT: true; the input reads as it did. -/
def formInvariantsSpec : ChangeSpec := { name := "formInvariants", fn := fun _ => fun
  | [d1, d2] => { results := [.lit (.bool true)], args := [d1, d2] }
  | _ => none }
def formInvariantsRow : OpenClaim := { program := "ytjfoccjngbgolaa", sum := "e781a6878650e88d2f50abf49c9d692b5a06d2355ae70b1d7ed7859cc1c870ba", func := "algorist/algoristlaw08.FormInvariants", spec := "formInvariants", unfollowed := true, recurses := true, named := ["math/bits.overflowError"], apart := false }
def FormInvariantsSaid : Prop := formInvariantsRow.holds Try.pinned (OpenSpec.ofChange formInvariantsSpec)

/-- ITS FALSE NEIGHBOUR: 'it returns false'. Refute it at one input. -/
def formInvariantsWrong : ChangeSpec := { name := "formInvariants", fn := fun _ => fun
  | [d1, d2] => { results := [.lit (.bool false)], args := [d1, d2] }
  | _ => none }
def FormInvariantsWrongFalsely : Prop := formInvariantsRow.holds Try.pinned (OpenSpec.ofChange formInvariantsWrong)

/-- 'algoristlaw08.FormPrincipal': WHATEVER THE INPUT: true; the input reads as it did. -/
def formPrincipalSpec : ChangeSpec := { name := "formPrincipal", fn := fun _ => fun
  | [d] => { results := [.lit (.bool true)], args := [d] }
  | _ => none }
def formPrincipalRow : OpenClaim := { program := "ytjfoccjngbgolaa", sum := "e781a6878650e88d2f50abf49c9d692b5a06d2355ae70b1d7ed7859cc1c870ba", func := "algorist/algoristlaw08.FormPrincipal", spec := "formPrincipal", unfollowed := true, recurses := true, named := ["math/bits.overflowError"], apart := false }
def FormPrincipalSaid : Prop := formPrincipalRow.holds Try.pinned (OpenSpec.ofChange formPrincipalSpec)

/-- ITS FALSE NEIGHBOUR: 'it returns false'. Refute it at one input. -/
def formPrincipalWrong : ChangeSpec := { name := "formPrincipal", fn := fun _ => fun
  | [d] => { results := [.lit (.bool false)], args := [d] }
  | _ => none }
def FormPrincipalWrongFalsely : Prop := formPrincipalRow.holds Try.pinned (OpenSpec.ofChange formPrincipalWrong)

/- THE SECOND FORM. 'bulk': how many values and letters a reading holds, each counted each time it is reached (what is shared counts as often as it is met; a slice's spare places count too). A statement '..UptoSaid' is the law's where the arguments, and the package variables that the reading takes, are together of bulk at most 1048576: NARROWER than '..Said'. Prove '..Said' where nothing that the law and all that it calls make is longer than what came in: it says more and counts as full. Else prove '..UptoSaid'. A law counts once. -/
mutual
def uptoBulk {H : Type} : DataW H → Nat
  | .lit (.string bytes) => bytes.length + 1
  | .lit _ => 1
  | .nil => 1
  | .ptr d => uptoBulk d + 1
  | .slice elems spare => uptoBulkAll elems + uptoBulkAll spare + 1
  | .agg parts => uptoBulkAll parts + 1
  | .iface _ d => uptoBulk d + 1
  | .map entries => uptoBulkEntries entries + 1
  | .held _ => 1
def uptoBulkAll {H : Type} : List (DataW H) → Nat
  | [] => 0
  | d :: r => uptoBulk d + uptoBulkAll r
def uptoBulkEntries {H : Type} : List (Lit × DataW H) → Nat
  | [] => 0
  | x :: r => uptoBulkEntry x + uptoBulkEntries r
def uptoBulkEntry {H : Type} : Lit × DataW H → Nat
  | (.string bytes, d) => bytes.length + uptoBulk d + 1
  | (_, d) => uptoBulk d + 1
 end
def uptoSmall : (H : Type) → List (DataW H) → Bool := fun _ ds => decide (uptoBulkAll ds ≤ 1048576)
def OpenSpec.upto (s : _root_.Go.ChangeSpec) : _root_.Go.OpenSpec := { _root_.Go.OpenSpec.ofChange s with cond := some uptoSmall }

/-- 'algoristlaw08.FormReduces', WHERE WHAT IT READS IS OF BULK AT MOST 1048576: true; the input reads as it did. -/
def formReducesUptoRow : OpenClaim := { program := "ytjfoccjngbgolaa", sum := "e781a6878650e88d2f50abf49c9d692b5a06d2355ae70b1d7ed7859cc1c870ba", func := "algorist/algoristlaw08.FormReduces", spec := "formReduces", unfollowed := true, recurses := true, named := ["math/bits.overflowError"], apart := false, narrowed := true }
def FormReducesUptoSaid : Prop := formReducesUptoRow.holds Try.pinned (OpenSpec.upto formReducesSpec)

/-- 'algoristlaw08.FormMinimum', WHERE WHAT IT READS IS OF BULK AT MOST 1048576: true; the input reads as it did. -/
def formMinimumUptoRow : OpenClaim := { program := "ytjfoccjngbgolaa", sum := "e781a6878650e88d2f50abf49c9d692b5a06d2355ae70b1d7ed7859cc1c870ba", func := "algorist/algoristlaw08.FormMinimum", spec := "formMinimum", unfollowed := true, recurses := true, named := ["math/bits.overflowError"], apart := false, narrowed := true }
def FormMinimumUptoSaid : Prop := formMinimumUptoRow.holds Try.pinned (OpenSpec.upto formMinimumSpec)

/-- 'algoristlaw08.FormAction', WHERE WHAT IT READS IS OF BULK AT MOST 1048576: true; the input reads as it did. -/
def formActionUptoRow : OpenClaim := { program := "ytjfoccjngbgolaa", sum := "e781a6878650e88d2f50abf49c9d692b5a06d2355ae70b1d7ed7859cc1c870ba", func := "algorist/algoristlaw08.FormAction", spec := "formAction", unfollowed := true, recurses := true, named := ["math/bits.overflowError"], apart := false, narrowed := true }
def FormActionUptoSaid : Prop := formActionUptoRow.holds Try.pinned (OpenSpec.upto formActionSpec)

/-- 'algoristlaw08.FormRefuses', WHERE WHAT IT READS IS OF BULK AT MOST 1048576: true; the input reads as it did. -/
def formRefusesUptoRow : OpenClaim := { program := "ytjfoccjngbgolaa", sum := "e781a6878650e88d2f50abf49c9d692b5a06d2355ae70b1d7ed7859cc1c870ba", func := "algorist/algoristlaw08.FormRefuses", spec := "formRefuses", unfollowed := true, recurses := true, named := ["math/bits.overflowError"], apart := false, narrowed := true }
def FormRefusesUptoSaid : Prop := formRefusesUptoRow.holds Try.pinned (OpenSpec.upto formRefusesSpec)

/-- 'algoristlaw08.FormInvariants', WHERE WHAT IT READS IS OF BULK AT MOST 1048576: true; the input reads as it did. -/
def formInvariantsUptoRow : OpenClaim := { program := "ytjfoccjngbgolaa", sum := "e781a6878650e88d2f50abf49c9d692b5a06d2355ae70b1d7ed7859cc1c870ba", func := "algorist/algoristlaw08.FormInvariants", spec := "formInvariants", unfollowed := true, recurses := true, named := ["math/bits.overflowError"], apart := false, narrowed := true }
def FormInvariantsUptoSaid : Prop := formInvariantsUptoRow.holds Try.pinned (OpenSpec.upto formInvariantsSpec)

/-- 'algoristlaw08.FormPrincipal', WHERE WHAT IT READS IS OF BULK AT MOST 1048576: true; the input reads as it did. -/
def formPrincipalUptoRow : OpenClaim := { program := "ytjfoccjngbgolaa", sum := "e781a6878650e88d2f50abf49c9d692b5a06d2355ae70b1d7ed7859cc1c870ba", func := "algorist/algoristlaw08.FormPrincipal", spec := "formPrincipal", unfollowed := true, recurses := true, named := ["math/bits.overflowError"], apart := false, narrowed := true }
def FormPrincipalUptoSaid : Prop := formPrincipalUptoRow.holds Try.pinned (OpenSpec.upto formPrincipalSpec)

end Rows
end Go.Proofs.Ytjfoccjngbgolaa
