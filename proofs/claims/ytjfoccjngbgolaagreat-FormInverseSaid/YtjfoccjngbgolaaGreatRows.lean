/-
  No cell of these rows narrows 'for every input' (looked for: loops, veiled, ifaces, maps, wideKeys, modest, calm, conditions, laid).
  DERIVED. THE GIVEN ROWS OF THIS SEAT. 4 by the template 'for every input the law returns true; each argument reads behind the call as it read before'; 0 by the template 'total and deterministic' (their statements: YtjfoccjngbgolaaGreatTotals.lean).
  GIVEN WITH THE SEED: the statements are not yours to turn. If you find one false, say at which input.
  Laid BY PROGRAM, IN A SANDBOX (cutbox-rows.mjs): the forced cells as the released guide's own fill.sh prints them over the translation df21e6c97a7c18c8… (all of the seat's roots in one cut). By AI agents, Wed Nov 11 2026. No macro, syntax, notation, axiom, sorry.
-/
import Derived.Test.YtjfoccjngbgolaaGreatChecked
import GoSem.Claim
import GoSem.ClaimJoined
import GoSem.ClaimMapViews
import Derived.JoinedTies
import Derived.KernelRfl
namespace Go.Proofs.YtjfoccjngbgolaaGreat
/- THE CELL 'sum', in the pinned program and in every row, IS THE sha256 OF THE DUMP (.gsa) THAT YtjfoccjngbgolaaGreatProg.lean LOADS. Nothing in Lean hashes anything: it is a label: what it is worth is what the hold of that sum in a sandbox is worth. -/
noncomputable def Tryz.pinned : Pinned := { name := "ytjfoccjngbgolaagreat", sum := "df21e6c97a7c18c8a08c5c324d9078e564bb3dc669566d3f81c96e096ed67e93", checked := Tryz.checked }
namespace Rows
def none {H : Type} : Left H := { results := [], args := [] }

/-- 'algoristlaw08.FormUnique': WHATEVER THE INPUT: true; the input reads as it did. -/
def formUniqueSpec : ChangeSpec := { name := "formUnique", fn := fun _ => fun
  | [d1, d2] => { results := [.lit (.bool true)], args := [d1, d2] }
  | _ => none }
def formUniqueRow : OpenClaim := { program := "ytjfoccjngbgolaagreat", sum := "df21e6c97a7c18c8a08c5c324d9078e564bb3dc669566d3f81c96e096ed67e93", func := "algorist/algoristlaw08.FormUnique", spec := "formUnique", unfollowed := true, recurses := true, named := ["math/bits.overflowError"], apart := false }
def FormUniqueSaid : Prop := formUniqueRow.holds Tryz.pinned (OpenSpec.ofChange formUniqueSpec)

/-- ITS FALSE NEIGHBOUR: 'it returns false'. Refute it at one input. -/
def formUniqueWrong : ChangeSpec := { name := "formUnique", fn := fun _ => fun
  | [d1, d2] => { results := [.lit (.bool false)], args := [d1, d2] }
  | _ => none }
def FormUniqueWrongFalsely : Prop := formUniqueRow.holds Tryz.pinned (OpenSpec.ofChange formUniqueWrong)

/-- 'algoristlaw08.FormSame': WHATEVER THE INPUT: true; the input reads as it did. -/
def formSameSpec : ChangeSpec := { name := "formSame", fn := fun _ => fun
  | [d1, d2, d3] => { results := [.lit (.bool true)], args := [d1, d2, d3] }
  | _ => none }
def formSameRow : OpenClaim := { program := "ytjfoccjngbgolaagreat", sum := "df21e6c97a7c18c8a08c5c324d9078e564bb3dc669566d3f81c96e096ed67e93", func := "algorist/algoristlaw08.FormSame", spec := "formSame", unfollowed := true, recurses := true, named := ["math/bits.overflowError"], apart := false }
def FormSameSaid : Prop := formSameRow.holds Tryz.pinned (OpenSpec.ofChange formSameSpec)

/-- ITS FALSE NEIGHBOUR: 'it returns false'. Refute it at one input. -/
def formSameWrong : ChangeSpec := { name := "formSame", fn := fun _ => fun
  | [d1, d2, d3] => { results := [.lit (.bool false)], args := [d1, d2, d3] }
  | _ => none }
def FormSameWrongFalsely : Prop := formSameRow.holds Tryz.pinned (OpenSpec.ofChange formSameWrong)

/-- 'algoristlaw08.FormInverse': WHATEVER THE INPUT: true; the input reads as it did. -/
def formInverseSpec : ChangeSpec := { name := "formInverse", fn := fun _ => fun
  | [d1, d2] => { results := [.lit (.bool true)], args := [d1, d2] }
  | _ => none }
def formInverseRow : OpenClaim := { program := "ytjfoccjngbgolaagreat", sum := "df21e6c97a7c18c8a08c5c324d9078e564bb3dc669566d3f81c96e096ed67e93", func := "algorist/algoristlaw08.FormInverse", spec := "formInverse", unfollowed := true, recurses := true, named := ["math/bits.overflowError"], apart := false }
def FormInverseSaid : Prop := formInverseRow.holds Tryz.pinned (OpenSpec.ofChange formInverseSpec)

/-- ITS FALSE NEIGHBOUR: 'it returns false'. Refute it at one input. -/
def formInverseWrong : ChangeSpec := { name := "formInverse", fn := fun _ => fun
  | [d1, d2] => { results := [.lit (.bool false)], args := [d1, d2] }
  | _ => none }
def FormInverseWrongFalsely : Prop := formInverseRow.holds Tryz.pinned (OpenSpec.ofChange formInverseWrong)

/-- 'algoristlaw08.FormMatchesReference': WHATEVER THE INPUT: true; the input reads as it did. -/
def formMatchesReferenceSpec : ChangeSpec := { name := "formMatchesReference", fn := fun _ => fun
  | [d1, d2] => { results := [.lit (.bool true)], args := [d1, d2] }
  | _ => none }
def formMatchesReferenceRow : OpenClaim := { program := "ytjfoccjngbgolaagreat", sum := "df21e6c97a7c18c8a08c5c324d9078e564bb3dc669566d3f81c96e096ed67e93", func := "algorist/algoristlaw08.FormMatchesReference", spec := "formMatchesReference", unfollowed := true, recurses := true, named := ["math/bits.overflowError"], apart := false }
def FormMatchesReferenceSaid : Prop := formMatchesReferenceRow.holds Tryz.pinned (OpenSpec.ofChange formMatchesReferenceSpec)

/-- ITS FALSE NEIGHBOUR: 'it returns false'. Refute it at one input. -/
def formMatchesReferenceWrong : ChangeSpec := { name := "formMatchesReference", fn := fun _ => fun
  | [d1, d2] => { results := [.lit (.bool false)], args := [d1, d2] }
  | _ => none }
def FormMatchesReferenceWrongFalsely : Prop := formMatchesReferenceRow.holds Tryz.pinned (OpenSpec.ofChange formMatchesReferenceWrong)

/- THE SECOND FORM. 'bulk': how many values and letters a reading holds, each counted each time it is reached (what is shared counts as often as it is met; a slice's spare places count too). A statement '..UptoSaid' is the law's where the arguments, and the package variables that the reading takes, are together of bulk at most 1048576: NARROWER than '..Said'. Prove '..Said' where nothing that the law and all that it calls make is longer than what came in: it says more and counts as full. Else prove '..UptoSaid'. A law counts once. -/
mutual
def uptoBulk {H : Type} : DataW H → Nat
  | .lit (.string bytes) => bytes.length + 1
  | .lit _ => 1
  | .nil => 1
  | .ptr d => uptoBulk d + 1
  | .slice elems spare => uptoBulkAll elems + uptoBulkAll spare + 1
  | .agg parts => uptoBulkAll parts + 1
  | .iface _ d => uptoBulk d + 1
  | .map entries => uptoBulkEntries entries + 1
  | .held _ => 1
def uptoBulkAll {H : Type} : List (DataW H) → Nat
  | [] => 0
  | d :: r => uptoBulk d + uptoBulkAll r
def uptoBulkEntries {H : Type} : List (Lit × DataW H) → Nat
  | [] => 0
  | x :: r => uptoBulkEntry x + uptoBulkEntries r
def uptoBulkEntry {H : Type} : Lit × DataW H → Nat
  | (.string bytes, d) => bytes.length + uptoBulk d + 1
  | (_, d) => uptoBulk d + 1
 end
def uptoSmall : (H : Type) → List (DataW H) → Bool := fun _ ds => decide (uptoBulkAll ds ≤ 1048576)
def OpenSpec.upto (s : _root_.Go.ChangeSpec) : _root_.Go.OpenSpec := { _root_.Go.OpenSpec.ofChange s with cond := some uptoSmall }

/-- 'algoristlaw08.FormUnique', WHERE WHAT IT READS IS OF BULK AT MOST 1048576: true; the input reads as it did. -/
def formUniqueUptoRow : OpenClaim := { program := "ytjfoccjngbgolaagreat", sum := "df21e6c97a7c18c8a08c5c324d9078e564bb3dc669566d3f81c96e096ed67e93", func := "algorist/algoristlaw08.FormUnique", spec := "formUnique", unfollowed := true, recurses := true, named := ["math/bits.overflowError"], apart := false, narrowed := true }
def FormUniqueUptoSaid : Prop := formUniqueUptoRow.holds Tryz.pinned (OpenSpec.upto formUniqueSpec)

/-- 'algoristlaw08.FormSame', WHERE WHAT IT READS IS OF BULK AT MOST 1048576: true; the input reads as it did. -/
def formSameUptoRow : OpenClaim := { program := "ytjfoccjngbgolaagreat", sum := "df21e6c97a7c18c8a08c5c324d9078e564bb3dc669566d3f81c96e096ed67e93", func := "algorist/algoristlaw08.FormSame", spec := "formSame", unfollowed := true, recurses := true, named := ["math/bits.overflowError"], apart := false, narrowed := true }
def FormSameUptoSaid : Prop := formSameUptoRow.holds Tryz.pinned (OpenSpec.upto formSameSpec)

/-- 'algoristlaw08.FormInverse', WHERE WHAT IT READS IS OF BULK AT MOST 1048576: true; the input reads as it did. -/
def formInverseUptoRow : OpenClaim := { program := "ytjfoccjngbgolaagreat", sum := "df21e6c97a7c18c8a08c5c324d9078e564bb3dc669566d3f81c96e096ed67e93", func := "algorist/algoristlaw08.FormInverse", spec := "formInverse", unfollowed := true, recurses := true, named := ["math/bits.overflowError"], apart := false, narrowed := true }
def FormInverseUptoSaid : Prop := formInverseUptoRow.holds Tryz.pinned (OpenSpec.upto formInverseSpec)

/-- 'algoristlaw08.FormMatchesReference', WHERE WHAT IT READS IS OF BULK AT MOST 1048576: true; the input reads as it did. -/
def formMatchesReferenceUptoRow : OpenClaim := { program := "ytjfoccjngbgolaagreat", sum := "df21e6c97a7c18c8a08c5c324d9078e564bb3dc669566d3f81c96e096ed67e93", func := "algorist/algoristlaw08.FormMatchesReference", spec := "formMatchesReference", unfollowed := true, recurses := true, named := ["math/bits.overflowError"], apart := false, narrowed := true }
def FormMatchesReferenceUptoSaid : Prop := formMatchesReferenceUptoRow.holds Tryz.pinned (OpenSpec.upto formMatchesReferenceSpec)

end Rows
end Go.Proofs.YtjfoccjngbgolaaGreat
