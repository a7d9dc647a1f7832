/-
  NARROWER THAN 'FOR EVERY INPUT', by the rows' own cells (each row's printed sentence says how): HypothesisFollows: laid · HypothesisMonotone: laid · HypothesisRests: laid · HypothesisReplaces: laid · HypothesisMatchesReference: laid · HypothesisOrder: laid.
  DERIVED. THE GIVEN ROWS OF THIS SEAT. 6 by the template 'for every input the law returns true; each argument reads behind the call as it read before'; 0 by the template 'total and deterministic' (their statements: YtmoaoiakmmbpoaaGreatDoorTotals.lean).
  GIVEN WITH THE SEED: the statements are not yours to turn. If you find one false, say at which input.
  Laid BY PROGRAM, IN A SANDBOX (cutbox-rows.mjs): the forced cells as the released guide's own fill.sh prints them over the translation 3e7cde7d64eb6aa2… (all of the seat's roots in one cut). By AI agents, Wed Nov 11 2026. No macro, syntax, notation, axiom, sorry.
-/
import Derived.Test.YtmoaoiakmmbpoaaGreatDoorChecked
import GoSem.Claim
import GoSem.ClaimJoined
import GoSem.ClaimMapViews
import Derived.JoinedTies
import Derived.KernelRfl
namespace Go.Proofs.YtmoaoiakmmbpoaaGreatDoor
/- THE CELL 'sum', in the pinned program and in every row, IS THE sha256 OF THE DUMP (.gsa) THAT YtmoaoiakmmbpoaaGreatDoorProg.lean LOADS. Nothing in Lean hashes anything: it is a label: what it is worth is what the hold of that sum in a sandbox is worth. -/
noncomputable def Tryz.pinned : Pinned := { name := "ytmoaoiakmmbpoaagreatdoor", sum := "3e7cde7d64eb6aa24b94c3100b6804107778819b3bc059e387afdae681cb1b88", checked := Tryz.checked }
namespace Rows
def none {H : Type} : Left H := { results := [], args := [] }

/- WHAT THE LISTED PACKAGE-LEVEL VARIABLES READ AS WHEN THE CALL BEGINS. Each datum BY PROGRAM (the guide's laid-datum.mjs) off the statement by which the dump's own 'gosem.cut.vars' lays the variable. In a bare row this is a premise. The card (YtmoaoiakmmbpoaaGreatDoorCards.lean) ties it to the program's text. -/
def laid_math_bits_deBruijn32tab {H : Type} : DataW H := .agg [.lit (.int .u8 0), .lit (.int .u8 1), .lit (.int .u8 28), .lit (.int .u8 2), .lit (.int .u8 29), .lit (.int .u8 14), .lit (.int .u8 24), .lit (.int .u8 3), .lit (.int .u8 30), .lit (.int .u8 22), .lit (.int .u8 20), .lit (.int .u8 15), .lit (.int .u8 25), .lit (.int .u8 17), .lit (.int .u8 4), .lit (.int .u8 8), .lit (.int .u8 31), .lit (.int .u8 27), .lit (.int .u8 13), .lit (.int .u8 23), .lit (.int .u8 21), .lit (.int .u8 19), .lit (.int .u8 16), .lit (.int .u8 7), .lit (.int .u8 26), .lit (.int .u8 12), .lit (.int .u8 18), .lit (.int .u8 6), .lit (.int .u8 11), .lit (.int .u8 5), .lit (.int .u8 10), .lit (.int .u8 9)]

/-- 'algoristlaw30.HypothesisFollows': WHATEVER THE INPUT: true; the input reads as it did. -/
def hypothesisFollowsSpec : ChangeSpec := { name := "hypothesisFollows", fn := fun _ => fun
  | [d1, d2, d3] => { results := [.lit (.bool true)], args := [d1, d2, d3] }
  | _ => none }
def hypothesisFollowsRow : OpenClaim := { program := "ytmoaoiakmmbpoaagreatdoor", sum := "3e7cde7d64eb6aa24b94c3100b6804107778819b3bc059e387afdae681cb1b88", func := "algorist/algoristlaw30.HypothesisFollows", spec := "hypothesisFollows", inPlace := ["slices.overlaps[algorist/api.Derivation]", "maps.clone"], unfollowed := true, recurses := true, named := ["math/bits.deBruijn32tab"], apart := false, laid := [("math/bits.deBruijn32tab", laid_math_bits_deBruijn32tab)] }
def HypothesisFollowsSaid : Prop := hypothesisFollowsRow.holds Tryz.pinned (OpenSpec.ofChange hypothesisFollowsSpec)

/-- ITS FALSE NEIGHBOUR: 'it returns false'. Refute it at one input. -/
def hypothesisFollowsWrong : ChangeSpec := { name := "hypothesisFollows", fn := fun _ => fun
  | [d1, d2, d3] => { results := [.lit (.bool false)], args := [d1, d2, d3] }
  | _ => none }
def HypothesisFollowsWrongFalsely : Prop := hypothesisFollowsRow.holds Tryz.pinned (OpenSpec.ofChange hypothesisFollowsWrong)

/-- 'algoristlaw30.HypothesisMonotone': WHATEVER THE INPUT: true; the input reads as it did. -/
def hypothesisMonotoneSpec : ChangeSpec := { name := "hypothesisMonotone", fn := fun _ => fun
  | [d1, d2, d3] => { results := [.lit (.bool true)], args := [d1, d2, d3] }
  | _ => none }
def hypothesisMonotoneRow : OpenClaim := { program := "ytmoaoiakmmbpoaagreatdoor", sum := "3e7cde7d64eb6aa24b94c3100b6804107778819b3bc059e387afdae681cb1b88", func := "algorist/algoristlaw30.HypothesisMonotone", spec := "hypothesisMonotone", inPlace := ["slices.overlaps[algorist/api.Derivation]", "maps.clone"], unfollowed := true, recurses := true, named := ["math/bits.deBruijn32tab"], apart := false, laid := [("math/bits.deBruijn32tab", laid_math_bits_deBruijn32tab)] }
def HypothesisMonotoneSaid : Prop := hypothesisMonotoneRow.holds Tryz.pinned (OpenSpec.ofChange hypothesisMonotoneSpec)

/-- ITS FALSE NEIGHBOUR: 'it returns false'. Refute it at one input. -/
def hypothesisMonotoneWrong : ChangeSpec := { name := "hypothesisMonotone", fn := fun _ => fun
  | [d1, d2, d3] => { results := [.lit (.bool false)], args := [d1, d2, d3] }
  | _ => none }
def HypothesisMonotoneWrongFalsely : Prop := hypothesisMonotoneRow.holds Tryz.pinned (OpenSpec.ofChange hypothesisMonotoneWrong)

/-- 'algoristlaw30.HypothesisRests': WHATEVER THE INPUT: true; the input reads as it did. -/
def hypothesisRestsSpec : ChangeSpec := { name := "hypothesisRests", fn := fun _ => fun
  | [d1, d2, d3] => { results := [.lit (.bool true)], args := [d1, d2, d3] }
  | _ => none }
def hypothesisRestsRow : OpenClaim := { program := "ytmoaoiakmmbpoaagreatdoor", sum := "3e7cde7d64eb6aa24b94c3100b6804107778819b3bc059e387afdae681cb1b88", func := "algorist/algoristlaw30.HypothesisRests", spec := "hypothesisRests", inPlace := ["slices.overlaps[algorist/api.Derivation]", "maps.clone"], unfollowed := true, recurses := true, named := ["math/bits.deBruijn32tab"], apart := false, laid := [("math/bits.deBruijn32tab", laid_math_bits_deBruijn32tab)] }
def HypothesisRestsSaid : Prop := hypothesisRestsRow.holds Tryz.pinned (OpenSpec.ofChange hypothesisRestsSpec)

/-- ITS FALSE NEIGHBOUR: 'it returns false'. Refute it at one input. -/
def hypothesisRestsWrong : ChangeSpec := { name := "hypothesisRests", fn := fun _ => fun
  | [d1, d2, d3] => { results := [.lit (.bool false)], args := [d1, d2, d3] }
  | _ => none }
def HypothesisRestsWrongFalsely : Prop := hypothesisRestsRow.holds Tryz.pinned (OpenSpec.ofChange hypothesisRestsWrong)

/-- 'algoristlaw30.HypothesisReplaces': WHATEVER THE INPUT: true; the input reads as it did. -/
def hypothesisReplacesSpec : ChangeSpec := { name := "hypothesisReplaces", fn := fun _ => fun
  | [d1, d2, d3] => { results := [.lit (.bool true)], args := [d1, d2, d3] }
  | _ => none }
def hypothesisReplacesRow : OpenClaim := { program := "ytmoaoiakmmbpoaagreatdoor", sum := "3e7cde7d64eb6aa24b94c3100b6804107778819b3bc059e387afdae681cb1b88", func := "algorist/algoristlaw30.HypothesisReplaces", spec := "hypothesisReplaces", inPlace := ["slices.overlaps[algorist/api.Derivation]", "maps.clone"], unfollowed := true, recurses := true, named := ["math/bits.deBruijn32tab"], apart := false, laid := [("math/bits.deBruijn32tab", laid_math_bits_deBruijn32tab)] }
def HypothesisReplacesSaid : Prop := hypothesisReplacesRow.holds Tryz.pinned (OpenSpec.ofChange hypothesisReplacesSpec)

/-- ITS FALSE NEIGHBOUR: 'it returns false'. Refute it at one input. -/
def hypothesisReplacesWrong : ChangeSpec := { name := "hypothesisReplaces", fn := fun _ => fun
  | [d1, d2, d3] => { results := [.lit (.bool false)], args := [d1, d2, d3] }
  | _ => none }
def HypothesisReplacesWrongFalsely : Prop := hypothesisReplacesRow.holds Tryz.pinned (OpenSpec.ofChange hypothesisReplacesWrong)

/-- 'algoristlaw30.HypothesisMatchesReference': WHATEVER THE INPUT: true; the input reads as it did. -/
def hypothesisMatchesReferenceSpec : ChangeSpec := { name := "hypothesisMatchesReference", fn := fun _ => fun
  | [d1, d2, d3] => { results := [.lit (.bool true)], args := [d1, d2, d3] }
  | _ => none }
def hypothesisMatchesReferenceRow : OpenClaim := { program := "ytmoaoiakmmbpoaagreatdoor", sum := "3e7cde7d64eb6aa24b94c3100b6804107778819b3bc059e387afdae681cb1b88", func := "algorist/algoristlaw30.HypothesisMatchesReference", spec := "hypothesisMatchesReference", inPlace := ["slices.overlaps[algorist/api.Derivation]", "maps.clone"], unfollowed := true, recurses := true, named := ["math/bits.deBruijn32tab"], apart := false, laid := [("math/bits.deBruijn32tab", laid_math_bits_deBruijn32tab)] }
def HypothesisMatchesReferenceSaid : Prop := hypothesisMatchesReferenceRow.holds Tryz.pinned (OpenSpec.ofChange hypothesisMatchesReferenceSpec)

/-- ITS FALSE NEIGHBOUR: 'it returns false'. Refute it at one input. -/
def hypothesisMatchesReferenceWrong : ChangeSpec := { name := "hypothesisMatchesReference", fn := fun _ => fun
  | [d1, d2, d3] => { results := [.lit (.bool false)], args := [d1, d2, d3] }
  | _ => none }
def HypothesisMatchesReferenceWrongFalsely : Prop := hypothesisMatchesReferenceRow.holds Tryz.pinned (OpenSpec.ofChange hypothesisMatchesReferenceWrong)

/-- 'algoristlaw30.HypothesisOrder': WHATEVER THE INPUT: true; the input reads as it did. -/
def hypothesisOrderSpec : ChangeSpec := { name := "hypothesisOrder", fn := fun _ => fun
  | [d1, d2, d3] => { results := [.lit (.bool true)], args := [d1, d2, d3] }
  | _ => none }
def hypothesisOrderRow : OpenClaim := { program := "ytmoaoiakmmbpoaagreatdoor", sum := "3e7cde7d64eb6aa24b94c3100b6804107778819b3bc059e387afdae681cb1b88", func := "algorist/algoristlaw30.HypothesisOrder", spec := "hypothesisOrder", inPlace := ["slices.overlaps[algorist/api.Derivation]", "maps.clone"], unfollowed := true, recurses := true, named := ["math/bits.deBruijn32tab"], apart := false, laid := [("math/bits.deBruijn32tab", laid_math_bits_deBruijn32tab)] }
def HypothesisOrderSaid : Prop := hypothesisOrderRow.holds Tryz.pinned (OpenSpec.ofChange hypothesisOrderSpec)

/-- ITS FALSE NEIGHBOUR: 'it returns false'. Refute it at one input. -/
def hypothesisOrderWrong : ChangeSpec := { name := "hypothesisOrder", fn := fun _ => fun
  | [d1, d2, d3] => { results := [.lit (.bool false)], args := [d1, d2, d3] }
  | _ => none }
def HypothesisOrderWrongFalsely : Prop := hypothesisOrderRow.holds Tryz.pinned (OpenSpec.ofChange hypothesisOrderWrong)

/- THE SECOND FORM. 'bulk': how many values and letters a reading holds, each counted each time it is reached (what is shared counts as often as it is met; a slice's spare places count too). A statement '..UptoSaid' is the law's where the arguments, and the package variables that the reading takes, are together of bulk at most 1048576: NARROWER than '..Said'. Prove '..Said' where nothing that the law and all that it calls make is longer than what came in: it says more and counts as full. Else prove '..UptoSaid'. A law counts once. -/
mutual
def uptoBulk {H : Type} : DataW H → Nat
  | .lit (.string bytes) => bytes.length + 1
  | .lit _ => 1
  | .nil => 1
  | .ptr d => uptoBulk d + 1
  | .slice elems spare => uptoBulkAll elems + uptoBulkAll spare + 1
  | .agg parts => uptoBulkAll parts + 1
  | .iface _ d => uptoBulk d + 1
  | .map entries => uptoBulkEntries entries + 1
  | .held _ => 1
def uptoBulkAll {H : Type} : List (DataW H) → Nat
  | [] => 0
  | d :: r => uptoBulk d + uptoBulkAll r
def uptoBulkEntries {H : Type} : List (Lit × DataW H) → Nat
  | [] => 0
  | x :: r => uptoBulkEntry x + uptoBulkEntries r
def uptoBulkEntry {H : Type} : Lit × DataW H → Nat
  | (.string bytes, d) => bytes.length + uptoBulk d + 1
  | (_, d) => uptoBulk d + 1
 end
def uptoSmall : (H : Type) → List (DataW H) → Bool := fun _ ds => decide (uptoBulkAll ds ≤ 1048576)
def OpenSpec.upto (s : _root_.Go.ChangeSpec) : _root_.Go.OpenSpec := { _root_.Go.OpenSpec.ofChange s with cond := some uptoSmall }

/-- 'algoristlaw30.HypothesisFollows', WHERE WHAT IT READS IS OF BULK AT MOST 1048576: true; the input reads as it did. -/
def hypothesisFollowsUptoRow : OpenClaim := { program := "ytmoaoiakmmbpoaagreatdoor", sum := "3e7cde7d64eb6aa24b94c3100b6804107778819b3bc059e387afdae681cb1b88", func := "algorist/algoristlaw30.HypothesisFollows", spec := "hypothesisFollows", inPlace := ["slices.overlaps[algorist/api.Derivation]", "maps.clone"], unfollowed := true, recurses := true, named := ["math/bits.deBruijn32tab"], apart := false, laid := [("math/bits.deBruijn32tab", laid_math_bits_deBruijn32tab)], narrowed := true }
def HypothesisFollowsUptoSaid : Prop := hypothesisFollowsUptoRow.holds Tryz.pinned (OpenSpec.upto hypothesisFollowsSpec)

/-- 'algoristlaw30.HypothesisMonotone', WHERE WHAT IT READS IS OF BULK AT MOST 1048576: true; the input reads as it did. -/
def hypothesisMonotoneUptoRow : OpenClaim := { program := "ytmoaoiakmmbpoaagreatdoor", sum := "3e7cde7d64eb6aa24b94c3100b6804107778819b3bc059e387afdae681cb1b88", func := "algorist/algoristlaw30.HypothesisMonotone", spec := "hypothesisMonotone", inPlace := ["slices.overlaps[algorist/api.Derivation]", "maps.clone"], unfollowed := true, recurses := true, named := ["math/bits.deBruijn32tab"], apart := false, laid := [("math/bits.deBruijn32tab", laid_math_bits_deBruijn32tab)], narrowed := true }
def HypothesisMonotoneUptoSaid : Prop := hypothesisMonotoneUptoRow.holds Tryz.pinned (OpenSpec.upto hypothesisMonotoneSpec)

/-- 'algoristlaw30.HypothesisRests', WHERE WHAT IT READS IS OF BULK AT MOST 1048576: true; the input reads as it did. -/
def hypothesisRestsUptoRow : OpenClaim := { program := "ytmoaoiakmmbpoaagreatdoor", sum := "3e7cde7d64eb6aa24b94c3100b6804107778819b3bc059e387afdae681cb1b88", func := "algorist/algoristlaw30.HypothesisRests", spec := "hypothesisRests", inPlace := ["slices.overlaps[algorist/api.Derivation]", "maps.clone"], unfollowed := true, recurses := true, named := ["math/bits.deBruijn32tab"], apart := false, laid := [("math/bits.deBruijn32tab", laid_math_bits_deBruijn32tab)], narrowed := true }
def HypothesisRestsUptoSaid : Prop := hypothesisRestsUptoRow.holds Tryz.pinned (OpenSpec.upto hypothesisRestsSpec)

/-- 'algoristlaw30.HypothesisReplaces', WHERE WHAT IT READS IS OF BULK AT MOST 1048576: true; the input reads as it did. -/
def hypothesisReplacesUptoRow : OpenClaim := { program := "ytmoaoiakmmbpoaagreatdoor", sum := "3e7cde7d64eb6aa24b94c3100b6804107778819b3bc059e387afdae681cb1b88", func := "algorist/algoristlaw30.HypothesisReplaces", spec := "hypothesisReplaces", inPlace := ["slices.overlaps[algorist/api.Derivation]", "maps.clone"], unfollowed := true, recurses := true, named := ["math/bits.deBruijn32tab"], apart := false, laid := [("math/bits.deBruijn32tab", laid_math_bits_deBruijn32tab)], narrowed := true }
def HypothesisReplacesUptoSaid : Prop := hypothesisReplacesUptoRow.holds Tryz.pinned (OpenSpec.upto hypothesisReplacesSpec)

/-- 'algoristlaw30.HypothesisMatchesReference', WHERE WHAT IT READS IS OF BULK AT MOST 1048576: true; the input reads as it did. -/
def hypothesisMatchesReferenceUptoRow : OpenClaim := { program := "ytmoaoiakmmbpoaagreatdoor", sum := "3e7cde7d64eb6aa24b94c3100b6804107778819b3bc059e387afdae681cb1b88", func := "algorist/algoristlaw30.HypothesisMatchesReference", spec := "hypothesisMatchesReference", inPlace := ["slices.overlaps[algorist/api.Derivation]", "maps.clone"], unfollowed := true, recurses := true, named := ["math/bits.deBruijn32tab"], apart := false, laid := [("math/bits.deBruijn32tab", laid_math_bits_deBruijn32tab)], narrowed := true }
def HypothesisMatchesReferenceUptoSaid : Prop := hypothesisMatchesReferenceUptoRow.holds Tryz.pinned (OpenSpec.upto hypothesisMatchesReferenceSpec)

/-- 'algoristlaw30.HypothesisOrder', WHERE WHAT IT READS IS OF BULK AT MOST 1048576: true; the input reads as it did. -/
def hypothesisOrderUptoRow : OpenClaim := { program := "ytmoaoiakmmbpoaagreatdoor", sum := "3e7cde7d64eb6aa24b94c3100b6804107778819b3bc059e387afdae681cb1b88", func := "algorist/algoristlaw30.HypothesisOrder", spec := "hypothesisOrder", inPlace := ["slices.overlaps[algorist/api.Derivation]", "maps.clone"], unfollowed := true, recurses := true, named := ["math/bits.deBruijn32tab"], apart := false, laid := [("math/bits.deBruijn32tab", laid_math_bits_deBruijn32tab)], narrowed := true }
def HypothesisOrderUptoSaid : Prop := hypothesisOrderUptoRow.holds Tryz.pinned (OpenSpec.upto hypothesisOrderSpec)

end Rows
end Go.Proofs.YtmoaoiakmmbpoaaGreatDoor
