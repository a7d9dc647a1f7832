/- The law 'TopLagrange': for every input the call returns true and its arguments read as they did. No condition. -/
import Derived.Test.YtfdjankalhfceaaGreatLGL
import Derived.Test.YtfdjankalhfceaaGreatLGK
import Derived.Test.YtfdjankalhfceaaGreatRows
namespace Go.Proofs.YtfdjankalhfceaaGreat.topLagrange
open Go Go.AM Go.RowKit

theorem own : ownKnob Tryz.prog.godebug = none := by kernel_rfl
theorem lo : laidOutB Tryz.prog = true := by kernel_rfl
theorem o22 {H : Type} {enc : TypeId × Value → H} {W : World} : Opens enc Tryz.prog W 22 [.i .u16] :=
  opens_int Tryz.underlying22
theorem o23 {H : Type} {enc : TypeId × Value → H} {W : World} : Opens enc Tryz.prog W 23 [.i .i8] :=
  opens_int Tryz.underlying23
set_option maxRecDepth 100000 in
theorem opened {H : Type} {enc : TypeId × Value → H} {W : World} : ArgsData enc Tryz.prog W Tryz.f3 3 := by
  refine args2 (rfl : Tryz.f3.params = #[22, 23]) ?_
  intro v0 e0 p0 v1 e1 p1 base hv0 ht0 hw0 hv1 ht1 hw1
  obtain ⟨n0, w0, r0⟩ := arg_int Tryz.underlying22 hv0 ht0
  obtain ⟨n1, w1, r1⟩ := arg_int Tryz.underlying23 hv1 ht1
  refine ⟨[_, _], ⟨r0, r1, trivial⟩, ?_⟩
  have e0 : 0 ≤ n0 ∧ n0 ≤ 65535 := by
    simp [Lit.wf, IntKind.min, IntKind.max, IntKind.signed, IntKind.bits] at w0
    omega
  have e1 : -128 ≤ n1 ∧ n1 ≤ 127 := by
    simp [Lit.wf, IntKind.min, IntKind.max, IntKind.signed, IntKind.bits] at w1
    omega
  obtain ⟨n, rfl⟩ : ∃ n : Nat, n0 = (n : Int) := ⟨n0.toNat, by omega⟩
  exact l_TopLagrange n (by omega) n1 (by omega)

set_option maxRecDepth 100000 in
theorem lifted (os : Os) (started : os.Started) (H : Type) (enc : TypeId × Value → H) :
    ReturnsInHanded {} Tryz.checked os 3 .any (Rows.topLagrangeSpec.pre6 enc Tryz.prog Tryz.f3 Rows.topLagrangeRow.domain false) (Rows.topLagrangeSpec.post enc Tryz.prog Tryz.f3 false true false false) :=
  law_row (C := Tryz.checked) own started (by kernel_rfl) Tryz.func3
    (ChangeSpec.witness6 (enc := enc) (C := Tryz.checked) false ⟨#[], #[.int .u16 0, .int .i8 0], []⟩ 24 (by kernel_rfl) (by kernel_rfl) (by kernel_rfl) (by kernel_rfl))
    lo (fun t ht => by
      have e : Tryz.f3.params.toList = [22, 23] := rfl
      rw [e] at ht
      simp only [List.mem_cons, List.not_mem_nil, or_false] at ht
      rcases ht with rfl | rfl <;> exact ⟨by kernel_rfl, Nat.le_of_ble_eq_true (by kernel_rfl)⟩)
    rfl (fun ds hd => by
      have e : ds.length = 2 := hd
      match ds, e with
      | [x0, x1], _ => exact ⟨rfl, rfl, rfl⟩)
    rfl Tryz.underlying4 (fun W => opened) (fun W p hp => by cases hp)

theorem k_named : Tryz.prog.funcNamed Rows.topLagrangeRow.func = some 3 := by kernel_rfl
theorem k_wf : Rows.topLagrangeRow.wf (OpenSpec.ofChange Rows.topLagrangeSpec) = true := by kernel_rfl
theorem k_tie : namedTie Tryz.prog Rows.topLagrangeRow.named Rows.topLagrangeSpec.vars = true := by kernel_rfl
theorem k_rowed : mapsRowed Tryz.prog = true := by kernel_rfl
theorem k_place : (Rows.topLagrangeRow.inPlace == Tryz.prog.inPlace 3) = true := by kernel_rfl
theorem k_foll : (Rows.topLagrangeRow.unfollowed == Tryz.prog.unfollowed 3) = true := by kernel_rfl
theorem k_rec : (Rows.topLagrangeRow.recurses == Tryz.prog.recurses 3) = true := by kernel_rfl
theorem k_vars : (Rows.topLagrangeRow.named == Tryz.prog.varsNamed 3) = true := by kernel_rfl
theorem closed : joinedFacts Tryz.prog 3 Tryz.f3 Rows.topLagrangeSpec Rows.topLagrangeRow = true := by
  unfold joinedFacts
  rw [k_wf, lo, k_rowed, k_tie, k_place, k_foll, k_rec, k_vars]
  kernel_rfl
theorem k_inst : Tryz.f3.isInstance Tryz.prog Rows.topLagrangeRow.origin Rows.topLagrangeRow.targs := of_decide_eq_true (by kernel_rfl)
theorem k_wrap : Tryz.f3.isWrapper Tryz.prog Rows.topLagrangeRow.wrapper Rows.topLagrangeRow.mainSum := by unfold Func.isWrapper; first | (rw [if_pos (by decide +kernel)]; kernel_rfl) | (rw [if_neg (by decide +kernel)]; exact ⟨rfl, rfl⟩)
theorem over : Rows.topLagrangeRow.holds Tryz.pinned (OpenSpec.ofChange Rows.topLagrangeSpec) :=
  OpenClaim.holds_of_wide 3 Tryz.f3 rfl rfl rfl rfl rfl rfl rfl ⟨rfl, rfl, rfl, rfl, rfl⟩ rfl rfl rfl rfl rfl k_named Tryz.func3 closed k_inst k_wrap
    (fun os started H enc _ => lifted os started H enc)

theorem proved : Rows.TopLagrangeSaid := over
end Go.Proofs.YtfdjankalhfceaaGreat.topLagrange
