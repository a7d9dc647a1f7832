/- Texts merged by program, in build order. -/
import Derived.Test.YtjfoccjngbgolaaMC
import Derived.Test.YtjfoccjngbgolaaMG
import Derived.Test.YtjfoccjngbgolaaRows
section
/- The law 'FormInvariants': for every input the call returns true and its arguments read as they did. No condition. -/
namespace Go.Proofs.Ytjfoccjngbgolaa.formInvariants
open Go Go.AM Go.RowKit

theorem own : ownKnob Try.prog.godebug = none := by kernel_rfl
theorem lo : laidOutB Try.prog = true := by kernel_rfl
theorem o4 {H : Type} {enc : TypeId × Value → H} {W : World} : Opens enc Try.prog W 4 [.b] :=
  opens_bool Try.underlying4
theorem o22 {H : Type} {enc : TypeId × Value → H} {W : World} : Opens enc Try.prog W 22 [.s] :=
  opens_words Try.underlying22 Try.underlying94 (by kernel_rfl) (by kernel_rfl)
theorem o24 {H : Type} {enc : TypeId × Value → H} {W : World} : Opens enc Try.prog W 24 [.b, .s] :=
  by
  refine opens_struct Try.underlying24 ?_ (by kernel_rfl)
  show OpensF _ _ _ 0 (_ :: _ :: []) ([.b] ++ ([.s] ++ []))
  exact opensF_cons rfl o4 (by kernel_rfl) (opensF_cons rfl o22 (by kernel_rfl) opensF_nil)
theorem o25 {H : Type} {enc : TypeId × Value → H} {W : World} : Opens enc Try.prog W 25 [.b, .s, .b, .s, .b, .s] :=
  opens_array Try.underlying25 o24 (by kernel_rfl) (by kernel_rfl)
theorem o26 {H : Type} {enc : TypeId × Value → H} {W : World} : Opens enc Try.prog W 26 [.b, .s, .b, .s, .b, .s, .b, .s] :=
  opens_array Try.underlying26 o24 (by kernel_rfl) (by kernel_rfl)
theorem o28 {H : Type} {enc : TypeId × Value → H} {W : World} : Opens enc Try.prog W 28 [.b, .s, .b, .s, .b, .s, .b, .s, .b, .s, .b, .s, .b, .s] :=
  by
  refine opens_struct Try.underlying28 ?_ (by kernel_rfl)
  show OpensF _ _ _ 0 (_ :: _ :: []) ([.b, .s, .b, .s, .b, .s] ++ ([.b, .s, .b, .s, .b, .s, .b, .s] ++ []))
  exact opensF_cons rfl o25 (by kernel_rfl) (opensF_cons rfl o26 (by kernel_rfl) opensF_nil)
theorem o5 {H : Type} {enc : TypeId × Value → H} {W : World} : Opens enc Try.prog W 5 [.i .u8] :=
  opens_int Try.underlying5
theorem o75 {H : Type} {enc : TypeId × Value → H} {W : World} : Opens enc Try.prog W 75 [.i .u8, .i .u8] :=
  opens_array Try.underlying75 o5 (by kernel_rfl) (by kernel_rfl)
set_option maxRecDepth 100000 in
theorem opened {H : Type} {enc : TypeId × Value → H} {W : World} : ArgsData enc Try.prog W Try.f7 7 := by
  refine args2 (rfl : Try.f7.params = #[28, 75]) ?_
  intro v0 e0 p0 v1 e1 p1 base hv0 ht0 hw0 hv1 ht1 hw1
  obtain ⟨d0, l0, r0⟩ := arg_agg (by rw [Try.underlying28]) o28 hv0 ht0 hw0
  obtain ⟨b0_0, s0_0, c0_0, rfl, w0_0, l0_0⟩ := l0.bs
  obtain ⟨b0_1, s0_1, c0_1, rfl, w0_1, l0_1⟩ := l0_0.bs
  obtain ⟨b0_2, s0_2, c0_2, rfl, w0_2, l0_2⟩ := l0_1.bs
  obtain ⟨b0_3, s0_3, c0_3, rfl, w0_3, l0_3⟩ := l0_2.bs
  obtain ⟨b0_4, s0_4, c0_4, rfl, w0_4, l0_4⟩ := l0_3.bs
  obtain ⟨b0_5, s0_5, c0_5, rfl, w0_5, l0_5⟩ := l0_4.bs
  obtain ⟨b0_6, s0_6, c0_6, rfl, w0_6, l0_6⟩ := l0_5.bs
  obtain rfl := l0_6.nil
  obtain ⟨d1, l1, r1⟩ := arg_agg (by rw [Try.underlying75]) o75 hv1 ht1 hw1
  obtain ⟨b1_0, c1_0, rfl, w1_0, l1_0⟩ := l1.i
  obtain ⟨b1_1, c1_1, rfl, w1_1, l1_1⟩ := l1_0.i
  obtain rfl := l1_1.nil
  refine ⟨[_, _], ⟨r0, r1, trivial⟩, ?_⟩
  have h0 := Int.toNat_of_nonneg (bounds_u8 w1_0).1
  have h1 := Int.toNat_of_nonneg (bounds_u8 w1_1).1
  have g0 := (bounds_u8 w1_0).2
  have g1 := (bounds_u8 w1_1).2
  rw [← h0, ← h1]
  exact l_FormInvariants _ _ _ _ _ _ _ _ _ _ _ _ _ _  w0_0 w0_1 w0_2 w0_3 w0_4 w0_5 w0_6 _ _ (by omega) (by omega)

set_option maxRecDepth 100000 in
theorem lifted (os : Os) (started : os.Started) (H : Type) (enc : TypeId × Value → H) :
    ReturnsInHanded {} Try.checked os 7 .any (Rows.formInvariantsSpec.pre6 enc Try.prog Try.f7 Rows.formInvariantsRow.domain false) (Rows.formInvariantsSpec.post enc Try.prog Try.f7 false true false false) :=
  law_row (C := Try.checked) own started (by kernel_rfl) Try.func7
    (ChangeSpec.witness6 (enc := enc) (C := Try.checked) false ⟨#[], #[.agg #[.bool false, .slice none 0 0, .bool false, .slice none 0 0, .bool false, .slice none 0 0, .bool false, .slice none 0 0, .bool false, .slice none 0 0, .bool false, .slice none 0 0, .bool false, .slice none 0 0], .agg #[.int .u8 0, .int .u8 0]], []⟩ 24 (by kernel_rfl) (by kernel_rfl) (by kernel_rfl) (by kernel_rfl))
    lo (fun t ht => by
      have e : Try.f7.params.toList = [28, 75] := rfl
      rw [e] at ht
      simp only [List.mem_cons, List.not_mem_nil, or_false] at ht
      rcases ht with rfl | rfl <;> exact ⟨by kernel_rfl, Nat.le_of_ble_eq_true (by kernel_rfl)⟩)
    rfl (fun ds hd => by
      have e : ds.length = 2 := hd
      match ds, e with
      | [x0, x1], _ => exact ⟨rfl, rfl, rfl⟩)
    rfl Try.underlying4 (fun W => opened)

theorem over : Rows.formInvariantsRow.holds Try.pinned (OpenSpec.ofChange Rows.formInvariantsSpec) :=
  OpenClaim.holds_of_wide 7 Try.f7 rfl rfl rfl rfl rfl rfl rfl ⟨rfl, rfl, rfl, rfl, rfl⟩ rfl rfl rfl rfl rfl (by kernel_rfl) Try.func7 (by kernel_rfl)
    (of_decide_eq_true (by kernel_rfl)) (by unfold Func.isWrapper; first | (rw [if_pos (by decide +kernel)]; kernel_rfl) | (rw [if_neg (by decide +kernel)]; exact ⟨rfl, rfl⟩))
    (fun os started H enc _ => lifted os started H enc)

theorem proved : Rows.FormInvariantsSaid := over
end Go.Proofs.Ytjfoccjngbgolaa.formInvariants
end
