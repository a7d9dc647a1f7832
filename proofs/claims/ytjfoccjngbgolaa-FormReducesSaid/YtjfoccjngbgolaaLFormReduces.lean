/- Texts merged by program, in build order. -/
import Derived.Test.YtjfoccjngbgolaaMC
import Derived.Test.YtjfoccjngbgolaaMF
import Derived.Test.YtjfoccjngbgolaaRows
section
/- The law 'FormReduces': for every input the call returns true and its arguments read as they did. No condition. -/
namespace Go.Proofs.Ytjfoccjngbgolaa.formReduces
open Go Go.AM Go.RowKit

theorem own : ownKnob Try.prog.godebug = none := by kernel_rfl
theorem lo : laidOutB Try.prog = true := by kernel_rfl
theorem o4 {H : Type} {enc : TypeId × Value → H} {W : World} : Opens enc Try.prog W 4 [.b] :=
  opens_bool Try.underlying4
theorem o22 {H : Type} {enc : TypeId × Value → H} {W : World} : Opens enc Try.prog W 22 [.s] :=
  opens_words Try.underlying22 Try.underlying94 (by kernel_rfl) (by kernel_rfl)
theorem o24 {H : Type} {enc : TypeId × Value → H} {W : World} : Opens enc Try.prog W 24 [.b, .s] :=
  by
  refine opens_struct Try.underlying24 ?_ (by kernel_rfl)
  show OpensF _ _ _ 0 (_ :: _ :: []) ([.b] ++ ([.s] ++ []))
  exact opensF_cons rfl o4 (by kernel_rfl) (opensF_cons rfl o22 (by kernel_rfl) opensF_nil)
theorem o25 {H : Type} {enc : TypeId × Value → H} {W : World} : Opens enc Try.prog W 25 [.b, .s, .b, .s, .b, .s] :=
  opens_array Try.underlying25 o24 (by kernel_rfl) (by kernel_rfl)
theorem o26 {H : Type} {enc : TypeId × Value → H} {W : World} : Opens enc Try.prog W 26 [.b, .s, .b, .s, .b, .s, .b, .s] :=
  opens_array Try.underlying26 o24 (by kernel_rfl) (by kernel_rfl)
theorem o28 {H : Type} {enc : TypeId × Value → H} {W : World} : Opens enc Try.prog W 28 [.b, .s, .b, .s, .b, .s, .b, .s, .b, .s, .b, .s, .b, .s] :=
  by
  refine opens_struct Try.underlying28 ?_ (by kernel_rfl)
  show OpensF _ _ _ 0 (_ :: _ :: []) ([.b, .s, .b, .s, .b, .s] ++ ([.b, .s, .b, .s, .b, .s, .b, .s] ++ []))
  exact opensF_cons rfl o25 (by kernel_rfl) (opensF_cons rfl o26 (by kernel_rfl) opensF_nil)
set_option maxRecDepth 100000 in
theorem opened {H : Type} {enc : TypeId × Value → H} {W : World} : ArgsData enc Try.prog W Try.f3 3 := by
  refine args1 (rfl : Try.f3.params = #[28]) ?_
  intro v0 e0 p0 base hv0 ht0 hw0
  obtain ⟨d0, l0, r0⟩ := arg_agg (by rw [Try.underlying28]) o28 hv0 ht0 hw0
  obtain ⟨b0_0, s0_0, c0_0, rfl, w0_0, l0_0⟩ := l0.bs
  obtain ⟨b0_1, s0_1, c0_1, rfl, w0_1, l0_1⟩ := l0_0.bs
  obtain ⟨b0_2, s0_2, c0_2, rfl, w0_2, l0_2⟩ := l0_1.bs
  obtain ⟨b0_3, s0_3, c0_3, rfl, w0_3, l0_3⟩ := l0_2.bs
  obtain ⟨b0_4, s0_4, c0_4, rfl, w0_4, l0_4⟩ := l0_3.bs
  obtain ⟨b0_5, s0_5, c0_5, rfl, w0_5, l0_5⟩ := l0_4.bs
  obtain ⟨b0_6, s0_6, c0_6, rfl, w0_6, l0_6⟩ := l0_5.bs
  obtain rfl := l0_6.nil
  refine ⟨[_], ⟨r0, trivial⟩, ?_⟩
  exact l_FormReduces _ _ _ _ _ _ _ _ _ _ _ _ _ _ w0_0 w0_1 w0_2 w0_3 w0_4 w0_5 w0_6

set_option maxRecDepth 100000 in
theorem lifted (os : Os) (started : os.Started) (H : Type) (enc : TypeId × Value → H) :
    ReturnsInHanded {} Try.checked os 3 .any (Rows.formReducesSpec.pre6 enc Try.prog Try.f3 Rows.formReducesRow.domain false) (Rows.formReducesSpec.post enc Try.prog Try.f3 false true false false) :=
  law_row (C := Try.checked) own started (by kernel_rfl) Try.func3
    (ChangeSpec.witness6 (enc := enc) (C := Try.checked) false ⟨#[], #[.agg #[.bool false, .slice none 0 0, .bool false, .slice none 0 0, .bool false, .slice none 0 0, .bool false, .slice none 0 0, .bool false, .slice none 0 0, .bool false, .slice none 0 0, .bool false, .slice none 0 0]], []⟩ 24 (by kernel_rfl) (by kernel_rfl) (by kernel_rfl) (by kernel_rfl))
    lo (fun t ht => by
      have e : Try.f3.params.toList = [28] := rfl
      rw [e] at ht
      simp only [List.mem_cons, List.not_mem_nil, or_false] at ht
      subst ht 
      exact ⟨by kernel_rfl, Nat.le_of_ble_eq_true (by kernel_rfl)⟩)
    rfl (fun ds hd => by
      have e : ds.length = 1 := hd
      match ds, e with
      | [x0], _ => exact ⟨rfl, rfl, rfl⟩)
    rfl Try.underlying4 (fun W => opened)

theorem over : Rows.formReducesRow.holds Try.pinned (OpenSpec.ofChange Rows.formReducesSpec) :=
  OpenClaim.holds_of_wide 3 Try.f3 rfl rfl rfl rfl rfl rfl rfl ⟨rfl, rfl, rfl, rfl, rfl⟩ rfl rfl rfl rfl rfl (by kernel_rfl) Try.func3 (by kernel_rfl)
    (of_decide_eq_true (by kernel_rfl)) (by unfold Func.isWrapper; first | (rw [if_pos (by decide +kernel)]; kernel_rfl) | (rw [if_neg (by decide +kernel)]; exact ⟨rfl, rfl⟩))
    (fun os started H enc _ => lifted os started H enc)

theorem proved : Rows.FormReducesSaid := over
end Go.Proofs.Ytjfoccjngbgolaa.formReduces
end
