/- Texts merged by program, in build order. -/
import Derived.Test.YtjfoccjngbgolaaMC
import Derived.Test.YtjfoccjngbgolaaMH
import Derived.Test.YtjfoccjngbgolaaRows
section
/- The law 'FormRefuses': for every input the call returns true and its arguments read as they did. No condition. -/
namespace Go.Proofs.Ytjfoccjngbgolaa.formRefuses
open Go Go.AM Go.RowKit

theorem own : ownKnob Try.prog.godebug = none := by kernel_rfl
theorem lo : laidOutB Try.prog = true := by kernel_rfl
theorem o4 {H : Type} {enc : TypeId × Value → H} {W : World} : Opens enc Try.prog W 4 [.b] :=
  opens_bool Try.underlying4
theorem o22 {H : Type} {enc : TypeId × Value → H} {W : World} : Opens enc Try.prog W 22 [.s] :=
  opens_words Try.underlying22 Try.underlying94 (by kernel_rfl) (by kernel_rfl)
theorem o24 {H : Type} {enc : TypeId × Value → H} {W : World} : Opens enc Try.prog W 24 [.b, .s] :=
  by
  refine opens_struct Try.underlying24 ?_ (by kernel_rfl)
  show OpensF _ _ _ 0 (_ :: _ :: []) ([.b] ++ ([.s] ++ []))
  exact opensF_cons rfl o4 (by kernel_rfl) (opensF_cons rfl o22 (by kernel_rfl) opensF_nil)
set_option maxRecDepth 100000 in
theorem opened {H : Type} {enc : TypeId × Value → H} {W : World} : ArgsData enc Try.prog W Try.f6 6 := by
  refine args3 (rfl : Try.f6.params = #[24, 24, 24]) ?_
  intro v0 e0 p0 v1 e1 p1 v2 e2 p2 base hv0 ht0 hw0 hv1 ht1 hw1 hv2 ht2 hw2
  obtain ⟨d0, l0, r0⟩ := arg_agg (by rw [Try.underlying24]) o24 hv0 ht0 hw0
  obtain ⟨b0_0, s0_0, c0_0, rfl, w0_0, l0_0⟩ := l0.bs
  obtain rfl := l0_0.nil
  obtain ⟨d1, l1, r1⟩ := arg_agg (by rw [Try.underlying24]) o24 hv1 ht1 hw1
  obtain ⟨b1_0, s1_0, c1_0, rfl, w1_0, l1_0⟩ := l1.bs
  obtain rfl := l1_0.nil
  obtain ⟨d2, l2, r2⟩ := arg_agg (by rw [Try.underlying24]) o24 hv2 ht2 hw2
  obtain ⟨b2_0, s2_0, c2_0, rfl, w2_0, l2_0⟩ := l2.bs
  obtain rfl := l2_0.nil
  refine ⟨[_, _, _], ⟨r0, r1, r2, trivial⟩, ?_⟩
  exact l_FormRefuses _ _ _ _ _ _ w0_0 w1_0 w2_0

set_option maxRecDepth 100000 in
theorem lifted (os : Os) (started : os.Started) (H : Type) (enc : TypeId × Value → H) :
    ReturnsInHanded {} Try.checked os 6 .any (Rows.formRefusesSpec.pre6 enc Try.prog Try.f6 Rows.formRefusesRow.domain false) (Rows.formRefusesSpec.post enc Try.prog Try.f6 false true false false) :=
  law_row (C := Try.checked) own started (by kernel_rfl) Try.func6
    (ChangeSpec.witness6 (enc := enc) (C := Try.checked) false ⟨#[], #[.agg #[.bool false, .slice none 0 0], .agg #[.bool false, .slice none 0 0], .agg #[.bool false, .slice none 0 0]], []⟩ 24 (by kernel_rfl) (by kernel_rfl) (by kernel_rfl) (by kernel_rfl))
    lo (fun t ht => by
      have e : Try.f6.params.toList = [24, 24, 24] := rfl
      rw [e] at ht
      simp only [List.mem_cons, List.not_mem_nil, or_false] at ht
      rcases ht with rfl | rfl | rfl <;> exact ⟨by kernel_rfl, Nat.le_of_ble_eq_true (by kernel_rfl)⟩)
    rfl (fun ds hd => by
      have e : ds.length = 3 := hd
      match ds, e with
      | [x0, x1, x2], _ => exact ⟨rfl, rfl, rfl⟩)
    rfl Try.underlying4 (fun W => opened)

theorem over : Rows.formRefusesRow.holds Try.pinned (OpenSpec.ofChange Rows.formRefusesSpec) :=
  OpenClaim.holds_of_wide 6 Try.f6 rfl rfl rfl rfl rfl rfl rfl ⟨rfl, rfl, rfl, rfl, rfl⟩ rfl rfl rfl rfl rfl (by kernel_rfl) Try.func6 (by kernel_rfl)
    (of_decide_eq_true (by kernel_rfl)) (by unfold Func.isWrapper; first | (rw [if_pos (by decide +kernel)]; kernel_rfl) | (rw [if_neg (by decide +kernel)]; exact ⟨rfl, rfl⟩))
    (fun os started H enc _ => lifted os started H enc)

theorem proved : Rows.FormRefusesSaid := over
end Go.Proofs.Ytjfoccjngbgolaa.formRefuses
end
