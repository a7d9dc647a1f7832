/- Texts merged by program, in build order. -/
import Derived.Test.YtjfoccjngbgolaaGreatMC
import Derived.Test.YtjfoccjngbgolaaGreatMG
import Derived.Test.YtjfoccjngbgolaaGreatRows
section
/- The law 'FormMatchesReference': for every input the call returns true and its arguments read as they did. No condition. -/
namespace Go.Proofs.YtjfoccjngbgolaaGreat.formMatchesReference
open Go Go.AM Go.RowKit

theorem own : ownKnob Tryz.prog.godebug = none := by kernel_rfl
theorem lo : laidOutB Tryz.prog = true := by kernel_rfl
theorem o4 {H : Type} {enc : TypeId × Value → H} {W : World} : Opens enc Tryz.prog W 4 [.b] :=
  opens_bool Tryz.underlying4
theorem o28 {H : Type} {enc : TypeId × Value → H} {W : World} : Opens enc Tryz.prog W 28 [.s] :=
  opens_words Tryz.underlying28 Tryz.underlying90 (by kernel_rfl) (by kernel_rfl)
theorem o62 {H : Type} {enc : TypeId × Value → H} {W : World} : Opens enc Tryz.prog W 62 [.b, .s] :=
  by
  refine opens_struct Tryz.underlying62 ?_ (by kernel_rfl)
  show OpensF _ _ _ 0 (_ :: _ :: []) ([.b] ++ ([.s] ++ []))
  exact opensF_cons rfl o4 (by kernel_rfl) (opensF_cons rfl o28 (by kernel_rfl) opensF_nil)
theorem o63 {H : Type} {enc : TypeId × Value → H} {W : World} : Opens enc Tryz.prog W 63 [.b, .s, .b, .s, .b, .s] :=
  opens_array Tryz.underlying63 o62 (by kernel_rfl) (by kernel_rfl)
theorem o64 {H : Type} {enc : TypeId × Value → H} {W : World} : Opens enc Tryz.prog W 64 [.b, .s, .b, .s, .b, .s, .b, .s] :=
  opens_array Tryz.underlying64 o62 (by kernel_rfl) (by kernel_rfl)
theorem o66 {H : Type} {enc : TypeId × Value → H} {W : World} : Opens enc Tryz.prog W 66 [.b, .s, .b, .s, .b, .s, .b, .s, .b, .s, .b, .s, .b, .s] :=
  by
  refine opens_struct Tryz.underlying66 ?_ (by kernel_rfl)
  show OpensF _ _ _ 0 (_ :: _ :: []) ([.b, .s, .b, .s, .b, .s] ++ ([.b, .s, .b, .s, .b, .s, .b, .s] ++ []))
  exact opensF_cons rfl o63 (by kernel_rfl) (opensF_cons rfl o64 (by kernel_rfl) opensF_nil)
set_option maxRecDepth 100000 in
theorem opened {H : Type} {enc : TypeId × Value → H} {W : World} : ArgsData enc Tryz.prog W Tryz.f6 6 := by
  refine args2 (rfl : Tryz.f6.params = #[66, 66]) ?_
  intro v0 e0 p0 v1 e1 p1 base hv0 ht0 hw0 hv1 ht1 hw1
  obtain ⟨d0, l0, r0⟩ := arg_agg (by rw [Tryz.underlying66]) o66 hv0 ht0 hw0
  obtain ⟨b0_0, s0_0, c0_0, rfl, w0_0, l0_0⟩ := l0.bs
  obtain ⟨b0_1, s0_1, c0_1, rfl, w0_1, l0_1⟩ := l0_0.bs
  obtain ⟨b0_2, s0_2, c0_2, rfl, w0_2, l0_2⟩ := l0_1.bs
  obtain ⟨b0_3, s0_3, c0_3, rfl, w0_3, l0_3⟩ := l0_2.bs
  obtain ⟨b0_4, s0_4, c0_4, rfl, w0_4, l0_4⟩ := l0_3.bs
  obtain ⟨b0_5, s0_5, c0_5, rfl, w0_5, l0_5⟩ := l0_4.bs
  obtain ⟨b0_6, s0_6, c0_6, rfl, w0_6, l0_6⟩ := l0_5.bs
  obtain rfl := l0_6.nil
  obtain ⟨d1, l1, r1⟩ := arg_agg (by rw [Tryz.underlying66]) o66 hv1 ht1 hw1
  obtain ⟨b1_0, s1_0, c1_0, rfl, w1_0, l1_0⟩ := l1.bs
  obtain ⟨b1_1, s1_1, c1_1, rfl, w1_1, l1_1⟩ := l1_0.bs
  obtain ⟨b1_2, s1_2, c1_2, rfl, w1_2, l1_2⟩ := l1_1.bs
  obtain ⟨b1_3, s1_3, c1_3, rfl, w1_3, l1_3⟩ := l1_2.bs
  obtain ⟨b1_4, s1_4, c1_4, rfl, w1_4, l1_4⟩ := l1_3.bs
  obtain ⟨b1_5, s1_5, c1_5, rfl, w1_5, l1_5⟩ := l1_4.bs
  obtain ⟨b1_6, s1_6, c1_6, rfl, w1_6, l1_6⟩ := l1_5.bs
  obtain rfl := l1_6.nil
  refine ⟨[_, _], ⟨r0, r1, trivial⟩, ?_⟩
  exact l_FormMatchesReference _ _ _ _ _ _ _ _ _ _ _ _ _ _  w0_0 w0_1 w0_2 w0_3 w0_4 w0_5 w0_6 _ _ _ _ _ _ _ _ _ _ _ _ _ _  w1_0 w1_1 w1_2 w1_3 w1_4 w1_5 w1_6

set_option maxRecDepth 100000 in
theorem lifted (os : Os) (started : os.Started) (H : Type) (enc : TypeId × Value → H) :
    ReturnsInHanded {} Tryz.checked os 6 .any (Rows.formMatchesReferenceSpec.pre6 enc Tryz.prog Tryz.f6 Rows.formMatchesReferenceRow.domain false) (Rows.formMatchesReferenceSpec.post enc Tryz.prog Tryz.f6 false true false false) :=
  law_row (C := Tryz.checked) own started (by kernel_rfl) Tryz.func6
    (ChangeSpec.witness6 (enc := enc) (C := Tryz.checked) false ⟨#[], #[.agg #[.bool false, .slice none 0 0, .bool false, .slice none 0 0, .bool false, .slice none 0 0, .bool false, .slice none 0 0, .bool false, .slice none 0 0, .bool false, .slice none 0 0, .bool false, .slice none 0 0], .agg #[.bool false, .slice none 0 0, .bool false, .slice none 0 0, .bool false, .slice none 0 0, .bool false, .slice none 0 0, .bool false, .slice none 0 0, .bool false, .slice none 0 0, .bool false, .slice none 0 0]], []⟩ 24 (by kernel_rfl) (by kernel_rfl) (by kernel_rfl) (by kernel_rfl))
    lo (fun t ht => by
      have e : Tryz.f6.params.toList = [66, 66] := rfl
      rw [e] at ht
      simp only [List.mem_cons, List.not_mem_nil, or_false] at ht
      rcases ht with rfl | rfl <;> exact ⟨by kernel_rfl, Nat.le_of_ble_eq_true (by kernel_rfl)⟩)
    rfl (fun ds hd => by
      have e : ds.length = 2 := hd
      match ds, e with
      | [x0, x1], _ => exact ⟨rfl, rfl, rfl⟩)
    rfl Tryz.underlying4 (fun W => opened)

theorem over : Rows.formMatchesReferenceRow.holds Tryz.pinned (OpenSpec.ofChange Rows.formMatchesReferenceSpec) :=
  OpenClaim.holds_of_wide 6 Tryz.f6 rfl rfl rfl rfl rfl rfl rfl ⟨rfl, rfl, rfl, rfl, rfl⟩ rfl rfl rfl rfl rfl (by kernel_rfl) Tryz.func6 (by kernel_rfl)
    (of_decide_eq_true (by kernel_rfl)) (by unfold Func.isWrapper; first | (rw [if_pos (by decide +kernel)]; kernel_rfl) | (rw [if_neg (by decide +kernel)]; exact ⟨rfl, rfl⟩))
    (fun os started H enc _ => lifted os started H enc)

theorem proved : Rows.FormMatchesReferenceSaid := over
end Go.Proofs.YtjfoccjngbgolaaGreat.formMatchesReference
end
