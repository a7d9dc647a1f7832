/- Texts merged by program, in build order. -/
import Derived.Test.YtjfoccjngbgolaaGreatMC
import Derived.Test.YtjfoccjngbgolaaGreatMH
import Derived.Test.YtjfoccjngbgolaaGreatRows
section
/- The law 'FormInverse': for every input the call returns true and its arguments read as they did. No condition. -/
namespace Go.Proofs.YtjfoccjngbgolaaGreat.formInverse
open Go Go.AM Go.RowKit

theorem own : ownKnob Tryz.prog.godebug = none := by kernel_rfl
theorem lo : laidOutB Tryz.prog = true := by kernel_rfl
theorem o22 {H : Type} {enc : TypeId × Value → H} {W : World} : Opens enc Tryz.prog W 22 [.i .u16] :=
  opens_int Tryz.underlying22
theorem o23 {H : Type} {enc : TypeId × Value → H} {W : World} : Opens enc Tryz.prog W 23 [.i .u16, .i .u16, .i .u16, .i .u16] :=
  opens_array Tryz.underlying23 o22 (by kernel_rfl) (by kernel_rfl)
theorem o5 {H : Type} {enc : TypeId × Value → H} {W : World} : Opens enc Tryz.prog W 5 [.i .u8] :=
  opens_int Tryz.underlying5
theorem o24 {H : Type} {enc : TypeId × Value → H} {W : World} : Opens enc Tryz.prog W 24 [.i .u8, .i .u8, .i .u8, .i .u8] :=
  opens_array Tryz.underlying24 o5 (by kernel_rfl) (by kernel_rfl)
theorem o26 {H : Type} {enc : TypeId × Value → H} {W : World} : Opens enc Tryz.prog W 26 [.i .u16, .i .u16, .i .u16, .i .u16, .i .u16, .i .u8, .i .u8, .i .u8, .i .u8] :=
  by
  refine opens_struct Tryz.underlying26 ?_ (by kernel_rfl)
  show OpensF _ _ _ 0 (_ :: _ :: _ :: []) ([.i .u16] ++ ([.i .u16, .i .u16, .i .u16, .i .u16] ++ ([.i .u8, .i .u8, .i .u8, .i .u8] ++ [])))
  exact opensF_cons rfl o22 (by kernel_rfl) (opensF_cons rfl o23 (by kernel_rfl) (opensF_cons rfl o24 (by kernel_rfl) opensF_nil))
theorem o53 {H : Type} {enc : TypeId × Value → H} {W : World} : Opens enc Tryz.prog W 53 [.i .i16] :=
  opens_int Tryz.underlying53
theorem o54 {H : Type} {enc : TypeId × Value → H} {W : World} : Opens enc Tryz.prog W 54 [.i .i16, .i .i16] :=
  opens_array Tryz.underlying54 o53 (by kernel_rfl) (by kernel_rfl)
set_option maxRecDepth 100000 in
theorem opened {H : Type} {enc : TypeId × Value → H} {W : World} : ArgsData enc Tryz.prog W Tryz.f5 5 := by
  refine args2 (rfl : Tryz.f5.params = #[26, 54]) ?_
  intro v0 e0 p0 v1 e1 p1 base hv0 ht0 hw0 hv1 ht1 hw1
  obtain ⟨d0, l0, r0⟩ := arg_agg (by rw [Tryz.underlying26]) o26 hv0 ht0 hw0
  obtain ⟨b0_0, c0_0, rfl, w0_0, l0_0⟩ := l0.i
  obtain ⟨b0_1, c0_1, rfl, w0_1, l0_1⟩ := l0_0.i
  obtain ⟨b0_2, c0_2, rfl, w0_2, l0_2⟩ := l0_1.i
  obtain ⟨b0_3, c0_3, rfl, w0_3, l0_3⟩ := l0_2.i
  obtain ⟨b0_4, c0_4, rfl, w0_4, l0_4⟩ := l0_3.i
  obtain ⟨b0_5, c0_5, rfl, w0_5, l0_5⟩ := l0_4.i
  obtain ⟨b0_6, c0_6, rfl, w0_6, l0_6⟩ := l0_5.i
  obtain ⟨b0_7, c0_7, rfl, w0_7, l0_7⟩ := l0_6.i
  obtain ⟨b0_8, c0_8, rfl, w0_8, l0_8⟩ := l0_7.i
  obtain rfl := l0_8.nil
  obtain ⟨d1, l1, r1⟩ := arg_agg (by rw [Tryz.underlying54]) o54 hv1 ht1 hw1
  obtain ⟨b1_0, c1_0, rfl, w1_0, l1_0⟩ := l1.i
  obtain ⟨b1_1, c1_1, rfl, w1_1, l1_1⟩ := l1_0.i
  obtain rfl := l1_1.nil
  refine ⟨[_, _], ⟨r0, r1, trivial⟩, ?_⟩
  have h0 := Int.toNat_of_nonneg (bounds_u16 w0_0).1
  have h1 := Int.toNat_of_nonneg (bounds_u16 w0_1).1
  have h2 := Int.toNat_of_nonneg (bounds_u16 w0_2).1
  have h3 := Int.toNat_of_nonneg (bounds_u16 w0_3).1
  have h4 := Int.toNat_of_nonneg (bounds_u16 w0_4).1
  have h5 := Int.toNat_of_nonneg (bounds_u8 w0_5).1
  have h6 := Int.toNat_of_nonneg (bounds_u8 w0_6).1
  have h7 := Int.toNat_of_nonneg (bounds_u8 w0_7).1
  have h8 := Int.toNat_of_nonneg (bounds_u8 w0_8).1
  have g0 := (bounds_u16 w0_0).2
  have g1 := (bounds_u16 w0_1).2
  have g2 := (bounds_u16 w0_2).2
  have g3 := (bounds_u16 w0_3).2
  have g4 := (bounds_u16 w0_4).2
  have g5 := (bounds_u8 w0_5).2
  have g6 := (bounds_u8 w0_6).2
  have g7 := (bounds_u8 w0_7).2
  have g8 := (bounds_u8 w0_8).2
  rw [← h0, ← h1, ← h2, ← h3, ← h4, ← h5, ← h6, ← h7, ← h8]
  exact l_FormInverse _ _ _ _ _ _ _ _ _ (by omega) (by omega) (by omega) (by omega) (by omega) (by omega) (by omega) (by omega) (by omega) _ _ (bounds_i16 w1_0) (bounds_i16 w1_1)

set_option maxRecDepth 100000 in
theorem lifted (os : Os) (started : os.Started) (H : Type) (enc : TypeId × Value → H) :
    ReturnsInHanded {} Tryz.checked os 5 .any (Rows.formInverseSpec.pre6 enc Tryz.prog Tryz.f5 Rows.formInverseRow.domain false) (Rows.formInverseSpec.post enc Tryz.prog Tryz.f5 false true false false) :=
  law_row (C := Tryz.checked) own started (by kernel_rfl) Tryz.func5
    (ChangeSpec.witness6 (enc := enc) (C := Tryz.checked) false ⟨#[], #[.agg #[.int .u16 0, .int .u16 0, .int .u16 0, .int .u16 0, .int .u16 0, .int .u8 0, .int .u8 0, .int .u8 0, .int .u8 0], .agg #[.int .i16 0, .int .i16 0]], []⟩ 24 (by kernel_rfl) (by kernel_rfl) (by kernel_rfl) (by kernel_rfl))
    lo (fun t ht => by
      have e : Tryz.f5.params.toList = [26, 54] := rfl
      rw [e] at ht
      simp only [List.mem_cons, List.not_mem_nil, or_false] at ht
      rcases ht with rfl | rfl <;> exact ⟨by kernel_rfl, Nat.le_of_ble_eq_true (by kernel_rfl)⟩)
    rfl (fun ds hd => by
      have e : ds.length = 2 := hd
      match ds, e with
      | [x0, x1], _ => exact ⟨rfl, rfl, rfl⟩)
    rfl Tryz.underlying4 (fun W => opened)

theorem over : Rows.formInverseRow.holds Tryz.pinned (OpenSpec.ofChange Rows.formInverseSpec) :=
  OpenClaim.holds_of_wide 5 Tryz.f5 rfl rfl rfl rfl rfl rfl rfl ⟨rfl, rfl, rfl, rfl, rfl⟩ rfl rfl rfl rfl rfl (by kernel_rfl) Tryz.func5 (by kernel_rfl)
    (of_decide_eq_true (by kernel_rfl)) (by unfold Func.isWrapper; first | (rw [if_pos (by decide +kernel)]; kernel_rfl) | (rw [if_neg (by decide +kernel)]; exact ⟨rfl, rfl⟩))
    (fun os started H enc _ => lifted os started H enc)

theorem proved : Rows.FormInverseSaid := over
end Go.Proofs.YtjfoccjngbgolaaGreat.formInverse
end
