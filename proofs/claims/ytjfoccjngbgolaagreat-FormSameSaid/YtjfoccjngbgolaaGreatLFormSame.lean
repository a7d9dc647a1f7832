/- Texts merged by program, in build order. -/
import Derived.Test.YtjfoccjngbgolaaGreatMC
import Derived.Test.YtjfoccjngbgolaaGreatMH
import Derived.Test.YtjfoccjngbgolaaGreatRows
section
/- The law 'FormSame': for every input the call returns true and its arguments read as they did. No condition. -/
namespace Go.Proofs.YtjfoccjngbgolaaGreat.formSame
open Go Go.AM Go.RowKit

theorem own : ownKnob Tryz.prog.godebug = none := by kernel_rfl
theorem lo : laidOutB Tryz.prog = true := by kernel_rfl
theorem o22 {H : Type} {enc : TypeId × Value → H} {W : World} : Opens enc Tryz.prog W 22 [.i .u16] :=
  opens_int Tryz.underlying22
theorem o23 {H : Type} {enc : TypeId × Value → H} {W : World} : Opens enc Tryz.prog W 23 [.i .u16, .i .u16, .i .u16, .i .u16] :=
  opens_array Tryz.underlying23 o22 (by kernel_rfl) (by kernel_rfl)
theorem o5 {H : Type} {enc : TypeId × Value → H} {W : World} : Opens enc Tryz.prog W 5 [.i .u8] :=
  opens_int Tryz.underlying5
theorem o24 {H : Type} {enc : TypeId × Value → H} {W : World} : Opens enc Tryz.prog W 24 [.i .u8, .i .u8, .i .u8, .i .u8] :=
  opens_array Tryz.underlying24 o5 (by kernel_rfl) (by kernel_rfl)
theorem o26 {H : Type} {enc : TypeId × Value → H} {W : World} : Opens enc Tryz.prog W 26 [.i .u16, .i .u16, .i .u16, .i .u16, .i .u16, .i .u8, .i .u8, .i .u8, .i .u8] :=
  by
  refine opens_struct Tryz.underlying26 ?_ (by kernel_rfl)
  show OpensF _ _ _ 0 (_ :: _ :: _ :: []) ([.i .u16] ++ ([.i .u16, .i .u16, .i .u16, .i .u16] ++ ([.i .u8, .i .u8, .i .u8, .i .u8] ++ [])))
  exact opensF_cons rfl o22 (by kernel_rfl) (opensF_cons rfl o23 (by kernel_rfl) (opensF_cons rfl o24 (by kernel_rfl) opensF_nil))
set_option maxRecDepth 100000 in
theorem opened {H : Type} {enc : TypeId × Value → H} {W : World} : ArgsData enc Tryz.prog W Tryz.f4 4 := by
  refine args3 (rfl : Tryz.f4.params = #[26, 26, 5]) ?_
  intro v0 e0 p0 v1 e1 p1 v2 e2 p2 base hv0 ht0 hw0 hv1 ht1 hw1 hv2 ht2 hw2
  obtain ⟨d0, l0, r0⟩ := arg_agg (by rw [Tryz.underlying26]) o26 hv0 ht0 hw0
  obtain ⟨b0_0, c0_0, rfl, w0_0, l0_0⟩ := l0.i
  obtain ⟨b0_1, c0_1, rfl, w0_1, l0_1⟩ := l0_0.i
  obtain ⟨b0_2, c0_2, rfl, w0_2, l0_2⟩ := l0_1.i
  obtain ⟨b0_3, c0_3, rfl, w0_3, l0_3⟩ := l0_2.i
  obtain ⟨b0_4, c0_4, rfl, w0_4, l0_4⟩ := l0_3.i
  obtain ⟨b0_5, c0_5, rfl, w0_5, l0_5⟩ := l0_4.i
  obtain ⟨b0_6, c0_6, rfl, w0_6, l0_6⟩ := l0_5.i
  obtain ⟨b0_7, c0_7, rfl, w0_7, l0_7⟩ := l0_6.i
  obtain ⟨b0_8, c0_8, rfl, w0_8, l0_8⟩ := l0_7.i
  obtain rfl := l0_8.nil
  obtain ⟨d1, l1, r1⟩ := arg_agg (by rw [Tryz.underlying26]) o26 hv1 ht1 hw1
  obtain ⟨b1_0, c1_0, rfl, w1_0, l1_0⟩ := l1.i
  obtain ⟨b1_1, c1_1, rfl, w1_1, l1_1⟩ := l1_0.i
  obtain ⟨b1_2, c1_2, rfl, w1_2, l1_2⟩ := l1_1.i
  obtain ⟨b1_3, c1_3, rfl, w1_3, l1_3⟩ := l1_2.i
  obtain ⟨b1_4, c1_4, rfl, w1_4, l1_4⟩ := l1_3.i
  obtain ⟨b1_5, c1_5, rfl, w1_5, l1_5⟩ := l1_4.i
  obtain ⟨b1_6, c1_6, rfl, w1_6, l1_6⟩ := l1_5.i
  obtain ⟨b1_7, c1_7, rfl, w1_7, l1_7⟩ := l1_6.i
  obtain ⟨b1_8, c1_8, rfl, w1_8, l1_8⟩ := l1_7.i
  obtain rfl := l1_8.nil
  obtain ⟨n2, w2, r2⟩ := arg_int Tryz.underlying5 hv2 ht2
  refine ⟨[_, _, _], ⟨r0, r1, r2, trivial⟩, ?_⟩
  have h0_0 := Int.toNat_of_nonneg (bounds_u16 w0_0).1
  have g0_0 := (bounds_u16 w0_0).2
  have h0_1 := Int.toNat_of_nonneg (bounds_u16 w0_1).1
  have g0_1 := (bounds_u16 w0_1).2
  have h0_2 := Int.toNat_of_nonneg (bounds_u16 w0_2).1
  have g0_2 := (bounds_u16 w0_2).2
  have h0_3 := Int.toNat_of_nonneg (bounds_u16 w0_3).1
  have g0_3 := (bounds_u16 w0_3).2
  have h0_4 := Int.toNat_of_nonneg (bounds_u16 w0_4).1
  have g0_4 := (bounds_u16 w0_4).2
  have h0_5 := Int.toNat_of_nonneg (bounds_u8 w0_5).1
  have g0_5 := (bounds_u8 w0_5).2
  have h0_6 := Int.toNat_of_nonneg (bounds_u8 w0_6).1
  have g0_6 := (bounds_u8 w0_6).2
  have h0_7 := Int.toNat_of_nonneg (bounds_u8 w0_7).1
  have g0_7 := (bounds_u8 w0_7).2
  have h0_8 := Int.toNat_of_nonneg (bounds_u8 w0_8).1
  have g0_8 := (bounds_u8 w0_8).2
  have h1_0 := Int.toNat_of_nonneg (bounds_u16 w1_0).1
  have g1_0 := (bounds_u16 w1_0).2
  have h1_1 := Int.toNat_of_nonneg (bounds_u16 w1_1).1
  have g1_1 := (bounds_u16 w1_1).2
  have h1_2 := Int.toNat_of_nonneg (bounds_u16 w1_2).1
  have g1_2 := (bounds_u16 w1_2).2
  have h1_3 := Int.toNat_of_nonneg (bounds_u16 w1_3).1
  have g1_3 := (bounds_u16 w1_3).2
  have h1_4 := Int.toNat_of_nonneg (bounds_u16 w1_4).1
  have g1_4 := (bounds_u16 w1_4).2
  have h1_5 := Int.toNat_of_nonneg (bounds_u8 w1_5).1
  have g1_5 := (bounds_u8 w1_5).2
  have h1_6 := Int.toNat_of_nonneg (bounds_u8 w1_6).1
  have g1_6 := (bounds_u8 w1_6).2
  have h1_7 := Int.toNat_of_nonneg (bounds_u8 w1_7).1
  have g1_7 := (bounds_u8 w1_7).2
  have h1_8 := Int.toNat_of_nonneg (bounds_u8 w1_8).1
  have g1_8 := (bounds_u8 w1_8).2
  have h2 := Int.toNat_of_nonneg (bounds_u8 w2).1
  have g2 := (bounds_u8 w2).2
  rw [← h0_0, ← h0_1, ← h0_2, ← h0_3, ← h0_4, ← h0_5, ← h0_6, ← h0_7, ← h0_8, ← h1_0, ← h1_1, ← h1_2, ← h1_3, ← h1_4, ← h1_5, ← h1_6, ← h1_7, ← h1_8, ← h2]
  exact l_FormSame _ _ _ _ _ _ _ _ _ (by omega) (by omega) (by omega) (by omega) (by omega) (by omega) (by omega) (by omega) (by omega) _ _ _ _ _ _ _ _ _ (by omega) (by omega) (by omega) (by omega) (by omega) (by omega) (by omega) (by omega) (by omega) _ (by omega)

set_option maxRecDepth 100000 in
theorem lifted (os : Os) (started : os.Started) (H : Type) (enc : TypeId × Value → H) :
    ReturnsInHanded {} Tryz.checked os 4 .any (Rows.formSameSpec.pre6 enc Tryz.prog Tryz.f4 Rows.formSameRow.domain false) (Rows.formSameSpec.post enc Tryz.prog Tryz.f4 false true false false) :=
  law_row (C := Tryz.checked) own started (by kernel_rfl) Tryz.func4
    (ChangeSpec.witness6 (enc := enc) (C := Tryz.checked) false ⟨#[], #[.agg #[.int .u16 0, .int .u16 0, .int .u16 0, .int .u16 0, .int .u16 0, .int .u8 0, .int .u8 0, .int .u8 0, .int .u8 0], .agg #[.int .u16 0, .int .u16 0, .int .u16 0, .int .u16 0, .int .u16 0, .int .u8 0, .int .u8 0, .int .u8 0, .int .u8 0], .int .u8 0], []⟩ 24 (by kernel_rfl) (by kernel_rfl) (by kernel_rfl) (by kernel_rfl))
    lo (fun t ht => by
      have e : Tryz.f4.params.toList = [26, 26, 5] := rfl
      rw [e] at ht
      simp only [List.mem_cons, List.not_mem_nil, or_false] at ht
      rcases ht with rfl | rfl | rfl <;> exact ⟨by kernel_rfl, Nat.le_of_ble_eq_true (by kernel_rfl)⟩)
    rfl (fun ds hd => by
      have e : ds.length = 3 := hd
      match ds, e with
      | [x0, x1, x2], _ => exact ⟨rfl, rfl, rfl⟩)
    rfl Tryz.underlying4 (fun W => opened)

theorem over : Rows.formSameRow.holds Tryz.pinned (OpenSpec.ofChange Rows.formSameSpec) :=
  OpenClaim.holds_of_wide 4 Tryz.f4 rfl rfl rfl rfl rfl rfl rfl ⟨rfl, rfl, rfl, rfl, rfl⟩ rfl rfl rfl rfl rfl (by kernel_rfl) Tryz.func4 (by kernel_rfl)
    (of_decide_eq_true (by kernel_rfl)) (by unfold Func.isWrapper; first | (rw [if_pos (by decide +kernel)]; kernel_rfl) | (rw [if_neg (by decide +kernel)]; exact ⟨rfl, rfl⟩))
    (fun os started H enc _ => lifted os started H enc)

theorem proved : Rows.FormSameSaid := over
end Go.Proofs.YtjfoccjngbgolaaGreat.formSame
end
