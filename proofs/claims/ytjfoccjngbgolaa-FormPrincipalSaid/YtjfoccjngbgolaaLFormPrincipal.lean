/- Texts merged by program, in build order. -/
import Derived.Test.YtjfoccjngbgolaaMC
import Derived.Test.YtjfoccjngbgolaaMG
import Derived.Test.YtjfoccjngbgolaaRows
section
/- The law 'FormPrincipal': for every input the call returns true and its arguments read as they did. No condition. -/
namespace Go.Proofs.Ytjfoccjngbgolaa.formPrincipal
open Go Go.AM Go.RowKit

theorem own : ownKnob Try.prog.godebug = none := by kernel_rfl
theorem lo : laidOutB Try.prog = true := by kernel_rfl
theorem o4 {H : Type} {enc : TypeId × Value → H} {W : World} : Opens enc Try.prog W 4 [.b] :=
  opens_bool Try.underlying4
theorem o22 {H : Type} {enc : TypeId × Value → H} {W : World} : Opens enc Try.prog W 22 [.s] :=
  opens_words Try.underlying22 Try.underlying94 (by kernel_rfl) (by kernel_rfl)
theorem o24 {H : Type} {enc : TypeId × Value → H} {W : World} : Opens enc Try.prog W 24 [.b, .s] :=
  by
  refine opens_struct Try.underlying24 ?_ (by kernel_rfl)
  show OpensF _ _ _ 0 (_ :: _ :: []) ([.b] ++ ([.s] ++ []))
  exact opensF_cons rfl o4 (by kernel_rfl) (opensF_cons rfl o22 (by kernel_rfl) opensF_nil)
set_option maxRecDepth 100000 in
theorem opened {H : Type} {enc : TypeId × Value → H} {W : World} : ArgsData enc Try.prog W Try.f8 8 := by
  refine args1 (rfl : Try.f8.params = #[24]) ?_
  intro v0 e0 p0 base hv0 ht0 hw0
  obtain ⟨d0, l0, r0⟩ := arg_agg (by rw [Try.underlying24]) o24 hv0 ht0 hw0
  obtain ⟨b0_0, s0_0, c0_0, rfl, w0_0, l0_0⟩ := l0.bs
  obtain rfl := l0_0.nil
  refine ⟨[_], ⟨r0, trivial⟩, ?_⟩
  exact l_FormPrincipal _ _ w0_0

set_option maxRecDepth 100000 in
theorem lifted (os : Os) (started : os.Started) (H : Type) (enc : TypeId × Value → H) :
    ReturnsInHanded {} Try.checked os 8 .any (Rows.formPrincipalSpec.pre6 enc Try.prog Try.f8 Rows.formPrincipalRow.domain false) (Rows.formPrincipalSpec.post enc Try.prog Try.f8 false true false false) :=
  law_row (C := Try.checked) own started (by kernel_rfl) Try.func8
    (ChangeSpec.witness6 (enc := enc) (C := Try.checked) false ⟨#[], #[.agg #[.bool false, .slice none 0 0]], []⟩ 24 (by kernel_rfl) (by kernel_rfl) (by kernel_rfl) (by kernel_rfl))
    lo (fun t ht => by
      have e : Try.f8.params.toList = [24] := rfl
      rw [e] at ht
      simp only [List.mem_cons, List.not_mem_nil, or_false] at ht
      subst ht 
      exact ⟨by kernel_rfl, Nat.le_of_ble_eq_true (by kernel_rfl)⟩)
    rfl (fun ds hd => by
      have e : ds.length = 1 := hd
      match ds, e with
      | [x0], _ => exact ⟨rfl, rfl, rfl⟩)
    rfl Try.underlying4 (fun W => opened)

theorem over : Rows.formPrincipalRow.holds Try.pinned (OpenSpec.ofChange Rows.formPrincipalSpec) :=
  OpenClaim.holds_of_wide 8 Try.f8 rfl rfl rfl rfl rfl rfl rfl ⟨rfl, rfl, rfl, rfl, rfl⟩ rfl rfl rfl rfl rfl (by kernel_rfl) Try.func8 (by kernel_rfl)
    (of_decide_eq_true (by kernel_rfl)) (by unfold Func.isWrapper; first | (rw [if_pos (by decide +kernel)]; kernel_rfl) | (rw [if_neg (by decide +kernel)]; exact ⟨rfl, rfl⟩))
    (fun os started H enc _ => lifted os started H enc)

theorem proved : Rows.FormPrincipalSaid := over
end Go.Proofs.Ytjfoccjngbgolaa.formPrincipal
end
