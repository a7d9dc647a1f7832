/- Texts merged by program, in build order. -/
import Derived.Test.YtkdfinfdocdpoaaGreatDoorQT
import Derived.Test.YtkdfinfdocdpoaaGreatDoorQJ
import Derived.Test.YtkdfinfdocdpoaaGreatDoorQC
import Derived.Test.YtkdfinfdocdpoaaGreatDoorRows
import Derived.Test.YtkdfinfdocdpoaaGreatDoorTie
import Derived.Test.YtkdfinfdocdpoaaGreatDoorCards
section
/- chapter 11: CountForms -/
namespace Go.Proofs.YtkdfinfdocdpoaaGreatDoor
open Go Go.AM

end Go.Proofs.YtkdfinfdocdpoaaGreatDoor
end

section
/- chapter 11: CountComplete -/
namespace Go.Proofs.YtkdfinfdocdpoaaGreatDoor
open Go Go.AM

/- algorist/algoristlaw11.CountComplete -/
set_option maxHeartbeats 8000000 in
set_option maxRecDepth 100000 in
theorem l_CountComplete (D i0 i1 i2 i3 m0 m1 m2 m3 : Nat) (hD : D < 65536) (g0 : i0 < 65536) (g1 : i1 < 65536) (g2 : i2 < 65536) (g3 : i3 < 65536) (k0 : m0 < 256) (k1 : m1 < 256) (k2 : m2 < 256) (k3 : m3 < 256) (k : Nat) (_hk : k < 256) :
    Call0 Tryz.prog 5 [.p (.a [.v (.int .u16 (D : Int)), .v (.int .u16 (i0 : Int)), .v (.int .u16 (i1 : Int)), .v (.int .u16 (i2 : Int)), .v (.int .u16 (i3 : Int)), .v (.int .u8 (m0 : Int)), .v (.int .u8 (m1 : Int)), .v (.int .u8 (m2 : Int)), .v (.int .u8 (m3 : Int))]), .p (.c (.v (.int .u8 (k : Int))))] (B true) := by
  have c1 := r8_Made0 _ _ _ _ _ _ _ _ _ hD g0 g1 g2 g3 k0 k1 k2 k3
  have hf := mkF_pos D i0 m0
  have dx := mkF_dsc D i0 m0
  obtain ⟨fa, fb, fc⟩ := mkF_L (D := D) (i := i0) k0
  generalize mkF D i0 m0 = f at c1 hf fa fb fc dx
  obtain ⟨s1, s2, s3, s4, s5⟩ := szz_spec D
  have d1 := Int.emod_nonneg (k : Int) (show (3 : Int) ≠ 0 by omega)
  have d2 := Int.emod_lt_of_pos (k : Int) (show (0 : Int) < 3 by omega)
  have jk : InI64 (1 + (k : Int) % 3) := by unfold InI64; omega
  have ik : LB (1 + (k : Int) % 3) 6 := ⟨by unfold L; omega⟩
  have hg := pos_k (k := (1 + (k : Int) % 3)) (by omega) hf
  have hdk := dsc_k (1 + (k : Int) % 3) f.a f.b f.c
  have hks := sq_b (x := (1 + (k : Int) % 3)) (m := 3) (by omega)
  have hkd : 0 ≤ (1 + (k : Int) % 3) * (1 + (k : Int) % 3) * szz D ∧ (1 + (k : Int) % 3) * (1 + (k : Int) % 3) * szz D ≤ 3 * 3 * 2003 := ⟨Int.mul_nonneg hks.1 (by omega), Int.mul_le_mul hks.2 s3 (by omega) (by omega)⟩
  rw [dx, Int.mul_neg] at hdk
  have hE : rdE ((1 + (k : Int) % 3) * f.a) ((1 + (k : Int) % 3) * f.b) ((1 + (k : Int) % 3) * f.c) = 0 := pos_rdE hg
  have hcA := comp_all hg (show -(dsc ((1 + (k : Int) % 3) * f.a) ((1 + (k : Int) % 3) * f.b) ((1 + (k : Int) % 3) * f.c)) ≤ 4194304 by omega)
  have hsz := pos_sz hg (show -(dsc ((1 + (k : Int) % 3) * f.a) ((1 + (k : Int) % 3) * f.b) ((1 + (k : Int) % 3) * f.c)) ≤ 4194304 by omega)
  have cRd := q_Reduce ((1 + (k : Int) % 3) * f.a) ((1 + (k : Int) % 3) * f.b) ((1 + (k : Int) % 3) * f.c) lz lz lz
  have cDs := q_Disc ((1 + (k : Int) % 3) * f.a) ((1 + (k : Int) % 3) * f.b) ((1 + (k : Int) % 3) * f.c) lz lz lz
  have cPr := q_Primitive ((1 + (k : Int) % 3) * f.a) ((1 + (k : Int) % 3) * f.b) ((1 + (k : Int) % 3) * f.c) lz lz lz
  rw [hE] at cRd
  have hN : dsc ((1 + (k : Int) % 3) * f.a) ((1 + (k : Int) % 3) * f.b) ((1 + (k : Int) % 3) * f.c) = -((1 + (k : Int) % 3) * (1 + (k : Int) % 3) * szz D) := hdk
  generalize (1 + (k : Int) % 3) * (1 + (k : Int) % 3) * szz D = N at hkd hN
  have cA := c_All (dsc ((1 + (k : Int) % 3) * f.a) ((1 + (k : Int) % 3) * f.b) ((1 + (k : Int) % 3) * f.c)) (by omega)
  have cR := c_Reduced (dsc ((1 + (k : Int) % 3) * f.a) ((1 + (k : Int) % 3) * f.b) ((1 + (k : Int) % 3) * f.c)) (by omega)
  have hsz' : szE (dsc ((1 + (k : Int) % 3) * f.a) ((1 + (k : Int) % 3) * f.b) ((1 + (k : Int) % 3) * f.c)) = 0 := hsz
  rw [hsz', if_pos rfl] at cA cR
  have hcA1 : tms (LW (-(dsc ((1 + (k : Int) % 3) * f.a) ((1 + (k : Int) % 3) * f.b) ((1 + (k : Int) % 3) * f.c))) (fun _ => true)) (rdF ((1 + (k : Int) % 3) * f.a) ((1 + (k : Int) % 3) * f.b) ((1 + (k : Int) % 3) * f.c)) = 1 := hcA.1
  have hcA2 : tms (LW (-(dsc ((1 + (k : Int) % 3) * f.a) ((1 + (k : Int) % 3) * f.b) ((1 + (k : Int) % 3) * f.c))) (fun f => prim f.a f.b f.c)) (rdF ((1 + (k : Int) % 3) * f.a) ((1 + (k : Int) % 3) * f.b) ((1 + (k : Int) % 3) * f.c)) = if prim ((1 + (k : Int) % 3) * f.a) ((1 + (k : Int) % 3) * f.b) ((1 + (k : Int) % 3) * f.c) = true then 1 else 0 := hcA.2
  have hl1 := LW_len (-(dsc ((1 + (k : Int) % 3) * f.a) ((1 + (k : Int) % 3) * f.b) ((1 + (k : Int) % 3) * f.c))) (fun _ => true)
  have hl2 := LW_len (-(dsc ((1 + (k : Int) % 3) * f.a) ((1 + (k : Int) % 3) * f.b) ((1 + (k : Int) % 3) * f.c))) (fun f => prim f.a f.b f.c)
  generalize LW (-(dsc ((1 + (k : Int) % 3) * f.a) ((1 + (k : Int) % 3) * f.b) ((1 + (k : Int) % 3) * f.c))) (fun _ => true) = lA at cA hcA1 hl1
  generalize LW (-(dsc ((1 + (k : Int) % 3) * f.a) ((1 + (k : Int) % 3) * f.b) ((1 + (k : Int) % 3) * f.c))) (fun f => prim f.a f.b f.c) = lP at cR hcA2 hl2
  generalize rdF ((1 + (k : Int) % 3) * f.a) ((1 + (k : Int) % 3) * f.b) ((1 + (k : Int) % 3) * f.c) = p at cRd hcA1 hcA2
  generalize rdM ((1 + (k : Int) % 3) * f.a) ((1 + (k : Int) % 3) * f.b) ((1 + (k : Int) % 3) * f.c) = M at cRd
  generalize prim ((1 + (k : Int) % 3) * f.a) ((1 + (k : Int) % 3) * f.b) ((1 + (k : Int) % 3) * f.c) = pr at cPr hcA2
  have ht1 : tms lA ⟨p.a, p.b, p.c⟩ = 1 := hcA1
  have ht2 : tms lP ⟨p.a, p.b, p.c⟩ = if pr = true then 1 else 0 := hcA2
  have hfin : ((tms lP ⟨p.a, p.b, p.c⟩ == 1) == pr) = true := by rw [ht2]; cases pr <;> rfl
  refine callM_of (np := 0) Tryz.func5 (by kernel_rfl) rfl rfl (Nat.le_of_ble_eq_true rfl) (fun m h => absurd rfl h) (fun m h => absurd rfl h) rfl ?_
  refine AWp_seq ?_
  refine AWp_region hP ?_
  refine RK.alc guard_none (op_box rfl rfl) ?_
  refine RK.val guard_none (op_assign (rfl : _ = AV.p (.c _))) ?_
  refine RK.done (by kernel_rfl) ?_
  refine AWp_seq ?_
  refine AWp_region hP ?_
  refine RK.val guard_none (Eff.call0 l_examples) ?_
  refine RK.val guard_none (op_assign (rfl : _ = AV.p (.c _))) ?_
  refine RK.done (by kernel_rfl) ?_
  refine AWp_seq ?_
  refine AWp_seq ?_
  refine AWp_region hP ?_
  refine RK.val guard_none (op_move (rfl : _ = AV.p (.c _))) ?_
  refine RK.val guard_none (op_unot rfl) ?_
  refine RK.done (by kernel_rfl) ?_
  refine AWp_cond_false rfl rfl ?_
  refine AWp_skip ?_
  refine AWp_seq ?_
  refine AWp_region hP ?_
  refine RK.val guard_none (op_load_agg hT rfl rfl rfl rfl (cs := [_, _, _, _, _, _, _, _, _]) rfl rfl) ?_
  refine RK.val guard_none (Eff.call0 c1) ?_
  refine RK.val guard_none (op_move (rfl : _ = AV.p (.c _))) ?_
  refine RK.val guard_none (op_rem rfl rfl (by decide) (c := (k : Int) % 3) (Int.tmod_eq_emod_of_nonneg (by omega))) ?_
  refine RK.val guard_none (op_conv hT rfl rfl rfl rfl (IntWalk.i64_in _ (by omega))) ?_
  refine RK.val guard_none (op_add rfl rfl (by first | exact IntWalk.i64_in _ (by omega) | rfl)) ?_
  refine RK.val guard_none (Eff.call0 (r_Of _ jk)) ?_
  refine RK.alc guard_none (op_alloc hT rfl rfl) ?_
  refine RK.alc guard_none (op_alloc hT rfl rfl) ?_
  refine RK.sto guard_none (op_store hT rfl rfl rfl rfl rfl rfl (cs := [_, _, _, _, _, _]) rfl) ?_
  refine RK.sto guard_none (op_store hT rfl rfl rfl rfl rfl rfl (cs := [_, _]) rfl) ?_
  refine RK.done (by kernel_rfl) ?_
  refine AWp_seq ?_
  refine AWp_region hP ?_
  refine RK.val guard_none (op_load_agg hT rfl rfl rfl rfl (cs := [_, _]) rfl rfl) ?_
  refine RK.val guard_none (op_field_loc hT rfl rfl rfl rfl rfl rfl) ?_
  refine RK.val guard_none (op_load_agg hT rfl rfl rfl rfl (cs := [_, _]) rfl rfl) ?_
  refine RK.val guard_none (Eff.call0 (r_Mul _ _ lz lz)) ?_
  refine RK.val guard_none (op_load_agg hT rfl rfl rfl rfl (cs := [_, _]) rfl rfl) ?_
  refine RK.val guard_none (op_field_loc hT rfl rfl rfl rfl rfl rfl) ?_
  refine RK.val guard_none (op_load_agg hT rfl rfl rfl rfl (cs := [_, _]) rfl rfl) ?_
  refine RK.val guard_none (Eff.call0 (r_Mul _ _ lz lz)) ?_
  refine RK.val guard_none (op_load_agg hT rfl rfl rfl rfl (cs := [_, _]) rfl rfl) ?_
  refine RK.val guard_none (op_field_loc hT rfl rfl rfl rfl rfl rfl) ?_
  refine RK.val guard_none (op_load_agg hT rfl rfl rfl rfl (cs := [_, _]) rfl rfl) ?_
  refine RK.val guard_none (Eff.call0 (r_Mul _ _ lz lz)) ?_
  refine RK.val guard_none (op_build_st hT rfl rfl rfl (es := [_, _, _, _, _, _]) rfl) ?_
  refine RK.alc guard_none (op_alloc hT rfl rfl) ?_
  refine RK.sto guard_none (op_store hT rfl rfl rfl rfl rfl rfl (cs := [_, _, _, _, _, _]) rfl) ?_
  refine RK.done (by kernel_rfl) ?_
  refine AWp_seq ?_
  refine AWp_region hP ?_
  refine RK.val guard_none (op_load_agg hT rfl rfl rfl rfl (cs := [_, _, _, _, _, _]) rfl rfl) ?_
  refine RK.val guard_none (Eff.call0 cRd) ?_
  refine RK.val guard_none (op_move (rfl : _ = AV.t _)) ?_
  refine RK.val guard_none (op_extract rfl (v := .a _) rfl) ?_
  refine RK.val guard_none (op_extract rfl (v := .a _) rfl) ?_
  refine RK.val guard_none (op_extract rfl (v := .c _) rfl) ?_
  refine RK.alc guard_none (op_alloc hT rfl rfl) ?_
  refine RK.alc guard_none (op_alloc hT rfl rfl) ?_
  refine RK.sto guard_none (op_store hT rfl rfl rfl rfl rfl rfl (cs := [_, _, _, _, _, _]) rfl) ?_
  refine RK.sto guard_none (op_store hT rfl rfl rfl rfl rfl rfl (cs := [_, _, _, _, _, _, _, _]) rfl) ?_
  refine RK.val guard_none (op_assign (rfl : _ = AV.p (.c _))) ?_
  refine RK.done (by kernel_rfl) ?_
  refine AWp_seq ?_
  refine AWp_region hP ?_
  refine RK.val guard_none (op_load_agg hT rfl rfl rfl rfl (cs := [_, _, _, _, _, _]) rfl rfl) ?_
  refine RK.val guard_none (Eff.call0 cDs) ?_
  refine RK.alc guard_none (op_alloc hT rfl rfl) ?_
  refine RK.sto guard_none (op_store hT rfl rfl rfl rfl rfl rfl (cs := [_, _]) rfl) ?_
  refine RK.done (by kernel_rfl) ?_
  refine AWp_seq ?_
  refine AWp_region hP ?_
  refine RK.val guard_none (op_load_agg hT rfl rfl rfl rfl (cs := [_, _]) rfl rfl) ?_
  refine RK.val guard_none (Eff.call0 cA) ?_
  refine RK.val guard_none (op_move (rfl : _ = AV.t _)) ?_
  refine RK.val guard_none (op_extract rfl (v := .c _) rfl) ?_
  refine RK.val guard_none (op_extract rfl (v := .c _) rfl) ?_
  refine RK.val guard_none (op_assign (rfl : _ = AV.p (.c _))) ?_
  refine RK.val guard_none (op_assign (rfl : _ = AV.p (.c _))) ?_
  refine RK.done (by kernel_rfl) ?_
  refine AWp_seq ?_
  refine AWp_region hP ?_
  refine RK.val guard_none (op_load_agg hT rfl rfl rfl rfl (cs := [_, _]) rfl rfl) ?_
  refine RK.val guard_none (Eff.call0 cR) ?_
  refine RK.val guard_none (op_move (rfl : _ = AV.t _)) ?_
  refine RK.val guard_none (op_extract rfl (v := .c _) rfl) ?_
  refine RK.val guard_none (op_extract rfl (v := .c _) rfl) ?_
  refine RK.val guard_none (op_assign (rfl : _ = AV.p (.c _))) ?_
  refine RK.val guard_none (op_assign (rfl : _ = AV.p (.c _))) ?_
  refine RK.done (by kernel_rfl) ?_
  refine AWp_seq ?_
  refine AWp_seq ?_
  refine AWp_region hP ?_
  refine RK.val guard_none (op_move (rfl : _ = AV.p (.c _))) ?_
  refine RK.val guard_none (op_neq rfl rfl) ?_
  refine RK.val guard_none (op_move (rfl : _ = AV.p (.c _))) ?_
  refine RK.val (guard_yes rfl rfl rfl) (op_move (rfl : _ = AV.p (.c _))) ?_
  refine RK.val (guard_yes rfl rfl rfl) (op_neq rfl rfl) ?_
  refine RK.val guard_none (op_pick_f rfl rfl (rfl : _ = AV.p (.c _))) ?_
  refine RK.val guard_none (op_move (rfl : _ = AV.p (.c _))) ?_
  refine RK.val (guard_yes rfl rfl rfl) (op_move (rfl : _ = AV.p (.c _))) ?_
  refine RK.val (guard_yes rfl rfl rfl) (op_neq rfl rfl) ?_
  refine RK.val guard_none (op_pick_f rfl rfl (rfl : _ = AV.p (.c _))) ?_
  refine RK.val guard_none (op_move (rfl : _ = AV.p (.c _))) ?_
  refine RK.val (guard_yes rfl rfl rfl) (op_move (rfl : _ = AV.p (.c _))) ?_
  refine RK.val (guard_yes rfl rfl rfl) (op_load_agg hT rfl rfl rfl rfl (cs := [_, _, _, _, _, _]) rfl rfl) ?_
  refine RK.val (guard_yes rfl rfl rfl) (Eff.call0 (l_times _ _ _ _ (by omega))) ?_
  refine RK.val (guard_yes rfl rfl rfl) (op_neq rfl rfl) ?_
  refine RK.val guard_none (op_pick_f rfl rfl (rfl : _ = AV.p (.c _))) ?_
  refine RK.done (by kernel_rfl) ?_
  refine AWp_cond_false rfl (by rw [ht1]; rfl) ?_
  refine AWp_skip ?_
  refine AWp_seq ?_
  refine AWp_region hP ?_
  refine RK.val guard_none (op_move (rfl : _ = AV.p (.c _))) ?_
  refine RK.val guard_none (op_load_agg hT rfl rfl rfl rfl (cs := [_, _, _, _, _, _]) rfl rfl) ?_
  refine RK.val guard_none (Eff.call0 (l_times _ _ _ _ (by omega))) ?_
  refine RK.val guard_none (op_eql rfl rfl) ?_
  refine RK.val guard_none (op_load_agg hT rfl rfl rfl rfl (cs := [_, _, _, _, _, _]) rfl rfl) ?_
  refine RK.val guard_none (Eff.call0 cPr) ?_
  refine RK.val guard_none (op_beq hT rfl rfl rfl rfl) ?_
  refine RK.val guard_none (op_move (rfl : _ = AV.p (.c _))) ?_
  refine RK.val (guard_yes rfl rfl hfin) (op_move (rfl : _ = AV.p (.c _))) ?_
  refine RK.val guard_none (op_pick_t rfl hfin (rfl : _ = AV.p (.c _))) ?_
  refine RK.val guard_none (op_assign (rfl : _ = AV.p (.c _))) ?_
  refine RK.done (by kernel_rfl) ?_
  refine AWp_ret ?_
  refine ends_one rfl (.inr rfl) (res_tmp rfl) ?_ O_ends
  exact .refl _

end Go.Proofs.YtkdfinfdocdpoaaGreatDoor
end

section
/- The law 'CountComplete': for every input the call returns true and its arguments read as they did. No condition. -/
namespace Go.Proofs.YtkdfinfdocdpoaaGreatDoor.countComplete
open Go Go.AM Go.RowKit

theorem own : ownKnob Tryz.prog.godebug = none := by kernel_rfl
theorem lo : laidOutB Tryz.prog = true := by kernel_rfl
theorem o22 {H : Type} {enc : TypeId × Value → H} {W : World} : Opens enc Tryz.prog W 22 [.i .u16] :=
  opens_int Tryz.underlying22
theorem o54 {H : Type} {enc : TypeId × Value → H} {W : World} : Opens enc Tryz.prog W 54 [.i .u16, .i .u16, .i .u16, .i .u16] :=
  opens_array Tryz.underlying54 o22 (by kernel_rfl) (by kernel_rfl)
theorem o5 {H : Type} {enc : TypeId × Value → H} {W : World} : Opens enc Tryz.prog W 5 [.i .u8] :=
  opens_int Tryz.underlying5
theorem o55 {H : Type} {enc : TypeId × Value → H} {W : World} : Opens enc Tryz.prog W 55 [.i .u8, .i .u8, .i .u8, .i .u8] :=
  opens_array Tryz.underlying55 o5 (by kernel_rfl) (by kernel_rfl)
theorem o57 {H : Type} {enc : TypeId × Value → H} {W : World} : Opens enc Tryz.prog W 57 [.i .u16, .i .u16, .i .u16, .i .u16, .i .u16, .i .u8, .i .u8, .i .u8, .i .u8] :=
  by
  refine opens_struct Tryz.underlying57 ?_ (by kernel_rfl)
  show OpensF _ _ _ 0 (_ :: _ :: _ :: []) ([.i .u16] ++ ([.i .u16, .i .u16, .i .u16, .i .u16] ++ ([.i .u8, .i .u8, .i .u8, .i .u8] ++ [])))
  exact opensF_cons rfl o22 (by kernel_rfl) (opensF_cons rfl o54 (by kernel_rfl) (opensF_cons rfl o55 (by kernel_rfl) opensF_nil))
set_option maxRecDepth 100000 in
theorem opened {H : Type} {enc : TypeId × Value → H} {W : World} : ArgsData enc Tryz.prog W Tryz.f5 5 := by
  refine args2 (rfl : Tryz.f5.params = #[57, 5]) ?_
  intro v0 e0 p0 v1 e1 p1 base hv0 ht0 hw0 hv1 ht1 hw1
  obtain ⟨d0, l0, r0⟩ := arg_agg (by rw [Tryz.underlying57]) o57 hv0 ht0 hw0
  obtain ⟨b0_0, c0_0, rfl, w0_0, l0_0⟩ := l0.i
  obtain ⟨b0_1, c0_1, rfl, w0_1, l0_1⟩ := l0_0.i
  obtain ⟨b0_2, c0_2, rfl, w0_2, l0_2⟩ := l0_1.i
  obtain ⟨b0_3, c0_3, rfl, w0_3, l0_3⟩ := l0_2.i
  obtain ⟨b0_4, c0_4, rfl, w0_4, l0_4⟩ := l0_3.i
  obtain ⟨b0_5, c0_5, rfl, w0_5, l0_5⟩ := l0_4.i
  obtain ⟨b0_6, c0_6, rfl, w0_6, l0_6⟩ := l0_5.i
  obtain ⟨b0_7, c0_7, rfl, w0_7, l0_7⟩ := l0_6.i
  obtain ⟨b0_8, c0_8, rfl, w0_8, l0_8⟩ := l0_7.i
  obtain rfl := l0_8.nil
  obtain ⟨n1, w1, r1⟩ := arg_int Tryz.underlying5 hv1 ht1
  refine ⟨[_, _], ⟨r0, r1, trivial⟩, ?_⟩
  have h0_0 := Int.toNat_of_nonneg (bounds_u16 w0_0).1
  have g0_0 := (bounds_u16 w0_0).2
  have h0_1 := Int.toNat_of_nonneg (bounds_u16 w0_1).1
  have g0_1 := (bounds_u16 w0_1).2
  have h0_2 := Int.toNat_of_nonneg (bounds_u16 w0_2).1
  have g0_2 := (bounds_u16 w0_2).2
  have h0_3 := Int.toNat_of_nonneg (bounds_u16 w0_3).1
  have g0_3 := (bounds_u16 w0_3).2
  have h0_4 := Int.toNat_of_nonneg (bounds_u16 w0_4).1
  have g0_4 := (bounds_u16 w0_4).2
  have h0_5 := Int.toNat_of_nonneg (bounds_u8 w0_5).1
  have g0_5 := (bounds_u8 w0_5).2
  have h0_6 := Int.toNat_of_nonneg (bounds_u8 w0_6).1
  have g0_6 := (bounds_u8 w0_6).2
  have h0_7 := Int.toNat_of_nonneg (bounds_u8 w0_7).1
  have g0_7 := (bounds_u8 w0_7).2
  have h0_8 := Int.toNat_of_nonneg (bounds_u8 w0_8).1
  have g0_8 := (bounds_u8 w0_8).2
  have h1 := Int.toNat_of_nonneg (bounds_u8 w1).1
  have g1 := (bounds_u8 w1).2
  rw [← h0_0, ← h0_1, ← h0_2, ← h0_3, ← h0_4, ← h0_5, ← h0_6, ← h0_7, ← h0_8, ← h1]
  exact l_CountComplete _ _ _ _ _ _ _ _ _ (by omega) (by omega) (by omega) (by omega) (by omega) (by omega) (by omega) (by omega) (by omega) _ (by omega)

abbrev laidL : List (String × DataW Unit) := [("algorist/modular.signs", Rows.laid_algorist_modular_signs)]
set_option maxRecDepth 100000 in
theorem door_met (os : Os) (args : Array Value) : laidMetH Tryz.prog laidL ((World.doorLaid Tryz.prog 400 os).forCall (fun _ _ => 0) ⟨#[], args, []⟩).memory :=
  laidMetH_of_parts3 (fuel := 8) (laidMet_of_run' 8 (by kernel_rfl) (by kernel_rfl)) (by kernel_rfl) (by kernel_rfl)
theorem glob_ok (W : World) (h : laidMetH Tryz.prog laidL W) : GlOK (wh W) := by
  have hh := laid_ints (P := Tryz.prog) (W := W) (n := "algorist/modular.signs") (g := 0) (k := .i64) (xs := [0, 1, 0, -1, 0, -1, 0, 1]) (ty := 126) (e := 3) h (MakeChecks.laidMetH_plain _ _ _ (by kernel_rfl)) (by kernel_rfl) (by kernel_rfl) Tryz.underlying126 Tryz.underlying3 (by kernel_rfl)
  intro p hp
  simp only [glist, List.mem_cons, List.not_mem_nil, or_false] at hp
  subst hp
  exact hh

set_option maxRecDepth 100000 in
theorem lifted (os : Os) (started : os.Started) (H : Type) (enc : TypeId × Value → H) :
    ReturnsInHanded {} Tryz.checked os 5 .any (fun w args => (Rows.countCompleteSpec.pre enc Tryz.prog Tryz.f5 [] false w args ∧ laidMetH Tryz.prog laidL w) ∧ sizedMet enc Tryz.prog Tryz.f5 (OpenSpec.ofChange Rows.countCompleteSpec) false w args) (Rows.countCompleteSpec.post enc Tryz.prog Tryz.f5 false true false false) :=
  law_row_laid (C := Tryz.checked) own started (by kernel_rfl) Tryz.func5
    (ChangeSpec.witness_shaped (enc := enc) (C := Tryz.checked) (os := os) (X := fun w _ => laidMetH Tryz.prog laidL w) false (World.doorLaid Tryz.prog 400 os) #[.agg #[.int .u16 0, .int .u16 0, .int .u16 0, .int .u16 0, .int .u16 0, .int .u8 0, .int .u8 0, .int .u8 0, .int .u8 0], .int .u8 0] 24 rfl (World.shaped_of_RefB (by kernel_rfl) (by kernel_rfl)) (by kernel_rfl) (by kernel_rfl) (by kernel_rfl) (door_met os _))
    lo (fun t ht => by
      have e : Tryz.f5.params.toList = [57, 5] := rfl
      rw [e] at ht
      simp only [List.mem_cons, List.not_mem_nil, or_false] at ht
      rcases ht with rfl | rfl <;> exact ⟨by kernel_rfl, Nat.le_of_ble_eq_true (by kernel_rfl)⟩)
    rfl (fun ds hd => by
      have e : ds.length = 2 := hd
      match ds, e with
      | [x0, x1], _ => exact ⟨rfl, rfl, rfl⟩)
    rfl Tryz.underlying4 (fun W => opened) glob_ok

theorem over : Rows.countCompleteRow.holds Tryz.pinned (OpenSpec.ofChange Rows.countCompleteSpec) :=
  OpenClaim.holds_of_wide 5 Tryz.f5 rfl rfl rfl rfl rfl rfl rfl ⟨rfl, rfl, rfl, rfl, rfl⟩ rfl rfl rfl rfl rfl (by kernel_rfl) Tryz.func5 (by kernel_rfl)
    (of_decide_eq_true (by kernel_rfl)) (by unfold Func.isWrapper; first | (rw [if_pos (by decide +kernel)]; kernel_rfl) | (rw [if_neg (by decide +kernel)]; exact ⟨rfl, rfl⟩))
    (fun os started H enc _ => lifted os started H enc)

theorem row_proved : Rows.CountCompleteSaid := over

theorem proved : Rows.CountCompleteCardSaid :=
  Claim7.holds_tied_plain_at .later [] [.data] true (true, "d8ecb22db7dfc2a6c84aa14d15ec24665d4ba60cccecd55bad68200551081d3a") false
    row_proved (fun _ h => by cases h) (by kernel_rfl) (fun _ h => by cases h) countComplete_row_tie rfl ⟨rfl, rfl⟩ (by kernel_rfl) rfl
    (fun f fn hf hfn => by
      obtain rfl : f = 5 := Option.some.inj ((show Tryz.prog.funcNamed Rows.countCompleteRow.func = some 5 by kernel_rfl).symm.trans hf) |>.symm
      obtain rfl : fn = Tryz.f5 := (Option.some.inj (Tryz.func5.symm.trans hfn)).symm
      exact ⟨by kernel_rfl, fun j t ht => by
        have hm : t ∈ [57, 5] := by simpa using Array.mem_of_getElem? ht
        have hall : ([57, 5].all fun u => !Tryz.prog.wantsStandIn u) = true := by kernel_rfl
        exact (show Tryz.prog.wantsStandIn t = false by simpa using List.all_eq_true.1 hall t hm)⟩)
    (by kernel_rfl)
end Go.Proofs.YtkdfinfdocdpoaaGreatDoor.countComplete
end
