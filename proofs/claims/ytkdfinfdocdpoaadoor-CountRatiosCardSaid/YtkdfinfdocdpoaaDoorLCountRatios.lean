/- Texts merged by program, in build order. -/
import Derived.Test.YtkdfinfdocdpoaaDoorMT
import Derived.Test.YtkdfinfdocdpoaaDoorMJ
import Derived.Test.YtkdfinfdocdpoaaDoorMC
import Derived.Test.YtkdfinfdocdpoaaDoorRows
import Derived.Test.YtkdfinfdocdpoaaDoorTie
import Derived.Test.YtkdfinfdocdpoaaDoorCards
section
/- chapter 11: CountRatios -/
namespace Go.Proofs.YtkdfinfdocdpoaaDoor
open Go Go.AM

/- algorist/algoristlaw11.CountRatios -/
set_option maxHeartbeats 8000000 in
set_option maxRecDepth 100000 in
theorem l_CountRatios (D k : Nat) (hD : D < 65536) (_hk : k < 256) :
    Call0 Tryd.prog 4 [.p (.c (.v (.int .u16 (D : Int)))), .p (.c (.v (.int .u8 (k : Int))))] (B true) := by
  obtain ⟨s1, s2, s3, s4, s5⟩ := szz_spec D
  have hf : 1 ≤ (1 + (k : Int) % 6) ∧ (1 + (k : Int) % 6) ≤ 6 := by omega
  have jf : InI64 (1 + (k : Int) % 6) := by unfold InI64; omega
  refine callM_of (np := 0) Tryd.func4 (by kernel_rfl) rfl rfl (Nat.le_of_ble_eq_true rfl) (fun m h => absurd rfl h) (fun m h => absurd rfl h) rfl ?_
  refine AWp_seq ?_
  refine AWp_region hP ?_
  refine RK.val guard_none (op_assign (rfl : _ = AV.p (.c _))) ?_
  refine RK.done (by kernel_rfl) ?_
  refine AWp_seq ?_
  refine AWp_region hP ?_
  refine RK.val guard_none (Eff.call0 l_examples) ?_
  refine RK.val guard_none (op_assign (rfl : _ = AV.p (.c _))) ?_
  refine RK.done (by kernel_rfl) ?_
  refine AWp_seq ?_
  refine AWp_seq ?_
  refine AWp_region hP ?_
  refine RK.val guard_none (op_move (rfl : _ = AV.p (.c _))) ?_
  refine RK.val guard_none (op_unot rfl) ?_
  refine RK.done (by kernel_rfl) ?_
  refine AWp_cond_false rfl rfl ?_
  refine AWp_skip ?_
  refine AWp_seq ?_
  refine AWp_region hP ?_
  refine RK.val guard_none (op_move (rfl : _ = AV.p (.c _))) ?_
  refine RK.val guard_none (op_build_st hT rfl rfl rfl (es := [_, _, _, _, _, _, _, _, _]) rfl) ?_
  refine RK.val guard_none (Eff.call0 (r8_Size D 0 0 0 0 0 0 0 0 hD (by decide) (by decide) (by decide) (by decide) (by decide) (by decide) (by decide) (by decide))) ?_
  refine RK.val guard_none (op_move (rfl : _ = AV.p (.c _))) ?_
  refine RK.val guard_none (op_rem rfl rfl (by decide) (c := (k : Int) % 6) (Int.tmod_eq_emod_of_nonneg (by omega))) ?_
  refine RK.val guard_none (op_conv hT rfl rfl rfl rfl (IntWalk.i64_in _ (by omega))) ?_
  refine RK.val guard_none (op_add rfl rfl (by first | exact IntWalk.i64_in _ (by omega) | rfl)) ?_
  refine RK.val guard_none (op_assign (rfl : _ = AV.p (.c _))) ?_
  refine RK.val guard_none (op_assign (rfl : _ = AV.p (.c _))) ?_
  refine RK.done (by kernel_rfl) ?_
  refine AWp_seq_cut (ι := Int) (fun m => stL [(5, .p (.c (.v (.bool true)))), (6, Z m), (7, Z (1 + (k : Int) % 6))] []) (fun m => isD m = true ∧ m ≤ 2003) ?_ ?_
  · refine AWp_seq ?_
    refine AWp_region hP ?_
    refine RK.val guard_none (op_move (rfl : _ = AV.p (.c _))) ?_
    refine RK.val guard_none (op_rem rfl rfl (by decide) (c := (D : Int) % 4) (Int.tmod_eq_emod_of_nonneg (by omega))) ?_
    refine RK.val guard_none (op_eql rfl rfl) ?_
    refine RK.done (by kernel_rfl) ?_
    refine AWp_cond rfl (fun hb1 => ?_) (fun hb1 => ?_)
    · have hb1_ := bT hb1
      refine AWp_region hP ?_
      refine RK.val guard_none (op_bslice hT rfl rfl rfl (es := [.v (.int .i64 3), .v (.int .i64 4), .v (.int .i64 7), .v (.int .i64 8)]) rfl rfl rfl) ?_
      refine RK.val guard_none (op_move (rfl : _ = AV.p (.c _))) ?_
      refine RK.val guard_none (op_quo rfl rfl (by decide) (c := (D : Int) / 4) (by rw [Int.tdiv_eq_ediv_of_nonneg (by omega)]; exact IntWalk.u16_in _ (by omega))) ?_
      refine RK.val guard_none (op_rem rfl rfl (by decide) (c := ((D : Int) / 4 % 4)) (Int.tmod_eq_emod_of_nonneg (by omega))) ?_
      refine RK.val guard_none (op_index_sl hT rfl rfl rfl rfl rfl rfl (by omega) (by simp)) ?_
      refine RK.val guard_none (op_load_ip_one hT rfl rfl rfl (four_get (r := ((D : Int) / 4 % 4)) (by omega) (by omega))) ?_
      refine RK.val guard_none (op_assign (rfl : _ = AV.p (.c _))) ?_
      refine RK.done (by kernel_rfl) ?_
      refine ⟨four ((D : Int) / 4 % 4), four_D _, le_stL ⟨.refl _, .refl _, .refl _, trivial⟩ trivial⟩
    · have hb1_ := bF hb1
      refine AWp_skip ?_
      refine ⟨szz D, ⟨isD_iff.2 ⟨by omega, s4⟩, by omega⟩, le_stL ⟨.refl _, .refl _, .refl _, trivial⟩ trivial⟩
  rintro m ⟨hmD, hm2⟩
  have hmi := isD_iff.1 hmD
  obtain ⟨q1, q2, q3, q4, q5⟩ := rt_all hmD hm2 hf
  have qb := cls_b (m * ((1 + (k : Int) % 6) * (1 + (k : Int) % 6)))
  obtain ⟨b1, b2⟩ := mff_b (m := m) (f := (1 + (k : Int) % 6)) (by omega) hf
  have cR := c_Ratio (-m) (1 + (k : Int) % 6) (by omega) (by omega)
  rw [q1, q2] at cR
  have cC := c_Class (-m * (1 + (k : Int) % 6) * (1 + (k : Int) % 6)) (by omega)
  rw [q3, q4] at cC
  generalize cls (m * ((1 + (k : Int) % 6) * (1 + (k : Int) % 6))) = C at cR cC q5 qb
  have jm : InI64 (-m) := by unfold InI64; omega
  have jq : InI64 (-m * (1 + (k : Int) % 6) * (1 + (k : Int) % 6)) := by unfold InI64; omega
  have jc : InI64 C := by unfold InI64; omega
  have iC : LB C 6 := ⟨by unfold L; omega⟩
  refine AWp_seq ?_
  refine AWp_region hP ?_
  refine RK.val guard_none (op_move (rfl : _ = AV.p (.c _))) ?_
  refine RK.val guard_none (op_uneg (c := -m) rfl (by rw [Int.zero_sub]; exact IntWalk.i64_in _ (by omega))) ?_
  refine RK.val guard_none (Eff.call0 (r_Of _ jm)) ?_
  refine RK.val guard_none (op_move (rfl : _ = AV.p (.c _))) ?_
  refine RK.val guard_none (Eff.call0 (r_Of _ jf)) ?_
  refine RK.val guard_none (Eff.call0 cR) ?_
  refine RK.val guard_none (op_move (rfl : _ = AV.t _)) ?_
  refine RK.val guard_none (op_extract rfl (v := .a _) rfl) ?_
  refine RK.val guard_none (op_extract rfl (v := .c _) rfl) ?_
  refine RK.alc guard_none (op_alloc hT rfl rfl) ?_
  refine RK.sto guard_none (op_store hT rfl rfl rfl rfl rfl rfl (cs := [_, _]) rfl) ?_
  refine RK.val guard_none (op_assign (rfl : _ = AV.p (.c _))) ?_
  refine RK.done (by kernel_rfl) ?_
  refine AWp_seq ?_
  refine AWp_region hP ?_
  refine RK.val guard_none (op_move (rfl : _ = AV.p (.c _))) ?_
  refine RK.val guard_none (op_uneg (c := -m) rfl (by rw [Int.zero_sub]; exact IntWalk.i64_in _ (by omega))) ?_
  refine RK.val guard_none (op_move (rfl : _ = AV.p (.c _))) ?_
  refine RK.val guard_none (op_mul rfl rfl (by first | exact IntWalk.i64_in _ (by omega) | rfl)) ?_
  refine RK.val guard_none (op_move (rfl : _ = AV.p (.c _))) ?_
  refine RK.val guard_none (op_mul rfl rfl (by first | exact IntWalk.i64_in _ (by omega) | rfl)) ?_
  refine RK.val guard_none (Eff.call0 (r_Of _ jq)) ?_
  refine RK.val guard_none (Eff.call0 cC) ?_
  refine RK.val guard_none (op_move (rfl : _ = AV.t _)) ?_
  refine RK.val guard_none (op_extract rfl (v := .c _) rfl) ?_
  refine RK.val guard_none (op_extract rfl (v := .c _) rfl) ?_
  refine RK.val guard_none (op_assign (rfl : _ = AV.p (.c _))) ?_
  refine RK.val guard_none (op_assign (rfl : _ = AV.p (.c _))) ?_
  refine RK.done (by kernel_rfl) ?_
  refine AWp_seq ?_
  refine AWp_region hP ?_
  refine RK.val guard_none (op_move (rfl : _ = AV.p (.c _))) ?_
  refine RK.val guard_none (op_eql rfl rfl) ?_
  refine RK.val guard_none (op_move (rfl : _ = AV.p (.c _))) ?_
  refine RK.val (guard_yes rfl rfl rfl) (op_move (rfl : _ = AV.p (.c _))) ?_
  refine RK.val (guard_yes rfl rfl rfl) (op_eql rfl rfl) ?_
  refine RK.val guard_none (op_pick_t rfl rfl (rfl : _ = AV.p (.c _))) ?_
  refine RK.val guard_none (op_move (rfl : _ = AV.p (.c _))) ?_
  refine RK.val (guard_yes rfl rfl rfl) (op_load_agg hT rfl rfl rfl rfl (cs := [_, _]) rfl rfl) ?_
  refine RK.val (guard_yes rfl rfl rfl) (op_move (rfl : _ = AV.p (.c _))) ?_
  refine RK.val (guard_yes rfl rfl rfl) (Eff.call0 (r_Of _ jc)) ?_
  refine RK.val (guard_yes rfl rfl rfl) (Eff.call0 (r_Same _ _)) ?_
  refine RK.val guard_none (op_pick_t rfl rfl (rfl : _ = AV.p (.c _))) ?_
  refine RK.val guard_none (op_move (rfl : _ = AV.p (.c _))) ?_
  refine RK.val (guard_yes rfl rfl (decide_eq_true rfl)) (op_move (rfl : _ = AV.p (.c _))) ?_
  refine RK.val (guard_yes rfl rfl (decide_eq_true rfl)) (op_gtr rfl rfl) ?_
  refine RK.val guard_none (op_pick_t rfl (decide_eq_true rfl) (rfl : _ = AV.p (.c _))) ?_
  refine RK.val guard_none (op_move (rfl : _ = AV.p (.c _))) ?_
  refine RK.val (guard_yes rfl rfl (decide_eq_true (by omega))) (op_move (rfl : _ = AV.p (.c _))) ?_
  refine RK.val guard_none (op_pick_t rfl (decide_eq_true (by omega)) (rfl : _ = AV.p (.c _))) ?_
  refine RK.val guard_none (op_assign (rfl : _ = AV.p (.c _))) ?_
  refine RK.done (by kernel_rfl) ?_
  refine AWp_ret ?_
  refine ends_one rfl (.inr rfl) (res_tmp rfl) ?_ O_ends
  exact .refl _

end Go.Proofs.YtkdfinfdocdpoaaDoor
end

section
/- The law 'CountRatios': for every input the call returns true and its arguments read as they did. No condition. -/
namespace Go.Proofs.YtkdfinfdocdpoaaDoor.countRatios
open Go Go.AM Go.RowKit

theorem own : ownKnob Tryd.prog.godebug = none := by kernel_rfl
theorem lo : laidOutB Tryd.prog = true := by kernel_rfl
theorem o22 {H : Type} {enc : TypeId × Value → H} {W : World} : Opens enc Tryd.prog W 22 [.i .u16] :=
  opens_int Tryd.underlying22
theorem o5 {H : Type} {enc : TypeId × Value → H} {W : World} : Opens enc Tryd.prog W 5 [.i .u8] :=
  opens_int Tryd.underlying5
set_option maxRecDepth 100000 in
theorem opened {H : Type} {enc : TypeId × Value → H} {W : World} : ArgsData enc Tryd.prog W Tryd.f4 4 := by
  refine args2 (rfl : Tryd.f4.params = #[22, 5]) ?_
  intro v0 e0 p0 v1 e1 p1 base hv0 ht0 hw0 hv1 ht1 hw1
  obtain ⟨n0, w0, r0⟩ := arg_int Tryd.underlying22 hv0 ht0
  obtain ⟨n1, w1, r1⟩ := arg_int Tryd.underlying5 hv1 ht1
  refine ⟨[_, _], ⟨r0, r1, trivial⟩, ?_⟩
  have h0 := Int.toNat_of_nonneg (bounds_u16 w0).1
  have g0 := (bounds_u16 w0).2
  have h1 := Int.toNat_of_nonneg (bounds_u8 w1).1
  have g1 := (bounds_u8 w1).2
  rw [← h0, ← h1]
  exact l_CountRatios _ _ (by omega) (by omega)

abbrev laidL : List (String × DataW Unit) := [("algorist/modular.signs", Rows.laid_algorist_modular_signs)]
set_option maxRecDepth 100000 in
theorem door_met (os : Os) (args : Array Value) : laidMetH Tryd.prog laidL ((World.doorLaid Tryd.prog 400 os).forCall (fun _ _ => 0) ⟨#[], args, []⟩).memory :=
  laidMetH_of_parts3 (fuel := 8) (laidMet_of_run' 8 (by kernel_rfl) (by kernel_rfl)) (by kernel_rfl) (by kernel_rfl)
theorem glob_ok (W : World) (h : laidMetH Tryd.prog laidL W) : GlOK (wh W) := by
  have hh := laid_ints (P := Tryd.prog) (W := W) (n := "algorist/modular.signs") (g := 0) (k := .i64) (xs := [0, 1, 0, -1, 0, -1, 0, 1]) (ty := 88) (e := 3) h (MakeChecks.laidMetH_plain _ _ _ (by kernel_rfl)) (by kernel_rfl) (by kernel_rfl) Tryd.underlying88 Tryd.underlying3 (by kernel_rfl)
  intro p hp
  simp only [glist, List.mem_cons, List.not_mem_nil, or_false] at hp
  subst hp
  exact hh

set_option maxRecDepth 100000 in
theorem lifted (os : Os) (started : os.Started) (H : Type) (enc : TypeId × Value → H) :
    ReturnsInHanded {} Tryd.checked os 4 .any (fun w args => (Rows.countRatiosSpec.pre enc Tryd.prog Tryd.f4 [] false w args ∧ laidMetH Tryd.prog laidL w) ∧ sizedMet enc Tryd.prog Tryd.f4 (OpenSpec.ofChange Rows.countRatiosSpec) false w args) (Rows.countRatiosSpec.post enc Tryd.prog Tryd.f4 false true false false) :=
  law_row_laid (C := Tryd.checked) own started (by kernel_rfl) Tryd.func4
    (ChangeSpec.witness_shaped (enc := enc) (C := Tryd.checked) (os := os) (X := fun w _ => laidMetH Tryd.prog laidL w) false (World.doorLaid Tryd.prog 400 os) #[.int .u16 0, .int .u8 0] 24 rfl (World.shaped_of_RefB (by kernel_rfl) (by kernel_rfl)) (by kernel_rfl) (by kernel_rfl) (by kernel_rfl) (door_met os _))
    lo (fun t ht => by
      have e : Tryd.f4.params.toList = [22, 5] := rfl
      rw [e] at ht
      simp only [List.mem_cons, List.not_mem_nil, or_false] at ht
      rcases ht with rfl | rfl <;> exact ⟨by kernel_rfl, Nat.le_of_ble_eq_true (by kernel_rfl)⟩)
    rfl (fun ds hd => by
      have e : ds.length = 2 := hd
      match ds, e with
      | [x0, x1], _ => exact ⟨rfl, rfl, rfl⟩)
    rfl Tryd.underlying4 (fun W => opened) glob_ok

theorem over : Rows.countRatiosRow.holds Tryd.pinned (OpenSpec.ofChange Rows.countRatiosSpec) :=
  OpenClaim.holds_of_wide 4 Tryd.f4 rfl rfl rfl rfl rfl rfl rfl ⟨rfl, rfl, rfl, rfl, rfl⟩ rfl rfl rfl rfl rfl (by kernel_rfl) Tryd.func4 (by kernel_rfl)
    (of_decide_eq_true (by kernel_rfl)) (by unfold Func.isWrapper; first | (rw [if_pos (by decide +kernel)]; kernel_rfl) | (rw [if_neg (by decide +kernel)]; exact ⟨rfl, rfl⟩))
    (fun os started H enc _ => lifted os started H enc)

theorem row_proved : Rows.CountRatiosSaid := over

theorem proved : Rows.CountRatiosCardSaid :=
  Claim7.holds_tied_plain_at .later [] [.data] true (true, "4b7c0a518a4d789cebb104cf870566f82ccc4300e3a3677923114b2bb8c739b5") false
    row_proved (fun _ h => by cases h) (by kernel_rfl) (fun _ h => by cases h) countRatios_row_tie rfl ⟨rfl, rfl⟩ (by kernel_rfl) rfl
    (fun f fn hf hfn => by
      obtain rfl : f = 4 := Option.some.inj ((show Tryd.prog.funcNamed Rows.countRatiosRow.func = some 4 by kernel_rfl).symm.trans hf) |>.symm
      obtain rfl : fn = Tryd.f4 := (Option.some.inj (Tryd.func4.symm.trans hfn)).symm
      exact ⟨by kernel_rfl, fun j t ht => by
        have hm : t ∈ [22, 5] := by simpa using Array.mem_of_getElem? ht
        have hall : ([22, 5].all fun u => !Tryd.prog.wantsStandIn u) = true := by kernel_rfl
        exact (show Tryd.prog.wantsStandIn t = false by simpa using List.all_eq_true.1 hall t hm)⟩)
    (by kernel_rfl)
end Go.Proofs.YtkdfinfdocdpoaaDoor.countRatios
end
