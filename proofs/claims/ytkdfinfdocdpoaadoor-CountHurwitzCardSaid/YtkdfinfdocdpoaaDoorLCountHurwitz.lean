/- Texts merged by program, in build order. -/
import Derived.Test.YtkdfinfdocdpoaaDoorMT
import Derived.Test.YtkdfinfdocdpoaaDoorMJ
import Derived.Test.YtkdfinfdocdpoaaDoorMC
import Derived.Test.YtkdfinfdocdpoaaDoorRows
import Derived.Test.YtkdfinfdocdpoaaDoorTie
import Derived.Test.YtkdfinfdocdpoaaDoorCards
section
/- chapter 11: CountHurwitz -/
namespace Go.Proofs.YtkdfinfdocdpoaaDoor
open Go Go.AM

/- algorist/algoristlaw11.CountHurwitz -/
set_option maxHeartbeats 8000000 in
set_option maxRecDepth 100000 in
theorem l_CountHurwitz (D : Nat) (_hD : D < 65536) :
    Call0 Tryd.prog 5 [.p (.c (.v (.int .u16 (D : Int))))] (B true) := by
  have d1 := Int.emod_nonneg (D : Int) (show (2000 : Int) ≠ 0 by omega)
  have d2 := Int.emod_lt_of_pos (D : Int) (show (0 : Int) < 2000 by omega)
  have jn : InI64 ((D : Int) % 2000 + 1) := by unfold InI64; omega
  have cH := c_Hurwitz ((D : Int) % 2000 + 1) (by omega)
  rw [hz_small (by omega) (by omega)] at cH
  refine callM_of (np := 0) Tryd.func5 (by kernel_rfl) rfl rfl (Nat.le_of_ble_eq_true rfl) (fun m h => absurd rfl h) (fun m h => absurd rfl h) rfl ?_
  refine AWp_seq ?_
  refine AWp_region hP ?_
  refine RK.val guard_none (op_assign (rfl : _ = AV.p (.c _))) ?_
  refine RK.done (by kernel_rfl) ?_
  refine AWp_seq ?_
  refine AWp_region hP ?_
  refine RK.val guard_none (Eff.call0 l_examples) ?_
  refine RK.val guard_none (op_assign (rfl : _ = AV.p (.c _))) ?_
  refine RK.done (by kernel_rfl) ?_
  refine AWp_seq ?_
  refine AWp_seq ?_
  refine AWp_region hP ?_
  refine RK.val guard_none (op_move (rfl : _ = AV.p (.c _))) ?_
  refine RK.val guard_none (op_unot rfl) ?_
  refine RK.done (by kernel_rfl) ?_
  refine AWp_cond_false rfl rfl ?_
  refine AWp_skip ?_
  refine AWp_seq ?_
  refine AWp_region hP ?_
  refine RK.val guard_none (op_move (rfl : _ = AV.p (.c _))) ?_
  refine RK.val guard_none (op_rem rfl rfl (by decide) (c := (D : Int) % 2000) (Int.tmod_eq_emod_of_nonneg (by omega))) ?_
  refine RK.val guard_none (op_conv hT rfl rfl rfl rfl (IntWalk.i64_in _ (by omega))) ?_
  refine RK.val guard_none (op_add rfl rfl (by first | exact IntWalk.i64_in _ (by omega) | rfl)) ?_
  refine RK.val guard_none (op_assign (rfl : _ = AV.p (.c _))) ?_
  refine RK.done (by kernel_rfl) ?_
  refine AWp_seq ?_
  refine AWp_region hP ?_
  refine RK.val guard_none (op_move (rfl : _ = AV.p (.c _))) ?_
  refine RK.val guard_none (Eff.call0 (r_Of _ jn)) ?_
  refine RK.val guard_none (Eff.call0 cH) ?_
  refine RK.val guard_none (op_move (rfl : _ = AV.t _)) ?_
  refine RK.val guard_none (op_extract rfl (v := .a _) rfl) ?_
  refine RK.val guard_none (op_extract rfl (v := .c _) rfl) ?_
  refine RK.alc guard_none (op_alloc hT rfl rfl) ?_
  refine RK.sto guard_none (op_store hT rfl rfl rfl rfl rfl rfl (cs := [_, _]) rfl) ?_
  refine RK.val guard_none (op_assign (rfl : _ = AV.p (.c _))) ?_
  refine RK.done (by kernel_rfl) ?_
  refine AWp_seq ?_
  refine AWp_region hP ?_
  refine RK.val guard_none (op_assign (rfl : _ = AV.p (.c _))) ?_
  refine RK.done (by kernel_rfl) ?_
  refine AWp_seq ?_
  refine AWp_seq ?_
  refine AWp_region hP ?_
  refine RK.val guard_none (op_assign (rfl : _ = AV.p (.c _))) ?_
  refine RK.done (by kernel_rfl) ?_
  refine AWp_block ?_
  generalize hn : (D : Int) % 2000 + 1 = n at jn cH ⊢
  have hn1 : 1 ≤ n := by omega
  have hn2 : n ≤ 2000 := by omega
  refine AWp_loop (ι := Int) (fun m => stL [(3, .p (.c (.v (.bool true)))), (4, Z n), (5, .loc 5 0), (6, .p (PE 0)), (7, Z (hS n m)), (8, Z m)] [(5, ⟨false, 1, 35, [zn (hzV n), zm (hzV n)]⟩)]) (fun m => 1 ≤ m ∧ m ≤ 46) (fun m => (46 - m).toNat) 1 (by omega) (le_stL ⟨.refl _, .refl _, .refl _, .refl _, Sub.int rfl, .refl _, trivial⟩ ⟨rfl, trivial⟩) ?_
  rintro m ⟨hm1, hm2⟩
  have qm := sq_b (x := m) (m := 46) (by omega)
  have qp := mm_pos hm1
  have qS := hS_b (n := n) hm1
  refine AWp_seq ?_
  refine AWp_seq ?_
  refine AWp_region hP ?_
  refine RK.val guard_none (op_move (rfl : _ = AV.p (.c _))) ?_
  refine RK.val guard_none (op_move (rfl : _ = AV.p (.c _))) ?_
  refine RK.val guard_none (op_mul rfl rfl (by first | exact IntWalk.i64_in _ (by omega) | rfl)) ?_
  refine RK.val guard_none (op_move (rfl : _ = AV.p (.c _))) ?_
  refine RK.val guard_none (op_leq rfl rfl) ?_
  refine RK.done (by kernel_rfl) ?_
  refine AWp_cond rfl (fun hb1 => ?_) (fun hb1 => ?_)
  · have hb1_ := of_decide_eq_true hb1
    have hm44 := m_le44 hm1 hb1_ (by omega)
    have qq := quo_b (n := n) (x := m * m) (by omega) (by omega)
    have qc := cls_b (n / (m * m))
    refine AWp_skip ?_
    refine AWp_seq ?_
    refine AWp_block ?_
    refine AWp_seq ?_
    refine AWp_seq ?_
    refine AWp_region hP ?_
    refine RK.val guard_none (op_move (rfl : _ = AV.p (.c _))) ?_
    refine RK.val guard_none (op_move (rfl : _ = AV.p (.c _))) ?_
    refine RK.val guard_none (op_move (rfl : _ = AV.p (.c _))) ?_
    refine RK.val guard_none (op_mul rfl rfl (by first | exact IntWalk.i64_in _ (by omega) | rfl)) ?_
    refine RK.val guard_none (op_rem rfl rfl (by omega) (c := n % (m * m)) (Int.tmod_eq_emod_of_nonneg (by omega))) ?_
    refine RK.val guard_none (op_neq rfl rfl) ?_
    refine RK.val guard_none (op_move (rfl : _ = AV.p (.c _))) ?_
    refine RK.split (t := 37) rfl (fun hg2 => ?_) (fun hg2 => ?_)
    · have hg2_ := bneT hg2
      refine RK.skip (guard_no rfl rfl hg2) ?_
      refine RK.skip (guard_no rfl rfl hg2) ?_
      refine RK.skip (guard_no rfl rfl hg2) ?_
      refine RK.skip (guard_no rfl rfl hg2) ?_
      refine RK.skip (guard_no rfl rfl hg2) ?_
      refine RK.skip (guard_no rfl rfl hg2) ?_
      refine RK.skip (guard_no rfl rfl hg2) ?_
      refine RK.val guard_none (op_pick_t rfl hg2 (rfl : _ = AV.p (.c _))) ?_
      refine RK.done (by kernel_rfl) ?_
      refine AWp_cond_true rfl rfl ?_
      refine AWp_exit ?_
      refine AWp_region hP ?_
      refine RK.val guard_none (op_move (rfl : _ = AV.p (.c _))) ?_
      refine RK.val guard_none (op_add rfl rfl (by first | exact IntWalk.i64_in _ (by omega) | rfl)) ?_
      refine RK.val guard_none (op_assign (rfl : _ = AV.p (.c _))) ?_
      refine RK.done (by kernel_rfl) ?_
      refine ⟨m + 1, ⟨by omega, by omega⟩, by omega, le_stL ⟨.refl _, .refl _, .refl _, .refl _, Sub.int (hS_no1 hm1 hg2_), Sub.int (by omega), trivial⟩ ⟨rfl, trivial⟩⟩
    · have hg2_ := bneF hg2
      refine RK.val (guard_yes rfl rfl hg2) (op_move (rfl : _ = AV.p (.c _))) ?_
      refine RK.val (guard_yes rfl rfl hg2) (op_move (rfl : _ = AV.p (.c _))) ?_
      refine RK.val (guard_yes rfl rfl hg2) (op_move (rfl : _ = AV.p (.c _))) ?_
      refine RK.val (guard_yes rfl rfl hg2) (op_mul rfl rfl (by first | exact IntWalk.i64_in _ (by omega) | rfl)) ?_
      refine RK.val (guard_yes rfl rfl hg2) (op_quo rfl rfl (by omega) (c := (n / (m * m))) (by rw [Int.tdiv_eq_ediv_of_nonneg (by omega), IntWalk.i64_in _ (by omega)])) ?_
      refine RK.val (guard_yes rfl rfl hg2) (Eff.call0 (r11_Is _)) ?_
      refine RK.val (guard_yes rfl rfl hg2) (op_unot rfl) ?_
      refine RK.val guard_none (op_pick_f rfl hg2 (rfl : _ = AV.p (.c _))) ?_
      refine RK.done (by kernel_rfl) ?_
      refine AWp_cond rfl (fun hb3 => ?_) (fun hb3 => ?_)
      · have hb3_ := (notT hb3)
        refine AWp_exit ?_
        refine AWp_region hP ?_
        refine RK.val guard_none (op_move (rfl : _ = AV.p (.c _))) ?_
        refine RK.val guard_none (op_add rfl rfl (by first | exact IntWalk.i64_in _ (by omega) | rfl)) ?_
        refine RK.val guard_none (op_assign (rfl : _ = AV.p (.c _))) ?_
        refine RK.done (by kernel_rfl) ?_
        refine ⟨m + 1, ⟨by omega, by omega⟩, by omega, le_stL ⟨.refl _, .refl _, .refl _, .refl _, Sub.int (hS_no2 hm1 (notT hb3)), Sub.int (by omega), trivial⟩ ⟨rfl, trivial⟩⟩
      · have hb3_ := (notF hb3)
        have jq : InI64 (-(n / (m * m))) := by unfold InI64; omega
        have cC := c_Class (-(n / (m * m))) (by omega)
        rw [szE_isD (notF hb3) (by omega), clE_isD (notF hb3) (by omega)] at cC
        refine AWp_skip ?_
        refine AWp_seq ?_
        refine AWp_region hP ?_
        refine RK.val guard_none (op_move (rfl : _ = AV.p (.c _))) ?_
        refine RK.val guard_none (op_uneg rfl (by first | exact IntWalk.i64_in _ (by omega) | rfl)) ?_
        refine RK.val guard_none (op_move (rfl : _ = AV.p (.c _))) ?_
        refine RK.val guard_none (op_move (rfl : _ = AV.p (.c _))) ?_
        refine RK.val guard_none (op_mul rfl rfl (by first | exact IntWalk.i64_in _ (by omega) | rfl)) ?_
        refine RK.val guard_none (op_quo rfl rfl (by omega) (c := -(n / (m * m))) (by rw [Int.zero_sub, neg_quo (by omega), IntWalk.i64_in _ (by omega)])) ?_
        refine RK.val guard_none (Eff.call0 (r_Of _ jq)) ?_
        refine RK.val guard_none (Eff.call0 cC) ?_
        refine RK.val guard_none (op_move (rfl : _ = AV.t _)) ?_
        refine RK.val guard_none (op_extract rfl (v := .c _) rfl) ?_
        refine RK.val guard_none (op_extract rfl (v := .c _) rfl) ?_
        refine RK.val guard_none (op_assign (rfl : _ = AV.p (.c _))) ?_
        refine RK.val guard_none (op_assign (rfl : _ = AV.p (.c _))) ?_
        refine RK.done (by kernel_rfl) ?_
        refine AWp_seq ?_
        refine AWp_seq ?_
        refine AWp_region hP ?_
        refine RK.val guard_none (op_move (rfl : _ = AV.p (.c _))) ?_
        refine RK.val guard_none (op_neq rfl rfl) ?_
        refine RK.done (by kernel_rfl) ?_
        refine AWp_cond_false rfl rfl ?_
        refine AWp_skip ?_
        refine AWp_seq ?_
        refine AWp_region hP ?_
        refine RK.val guard_none (op_move (rfl : _ = AV.p (.c _))) ?_
        refine RK.val guard_none (op_move (rfl : _ = AV.p (.c _))) ?_
        refine RK.val guard_none (op_move (rfl : _ = AV.p (.c _))) ?_
        refine RK.val guard_none (op_mul rfl rfl (by first | exact IntWalk.i64_in _ (by omega) | rfl)) ?_
        refine RK.val guard_none (op_quo rfl rfl (by omega) (c := (n / (m * m))) (by rw [Int.tdiv_eq_ediv_of_nonneg (by omega), IntWalk.i64_in _ (by omega)])) ?_
        refine RK.done (by kernel_rfl) ?_
        refine AWp_block ?_
        refine AWp_seq ?_
        refine AWp_region hP ?_
        refine RK.val guard_none (op_eql rfl rfl) ?_
        refine RK.val guard_none (op_assign (rfl : _ = AV.p (.c _))) ?_
        refine RK.done (by kernel_rfl) ?_
        refine AWp_cond rfl (fun hb4 => ?_) (fun hb4 => ?_)
        · have hb4_ := bT hb4
          refine AWp_region hP ?_
          refine RK.val guard_none (op_move (rfl : _ = AV.p (.c _))) ?_
          refine RK.val guard_none (op_move (rfl : _ = AV.p (.c _))) ?_
          refine RK.val guard_none (op_mul rfl rfl (by first | exact IntWalk.i64_in _ (by omega) | rfl)) ?_
          refine RK.val guard_none (op_add rfl rfl (by first | exact IntWalk.i64_in _ (by omega) | rfl)) ?_
          refine RK.val guard_none (op_assign (rfl : _ = AV.p (.c _))) ?_
          refine RK.done (by kernel_rfl) ?_
          refine AWp_region hP ?_
          refine RK.val guard_none (op_move (rfl : _ = AV.p (.c _))) ?_
          refine RK.val guard_none (op_add rfl rfl (by first | exact IntWalk.i64_in _ (by omega) | rfl)) ?_
          refine RK.val guard_none (op_assign (rfl : _ = AV.p (.c _))) ?_
          refine RK.done (by kernel_rfl) ?_
          refine ⟨m + 1, ⟨by omega, by omega⟩, by omega, le_stL ⟨.refl _, .refl _, .refl _, .refl _, Sub.int (hS_w hm1 hg2_ (notF hb3) (wN_3 hb4_)), Sub.int (by omega), trivial⟩ ⟨rfl, trivial⟩⟩
        · have hb4_ := bF hb4
          refine AWp_seq ?_
          refine AWp_region hP ?_
          refine RK.val guard_none (op_eql rfl rfl) ?_
          refine RK.val guard_none (op_assign (rfl : _ = AV.p (.c _))) ?_
          refine RK.done (by kernel_rfl) ?_
          refine AWp_cond rfl (fun hb5 => ?_) (fun hb5 => ?_)
          · have hb5_ := bT hb5
            refine AWp_region hP ?_
            refine RK.val guard_none (op_move (rfl : _ = AV.p (.c _))) ?_
            refine RK.val guard_none (op_move (rfl : _ = AV.p (.c _))) ?_
            refine RK.val guard_none (op_mul rfl rfl (by first | exact IntWalk.i64_in _ (by omega) | rfl)) ?_
            refine RK.val guard_none (op_add rfl rfl (by first | exact IntWalk.i64_in _ (by omega) | rfl)) ?_
            refine RK.val guard_none (op_assign (rfl : _ = AV.p (.c _))) ?_
            refine RK.done (by kernel_rfl) ?_
            refine AWp_region hP ?_
            refine RK.val guard_none (op_move (rfl : _ = AV.p (.c _))) ?_
            refine RK.val guard_none (op_add rfl rfl (by first | exact IntWalk.i64_in _ (by omega) | rfl)) ?_
            refine RK.val guard_none (op_assign (rfl : _ = AV.p (.c _))) ?_
            refine RK.done (by kernel_rfl) ?_
            refine ⟨m + 1, ⟨by omega, by omega⟩, by omega, le_stL ⟨.refl _, .refl _, .refl _, .refl _, Sub.int (hS_w hm1 hg2_ (notF hb3) (wN_4 hb4_ hb5_)), Sub.int (by omega), trivial⟩ ⟨rfl, trivial⟩⟩
          · have hb5_ := bF hb5
            refine AWp_region hP ?_
            refine RK.val guard_none (op_move (rfl : _ = AV.p (.c _))) ?_
            refine RK.val guard_none (op_move (rfl : _ = AV.p (.c _))) ?_
            refine RK.val guard_none (op_mul rfl rfl (by first | exact IntWalk.i64_in _ (by omega) | rfl)) ?_
            refine RK.val guard_none (op_add rfl rfl (by first | exact IntWalk.i64_in _ (by omega) | rfl)) ?_
            refine RK.val guard_none (op_assign (rfl : _ = AV.p (.c _))) ?_
            refine RK.done (by kernel_rfl) ?_
            refine AWp_region hP ?_
            refine RK.val guard_none (op_move (rfl : _ = AV.p (.c _))) ?_
            refine RK.val guard_none (op_add rfl rfl (by first | exact IntWalk.i64_in _ (by omega) | rfl)) ?_
            refine RK.val guard_none (op_assign (rfl : _ = AV.p (.c _))) ?_
            refine RK.done (by kernel_rfl) ?_
            refine ⟨m + 1, ⟨by omega, by omega⟩, by omega, le_stL ⟨.refl _, .refl _, .refl _, .refl _, Sub.int (hS_w hm1 hg2_ (notF hb3) (wN_e hb4_ hb5_)), Sub.int (by omega), trivial⟩ ⟨rfl, trivial⟩⟩
  · have hb1_ := of_decide_eq_false hb1
    have jS : InI64 (hS n m) := by unfold InI64; omega
    have hfin : decide (hzV n = hS n m) = true := decide_eq_true (hurw hn1 (by omega) hm1 (by omega)).symm
    refine AWp_exit ?_
    refine AWp_seq ?_
    refine AWp_region hP ?_
    refine RK.val guard_none (op_move (rfl : _ = AV.p (.c _))) ?_
    refine RK.val guard_none (op_eql rfl rfl) ?_
    refine RK.val guard_none (op_move (rfl : _ = AV.p (.c _))) ?_
    refine RK.val (guard_yes rfl rfl rfl) (op_load_agg hT rfl rfl rfl rfl (cs := [_, _]) rfl rfl) ?_
    refine RK.val (guard_yes rfl rfl rfl) (op_move (rfl : _ = AV.p (.c _))) ?_
    refine RK.val (guard_yes rfl rfl rfl) (Eff.call0 (r_Of _ jS)) ?_
    refine RK.val (guard_yes rfl rfl rfl) (Eff.call0 (r_Same _ _)) ?_
    refine RK.val guard_none (op_pick_t rfl rfl (rfl : _ = AV.p (.c _))) ?_
    refine RK.val guard_none (op_move (rfl : _ = AV.p (.c _))) ?_
    refine RK.val (guard_yes rfl rfl hfin) (op_move (rfl : _ = AV.p (.c _))) ?_
    refine RK.val guard_none (op_pick_t rfl hfin (rfl : _ = AV.p (.c _))) ?_
    refine RK.val guard_none (op_assign (rfl : _ = AV.p (.c _))) ?_
    refine RK.done (by kernel_rfl) ?_
    refine AWp_ret ?_
    refine ends_one rfl (.inr rfl) (res_tmp rfl) ?_ O_ends
    exact .refl _

end Go.Proofs.YtkdfinfdocdpoaaDoor
end

section
/- The law 'CountHurwitz': for every input the call returns true and its arguments read as they did. No condition. -/
namespace Go.Proofs.YtkdfinfdocdpoaaDoor.countHurwitz
open Go Go.AM Go.RowKit

theorem own : ownKnob Tryd.prog.godebug = none := by kernel_rfl
theorem lo : laidOutB Tryd.prog = true := by kernel_rfl
theorem o22 {H : Type} {enc : TypeId × Value → H} {W : World} : Opens enc Tryd.prog W 22 [.i .u16] :=
  opens_int Tryd.underlying22
set_option maxRecDepth 100000 in
theorem opened {H : Type} {enc : TypeId × Value → H} {W : World} : ArgsData enc Tryd.prog W Tryd.f5 5 := by
  refine args1 (rfl : Tryd.f5.params = #[22]) ?_
  intro v0 e0 p0 base hv0 ht0 hw0
  obtain ⟨n0, w0, r0⟩ := arg_int Tryd.underlying22 hv0 ht0
  refine ⟨[_], ⟨r0, trivial⟩, ?_⟩
  have h0 := Int.toNat_of_nonneg (bounds_u16 w0).1
  have g0 := (bounds_u16 w0).2
  rw [← h0]
  exact l_CountHurwitz _ (by omega)

abbrev laidL : List (String × DataW Unit) := [("algorist/modular.signs", Rows.laid_algorist_modular_signs)]
set_option maxRecDepth 100000 in
theorem door_met (os : Os) (args : Array Value) : laidMetH Tryd.prog laidL ((World.doorLaid Tryd.prog 400 os).forCall (fun _ _ => 0) ⟨#[], args, []⟩).memory :=
  laidMetH_of_parts3 (fuel := 8) (laidMet_of_run' 8 (by kernel_rfl) (by kernel_rfl)) (by kernel_rfl) (by kernel_rfl)
theorem glob_ok (W : World) (h : laidMetH Tryd.prog laidL W) : GlOK (wh W) := by
  have hh := laid_ints (P := Tryd.prog) (W := W) (n := "algorist/modular.signs") (g := 0) (k := .i64) (xs := [0, 1, 0, -1, 0, -1, 0, 1]) (ty := 88) (e := 3) h (MakeChecks.laidMetH_plain _ _ _ (by kernel_rfl)) (by kernel_rfl) (by kernel_rfl) Tryd.underlying88 Tryd.underlying3 (by kernel_rfl)
  intro p hp
  simp only [glist, List.mem_cons, List.not_mem_nil, or_false] at hp
  subst hp
  exact hh

set_option maxRecDepth 100000 in
theorem lifted (os : Os) (started : os.Started) (H : Type) (enc : TypeId × Value → H) :
    ReturnsInHanded {} Tryd.checked os 5 .any (fun w args => (Rows.countHurwitzSpec.pre enc Tryd.prog Tryd.f5 [] false w args ∧ laidMetH Tryd.prog laidL w) ∧ sizedMet enc Tryd.prog Tryd.f5 (OpenSpec.ofChange Rows.countHurwitzSpec) false w args) (Rows.countHurwitzSpec.post enc Tryd.prog Tryd.f5 false true false false) :=
  law_row_laid (C := Tryd.checked) own started (by kernel_rfl) Tryd.func5
    (ChangeSpec.witness_shaped (enc := enc) (C := Tryd.checked) (os := os) (X := fun w _ => laidMetH Tryd.prog laidL w) false (World.doorLaid Tryd.prog 400 os) #[.int .u16 0] 24 rfl (World.shaped_of_RefB (by kernel_rfl) (by kernel_rfl)) (by kernel_rfl) (by kernel_rfl) (by kernel_rfl) (door_met os _))
    lo (fun t ht => by
      have e : Tryd.f5.params.toList = [22] := rfl
      rw [e] at ht
      simp only [List.mem_cons, List.not_mem_nil, or_false] at ht
      subst ht 
      exact ⟨by kernel_rfl, Nat.le_of_ble_eq_true (by kernel_rfl)⟩)
    rfl (fun ds hd => by
      have e : ds.length = 1 := hd
      match ds, e with
      | [x0], _ => exact ⟨rfl, rfl, rfl⟩)
    rfl Tryd.underlying4 (fun W => opened) glob_ok

theorem over : Rows.countHurwitzRow.holds Tryd.pinned (OpenSpec.ofChange Rows.countHurwitzSpec) :=
  OpenClaim.holds_of_wide 5 Tryd.f5 rfl rfl rfl rfl rfl rfl rfl ⟨rfl, rfl, rfl, rfl, rfl⟩ rfl rfl rfl rfl rfl (by kernel_rfl) Tryd.func5 (by kernel_rfl)
    (of_decide_eq_true (by kernel_rfl)) (by unfold Func.isWrapper; first | (rw [if_pos (by decide +kernel)]; kernel_rfl) | (rw [if_neg (by decide +kernel)]; exact ⟨rfl, rfl⟩))
    (fun os started H enc _ => lifted os started H enc)

theorem row_proved : Rows.CountHurwitzSaid := over

theorem proved : Rows.CountHurwitzCardSaid :=
  Claim7.holds_tied_plain_at .later [] [.data] true (true, "4b7c0a518a4d789cebb104cf870566f82ccc4300e3a3677923114b2bb8c739b5") false
    row_proved (fun _ h => by cases h) (by kernel_rfl) (fun _ h => by cases h) countHurwitz_row_tie rfl ⟨rfl, rfl⟩ (by kernel_rfl) rfl
    (fun f fn hf hfn => by
      obtain rfl : f = 5 := Option.some.inj ((show Tryd.prog.funcNamed Rows.countHurwitzRow.func = some 5 by kernel_rfl).symm.trans hf) |>.symm
      obtain rfl : fn = Tryd.f5 := (Option.some.inj (Tryd.func5.symm.trans hfn)).symm
      exact ⟨by kernel_rfl, fun j t ht => by
        have hm : t ∈ [22] := by simpa using Array.mem_of_getElem? ht
        have hall : ([22].all fun u => !Tryd.prog.wantsStandIn u) = true := by kernel_rfl
        exact (show Tryd.prog.wantsStandIn t = false by simpa using List.all_eq_true.1 hall t hm)⟩)
    (by kernel_rfl)
end Go.Proofs.YtkdfinfdocdpoaaDoor.countHurwitz
end
