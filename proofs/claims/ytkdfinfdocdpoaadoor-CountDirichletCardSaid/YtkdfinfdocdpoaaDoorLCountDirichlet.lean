/- Texts merged by program, in build order. -/
import Derived.Test.YtkdfinfdocdpoaaDoorMT
import Derived.Test.YtkdfinfdocdpoaaDoorMJ
import Derived.Test.YtkdfinfdocdpoaaDoorMC
import Derived.Test.YtkdfinfdocdpoaaDoorRows
import Derived.Test.YtkdfinfdocdpoaaDoorTie
import Derived.Test.YtkdfinfdocdpoaaDoorCards
section
/- chapter 11: CountDirichlet -/
namespace Go.Proofs.YtkdfinfdocdpoaaDoor
open Go Go.AM

/- algorist/algoristlaw11.CountDirichlet -/
set_option maxHeartbeats 8000000 in
set_option maxRecDepth 100000 in
theorem l_CountDirichlet (D : Nat) (hD : D < 65536) :
    Call0 Tryd.prog 8 [.p (.c (.v (.int .u16 (D : Int))))] (B true) := by
  obtain ⟨s1, s2, s3, s4, s5⟩ := szz_spec D
  have cD := r11_Disc D hD
  generalize szz D = N at cD s1 s2 s3 s4 s5
  have hD0 : isD N = true := isD_iff.2 ⟨by omega, s4⟩
  obtain ⟨m, hmD, hmc, hm3, hm4, x1, x2, F, x3⟩ := dir_pre hD0 (by omega)
  have c1 := c_Conductor (-N) (by omega)
  rw [x1, x2, x3] at c1
  have im : LB (-(m : Int)) 6 := ⟨by unfold L; omega⟩
  have im' : LB (m : Int) 6 := ⟨by unfold L; omega⟩
  have lyy := lwO_yes (a := (m : Int)) (by omega)
  have cL : Call0 Tryd.prog 27 [I (-(-(m : Int)))] (.t [PE (m : Int), PB true]) := by
    rw [Int.neg_neg]
    have h := r_Low (m : Int) lz
    rw [lyy.1, lyy.2] at h
    exact h
  have cC := c_Class (-(m : Int)) (by omega)
  rw [szE_isD hmD (by omega), clE_isD hmD (by omega)] at cC
  have qb := cls_b (m : Int)
  have hdir := fun h5 => dir_all (n := m) h5 (by omega) hmD hmc
  refine callM_of (np := 0) Tryd.func8 (by kernel_rfl) rfl rfl (Nat.le_of_ble_eq_true rfl) (fun m h => absurd rfl h) (fun m h => absurd rfl h) rfl ?_
  refine AWp_seq ?_
  refine AWp_region hP ?_
  refine RK.val guard_none (op_assign (rfl : _ = AV.p (.c _))) ?_
  refine RK.done (by kernel_rfl) ?_
  refine AWp_seq ?_
  refine AWp_region hP ?_
  refine RK.val guard_none (Eff.call0 l_examples) ?_
  refine RK.val guard_none (op_assign (rfl : _ = AV.p (.c _))) ?_
  refine RK.done (by kernel_rfl) ?_
  refine AWp_seq ?_
  refine AWp_seq ?_
  refine AWp_region hP ?_
  refine RK.val guard_none (op_move (rfl : _ = AV.p (.c _))) ?_
  refine RK.val guard_none (op_unot rfl) ?_
  refine RK.done (by kernel_rfl) ?_
  refine AWp_cond_false rfl rfl ?_
  refine AWp_skip ?_
  refine AWp_seq ?_
  refine AWp_region hP ?_
  refine RK.val guard_none (op_move (rfl : _ = AV.p (.c _))) ?_
  refine RK.val guard_none (Eff.call0 cD) ?_
  refine RK.val guard_none (Eff.call0 c1) ?_
  refine RK.val guard_none (op_move (rfl : _ = AV.t _)) ?_
  refine RK.val guard_none (op_extract rfl (v := .a _) rfl) ?_
  refine RK.val guard_none (op_extract rfl (v := .a _) rfl) ?_
  refine RK.val guard_none (op_extract rfl (v := .c _) rfl) ?_
  refine RK.alc guard_none (op_alloc hT rfl rfl) ?_
  refine RK.alc guard_none (op_alloc hT rfl rfl) ?_
  refine RK.sto guard_none (op_store hT rfl rfl rfl rfl rfl rfl (cs := [_, _]) rfl) ?_
  refine RK.sto guard_none (op_store hT rfl rfl rfl rfl rfl rfl (cs := [_, _]) rfl) ?_
  refine RK.val guard_none (op_assign (rfl : _ = AV.p (.c _))) ?_
  refine RK.done (by kernel_rfl) ?_
  refine AWp_seq ?_
  refine AWp_region hP ?_
  refine RK.val guard_none (op_load_agg hT rfl rfl rfl rfl (cs := [_, _]) rfl rfl) ?_
  refine RK.val guard_none (Eff.call0 (r_Neg _)) ?_
  refine RK.val guard_none (Eff.call0 cL) ?_
  refine RK.val guard_none (op_move (rfl : _ = AV.t _)) ?_
  refine RK.val guard_none (op_extract rfl (v := .c _) rfl) ?_
  refine RK.val guard_none (op_extract rfl (v := .c _) rfl) ?_
  refine RK.val guard_none (op_assign (rfl : _ = AV.p (.c _))) ?_
  refine RK.val guard_none (op_assign (rfl : _ = AV.p (.c _))) ?_
  refine RK.done (by kernel_rfl) ?_
  refine AWp_seq ?_
  refine AWp_seq ?_
  refine AWp_region hP ?_
  refine RK.val guard_none (op_move (rfl : _ = AV.p (.c _))) ?_
  refine RK.val guard_none (op_neq rfl rfl) ?_
  refine RK.val guard_none (op_move (rfl : _ = AV.p (.c _))) ?_
  refine RK.val (guard_yes rfl rfl rfl) (op_move (rfl : _ = AV.p (.c _))) ?_
  refine RK.val (guard_yes rfl rfl rfl) (op_unot rfl) ?_
  refine RK.val guard_none (op_pick_f rfl rfl (rfl : _ = AV.p (.c _))) ?_
  refine RK.val guard_none (op_move (rfl : _ = AV.p (.c _))) ?_
  refine RK.val (guard_yes rfl rfl rfl) (op_move (rfl : _ = AV.p (.c _))) ?_
  refine RK.val (guard_yes rfl rfl rfl) (op_lss rfl rfl) ?_
  refine RK.val guard_none (op_pick_f rfl rfl (rfl : _ = AV.p (.c _))) ?_
  refine RK.val guard_none (op_move (rfl : _ = AV.p (.c _))) ?_
  refine RK.val (guard_yes rfl rfl (decide_eq_false (by omega))) (op_move (rfl : _ = AV.p (.c _))) ?_
  refine RK.val (guard_yes rfl rfl (decide_eq_false (by omega))) (op_gtr rfl rfl) ?_
  refine RK.val guard_none (op_pick_f rfl (decide_eq_false (by omega)) (rfl : _ = AV.p (.c _))) ?_
  refine RK.done (by kernel_rfl) ?_
  refine AWp_cond_false rfl (decide_eq_false (by omega)) ?_
  refine AWp_skip ?_
  refine AWp_seq ?_
  refine AWp_seq ?_
  refine AWp_region hP ?_
  refine RK.val guard_none (op_move (rfl : _ = AV.p (.c _))) ?_
  refine RK.val guard_none (op_leq rfl rfl) ?_
  refine RK.done (by kernel_rfl) ?_
  refine AWp_cond rfl (fun hb4 => ?_) (fun hb4 => ?_)
  · have hb4_ := of_decide_eq_true hb4
    refine AWp_seq ?_
    refine AWp_region hP ?_
    refine RK.val guard_none (op_move (rfl : _ = AV.p (.c _))) ?_
    refine RK.val guard_none (op_assign (rfl : _ = AV.p (.c _))) ?_
    refine RK.done (by kernel_rfl) ?_
    refine AWp_ret ?_
    refine ends_one rfl (.inr rfl) (res_tmp rfl) ?_ O_ends
    exact .refl _
  · have hb4_ := of_decide_eq_false hb4
    refine AWp_skip ?_
    refine AWp_seq ?_
    refine AWp_region hP ?_
    refine RK.val guard_none (op_assign (rfl : _ = AV.p (.c _))) ?_
    refine RK.done (by kernel_rfl) ?_
    refine AWp_seq ?_
    refine AWp_seq ?_
    refine AWp_region hP ?_
    refine RK.val guard_none (op_assign (rfl : _ = AV.p (.c _))) ?_
    refine RK.done (by kernel_rfl) ?_
    refine AWp_block ?_
    refine AWp_loop (ι := Nat) (fun k => stL [(3, .p (.c (.v (.bool true)))), (4, .loc 4 0), (7, Z (m : Int)), (9, Z (-SD m k)), (10, Z ((k : Int) + 1))] [(4, ⟨false, 1, 35, [zn (-(m : Int)), zm (-(m : Int))]⟩)]) (fun k => k + 1 ≤ m) (fun k => m - k) 0 (by omega) (le_stL ⟨.refl _, .refl _, .refl _, .refl _, .refl _, trivial⟩ ⟨rfl, trivial⟩) ?_
    intro k hk
    refine AWp_seq ?_
    refine AWp_seq ?_
    refine AWp_region hP ?_
    refine RK.val guard_none (op_move (rfl : _ = AV.p (.c _))) ?_
    refine RK.val guard_none (op_move (rfl : _ = AV.p (.c _))) ?_
    refine RK.val guard_none (op_lss rfl rfl) ?_
    refine RK.done (by kernel_rfl) ?_
    refine AWp_cond rfl (fun hb5 => ?_) (fun hb5 => ?_)
    · have hb5_ := of_decide_eq_true hb5
      have jk : InI64 ((k : Int) + 1) := by unfold InI64; omega
      have ik : LB ((k : Int) + 1) 6 := ⟨by unfold L; omega⟩
      have hb := SD_b m k (by omega)
      have hn := SD_next m k
      have h2 := SD_t m k (by omega)
      refine AWp_skip ?_
      refine AWp_seq ?_
      refine AWp_block ?_
      refine AWp_region hP ?_
      refine RK.val guard_none (op_move (rfl : _ = AV.p (.c _))) ?_
      refine RK.val guard_none (op_move (rfl : _ = AV.p (.c _))) ?_
      refine RK.val guard_none (op_load_agg hT rfl rfl rfl rfl (cs := [_, _]) rfl rfl) ?_
      refine RK.val guard_none (op_move (rfl : _ = AV.p (.c _))) ?_
      refine RK.val guard_none (Eff.call0 (r_Of _ jk)) ?_
      refine RK.val guard_none (Eff.call0 (m_Kronecker _ _ lz lz)) ?_
      refine RK.val guard_none (op_mul rfl rfl (by first | exact IntWalk.i64_in _ (by omega) | rfl)) ?_
      refine RK.val guard_none (op_sub rfl rfl (by first | exact IntWalk.i64_in _ (by omega) | rfl)) ?_
      refine RK.val guard_none (op_assign (rfl : _ = AV.p (.c _))) ?_
      refine RK.done (by kernel_rfl) ?_
      refine AWp_region hP ?_
      refine RK.val guard_none (op_move (rfl : _ = AV.p (.c _))) ?_
      refine RK.val guard_none (op_add rfl rfl (by first | exact IntWalk.i64_in _ (by omega) | rfl)) ?_
      refine RK.val guard_none (op_assign (rfl : _ = AV.p (.c _))) ?_
      refine RK.done (by kernel_rfl) ?_
      refine ⟨k + 1, by omega, by omega, le_stL ⟨.refl _, .refl _, .refl _, Sub.int (by omega), Sub.int (by omega), trivial⟩ ⟨rfl, trivial⟩⟩
    · have hb5_ := of_decide_eq_false hb5
      have hk2 : k = m - 1 := by omega
      have hdd := hdir (by omega)
      have hmc2 := mc_b (m := m) (by omega) qb
      have hfin : (-SD m k == (m : Int) * cls (m : Int)) = true := by rw [hk2, hdd]; exact beq_self_eq_true _
      refine AWp_exit ?_
      refine AWp_seq ?_
      refine AWp_region hP ?_
      refine RK.val guard_none (op_load_agg hT rfl rfl rfl rfl (cs := [_, _]) rfl rfl) ?_
      refine RK.val guard_none (Eff.call0 cC) ?_
      refine RK.val guard_none (op_move (rfl : _ = AV.t _)) ?_
      refine RK.val guard_none (op_extract rfl (v := .c _) rfl) ?_
      refine RK.val guard_none (op_extract rfl (v := .c _) rfl) ?_
      refine RK.val guard_none (op_assign (rfl : _ = AV.p (.c _))) ?_
      refine RK.val guard_none (op_assign (rfl : _ = AV.p (.c _))) ?_
      refine RK.done (by kernel_rfl) ?_
      refine AWp_seq ?_
      refine AWp_region hP ?_
      refine RK.val guard_none (op_move (rfl : _ = AV.p (.c _))) ?_
      refine RK.val guard_none (op_eql rfl rfl) ?_
      refine RK.val guard_none (op_move (rfl : _ = AV.p (.c _))) ?_
      refine RK.val (guard_yes rfl rfl rfl) (op_move (rfl : _ = AV.p (.c _))) ?_
      refine RK.val (guard_yes rfl rfl rfl) (op_move (rfl : _ = AV.p (.c _))) ?_
      refine RK.val (guard_yes rfl rfl rfl) (op_move (rfl : _ = AV.p (.c _))) ?_
      refine RK.val (guard_yes rfl rfl rfl) (op_mul rfl rfl (by first | exact IntWalk.i64_in _ (by omega) | rfl)) ?_
      refine RK.val (guard_yes rfl rfl rfl) (op_eql rfl rfl) ?_
      refine RK.val guard_none (op_pick_t rfl rfl (rfl : _ = AV.p (.c _))) ?_
      refine RK.val guard_none (op_move (rfl : _ = AV.p (.c _))) ?_
      refine RK.val (guard_yes rfl rfl hfin) (op_move (rfl : _ = AV.p (.c _))) ?_
      refine RK.val guard_none (op_pick_t rfl hfin (rfl : _ = AV.p (.c _))) ?_
      refine RK.val guard_none (op_assign (rfl : _ = AV.p (.c _))) ?_
      refine RK.done (by kernel_rfl) ?_
      refine AWp_ret ?_
      refine ends_one rfl (.inr rfl) (res_tmp rfl) ?_ O_ends
      exact .refl _

end Go.Proofs.YtkdfinfdocdpoaaDoor
end

section
/- The law 'CountDirichlet': for every input the call returns true and its arguments read as they did. No condition. -/
namespace Go.Proofs.YtkdfinfdocdpoaaDoor.countDirichlet
open Go Go.AM Go.RowKit

theorem own : ownKnob Tryd.prog.godebug = none := by kernel_rfl
theorem lo : laidOutB Tryd.prog = true := by kernel_rfl
theorem o22 {H : Type} {enc : TypeId × Value → H} {W : World} : Opens enc Tryd.prog W 22 [.i .u16] :=
  opens_int Tryd.underlying22
set_option maxRecDepth 100000 in
theorem opened {H : Type} {enc : TypeId × Value → H} {W : World} : ArgsData enc Tryd.prog W Tryd.f8 8 := by
  refine args1 (rfl : Tryd.f8.params = #[22]) ?_
  intro v0 e0 p0 base hv0 ht0 hw0
  obtain ⟨n0, w0, r0⟩ := arg_int Tryd.underlying22 hv0 ht0
  refine ⟨[_], ⟨r0, trivial⟩, ?_⟩
  have h0 := Int.toNat_of_nonneg (bounds_u16 w0).1
  have g0 := (bounds_u16 w0).2
  rw [← h0]
  exact l_CountDirichlet _ (by omega)

abbrev laidL : List (String × DataW Unit) := [("algorist/modular.signs", Rows.laid_algorist_modular_signs)]
set_option maxRecDepth 100000 in
theorem door_met (os : Os) (args : Array Value) : laidMetH Tryd.prog laidL ((World.doorLaid Tryd.prog 400 os).forCall (fun _ _ => 0) ⟨#[], args, []⟩).memory :=
  laidMetH_of_parts3 (fuel := 8) (laidMet_of_run' 8 (by kernel_rfl) (by kernel_rfl)) (by kernel_rfl) (by kernel_rfl)
theorem glob_ok (W : World) (h : laidMetH Tryd.prog laidL W) : GlOK (wh W) := by
  have hh := laid_ints (P := Tryd.prog) (W := W) (n := "algorist/modular.signs") (g := 0) (k := .i64) (xs := [0, 1, 0, -1, 0, -1, 0, 1]) (ty := 88) (e := 3) h (MakeChecks.laidMetH_plain _ _ _ (by kernel_rfl)) (by kernel_rfl) (by kernel_rfl) Tryd.underlying88 Tryd.underlying3 (by kernel_rfl)
  intro p hp
  simp only [glist, List.mem_cons, List.not_mem_nil, or_false] at hp
  subst hp
  exact hh

set_option maxRecDepth 100000 in
theorem lifted (os : Os) (started : os.Started) (H : Type) (enc : TypeId × Value → H) :
    ReturnsInHanded {} Tryd.checked os 8 .any (fun w args => (Rows.countDirichletSpec.pre enc Tryd.prog Tryd.f8 [] false w args ∧ laidMetH Tryd.prog laidL w) ∧ sizedMet enc Tryd.prog Tryd.f8 (OpenSpec.ofChange Rows.countDirichletSpec) false w args) (Rows.countDirichletSpec.post enc Tryd.prog Tryd.f8 false true false false) :=
  law_row_laid (C := Tryd.checked) own started (by kernel_rfl) Tryd.func8
    (ChangeSpec.witness_shaped (enc := enc) (C := Tryd.checked) (os := os) (X := fun w _ => laidMetH Tryd.prog laidL w) false (World.doorLaid Tryd.prog 400 os) #[.int .u16 0] 24 rfl (World.shaped_of_RefB (by kernel_rfl) (by kernel_rfl)) (by kernel_rfl) (by kernel_rfl) (by kernel_rfl) (door_met os _))
    lo (fun t ht => by
      have e : Tryd.f8.params.toList = [22] := rfl
      rw [e] at ht
      simp only [List.mem_cons, List.not_mem_nil, or_false] at ht
      subst ht 
      exact ⟨by kernel_rfl, Nat.le_of_ble_eq_true (by kernel_rfl)⟩)
    rfl (fun ds hd => by
      have e : ds.length = 1 := hd
      match ds, e with
      | [x0], _ => exact ⟨rfl, rfl, rfl⟩)
    rfl Tryd.underlying4 (fun W => opened) glob_ok

theorem over : Rows.countDirichletRow.holds Tryd.pinned (OpenSpec.ofChange Rows.countDirichletSpec) :=
  OpenClaim.holds_of_wide 8 Tryd.f8 rfl rfl rfl rfl rfl rfl rfl ⟨rfl, rfl, rfl, rfl, rfl⟩ rfl rfl rfl rfl rfl (by kernel_rfl) Tryd.func8 (by kernel_rfl)
    (of_decide_eq_true (by kernel_rfl)) (by unfold Func.isWrapper; first | (rw [if_pos (by decide +kernel)]; kernel_rfl) | (rw [if_neg (by decide +kernel)]; exact ⟨rfl, rfl⟩))
    (fun os started H enc _ => lifted os started H enc)

theorem row_proved : Rows.CountDirichletSaid := over

theorem proved : Rows.CountDirichletCardSaid :=
  Claim7.holds_tied_plain_at .later [] [.data] true (true, "4b7c0a518a4d789cebb104cf870566f82ccc4300e3a3677923114b2bb8c739b5") false
    row_proved (fun _ h => by cases h) (by kernel_rfl) (fun _ h => by cases h) countDirichlet_row_tie rfl ⟨rfl, rfl⟩ (by kernel_rfl) rfl
    (fun f fn hf hfn => by
      obtain rfl : f = 8 := Option.some.inj ((show Tryd.prog.funcNamed Rows.countDirichletRow.func = some 8 by kernel_rfl).symm.trans hf) |>.symm
      obtain rfl : fn = Tryd.f8 := (Option.some.inj (Tryd.func8.symm.trans hfn)).symm
      exact ⟨by kernel_rfl, fun j t ht => by
        have hm : t ∈ [22] := by simpa using Array.mem_of_getElem? ht
        have hall : ([22].all fun u => !Tryd.prog.wantsStandIn u) = true := by kernel_rfl
        exact (show Tryd.prog.wantsStandIn t = false by simpa using List.all_eq_true.1 hall t hm)⟩)
    (by kernel_rfl)
end Go.Proofs.YtkdfinfdocdpoaaDoor.countDirichlet
end
