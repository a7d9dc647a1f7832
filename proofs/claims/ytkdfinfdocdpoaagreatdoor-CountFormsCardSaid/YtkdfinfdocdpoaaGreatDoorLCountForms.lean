/- Texts merged by program, in build order. -/
import Derived.Test.YtkdfinfdocdpoaaGreatDoorMT
import Derived.Test.YtkdfinfdocdpoaaGreatDoorMJ
import Derived.Test.YtkdfinfdocdpoaaGreatDoorMC
import Derived.Test.YtkdfinfdocdpoaaGreatDoorRows
import Derived.Test.YtkdfinfdocdpoaaGreatDoorTie
import Derived.Test.YtkdfinfdocdpoaaGreatDoorCards
section
/- chapter 11: CountForms -/
namespace Go.Proofs.YtkdfinfdocdpoaaGreatDoor
open Go Go.AM

/- algorist/algoristref08.Less -/
set_option maxHeartbeats 1000000 in
set_option maxRecDepth 100000 in
theorem r8_Less (a b c p q r : Int) (h : a < p ∨ a = p ∧ b < q) :
    Call0 Tryz.prog 24 [FA a b c, FA p q r] (B true) := by
  refine callM_of (np := 0) Tryz.func24 (by kernel_rfl) rfl rfl (Nat.le_of_ble_eq_true rfl) (fun m h => absurd rfl h) (fun m h => absurd rfl h) rfl ?_
  refine AWp_seq ?_
  refine AWp_region hP ?_
  refine RK.alc guard_none (op_box rfl rfl) ?_
  refine RK.alc guard_none (op_box rfl rfl) ?_
  refine RK.val guard_none (op_assign (rfl : _ = AV.p (.c _))) ?_
  refine RK.done (by kernel_rfl) ?_
  refine AWp_seq ?_
  refine AWp_region hP ?_
  refine RK.val guard_none (op_field_loc hT rfl rfl rfl rfl rfl rfl) ?_
  refine RK.val guard_none (op_load_agg hT rfl rfl rfl rfl (cs := [_, _]) rfl rfl) ?_
  refine RK.val guard_none (op_field_loc hT rfl rfl rfl rfl rfl rfl) ?_
  refine RK.val guard_none (op_load_agg hT rfl rfl rfl rfl (cs := [_, _]) rfl rfl) ?_
  refine RK.val guard_none (Eff.call0 (r_Cmp _ _)) ?_
  refine RK.val guard_none (op_field_loc hT rfl rfl rfl rfl rfl rfl) ?_
  refine RK.val guard_none (op_load_agg hT rfl rfl rfl rfl (cs := [_, _]) rfl rfl) ?_
  refine RK.val guard_none (op_field_loc hT rfl rfl rfl rfl rfl rfl) ?_
  refine RK.val guard_none (op_load_agg hT rfl rfl rfl rfl (cs := [_, _]) rfl rfl) ?_
  refine RK.val guard_none (Eff.call0 (r_Cmp _ _)) ?_
  refine RK.val guard_none (op_assign (rfl : _ = AV.p (.c _))) ?_
  refine RK.val guard_none (op_assign (rfl : _ = AV.p (.c _))) ?_
  refine RK.done (by kernel_rfl) ?_
  refine AWp_seq ?_
  refine AWp_region hP ?_
  refine RK.val guard_none (op_move (rfl : _ = AV.p (.c _))) ?_
  refine RK.val guard_none (op_lss rfl rfl) ?_
  refine RK.val guard_none (op_move (rfl : _ = AV.p (.c _))) ?_
  refine RK.split (t := 19) rfl (fun hg1 => ?_) (fun hg1 => ?_)
  · have hg1_ := of_decide_eq_true hg1
    refine RK.skip (guard_no rfl rfl hg1) ?_
    refine RK.skip (guard_no rfl rfl hg1) ?_
    refine RK.skip (guard_no rfl rfl hg1) ?_
    refine RK.skip (guard_sk rfl rfl) ?_
    refine RK.skip (guard_sk rfl rfl) ?_
    refine RK.skip (guard_sk rfl rfl) ?_
    refine RK.skip (guard_sk rfl rfl) ?_
    refine RK.skip (guard_sk rfl rfl) ?_
    refine RK.skip (guard_sk rfl rfl) ?_
    refine RK.skip (guard_sk rfl rfl) ?_
    refine RK.skip (guard_sk rfl rfl) ?_
    refine RK.skip (guard_sk rfl rfl) ?_
    refine RK.skip (guard_sk rfl rfl) ?_
    refine RK.skip (guard_sk rfl rfl) ?_
    refine RK.skip (guard_sk rfl rfl) ?_
    refine RK.skip (guard_sk rfl rfl) ?_
    refine RK.skip (guard_sk rfl rfl) ?_
    refine RK.skip (guard_no rfl rfl hg1) ?_
    refine RK.val guard_none (op_pick_t rfl hg1 (rfl : _ = AV.p (.c _))) ?_
    refine RK.val guard_none (op_assign (rfl : _ = AV.p (.c _))) ?_
    refine RK.done (by kernel_rfl) ?_
    refine AWp_ret ?_
    refine ends_one rfl (.inr rfl) (res_tmp rfl) ?_ O_ends
    exact .refl _
  · have hg1_ := of_decide_eq_false hg1
    refine RK.val (guard_yes rfl rfl hg1) (op_move (rfl : _ = AV.p (.c _))) ?_
    refine RK.val (guard_yes rfl rfl hg1) (op_eql rfl rfl) ?_
    refine RK.val (guard_yes rfl rfl hg1) (op_move (rfl : _ = AV.p (.c _))) ?_
    refine RK.val (guard_yes rfl rfl (ls22 h hg1)) (op_move (rfl : _ = AV.p (.c _))) ?_
    refine RK.val (guard_yes rfl rfl (ls22 h hg1)) (op_lss rfl rfl) ?_
    refine RK.val (guard_yes rfl rfl (ls22 h hg1)) (op_move (rfl : _ = AV.p (.c _))) ?_
    refine RK.skip (guard_no rfl rfl (ls25 h hg1)) ?_
    refine RK.skip (guard_no rfl rfl (ls25 h hg1)) ?_
    refine RK.skip (guard_no rfl rfl (ls25 h hg1)) ?_
    refine RK.skip (guard_sk rfl rfl) ?_
    refine RK.skip (guard_sk rfl rfl) ?_
    refine RK.skip (guard_sk rfl rfl) ?_
    refine RK.skip (guard_sk rfl rfl) ?_
    refine RK.skip (guard_sk rfl rfl) ?_
    refine RK.skip (guard_sk rfl rfl) ?_
    refine RK.skip (guard_no rfl rfl (ls25 h hg1)) ?_
    refine RK.val (guard_yes rfl rfl (ls22 h hg1)) (op_pick_t rfl (ls25 h hg1) (rfl : _ = AV.p (.c _))) ?_
    refine RK.val (guard_yes rfl rfl hg1) (op_pick_t rfl (ls22 h hg1) (rfl : _ = AV.p (.c _))) ?_
    refine RK.val guard_none (op_pick_f rfl hg1 (rfl : _ = AV.p (.c _))) ?_
    refine RK.val guard_none (op_assign (rfl : _ = AV.p (.c _))) ?_
    refine RK.done (by kernel_rfl) ?_
    refine AWp_ret ?_
    refine ends_one rfl (.inr rfl) (res_tmp rfl) ?_ O_ends
    exact .refl _

/- algorist/algoristref11.Primitive -/
set_option maxHeartbeats 1000000 in
set_option maxRecDepth 100000 in
theorem r11_Primitive (l : List Fm) (hl : (l.length : Int) ≤ 10000000) (hb : ∀ f ∈ l, (0 < f.a ∧ f.a ≤ 2000) ∧ (-2000 ≤ f.b ∧ f.b ≤ 2000) ∧ 0 < f.c ∧ f.c ≤ 10000000) :
    Call0 Tryz.prog 25 [.p (.c (FS l))] (.p (.c (FS (l.filter prG)))) := by
  refine callM_of (np := 0) Tryz.func25 (by kernel_rfl) rfl rfl (Nat.le_of_ble_eq_true rfl) (fun m h => absurd rfl h) (fun m h => absurd rfl h) rfl ?_
  refine AWp_seq ?_
  refine AWp_region hP ?_
  refine RK.val guard_none (op_assign (rfl : _ = AV.p (.c _))) ?_
  refine RK.done (by kernel_rfl) ?_
  refine AWp_seq ?_
  refine AWp_region hP ?_
  refine RK.alc guard_none (op_bslice_vec hT rfl rfl rfl (es := []) rfl rfl rfl) ?_
  refine RK.val guard_none (op_assign (rfl : _ = AV.vec _)) ?_
  refine RK.done (by kernel_rfl) ?_
  refine AWp_rn 5 1000 rfl rfl rfl ?_
  refine AWp_seq ?_
  refine AWp_seq ?_
  refine AWp_region hP ?_
  refine RK.val guard_none (op_assign (rfl : _ = AV.p (.c _))) ?_
  refine RK.done (by kernel_rfl) ?_
  refine AWp_block ?_
  refine AWp_loop (ι := Nat) (fun k => stL [(0, .p (.c (FS l))), (3, .vec 1000), (4, Z (k : Int))] [(1000, FB 49 (fK l k))]) (fun k => k ≤ l.length) (fun k => l.length - k) 0 (Nat.zero_le _) (le_stL ⟨.refl _, .refl _, .refl _, trivial⟩ ⟨rfl, trivial⟩) ?_
  intro k hk
  refine AWp_seq ?_
  refine AWp_seq ?_
  refine AWp_region hP ?_
  refine RK.val guard_none (op_move (rfl : _ = AV.p (.c _))) ?_
  refine RK.val guard_none (op_move (rfl : _ = AV.p (.c _))) ?_
  refine RK.val guard_none (op_len hT rfl rfl rfl (by rfl)) ?_
  refine RK.val guard_none (op_lss rfl rfl) ?_
  refine RK.done (by kernel_rfl) ?_
  refine AWp_cond rfl (fun hb1 => ?_) (fun hb1 => ?_)
  · have hb1_ := of_decide_eq_true hb1
    obtain ⟨⟨b1, b2⟩, ⟨b3, b4⟩, b5, b6⟩ := hb _ (getD_mem hb1_)
    have ia : LB (l.getD k ⟨0, 0, 0⟩).a 6 := ⟨by unfold L; omega⟩
    have ib : LB (l.getD k ⟨0, 0, 0⟩).b 6 := ⟨by unfold L; omega⟩
    have ic : LB (l.getD k ⟨0, 0, 0⟩).c 6 := ⟨by unfold L; omega⟩
    refine AWp_skip ?_
    refine AWp_seq ?_
    refine AWp_block ?_
    refine AWp_seq ?_
    refine AWp_region hP ?_
    refine RK.val guard_none (op_move (rfl : _ = AV.p (.c _))) ?_
    refine RK.val guard_none (op_move (rfl : _ = AV.p (.c _))) ?_
    refine RK.val guard_none (op_indexF hT rfl rfl rfl rfl rfl rfl (by omega)) ?_
    refine RK.val guard_none (op_load_ip_agg hT rfl rfl rfl (cs := FC (l.getD k ⟨0, 0, 0⟩)) rfl rfl) ?_
    refine RK.val guard_none (Eff.call0 (r8_Primitive _ _ _ lz lz lz)) ?_
    refine RK.done (by kernel_rfl) ?_
    refine AWp_cond rfl (fun hb2 => ?_) (fun hb2 => ?_)
    · refine AWp_region hP ?_
      refine RK.val guard_none (op_move (rfl : _ = AV.vec _)) ?_
      refine RK.val guard_none (op_move (rfl : _ = AV.p (.c _))) ?_
      refine RK.val guard_none (op_move (rfl : _ = AV.p (.c _))) ?_
      refine RK.val guard_none (op_indexF hT rfl rfl rfl rfl rfl rfl (by omega)) ?_
      refine RK.val guard_none (op_load_ip_agg hT rfl rfl rfl (cs := FC (l.getD k ⟨0, 0, 0⟩)) rfl rfl) ?_
      refine RK.val guard_none (op_bslice hT rfl rfl rfl (es := [_, _, _, _, _, _]) rfl rfl rfl) ?_
      refine RK.app guard_none (op_appendF hT rfl rfl rfl rfl rfl rfl rfl (f := l.getD k ⟨0, 0, 0⟩) rfl (by have := fK_len (l := l) (k := k); omega) (by decide)) ?_
      refine RK.val guard_none (op_assign (rfl : _ = AV.vec _)) ?_
      refine RK.done (by kernel_rfl) ?_
      refine AWp_rn 23 1000 rfl rfl rfl ?_
      refine AWp_region hP ?_
      refine RK.val guard_none (op_move (rfl : _ = AV.p (.c _))) ?_
      refine RK.val guard_none (op_add rfl rfl (by first | exact IntWalk.i64_in _ (by omega) | rfl)) ?_
      refine RK.val guard_none (op_assign (rfl : _ = AV.p (.c _))) ?_
      refine RK.done (by kernel_rfl) ?_
      refine ⟨k + 1, by omega, by omega, le_stL ⟨.refl _, .refl _, Sub.int (by omega), trivial⟩ ⟨Eq.trans rfl (congrArg (fun x => some (FB 49 x)) (fK_yes (by omega) hb2)), trivial⟩⟩
    · refine AWp_skip ?_
      refine AWp_region hP ?_
      refine RK.val guard_none (op_move (rfl : _ = AV.p (.c _))) ?_
      refine RK.val guard_none (op_add rfl rfl (by first | exact IntWalk.i64_in _ (by omega) | rfl)) ?_
      refine RK.val guard_none (op_assign (rfl : _ = AV.p (.c _))) ?_
      refine RK.done (by kernel_rfl) ?_
      refine ⟨k + 1, by omega, by omega, le_stL ⟨.refl _, .refl _, Sub.int (by omega), trivial⟩ ⟨Eq.trans rfl (congrArg (fun x => some (FB 49 x)) (fK_no (by omega) hb2)), trivial⟩⟩
  · have hb1_ := of_decide_eq_false hb1
    refine AWp_exit ?_
    refine AWp_seq ?_
    refine AWp_region hP ?_
    refine RK.val guard_none (op_move (rfl : _ = AV.vec _)) ?_
    refine RK.val guard_none (op_assign (rfl : _ = AV.vec _)) ?_
    refine RK.done (by kernel_rfl) ?_
    refine AWp_freezeF (t := 2) rfl rfl ?_
    refine AWp_ret ?_
    refine ends_one rfl (.inr rfl) (res_tmp rfl) ?_ O_ends
    exact Sub.of_eq (by rw [fK_end (by omega)])

/- algorist/algoristlaw11.CountForms -/
set_option maxHeartbeats 8000000 in
set_option maxRecDepth 100000 in
theorem l_CountForms (D : Nat) (hD : D < 65536) :
    Call0 Tryz.prog 4 [.p (.c (.v (.int .u16 (D : Int))))] (B true) := by
  obtain ⟨s1, s2, s3, s4, s5⟩ := szz_spec D
  have cD := r11_Disc D hD
  generalize szz D = n at cD s1 s2 s3 s4 s5
  have hD0 : isD n = true := isD_iff.2 ⟨by omega, s4⟩
  have cA : Call0 Tryz.prog 12 [I (-n)] (.t [.c (FS (LW n (fun _ => true))), PE 0]) := by
    have h := c_All (-n) (by omega)
    rw [szE_isD hD0 (by omega), if_pos rfl, Int.neg_neg] at h
    exact h
  have cR : Call0 Tryz.prog 10 [I (-n)] (.t [.c (FS (LW n prG)), PE 0]) := by
    have h := c_Reduced (-n) (by omega)
    rw [szE_isD hD0 (by omega), if_pos rfl, Int.neg_neg] at h
    exact h
  have cC := c_Class (-n) (by omega)
  rw [szE_isD hD0 (by omega), clE_isD hD0 (by omega), cls_LW] at cC
  have hcl := cls_pos hD0 (by omega)
  rw [cls_LW] at hcl
  have hlA := LW_len n (fun _ => true)
  have hlP := LW_len n prG
  have hfil := LW_filter n
  have hso := LW_ltG n (fun _ => true)
  have hbd := fun (f : Fm) (hf : f ∈ LW n (fun _ => true)) => LW_bound hf (show n ≤ 4194304 by omega)
  have hfa := fun (f : Fm) (hf : f ∈ LW n (fun _ => true)) => LW_facts (show n ≤ 4194304 by omega) hf
  generalize LW n prG = lP at cR cC hcl hlP hfil
  generalize LW n (fun _ => true) = lA at cA hlA hfil hso hbd hfa
  have cP := r11_Primitive lA (by omega) hbd
  rw [hfil] at cP
  have cS := r11_Same lP lP (by omega)
  refine callM_of (np := 0) Tryz.func4 (by kernel_rfl) rfl rfl (Nat.le_of_ble_eq_true rfl) (fun m h => absurd rfl h) (fun m h => absurd rfl h) rfl ?_
  refine AWp_seq ?_
  refine AWp_region hP ?_
  refine RK.val guard_none (op_assign (rfl : _ = AV.p (.c _))) ?_
  refine RK.done (by kernel_rfl) ?_
  refine AWp_seq ?_
  refine AWp_region hP ?_
  refine RK.val guard_none (Eff.call0 l_examples) ?_
  refine RK.val guard_none (op_assign (rfl : _ = AV.p (.c _))) ?_
  refine RK.done (by kernel_rfl) ?_
  refine AWp_seq ?_
  refine AWp_seq ?_
  refine AWp_region hP ?_
  refine RK.val guard_none (op_move (rfl : _ = AV.p (.c _))) ?_
  refine RK.val guard_none (op_unot rfl) ?_
  refine RK.done (by kernel_rfl) ?_
  refine AWp_cond_false rfl rfl ?_
  refine AWp_skip ?_
  refine AWp_seq ?_
  refine AWp_region hP ?_
  refine RK.val guard_none (op_move (rfl : _ = AV.p (.c _))) ?_
  refine RK.val guard_none (Eff.call0 cD) ?_
  refine RK.alc guard_none (op_alloc hT rfl rfl) ?_
  refine RK.sto guard_none (op_store hT rfl rfl rfl rfl rfl rfl (cs := [_, _]) rfl) ?_
  refine RK.done (by kernel_rfl) ?_
  refine AWp_seq ?_
  refine AWp_region hP ?_
  refine RK.val guard_none (op_load_agg hT rfl rfl rfl rfl (cs := [_, _]) rfl rfl) ?_
  refine RK.val guard_none (Eff.call0 cA) ?_
  refine RK.val guard_none (op_move (rfl : _ = AV.t _)) ?_
  refine RK.val guard_none (op_extract rfl (v := .c _) rfl) ?_
  refine RK.val guard_none (op_extract rfl (v := .c _) rfl) ?_
  refine RK.val guard_none (op_assign (rfl : _ = AV.p (.c _))) ?_
  refine RK.val guard_none (op_assign (rfl : _ = AV.p (.c _))) ?_
  refine RK.done (by kernel_rfl) ?_
  refine AWp_seq ?_
  refine AWp_region hP ?_
  refine RK.val guard_none (op_load_agg hT rfl rfl rfl rfl (cs := [_, _]) rfl rfl) ?_
  refine RK.val guard_none (Eff.call0 cR) ?_
  refine RK.val guard_none (op_move (rfl : _ = AV.t _)) ?_
  refine RK.val guard_none (op_extract rfl (v := .c _) rfl) ?_
  refine RK.val guard_none (op_extract rfl (v := .c _) rfl) ?_
  refine RK.val guard_none (op_assign (rfl : _ = AV.p (.c _))) ?_
  refine RK.val guard_none (op_assign (rfl : _ = AV.p (.c _))) ?_
  refine RK.done (by kernel_rfl) ?_
  refine AWp_seq ?_
  refine AWp_region hP ?_
  refine RK.val guard_none (op_load_agg hT rfl rfl rfl rfl (cs := [_, _]) rfl rfl) ?_
  refine RK.val guard_none (Eff.call0 cC) ?_
  refine RK.val guard_none (op_move (rfl : _ = AV.t _)) ?_
  refine RK.val guard_none (op_extract rfl (v := .c _) rfl) ?_
  refine RK.val guard_none (op_extract rfl (v := .c _) rfl) ?_
  refine RK.val guard_none (op_assign (rfl : _ = AV.p (.c _))) ?_
  refine RK.val guard_none (op_assign (rfl : _ = AV.p (.c _))) ?_
  refine RK.done (by kernel_rfl) ?_
  refine AWp_seq ?_
  refine AWp_seq ?_
  refine AWp_region hP ?_
  refine RK.val guard_none (op_move (rfl : _ = AV.p (.c _))) ?_
  refine RK.val guard_none (op_neq rfl rfl) ?_
  refine RK.val guard_none (op_move (rfl : _ = AV.p (.c _))) ?_
  refine RK.val (guard_yes rfl rfl rfl) (op_move (rfl : _ = AV.p (.c _))) ?_
  refine RK.val (guard_yes rfl rfl rfl) (op_neq rfl rfl) ?_
  refine RK.val guard_none (op_pick_f rfl rfl (rfl : _ = AV.p (.c _))) ?_
  refine RK.val guard_none (op_move (rfl : _ = AV.p (.c _))) ?_
  refine RK.val (guard_yes rfl rfl rfl) (op_move (rfl : _ = AV.p (.c _))) ?_
  refine RK.val (guard_yes rfl rfl rfl) (op_neq rfl rfl) ?_
  refine RK.val guard_none (op_pick_f rfl rfl (rfl : _ = AV.p (.c _))) ?_
  refine RK.val guard_none (op_move (rfl : _ = AV.p (.c _))) ?_
  refine RK.val (guard_yes rfl rfl rfl) (op_move (rfl : _ = AV.p (.c _))) ?_
  refine RK.val (guard_yes rfl rfl rfl) (op_move (rfl : _ = AV.p (.c _))) ?_
  refine RK.val (guard_yes rfl rfl rfl) (op_len hT rfl rfl rfl (by rfl)) ?_
  refine RK.val (guard_yes rfl rfl rfl) (op_neq rfl rfl) ?_
  refine RK.val guard_none (op_pick_f rfl rfl (rfl : _ = AV.p (.c _))) ?_
  refine RK.val guard_none (op_move (rfl : _ = AV.p (.c _))) ?_
  refine RK.val (guard_yes rfl rfl (by simp)) (op_move (rfl : _ = AV.p (.c _))) ?_
  refine RK.val (guard_yes rfl rfl (by simp)) (op_lss rfl rfl) ?_
  refine RK.val guard_none (op_pick_f rfl (by simp) (rfl : _ = AV.p (.c _))) ?_
  refine RK.done (by kernel_rfl) ?_
  refine AWp_cond_false rfl (decide_eq_false (by omega)) ?_
  refine AWp_skip ?_
  refine AWp_seq ?_
  refine AWp_seq ?_
  refine AWp_region hP ?_
  refine RK.val guard_none (op_assign (rfl : _ = AV.p (.c _))) ?_
  refine RK.done (by kernel_rfl) ?_
  refine AWp_block ?_
  refine AWp_loop (ι := Nat) (fun k => stL [(3, .p (.c (.v (.bool true)))), (4, .loc 4 0), (5, .p (.c (FS lA))), (7, .p (.c (FS lP))), (11, Z (k : Int))] [(4, ⟨false, 1, 28, [zn (-n), zm (-n)]⟩)]) (fun k => k ≤ lA.length) (fun k => lA.length - k) 0 (Nat.zero_le _) (le_stL ⟨.refl _, .refl _, .refl _, .refl _, .refl _, trivial⟩ ⟨rfl, trivial⟩) ?_
  intro k hk
  refine AWp_seq ?_
  refine AWp_seq ?_
  refine AWp_region hP ?_
  refine RK.val guard_none (op_move (rfl : _ = AV.p (.c _))) ?_
  refine RK.val guard_none (op_move (rfl : _ = AV.p (.c _))) ?_
  refine RK.val guard_none (op_len hT rfl rfl rfl (by rfl)) ?_
  refine RK.val guard_none (op_lss rfl rfl) ?_
  refine RK.done (by kernel_rfl) ?_
  refine AWp_cond rfl (fun hb5 => ?_) (fun hb5 => ?_)
  · have hb5_ := of_decide_eq_true hb5
    have hmm := getD_mem (l := lA) (k := k) (by omega)
    obtain ⟨⟨b1, b2⟩, ⟨b3, b4⟩, b5, b6⟩ := hbd _ hmm
    have hr := (hfa _ hmm).1
    have hd := (hfa _ hmm).2
    have ia : LB (lA.getD k ⟨0, 0, 0⟩).a 6 := ⟨by unfold L; omega⟩
    have ib : LB (lA.getD k ⟨0, 0, 0⟩).b 6 := ⟨by unfold L; omega⟩
    have ic : LB (lA.getD k ⟨0, 0, 0⟩).c 6 := ⟨by unfold L; omega⟩
    refine AWp_skip ?_
    refine AWp_seq ?_
    refine AWp_block ?_
    refine AWp_seq ?_
    refine AWp_region hP ?_
    refine RK.val guard_none (op_move (rfl : _ = AV.p (.c _))) ?_
    refine RK.val guard_none (op_move (rfl : _ = AV.p (.c _))) ?_
    refine RK.val guard_none (op_indexF hT rfl rfl rfl rfl rfl rfl (by omega)) ?_
    refine RK.val guard_none (op_load_ip_agg hT rfl rfl rfl (cs := FC (lA.getD k ⟨0, 0, 0⟩)) rfl rfl) ?_
    refine RK.val guard_none (Eff.call0 (q_Reduced _ _ _ lz lz lz)) ?_
    refine RK.val guard_none (op_unot rfl) ?_
    refine RK.val guard_none (op_move (rfl : _ = AV.p (.c _))) ?_
    refine RK.val (guard_yes rfl rfl (congrArg not hr)) (op_move (rfl : _ = AV.p (.c _))) ?_
    refine RK.val (guard_yes rfl rfl (congrArg not hr)) (op_move (rfl : _ = AV.p (.c _))) ?_
    refine RK.val (guard_yes rfl rfl (congrArg not hr)) (op_indexF hT rfl rfl rfl rfl rfl rfl (by omega)) ?_
    refine RK.val (guard_yes rfl rfl (congrArg not hr)) (op_load_ip_agg hT rfl rfl rfl (cs := FC (lA.getD k ⟨0, 0, 0⟩)) rfl rfl) ?_
    refine RK.val (guard_yes rfl rfl (congrArg not hr)) (Eff.call0 (q_Disc _ _ _ lz lz lz)) ?_
    refine RK.val (guard_yes rfl rfl (congrArg not hr)) (op_load_agg hT rfl rfl rfl rfl (cs := [_, _]) rfl rfl) ?_
    refine RK.val (guard_yes rfl rfl (congrArg not hr)) (Eff.call0 (r_Same _ _)) ?_
    refine RK.val (guard_yes rfl rfl (congrArg not hr)) (op_unot rfl) ?_
    refine RK.val guard_none (op_pick_f rfl (congrArg not hr) (rfl : _ = AV.p (.c _))) ?_
    refine RK.val guard_none (op_move (rfl : _ = AV.p (.c _))) ?_
    refine RK.val (guard_yes rfl rfl (congrArg not (decide_eq_true hd))) (op_move (rfl : _ = AV.p (.c _))) ?_
    refine RK.val (guard_yes rfl rfl (congrArg not (decide_eq_true hd))) (op_gtr rfl rfl) ?_
    refine RK.val (guard_yes rfl rfl (congrArg not (decide_eq_true hd))) (op_move (rfl : _ = AV.p (.c _))) ?_
    refine RK.split (t := 77) rfl (fun hg8 => ?_) (fun hg8 => ?_)
    · have hg8_ := of_decide_eq_true hg8
      have hls := ls_prev hso (of_decide_eq_true hg8) (by omega)
      refine RK.val (guard_yes rfl rfl hg8) (op_move (rfl : _ = AV.p (.c _))) ?_
      refine RK.val (guard_yes rfl rfl hg8) (op_move (rfl : _ = AV.p (.c _))) ?_
      refine RK.val (guard_yes rfl rfl hg8) (op_sub rfl rfl (by first | exact IntWalk.i64_in _ (by omega) | rfl)) ?_
      refine RK.val (guard_yes rfl rfl hg8) (op_indexF hT rfl rfl rfl rfl rfl rfl (by omega)) ?_
      refine RK.val (guard_yes rfl rfl hg8) (op_load_ip_agg hT rfl rfl rfl (cs := FC (lA.getD ((k : Int) - 1).toNat ⟨0, 0, 0⟩)) rfl rfl) ?_
      refine RK.val (guard_yes rfl rfl hg8) (op_move (rfl : _ = AV.p (.c _))) ?_
      refine RK.val (guard_yes rfl rfl hg8) (op_move (rfl : _ = AV.p (.c _))) ?_
      refine RK.val (guard_yes rfl rfl hg8) (op_indexF hT rfl rfl rfl rfl rfl rfl (by omega)) ?_
      refine RK.val (guard_yes rfl rfl hg8) (op_load_ip_agg hT rfl rfl rfl (cs := FC (lA.getD k ⟨0, 0, 0⟩)) rfl rfl) ?_
      refine RK.val (guard_yes rfl rfl hg8) (Eff.call0 (r8_Less _ _ _ _ _ _ hls)) ?_
      refine RK.val (guard_yes rfl rfl hg8) (op_unot rfl) ?_
      refine RK.val (guard_yes rfl rfl (congrArg not (decide_eq_true hd))) (op_pick_t rfl hg8 (rfl : _ = AV.p (.c _))) ?_
      refine RK.val guard_none (op_pick_f rfl (congrArg not (decide_eq_true hd)) (rfl : _ = AV.p (.c _))) ?_
      refine RK.done (by kernel_rfl) ?_
      refine AWp_cond_false rfl rfl ?_
      refine AWp_skip ?_
      refine AWp_region hP ?_
      refine RK.val guard_none (op_move (rfl : _ = AV.p (.c _))) ?_
      refine RK.val guard_none (op_add rfl rfl (by first | exact IntWalk.i64_in _ (by omega) | rfl)) ?_
      refine RK.val guard_none (op_assign (rfl : _ = AV.p (.c _))) ?_
      refine RK.done (by kernel_rfl) ?_
      refine ⟨k + 1, by omega, by omega, le_stL ⟨.refl _, .refl _, .refl _, .refl _, Sub.int (by omega), trivial⟩ ⟨rfl, trivial⟩⟩
    · have hg8_ := of_decide_eq_false hg8
      refine RK.skip (guard_no rfl rfl hg8) ?_
      refine RK.skip (guard_no rfl rfl hg8) ?_
      refine RK.skip (guard_no rfl rfl hg8) ?_
      refine RK.skip (guard_no rfl rfl hg8) ?_
      refine RK.skip (guard_no rfl rfl hg8) ?_
      refine RK.skip (guard_no rfl rfl hg8) ?_
      refine RK.skip (guard_no rfl rfl hg8) ?_
      refine RK.skip (guard_no rfl rfl hg8) ?_
      refine RK.skip (guard_no rfl rfl hg8) ?_
      refine RK.skip (guard_no rfl rfl hg8) ?_
      refine RK.skip (guard_no rfl rfl hg8) ?_
      refine RK.val (guard_yes rfl rfl (congrArg not (decide_eq_true hd))) (op_pick_f rfl hg8 (rfl : _ = AV.p (.c _))) ?_
      refine RK.val guard_none (op_pick_f rfl (congrArg not (decide_eq_true hd)) (rfl : _ = AV.p (.c _))) ?_
      refine RK.done (by kernel_rfl) ?_
      refine AWp_cond_false rfl rfl ?_
      refine AWp_skip ?_
      refine AWp_region hP ?_
      refine RK.val guard_none (op_move (rfl : _ = AV.p (.c _))) ?_
      refine RK.val guard_none (op_add rfl rfl (by first | exact IntWalk.i64_in _ (by omega) | rfl)) ?_
      refine RK.val guard_none (op_assign (rfl : _ = AV.p (.c _))) ?_
      refine RK.done (by kernel_rfl) ?_
      refine ⟨k + 1, by omega, by omega, le_stL ⟨.refl _, .refl _, .refl _, .refl _, Sub.int (by omega), trivial⟩ ⟨rfl, trivial⟩⟩
  · have hb5_ := of_decide_eq_false hb5
    refine AWp_exit ?_
    refine AWp_seq ?_
    refine AWp_region hP ?_
    refine RK.val guard_none (op_move (rfl : _ = AV.p (.c _))) ?_
    refine RK.val guard_none (op_move (rfl : _ = AV.p (.c _))) ?_
    refine RK.val guard_none (Eff.call0 cP) ?_
    refine RK.val guard_none (Eff.call0 cS) ?_
    refine RK.val guard_none (op_move (rfl : _ = AV.p (.c _))) ?_
    refine RK.val (guard_yes rfl rfl (decide_eq_true rfl)) (op_move (rfl : _ = AV.p (.c _))) ?_
    refine RK.val guard_none (op_pick_t rfl (decide_eq_true rfl) (rfl : _ = AV.p (.c _))) ?_
    refine RK.val guard_none (op_assign (rfl : _ = AV.p (.c _))) ?_
    refine RK.done (by kernel_rfl) ?_
    refine AWp_ret ?_
    refine ends_one rfl (.inr rfl) (res_tmp rfl) ?_ O_ends
    exact .refl _

end Go.Proofs.YtkdfinfdocdpoaaGreatDoor
end

section
/- The law 'CountForms': for every input the call returns true and its arguments read as they did. No condition. -/
namespace Go.Proofs.YtkdfinfdocdpoaaGreatDoor.countForms
open Go Go.AM Go.RowKit

theorem own : ownKnob Tryz.prog.godebug = none := by kernel_rfl
theorem lo : laidOutB Tryz.prog = true := by kernel_rfl
theorem o22 {H : Type} {enc : TypeId × Value → H} {W : World} : Opens enc Tryz.prog W 22 [.i .u16] :=
  opens_int Tryz.underlying22
set_option maxRecDepth 100000 in
theorem opened {H : Type} {enc : TypeId × Value → H} {W : World} : ArgsData enc Tryz.prog W Tryz.f4 4 := by
  refine args1 (rfl : Tryz.f4.params = #[22]) ?_
  intro v0 e0 p0 base hv0 ht0 hw0
  obtain ⟨n0, w0, r0⟩ := arg_int Tryz.underlying22 hv0 ht0
  refine ⟨[_], ⟨r0, trivial⟩, ?_⟩
  have h0 := Int.toNat_of_nonneg (bounds_u16 w0).1
  have g0 := (bounds_u16 w0).2
  rw [← h0]
  exact l_CountForms _ (by omega)

abbrev laidL : List (String × DataW Unit) := [("algorist/modular.signs", Rows.laid_algorist_modular_signs)]
set_option maxRecDepth 100000 in
theorem door_met (os : Os) (args : Array Value) : laidMetH Tryz.prog laidL ((World.doorLaid Tryz.prog 400 os).forCall (fun _ _ => 0) ⟨#[], args, []⟩).memory :=
  laidMetH_of_parts3 (fuel := 8) (laidMet_of_run' 8 (by kernel_rfl) (by kernel_rfl)) (by kernel_rfl) (by kernel_rfl)
theorem glob_ok (W : World) (h : laidMetH Tryz.prog laidL W) : GlOK (wh W) := by
  have hh := laid_ints (P := Tryz.prog) (W := W) (n := "algorist/modular.signs") (g := 0) (k := .i64) (xs := [0, 1, 0, -1, 0, -1, 0, 1]) (ty := 126) (e := 3) h (MakeChecks.laidMetH_plain _ _ _ (by kernel_rfl)) (by kernel_rfl) (by kernel_rfl) Tryz.underlying126 Tryz.underlying3 (by kernel_rfl)
  intro p hp
  simp only [glist, List.mem_cons, List.not_mem_nil, or_false] at hp
  subst hp
  exact hh

set_option maxRecDepth 100000 in
theorem lifted (os : Os) (started : os.Started) (H : Type) (enc : TypeId × Value → H) :
    ReturnsInHanded {} Tryz.checked os 4 .any (fun w args => (Rows.countFormsSpec.pre enc Tryz.prog Tryz.f4 [] false w args ∧ laidMetH Tryz.prog laidL w) ∧ sizedMet enc Tryz.prog Tryz.f4 (OpenSpec.ofChange Rows.countFormsSpec) false w args) (Rows.countFormsSpec.post enc Tryz.prog Tryz.f4 false true false false) :=
  law_row_laid (C := Tryz.checked) own started (by kernel_rfl) Tryz.func4
    (ChangeSpec.witness_shaped (enc := enc) (C := Tryz.checked) (os := os) (X := fun w _ => laidMetH Tryz.prog laidL w) false (World.doorLaid Tryz.prog 400 os) #[.int .u16 0] 24 rfl (World.shaped_of_RefB (by kernel_rfl) (by kernel_rfl)) (by kernel_rfl) (by kernel_rfl) (by kernel_rfl) (door_met os _))
    lo (fun t ht => by
      have e : Tryz.f4.params.toList = [22] := rfl
      rw [e] at ht
      simp only [List.mem_cons, List.not_mem_nil, or_false] at ht
      subst ht 
      exact ⟨by kernel_rfl, Nat.le_of_ble_eq_true (by kernel_rfl)⟩)
    rfl (fun ds hd => by
      have e : ds.length = 1 := hd
      match ds, e with
      | [x0], _ => exact ⟨rfl, rfl, rfl⟩)
    rfl Tryz.underlying4 (fun W => opened) glob_ok

theorem over : Rows.countFormsRow.holds Tryz.pinned (OpenSpec.ofChange Rows.countFormsSpec) :=
  OpenClaim.holds_of_wide 4 Tryz.f4 rfl rfl rfl rfl rfl rfl rfl ⟨rfl, rfl, rfl, rfl, rfl⟩ rfl rfl rfl rfl rfl (by kernel_rfl) Tryz.func4 (by kernel_rfl)
    (of_decide_eq_true (by kernel_rfl)) (by unfold Func.isWrapper; first | (rw [if_pos (by decide +kernel)]; kernel_rfl) | (rw [if_neg (by decide +kernel)]; exact ⟨rfl, rfl⟩))
    (fun os started H enc _ => lifted os started H enc)

theorem row_proved : Rows.CountFormsSaid := over

theorem proved : Rows.CountFormsCardSaid :=
  Claim7.holds_tied_plain_at .later [] [.data] true (true, "d8ecb22db7dfc2a6c84aa14d15ec24665d4ba60cccecd55bad68200551081d3a") false
    row_proved (fun _ h => by cases h) (by kernel_rfl) (fun _ h => by cases h) countForms_row_tie rfl ⟨rfl, rfl⟩ (by kernel_rfl) rfl
    (fun f fn hf hfn => by
      obtain rfl : f = 4 := Option.some.inj ((show Tryz.prog.funcNamed Rows.countFormsRow.func = some 4 by kernel_rfl).symm.trans hf) |>.symm
      obtain rfl : fn = Tryz.f4 := (Option.some.inj (Tryz.func4.symm.trans hfn)).symm
      exact ⟨by kernel_rfl, fun j t ht => by
        have hm : t ∈ [22] := by simpa using Array.mem_of_getElem? ht
        have hall : ([22].all fun u => !Tryz.prog.wantsStandIn u) = true := by kernel_rfl
        exact (show Tryz.prog.wantsStandIn t = false by simpa using List.all_eq_true.1 hall t hm)⟩)
    (by kernel_rfl)
end Go.Proofs.YtkdfinfdocdpoaaGreatDoor.countForms
end
