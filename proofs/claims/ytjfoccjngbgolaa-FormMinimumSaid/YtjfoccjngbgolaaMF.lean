/- Texts merged by program, in build order. -/
import Derived.Test.YtjfoccjngbgolaaMT
import Derived.Test.YtjfoccjngbgolaaMB
import Derived.Test.YtjfoccjngbgolaaME

section
/- laws: examples, FormReduces -/
namespace Go.Proofs.Ytjfoccjngbgolaa
open Go Go.AM

/- algorist/algoristlaw08.examples -/
set_option maxHeartbeats 1000000 in
set_option maxRecDepth 100000 in
theorem l_examples  :
    Call0 Try.prog 9 [] (B true) := by
  have f51 : (rdE 10 34 29 != 0) = false := by decide +kernel
  have f55 : (rdE 2 1 3 != 0) = false := by decide +kernel
  have f59 : (prE (-23) != 0) = false := by decide +kernel
  have f63 : (prE (-20) != 0) = false := by decide +kernel
  have f67 : (prE 9 != 5) = false := by decide +kernel
  have f71 : (rdE 1 0 (-2) != 5) = false := by decide +kernel
  have f76 : (ck (-1) 0 (-1) != 1) = false := by decide +kernel
  have f80 : (ck 2 1 3 != 0) = false := by decide +kernel
  have f85 : decide (dsc 2 1 3 = -23) = true := by decide +kernel
  have f89 : rdd 2 1 3 = true := by decide +kernel
  have f94 : (!rdd 2 (-2) 3) = true := by decide +kernel
  have f99 : decide ((rdF 10 34 29).a = 1 ∧ (rdF 10 34 29).b = 0 ∧ (rdF 10 34 29).c = 1) = true := by decide +kernel
  have f105 : decide ((rdM 10 34 29).a * (rdM 10 34 29).d - (rdM 10 34 29).b * (rdM 10 34 29).c = 1) = true := by decide +kernel
  have f110 : decide ((rdF 2 (-1) 3).a = 2 ∧ (rdF 2 (-1) 3).b = -1 ∧ (rdF 2 (-1) 3).c = 3) = true := by decide +kernel
  have f115 : decide ((prF (-23)).a = 1 ∧ (prF (-23)).b = 1 ∧ (prF (-23)).c = 6) = true := by decide +kernel
  have f119 : decide ((prF (-20)).a = 1 ∧ (prF (-20)).b = 0 ∧ (prF (-20)).c = 5) = true := by decide +kernel
  refine callM_of (np := 0) Try.func9 (by kernel_rfl) rfl rfl (Nat.le_of_ble_eq_true rfl) (fun m h => absurd rfl h) (fun m h => absurd rfl h) rfl ?_
  refine AWp_seq ?_
  refine AWp_region hP ?_
  refine RK.val guard_none (op_assign (rfl : _ = AV.p (.c _))) ?_
  refine RK.done (by kernel_rfl) ?_
  refine AWp_seq ?_
  refine AWp_region hP ?_
  refine RK.val guard_none (Eff.call0 (r8_Of _ _ _ (by first | assumption | decide) (by first | assumption | decide) (by first | assumption | decide))) ?_
  refine RK.alc guard_none (op_alloc hT rfl rfl) ?_
  refine RK.sto guard_none (op_store hT rfl rfl rfl rfl rfl rfl (cs := [_, _, _, _, _, _]) rfl) ?_
  refine RK.done (by kernel_rfl) ?_
  refine AWp_seq ?_
  refine AWp_region hP ?_
  refine RK.val guard_none (Eff.call0 (r8_Of _ _ _ (by first | assumption | decide) (by first | assumption | decide) (by first | assumption | decide))) ?_
  refine RK.val guard_none (Eff.call0 (q_Reduce _ _ _ lz lz lz)) ?_
  refine RK.val guard_none (op_move (rfl : _ = AV.t _)) ?_
  refine RK.val guard_none (op_extract rfl (v := .a _) rfl) ?_
  refine RK.val guard_none (op_extract rfl (v := .a _) rfl) ?_
  refine RK.val guard_none (op_extract rfl (v := .c _) rfl) ?_
  refine RK.alc guard_none (op_alloc hT rfl rfl) ?_
  refine RK.alc guard_none (op_alloc hT rfl rfl) ?_
  refine RK.sto guard_none (op_store hT rfl rfl rfl rfl rfl rfl (cs := [_, _, _, _, _, _]) rfl) ?_
  refine RK.sto guard_none (op_store hT rfl rfl rfl rfl rfl rfl (cs := [_, _, _, _, _, _, _, _]) rfl) ?_
  refine RK.val guard_none (op_assign (rfl : _ = AV.p (.c _))) ?_
  refine RK.done (by kernel_rfl) ?_
  refine AWp_seq ?_
  refine AWp_region hP ?_
  refine RK.val guard_none (op_load_agg hT rfl rfl rfl rfl (cs := [_, _, _, _, _, _]) rfl rfl) ?_
  refine RK.val guard_none (Eff.call0 (q_Inverse _ _ _ lz lz lz)) ?_
  refine RK.val guard_none (op_move (rfl : _ = AV.t _)) ?_
  refine RK.val guard_none (op_extract rfl (v := .a _) rfl) ?_
  refine RK.val guard_none (op_extract rfl (v := .c _) rfl) ?_
  refine RK.alc guard_none (op_alloc hT rfl rfl) ?_
  refine RK.sto guard_none (op_store hT rfl rfl rfl rfl rfl rfl (cs := [_, _, _, _, _, _]) rfl) ?_
  refine RK.val guard_none (op_assign (rfl : _ = AV.p (.c _))) ?_
  refine RK.done (by kernel_rfl) ?_
  refine AWp_seq ?_
  refine AWp_region hP ?_
  refine RK.val guard_none (Eff.call0 (r_Of _ (by first | assumption | decide))) ?_
  refine RK.val guard_none (Eff.call0 (q_Principal _ lz)) ?_
  refine RK.val guard_none (op_move (rfl : _ = AV.t _)) ?_
  refine RK.val guard_none (op_extract rfl (v := .a _) rfl) ?_
  refine RK.val guard_none (op_extract rfl (v := .c _) rfl) ?_
  refine RK.alc guard_none (op_alloc hT rfl rfl) ?_
  refine RK.sto guard_none (op_store hT rfl rfl rfl rfl rfl rfl (cs := [_, _, _, _, _, _]) rfl) ?_
  refine RK.val guard_none (op_assign (rfl : _ = AV.p (.c _))) ?_
  refine RK.done (by kernel_rfl) ?_
  refine AWp_seq ?_
  refine AWp_region hP ?_
  refine RK.val guard_none (Eff.call0 (r_Of _ (by first | assumption | decide))) ?_
  refine RK.val guard_none (Eff.call0 (q_Principal _ lz)) ?_
  refine RK.val guard_none (op_move (rfl : _ = AV.t _)) ?_
  refine RK.val guard_none (op_extract rfl (v := .a _) rfl) ?_
  refine RK.val guard_none (op_extract rfl (v := .c _) rfl) ?_
  refine RK.alc guard_none (op_alloc hT rfl rfl) ?_
  refine RK.sto guard_none (op_store hT rfl rfl rfl rfl rfl rfl (cs := [_, _, _, _, _, _]) rfl) ?_
  refine RK.val guard_none (op_assign (rfl : _ = AV.p (.c _))) ?_
  refine RK.done (by kernel_rfl) ?_
  refine AWp_seq ?_
  refine AWp_region hP ?_
  refine RK.val guard_none (Eff.call0 (r_Of _ (by first | assumption | decide))) ?_
  refine RK.val guard_none (Eff.call0 (q_Principal _ lz)) ?_
  refine RK.val guard_none (op_move (rfl : _ = AV.t _)) ?_
  refine RK.val guard_none (op_extract rfl (v := .a _) rfl) ?_
  refine RK.val guard_none (op_extract rfl (v := .c _) rfl) ?_
  refine RK.alc guard_none (op_alloc hT rfl rfl) ?_
  refine RK.sto guard_none (op_store hT rfl rfl rfl rfl rfl rfl (cs := [_, _, _, _, _, _]) rfl) ?_
  refine RK.val guard_none (op_assign (rfl : _ = AV.p (.c _))) ?_
  refine RK.done (by kernel_rfl) ?_
  refine AWp_seq ?_
  refine AWp_region hP ?_
  refine RK.val guard_none (Eff.call0 (r8_Of _ _ _ (by first | assumption | decide) (by first | assumption | decide) (by first | assumption | decide))) ?_
  refine RK.val guard_none (Eff.call0 (q_Reduce _ _ _ lz lz lz)) ?_
  refine RK.val guard_none (op_move (rfl : _ = AV.t _)) ?_
  refine RK.val guard_none (op_extract rfl (v := .a _) rfl) ?_
  refine RK.val guard_none (op_extract rfl (v := .a _) rfl) ?_
  refine RK.val guard_none (op_extract rfl (v := .c _) rfl) ?_
  refine RK.alc guard_none (op_alloc hT rfl rfl) ?_
  refine RK.alc guard_none (op_alloc hT rfl rfl) ?_
  refine RK.sto guard_none (op_store hT rfl rfl rfl rfl rfl rfl (cs := [_, _, _, _, _, _]) rfl) ?_
  refine RK.sto guard_none (op_store hT rfl rfl rfl rfl rfl rfl (cs := [_, _, _, _, _, _, _, _]) rfl) ?_
  refine RK.val guard_none (op_assign (rfl : _ = AV.p (.c _))) ?_
  refine RK.done (by kernel_rfl) ?_
  refine AWp_seq ?_
  refine AWp_seq ?_
  refine AWp_region hP ?_
  refine RK.val guard_none (op_move (rfl : _ = AV.p (.c _))) ?_
  refine RK.val guard_none (op_neq rfl rfl) ?_
  refine RK.val guard_none (op_move (rfl : _ = AV.p (.c _))) ?_
  refine RK.val (guard_yes rfl rfl f51) (op_move (rfl : _ = AV.p (.c _))) ?_
  refine RK.val (guard_yes rfl rfl f51) (op_neq rfl rfl) ?_
  refine RK.val guard_none (op_pick_f rfl f51 (rfl : _ = AV.p (.c _))) ?_
  refine RK.val guard_none (op_move (rfl : _ = AV.p (.c _))) ?_
  refine RK.val (guard_yes rfl rfl f55) (op_move (rfl : _ = AV.p (.c _))) ?_
  refine RK.val (guard_yes rfl rfl f55) (op_neq rfl rfl) ?_
  refine RK.val guard_none (op_pick_f rfl f55 (rfl : _ = AV.p (.c _))) ?_
  refine RK.val guard_none (op_move (rfl : _ = AV.p (.c _))) ?_
  refine RK.val (guard_yes rfl rfl f59) (op_move (rfl : _ = AV.p (.c _))) ?_
  refine RK.val (guard_yes rfl rfl f59) (op_neq rfl rfl) ?_
  refine RK.val guard_none (op_pick_f rfl f59 (rfl : _ = AV.p (.c _))) ?_
  refine RK.val guard_none (op_move (rfl : _ = AV.p (.c _))) ?_
  refine RK.val (guard_yes rfl rfl f63) (op_move (rfl : _ = AV.p (.c _))) ?_
  refine RK.val (guard_yes rfl rfl f63) (op_neq rfl rfl) ?_
  refine RK.val guard_none (op_pick_f rfl f63 (rfl : _ = AV.p (.c _))) ?_
  refine RK.val guard_none (op_move (rfl : _ = AV.p (.c _))) ?_
  refine RK.val (guard_yes rfl rfl f67) (op_move (rfl : _ = AV.p (.c _))) ?_
  refine RK.val (guard_yes rfl rfl f67) (op_neq rfl rfl) ?_
  refine RK.val guard_none (op_pick_f rfl f67 (rfl : _ = AV.p (.c _))) ?_
  refine RK.val guard_none (op_move (rfl : _ = AV.p (.c _))) ?_
  refine RK.val (guard_yes rfl rfl f71) (Eff.call0 (r8_Of _ _ _ (by first | assumption | decide) (by first | assumption | decide) (by first | assumption | decide))) ?_
  refine RK.val (guard_yes rfl rfl f71) (Eff.call0 (q_Check _ _ _ lz lz lz)) ?_
  refine RK.val (guard_yes rfl rfl f71) (op_neq rfl rfl) ?_
  refine RK.val guard_none (op_pick_f rfl f71 (rfl : _ = AV.p (.c _))) ?_
  refine RK.val guard_none (op_move (rfl : _ = AV.p (.c _))) ?_
  refine RK.val (guard_yes rfl rfl f76) (op_load_agg hT rfl rfl rfl rfl (cs := [_, _, _, _, _, _]) rfl rfl) ?_
  refine RK.val (guard_yes rfl rfl f76) (Eff.call0 (q_Check _ _ _ lz lz lz)) ?_
  refine RK.val (guard_yes rfl rfl f76) (op_neq rfl rfl) ?_
  refine RK.val guard_none (op_pick_f rfl f76 (rfl : _ = AV.p (.c _))) ?_
  refine RK.done (by kernel_rfl) ?_
  refine AWp_cond_false rfl f80 ?_
  refine AWp_skip ?_
  refine AWp_seq ?_
  refine AWp_region hP ?_
  refine RK.val guard_none (op_load_agg hT rfl rfl rfl rfl (cs := [_, _, _, _, _, _]) rfl rfl) ?_
  refine RK.val guard_none (Eff.call0 (q_Disc _ _ _ lz lz lz)) ?_
  refine RK.val guard_none (Eff.call0 (r_Of _ (by first | assumption | decide))) ?_
  refine RK.val guard_none (Eff.call0 (r_Same _ _)) ?_
  refine RK.val guard_none (op_move (rfl : _ = AV.p (.c _))) ?_
  refine RK.val (guard_yes rfl rfl f85) (op_load_agg hT rfl rfl rfl rfl (cs := [_, _, _, _, _, _]) rfl rfl) ?_
  refine RK.val (guard_yes rfl rfl f85) (Eff.call0 (q_Reduced _ _ _ lz lz lz)) ?_
  refine RK.val guard_none (op_pick_t rfl f85 (rfl : _ = AV.p (.c _))) ?_
  refine RK.val guard_none (op_move (rfl : _ = AV.p (.c _))) ?_
  refine RK.val (guard_yes rfl rfl f89) (Eff.call0 (r8_Of _ _ _ (by first | assumption | decide) (by first | assumption | decide) (by first | assumption | decide))) ?_
  refine RK.val (guard_yes rfl rfl f89) (Eff.call0 (q_Reduced _ _ _ lz lz lz)) ?_
  refine RK.val (guard_yes rfl rfl f89) (op_unot rfl) ?_
  refine RK.val guard_none (op_pick_t rfl f89 (rfl : _ = AV.p (.c _))) ?_
  refine RK.val guard_none (op_move (rfl : _ = AV.p (.c _))) ?_
  refine RK.val (guard_yes rfl rfl f94) (op_load_agg hT rfl rfl rfl rfl (cs := [_, _, _, _, _, _]) rfl rfl) ?_
  refine RK.val (guard_yes rfl rfl f94) (Eff.call0 (r8_Of _ _ _ (by first | assumption | decide) (by first | assumption | decide) (by first | assumption | decide))) ?_
  refine RK.val (guard_yes rfl rfl f94) (Eff.call0 (r8_Equal _ _ _ _ _ _)) ?_
  refine RK.val guard_none (op_pick_t rfl f94 (rfl : _ = AV.p (.c _))) ?_
  refine RK.val guard_none (op_move (rfl : _ = AV.p (.c _))) ?_
  refine RK.val (guard_yes rfl rfl f99) (op_load_agg hT rfl rfl rfl rfl (cs := [_, _, _, _, _, _, _, _]) rfl rfl) ?_
  refine RK.val (guard_yes rfl rfl f99) (Eff.call0 (r8_Det _ _ _ _ lz lz lz lz)) ?_
  refine RK.val (guard_yes rfl rfl f99) (Eff.call0 (r_Of _ (by first | assumption | decide))) ?_
  refine RK.val (guard_yes rfl rfl f99) (Eff.call0 (r_Same _ _)) ?_
  refine RK.val guard_none (op_pick_t rfl f99 (rfl : _ = AV.p (.c _))) ?_
  refine RK.val guard_none (op_move (rfl : _ = AV.p (.c _))) ?_
  refine RK.val (guard_yes rfl rfl f105) (op_load_agg hT rfl rfl rfl rfl (cs := [_, _, _, _, _, _]) rfl rfl) ?_
  refine RK.val (guard_yes rfl rfl f105) (Eff.call0 (r8_Of _ _ _ (by first | assumption | decide) (by first | assumption | decide) (by first | assumption | decide))) ?_
  refine RK.val (guard_yes rfl rfl f105) (Eff.call0 (r8_Equal _ _ _ _ _ _)) ?_
  refine RK.val guard_none (op_pick_t rfl f105 (rfl : _ = AV.p (.c _))) ?_
  refine RK.val guard_none (op_move (rfl : _ = AV.p (.c _))) ?_
  refine RK.val (guard_yes rfl rfl f110) (op_load_agg hT rfl rfl rfl rfl (cs := [_, _, _, _, _, _]) rfl rfl) ?_
  refine RK.val (guard_yes rfl rfl f110) (Eff.call0 (r8_Of _ _ _ (by first | assumption | decide) (by first | assumption | decide) (by first | assumption | decide))) ?_
  refine RK.val (guard_yes rfl rfl f110) (Eff.call0 (r8_Equal _ _ _ _ _ _)) ?_
  refine RK.val guard_none (op_pick_t rfl f110 (rfl : _ = AV.p (.c _))) ?_
  refine RK.val guard_none (op_move (rfl : _ = AV.p (.c _))) ?_
  refine RK.val (guard_yes rfl rfl f115) (op_load_agg hT rfl rfl rfl rfl (cs := [_, _, _, _, _, _]) rfl rfl) ?_
  refine RK.val (guard_yes rfl rfl f115) (Eff.call0 (r8_Of _ _ _ (by first | assumption | decide) (by first | assumption | decide) (by first | assumption | decide))) ?_
  refine RK.val (guard_yes rfl rfl f115) (Eff.call0 (r8_Equal _ _ _ _ _ _)) ?_
  refine RK.val guard_none (op_pick_t rfl f115 (rfl : _ = AV.p (.c _))) ?_
  refine RK.val guard_none (op_assign (rfl : _ = AV.p (.c _))) ?_
  refine RK.done (by kernel_rfl) ?_
  refine AWp_ret ?_
  refine ends_one rfl (.inr rfl) (res_tmp rfl) ?_ O_ends
  exact Sub.bool f119

/- algorist/algoristlaw08.FormReduces -/
set_option maxHeartbeats 1000000 in
set_option maxRecDepth 100000 in
theorem l_FormReduces (n0 n1 n2 n3 n4 n5 n6 : Bool) (w0 w1 w2 w3 w4 w5 w6 : List Nat) (h0 : okW w0) (h1 : okW w1) (h2 : okW w2) (h3 : okW w3) (h4 : okW w4) (h5 : okW w5) (h6 : okW w6) :
    Call0 Try.prog 3 [.p (.a [.v (.bool n0), W w0, .v (.bool n1), W w1, .v (.bool n2), W w2, .v (.bool n3), W w3, .v (.bool n4), W w4, .v (.bool n5), W w5, .v (.bool n6), W w6])] (B true) := by
  have i0 : LB (md n0 w0) 6 := ⟨md_L h0⟩
  have i1 : LB (md n1 w1) 6 := ⟨md_L h1⟩
  have i2 : LB (md n2 w2) 6 := ⟨md_L h2⟩
  have i3 : LB (md n3 w3) 6 := ⟨md_L h3⟩
  have i4 : LB (md n4 w4) 6 := ⟨md_L h4⟩
  have i5 : LB (md n5 w5) 6 := ⟨md_L h5⟩
  have i6 : LB (md n6 w6) 6 := ⟨md_L h6⟩
  refine callM_of (np := 0) Try.func3 (by kernel_rfl) rfl rfl (Nat.le_of_ble_eq_true rfl) (fun m h => absurd rfl h) (fun m h => absurd rfl h) rfl ?_
  refine AWp_seq ?_
  refine AWp_region hP ?_
  refine RK.alc guard_none (op_box rfl rfl) ?_
  refine RK.val guard_none (op_assign (rfl : _ = AV.p (.c _))) ?_
  refine RK.done (by kernel_rfl) ?_
  refine AWp_seq ?_
  refine AWp_region hP ?_
  refine RK.val guard_none (Eff.call0 l_examples) ?_
  refine RK.val guard_none (op_assign (rfl : _ = AV.p (.c _))) ?_
  refine RK.done (by kernel_rfl) ?_
  refine AWp_seq ?_
  refine AWp_seq ?_
  refine AWp_region hP ?_
  refine RK.val guard_none (op_move (rfl : _ = AV.p (.c _))) ?_
  refine RK.val guard_none (op_unot rfl) ?_
  refine RK.done (by kernel_rfl) ?_
  refine AWp_cond_false rfl rfl ?_
  refine AWp_skip ?_
  refine AWp_seq ?_
  refine AWp_region hP ?_
  refine RK.val guard_none (op_load_agg hT rfl rfl rfl rfl (cs := [_, _, _, _, _, _, _, _, _, _, _, _, _, _]) rfl rfl) ?_
  refine RK.val guard_none (Eff.call0 (r8_Any n0 n1 n2 n3 n4 n5 n6 w0 w1 w2 w3 w4 w5 w6 h0 h1 h2 h3 h4 h5 h6)) ?_
  refine RK.alc guard_none (op_alloc hT rfl rfl) ?_
  refine RK.sto guard_none (op_store hT rfl rfl rfl rfl rfl rfl (cs := [_, _, _, _, _, _]) rfl) ?_
  refine RK.done (by kernel_rfl) ?_
  refine AWp_seq ?_
  refine AWp_region hP ?_
  refine RK.val guard_none (op_load_agg hT rfl rfl rfl rfl (cs := [_, _, _, _, _, _]) rfl rfl) ?_
  refine RK.val guard_none (Eff.call0 (q_Reduce _ _ _ lz lz lz)) ?_
  refine RK.val guard_none (op_move (rfl : _ = AV.t _)) ?_
  refine RK.val guard_none (op_extract rfl (v := .a _) rfl) ?_
  refine RK.val guard_none (op_extract rfl (v := .a _) rfl) ?_
  refine RK.val guard_none (op_extract rfl (v := .c _) rfl) ?_
  refine RK.alc guard_none (op_alloc hT rfl rfl) ?_
  refine RK.alc guard_none (op_alloc hT rfl rfl) ?_
  refine RK.sto guard_none (op_store hT rfl rfl rfl rfl rfl rfl (cs := [_, _, _, _, _, _]) rfl) ?_
  refine RK.sto guard_none (op_store hT rfl rfl rfl rfl rfl rfl (cs := [_, _, _, _, _, _, _, _]) rfl) ?_
  refine RK.val guard_none (op_assign (rfl : _ = AV.p (.c _))) ?_
  refine RK.done (by kernel_rfl) ?_
  refine AWp_seq ?_
  refine AWp_region hP ?_
  refine RK.val guard_none (op_load_agg hT rfl rfl rfl rfl (cs := [_, _, _, _, _, _]) rfl rfl) ?_
  refine RK.val guard_none (Eff.call0 (r8_Reduce _ _ _ lz lz lz)) ?_
  refine RK.val guard_none (op_move (rfl : _ = AV.t _)) ?_
  refine RK.val guard_none (op_extract rfl (v := .a _) rfl) ?_
  refine RK.val guard_none (op_extract rfl (v := .a _) rfl) ?_
  refine RK.val guard_none (op_extract rfl (v := .c _) rfl) ?_
  refine RK.alc guard_none (op_alloc hT rfl rfl) ?_
  refine RK.alc guard_none (op_alloc hT rfl rfl) ?_
  refine RK.sto guard_none (op_store hT rfl rfl rfl rfl rfl rfl (cs := [_, _, _, _, _, _]) rfl) ?_
  refine RK.sto guard_none (op_store hT rfl rfl rfl rfl rfl rfl (cs := [_, _, _, _, _, _, _, _]) rfl) ?_
  refine RK.val guard_none (op_assign (rfl : _ = AV.p (.c _))) ?_
  refine RK.done (by kernel_rfl) ?_
  refine AWp_seq ?_
  refine AWp_seq ?_
  refine AWp_region hP ?_
  refine RK.val guard_none (op_move (rfl : _ = AV.p (.c _))) ?_
  refine RK.val guard_none (op_move (rfl : _ = AV.p (.c _))) ?_
  refine RK.val guard_none (op_neq rfl rfl) ?_
  refine RK.val guard_none (op_move (rfl : _ = AV.p (.c _))) ?_
  refine RK.val (guard_yes rfl rfl (bne_self_eq_false _)) (op_load_agg hT rfl rfl rfl rfl (cs := [_, _, _, _, _, _]) rfl rfl) ?_
  refine RK.val (guard_yes rfl rfl (bne_self_eq_false _)) (op_load_agg hT rfl rfl rfl rfl (cs := [_, _, _, _, _, _]) rfl rfl) ?_
  refine RK.val (guard_yes rfl rfl (bne_self_eq_false _)) (Eff.call0 (r8_Equal _ _ _ _ _ _)) ?_
  refine RK.val (guard_yes rfl rfl (bne_self_eq_false _)) (op_unot rfl) ?_
  refine RK.val guard_none (op_pick_f rfl (bne_self_eq_false _) (rfl : _ = AV.p (.c _))) ?_
  refine RK.done (by kernel_rfl) ?_
  refine AWp_cond_false rfl (by simp) ?_
  refine AWp_skip ?_
  refine AWp_seq ?_
  refine AWp_seq ?_
  refine AWp_region hP ?_
  refine RK.val guard_none (op_move (rfl : _ = AV.p (.c _))) ?_
  refine RK.val guard_none (op_neq rfl rfl) ?_
  refine RK.done (by kernel_rfl) ?_
  refine AWp_cond rfl (fun hb2 => ?_) (fun hb2 => ?_)
  · have hb2_ := bneT hb2
    have hz := (rdF_zero hb2_).2
    refine AWp_seq ?_
    refine AWp_region hP ?_
    refine RK.val guard_none (op_load_agg hT rfl rfl rfl rfl (cs := [_, _, _, _, _, _, _, _]) rfl rfl) ?_
    refine RK.val guard_none (op_build_st hT rfl rfl rfl (es := [_, _, _, _, _, _, _, _]) rfl) ?_
    refine RK.val guard_none (Eff.call0 (l_sameMat _ _ _ _ _ _ _ _)) ?_
    refine RK.val guard_none (op_move (rfl : _ = AV.p (.c _))) ?_
    refine RK.val (guard_yes rfl rfl (decide_eq_true (by rw [hz]; exact ⟨rfl, rfl, rfl, rfl⟩))) (op_move (rfl : _ = AV.p (.c _))) ?_
    refine RK.val guard_none (op_pick_t rfl (decide_eq_true (by rw [hz]; exact ⟨rfl, rfl, rfl, rfl⟩)) (rfl : _ = AV.p (.c _))) ?_
    refine RK.val guard_none (op_assign (rfl : _ = AV.p (.c _))) ?_
    refine RK.done (by kernel_rfl) ?_
    refine AWp_ret ?_
    refine ends_one rfl (.inr rfl) (res_tmp rfl) ?_ O_ends
    exact .refl _
  · have hb2_ := bneF hb2
    have he : rdE (md n0 w0) (md n1 w1) (md n2 w2) = 0 := bneF hb2
    refine AWp_skip ?_
    refine AWp_seq ?_
    refine AWp_region hP ?_
    refine RK.val guard_none (op_load_agg hT rfl rfl rfl rfl (cs := [_, _, _, _, _, _]) rfl rfl) ?_
    refine RK.val guard_none (Eff.call0 (q_Reduced _ _ _ lz lz lz)) ?_
    refine RK.val guard_none (op_move (rfl : _ = AV.p (.c _))) ?_
    refine RK.val (guard_yes rfl rfl (rd_red he)) (op_load_agg hT rfl rfl rfl rfl (cs := [_, _, _, _, _, _]) rfl rfl) ?_
    refine RK.val (guard_yes rfl rfl (rd_red he)) (Eff.call0 (r8_Reduced _ _ _ lz lz lz)) ?_
    refine RK.val guard_none (op_pick_t rfl (rd_red he) (rfl : _ = AV.p (.c _))) ?_
    refine RK.val guard_none (op_move (rfl : _ = AV.p (.c _))) ?_
    refine RK.val (guard_yes rfl rfl (rd_red he)) (op_load_agg hT rfl rfl rfl rfl (cs := [_, _, _, _, _, _, _, _]) rfl rfl) ?_
    refine RK.val (guard_yes rfl rfl (rd_red he)) (Eff.call0 (r8_Det _ _ _ _ lz lz lz lz)) ?_
    refine RK.val (guard_yes rfl rfl (rd_red he)) (Eff.call0 (r_Of _ (by first | assumption | decide))) ?_
    refine RK.val (guard_yes rfl rfl (rd_red he)) (Eff.call0 (r_Same _ _)) ?_
    refine RK.val guard_none (op_pick_t rfl (rd_red he) (rfl : _ = AV.p (.c _))) ?_
    refine RK.val guard_none (op_move (rfl : _ = AV.p (.c _))) ?_
    refine RK.val (guard_yes rfl rfl (decide_eq_true (rd_det he))) (op_load_agg hT rfl rfl rfl rfl (cs := [_, _, _, _, _, _]) rfl rfl) ?_
    refine RK.val (guard_yes rfl rfl (decide_eq_true (rd_det he))) (op_load_agg hT rfl rfl rfl rfl (cs := [_, _, _, _, _, _, _, _]) rfl rfl) ?_
    refine RK.val (guard_yes rfl rfl (decide_eq_true (rd_det he))) (Eff.call0 (r8_Apply _ _ _ _ _ _ _ lz lz lz lz lz lz lz)) ?_
    refine RK.val (guard_yes rfl rfl (decide_eq_true (rd_det he))) (op_load_agg hT rfl rfl rfl rfl (cs := [_, _, _, _, _, _]) rfl rfl) ?_
    refine RK.val (guard_yes rfl rfl (decide_eq_true (rd_det he))) (Eff.call0 (r8_Equal _ _ _ _ _ _)) ?_
    refine RK.val guard_none (op_pick_t rfl (decide_eq_true (rd_det he)) (rfl : _ = AV.p (.c _))) ?_
    refine RK.val guard_none (op_move (rfl : _ = AV.p (.c _))) ?_
    refine RK.val (guard_yes rfl rfl (decide_eq_true (rd_vals he))) (op_move (rfl : _ = AV.p (.c _))) ?_
    refine RK.val guard_none (op_pick_t rfl (decide_eq_true (rd_vals he)) (rfl : _ = AV.p (.c _))) ?_
    refine RK.val guard_none (op_assign (rfl : _ = AV.p (.c _))) ?_
    refine RK.done (by kernel_rfl) ?_
    refine AWp_ret ?_
    refine ends_one rfl (.inr rfl) (res_tmp rfl) ?_ O_ends
    exact .refl _

end Go.Proofs.Ytjfoccjngbgolaa
end
