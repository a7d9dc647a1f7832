/- Texts merged by program, in build order. -/
import Derived.Test.YtjfoccjngbgolaaGreatMT
import Derived.Test.YtjfoccjngbgolaaGreatMB
import Derived.Test.YtjfoccjngbgolaaGreatME

section
/- laws: examples, FormReduces -/
namespace Go.Proofs.YtjfoccjngbgolaaGreat
open Go Go.AM

/- algorist/algoristlaw08.examples -/
set_option maxHeartbeats 1000000 in
set_option maxRecDepth 100000 in
theorem l_examples  :
    Call0 Tryz.prog 7 [] (B true) := by
  have f51 : (rdE 10 34 29 != 0) = false := by decide +kernel
  have f55 : (rdE 2 1 3 != 0) = false := by decide +kernel
  have f59 : (prE (-23) != 0) = false := by decide +kernel
  have f63 : (prE (-20) != 0) = false := by decide +kernel
  have f67 : (prE 9 != 5) = false := by decide +kernel
  have f71 : (rdE 1 0 (-2) != 5) = false := by decide +kernel
  have f76 : (ck (-1) 0 (-1) != 1) = false := by decide +kernel
  have f80 : (ck 2 1 3 != 0) = false := by decide +kernel
  have f85 : decide (dsc 2 1 3 = -23) = true := by decide +kernel
  have f89 : rdd 2 1 3 = true := by decide +kernel
  have f94 : (!rdd 2 (-2) 3) = true := by decide +kernel
  have f99 : decide ((rdF 10 34 29).a = 1 ∧ (rdF 10 34 29).b = 0 ∧ (rdF 10 34 29).c = 1) = true := by decide +kernel
  have f105 : decide ((rdM 10 34 29).a * (rdM 10 34 29).d - (rdM 10 34 29).b * (rdM 10 34 29).c = 1) = true := by decide +kernel
  have f110 : decide ((rdF 2 (-1) 3).a = 2 ∧ (rdF 2 (-1) 3).b = -1 ∧ (rdF 2 (-1) 3).c = 3) = true := by decide +kernel
  have f115 : decide ((prF (-23)).a = 1 ∧ (prF (-23)).b = 1 ∧ (prF (-23)).c = 6) = true := by decide +kernel
  have f119 : decide ((prF (-20)).a = 1 ∧ (prF (-20)).b = 0 ∧ (prF (-20)).c = 5) = true := by decide +kernel
  refine callM_of (np := 0) Tryz.func7 (by kernel_rfl) rfl rfl (Nat.le_of_ble_eq_true rfl) (fun m h => absurd rfl h) (fun m h => absurd rfl h) rfl ?_
  refine AWp_seq ?_
  refine AWp_region hP ?_
  refine RK.val guard_none (op_assign (rfl : _ = AV.p (.c _))) ?_
  refine RK.done (by kernel_rfl) ?_
  refine AWp_seq ?_
  refine AWp_region hP ?_
  refine RK.val guard_none (Eff.call0 (r8_Of _ _ _ (by first | assumption | decide) (by first | assumption | decide) (by first | assumption | decide))) ?_
  refine RK.alc guard_none (op_alloc hT rfl rfl) ?_
  refine RK.sto guard_none (op_store hT rfl rfl rfl rfl rfl rfl (cs := [_, _, _, _, _, _]) rfl) ?_
  refine RK.done (by kernel_rfl) ?_
  refine AWp_seq ?_
  refine AWp_region hP ?_
  refine RK.val guard_none (Eff.call0 (r8_Of _ _ _ (by first | assumption | decide) (by first | assumption | decide) (by first | assumption | decide))) ?_
  refine RK.val guard_none (Eff.call0 (q_Reduce _ _ _ lz lz lz)) ?_
  refine RK.val guard_none (op_move (rfl : _ = AV.t _)) ?_
  refine RK.val guard_none (op_extract rfl (v := .a _) rfl) ?_
  refine RK.val guard_none (op_extract rfl (v := .a _) rfl) ?_
  refine RK.val guard_none (op_extract rfl (v := .c _) rfl) ?_
  refine RK.alc guard_none (op_alloc hT rfl rfl) ?_
  refine RK.alc guard_none (op_alloc hT rfl rfl) ?_
  refine RK.sto guard_none (op_store hT rfl rfl rfl rfl rfl rfl (cs := [_, _, _, _, _, _]) rfl) ?_
  refine RK.sto guard_none (op_store hT rfl rfl rfl rfl rfl rfl (cs := [_, _, _, _, _, _, _, _]) rfl) ?_
  refine RK.val guard_none (op_assign (rfl : _ = AV.p (.c _))) ?_
  refine RK.done (by kernel_rfl) ?_
  refine AWp_seq ?_
  refine AWp_region hP ?_
  refine RK.val guard_none (op_load_agg hT rfl rfl rfl rfl (cs := [_, _, _, _, _, _]) rfl rfl) ?_
  refine RK.val guard_none (Eff.call0 (q_Inverse _ _ _ lz lz lz)) ?_
  refine RK.val guard_none (op_move (rfl : _ = AV.t _)) ?_
  refine RK.val guard_none (op_extract rfl (v := .a _) rfl) ?_
  refine RK.val guard_none (op_extract rfl (v := .c _) rfl) ?_
  refine RK.alc guard_none (op_alloc hT rfl rfl) ?_
  refine RK.sto guard_none (op_store hT rfl rfl rfl rfl rfl rfl (cs := [_, _, _, _, _, _]) rfl) ?_
  refine RK.val guard_none (op_assign (rfl : _ = AV.p (.c _))) ?_
  refine RK.done (by kernel_rfl) ?_
  refine AWp_seq ?_
  refine AWp_region hP ?_
  refine RK.val guard_none (Eff.call0 (r_Of _ (by first | assumption | decide))) ?_
  refine RK.val guard_none (Eff.call0 (q_Principal _ lz)) ?_
  refine RK.val guard_none (op_move (rfl : _ = AV.t _)) ?_
  refine RK.val guard_none (op_extract rfl (v := .a _) rfl) ?_
  refine RK.val guard_none (op_extract rfl (v := .c _) rfl) ?_
  refine RK.alc guard_none (op_alloc hT rfl rfl) ?_
  refine RK.sto guard_none (op_store hT rfl rfl rfl rfl rfl rfl (cs := [_, _, _, _, _, _]) rfl) ?_
  refine RK.val guard_none (op_assign (rfl : _ = AV.p (.c _))) ?_
  refine RK.done (by kernel_rfl) ?_
  refine AWp_seq ?_
  refine AWp_region hP ?_
  refine RK.val guard_none (Eff.call0 (r_Of _ (by first | assumption | decide))) ?_
  refine RK.val guard_none (Eff.call0 (q_Principal _ lz)) ?_
  refine RK.val guard_none (op_move (rfl : _ = AV.t _)) ?_
  refine RK.val guard_none (op_extract rfl (v := .a _) rfl) ?_
  refine RK.val guard_none (op_extract rfl (v := .c _) rfl) ?_
  refine RK.alc guard_none (op_alloc hT rfl rfl) ?_
  refine RK.sto guard_none (op_store hT rfl rfl rfl rfl rfl rfl (cs := [_, _, _, _, _, _]) rfl) ?_
  refine RK.val guard_none (op_assign (rfl : _ = AV.p (.c _))) ?_
  refine RK.done (by kernel_rfl) ?_
  refine AWp_seq ?_
  refine AWp_region hP ?_
  refine RK.val guard_none (Eff.call0 (r_Of _ (by first | assumption | decide))) ?_
  refine RK.val guard_none (Eff.call0 (q_Principal _ lz)) ?_
  refine RK.val guard_none (op_move (rfl : _ = AV.t _)) ?_
  refine RK.val guard_none (op_extract rfl (v := .a _) rfl) ?_
  refine RK.val guard_none (op_extract rfl (v := .c _) rfl) ?_
  refine RK.alc guard_none (op_alloc hT rfl rfl) ?_
  refine RK.sto guard_none (op_store hT rfl rfl rfl rfl rfl rfl (cs := [_, _, _, _, _, _]) rfl) ?_
  refine RK.val guard_none (op_assign (rfl : _ = AV.p (.c _))) ?_
  refine RK.done (by kernel_rfl) ?_
  refine AWp_seq ?_
  refine AWp_region hP ?_
  refine RK.val guard_none (Eff.call0 (r8_Of _ _ _ (by first | assumption | decide) (by first | assumption | decide) (by first | assumption | decide))) ?_
  refine RK.val guard_none (Eff.call0 (q_Reduce _ _ _ lz lz lz)) ?_
  refine RK.val guard_none (op_move (rfl : _ = AV.t _)) ?_
  refine RK.val guard_none (op_extract rfl (v := .a _) rfl) ?_
  refine RK.val guard_none (op_extract rfl (v := .a _) rfl) ?_
  refine RK.val guard_none (op_extract rfl (v := .c _) rfl) ?_
  refine RK.alc guard_none (op_alloc hT rfl rfl) ?_
  refine RK.alc guard_none (op_alloc hT rfl rfl) ?_
  refine RK.sto guard_none (op_store hT rfl rfl rfl rfl rfl rfl (cs := [_, _, _, _, _, _]) rfl) ?_
  refine RK.sto guard_none (op_store hT rfl rfl rfl rfl rfl rfl (cs := [_, _, _, _, _, _, _, _]) rfl) ?_
  refine RK.val guard_none (op_assign (rfl : _ = AV.p (.c _))) ?_
  refine RK.done (by kernel_rfl) ?_
  refine AWp_seq ?_
  refine AWp_seq ?_
  refine AWp_region hP ?_
  refine RK.val guard_none (op_move (rfl : _ = AV.p (.c _))) ?_
  refine RK.val guard_none (op_neq rfl rfl) ?_
  refine RK.val guard_none (op_move (rfl : _ = AV.p (.c _))) ?_
  refine RK.val (guard_yes rfl rfl f51) (op_move (rfl : _ = AV.p (.c _))) ?_
  refine RK.val (guard_yes rfl rfl f51) (op_neq rfl rfl) ?_
  refine RK.val guard_none (op_pick_f rfl f51 (rfl : _ = AV.p (.c _))) ?_
  refine RK.val guard_none (op_move (rfl : _ = AV.p (.c _))) ?_
  refine RK.val (guard_yes rfl rfl f55) (op_move (rfl : _ = AV.p (.c _))) ?_
  refine RK.val (guard_yes rfl rfl f55) (op_neq rfl rfl) ?_
  refine RK.val guard_none (op_pick_f rfl f55 (rfl : _ = AV.p (.c _))) ?_
  refine RK.val guard_none (op_move (rfl : _ = AV.p (.c _))) ?_
  refine RK.val (guard_yes rfl rfl f59) (op_move (rfl : _ = AV.p (.c _))) ?_
  refine RK.val (guard_yes rfl rfl f59) (op_neq rfl rfl) ?_
  refine RK.val guard_none (op_pick_f rfl f59 (rfl : _ = AV.p (.c _))) ?_
  refine RK.val guard_none (op_move (rfl : _ = AV.p (.c _))) ?_
  refine RK.val (guard_yes rfl rfl f63) (op_move (rfl : _ = AV.p (.c _))) ?_
  refine RK.val (guard_yes rfl rfl f63) (op_neq rfl rfl) ?_
  refine RK.val guard_none (op_pick_f rfl f63 (rfl : _ = AV.p (.c _))) ?_
  refine RK.val guard_none (op_move (rfl : _ = AV.p (.c _))) ?_
  refine RK.val (guard_yes rfl rfl f67) (op_move (rfl : _ = AV.p (.c _))) ?_
  refine RK.val (guard_yes rfl rfl f67) (op_neq rfl rfl) ?_
  refine RK.val guard_none (op_pick_f rfl f67 (rfl : _ = AV.p (.c _))) ?_
  refine RK.val guard_none (op_move (rfl : _ = AV.p (.c _))) ?_
  refine RK.val (guard_yes rfl rfl f71) (Eff.call0 (r8_Of _ _ _ (by first | assumption | decide) (by first | assumption | decide) (by first | assumption | decide))) ?_
  refine RK.val (guard_yes rfl rfl f71) (Eff.call0 (q_Check _ _ _ lz lz lz)) ?_
  refine RK.val (guard_yes rfl rfl f71) (op_neq rfl rfl) ?_
  refine RK.val guard_none (op_pick_f rfl f71 (rfl : _ = AV.p (.c _))) ?_
  refine RK.val guard_none (op_move (rfl : _ = AV.p (.c _))) ?_
  refine RK.val (guard_yes rfl rfl f76) (op_load_agg hT rfl rfl rfl rfl (cs := [_, _, _, _, _, _]) rfl rfl) ?_
  refine RK.val (guard_yes rfl rfl f76) (Eff.call0 (q_Check _ _ _ lz lz lz)) ?_
  refine RK.val (guard_yes rfl rfl f76) (op_neq rfl rfl) ?_
  refine RK.val guard_none (op_pick_f rfl f76 (rfl : _ = AV.p (.c _))) ?_
  refine RK.done (by kernel_rfl) ?_
  refine AWp_cond_false rfl f80 ?_
  refine AWp_skip ?_
  refine AWp_seq ?_
  refine AWp_region hP ?_
  refine RK.val guard_none (op_load_agg hT rfl rfl rfl rfl (cs := [_, _, _, _, _, _]) rfl rfl) ?_
  refine RK.val guard_none (Eff.call0 (q_Disc _ _ _ lz lz lz)) ?_
  refine RK.val guard_none (Eff.call0 (r_Of _ (by first | assumption | decide))) ?_
  refine RK.val guard_none (Eff.call0 (r_Same _ _)) ?_
  refine RK.val guard_none (op_move (rfl : _ = AV.p (.c _))) ?_
  refine RK.val (guard_yes rfl rfl f85) (op_load_agg hT rfl rfl rfl rfl (cs := [_, _, _, _, _, _]) rfl rfl) ?_
  refine RK.val (guard_yes rfl rfl f85) (Eff.call0 (q_Reduced _ _ _ lz lz lz)) ?_
  refine RK.val guard_none (op_pick_t rfl f85 (rfl : _ = AV.p (.c _))) ?_
  refine RK.val guard_none (op_move (rfl : _ = AV.p (.c _))) ?_
  refine RK.val (guard_yes rfl rfl f89) (Eff.call0 (r8_Of _ _ _ (by first | assumption | decide) (by first | assumption | decide) (by first | assumption | decide))) ?_
  refine RK.val (guard_yes rfl rfl f89) (Eff.call0 (q_Reduced _ _ _ lz lz lz)) ?_
  refine RK.val (guard_yes rfl rfl f89) (op_unot rfl) ?_
  refine RK.val guard_none (op_pick_t rfl f89 (rfl : _ = AV.p (.c _))) ?_
  refine RK.val guard_none (op_move (rfl : _ = AV.p (.c _))) ?_
  refine RK.val (guard_yes rfl rfl f94) (op_load_agg hT rfl rfl rfl rfl (cs := [_, _, _, _, _, _]) rfl rfl) ?_
  refine RK.val (guard_yes rfl rfl f94) (Eff.call0 (r8_Of _ _ _ (by first | assumption | decide) (by first | assumption | decide) (by first | assumption | decide))) ?_
  refine RK.val (guard_yes rfl rfl f94) (Eff.call0 (r8_Equal _ _ _ _ _ _)) ?_
  refine RK.val guard_none (op_pick_t rfl f94 (rfl : _ = AV.p (.c _))) ?_
  refine RK.val guard_none (op_move (rfl : _ = AV.p (.c _))) ?_
  refine RK.val (guard_yes rfl rfl f99) (op_load_agg hT rfl rfl rfl rfl (cs := [_, _, _, _, _, _, _, _]) rfl rfl) ?_
  refine RK.val (guard_yes rfl rfl f99) (Eff.call0 (r8_Det _ _ _ _ lz lz lz lz)) ?_
  refine RK.val (guard_yes rfl rfl f99) (Eff.call0 (r_Of _ (by first | assumption | decide))) ?_
  refine RK.val (guard_yes rfl rfl f99) (Eff.call0 (r_Same _ _)) ?_
  refine RK.val guard_none (op_pick_t rfl f99 (rfl : _ = AV.p (.c _))) ?_
  refine RK.val guard_none (op_move (rfl : _ = AV.p (.c _))) ?_
  refine RK.val (guard_yes rfl rfl f105) (op_load_agg hT rfl rfl rfl rfl (cs := [_, _, _, _, _, _]) rfl rfl) ?_
  refine RK.val (guard_yes rfl rfl f105) (Eff.call0 (r8_Of _ _ _ (by first | assumption | decide) (by first | assumption | decide) (by first | assumption | decide))) ?_
  refine RK.val (guard_yes rfl rfl f105) (Eff.call0 (r8_Equal _ _ _ _ _ _)) ?_
  refine RK.val guard_none (op_pick_t rfl f105 (rfl : _ = AV.p (.c _))) ?_
  refine RK.val guard_none (op_move (rfl : _ = AV.p (.c _))) ?_
  refine RK.val (guard_yes rfl rfl f110) (op_load_agg hT rfl rfl rfl rfl (cs := [_, _, _, _, _, _]) rfl rfl) ?_
  refine RK.val (guard_yes rfl rfl f110) (Eff.call0 (r8_Of _ _ _ (by first | assumption | decide) (by first | assumption | decide) (by first | assumption | decide))) ?_
  refine RK.val (guard_yes rfl rfl f110) (Eff.call0 (r8_Equal _ _ _ _ _ _)) ?_
  refine RK.val guard_none (op_pick_t rfl f110 (rfl : _ = AV.p (.c _))) ?_
  refine RK.val guard_none (op_move (rfl : _ = AV.p (.c _))) ?_
  refine RK.val (guard_yes rfl rfl f115) (op_load_agg hT rfl rfl rfl rfl (cs := [_, _, _, _, _, _]) rfl rfl) ?_
  refine RK.val (guard_yes rfl rfl f115) (Eff.call0 (r8_Of _ _ _ (by first | assumption | decide) (by first | assumption | decide) (by first | assumption | decide))) ?_
  refine RK.val (guard_yes rfl rfl f115) (Eff.call0 (r8_Equal _ _ _ _ _ _)) ?_
  refine RK.val guard_none (op_pick_t rfl f115 (rfl : _ = AV.p (.c _))) ?_
  refine RK.val guard_none (op_assign (rfl : _ = AV.p (.c _))) ?_
  refine RK.done (by kernel_rfl) ?_
  refine AWp_ret ?_
  refine ends_one rfl (.inr rfl) (res_tmp rfl) ?_ O_ends
  exact Sub.bool f119

end Go.Proofs.YtjfoccjngbgolaaGreat
end
