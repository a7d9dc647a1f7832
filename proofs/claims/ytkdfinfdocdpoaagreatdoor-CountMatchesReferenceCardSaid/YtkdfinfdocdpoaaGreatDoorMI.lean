/- Texts merged by program, in build order. -/
import Derived.Test.YtkdfinfdocdpoaaGreatDoorMT
import Derived.Test.YtkdfinfdocdpoaaGreatDoorMG
import Derived.Test.YtkdfinfdocdpoaaGreatDoorMH

section
/- chapter 11: class numbers, conductors -/
namespace Go.Proofs.YtkdfinfdocdpoaaGreatDoor
open Go Go.AM

/- algorist/count.All$1 -/
set_option maxHeartbeats 1000000 in
set_option maxRecDepth 100000 in
theorem c_All1 (a b c : Int) :
    Call0 Tryz.prog 40 [FA a b c] (B true) := by
  refine callM_of (np := 0) Tryz.func40 (by kernel_rfl) rfl rfl (Nat.le_of_ble_eq_true rfl) (fun m h => absurd rfl h) (fun m h => absurd rfl h) rfl ?_
  refine AWp_seq ?_
  refine AWp_region hP ?_
  refine RK.alc guard_none (op_box rfl rfl) ?_
  refine RK.val guard_none (op_assign (rfl : _ = AV.p (.c _))) ?_
  refine RK.done (by kernel_rfl) ?_
  refine AWp_seq ?_
  refine AWp_region hP ?_
  refine RK.val guard_none (op_assign (rfl : _ = AV.p (.c _))) ?_
  refine RK.done (by kernel_rfl) ?_
  refine AWp_ret ?_
  refine ends_one rfl (.inr rfl) (res_tmp rfl) ?_ O_ends
  exact .refl _

/- algorist/count.All -/
set_option maxHeartbeats 1000000 in
set_option maxRecDepth 100000 in
theorem c_All (d : Int) (hd : -9223372036854775807 ≤ d ∧ d ≤ 9223372036854775807) :
    Call0 Tryz.prog 12 [I d] (.t [.c (FS (if szE d = 0 then LW (-d) (fun _ => true) else [])), PE (szE d)]) := by
  refine callM_of (np := 0) Tryz.func12 (by kernel_rfl) rfl rfl (Nat.le_of_ble_eq_true rfl) (fun m h => absurd rfl h) (fun m h => absurd rfl h) rfl ?_
  refine AWp_seq ?_
  refine AWp_region hP ?_
  refine RK.alc guard_none (op_box rfl rfl) ?_
  refine RK.val guard_none (op_assign (rfl : _ = AV.p (.c _))) ?_
  refine RK.val guard_none (op_assign (rfl : _ = AV.p (.c _))) ?_
  refine RK.done (by kernel_rfl) ?_
  refine AWp_seq ?_
  refine AWp_region hP ?_
  refine RK.val guard_none (op_load_agg hT rfl rfl rfl rfl (cs := [_, _]) rfl rfl) ?_
  refine RK.val guard_none (Eff.call0 (c_list _ (by omega) 40 (fun _ => true) (fun a b c _ _ _ => c_All1 a b c))) ?_
  refine RK.val guard_none (op_extract rfl (v := .c _) rfl) ?_
  refine RK.val guard_none (op_extract rfl (v := .c _) rfl) ?_
  refine RK.val guard_none (op_assign (rfl : _ = AV.p (.c _))) ?_
  refine RK.val guard_none (op_assign (rfl : _ = AV.p (.c _))) ?_
  refine RK.done (by kernel_rfl) ?_
  refine AWp_ret ?_
  refine ends_two rfl (.inr rfl) (res_tmp rfl) (res_tmp rfl) ?_ O_ends
  exact .refl _

/- algorist/count.Reduced -/
set_option maxHeartbeats 1000000 in
set_option maxRecDepth 100000 in
theorem c_Reduced (d : Int) (hd : -9223372036854775807 ≤ d ∧ d ≤ 9223372036854775807) :
    Call0 Tryz.prog 10 [I d] (.t [.c (FS (if szE d = 0 then LW (-d) (fun f => prim f.a f.b f.c) else [])), PE (szE d)]) := by
  refine callM_of (np := 0) Tryz.func10 (by kernel_rfl) rfl rfl (Nat.le_of_ble_eq_true rfl) (fun m h => absurd rfl h) (fun m h => absurd rfl h) rfl ?_
  refine AWp_seq ?_
  refine AWp_region hP ?_
  refine RK.alc guard_none (op_box rfl rfl) ?_
  refine RK.val guard_none (op_assign (rfl : _ = AV.p (.c _))) ?_
  refine RK.val guard_none (op_assign (rfl : _ = AV.p (.c _))) ?_
  refine RK.done (by kernel_rfl) ?_
  refine AWp_seq ?_
  refine AWp_region hP ?_
  refine RK.val guard_none (op_load_agg hT rfl rfl rfl rfl (cs := [_, _]) rfl rfl) ?_
  refine RK.val guard_none (Eff.call0 (c_list _ (by omega) 31 (fun f => prim f.a f.b f.c) (fun a b c h1 h2 h3 => q_Primitive a b c (small_L (by omega)) (small_L (by omega)) (small_L (by omega))))) ?_
  refine RK.val guard_none (op_extract rfl (v := .c _) rfl) ?_
  refine RK.val guard_none (op_extract rfl (v := .c _) rfl) ?_
  refine RK.val guard_none (op_assign (rfl : _ = AV.p (.c _))) ?_
  refine RK.val guard_none (op_assign (rfl : _ = AV.p (.c _))) ?_
  refine RK.done (by kernel_rfl) ?_
  refine AWp_ret ?_
  refine ends_two rfl (.inr rfl) (res_tmp rfl) (res_tmp rfl) ?_ O_ends
  exact .refl _

/- algorist/count.class -/
set_option maxHeartbeats 1000000 in
set_option maxRecDepth 100000 in
theorem c_class (N : Int) (h1 : 0 ≤ N) (hN2 : N ≤ 4194304) :
    Call0 Tryz.prog 44 [Z N] (Z (cls N)) := by
  refine callM_of (np := 0) Tryz.func44 (by kernel_rfl) rfl rfl (Nat.le_of_ble_eq_true rfl) (fun m h => absurd rfl h) (fun m h => absurd rfl h) rfl ?_
  refine AWp_seq ?_
  refine AWp_region hP ?_
  refine RK.val guard_none (op_assign (rfl : _ = AV.p (.c _))) ?_
  refine RK.done (by kernel_rfl) ?_
  refine AWp_seq ?_
  refine AWp_region hP ?_
  refine RK.alc guard_none (op_alloc hT rfl rfl) ?_
  refine RK.sto guard_none (op_store hT rfl rfl rfl rfl rfl rfl (cs := [_]) rfl) ?_
  refine RK.done (by kernel_rfl) ?_
  refine AWp_seq ?_
  refine AWp_seq ?_
  refine AWp_region hP ?_
  refine RK.val guard_none (op_move (rfl : _ = AV.p (.c _))) ?_
  refine RK.val guard_none (Eff.call0 (count_forms _)) ?_
  refine RK.done (by kernel_rfl) ?_
  refine AWp_block ?_
  refine AWp_le (t := stL [(3, .loc 3 0), (6, .fn 78 [[.v (.int .i64 N)]])] [(3, ⟨false, 1, 2, [.v (.int .i64 (clK N 0))]⟩)]) (le_stL ⟨.refl _, .refl _, trivial⟩ ⟨rfl, trivial⟩) ?_
  refine AWp_range 4 (fun k => lookO [(3, ⟨false, 1, 2, [.v (.int .i64 (clK N k))]⟩)]) rfl (count_forms1 N (by omega) hN2) (trI_one N) rfl rfl rfl (fun k x hx => ?_) ?_
  · obtain ⟨t, ht, rfl⟩ := trI_get hx
    obtain ⟨⟨b1, b2⟩, ⟨b3, b4⟩, b5, b6⟩ := trs_bound (List.mem_of_getElem? ht) hN2
    have ja : InI64 t.a := by unfold InI64; omega
    have jb : InI64 t.b := by unfold InI64; omega
    have jc : InI64 t.c := by unfold InI64; omega
    have hck := clK_b N k
    have hgb := gcd_b (a := t.a) (b := t.b) ⟨b1, b2⟩
    refine AWp_region hP ?_
    refine RK.alc guard_none (op_alloc hT rfl rfl) ?_
    refine RK.sto guard_none (op_store hT rfl rfl rfl rfl rfl rfl (cs := [_, _, _]) rfl) ?_
    refine RK.done (by kernel_rfl) ?_
    refine AWp_block ?_
    refine AWp_seq ?_
    refine AWp_region hP ?_
    refine RK.val guard_none (op_field_loc hT rfl rfl rfl rfl rfl rfl) ?_
    refine RK.val guard_none (op_load_one hT rfl rfl rfl rfl (by first | rfl | exact vget (by omega))) ?_
    refine RK.val guard_none (op_field_loc hT rfl rfl rfl rfl rfl rfl) ?_
    refine RK.val guard_none (op_load_one hT rfl rfl rfl rfl (by first | rfl | exact vget (by omega))) ?_
    refine RK.val guard_none (Eff.call0 (c_gcd _ _ (by omega) (by omega))) ?_
    refine RK.val guard_none (op_field_loc hT rfl rfl rfl rfl rfl rfl) ?_
    refine RK.val guard_none (op_load_one hT rfl rfl rfl rfl (by first | rfl | exact vget (by omega))) ?_
    refine RK.val guard_none (Eff.call0 (c_gcd _ _ (by omega) (by omega))) ?_
    refine RK.val guard_none (op_eql rfl rfl) ?_
    refine RK.done (by kernel_rfl) ?_
    refine AWp_cond rfl (fun hb1 => ?_) (fun hb1 => ?_)
    · have hb1_ := bT hb1
      refine AWp_region hP ?_
      refine RK.val guard_none (op_load_one hT rfl rfl rfl rfl (by first | rfl | exact vget (by omega))) ?_
      refine RK.val guard_none (op_add rfl rfl (by first | exact IntWalk.i64_in _ (by omega) | rfl)) ?_
      refine RK.sto guard_none (op_store hT rfl rfl rfl rfl rfl rfl (cs := [_]) rfl) ?_
      refine RK.done (by kernel_rfl) ?_
      refine ⟨rfl, GW.forget ?_⟩
      show ∀ m, lookO _ m = _ ∨ lookO _ m = none
      rw [clK_yes ht (prT_t hb1)]
      exact SubO.own ⟨rfl, trivial⟩
    · have hb1_ := bF hb1
      refine AWp_skip ?_
      refine ⟨rfl, GW.forget ?_⟩
      show ∀ m, lookO _ m = _ ∨ lookO _ m = none
      rw [clK_no ht (prT_f hb1)]
      exact SubO.own ⟨rfl, trivial⟩
  refine AWp_seq ?_
  refine AWp_region hP ?_
  refine RK.val guard_none (op_load_one hT rfl rfl rfl rfl (by first | rfl | exact vget (by omega))) ?_
  refine RK.val guard_none (op_assign (rfl : _ = AV.p (.c _))) ?_
  refine RK.done (by kernel_rfl) ?_
  refine AWp_ret ?_
  refine ends_one rfl (.inr rfl) (res_tmp rfl) ?_ O_ends
  exact Sub.int (clK_end N)

/- algorist/count.Class -/
set_option maxHeartbeats 1000000 in
set_option maxRecDepth 100000 in
theorem c_Class (d : Int) (hd : -9223372036854775807 ≤ d ∧ d ≤ 9223372036854775807) :
    Call0 Tryz.prog 14 [I d] (.t [PE (clE d), PE (szE d)]) := by
  refine callM_of (np := 0) Tryz.func14 (by kernel_rfl) rfl rfl (Nat.le_of_ble_eq_true rfl) (fun m h => absurd rfl h) (fun m h => absurd rfl h) rfl ?_
  refine AWp_seq ?_
  refine AWp_region hP ?_
  refine RK.alc guard_none (op_box rfl rfl) ?_
  refine RK.val guard_none (op_assign (rfl : _ = AV.p (.c _))) ?_
  refine RK.val guard_none (op_assign (rfl : _ = AV.p (.c _))) ?_
  refine RK.done (by kernel_rfl) ?_
  refine AWp_seq ?_
  refine AWp_region hP ?_
  refine RK.val guard_none (op_load_agg hT rfl rfl rfl rfl (cs := [_, _]) rfl rfl) ?_
  refine RK.val guard_none (Eff.call0 (c_size _ (by omega))) ?_
  refine RK.val guard_none (op_move (rfl : _ = AV.t _)) ?_
  refine RK.val guard_none (op_extract rfl (v := .c _) rfl) ?_
  refine RK.val guard_none (op_extract rfl (v := .c _) rfl) ?_
  refine RK.val guard_none (op_assign (rfl : _ = AV.p (.c _))) ?_
  refine RK.val guard_none (op_assign (rfl : _ = AV.p (.c _))) ?_
  refine RK.done (by kernel_rfl) ?_
  refine AWp_seq ?_
  refine AWp_seq ?_
  refine AWp_region hP ?_
  refine RK.val guard_none (op_move (rfl : _ = AV.p (.c _))) ?_
  refine RK.val guard_none (op_neq rfl rfl) ?_
  refine RK.done (by kernel_rfl) ?_
  refine AWp_cond rfl (fun hb1 => ?_) (fun hb1 => ?_)
  · have hb1_ := bneT hb1
    refine AWp_seq ?_
    refine AWp_region hP ?_
    refine RK.val guard_none (op_move (rfl : _ = AV.p (.c _))) ?_
    refine RK.val guard_none (op_assign (rfl : _ = AV.p (.c _))) ?_
    refine RK.val guard_none (op_assign (rfl : _ = AV.p (.c _))) ?_
    refine RK.done (by kernel_rfl) ?_
    refine AWp_ret ?_
    refine ends_two rfl (.inr rfl) (res_tmp rfl) (res_tmp rfl) ?_ O_ends
    exact Sub.of_eq (by unfold clE; rw [if_neg hb1_])
  · have hb1_ := bneF hb1
    obtain ⟨hsn, hN1, hN2, hN3⟩ := szE_0 (show szE d = 0 from hb1_)
    refine AWp_skip ?_
    refine AWp_seq ?_
    refine AWp_region hP ?_
    refine RK.val guard_none (op_move (rfl : _ = AV.p (.c _))) ?_
    refine RK.val guard_none (Eff.call0 (c_class _ (by omega) (by omega))) ?_
    refine RK.val guard_none (op_assign (rfl : _ = AV.p (.c _))) ?_
    refine RK.val guard_none (op_assign (rfl : _ = AV.p (.c _))) ?_
    refine RK.done (by kernel_rfl) ?_
    refine AWp_ret ?_
    refine ends_two rfl (.inr rfl) (res_tmp rfl) (res_tmp rfl) ?_ O_ends
    exact Sub.of_eq (by unfold clE; rw [if_pos (show szE d = 0 from hb1_), show szE d = 0 from hb1_, hsn])

/- algorist/count.Hurwitz -/
set_option maxHeartbeats 8000000 in
set_option maxRecDepth 100000 in
theorem c_Hurwitz (m : Int) (hd : -9223372036854775807 ≤ m ∧ m ≤ 9223372036854775807) :
    Call0 Tryz.prog 16 [I m] (.t [PI (hzV m), PE (hzE m)]) := by
  have id0 : LB m 6 := ⟨by unfold L; omega⟩
  refine callM_of (np := 0) Tryz.func16 (by kernel_rfl) rfl rfl (Nat.le_of_ble_eq_true rfl) (fun m h => absurd rfl h) (fun m h => absurd rfl h) rfl ?_
  refine AWp_seq ?_
  refine AWp_region hP ?_
  refine RK.alc guard_none (op_box rfl rfl) ?_
  refine RK.alc guard_none (op_alloc hT rfl rfl) ?_
  refine RK.val guard_none (op_assign (rfl : _ = AV.p (.c _))) ?_
  refine RK.done (by kernel_rfl) ?_
  refine AWp_seq ?_
  refine AWp_region hP ?_
  refine RK.val guard_none (op_load_agg hT rfl rfl rfl rfl (cs := [_, _]) rfl rfl) ?_
  refine RK.val guard_none (Eff.call0 (int_Low _ (by omega) (by omega))) ?_
  refine RK.val guard_none (op_move (rfl : _ = AV.t _)) ?_
  refine RK.val guard_none (op_extract rfl (v := .c _) rfl) ?_
  refine RK.val guard_none (op_extract rfl (v := .c _) rfl) ?_
  refine RK.val guard_none (op_assign (rfl : _ = AV.p (.c _))) ?_
  refine RK.val guard_none (op_assign (rfl : _ = AV.p (.c _))) ?_
  refine RK.done (by kernel_rfl) ?_
  refine AWp_seq ?_
  refine AWp_block ?_
  refine AWp_seq ?_
  refine AWp_region hP ?_
  refine RK.val guard_none (op_load_agg hT rfl rfl rfl rfl (cs := [_, _]) rfl rfl) ?_
  refine RK.val guard_none (Eff.call0 (int_Sign _)) ?_
  refine RK.val guard_none (op_lss rfl rfl) ?_
  refine RK.val guard_none (op_assign (rfl : _ = AV.p (.c _))) ?_
  refine RK.done (by kernel_rfl) ?_
  refine AWp_cond rfl (fun hb1 => ?_) (fun hb1 => ?_)
  · have hb1_ := of_decide_eq_true hb1
    refine AWp_seq ?_
    refine AWp_region hP ?_
    refine RK.val guard_none (op_build_st hT rfl rfl rfl (es := [_, _]) rfl) ?_
    refine RK.sto guard_none (op_store hT rfl rfl rfl rfl rfl rfl (cs := [_, _]) rfl) ?_
    refine RK.val guard_none (op_assign (rfl : _ = AV.p (.c _))) ?_
    refine RK.done (by kernel_rfl) ?_
    refine AWp_ret ?_
    refine ends_two rfl (.inr rfl) (res_cell_agg hT rfl rfl rfl rfl (cs := [_, _]) rfl rfl) (res_tmp rfl) ?_ O_ends
    exact Sub.of_eq (hz_1 (sgn_lt_iff.1 hb1_))
  · have hb1_ := of_decide_eq_false hb1
    have hm0 : ¬ m < 0 := fun h => hb1_ (sgn_lt_iff.2 h)
    refine AWp_seq ?_
    refine AWp_region hP ?_
    refine RK.val guard_none (op_move (rfl : _ = AV.p (.c _))) ?_
    refine RK.val guard_none (op_unot rfl) ?_
    refine RK.val guard_none (op_move (rfl : _ = AV.p (.c _))) ?_
    refine RK.val (guard_yes rfl rfl rfl) (op_move (rfl : _ = AV.p (.c _))) ?_
    refine RK.val (guard_yes rfl rfl rfl) (op_gtr rfl rfl) ?_
    refine RK.val guard_none (op_pick_f rfl rfl (rfl : _ = AV.p (.c _))) ?_
    refine RK.val guard_none (op_assign (rfl : _ = AV.p (.c _))) ?_
    refine RK.done (by kernel_rfl) ?_
    refine AWp_cond rfl (fun hb3 => ?_) (fun hb3 => ?_)
    · have hb3_ := of_decide_eq_true hb3
      refine AWp_seq ?_
      refine AWp_region hP ?_
      refine RK.val guard_none (op_build_st hT rfl rfl rfl (es := [_, _]) rfl) ?_
      refine RK.sto guard_none (op_store hT rfl rfl rfl rfl rfl rfl (cs := [_, _]) rfl) ?_
      refine RK.val guard_none (op_assign (rfl : _ = AV.p (.c _))) ?_
      refine RK.done (by kernel_rfl) ?_
      refine AWp_ret ?_
      refine ends_two rfl (.inr rfl) (res_cell_agg hT rfl rfl rfl rfl (cs := [_, _]) rfl rfl) (res_tmp rfl) ?_ O_ends
      exact Sub.of_eq (hz_2 hm0 hb3_)
    · have hb3_ := of_decide_eq_false hb3
      have hN2 : m ≤ 4194304 := by omega
      refine AWp_seq ?_
      refine AWp_region hP ?_
      refine RK.val guard_none (op_move (rfl : _ = AV.p (.c _))) ?_
      refine RK.val guard_none (op_eql rfl rfl) ?_
      refine RK.val guard_none (op_assign (rfl : _ = AV.p (.c _))) ?_
      refine RK.done (by kernel_rfl) ?_
      refine AWp_cond rfl (fun hb4 => ?_) (fun hb4 => ?_)
      · have hb4_ := bT hb4
        refine AWp_seq ?_
        refine AWp_region hP ?_
        refine RK.val guard_none (Eff.call0 (c_number _ (by first | assumption | decide))) ?_
        refine RK.sto guard_none (op_store hT rfl rfl rfl rfl rfl rfl (cs := [_, _]) rfl) ?_
        refine RK.val guard_none (op_assign (rfl : _ = AV.p (.c _))) ?_
        refine RK.done (by kernel_rfl) ?_
        refine AWp_ret ?_
        refine ends_two rfl (.inr rfl) (res_cell_agg hT rfl rfl rfl rfl (cs := [_, _]) rfl rfl) (res_tmp rfl) ?_ O_ends
        exact Sub.of_eq (hz_z hb4_)
      · have hb4_ := bF hb4
        refine AWp_seq ?_
        refine AWp_region hP ?_
        refine RK.val guard_none (op_move (rfl : _ = AV.p (.c _))) ?_
        refine RK.val guard_none (op_rem rfl rfl (by decide) (c := m % 4) (Int.tmod_eq_emod_of_nonneg (by omega))) ?_
        refine RK.val guard_none (op_eql rfl rfl) ?_
        refine RK.val guard_none (op_move (rfl : _ = AV.p (.c _))) ?_
        refine RK.split (t := 34) rfl (fun hg5 => ?_) (fun hg5 => ?_)
        · have hg5_ := bT hg5
          refine RK.skip (guard_no rfl rfl hg5) ?_
          refine RK.skip (guard_no rfl rfl hg5) ?_
          refine RK.skip (guard_no rfl rfl hg5) ?_
          refine RK.val guard_none (op_pick_t rfl hg5 (rfl : _ = AV.p (.c _))) ?_
          refine RK.val guard_none (op_assign (rfl : _ = AV.p (.c _))) ?_
          refine RK.done (by kernel_rfl) ?_
          refine AWp_cond_true rfl rfl ?_
          refine AWp_seq ?_
          refine AWp_region hP ?_
          refine RK.val guard_none (Eff.call0 (c_number _ (by first | assumption | decide))) ?_
          refine RK.sto guard_none (op_store hT rfl rfl rfl rfl rfl rfl (cs := [_, _]) rfl) ?_
          refine RK.val guard_none (op_assign (rfl : _ = AV.p (.c _))) ?_
          refine RK.done (by kernel_rfl) ?_
          refine AWp_ret ?_
          refine ends_two rfl (.inr rfl) (res_cell_agg hT rfl rfl rfl rfl (cs := [_, _]) rfl rfl) (res_tmp rfl) ?_ O_ends
          exact Sub.of_eq (hz_n hm0 hb3_ hb4_ (.inl hg5_))
        · have hg5_ := bF hg5
          refine RK.val (guard_yes rfl rfl hg5) (op_move (rfl : _ = AV.p (.c _))) ?_
          refine RK.val (guard_yes rfl rfl hg5) (op_rem rfl rfl (by decide) (c := m % 4) (Int.tmod_eq_emod_of_nonneg (by omega))) ?_
          refine RK.val (guard_yes rfl rfl hg5) (op_eql rfl rfl) ?_
          refine RK.val guard_none (op_pick_f rfl hg5 (rfl : _ = AV.p (.c _))) ?_
          refine RK.val guard_none (op_assign (rfl : _ = AV.p (.c _))) ?_
          refine RK.done (by kernel_rfl) ?_
          refine AWp_cond rfl (fun hb6 => ?_) (fun hb6 => ?_)
          · have hb6_ := bT hb6
            refine AWp_seq ?_
            refine AWp_region hP ?_
            refine RK.val guard_none (Eff.call0 (c_number _ (by first | assumption | decide))) ?_
            refine RK.sto guard_none (op_store hT rfl rfl rfl rfl rfl rfl (cs := [_, _]) rfl) ?_
            refine RK.val guard_none (op_assign (rfl : _ = AV.p (.c _))) ?_
            refine RK.done (by kernel_rfl) ?_
            refine AWp_ret ?_
            refine ends_two rfl (.inr rfl) (res_cell_agg hT rfl rfl rfl rfl (cs := [_, _]) rfl rfl) (res_tmp rfl) ?_ O_ends
            exact Sub.of_eq (hz_n hm0 hb3_ hb4_ (.inr hb6_))
          · have hb6_ := bF hb6
            refine AWp_skip ?_
            refine AWp_seq ?_
            refine AWp_region hP ?_
            refine RK.alc guard_none (op_alloc hT rfl rfl) ?_
            refine RK.sto guard_none (op_store hT rfl rfl rfl rfl rfl rfl (cs := [_]) rfl) ?_
            refine RK.done (by kernel_rfl) ?_
            refine AWp_seq ?_
            refine AWp_seq ?_
            refine AWp_region hP ?_
            refine RK.val guard_none (op_move (rfl : _ = AV.p (.c _))) ?_
            refine RK.val guard_none (Eff.call0 (count_forms _)) ?_
            refine RK.done (by kernel_rfl) ?_
            refine AWp_block ?_
            refine AWp_le (t := stL [(6, .loc 6 0), (41, .fn 78 [[.v (.int .i64 m)]]), (2, .loc 2 0)] [(6, ⟨false, 1, 2, [.v (.int .i64 (hwK m 0))]⟩), (2, ⟨false, 1, 28, [zn 0, zm 0]⟩)]) (le_stL ⟨.refl _, .refl _, .refl _, trivial⟩ ⟨rfl, rfl, trivial⟩) ?_
            refine AWp_range 7 (fun k => lookO [(6, ⟨false, 1, 2, [.v (.int .i64 (hwK m k))]⟩), (2, ⟨false, 1, 28, [zn 0, zm 0]⟩)]) rfl (count_forms1 m (by omega) hN2) (trI_one m) rfl rfl rfl (fun k x hx => ?_) ?_
            · obtain ⟨t, ht, rfl⟩ := trI_get hx
              obtain ⟨⟨b1, b2⟩, ⟨b3, b4⟩, b5, b6⟩ := trs_bound (List.mem_of_getElem? ht) hN2
              have ja : InI64 t.a := by unfold InI64; omega
              have jb : InI64 t.b := by unfold InI64; omega
              have jc : InI64 t.c := by unfold InI64; omega
              have hck := hwK_b m k
              refine AWp_region hP ?_
              refine RK.alc guard_none (op_alloc hT rfl rfl) ?_
              refine RK.sto guard_none (op_store hT rfl rfl rfl rfl rfl rfl (cs := [_, _, _]) rfl) ?_
              refine RK.done (by kernel_rfl) ?_
              refine AWp_block ?_
              refine AWp_block ?_
              refine AWp_seq ?_
              refine AWp_region hP ?_
              refine RK.val guard_none (op_field_loc hT rfl rfl rfl rfl rfl rfl) ?_
              refine RK.val guard_none (op_load_one hT rfl rfl rfl rfl (by first | rfl | exact vget (by omega))) ?_
              refine RK.val guard_none (op_field_loc hT rfl rfl rfl rfl rfl rfl) ?_
              refine RK.val guard_none (op_load_one hT rfl rfl rfl rfl (by first | rfl | exact vget (by omega))) ?_
              refine RK.val guard_none (op_eql rfl rfl) ?_
              refine RK.val guard_none (op_move (rfl : _ = AV.p (.c _))) ?_
              refine RK.split (t := 51) rfl (fun hg7 => ?_) (fun hg7 => ?_)
              · have hg7_ := bT hg7
                refine RK.val (guard_yes rfl rfl hg7) (op_field_loc hT rfl rfl rfl rfl rfl rfl) ?_
                refine RK.val (guard_yes rfl rfl hg7) (op_load_one hT rfl rfl rfl rfl (by first | rfl | exact vget (by omega))) ?_
                refine RK.val (guard_yes rfl rfl hg7) (op_field_loc hT rfl rfl rfl rfl rfl rfl) ?_
                refine RK.val (guard_yes rfl rfl hg7) (op_load_one hT rfl rfl rfl rfl (by first | rfl | exact vget (by omega))) ?_
                refine RK.val (guard_yes rfl rfl hg7) (op_eql rfl rfl) ?_
                refine RK.val guard_none (op_pick_t rfl hg7 (rfl : _ = AV.p (.c _))) ?_
                refine RK.val guard_none (op_assign (rfl : _ = AV.p (.c _))) ?_
                refine RK.done (by kernel_rfl) ?_
                refine AWp_cond rfl (fun hb8 => ?_) (fun hb8 => ?_)
                · have hb8_ := bT hb8
                  refine AWp_region hP ?_
                  refine RK.val guard_none (op_load_one hT rfl rfl rfl rfl (by first | rfl | exact vget (by omega))) ?_
                  refine RK.val guard_none (op_add rfl rfl (by first | exact IntWalk.i64_in _ (by omega) | rfl)) ?_
                  refine RK.sto guard_none (op_store hT rfl rfl rfl rfl rfl rfl (cs := [_]) rfl) ?_
                  refine RK.done (by kernel_rfl) ?_
                  refine ⟨rfl, GW.forget_as (congrArg (fun x => lookO [(6, ⟨false, 1, 2, [.v (.int .i64 x)]⟩), (2, ⟨false, 1, 28, [zn 0, zm 0]⟩)]) (?_ : hwK m k + 4 = _)) (SubO.own ⟨rfl, rfl, trivial⟩)⟩
                  exact (by rw [hwK_next ht, wT_4 hg7_ hb8_])
                · have hb8_ := bF hb8
                  refine AWp_seq ?_
                  refine AWp_region hP ?_
                  refine RK.val guard_none (op_field_loc hT rfl rfl rfl rfl rfl rfl) ?_
                  refine RK.val guard_none (op_load_one hT rfl rfl rfl rfl (by first | rfl | exact vget (by omega))) ?_
                  refine RK.val guard_none (op_eql rfl rfl) ?_
                  refine RK.val guard_none (op_move (rfl : _ = AV.p (.c _))) ?_
                  refine RK.split (t := 64) rfl (fun hg9 => ?_) (fun hg9 => ?_)
                  · have hg9_ := bT hg9
                    refine RK.val (guard_yes rfl rfl hg9) (op_field_loc hT rfl rfl rfl rfl rfl rfl) ?_
                    refine RK.val (guard_yes rfl rfl hg9) (op_load_one hT rfl rfl rfl rfl (by first | rfl | exact vget (by omega))) ?_
                    refine RK.val (guard_yes rfl rfl hg9) (op_field_loc hT rfl rfl rfl rfl rfl rfl) ?_
                    refine RK.val (guard_yes rfl rfl hg9) (op_load_one hT rfl rfl rfl rfl (by first | rfl | exact vget (by omega))) ?_
                    refine RK.val (guard_yes rfl rfl hg9) (op_eql rfl rfl) ?_
                    refine RK.val guard_none (op_pick_t rfl hg9 (rfl : _ = AV.p (.c _))) ?_
                    refine RK.val guard_none (op_assign (rfl : _ = AV.p (.c _))) ?_
                    refine RK.done (by kernel_rfl) ?_
                    refine AWp_cond rfl (fun hb10 => ?_) (fun hb10 => ?_)
                    · have hb10_ := bT hb10
                      refine AWp_region hP ?_
                      refine RK.val guard_none (op_load_one hT rfl rfl rfl rfl (by first | rfl | exact vget (by omega))) ?_
                      refine RK.val guard_none (op_add rfl rfl (by first | exact IntWalk.i64_in _ (by omega) | rfl)) ?_
                      refine RK.sto guard_none (op_store hT rfl rfl rfl rfl rfl rfl (cs := [_]) rfl) ?_
                      refine RK.done (by kernel_rfl) ?_
                      refine ⟨rfl, GW.forget_as (congrArg (fun x => lookO [(6, ⟨false, 1, 2, [.v (.int .i64 x)]⟩), (2, ⟨false, 1, 28, [zn 0, zm 0]⟩)]) (?_ : hwK m k + 6 = _)) (SubO.own ⟨rfl, rfl, trivial⟩)⟩
                      exact (by rw [hwK_next ht, wT_6 (fun x => hb8_ x.2) hg9_ hb10_])
                    · have hb10_ := bF hb10
                      refine AWp_region hP ?_
                      refine RK.val guard_none (op_load_one hT rfl rfl rfl rfl (by first | rfl | exact vget (by omega))) ?_
                      refine RK.val guard_none (op_add rfl rfl (by first | exact IntWalk.i64_in _ (by omega) | rfl)) ?_
                      refine RK.sto guard_none (op_store hT rfl rfl rfl rfl rfl rfl (cs := [_]) rfl) ?_
                      refine RK.done (by kernel_rfl) ?_
                      refine ⟨rfl, GW.forget_as (congrArg (fun x => lookO [(6, ⟨false, 1, 2, [.v (.int .i64 x)]⟩), (2, ⟨false, 1, 28, [zn 0, zm 0]⟩)]) (?_ : hwK m k + 12 = _)) (SubO.own ⟨rfl, rfl, trivial⟩)⟩
                      exact (by rw [hwK_next ht, wT_12 (fun x => hb8_ x.2) (fun x => hb10_ x.2)])
                  · have hg9_ := bF hg9
                    refine RK.skip (guard_no rfl rfl hg9) ?_
                    refine RK.skip (guard_no rfl rfl hg9) ?_
                    refine RK.skip (guard_no rfl rfl hg9) ?_
                    refine RK.skip (guard_no rfl rfl hg9) ?_
                    refine RK.skip (guard_no rfl rfl hg9) ?_
                    refine RK.val guard_none (op_pick_f rfl hg9 (rfl : _ = AV.p (.c _))) ?_
                    refine RK.val guard_none (op_assign (rfl : _ = AV.p (.c _))) ?_
                    refine RK.done (by kernel_rfl) ?_
                    refine AWp_cond_false rfl rfl ?_
                    refine AWp_region hP ?_
                    refine RK.val guard_none (op_load_one hT rfl rfl rfl rfl (by first | rfl | exact vget (by omega))) ?_
                    refine RK.val guard_none (op_add rfl rfl (by first | exact IntWalk.i64_in _ (by omega) | rfl)) ?_
                    refine RK.sto guard_none (op_store hT rfl rfl rfl rfl rfl rfl (cs := [_]) rfl) ?_
                    refine RK.done (by kernel_rfl) ?_
                    refine ⟨rfl, GW.forget_as (congrArg (fun x => lookO [(6, ⟨false, 1, 2, [.v (.int .i64 x)]⟩), (2, ⟨false, 1, 28, [zn 0, zm 0]⟩)]) (?_ : hwK m k + 12 = _)) (SubO.own ⟨rfl, rfl, trivial⟩)⟩
                    exact (by rw [hwK_next ht, wT_12 (fun x => hb8_ x.2) (fun x => hg9_ x.1)])
              · have hg7_ := bF hg7
                refine RK.skip (guard_no rfl rfl hg7) ?_
                refine RK.skip (guard_no rfl rfl hg7) ?_
                refine RK.skip (guard_no rfl rfl hg7) ?_
                refine RK.skip (guard_no rfl rfl hg7) ?_
                refine RK.skip (guard_no rfl rfl hg7) ?_
                refine RK.val guard_none (op_pick_f rfl hg7 (rfl : _ = AV.p (.c _))) ?_
                refine RK.val guard_none (op_assign (rfl : _ = AV.p (.c _))) ?_
                refine RK.done (by kernel_rfl) ?_
                refine AWp_cond_false rfl rfl ?_
                refine AWp_seq ?_
                refine AWp_region hP ?_
                refine RK.val guard_none (op_field_loc hT rfl rfl rfl rfl rfl rfl) ?_
                refine RK.val guard_none (op_load_one hT rfl rfl rfl rfl (by first | rfl | exact vget (by omega))) ?_
                refine RK.val guard_none (op_eql rfl rfl) ?_
                refine RK.val guard_none (op_move (rfl : _ = AV.p (.c _))) ?_
                refine RK.split (t := 64) rfl (fun hg11 => ?_) (fun hg11 => ?_)
                · have hg11_ := bT hg11
                  refine RK.val (guard_yes rfl rfl hg11) (op_field_loc hT rfl rfl rfl rfl rfl rfl) ?_
                  refine RK.val (guard_yes rfl rfl hg11) (op_load_one hT rfl rfl rfl rfl (by first | rfl | exact vget (by omega))) ?_
                  refine RK.val (guard_yes rfl rfl hg11) (op_field_loc hT rfl rfl rfl rfl rfl rfl) ?_
                  refine RK.val (guard_yes rfl rfl hg11) (op_load_one hT rfl rfl rfl rfl (by first | rfl | exact vget (by omega))) ?_
                  refine RK.val (guard_yes rfl rfl hg11) (op_eql rfl rfl) ?_
                  refine RK.val guard_none (op_pick_t rfl hg11 (rfl : _ = AV.p (.c _))) ?_
                  refine RK.val guard_none (op_assign (rfl : _ = AV.p (.c _))) ?_
                  refine RK.done (by kernel_rfl) ?_
                  refine AWp_cond rfl (fun hb12 => ?_) (fun hb12 => ?_)
                  · have hb12_ := bT hb12
                    refine AWp_region hP ?_
                    refine RK.val guard_none (op_load_one hT rfl rfl rfl rfl (by first | rfl | exact vget (by omega))) ?_
                    refine RK.val guard_none (op_add rfl rfl (by first | exact IntWalk.i64_in _ (by omega) | rfl)) ?_
                    refine RK.sto guard_none (op_store hT rfl rfl rfl rfl rfl rfl (cs := [_]) rfl) ?_
                    refine RK.done (by kernel_rfl) ?_
                    refine ⟨rfl, GW.forget_as (congrArg (fun x => lookO [(6, ⟨false, 1, 2, [.v (.int .i64 x)]⟩), (2, ⟨false, 1, 28, [zn 0, zm 0]⟩)]) (?_ : hwK m k + 6 = _)) (SubO.own ⟨rfl, rfl, trivial⟩)⟩
                    exact (by rw [hwK_next ht, wT_6 (fun x => hg7_ x.1) hg11_ hb12_])
                  · have hb12_ := bF hb12
                    refine AWp_region hP ?_
                    refine RK.val guard_none (op_load_one hT rfl rfl rfl rfl (by first | rfl | exact vget (by omega))) ?_
                    refine RK.val guard_none (op_add rfl rfl (by first | exact IntWalk.i64_in _ (by omega) | rfl)) ?_
                    refine RK.sto guard_none (op_store hT rfl rfl rfl rfl rfl rfl (cs := [_]) rfl) ?_
                    refine RK.done (by kernel_rfl) ?_
                    refine ⟨rfl, GW.forget_as (congrArg (fun x => lookO [(6, ⟨false, 1, 2, [.v (.int .i64 x)]⟩), (2, ⟨false, 1, 28, [zn 0, zm 0]⟩)]) (?_ : hwK m k + 12 = _)) (SubO.own ⟨rfl, rfl, trivial⟩)⟩
                    exact (by rw [hwK_next ht, wT_12 (fun x => hg7_ x.1) (fun x => hb12_ x.2)])
                · have hg11_ := bF hg11
                  refine RK.skip (guard_no rfl rfl hg11) ?_
                  refine RK.skip (guard_no rfl rfl hg11) ?_
                  refine RK.skip (guard_no rfl rfl hg11) ?_
                  refine RK.skip (guard_no rfl rfl hg11) ?_
                  refine RK.skip (guard_no rfl rfl hg11) ?_
                  refine RK.val guard_none (op_pick_f rfl hg11 (rfl : _ = AV.p (.c _))) ?_
                  refine RK.val guard_none (op_assign (rfl : _ = AV.p (.c _))) ?_
                  refine RK.done (by kernel_rfl) ?_
                  refine AWp_cond_false rfl rfl ?_
                  refine AWp_region hP ?_
                  refine RK.val guard_none (op_load_one hT rfl rfl rfl rfl (by first | rfl | exact vget (by omega))) ?_
                  refine RK.val guard_none (op_add rfl rfl (by first | exact IntWalk.i64_in _ (by omega) | rfl)) ?_
                  refine RK.sto guard_none (op_store hT rfl rfl rfl rfl rfl rfl (cs := [_]) rfl) ?_
                  refine RK.done (by kernel_rfl) ?_
                  refine ⟨rfl, GW.forget_as (congrArg (fun x => lookO [(6, ⟨false, 1, 2, [.v (.int .i64 x)]⟩), (2, ⟨false, 1, 28, [zn 0, zm 0]⟩)]) (?_ : hwK m k + 12 = _)) (SubO.own ⟨rfl, rfl, trivial⟩)⟩
                  exact (by rw [hwK_next ht, wT_12 (fun x => hg7_ x.1) (fun x => hg11_ x.1)])
            refine AWp_seq ?_
            refine AWp_region hP ?_
            refine RK.val guard_none (op_load_one hT rfl rfl rfl rfl (by first | rfl | exact vget (by omega))) ?_
            refine RK.val guard_none (Eff.call0 (c_number _ (by have := hwK_b m (trI m).length; unfold InI64; omega))) ?_
            refine RK.sto guard_none (op_store hT rfl rfl rfl rfl rfl rfl (cs := [_, _]) rfl) ?_
            refine RK.val guard_none (op_assign (rfl : _ = AV.p (.c _))) ?_
            refine RK.done (by kernel_rfl) ?_
            refine AWp_ret ?_
            refine ends_two rfl (.inr rfl) (res_cell_agg hT rfl rfl rfl rfl (cs := [_, _]) rfl rfl) (res_tmp rfl) ?_ O_ends
            exact Sub.of_eq (by rw [hwK_end]; exact hz_s hm0 hb3_ hb4_ (fun x => x.elim hg5_ hb6_))

/- algorist/count.Conductor -/
set_option maxHeartbeats 4000000 in
set_option maxRecDepth 100000 in
theorem c_Conductor (d : Int) (hd : -9223372036854775807 ≤ d ∧ d ≤ 9223372036854775807) :
    Call0 Tryz.prog 19 [I d] (.t [PI (cdD d), PI (cdV d), PE (szE d)]) := by
  refine callM_of (np := 0) Tryz.func19 (by kernel_rfl) rfl rfl (Nat.le_of_ble_eq_true rfl) (fun m h => absurd rfl h) (fun m h => absurd rfl h) rfl ?_
  refine AWp_seq ?_
  refine AWp_region hP ?_
  refine RK.alc guard_none (op_box rfl rfl) ?_
  refine RK.alc guard_none (op_alloc hT rfl rfl) ?_
  refine RK.alc guard_none (op_alloc hT rfl rfl) ?_
  refine RK.val guard_none (op_assign (rfl : _ = AV.p (.c _))) ?_
  refine RK.done (by kernel_rfl) ?_
  refine AWp_seq ?_
  refine AWp_region hP ?_
  refine RK.val guard_none (op_load_agg hT rfl rfl rfl rfl (cs := [_, _]) rfl rfl) ?_
  refine RK.val guard_none (Eff.call0 (c_size _ (by omega))) ?_
  refine RK.val guard_none (op_move (rfl : _ = AV.t _)) ?_
  refine RK.val guard_none (op_extract rfl (v := .c _) rfl) ?_
  refine RK.val guard_none (op_extract rfl (v := .c _) rfl) ?_
  refine RK.val guard_none (op_assign (rfl : _ = AV.p (.c _))) ?_
  refine RK.val guard_none (op_assign (rfl : _ = AV.p (.c _))) ?_
  refine RK.done (by kernel_rfl) ?_
  refine AWp_seq ?_
  refine AWp_seq ?_
  refine AWp_region hP ?_
  refine RK.val guard_none (op_move (rfl : _ = AV.p (.c _))) ?_
  refine RK.val guard_none (op_neq rfl rfl) ?_
  refine RK.done (by kernel_rfl) ?_
  refine AWp_cond rfl (fun hb1 => ?_) (fun hb1 => ?_)
  · have hb1_ := bneT hb1
    refine AWp_seq ?_
    refine AWp_region hP ?_
    refine RK.val guard_none (op_build_st hT rfl rfl rfl (es := [_, _]) rfl) ?_
    refine RK.val guard_none (op_build_st hT rfl rfl rfl (es := [_, _]) rfl) ?_
    refine RK.val guard_none (op_move (rfl : _ = AV.p (.c _))) ?_
    refine RK.sto guard_none (op_store hT rfl rfl rfl rfl rfl rfl (cs := [_, _]) rfl) ?_
    refine RK.sto guard_none (op_store hT rfl rfl rfl rfl rfl rfl (cs := [_, _]) rfl) ?_
    refine RK.val guard_none (op_assign (rfl : _ = AV.p (.c _))) ?_
    refine RK.done (by kernel_rfl) ?_
    refine AWp_ret ?_
    refine ends_three rfl (.inr rfl) (res_cell_agg hT rfl rfl rfl rfl (cs := [_, _]) rfl rfl) (res_cell_agg hT rfl rfl rfl rfl (cs := [_, _]) rfl rfl) (res_tmp rfl) ?_ O_ends
    exact Sub.of_eq (cd_err hb1_)
  · have hb1_ := bneF hb1
    obtain ⟨hsn, hN1, hN2, hN3⟩ := szE_0 (show szE d = 0 from hb1_)
    rw [← hsn] at hN1 hN2
    generalize hNd : szN d = N at hN1 hN2 ⊢
    refine AWp_skip ?_
    refine AWp_seq ?_
    refine AWp_region hP ?_
    refine RK.val guard_none (op_assign (rfl : _ = AV.p (.c _))) ?_
    refine RK.done (by kernel_rfl) ?_
    refine AWp_seq ?_
    refine AWp_seq ?_
    refine AWp_region hP ?_
    refine RK.val guard_none (op_assign (rfl : _ = AV.p (.c _))) ?_
    refine RK.done (by kernel_rfl) ?_
    refine AWp_block ?_
    refine AWp_loop (ι := Int × Int) (fun p => stL [(2, .loc 2 0), (3, .loc 3 0), (5, Z N), (7, Z p.2), (8, Z p.1)] [(2, ⟨false, 1, 28, [zn (0), zm (0)]⟩), (3, ⟨false, 1, 28, [zn (0), zm (0)]⟩)]) (fun p => 2 ≤ p.1 ∧ p.1 ≤ 2049 ∧ (1 ≤ p.2 ∧ p.2 ≤ 2048) ∧ cdGo N (2102 - p.1).toNat p.1 p.2 = cdF N) (fun p => (2050 - p.1).toNat) (2, 1) ⟨by decide, by decide, by decide, rfl⟩ (le_stL ⟨.refl _, .refl _, .refl _, .refl _, .refl _, trivial⟩ ⟨rfl, rfl, trivial⟩) ?_
    rintro p ⟨hk1, hk2, hf, hg⟩
    have qs := sq_b (x := p.1) (m := 2049) (by omega)
    refine AWp_seq ?_
    refine AWp_seq ?_
    refine AWp_region hP ?_
    refine RK.val guard_none (op_move (rfl : _ = AV.p (.c _))) ?_
    refine RK.val guard_none (op_move (rfl : _ = AV.p (.c _))) ?_
    refine RK.val guard_none (op_mul rfl rfl (by first | exact IntWalk.i64_in _ (by omega) | rfl)) ?_
    refine RK.val guard_none (op_move (rfl : _ = AV.p (.c _))) ?_
    refine RK.val guard_none (op_leq rfl rfl) ?_
    refine RK.done (by kernel_rfl) ?_
    refine AWp_cond rfl (fun hb2 => ?_) (fun hb2 => ?_)
    · have hb2_ := of_decide_eq_true hb2
      have hk3 := cd_le hk1 hb2_ hN2
      have q1 := fsq (f := p.1) ⟨by omega, by omega⟩
      have qq := quo_b (n := N) (x := p.1 * p.1) ⟨by omega, hN2⟩ q1.1
      refine AWp_skip ?_
      refine AWp_seq ?_
      refine AWp_block ?_
      refine AWp_seq ?_
      refine AWp_region hP ?_
      refine RK.val guard_none (op_move (rfl : _ = AV.p (.c _))) ?_
      refine RK.val guard_none (op_move (rfl : _ = AV.p (.c _))) ?_
      refine RK.val guard_none (op_move (rfl : _ = AV.p (.c _))) ?_
      refine RK.val guard_none (op_mul rfl rfl (by first | exact IntWalk.i64_in _ (by omega) | rfl)) ?_
      refine RK.val guard_none (op_quo rfl rfl (by omega) (c := (N / (p.1 * p.1))) (by rw [Int.tdiv_eq_ediv_of_nonneg (by omega), IntWalk.i64_in _ (by omega)])) ?_
      refine RK.val guard_none (op_assign (rfl : _ = AV.p (.c _))) ?_
      refine RK.done (by kernel_rfl) ?_
      refine AWp_seq ?_
      refine AWp_region hP ?_
      refine RK.val guard_none (op_move (rfl : _ = AV.p (.c _))) ?_
      refine RK.val guard_none (op_move (rfl : _ = AV.p (.c _))) ?_
      refine RK.val guard_none (op_move (rfl : _ = AV.p (.c _))) ?_
      refine RK.val guard_none (op_mul rfl rfl (by first | exact IntWalk.i64_in _ (by omega) | rfl)) ?_
      refine RK.val guard_none (op_rem rfl rfl (by omega) (c := N % (p.1 * p.1)) (Int.tmod_eq_emod_of_nonneg (by omega))) ?_
      refine RK.val guard_none (op_eql rfl rfl) ?_
      refine RK.val guard_none (op_move (rfl : _ = AV.p (.c _))) ?_
      refine RK.split (t := 38) rfl (fun hg3 => ?_) (fun hg3 => ?_)
      · have hg3_ := bT hg3
        refine RK.val (guard_yes rfl rfl hg3) (op_move (rfl : _ = AV.p (.c _))) ?_
        refine RK.val (guard_yes rfl rfl hg3) (op_rem rfl rfl (by decide) (c := (N / (p.1 * p.1)) % 4) (Int.tmod_eq_emod_of_nonneg (by omega))) ?_
        refine RK.val (guard_yes rfl rfl hg3) (op_eql rfl rfl) ?_
        refine RK.val (guard_yes rfl rfl hg3) (op_move (rfl : _ = AV.p (.c _))) ?_
        refine RK.split (t := 42) rfl (fun hg4 => ?_) (fun hg4 => ?_)
        · have hg4_ := bT hg4
          refine RK.skip (guard_no rfl rfl hg4) ?_
          refine RK.skip (guard_no rfl rfl hg4) ?_
          refine RK.skip (guard_no rfl rfl hg4) ?_
          refine RK.val (guard_yes rfl rfl hg3) (op_pick_t rfl hg4 (rfl : _ = AV.p (.c _))) ?_
          refine RK.val guard_none (op_pick_t rfl hg3 (rfl : _ = AV.p (.c _))) ?_
          refine RK.done (by kernel_rfl) ?_
          refine AWp_cond_true rfl rfl ?_
          refine AWp_region hP ?_
          refine RK.val guard_none (op_move (rfl : _ = AV.p (.c _))) ?_
          refine RK.val guard_none (op_assign (rfl : _ = AV.p (.c _))) ?_
          refine RK.done (by kernel_rfl) ?_
          refine AWp_region hP ?_
          refine RK.val guard_none (op_move (rfl : _ = AV.p (.c _))) ?_
          refine RK.val guard_none (op_add rfl rfl (by first | exact IntWalk.i64_in _ (by omega) | rfl)) ?_
          refine RK.val guard_none (op_assign (rfl : _ = AV.p (.c _))) ?_
          refine RK.done (by kernel_rfl) ?_
          refine ⟨(p.1 + 1, p.1), ⟨by simp only; omega, by simp only; omega, by simp only; omega, cd_next hg (by omega) hb2_ (by rw [cdB_2 hg3_ hg4_]; rfl)⟩, by simp only; omega, le_stL ⟨.refl _, .refl _, .refl _, .refl _, .refl _, trivial⟩ ⟨rfl, rfl, trivial⟩⟩
        · have hg4_ := bF hg4
          refine RK.val (guard_yes rfl rfl hg4) (op_move (rfl : _ = AV.p (.c _))) ?_
          refine RK.val (guard_yes rfl rfl hg4) (op_rem rfl rfl (by decide) (c := (N / (p.1 * p.1)) % 4) (Int.tmod_eq_emod_of_nonneg (by omega))) ?_
          refine RK.val (guard_yes rfl rfl hg4) (op_eql rfl rfl) ?_
          refine RK.val (guard_yes rfl rfl hg3) (op_pick_f rfl hg4 (rfl : _ = AV.p (.c _))) ?_
          refine RK.val guard_none (op_pick_t rfl hg3 (rfl : _ = AV.p (.c _))) ?_
          refine RK.done (by kernel_rfl) ?_
          refine AWp_cond rfl (fun hb5 => ?_) (fun hb5 => ?_)
          · have hb5_ := bT hb5
            refine AWp_region hP ?_
            refine RK.val guard_none (op_move (rfl : _ = AV.p (.c _))) ?_
            refine RK.val guard_none (op_assign (rfl : _ = AV.p (.c _))) ?_
            refine RK.done (by kernel_rfl) ?_
            refine AWp_region hP ?_
            refine RK.val guard_none (op_move (rfl : _ = AV.p (.c _))) ?_
            refine RK.val guard_none (op_add rfl rfl (by first | exact IntWalk.i64_in _ (by omega) | rfl)) ?_
            refine RK.val guard_none (op_assign (rfl : _ = AV.p (.c _))) ?_
            refine RK.done (by kernel_rfl) ?_
            refine ⟨(p.1 + 1, p.1), ⟨by simp only; omega, by simp only; omega, by simp only; omega, cd_next hg (by omega) hb2_ (by rw [cdB_3 hg3_ hg4_ hb5_]; rfl)⟩, by simp only; omega, le_stL ⟨.refl _, .refl _, .refl _, .refl _, .refl _, trivial⟩ ⟨rfl, rfl, trivial⟩⟩
          · have hb5_ := bF hb5
            refine AWp_skip ?_
            refine AWp_region hP ?_
            refine RK.val guard_none (op_move (rfl : _ = AV.p (.c _))) ?_
            refine RK.val guard_none (op_add rfl rfl (by first | exact IntWalk.i64_in _ (by omega) | rfl)) ?_
            refine RK.val guard_none (op_assign (rfl : _ = AV.p (.c _))) ?_
            refine RK.done (by kernel_rfl) ?_
            refine ⟨(p.1 + 1, p.2), ⟨by simp only; omega, by simp only; omega, by simp only; omega, cd_next hg (by omega) hb2_ (by rw [cdB_4 hg3_ hg4_ hb5_]; rfl)⟩, by simp only; omega, le_stL ⟨.refl _, .refl _, .refl _, .refl _, .refl _, trivial⟩ ⟨rfl, rfl, trivial⟩⟩
      · have hg3_ := bF hg3
        refine RK.skip (guard_no rfl rfl hg3) ?_
        refine RK.skip (guard_no rfl rfl hg3) ?_
        refine RK.skip (guard_no rfl rfl hg3) ?_
        refine RK.skip (guard_no rfl rfl hg3) ?_
        refine RK.skip (guard_sk rfl rfl) ?_
        refine RK.skip (guard_sk rfl rfl) ?_
        refine RK.skip (guard_sk rfl rfl) ?_
        refine RK.skip (guard_no rfl rfl hg3) ?_
        refine RK.val guard_none (op_pick_f rfl hg3 (rfl : _ = AV.p (.c _))) ?_
        refine RK.done (by kernel_rfl) ?_
        refine AWp_cond_false rfl rfl ?_
        refine AWp_skip ?_
        refine AWp_region hP ?_
        refine RK.val guard_none (op_move (rfl : _ = AV.p (.c _))) ?_
        refine RK.val guard_none (op_add rfl rfl (by first | exact IntWalk.i64_in _ (by omega) | rfl)) ?_
        refine RK.val guard_none (op_assign (rfl : _ = AV.p (.c _))) ?_
        refine RK.done (by kernel_rfl) ?_
        refine ⟨(p.1 + 1, p.2), ⟨by simp only; omega, by simp only; omega, by simp only; omega, cd_next hg (by omega) hb2_ (by rw [cdB_1 hg3_]; rfl)⟩, by simp only; omega, le_stL ⟨.refl _, .refl _, .refl _, .refl _, .refl _, trivial⟩ ⟨rfl, rfl, trivial⟩⟩
    · have hb2_ := of_decide_eq_false hb2
      have hcf := cd_stop hg hk2 hb2_
      have q2 := fsq hf
      have qq := quo_b (n := N) (x := p.2 * p.2) ⟨by omega, hN2⟩ q2.1
      have ja : InI64 (-(N / (p.2 * p.2))) := by unfold InI64; omega
      have jb : InI64 p.2 := by unfold InI64; omega
      refine AWp_exit ?_
      refine AWp_seq ?_
      refine AWp_region hP ?_
      refine RK.val guard_none (op_move (rfl : _ = AV.p (.c _))) ?_
      refine RK.val guard_none (op_uneg rfl (by first | exact IntWalk.i64_in _ (by omega) | rfl)) ?_
      refine RK.val guard_none (op_move (rfl : _ = AV.p (.c _))) ?_
      refine RK.val guard_none (op_move (rfl : _ = AV.p (.c _))) ?_
      refine RK.val guard_none (op_mul rfl rfl (by first | exact IntWalk.i64_in _ (by omega) | rfl)) ?_
      refine RK.val guard_none (op_quo rfl rfl (by omega) (c := -(N / (p.2 * p.2))) (by rw [Int.zero_sub, neg_quo (by omega), IntWalk.i64_in _ (by omega)])) ?_
      refine RK.val guard_none (Eff.call0 (c_number _ (by first | assumption | decide))) ?_
      refine RK.val guard_none (op_move (rfl : _ = AV.p (.c _))) ?_
      refine RK.val guard_none (Eff.call0 (c_number _ (by first | assumption | decide))) ?_
      refine RK.sto guard_none (op_store hT rfl rfl rfl rfl rfl rfl (cs := [_, _]) rfl) ?_
      refine RK.sto guard_none (op_store hT rfl rfl rfl rfl rfl rfl (cs := [_, _]) rfl) ?_
      refine RK.val guard_none (op_assign (rfl : _ = AV.p (.c _))) ?_
      refine RK.done (by kernel_rfl) ?_
      refine AWp_ret ?_
      refine ends_three rfl (.inr rfl) (res_cell_agg hT rfl rfl rfl rfl (cs := [_, _]) rfl rfl) (res_cell_agg hT rfl rfl rfl rfl (cs := [_, _]) rfl rfl) (res_tmp rfl) ?_ O_ends
      exact Sub.of_eq (by
        have h9 := cd_ok (show szE d = 0 from hb1_)
        rw [← hsn, hNd] at h9
        rw [hcf]; exact h9)

end Go.Proofs.YtkdfinfdocdpoaaGreatDoor
end

section
/- chapter 11: ratio -/
namespace Go.Proofs.YtkdfinfdocdpoaaGreatDoor
open Go Go.AM

/- algorist/count.Ratio -/
set_option maxHeartbeats 6000000 in
set_option maxRecDepth 100000 in
theorem c_Ratio (d f : Int) (hd : -4194400 ≤ d ∧ d ≤ 4194400) (hf : -100000 ≤ f ∧ f ≤ 100000) :
    Call0 Tryz.prog 32 [I d, I f] (.t [PI (rtV d f), PE (rtE d f)]) := by
  have id0 : LB d 6 := ⟨by unfold L; omega⟩
  have if0 : LB f 6 := ⟨by unfold L; omega⟩
  have hN := szN_b d
  have hdf := dff_b hd hf
  refine callM_of (np := 0) Tryz.func32 (by kernel_rfl) rfl rfl (Nat.le_of_ble_eq_true rfl) (fun m h => absurd rfl h) (fun m h => absurd rfl h) rfl ?_
  refine AWp_seq ?_
  refine AWp_region hP ?_
  refine RK.alc guard_none (op_box rfl rfl) ?_
  refine RK.alc guard_none (op_box rfl rfl) ?_
  refine RK.alc guard_none (op_alloc hT rfl rfl) ?_
  refine RK.val guard_none (op_assign (rfl : _ = AV.p (.c _))) ?_
  refine RK.done (by kernel_rfl) ?_
  refine AWp_seq ?_
  refine AWp_region hP ?_
  refine RK.val guard_none (op_load_agg hT rfl rfl rfl rfl (cs := [_, _]) rfl rfl) ?_
  refine RK.val guard_none (Eff.call0 (c_size _ (by omega))) ?_
  refine RK.val guard_none (op_move (rfl : _ = AV.t _)) ?_
  refine RK.val guard_none (op_extract rfl (v := .c _) rfl) ?_
  refine RK.val guard_none (op_extract rfl (v := .c _) rfl) ?_
  refine RK.val guard_none (op_assign (rfl : _ = AV.p (.c _))) ?_
  refine RK.val guard_none (op_assign (rfl : _ = AV.p (.c _))) ?_
  refine RK.done (by kernel_rfl) ?_
  refine AWp_seq ?_
  refine AWp_block ?_
  refine AWp_seq ?_
  refine AWp_region hP ?_
  refine RK.val guard_none (op_move (rfl : _ = AV.p (.c _))) ?_
  refine RK.val guard_none (op_eql rfl rfl) ?_
  refine RK.val guard_none (op_assign (rfl : _ = AV.p (.c _))) ?_
  refine RK.done (by kernel_rfl) ?_
  refine AWp_cond rfl (fun hb1 => ?_) (fun hb1 => ?_)
  · have hb1_ := bT hb1
    refine AWp_seq ?_
    refine AWp_region hP ?_
    refine RK.val guard_none (op_build_st hT rfl rfl rfl (es := [_, _]) rfl) ?_
    refine RK.val guard_none (op_move (rfl : _ = AV.p (.c _))) ?_
    refine RK.sto guard_none (op_store hT rfl rfl rfl rfl rfl rfl (cs := [_, _]) rfl) ?_
    refine RK.val guard_none (op_assign (rfl : _ = AV.p (.c _))) ?_
    refine RK.done (by kernel_rfl) ?_
    refine AWp_ret ?_
    refine ends_two rfl (.inr rfl) (res_cell_agg hT rfl rfl rfl rfl (cs := [_, _]) rfl rfl) (res_tmp rfl) ?_ O_ends
    exact Sub.of_eq (rt_e5 hb1_)
  · have hb1_ := bF hb1
    refine AWp_seq ?_
    refine AWp_region hP ?_
    refine RK.val guard_none (op_load_agg hT rfl rfl rfl rfl (cs := [_, _]) rfl rfl) ?_
    refine RK.val guard_none (Eff.call0 (int_Sign _)) ?_
    refine RK.val guard_none (op_lss rfl rfl) ?_
    refine RK.val guard_none (op_assign (rfl : _ = AV.p (.c _))) ?_
    refine RK.done (by kernel_rfl) ?_
    refine AWp_cond rfl (fun hb2 => ?_) (fun hb2 => ?_)
    · have hb2_ := of_decide_eq_true hb2
      have hf1 : f < 1 := sgn_lt1_iff.1 hb2_
      refine AWp_seq ?_
      refine AWp_region hP ?_
      refine RK.val guard_none (op_build_st hT rfl rfl rfl (es := [_, _]) rfl) ?_
      refine RK.sto guard_none (op_store hT rfl rfl rfl rfl rfl rfl (cs := [_, _]) rfl) ?_
      refine RK.val guard_none (op_assign (rfl : _ = AV.p (.c _))) ?_
      refine RK.done (by kernel_rfl) ?_
      refine AWp_ret ?_
      refine ends_two rfl (.inr rfl) (res_cell_agg hT rfl rfl rfl rfl (cs := [_, _]) rfl rfl) (res_tmp rfl) ?_ O_ends
      exact Sub.of_eq (rt_e1 hb1_ hf1)
    · have hb2_ := of_decide_eq_false hb2
      have hf1 : ¬ f < 1 := fun h => hb2_ (sgn_lt1_iff.2 h)
      have hc := cls_b (szN d)
      have h3 : 0 ≤ cls (szN d) * f ∧ cls (szN d) * f ≤ 8004000 * 100000 := ⟨Int.mul_nonneg hc.1 (by omega), Int.mul_le_mul hc.2 hf.2 (by omega) (by omega)⟩
      refine AWp_skip ?_
      refine AWp_seq ?_
      refine AWp_seq ?_
      refine AWp_region hP ?_
      refine RK.val guard_none (op_load_agg hT rfl rfl rfl rfl (cs := [_, _]) rfl rfl) ?_
      refine RK.val guard_none (op_load_agg hT rfl rfl rfl rfl (cs := [_, _]) rfl rfl) ?_
      refine RK.val guard_none (op_load_agg hT rfl rfl rfl rfl (cs := [_, _]) rfl rfl) ?_
      refine RK.val guard_none (Eff.call0 (int_Mul _ _ lz lz)) ?_
      refine RK.val guard_none (Eff.call0 (int_Mul _ _ lz lz)) ?_
      refine RK.val guard_none (Eff.call0 (c_size _ (by omega))) ?_
      refine RK.val guard_none (op_move (rfl : _ = AV.t _)) ?_
      refine RK.val guard_none (op_extract rfl (v := .c _) rfl) ?_
      refine RK.val guard_none (op_extract rfl (v := .c _) rfl) ?_
      refine RK.val guard_none (op_assign (rfl : _ = AV.p (.c _))) ?_
      refine RK.val guard_none (op_assign (rfl : _ = AV.p (.c _))) ?_
      refine RK.done (by kernel_rfl) ?_
      refine AWp_seq ?_
      refine AWp_region hP ?_
      refine RK.val guard_none (op_move (rfl : _ = AV.p (.c _))) ?_
      refine RK.val guard_none (op_neq rfl rfl) ?_
      refine RK.done (by kernel_rfl) ?_
      refine AWp_cond rfl (fun hb3 => ?_) (fun hb3 => ?_)
      · have hb3_ := bneT hb3
        refine AWp_seq ?_
        refine AWp_region hP ?_
        refine RK.val guard_none (op_build_st hT rfl rfl rfl (es := [_, _]) rfl) ?_
        refine RK.val guard_none (op_move (rfl : _ = AV.p (.c _))) ?_
        refine RK.sto guard_none (op_store hT rfl rfl rfl rfl rfl rfl (cs := [_, _]) rfl) ?_
        refine RK.val guard_none (op_assign (rfl : _ = AV.p (.c _))) ?_
        refine RK.done (by kernel_rfl) ?_
        refine AWp_ret ?_
        refine ends_two rfl (.inr rfl) (res_cell_agg hT rfl rfl rfl rfl (cs := [_, _]) rfl rfl) (res_tmp rfl) ?_ O_ends
        exact Sub.of_eq (rt_e hb1_ hf1 hb3_)
      · have hb3_ := bneF hb3
        refine AWp_skip ?_
        refine AWp_seq ?_
        refine AWp_region hP ?_
        refine RK.val guard_none (op_load_agg hT rfl rfl rfl rfl (cs := [_, _]) rfl rfl) ?_
        refine RK.val guard_none (Eff.call0 (int_Low _ (by omega) (by omega))) ?_
        refine RK.val guard_none (op_move (rfl : _ = AV.t _)) ?_
        refine RK.val guard_none (op_extract rfl (v := .c _) rfl) ?_
        refine RK.val guard_none (op_extract rfl (v := .c _) rfl) ?_
        refine RK.val guard_none (op_assign (rfl : _ = AV.p (.c _))) ?_
        refine RK.val guard_none (op_assign (rfl : _ = AV.p (.c _))) ?_
        refine RK.done (by kernel_rfl) ?_
        refine AWp_seq ?_
        refine AWp_region hP ?_
        refine RK.val guard_none (op_move (rfl : _ = AV.p (.c _))) ?_
        refine RK.val guard_none (Eff.call0 (c_class _ (by omega) (by omega))) ?_
        refine RK.val guard_none (op_move (rfl : _ = AV.p (.c _))) ?_
        refine RK.val guard_none (op_mul rfl rfl (by first | exact IntWalk.i64_in _ (by omega) | rfl)) ?_
        refine RK.val guard_none (op_move (rfl : _ = AV.p (.c _))) ?_
        refine RK.val guard_none (op_assign (rfl : _ = AV.p (.c _))) ?_
        refine RK.val guard_none (op_assign (rfl : _ = AV.p (.c _))) ?_
        refine RK.done (by kernel_rfl) ?_
        refine AWp_seq ?_
        refine AWp_seq ?_
        refine AWp_region hP ?_
        refine RK.val guard_none (op_assign (rfl : _ = AV.p (.c _))) ?_
        refine RK.done (by kernel_rfl) ?_
        refine AWp_block ?_
        have hfx : 1 ≤ f ∧ f ≤ 100000 := by omega
        refine AWp_loop (ι := Int × Int × Int) (fun p => stL [(2, .loc 2 0), (3, .loc 3 0), (4, .loc 4 0), (6, Z (szN d)), (10, Z f), (12, Z p.1), (13, Z p.2.1), (14, Z p.2.2)] [(2, ⟨false, 1, 28, [zn (d), zm (d)]⟩), (3, ⟨false, 1, 28, [zn (f), zm (f)]⟩), (4, ⟨false, 1, 28, [zn (0), zm (0)]⟩)]) (fun p => RtI d (rtH d f) 80040000000000000 f p.1 p.2.1 p.2.2) (fun p => (p.2.1 + 2 - p.2.2).toNat) (cls (szN d) * f, f, 2) (RtI.start hfx) (le_stL ⟨.refl _, .refl _, .refl _, .refl _, .refl _, .refl _, .refl _, .refl _, trivial⟩ ⟨rfl, rfl, rfl, trivial⟩) ?_
        intro p i
        have i1 := i.p2
        have i2 := i.pm
        have i3 := i.l1
        have i4 := i.lm
        have i5 := i.h0
        have i6 := i.hb
        refine AWp_seq ?_
        refine AWp_seq ?_
        refine AWp_region hP ?_
        refine RK.val guard_none (op_move (rfl : _ = AV.p (.c _))) ?_
        refine RK.val guard_none (op_move (rfl : _ = AV.p (.c _))) ?_
        refine RK.val guard_none (op_leq rfl rfl) ?_
        refine RK.done (by kernel_rfl) ?_
        refine AWp_cond rfl (fun hb4 => ?_) (fun hb4 => ?_)
        · have hb4_ := of_decide_eq_true hb4
          have hm := i.mul
          have ip : LB p.2.2 6 := ⟨by unfold L; omega⟩
          have hkb := kr_b d p.2.2
          refine AWp_skip ?_
          refine AWp_seq ?_
          refine AWp_block ?_
          refine AWp_seq_cut (ι := Unit) (fun _ => stL [(2, .loc 2 0), (3, .loc 3 0), (4, .loc 4 0), (6, Z (szN d)), (10, Z f), (12, Z (rtS d p.1 p.2.1 p.2.2)), (13, Z p.2.1), (14, Z p.2.2)] [(2, ⟨false, 1, 28, [zn (d), zm (d)]⟩), (3, ⟨false, 1, 28, [zn (f), zm (f)]⟩), (4, ⟨false, 1, 28, [zn (0), zm (0)]⟩)]) (fun _ => True) ?_ ?_
          · refine AWp_seq ?_
            refine AWp_region hP ?_
            refine RK.val guard_none (op_move (rfl : _ = AV.p (.c _))) ?_
            refine RK.val guard_none (op_move (rfl : _ = AV.p (.c _))) ?_
            refine RK.val guard_none (op_rem rfl rfl (by omega) (c := p.2.1 % p.2.2) (Int.tmod_eq_emod_of_nonneg (by omega))) ?_
            refine RK.val guard_none (op_eql rfl rfl) ?_
            refine RK.done (by kernel_rfl) ?_
            refine AWp_cond rfl (fun hb5 => ?_) (fun hb5 => ?_)
            · have hb5_ := bT hb5
              refine AWp_region hP ?_
              refine RK.val guard_none (op_move (rfl : _ = AV.p (.c _))) ?_
              refine RK.val guard_none (op_move (rfl : _ = AV.p (.c _))) ?_
              refine RK.val guard_none (op_quo rfl rfl (by omega) (c := p.1 / p.2.2) (by rw [Int.tdiv_eq_ediv_of_nonneg (by omega), IntWalk.i64_in _ (by omega)])) ?_
              refine RK.val guard_none (op_move (rfl : _ = AV.p (.c _))) ?_
              refine RK.val guard_none (op_load_agg hT rfl rfl rfl rfl (cs := [_, _]) rfl rfl) ?_
              refine RK.val guard_none (op_move (rfl : _ = AV.p (.c _))) ?_
              refine RK.val guard_none (Eff.call0 (c_number _ (by unfold InI64; omega))) ?_
              refine RK.val guard_none (Eff.call0 (m_Kronecker _ _ lz lz)) ?_
              refine RK.val guard_none (op_sub rfl rfl (by first | exact IntWalk.i64_in _ (by omega) | rfl)) ?_
              refine RK.val guard_none (op_mul rfl rfl (by first | exact IntWalk.i64_in _ (by omega) | rfl)) ?_
              refine RK.val guard_none (op_assign (rfl : _ = AV.p (.c _))) ?_
              refine RK.done (by kernel_rfl) ?_
              refine ⟨(), trivial, le_stL ⟨.refl _, .refl _, .refl _, .refl _, .refl _, Sub.int (by unfold rtS; rw [if_pos hb5_]), .refl _, .refl _, trivial⟩ ⟨rfl, rfl, rfl, trivial⟩⟩
            · have hb5_ := bF hb5
              refine AWp_skip ?_
              refine ⟨(), trivial, le_stL ⟨.refl _, .refl _, .refl _, .refl _, .refl _, Sub.int (by unfold rtS; rw [if_neg hb5_]), .refl _, .refl _, trivial⟩ ⟨rfl, rfl, rfl, trivial⟩⟩
          intro _ _
          refine AWp_block ?_
          refine AWp_loop (ι := Int) (fun x => stL [(2, .loc 2 0), (3, .loc 3 0), (4, .loc 4 0), (6, Z (szN d)), (10, Z f), (12, Z (rtS d p.1 p.2.1 p.2.2)), (13, Z x), (14, Z p.2.2)] [(2, ⟨false, 1, 28, [zn (d), zm (d)]⟩), (3, ⟨false, 1, 28, [zn (f), zm (f)]⟩), (4, ⟨false, 1, 28, [zn (0), zm (0)]⟩)]) (fun x => DvI (dv p.2.2 p.2.1) p.2.2 x f) (fun x => x.toNat) p.2.1 (DvI.start_m i.l1 i.lm) (le_stL ⟨.refl _, .refl _, .refl _, .refl _, .refl _, .refl _, .refl _, .refl _, trivial⟩ ⟨rfl, rfl, rfl, trivial⟩) ?_
          intro x j
          have j1 := j.x1
          have j2 := j.xm
          refine AWp_seq ?_
          refine AWp_seq ?_
          refine AWp_region hP ?_
          refine RK.val guard_none (op_move (rfl : _ = AV.p (.c _))) ?_
          refine RK.val guard_none (op_move (rfl : _ = AV.p (.c _))) ?_
          refine RK.val guard_none (op_rem rfl rfl (by omega) (c := x % p.2.2) (Int.tmod_eq_emod_of_nonneg (by omega))) ?_
          refine RK.val guard_none (op_eql rfl rfl) ?_
          refine RK.done (by kernel_rfl) ?_
          refine AWp_cond rfl (fun hb6 => ?_) (fun hb6 => ?_)
          · have hb6_ := bT hb6
            have hxq := dq_b (show 0 ≤ x by omega) i1
            refine AWp_skip ?_
            refine AWp_block ?_
            refine AWp_region hP ?_
            refine RK.val guard_none (op_move (rfl : _ = AV.p (.c _))) ?_
            refine RK.val guard_none (op_move (rfl : _ = AV.p (.c _))) ?_
            refine RK.val guard_none (op_quo rfl rfl (by omega) (c := x / p.2.2) (by rw [Int.tdiv_eq_ediv_of_nonneg (by omega), IntWalk.i64_in _ (by omega)])) ?_
            refine RK.val guard_none (op_assign (rfl : _ = AV.p (.c _))) ?_
            refine RK.done (by kernel_rfl) ?_
            have hy := j.next i.p2 hb6_
            refine ⟨x / p.2.2, hy.1, hy.2, le_stL ⟨.refl _, .refl _, .refl _, .refl _, .refl _, .refl _, .refl _, .refl _, trivial⟩ ⟨rfl, rfl, rfl, trivial⟩⟩
          · have hb6_ := bF hb6
            refine AWp_exit ?_
            refine AWp_region hP ?_
            refine RK.val guard_none (op_move (rfl : _ = AV.p (.c _))) ?_
            refine RK.val guard_none (op_add rfl rfl (by first | exact IntWalk.i64_in _ (by omega) | rfl)) ?_
            refine RK.val guard_none (op_assign (rfl : _ = AV.p (.c _))) ?_
            refine RK.done (by kernel_rfl) ?_
            have jx := j.stop hb6_
            have hz := i.next hb4_
            refine ⟨(rtS d p.1 p.2.1 p.2.2, dv p.2.2 p.2.1, p.2.2 + 1), hz.1, hz.2, le_stL ⟨.refl _, .refl _, .refl _, .refl _, .refl _, .refl _, Sub.int jx, .refl _, trivial⟩ ⟨rfl, rfl, rfl, trivial⟩⟩
        · have hb4_ := of_decide_eq_false hb4
          refine AWp_exit ?_
          refine AWp_seq ?_
          refine AWp_map2 Tryz.underlying101 Tryz.underlying2 rfl rfl ?_
          refine AWp_seq ?_
          refine AWp_seq ?_
          refine AWp_region hP ?_
          refine RK.val guard_none (op_move (rfl : _ = AV.ax _)) ?_
          refine RK.val guard_none (op_move (rfl : _ = AV.p (.c _))) ?_
          refine RK.val guard_none (op_lookup2 Tryz.underlying101 Tryz.underlying2 (fun _ => by kernel_rfl) rfl rfl (rt_map _)) ?_
          refine RK.val guard_none (op_move (rfl : _ = AV.t _)) ?_
          refine RK.val guard_none (op_extract rfl (v := .c _) rfl) ?_
          refine RK.val guard_none (op_extract rfl (v := .c _) rfl) ?_
          refine RK.val guard_none (op_assign (rfl : _ = AV.p (.c _))) ?_
          refine RK.val guard_none (op_assign (rfl : _ = AV.p (.c _))) ?_
          refine RK.done (by kernel_rfl) ?_
          refine AWp_seq ?_
          refine AWp_region hP ?_
          refine RK.val guard_none (op_move (rfl : _ = AV.p (.c _))) ?_
          refine RK.val guard_none (op_move (rfl : _ = AV.p (.c _))) ?_
          refine RK.split (t := 91) rfl (fun hg7 => ?_) (fun hg7 => ?_)
          · refine RK.val (guard_yes rfl rfl hg7) (op_move (rfl : _ = AV.p (.c _))) ?_
            refine RK.val (guard_yes rfl rfl hg7) (op_gtr rfl rfl) ?_
            refine RK.val guard_none (op_pick_t rfl hg7 (rfl : _ = AV.p (.c _))) ?_
            refine RK.done (by kernel_rfl) ?_
            refine AWp_cond rfl (fun hb8 => ?_) (fun hb8 => ?_)
            · have hb8_ := of_decide_eq_true hb8
              have hM := rtM_b hg7
              have hq := dq_b i.h0 hM
              refine AWp_region hP ?_
              refine RK.val guard_none (op_move (rfl : _ = AV.p (.c _))) ?_
              refine RK.val guard_none (op_move (rfl : _ = AV.p (.c _))) ?_
              refine RK.val guard_none (op_quo rfl rfl (by omega) (c := p.1 / rtM (szN d)) (by rw [Int.tdiv_eq_ediv_of_nonneg (by omega), IntWalk.i64_in _ (by omega)])) ?_
              refine RK.val guard_none (op_assign (rfl : _ = AV.p (.c _))) ?_
              refine RK.done (by kernel_rfl) ?_
              refine AWp_seq ?_
              refine AWp_region hP ?_
              refine RK.val guard_none (op_move (rfl : _ = AV.p (.c _))) ?_
              refine RK.val guard_none (Eff.call0 (c_number _ (by unfold InI64; omega))) ?_
              refine RK.sto guard_none (op_store hT rfl rfl rfl rfl rfl rfl (cs := [_, _]) rfl) ?_
              refine RK.val guard_none (op_assign (rfl : _ = AV.p (.c _))) ?_
              refine RK.done (by kernel_rfl) ?_
              refine AWp_ret ?_
              refine ends_two rfl (.inr rfl) (res_cell_agg hT rfl rfl rfl rfl (cs := [_, _]) rfl rfl) (res_tmp rfl) ?_ O_ends
              exact Sub.of_eq (rt_ok hb1_ hf1 hb3_ (by rw [if_pos ⟨hg7, hb8_⟩, ← i.stop hb4_]))
            · have hb8_ := of_decide_eq_false hb8
              refine AWp_skip ?_
              refine AWp_seq ?_
              refine AWp_region hP ?_
              refine RK.val guard_none (op_move (rfl : _ = AV.p (.c _))) ?_
              refine RK.val guard_none (Eff.call0 (c_number _ (by unfold InI64; omega))) ?_
              refine RK.sto guard_none (op_store hT rfl rfl rfl rfl rfl rfl (cs := [_, _]) rfl) ?_
              refine RK.val guard_none (op_assign (rfl : _ = AV.p (.c _))) ?_
              refine RK.done (by kernel_rfl) ?_
              refine AWp_ret ?_
              refine ends_two rfl (.inr rfl) (res_cell_agg hT rfl rfl rfl rfl (cs := [_, _]) rfl rfl) (res_tmp rfl) ?_ O_ends
              exact Sub.of_eq (rt_ok hb1_ hf1 hb3_ (by rw [if_neg (fun x => hb8_ x.2)]; exact i.stop hb4_))
          · refine RK.skip (guard_no rfl rfl hg7) ?_
            refine RK.skip (guard_no rfl rfl hg7) ?_
            refine RK.val guard_none (op_pick_f rfl hg7 (rfl : _ = AV.p (.c _))) ?_
            refine RK.done (by kernel_rfl) ?_
            refine AWp_cond_false rfl rfl ?_
            refine AWp_skip ?_
            refine AWp_seq ?_
            refine AWp_region hP ?_
            refine RK.val guard_none (op_move (rfl : _ = AV.p (.c _))) ?_
            refine RK.val guard_none (Eff.call0 (c_number _ (by unfold InI64; omega))) ?_
            refine RK.sto guard_none (op_store hT rfl rfl rfl rfl rfl rfl (cs := [_, _]) rfl) ?_
            refine RK.val guard_none (op_assign (rfl : _ = AV.p (.c _))) ?_
            refine RK.done (by kernel_rfl) ?_
            refine AWp_ret ?_
            refine ends_two rfl (.inr rfl) (res_cell_agg hT rfl rfl rfl rfl (cs := [_, _]) rfl rfl) (res_tmp rfl) ?_ O_ends
            exact Sub.of_eq (rt_ok hb1_ hf1 hb3_ (by rw [if_neg (fun x => by rw [hg7] at x; cases x.1)]; exact i.stop hb4_))

end Go.Proofs.YtkdfinfdocdpoaaGreatDoor
end

section
/- chapter 11: lists asked -/
namespace Go.Proofs.YtkdfinfdocdpoaaGreatDoor
open Go Go.AM

/- algorist/algoristref11.Disc -/
set_option maxHeartbeats 1000000 in
set_option maxRecDepth 100000 in
theorem r11_Disc (D : Nat) (hD : D < 65536) :
    Call0 Tryz.prog 7 [.p (.c (.v (.int .u16 (D : Int))))] (I (-(szz D))) := by
  obtain ⟨s1, s2, s3, s4, s5⟩ := szz_spec D
  have jn : InI64 (0 - szz D) := by unfold InI64; omega
  refine callM_of (np := 0) Tryz.func7 (by kernel_rfl) rfl rfl (Nat.le_of_ble_eq_true rfl) (fun m h => absurd rfl h) (fun m h => absurd rfl h) rfl ?_
  refine AWp_seq ?_
  refine AWp_region hP ?_
  refine RK.alc guard_none (op_alloc hT rfl rfl) ?_
  refine RK.done (by kernel_rfl) ?_
  refine AWp_seq ?_
  refine AWp_region hP ?_
  refine RK.val guard_none (op_move (rfl : _ = AV.p (.c _))) ?_
  refine RK.val guard_none (op_build_st hT rfl rfl rfl (es := [_, _, _, _, _, _, _, _, _]) rfl) ?_
  refine RK.val guard_none (Eff.call0 (r8_Size D 0 0 0 0 0 0 0 0 hD (by decide) (by decide) (by decide) (by decide) (by decide) (by decide) (by decide) (by decide))) ?_
  refine RK.val guard_none (op_uneg rfl (by first | exact IntWalk.i64_in _ (by omega) | rfl)) ?_
  refine RK.val guard_none (Eff.call0 (r_Of _ jn)) ?_
  refine RK.sto guard_none (op_store hT rfl rfl rfl rfl rfl rfl (cs := [_, _]) rfl) ?_
  refine RK.done (by kernel_rfl) ?_
  refine AWp_ret ?_
  refine ends_one rfl (.inr rfl) (res_cell_agg hT rfl rfl rfl rfl (cs := [_, _]) rfl rfl) ?_ O_ends
  exact Sub.I (by omega)

/- algorist/algoristref11.Same -/
set_option maxHeartbeats 1000000 in
set_option maxRecDepth 100000 in
theorem r11_Same (l m : List Fm) (hl : (l.length : Int) ≤ 1000000000) :
    Call0 Tryz.prog 15 [.p (.c (FS l)), .p (.c (FS m))] (B (decide (l = m))) := by
  refine callM_of (np := 0) Tryz.func15 (by kernel_rfl) rfl rfl (Nat.le_of_ble_eq_true rfl) (fun m h => absurd rfl h) (fun m h => absurd rfl h) rfl ?_
  refine AWp_seq ?_
  refine AWp_region hP ?_
  refine RK.val guard_none (op_assign (rfl : _ = AV.p (.c _))) ?_
  refine RK.done (by kernel_rfl) ?_
  refine AWp_seq ?_
  refine AWp_seq ?_
  refine AWp_region hP ?_
  refine RK.val guard_none (op_move (rfl : _ = AV.p (.c _))) ?_
  refine RK.val guard_none (op_len hT rfl rfl rfl (by rfl)) ?_
  refine RK.val guard_none (op_move (rfl : _ = AV.p (.c _))) ?_
  refine RK.val guard_none (op_len hT rfl rfl rfl (by rfl)) ?_
  refine RK.val guard_none (op_neq rfl rfl) ?_
  refine RK.done (by kernel_rfl) ?_
  refine AWp_cond rfl (fun hb1 => ?_) (fun hb1 => ?_)
  · have hb1_ := bneT hb1
    refine AWp_seq ?_
    refine AWp_region hP ?_
    refine RK.val guard_none (op_assign (rfl : _ = AV.p (.c _))) ?_
    refine RK.done (by kernel_rfl) ?_
    refine AWp_ret ?_
    refine ends_one rfl (.inr rfl) (res_tmp rfl) ?_ O_ends
    exact Sub.bool (len_ne hb1_)
  · have hb1_ := bneF hb1
    refine AWp_skip ?_
    refine AWp_seq ?_
    refine AWp_seq ?_
    refine AWp_region hP ?_
    refine RK.val guard_none (op_assign (rfl : _ = AV.p (.c _))) ?_
    refine RK.done (by kernel_rfl) ?_
    refine AWp_block ?_
    refine AWp_loop (ι := Nat) (fun k => stL [(0, .p (.c (FS l))), (1, .p (.c (FS m))), (5, Z (k : Int))] []) (fun k => SmI l m k) (fun k => l.length - k) 0 (SmI.start l m) (le_stL ⟨.refl _, .refl _, .refl _, trivial⟩ trivial) ?_
    intro k hI
    have hk := hI.k1
    refine AWp_seq ?_
    refine AWp_seq ?_
    refine AWp_region hP ?_
    refine RK.val guard_none (op_move (rfl : _ = AV.p (.c _))) ?_
    refine RK.val guard_none (op_move (rfl : _ = AV.p (.c _))) ?_
    refine RK.val guard_none (op_len hT rfl rfl rfl (by rfl)) ?_
    refine RK.val guard_none (op_lss rfl rfl) ?_
    refine RK.done (by kernel_rfl) ?_
    refine AWp_cond rfl (fun hb2 => ?_) (fun hb2 => ?_)
    · have hb2_ := of_decide_eq_true hb2
      refine AWp_skip ?_
      refine AWp_seq ?_
      refine AWp_block ?_
      refine AWp_seq ?_
      refine AWp_region hP ?_
      refine RK.val guard_none (op_move (rfl : _ = AV.p (.c _))) ?_
      refine RK.val guard_none (op_move (rfl : _ = AV.p (.c _))) ?_
      refine RK.val guard_none (op_indexF hT rfl rfl rfl rfl rfl rfl (by omega)) ?_
      refine RK.val guard_none (op_load_ip_agg hT rfl rfl rfl (cs := FC (l.getD k ⟨0, 0, 0⟩)) rfl rfl) ?_
      refine RK.val guard_none (op_move (rfl : _ = AV.p (.c _))) ?_
      refine RK.val guard_none (op_move (rfl : _ = AV.p (.c _))) ?_
      refine RK.val guard_none (op_indexF hT rfl rfl rfl rfl rfl rfl (by omega)) ?_
      refine RK.val guard_none (op_load_ip_agg hT rfl rfl rfl (cs := FC (m.getD k ⟨0, 0, 0⟩)) rfl rfl) ?_
      refine RK.val guard_none (Eff.call0 (r8_Equal ((l.getD k ⟨0, 0, 0⟩)).a ((l.getD k ⟨0, 0, 0⟩)).b ((l.getD k ⟨0, 0, 0⟩)).c (m.getD k ⟨0, 0, 0⟩).a (m.getD k ⟨0, 0, 0⟩).b (m.getD k ⟨0, 0, 0⟩).c)) ?_
      refine RK.val guard_none (op_unot rfl) ?_
      refine RK.done (by kernel_rfl) ?_
      refine AWp_cond rfl (fun hb3 => ?_) (fun hb3 => ?_)
      · have hb3_ := (notT hb3)
        refine AWp_seq ?_
        refine AWp_region hP ?_
        refine RK.val guard_none (op_assign (rfl : _ = AV.p (.c _))) ?_
        refine RK.done (by kernel_rfl) ?_
        refine AWp_ret ?_
        refine ends_one rfl (.inr rfl) (res_tmp rfl) ?_ O_ends
        exact Sub.bool (SmI.no (l := l) (m := m) (k := k) (notT hb3))
      · have hb3_ := (notF hb3)
        refine AWp_skip ?_
        refine AWp_region hP ?_
        refine RK.val guard_none (op_move (rfl : _ = AV.p (.c _))) ?_
        refine RK.val guard_none (op_add rfl rfl (by first | exact IntWalk.i64_in _ (by omega) | rfl)) ?_
        refine RK.val guard_none (op_assign (rfl : _ = AV.p (.c _))) ?_
        refine RK.done (by kernel_rfl) ?_
        refine ⟨k + 1, hI.next (by omega) (notF hb3), by omega, le_stL ⟨.refl _, .refl _, Sub.int (by omega), trivial⟩ trivial⟩
    · have hb2_ := of_decide_eq_false hb2
      refine AWp_exit ?_
      refine AWp_seq ?_
      refine AWp_region hP ?_
      refine RK.val guard_none (op_assign (rfl : _ = AV.p (.c _))) ?_
      refine RK.done (by kernel_rfl) ?_
      refine AWp_ret ?_
      refine ends_one rfl (.inr rfl) (res_tmp rfl) ?_ O_ends
      exact Sub.bool (hI.yes hb1_ hb2_)

/- algorist/algoristref01.Low -/
set_option maxHeartbeats 1000000 in
set_option maxRecDepth 100000 in
theorem r_Low (a : Int) (_ha : L 44 a) :
    Call0 Tryz.prog 36 [I a] (.t [.c (.v (.int .i64 (lwV a))), .c (.v (.bool (lwO a)))]) := by
  have ok := wl_ok a.natAbs
  have hv := v0_lt a.natAbs
  refine callM_of (np := 0) Tryz.func36 (by kernel_rfl) rfl rfl (Nat.le_of_ble_eq_true rfl) (fun m h => absurd rfl h) (fun m h => absurd rfl h) rfl ?_
  refine AWp_seq ?_
  refine AWp_region hP ?_
  refine RK.alc guard_none (op_box rfl rfl) ?_
  refine RK.val guard_none (op_assign (rfl : _ = AV.p (.c _))) ?_
  refine RK.val guard_none (op_assign (rfl : _ = AV.p (.c _))) ?_
  refine RK.done (by kernel_rfl) ?_
  refine AWp_seq ?_
  refine AWp_region hP ?_
  refine RK.val guard_none (op_field_loc hT rfl rfl rfl rfl rfl rfl) ?_
  refine RK.val guard_none (op_load_one hT rfl rfl rfl rfl (by first | rfl | exact vget (by omega))) ?_
  refine RK.val guard_none (Eff.call0 (r_word _ _ (by assumption))) ?_
  refine RK.val guard_none (op_field_loc hT rfl rfl rfl rfl rfl rfl) ?_
  refine RK.val guard_none (op_load_one hT rfl rfl rfl rfl (by first | rfl | exact vget (by omega))) ?_
  refine RK.val guard_none (Eff.call0 (r_word _ _ (by assumption))) ?_
  refine RK.val guard_none (op_shlN (j := 32) rfl rfl (by decide) rfl) ?_
  refine RK.val guard_none (op_or rfl rfl (v0_or _)) ?_
  refine RK.val guard_none (op_assign (rfl : _ = AV.p (.c _))) ?_
  refine RK.done (by kernel_rfl) ?_
  refine AWp_seq ?_
  refine AWp_seq ?_
  refine AWp_region hP ?_
  refine RK.val guard_none (op_field_loc hT rfl rfl rfl rfl rfl rfl) ?_
  refine RK.val guard_none (op_load_one hT rfl rfl rfl rfl (by first | rfl | exact vget (by omega))) ?_
  refine RK.val guard_none (op_len hT rfl rfl rfl (by rfl)) ?_
  refine RK.val guard_none (op_gtr rfl rfl) ?_
  refine RK.val guard_none (op_move (rfl : _ = AV.p (.c _))) ?_
  refine RK.split (t := 17) rfl (fun hg1 => ?_) (fun hg1 => ?_)
  · have hg1_ := of_decide_eq_true hg1
    have e2 := not_two (n := a.natAbs) (by omega)
    refine RK.skip (guard_no rfl rfl hg1) ?_
    refine RK.skip (guard_no rfl rfl hg1) ?_
    refine RK.val guard_none (op_pick_t rfl hg1 (rfl : _ = AV.p (.c _))) ?_
    refine RK.val guard_none (op_move (rfl : _ = AV.p (.c _))) ?_
    refine RK.skip (guard_no rfl rfl rfl) ?_
    refine RK.skip (guard_no rfl rfl rfl) ?_
    refine RK.skip (guard_no rfl rfl rfl) ?_
    refine RK.skip (guard_sk rfl rfl) ?_
    refine RK.skip (guard_sk rfl rfl) ?_
    refine RK.skip (guard_sk rfl rfl) ?_
    refine RK.skip (guard_no rfl rfl rfl) ?_
    refine RK.val guard_none (op_pick_t rfl rfl (rfl : _ = AV.p (.c _))) ?_
    refine RK.done (by kernel_rfl) ?_
    refine AWp_cond_true rfl rfl ?_
    refine AWp_seq ?_
    refine AWp_region hP ?_
    refine RK.val guard_none (op_assign (rfl : _ = AV.p (.c _))) ?_
    refine RK.val guard_none (op_assign (rfl : _ = AV.p (.c _))) ?_
    refine RK.done (by kernel_rfl) ?_
    refine AWp_ret ?_
    refine ends_two rfl (.inr rfl) (res_tmp rfl) (res_tmp rfl) ?_ O_ends
    exact Sub.of_eq (lw_no (by omega))
  · have hg1_ := of_decide_eq_false hg1
    have e2 := v0_eq (n := a.natAbs) (by omega)
    refine RK.val (guard_yes rfl rfl hg1) (op_move (rfl : _ = AV.p (.c _))) ?_
    refine RK.val (guard_yes rfl rfl hg1) (op_gtr rfl rfl) ?_
    refine RK.val guard_none (op_pick_f rfl hg1 (rfl : _ = AV.p (.c _))) ?_
    refine RK.val guard_none (op_move (rfl : _ = AV.p (.c _))) ?_
    refine RK.split (t := 21) rfl (fun hg2 => ?_) (fun hg2 => ?_)
    · have hg2_ := of_decide_eq_true hg2
      refine RK.skip (guard_no rfl rfl hg2) ?_
      refine RK.skip (guard_no rfl rfl hg2) ?_
      refine RK.skip (guard_no rfl rfl hg2) ?_
      refine RK.skip (guard_sk rfl rfl) ?_
      refine RK.skip (guard_sk rfl rfl) ?_
      refine RK.skip (guard_sk rfl rfl) ?_
      refine RK.skip (guard_no rfl rfl hg2) ?_
      refine RK.val guard_none (op_pick_t rfl hg2 (rfl : _ = AV.p (.c _))) ?_
      refine RK.done (by kernel_rfl) ?_
      refine AWp_cond_true rfl rfl ?_
      refine AWp_seq ?_
      refine AWp_region hP ?_
      refine RK.val guard_none (op_assign (rfl : _ = AV.p (.c _))) ?_
      refine RK.val guard_none (op_assign (rfl : _ = AV.p (.c _))) ?_
      refine RK.done (by kernel_rfl) ?_
      refine AWp_ret ?_
      refine ends_two rfl (.inr rfl) (res_tmp rfl) (res_tmp rfl) ?_ O_ends
      exact Sub.of_eq (lw_no (by omega))
    · have hg2_ := of_decide_eq_false hg2
      refine RK.val (guard_yes rfl rfl hg2) (op_move (rfl : _ = AV.p (.c _))) ?_
      refine RK.val (guard_yes rfl rfl hg2) (op_eql rfl rfl) ?_
      refine RK.val (guard_yes rfl rfl hg2) (op_move (rfl : _ = AV.p (.c _))) ?_
      refine RK.split (t := 24) rfl (fun hg3 => ?_) (fun hg3 => ?_)
      · have hg3_ := bT hg3
        refine RK.val (guard_yes rfl rfl hg3) (op_field_loc hT rfl rfl rfl rfl rfl rfl) ?_
        refine RK.val (guard_yes rfl rfl hg3) (op_load_one hT rfl rfl rfl rfl (by first | rfl | exact vget (by omega))) ?_
        refine RK.val (guard_yes rfl rfl hg3) (op_unot rfl) ?_
        refine RK.val (guard_yes rfl rfl hg2) (op_pick_t rfl hg3 (rfl : _ = AV.p (.c _))) ?_
        refine RK.val guard_none (op_pick_f rfl hg2 (rfl : _ = AV.p (.c _))) ?_
        refine RK.done (by kernel_rfl) ?_
        refine AWp_cond rfl (fun hb4 => ?_) (fun hb4 => ?_)
        · have hb4_ := (notT hb4)
          have hz : ¬ a < 0 := of_decide_eq_false (notT hb4)
          refine AWp_seq ?_
          refine AWp_region hP ?_
          refine RK.val guard_none (op_assign (rfl : _ = AV.p (.c _))) ?_
          refine RK.val guard_none (op_assign (rfl : _ = AV.p (.c _))) ?_
          refine RK.done (by kernel_rfl) ?_
          refine AWp_ret ?_
          refine ends_two rfl (.inr rfl) (res_tmp rfl) (res_tmp rfl) ?_ O_ends
          exact Sub.of_eq (lw_no (by omega))
        · have hb4_ := (notF hb4)
          have hz : a < 0 := of_decide_eq_true (notF hb4)
          refine AWp_skip ?_
          refine AWp_seq ?_
          refine AWp_seq ?_
          refine AWp_region hP ?_
          refine RK.val guard_none (op_field_loc hT rfl rfl rfl rfl rfl rfl) ?_
          refine RK.val guard_none (op_load_one hT rfl rfl rfl rfl (by first | rfl | exact vget (by omega))) ?_
          refine RK.done (by kernel_rfl) ?_
          refine AWp_cond rfl (fun hb5 => ?_) (fun hb5 => ?_)
          · have hs : a < 0 := of_decide_eq_true (by assumption)
            refine AWp_seq ?_
            refine AWp_region hP ?_
            refine RK.val guard_none (op_move (rfl : _ = AV.p (.c _))) ?_
            refine RK.val guard_none (op_conv hT rfl rfl rfl rfl (wrap_w63 (by omega))) ?_
            refine RK.val guard_none (op_uneg rfl (wrap_n63 (by omega))) ?_
            refine RK.val guard_none (op_assign (rfl : _ = AV.p (.c _))) ?_
            refine RK.val guard_none (op_assign (rfl : _ = AV.p (.c _))) ?_
            refine RK.done (by kernel_rfl) ?_
            refine AWp_ret ?_
            refine ends_two rfl (.inr rfl) (res_tmp rfl) (res_tmp rfl) ?_ O_ends
            exact Sub.of_eq (lw_yes (by omega) (by omega))
          · have hs : ¬ a < 0 := of_decide_eq_false (by assumption)
            refine AWp_skip ?_
            refine AWp_seq ?_
            refine AWp_region hP ?_
            refine RK.val guard_none (op_move (rfl : _ = AV.p (.c _))) ?_
            refine RK.val guard_none (op_conv hT rfl rfl rfl rfl (by first | exact IntWalk.i64_in _ (by omega) | rfl)) ?_
            refine RK.val guard_none (op_assign (rfl : _ = AV.p (.c _))) ?_
            refine RK.val guard_none (op_assign (rfl : _ = AV.p (.c _))) ?_
            refine RK.done (by kernel_rfl) ?_
            refine AWp_ret ?_
            refine ends_two rfl (.inr rfl) (res_tmp rfl) (res_tmp rfl) ?_ O_ends
            exact Sub.of_eq (lw_yes (by omega) (by omega))
      · have hg3_ := bF hg3
        refine RK.skip (guard_no rfl rfl hg3) ?_
        refine RK.skip (guard_no rfl rfl hg3) ?_
        refine RK.skip (guard_no rfl rfl hg3) ?_
        refine RK.val (guard_yes rfl rfl hg2) (op_pick_f rfl hg3 (rfl : _ = AV.p (.c _))) ?_
        refine RK.val guard_none (op_pick_f rfl hg2 (rfl : _ = AV.p (.c _))) ?_
        refine RK.done (by kernel_rfl) ?_
        refine AWp_cond_false rfl rfl ?_
        refine AWp_skip ?_
        refine AWp_seq ?_
        refine AWp_seq ?_
        refine AWp_region hP ?_
        refine RK.val guard_none (op_field_loc hT rfl rfl rfl rfl rfl rfl) ?_
        refine RK.val guard_none (op_load_one hT rfl rfl rfl rfl (by first | rfl | exact vget (by omega))) ?_
        refine RK.done (by kernel_rfl) ?_
        refine AWp_cond rfl (fun hb6 => ?_) (fun hb6 => ?_)
        · have hs : a < 0 := of_decide_eq_true (by assumption)
          refine AWp_seq ?_
          refine AWp_region hP ?_
          refine RK.val guard_none (op_move (rfl : _ = AV.p (.c _))) ?_
          refine RK.val guard_none (op_conv hT rfl rfl rfl rfl (wrap_w63 (by omega))) ?_
          refine RK.val guard_none (op_uneg rfl (wrap_n63 (by omega))) ?_
          refine RK.val guard_none (op_assign (rfl : _ = AV.p (.c _))) ?_
          refine RK.val guard_none (op_assign (rfl : _ = AV.p (.c _))) ?_
          refine RK.done (by kernel_rfl) ?_
          refine AWp_ret ?_
          refine ends_two rfl (.inr rfl) (res_tmp rfl) (res_tmp rfl) ?_ O_ends
          exact Sub.of_eq (lw_yes (by omega) (by omega))
        · have hs : ¬ a < 0 := of_decide_eq_false (by assumption)
          refine AWp_skip ?_
          refine AWp_seq ?_
          refine AWp_region hP ?_
          refine RK.val guard_none (op_move (rfl : _ = AV.p (.c _))) ?_
          refine RK.val guard_none (op_conv hT rfl rfl rfl rfl (by first | exact IntWalk.i64_in _ (by omega) | rfl)) ?_
          refine RK.val guard_none (op_assign (rfl : _ = AV.p (.c _))) ?_
          refine RK.val guard_none (op_assign (rfl : _ = AV.p (.c _))) ?_
          refine RK.done (by kernel_rfl) ?_
          refine AWp_ret ?_
          refine ends_two rfl (.inr rfl) (res_tmp rfl) (res_tmp rfl) ?_ O_ends
          exact Sub.of_eq (lw_yes (by omega) (by omega))

end Go.Proofs.YtkdfinfdocdpoaaGreatDoor
end
