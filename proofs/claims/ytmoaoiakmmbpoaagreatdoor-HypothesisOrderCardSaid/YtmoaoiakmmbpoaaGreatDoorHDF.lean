/- Texts merged by program, in build order. -/
import Derived.Test.YtmoaoiakmmbpoaaGreatDoorHDD
import Derived.Test.YtmoaoiakmmbpoaaGreatDoorHDC
import Derived.Test.YtmoaoiakmmbpoaaGreatDoorHDE
section
/- chapter 30: Order -/
namespace Go.Proofs.YtmoaoiakmmbpoaaGreatDoor
open Go Go.AM
/- algorist/algoristlaw30.HypothesisOrder -/
set_option maxHeartbeats 4000000 in
set_option maxRecDepth 100000 in
theorem l_HypothesisOrder (R : List Raw) (g : UInt8) (x : Raw) :
  Call0 Tryz.prog 8 [.p (.c (SL enR R)), .p (.c (.v (.int .u8 (g.toNat : Int)))), .p (.a (enR x))] (B true) := by
 have hgw := gw_back (b := madeB R g) (n := 9) (made_ok R g) (hyF_srt _ _) rfl (fun h => by have := made_mem h; omega)
 have hml := made_len R g
 refine callM_of (np := 0) Tryz.func8 (by kernel_rfl) rfl rfl (Nat.le_of_ble_eq_true rfl) (fun m h => absurd rfl h) (fun m h => absurd rfl h) rfl ?_
 refine AWp_sr hP ?_
 refine RK.alc guard_none (op_box rfl rfl) ?_
 refine RK.As rfl ?_
 refine RK.D ?_
 refine AWp_sr hP ?_
 refine RK.V (Eff.call0 p_examples) ?_
 refine RK.As rfl ?_
 refine RK.D ?_
 refine AWp_seq ?_
 refine AWp_sr hP ?_
 refine RK.M rfl ?_
 refine RK.V (op_unot rfl) ?_
 refine RK.D ?_
 refine AWp_cond_false rfl rfl ?_
 refine AWp_skip ?_
 refine AWp_sr hP ?_
 refine RK.M rfl ?_
 refine RK.M rfl ?_
 refine RK.V (Eff.call0 (p_Made R g)) ?_
 refine RK.alc guard_none (op_alloc hT rfl rfl) ?_
 refine RK.S hT rfl rfl rfl rfl rfl rfl rfl ?_
 refine RK.D ?_
 refine AWp_sr hP ?_
 refine RK.V (op_build_st hT rfl rfl rfl (es := [_, _, _]) rfl) ?_
 refine RK.alc guard_none (op_alloc hT rfl rfl) ?_
 refine RK.S hT rfl rfl rfl rfl rfl rfl rfl ?_
 refine RK.D ?_
 refine AWp_seq ?_
 refine AWp_sr hP ?_
 refine RK.As rfl ?_
 refine RK.D ?_
 refine AWp_block ?_
 refine AWp_loop (ι := Nat) (fun j => stL [(5, .loc 5 0), (7, B true), (8, .loc 8 0), (9, .loc 9 0), (10, Z (j : Int))] [(5, ⟨false, 1, 39, enR x⟩), (8, ⟨false, 1, 27, enBk (madeB R g)⟩), (9, ⟨false, 1, 42, [SL enD (([], grK g ((j : Int) + 1)) : Book).1, SL enZ (([], grK g ((j : Int) + 1)) : Book).2, .v (.int .i64 0)]⟩)]) (fun j => j ≤ 8) (fun j => j) 8 (Nat.le_refl _) (le_stL ⟨.refl _, .refl _, .refl _, .refl _, .refl _, trivial⟩ ⟨rfl, rfl, Eq.trans rfl (congrArg (fun l => some (⟨false, 1, 42, [SL enD [], SL enZ l, .v (.int .i64 0)]⟩ : Blk)) (show ([] : List Int) = grK g (((8 : Nat) : Int) + 1) by rw [show (((8 : Nat) : Int) + 1) = 9 from rfl, grK_9])), trivial⟩) ?_
 rintro j hj
 refine AWp_seq ?_
 refine AWp_sr hP ?_
 refine RK.M rfl ?_
 refine RK.V (op_geq rfl rfl) ?_
 refine RK.D ?_
 refine AWp_cond rfl (fun hb1 => ?_) (fun hb1 => ?_)
 ·have hb1_ := of_decide_eq_true hb1
  have ej : (((j - 1 : Nat) : Int) + 1) = (j : Int) := by omega
  refine AWp_skip ?_
  refine AWp_seq ?_
  refine AWp_block ?_
  refine AWp_seq ?_
  refine AWp_sr hP ?_
  refine RK.F hT rfl rfl rfl rfl rfl rfl ?_
  refine RK.V (op_load_one hT rfl rfl rfl rfl (by first | rfl | exact vget (by omega))) ?_
  refine RK.M rfl ?_
  refine RK.V (Eff.call0 (p_rHas (madeB R g).2 (j : Int))) ?_
  refine RK.D ?_
  refine AWp_cond rfl (fun hb2 => ?_) (fun hb2 => ?_)
  ·have hgy := gr_y (g := g) ⟨by omega, by omega⟩ (of_decide_eq_true hb2)
   refine AWp_region hP ?_
   refine RK.F hT rfl rfl rfl rfl rfl rfl ?_
   refine RK.G2 hT rfl rfl rfl rfl rfl rfl ?_
   refine RK.M rfl ?_
   refine RK.V (Eff.call0 (p_lgrant (([], grK g ((j : Int) + 1)) : Book) (j : Int) (grK_ok g _))) ?_
   refine RK.S hT rfl rfl rfl rfl rfl rfl rfl ?_
   refine RK.D ?_
   refine AWp_sr hP ?_
   refine RK.F hT rfl rfl rfl rfl rfl rfl ?_
   refine RK.V (op_load_one hT rfl rfl rfl rfl (by first | rfl | exact vget (by omega))) ?_
   refine RK.V (op_neq rfl rfl) ?_
   refine RK.D ?_
   refine AWp_cond_false rfl (by rw [hgy.2]; rfl) ?_
   refine AWp_skip ?_
   refine AWp_region hP ?_
   refine RK.M rfl ?_
   refine RK.V (op_sub rfl rfl (by first | exact IntWalk.i64_in _ (by omega) | rfl)) ?_
   refine RK.As rfl ?_
   refine RK.D ?_
   refine ⟨j - 1, by omega, by omega, le_stL ⟨.refl _, .refl _, .refl _, .refl _, Sub.int (by omega), trivial⟩ ⟨rfl, rfl, Eq.trans (congrArg (fun e : Int => some (⟨false, 1, 42, [SL enD (grantB ([], grK g ((j : Int) + 1)) (j : Int)).1, SL enZ (grantB ([], grK g ((j : Int) + 1)) (j : Int)).2, .v (.int .i64 e)]⟩ : Blk)) hgy.2) (congrArg (fun b : Book => some (⟨false, 1, 42, [SL enD b.1, SL enZ b.2, .v (.int .i64 0)]⟩ : Blk)) (hgy.1.trans (by rw [ej]))), trivial⟩⟩
  ·have hgn := gr_n (g := g) (of_decide_eq_false hb2)
   refine AWp_skip ?_
   refine AWp_sr hP ?_
   refine RK.F hT rfl rfl rfl rfl rfl rfl ?_
   refine RK.V (op_load_one hT rfl rfl rfl rfl (by first | rfl | exact vget (by omega))) ?_
   refine RK.V (op_neq rfl rfl) ?_
   refine RK.D ?_
   refine AWp_cond_false rfl rfl ?_
   refine AWp_skip ?_
   refine AWp_region hP ?_
   refine RK.M rfl ?_
   refine RK.V (op_sub rfl rfl (by first | exact IntWalk.i64_in _ (by omega) | rfl)) ?_
   refine RK.As rfl ?_
   refine RK.D ?_
   refine ⟨j - 1, by omega, by omega, le_stL ⟨.refl _, .refl _, .refl _, .refl _, Sub.int (by omega), trivial⟩ ⟨rfl, rfl, Eq.trans rfl (congrArg (fun l => some (⟨false, 1, 42, [SL enD [], SL enZ l, .v (.int .i64 0)]⟩ : Blk)) (hgn.trans (by rw [ej]))), trivial⟩⟩
 ·have hb1_ := of_decide_eq_false hb1
  have hj0 : j = 0 := by omega
  subst hj0
  refine AWp_exit ?_
  refine AWp_seq ?_
  refine AWp_sr hP ?_
  refine RK.F hT rfl rfl rfl rfl rfl rfl ?_
  refine RK.V (op_load_one hT rfl rfl rfl rfl (by first | rfl | exact vget (by omega))) ?_
  refine RK.V (op_len hT rfl rfl rfl (by rfl)) ?_
  refine RK.V (op_sub rfl rfl (by first | exact IntWalk.i64_in _ (by omega) | rfl)) ?_
  refine RK.As rfl ?_
  refine RK.D ?_
  refine AWp_block ?_
  refine AWp_loop (ι := Nat) (fun j => stL [(5, .loc 5 0), (7, B true), (8, .loc 8 0), (9, .loc 9 0), (11, Z ((j : Int) - 1))] [(5, ⟨false, 1, 39, enR x⟩), (8, ⟨false, 1, 27, enBk (madeB R g)⟩), (9, ⟨false, 1, 42, [SL enD (((madeB R g).1.drop j, (madeB R g).2) : Book).1, SL enZ (((madeB R g).1.drop j, (madeB R g).2) : Book).2, .v (.int .i64 0)]⟩)]) (fun j => j ≤ (madeB R g).1.length) (fun j => j) (madeB R g).1.length (Nat.le_refl _) (le_stL ⟨.refl _, .refl _, .refl _, .refl _, .refl _, trivial⟩ ⟨rfl, rfl, Eq.trans rfl (congrArg (fun b : Book => some (⟨false, 1, 42, [SL enD b.1, SL enZ b.2, .v (.int .i64 0)]⟩ : Blk)) (show (([], grK g (((0 : Nat) : Int) + 1)) : Book) = ((madeB R g).1.drop (madeB R g).1.length, (madeB R g).2) from Prod.ext List.drop_length.symm (by show grK g (((0 : Nat) : Int) + 1) = hyF g.toNat 8; rw [show (((0 : Nat) : Int) + 1) = 1 from rfl, grK_1]))), trivial⟩) ?_
  rintro j hj
  refine AWp_seq ?_
  refine AWp_sr hP ?_
  refine RK.M rfl ?_
  refine RK.V (op_geq rfl rfl) ?_
  refine RK.D ?_
  refine AWp_cond rfl (fun hb3 => ?_) (fun hb3 => ?_)
  ·have hb3_ := of_decide_eq_true hb3
   obtain ⟨k, rfl⟩ : ∃ k, j = k + 1 := ⟨j - 1, by omega⟩
   have hsub : (((k + 1 : Nat) : Int) - 1).toNat = k := by omega
   have hod : addE (((madeB R g).1.drop (k + 1), (madeB R g).2) : Book) ((madeB R g).1.getD (((k + 1 : Nat) : Int) - 1).toNat zD) = 0 ∧ addB (((madeB R g).1.drop (k + 1), (madeB R g).2) : Book) ((madeB R g).1.getD (((k + 1 : Nat) : Int) - 1).toNat zD) = ((madeB R g).1.drop k, (madeB R g).2) := by rw [hsub]; exact od_step (made_srt R g) (made_right R g) hml (by omega)
   refine AWp_skip ?_
   refine AWp_seq ?_
   refine AWp_block ?_
   refine AWp_sr hP ?_
   refine RK.F hT rfl rfl rfl rfl rfl rfl ?_
   refine RK.G2 hT rfl rfl rfl rfl rfl rfl ?_
   refine RK.F hT rfl rfl rfl rfl rfl rfl ?_
   refine RK.V (op_load_one hT rfl rfl rfl rfl (by first | rfl | exact vget (by omega))) ?_
   refine RK.M rfl ?_
   refine RK.V (op_indexG hT enD_len (by decide) zD (n := (((k + 1 : Nat) : Int) - 1)) (l := (madeB R g).1) rfl rfl rfl rfl rfl rfl (by omega)) ?_
   refine RK.V (op_load_ip_agg hT rfl rfl rfl (cs := enD ((madeB R g).1.getD (((k + 1 : Nat) : Int) - 1).toNat zD)) rfl rfl) ?_
   refine RK.V (Eff.call0 (p_ladd (((madeB R g).1.drop (k + 1), (madeB R g).2) : Book) ((madeB R g).1.getD (((k + 1 : Nat) : Int) - 1).toNat zD) (List.Pairwise.sublist (List.drop_sublist _ _) (made_srt R g)) (by rw [List.length_drop]; omega))) ?_
   refine RK.S hT rfl rfl rfl rfl rfl rfl rfl ?_
   refine RK.D ?_
   refine AWp_sr hP ?_
   refine RK.F hT rfl rfl rfl rfl rfl rfl ?_
   refine RK.V (op_load_one hT rfl rfl rfl rfl (by first | rfl | exact vget (by omega))) ?_
   refine RK.V (op_neq rfl rfl) ?_
   refine RK.D ?_
   refine AWp_cond_false rfl (by rw [hod.1]; rfl) ?_
   refine AWp_skip ?_
   refine AWp_region hP ?_
   refine RK.M rfl ?_
   refine RK.V (op_sub rfl rfl (by first | exact IntWalk.i64_in _ (by omega) | rfl)) ?_
   refine RK.As rfl ?_
   refine RK.D ?_
   refine ⟨k, by omega, by omega, le_stL ⟨.refl _, .refl _, .refl _, .refl _, Sub.int (by omega), trivial⟩ ⟨rfl, rfl, Eq.trans (congrArg (fun e : Int => some (⟨false, 1, 42, [SL enD (addB (((madeB R g).1.drop (k + 1), (madeB R g).2) : Book) ((madeB R g).1.getD (((k + 1 : Nat) : Int) - 1).toNat zD)).1, SL enZ (addB (((madeB R g).1.drop (k + 1), (madeB R g).2) : Book) ((madeB R g).1.getD (((k + 1 : Nat) : Int) - 1).toNat zD)).2, .v (.int .i64 e)]⟩ : Blk)) hod.1) (congrArg (fun b : Book => some (⟨false, 1, 42, [SL enD b.1, SL enZ b.2, .v (.int .i64 0)]⟩ : Blk)) hod.2), trivial⟩⟩
  ·have hb3_ := of_decide_eq_false hb3
   have hj0 : j = 0 := by omega
   subst hj0
   refine AWp_exit ?_
   refine AWp_sr hP ?_
   refine RK.V (op_load_agg hT rfl rfl rfl rfl (cs := [_, _, _]) rfl rfl) ?_
   refine RK.V (Eff.call0 (p_One x)) ?_
   refine RK.alc guard_none (op_alloc hT rfl rfl) ?_
   refine RK.S hT rfl rfl rfl rfl rfl rfl rfl ?_
   refine RK.D ?_
   refine AWp_seq ?_
   refine AWp_sr hP ?_
   refine RK.F hT rfl rfl rfl rfl rfl rfl ?_
   refine RK.G2 hT rfl rfl rfl rfl rfl rfl ?_
   refine RK.G2 hT rfl rfl rfl rfl rfl rfl ?_
   refine RK.V (Eff.call0 (p_rSame ((madeB R g).1.drop 0, (madeB R g).2) (madeB R g))) ?_
   refine RK.V (op_unot rfl) ?_
   refine RK.D ?_
   refine AWp_cond_false rfl (congrArg not (decide_eq_true rfl)) ?_
   refine AWp_skip ?_
   refine AWp_sr hP ?_
   refine RK.G2 hT rfl rfl rfl rfl rfl rfl ?_
   refine RK.V (op_load_agg hT rfl rfl rfl rfl (cs := enD (oneD x)) rfl rfl) ?_
   refine RK.V (Eff.call0 (p_ladd (madeB R g) (oneD x) (made_srt R g) (made_le R g))) ?_
   refine RK.alc guard_none (op_alloc hT rfl rfl) ?_
   refine RK.S hT rfl rfl rfl rfl rfl rfl rfl ?_
   refine RK.D ?_
   refine AWp_seq ?_
   refine AWp_sr hP ?_
   refine RK.F hT rfl rfl rfl rfl rfl rfl ?_
   refine RK.V (op_load_one hT rfl rfl rfl rfl (by first | rfl | exact vget (by omega))) ?_
   refine RK.V (op_eql rfl rfl) ?_
   refine RK.D ?_
   refine AWp_cond rfl (fun hb4 => ?_) (fun hb4 => ?_)
   ·have hb4_ := bT hb4
    have he : addE (madeB R g) (oneD x) = 0 := bT hb4
    have hbk := add_back (made_srt R g) he
    refine AWp_sr hP ?_
    refine RK.F hT rfl rfl rfl rfl rfl rfl ?_
    refine RK.G2 hT rfl rfl rfl rfl rfl rfl ?_
    refine RK.V (op_load_agg hT rfl rfl rfl rfl (cs := enD (oneD x)) rfl rfl) ?_
    refine RK.V (Eff.call0 (p_lremove (addB (madeB R g) (oneD x)) (oneD x) (addB_srt (b := madeB R g) (made_srt R g)) (by rw [addB_len he]; omega))) ?_
    refine RK.alc guard_none (op_alloc hT rfl rfl) ?_
    refine RK.S hT rfl rfl rfl rfl rfl rfl rfl ?_
    refine RK.D ?_
    refine AWp_sr hP ?_
    refine RK.F hT rfl rfl rfl rfl rfl rfl ?_
    refine RK.V (op_load_one hT rfl rfl rfl rfl (by first | rfl | exact vget (by omega))) ?_
    refine RK.V (op_neq rfl rfl) ?_
    refine RK.M rfl ?_
    refine RK.val (guard_yes rfl rfl (by rw [hbk.1]; rfl)) (op_field_loc hT rfl rfl rfl rfl rfl rfl) ?_
    refine RK.val (guard_yes rfl rfl (by rw [hbk.1]; rfl)) (op_load_agg hT rfl rfl rfl rfl (cs := [_, _]) rfl rfl) ?_
    refine RK.val (guard_yes rfl rfl (by rw [hbk.1]; rfl)) (op_load_agg hT rfl rfl rfl rfl (cs := [_, _]) rfl rfl) ?_
    refine RK.val (guard_yes rfl rfl (by rw [hbk.1]; rfl)) (Eff.call0 (p_rSame (removeB (addB (madeB R g) (oneD x)) (oneD x)) (madeB R g))) ?_
    refine RK.val (guard_yes rfl rfl (by rw [hbk.1]; rfl)) (op_unot rfl) ?_
    refine RK.V (op_pick_f rfl (by rw [hbk.1]; rfl) (rfl : _ = AV.p (.c _))) ?_
    refine RK.M rfl ?_
    refine RK.val (guard_yes rfl rfl (congrArg not (decide_eq_true hbk.2))) (op_field_loc hT rfl rfl rfl rfl rfl rfl) ?_
    refine RK.val (guard_yes rfl rfl (congrArg not (decide_eq_true hbk.2))) (op_field_loc hT rfl rfl rfl rfl rfl rfl) ?_
    refine RK.val (guard_yes rfl rfl (congrArg not (decide_eq_true hbk.2))) (op_load_one hT rfl rfl rfl rfl (by first | rfl | exact vget (by omega))) ?_
    refine RK.val (guard_yes rfl rfl (congrArg not (decide_eq_true hbk.2))) (op_len hT rfl rfl rfl (by rfl)) ?_
    refine RK.val (guard_yes rfl rfl (congrArg not (decide_eq_true hbk.2))) (op_field_loc hT rfl rfl rfl rfl rfl rfl) ?_
    refine RK.val (guard_yes rfl rfl (congrArg not (decide_eq_true hbk.2))) (op_load_one hT rfl rfl rfl rfl (by first | rfl | exact vget (by omega))) ?_
    refine RK.val (guard_yes rfl rfl (congrArg not (decide_eq_true hbk.2))) (op_len hT rfl rfl rfl (by rfl)) ?_
    refine RK.val (guard_yes rfl rfl (congrArg not (decide_eq_true hbk.2))) (op_add rfl rfl (by first | exact IntWalk.i64_in _ (by omega) | rfl)) ?_
    refine RK.val (guard_yes rfl rfl (congrArg not (decide_eq_true hbk.2))) (op_neq rfl rfl) ?_
    refine RK.V (op_pick_f rfl (congrArg not (decide_eq_true hbk.2)) (rfl : _ = AV.p (.c _))) ?_
    refine RK.D ?_
    refine AWp_cond_false rfl (len_q (addB_len he)) ?_
    refine AWp_skip ?_
    refine AWp_sr hP ?_
    refine RK.G2 hT rfl rfl rfl rfl rfl rfl ?_
    refine RK.V (Eff.call0 (p_lgrant (madeB R g) 9 (made_ok R g))) ?_
    refine RK.alc guard_none (op_alloc hT rfl rfl) ?_
    refine RK.S hT rfl rfl rfl rfl rfl rfl rfl ?_
    refine RK.D ?_
    refine AWp_sr hP ?_
    refine RK.F hT rfl rfl rfl rfl rfl rfl ?_
    refine RK.G2 hT rfl rfl rfl rfl rfl rfl ?_
    refine RK.V (Eff.call0 (p_lwithdraw (grantB (madeB R g) 9) 9 (gr_ok (made_ok R g)))) ?_
    refine RK.alc guard_none (op_alloc hT rfl rfl) ?_
    refine RK.S hT rfl rfl rfl rfl rfl rfl rfl ?_
    refine RK.D ?_
    refine AWp_sr hP ?_
    refine RK.F hT rfl rfl rfl rfl rfl rfl ?_
    refine RK.V (op_load_one hT rfl rfl rfl rfl (by first | rfl | exact vget (by omega))) ?_
    refine RK.V (op_eql rfl rfl) ?_
    refine RK.M rfl ?_
    refine RK.val (guard_yes rfl rfl (by decide)) (op_field_loc hT rfl rfl rfl rfl rfl rfl) ?_
    refine RK.val (guard_yes rfl rfl (by decide)) (op_load_one hT rfl rfl rfl rfl (by first | rfl | exact vget (by omega))) ?_
    refine RK.val (guard_yes rfl rfl (by decide)) (op_eql rfl rfl) ?_
    refine RK.V (op_pick_t rfl (by decide) (rfl : _ = AV.p (.c _))) ?_
    refine RK.M rfl ?_
    refine RK.val (guard_yes rfl rfl (by decide)) (op_field_loc hT rfl rfl rfl rfl rfl rfl) ?_
    refine RK.val (guard_yes rfl rfl (by decide)) (op_load_agg hT rfl rfl rfl rfl (cs := [_, _]) rfl rfl) ?_
    refine RK.val (guard_yes rfl rfl (by decide)) (op_load_agg hT rfl rfl rfl rfl (cs := [_, _]) rfl rfl) ?_
    refine RK.val (guard_yes rfl rfl (by decide)) (Eff.call0 (p_rSame (withdrawB (grantB (madeB R g) 9) 9) (madeB R g))) ?_
    refine RK.V (op_pick_t rfl (by decide) (rfl : _ = AV.p (.c _))) ?_
    refine RK.M rfl ?_
    refine RK.val (guard_yes rfl rfl (decide_eq_true hgw.1)) (op_field_loc hT rfl rfl rfl rfl rfl rfl) ?_
    refine RK.val (guard_yes rfl rfl (decide_eq_true hgw.1)) (op_load_agg hT rfl rfl rfl rfl (cs := [_, _]) rfl rfl) ?_
    refine RK.val (guard_yes rfl rfl (decide_eq_true hgw.1)) (op_load_agg hT rfl rfl rfl rfl (cs := [_, _]) rfl rfl) ?_
    refine RK.val (guard_yes rfl rfl (decide_eq_true hgw.1)) (Eff.call0 (p_rSame (grantB (madeB R g) 9) (madeB R g))) ?_
    refine RK.val (guard_yes rfl rfl (decide_eq_true hgw.1)) (op_unot rfl) ?_
    refine RK.V (op_pick_t rfl (decide_eq_true hgw.1) (rfl : _ = AV.p (.c _))) ?_
    refine RK.M rfl ?_
    refine RK.val (guard_yes rfl rfl (congrArg not (decide_eq_false hgw.2))) (op_move (rfl : _ = AV.p (.c _))) ?_
    refine RK.V (op_pick_t rfl (congrArg not (decide_eq_false hgw.2)) (rfl : _ = AV.p (.c _))) ?_
    refine RK.As rfl ?_
    refine RK.D ?_
    refine AWp_ret ?_
    refine ends_one rfl (.inr rfl) (res_tmp rfl) ?_ O_ends
    exact .refl _
   ·have hb4_ := bF hb4
    refine AWp_skip ?_
    refine AWp_sr hP ?_
    refine RK.G2 hT rfl rfl rfl rfl rfl rfl ?_
    refine RK.V (Eff.call0 (p_lgrant (madeB R g) 9 (made_ok R g))) ?_
    refine RK.alc guard_none (op_alloc hT rfl rfl) ?_
    refine RK.S hT rfl rfl rfl rfl rfl rfl rfl ?_
    refine RK.D ?_
    refine AWp_sr hP ?_
    refine RK.F hT rfl rfl rfl rfl rfl rfl ?_
    refine RK.G2 hT rfl rfl rfl rfl rfl rfl ?_
    refine RK.V (Eff.call0 (p_lwithdraw (grantB (madeB R g) 9) 9 (gr_ok (made_ok R g)))) ?_
    refine RK.alc guard_none (op_alloc hT rfl rfl) ?_
    refine RK.S hT rfl rfl rfl rfl rfl rfl rfl ?_
    refine RK.D ?_
    refine AWp_sr hP ?_
    refine RK.F hT rfl rfl rfl rfl rfl rfl ?_
    refine RK.V (op_load_one hT rfl rfl rfl rfl (by first | rfl | exact vget (by omega))) ?_
    refine RK.V (op_eql rfl rfl) ?_
    refine RK.M rfl ?_
    refine RK.val (guard_yes rfl rfl (by decide)) (op_field_loc hT rfl rfl rfl rfl rfl rfl) ?_
    refine RK.val (guard_yes rfl rfl (by decide)) (op_load_one hT rfl rfl rfl rfl (by first | rfl | exact vget (by omega))) ?_
    refine RK.val (guard_yes rfl rfl (by decide)) (op_eql rfl rfl) ?_
    refine RK.V (op_pick_t rfl (by decide) (rfl : _ = AV.p (.c _))) ?_
    refine RK.M rfl ?_
    refine RK.val (guard_yes rfl rfl (by decide)) (op_field_loc hT rfl rfl rfl rfl rfl rfl) ?_
    refine RK.val (guard_yes rfl rfl (by decide)) (op_load_agg hT rfl rfl rfl rfl (cs := [_, _]) rfl rfl) ?_
    refine RK.val (guard_yes rfl rfl (by decide)) (op_load_agg hT rfl rfl rfl rfl (cs := [_, _]) rfl rfl) ?_
    refine RK.val (guard_yes rfl rfl (by decide)) (Eff.call0 (p_rSame (withdrawB (grantB (madeB R g) 9) 9) (madeB R g))) ?_
    refine RK.V (op_pick_t rfl (by decide) (rfl : _ = AV.p (.c _))) ?_
    refine RK.M rfl ?_
    refine RK.val (guard_yes rfl rfl (decide_eq_true hgw.1)) (op_field_loc hT rfl rfl rfl rfl rfl rfl) ?_
    refine RK.val (guard_yes rfl rfl (decide_eq_true hgw.1)) (op_load_agg hT rfl rfl rfl rfl (cs := [_, _]) rfl rfl) ?_
    refine RK.val (guard_yes rfl rfl (decide_eq_true hgw.1)) (op_load_agg hT rfl rfl rfl rfl (cs := [_, _]) rfl rfl) ?_
    refine RK.val (guard_yes rfl rfl (decide_eq_true hgw.1)) (Eff.call0 (p_rSame (grantB (madeB R g) 9) (madeB R g))) ?_
    refine RK.val (guard_yes rfl rfl (decide_eq_true hgw.1)) (op_unot rfl) ?_
    refine RK.V (op_pick_t rfl (decide_eq_true hgw.1) (rfl : _ = AV.p (.c _))) ?_
    refine RK.M rfl ?_
    refine RK.val (guard_yes rfl rfl (congrArg not (decide_eq_false hgw.2))) (op_move (rfl : _ = AV.p (.c _))) ?_
    refine RK.V (op_pick_t rfl (congrArg not (decide_eq_false hgw.2)) (rfl : _ = AV.p (.c _))) ?_
    refine RK.As rfl ?_
    refine RK.D ?_
    refine AWp_ret ?_
    refine ends_one rfl (.inr rfl) (res_tmp rfl) ?_ O_ends
    exact .refl _
end Go.Proofs.YtmoaoiakmmbpoaaGreatDoor
end
