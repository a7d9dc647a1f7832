/- Texts merged by program, in build order. -/
import Derived.Test.YtmoaoiakmmbpoaaGreatDoorHFD
import Derived.Test.YtmoaoiakmmbpoaaGreatDoorHFC
import Derived.Test.YtmoaoiakmmbpoaaGreatDoorHFE
section
/- chapter 30: the reference: Remove, Grant, Withdraw; equal results -/
namespace Go.Proofs.YtmoaoiakmmbpoaaGreatDoor
open Go Go.AM
/- algorist/algoristref30.Remove -/
set_option maxHeartbeats 2000000 in
set_option maxRecDepth 100000 in
theorem p_rRemove (b : Book) (d : Drv) (hs : SrtD b.1) (hl : b.1.length ≤ 1000000) :
  Call0 Tryz.prog 31 [.p (.a (enBk b)), .p (.a (enD d))] (.t [.a (enBk (removeB b d)), .c (.v (.int .i64 (removeE b d)))]) := by
 refine callM_of (np := 0) Tryz.func31 (by kernel_rfl) rfl rfl (Nat.le_of_ble_eq_true rfl) (fun m h => absurd rfl h) (fun m h => absurd rfl h) rfl ?_
 refine AWp_sr hP ?_
 refine RK.alc guard_none (op_box rfl rfl) ?_
 refine RK.alc guard_none (op_box rfl rfl) ?_
 refine RK.alc guard_none (op_alloc hT rfl rfl) ?_
 refine RK.As rfl ?_
 refine RK.D ?_
 refine AWp_sr hP ?_
 refine RK.G2 hT rfl rfl rfl rfl rfl rfl ?_
 refine RK.V (op_load_agg hT rfl rfl rfl rfl (cs := enD d) rfl rfl) ?_
 refine RK.V (Eff.call0 (p_rfind b.1 (SL enZ b.2) d hs)) ?_
 refine RK.V (op_move (rfl : _ = AV.t _)) ?_
 refine RK.V (op_extract rfl (v := .c _) rfl) ?_
 refine RK.V (op_extract rfl (v := .c _) rfl) ?_
 refine RK.As rfl ?_
 refine RK.As rfl ?_
 refine RK.D ?_
 refine AWp_seq ?_
 refine AWp_sr hP ?_
 refine RK.M rfl ?_
 refine RK.V (op_unot rfl) ?_
 refine RK.D ?_
 refine AWp_cond rfl (fun hb1 => ?_) (fun hb1 => ?_)
 ·have hb1_ := (notT hb1)
  have hh : cutB (fun x => cmD x d) b.1 (lessN b.1 d) = false := notT hb1
  refine AWp_sr hP ?_
  refine RK.V (op_build_st hT rfl rfl rfl (es := [_, _]) rfl) ?_
  refine RK.S hT rfl rfl rfl rfl rfl rfl rfl ?_
  refine RK.As rfl ?_
  refine RK.D ?_
  refine AWp_ret ?_
  refine ends_two rfl (.inr rfl) (res_cell_agg hT rfl rfl rfl rfl (cs := [_, _]) rfl rfl) (res_tmp rfl) ?_ O_ends
  exact Sub.of_eq (by rw [remB_n (remE_n hh), remE_n hh]; rfl)
 ·have hb1_ := (notF hb1)
  have hh : cutB (fun x => cmD x d) b.1 (lessN b.1 d) = true := notF hb1
  have hlt := cutB_lt hh
  refine AWp_skip ?_
  refine AWp_sr hP ?_
  refine RK.alc guard_none (op_bslice_vec hT rfl rfl rfl (es := []) rfl rfl rfl) ?_
  refine RK.F hT rfl rfl rfl rfl rfl rfl ?_
  refine RK.V (op_load_one hT rfl rfl rfl rfl (by first | rfl | exact vget (by omega))) ?_
  refine RK.M rfl ?_
  refine RK.V (op_slice_hG hT enD_len rfl rfl rfl rfl rfl rfl (Nat.le_of_lt hlt)) ?_
  refine RK.app guard_none (op_appendL hT enD_len (by decide) (l := []) (l' := b.1.take (lessN b.1 d)) rfl rfl rfl rfl rfl rfl rfl rfl (by rw [List.length_take, List.length_nil]; omega) (by decide) (by decide)) ?_
  refine RK.V (op_assign (rfl : _ = AV.vec _)) ?_
  refine RK.D ?_
  refine AWp_sr hP ?_
  refine RK.V (op_move (rfl : _ = AV.vec _)) ?_
  refine RK.F hT rfl rfl rfl rfl rfl rfl ?_
  refine RK.V (op_load_one hT rfl rfl rfl rfl (by first | rfl | exact vget (by omega))) ?_
  refine RK.M rfl ?_
  refine RK.V (op_add rfl rfl (c := (((lessN b.1 d) + 1 : Nat) : Int)) (by rw [IntKind.wrap_i64]; omega)) ?_
  refine RK.V (op_slice_lG hT enD_len rfl rfl rfl rfl rfl rfl hlt) ?_
  refine RK.app guard_none (op_appendL hT enD_len (by decide) (l := [] ++ b.1.take (lessN b.1 d)) (l' := b.1.drop ((lessN b.1 d) + 1)) rfl rfl rfl rfl rfl rfl rfl rfl (by simp only [List.length_append, List.length_take, List.length_drop, List.length_nil]; omega) (by decide) (by decide)) ?_
  refine RK.F hT rfl rfl rfl rfl rfl rfl ?_
  refine RK.V (op_load_one hT rfl rfl rfl rfl (by first | rfl | exact vget (by omega))) ?_
  refine RK.mut guard_none (Eff.frzT enD_len rfl 30 30 rfl rfl (fun _ => op_build_st hT rfl rfl rfl (es := [_, _]) rfl)) ?_
  refine RK.S hT rfl rfl rfl rfl rfl rfl rfl ?_
  refine RK.As rfl ?_
  refine RK.D ?_
  refine AWp_ret ?_
  refine ends_two rfl (.inr rfl) (res_cell_agg hT rfl rfl rfl rfl (cs := [_, _]) rfl rfl) (res_tmp rfl) ?_ O_ends
  exact Sub.of_eq (by rw [remB_y (remE_y hh), remE_y hh]; rfl)
/- algorist/algoristref30.Grant -/
set_option maxHeartbeats 2000000 in
set_option maxRecDepth 100000 in
theorem p_rGrant (b : Book) (n : Int) (hl : ∀ m ∈ b.2, 1 ≤ m ∧ m ≤ 16) :
  Call0 Tryz.prog 33 [.p (.a (enBk b)), Z n] (.t [.a (enBk (grantB b n)), .c (.v (.int .i64 (grantE n)))]) := by
 refine callM_of (np := 0) Tryz.func33 (by kernel_rfl) rfl rfl (Nat.le_of_ble_eq_true rfl) (fun m h => absurd rfl h) (fun m h => absurd rfl h) rfl ?_
 refine AWp_sr hP ?_
 refine RK.alc guard_none (op_box rfl rfl) ?_
 refine RK.alc guard_none (op_alloc hT rfl rfl) ?_
 refine RK.As rfl ?_
 refine RK.D ?_
 refine AWp_seq ?_
 refine AWp_sr hP ?_
 refine RK.M rfl ?_
 refine RK.V (op_lss rfl rfl) ?_
 refine RK.M rfl ?_
 refine RK.split (t := 10) rfl (fun hg1 => ?_) (fun hg1 => ?_)
 ·have hg1_ := of_decide_eq_true hg1
  refine RK.skip (guard_no rfl rfl hg1) ?_
  refine RK.skip (guard_no rfl rfl hg1) ?_
  refine RK.V (op_pick_t rfl hg1 (rfl : _ = AV.p (.c _))) ?_
  refine RK.D ?_
  refine AWp_cond_true rfl rfl ?_
  refine AWp_sr hP ?_
  refine RK.V (op_build_st hT rfl rfl rfl (es := [_, _]) rfl) ?_
  refine RK.S hT rfl rfl rfl rfl rfl rfl rfl ?_
  refine RK.As rfl ?_
  refine RK.D ?_
  refine AWp_ret ?_
  refine ends_two rfl (.inr rfl) (res_cell_agg hT rfl rfl rfl rfl (cs := [_, _]) rfl rfl) (res_tmp rfl) ?_ O_ends
  first | exact Sub.of_eq (by rw [grant_y hn, grantE_y hn, ← gkF_end hl hn]) | exact Sub.of_eq (by rw [grant_n (hypB_f (n := n) (by omega)), grantE_n (hypB_f (n := n) (by omega))]; rfl)
 ·have hg1_ := of_decide_eq_false hg1
  refine RK.val (guard_yes rfl rfl hg1) (op_move (rfl : _ = AV.p (.c _))) ?_
  refine RK.val (guard_yes rfl rfl hg1) (op_gtr rfl rfl) ?_
  refine RK.V (op_pick_f rfl hg1 (rfl : _ = AV.p (.c _))) ?_
  refine RK.D ?_
  refine AWp_cond rfl (fun hb2 => ?_) (fun hb2 => ?_)
  ·have hb2_ := of_decide_eq_true hb2
   refine AWp_sr hP ?_
   refine RK.V (op_build_st hT rfl rfl rfl (es := [_, _]) rfl) ?_
   refine RK.S hT rfl rfl rfl rfl rfl rfl rfl ?_
   refine RK.As rfl ?_
   refine RK.D ?_
   refine AWp_ret ?_
   refine ends_two rfl (.inr rfl) (res_cell_agg hT rfl rfl rfl rfl (cs := [_, _]) rfl rfl) (res_tmp rfl) ?_ O_ends
   first | exact Sub.of_eq (by rw [grant_y hn, grantE_y hn, ← gkF_end hl hn]) | exact Sub.of_eq (by rw [grant_n (hypB_f (n := n) (by omega)), grantE_n (hypB_f (n := n) (by omega))]; rfl)
  ·have hb2_ := of_decide_eq_false hb2
   refine AWp_skip ?_
   refine AWp_sr hP ?_
   refine RK.alc guard_none (op_bslice_vec hT rfl rfl rfl (es := []) rfl rfl rfl) ?_
   refine RK.V (op_assign (rfl : _ = AV.vec _)) ?_
   refine RK.D ?_
   refine AWp_rn 15 1000 rfl rfl rfl ?_
   refine AWp_seq ?_
   refine AWp_sr hP ?_
   refine RK.As rfl ?_
   refine RK.D ?_
   refine AWp_block ?_
   refine AWp_loop (ι := Nat) (fun k => stL [(1, Z n), (2, .loc 2 0), (4, .loc 4 0), (6, .vec 1000), (7, Z (k : Int))] [(2, ⟨false, 1, 27, enBk b⟩), (4, ⟨false, 1, 27, [.sl 0 [], .sl 0 []]⟩), (1000, VB 1 3 enZ (gkF b.2 n k))]) (fun k => 1 ≤ k ∧ k ≤ 17) (fun k => 17 - k) 1 ⟨Nat.le_refl _, by decide⟩ (le_stL ⟨.refl _, .refl _, .refl _, .refl _, .refl _, trivial⟩ ⟨rfl, rfl, rfl, trivial⟩) ?_
   rintro k hk
   refine AWp_seq ?_
   refine AWp_sr hP ?_
   refine RK.M rfl ?_
   refine RK.V (op_leq rfl rfl) ?_
   refine RK.D ?_
   refine AWp_cond rfl (fun hb3 => ?_) (fun hb3 => ?_)
   ·have hb3_ := of_decide_eq_true hb3
    refine AWp_skip ?_
    refine AWp_seq ?_
    refine AWp_block ?_
    refine AWp_sr hP ?_
    refine RK.M rfl ?_
    refine RK.M rfl ?_
    refine RK.V (op_eql rfl rfl) ?_
    refine RK.M rfl ?_
    refine RK.split (t := 23) rfl (fun hg4 => ?_) (fun hg4 => ?_)
    ·have hg4_ := bT hg4
     have hq : (k : Int) = n := bT hg4
     refine RK.skip (guard_no rfl rfl hg4) ?_
     refine RK.skip (guard_no rfl rfl hg4) ?_
     refine RK.skip (guard_no rfl rfl hg4) ?_
     refine RK.skip (guard_no rfl rfl hg4) ?_
     refine RK.V (op_pick_t rfl hg4 (rfl : _ = AV.p (.c _))) ?_
     refine RK.D ?_
     refine AWp_cond_true rfl rfl ?_
     refine AWp_region hP ?_
     refine RK.V (op_move (rfl : _ = AV.vec _)) ?_
     refine RK.M rfl ?_
     refine RK.V (op_bslice hT rfl rfl rfl (es := [_]) rfl rfl rfl) ?_
     refine RK.app guard_none (op_appendG (encD := enZ) hT enZ_len (by decide) rfl rfl rfl rfl rfl rfl rfl (b := (k : Int)) rfl (Nat.le_trans (gkF_len _ _ _) (by omega)) (by decide) (by decide)) ?_
     refine RK.V (op_assign (rfl : _ = AV.vec _)) ?_
     refine RK.D ?_
     refine AWp_rn 32 1000 rfl rfl rfl ?_
     refine AWp_region hP ?_
     refine RK.M rfl ?_
     refine RK.V (op_add rfl rfl (by first | exact IntWalk.i64_in _ (by omega) | rfl)) ?_
     refine RK.As rfl ?_
     refine RK.D ?_
     refine ⟨k + 1, by omega, by omega, le_stL ⟨.refl _, .refl _, .refl _, .refl _, Sub.int (by omega), trivial⟩ ⟨rfl, rfl, Eq.trans rfl (congrArg (fun l => some (VB 1 3 enZ l)) (gkF_y hk.1 (by first | exact .inl hq | exact .inr (of_decide_eq_true hmm)))), trivial⟩⟩
    ·have hg4_ := bF hg4
     have hq0 : ¬ (k : Int) = n := bF hg4
     refine RK.val (guard_yes rfl rfl hg4) (op_field_loc hT rfl rfl rfl rfl rfl rfl) ?_
     refine RK.val (guard_yes rfl rfl hg4) (op_load_one hT rfl rfl rfl rfl (by first | rfl | exact vget (by omega))) ?_
     refine RK.val (guard_yes rfl rfl hg4) (op_move (rfl : _ = AV.p (.c _))) ?_
     refine RK.val (guard_yes rfl rfl hg4) (Eff.call0 (p_rHas b.2 (k : Int))) ?_
     refine RK.V (op_pick_f rfl hg4 (rfl : _ = AV.p (.c _))) ?_
     refine RK.D ?_
     refine AWp_cond rfl (fun hb5 => ?_) (fun hb5 => ?_)
     ·have hmm := hb5
      refine AWp_region hP ?_
      refine RK.V (op_move (rfl : _ = AV.vec _)) ?_
      refine RK.M rfl ?_
      refine RK.V (op_bslice hT rfl rfl rfl (es := [_]) rfl rfl rfl) ?_
      refine RK.app guard_none (op_appendG (encD := enZ) hT enZ_len (by decide) rfl rfl rfl rfl rfl rfl rfl (b := (k : Int)) rfl (Nat.le_trans (gkF_len _ _ _) (by omega)) (by decide) (by decide)) ?_
      refine RK.V (op_assign (rfl : _ = AV.vec _)) ?_
      refine RK.D ?_
      refine AWp_rn 32 1000 rfl rfl rfl ?_
      refine AWp_region hP ?_
      refine RK.M rfl ?_
      refine RK.V (op_add rfl rfl (by first | exact IntWalk.i64_in _ (by omega) | rfl)) ?_
      refine RK.As rfl ?_
      refine RK.D ?_
      refine ⟨k + 1, by omega, by omega, le_stL ⟨.refl _, .refl _, .refl _, .refl _, Sub.int (by omega), trivial⟩ ⟨rfl, rfl, Eq.trans rfl (congrArg (fun l => some (VB 1 3 enZ l)) (gkF_y hk.1 (by first | exact .inl hq | exact .inr (of_decide_eq_true hmm)))), trivial⟩⟩
     ·have hmm := hb5
      refine AWp_skip ?_
      refine AWp_region hP ?_
      refine RK.M rfl ?_
      refine RK.V (op_add rfl rfl (by first | exact IntWalk.i64_in _ (by omega) | rfl)) ?_
      refine RK.As rfl ?_
      refine RK.D ?_
      refine ⟨k + 1, by omega, by omega, le_stL ⟨.refl _, .refl _, .refl _, .refl _, Sub.int (by omega), trivial⟩ ⟨rfl, rfl, Eq.trans rfl (congrArg (fun l => some (VB 1 3 enZ l)) (gkF_n hq0 (of_decide_eq_false hmm))), trivial⟩⟩
   ·have hb3_ := of_decide_eq_false hb3
    have hk17 : k = 17 := by omega
    subst hk17
    have hn : hypB n = true := decide_eq_true (by omega)
    refine AWp_exit ?_
    refine AWp_sr hP ?_
    refine RK.F hT rfl rfl rfl rfl rfl rfl ?_
    refine RK.V (op_load_one hT rfl rfl rfl rfl (by first | rfl | exact vget (by omega))) ?_
    refine RK.V (op_move (rfl : _ = AV.vec _)) ?_
    refine RK.mut guard_none (Eff.frzT enZ_len rfl 35 1000 rfl rfl (fun _ => op_build_st hT rfl rfl rfl (es := [_, _]) rfl)) ?_
    refine RK.S hT rfl rfl rfl rfl rfl rfl rfl ?_
    refine RK.As rfl ?_
    refine RK.D ?_
    refine AWp_ret ?_
    refine ends_two rfl (.inr rfl) (res_cell_agg hT rfl rfl rfl rfl (cs := [_, _]) rfl rfl) (res_tmp rfl) ?_ O_ends
    first | exact Sub.of_eq (by rw [grant_y hn, grantE_y hn, ← gkF_end hl hn]) | exact Sub.of_eq (by rw [grant_n (hypB_f (n := n) (by omega)), grantE_n (hypB_f (n := n) (by omega))]; rfl)
/- algorist/algoristref30.Withdraw -/
set_option maxHeartbeats 2000000 in
set_option maxRecDepth 100000 in
theorem p_rWithdraw (b : Book) (n : Int) (ho : hok b.2) (hp : b.2.Pairwise (· < ·)) (hl : b.2.length ≤ 1000) :
  Call0 Tryz.prog 34 [.p (.a (enBk b)), Z n] (.t [.a (enBk (withdrawB b n)), .c (.v (.int .i64 (grantE n)))]) := by
 refine callM_of (np := 0) Tryz.func34 (by kernel_rfl) rfl rfl (Nat.le_of_ble_eq_true rfl) (fun m h => absurd rfl h) (fun m h => absurd rfl h) rfl ?_
 refine AWp_sr hP ?_
 refine RK.alc guard_none (op_box rfl rfl) ?_
 refine RK.alc guard_none (op_alloc hT rfl rfl) ?_
 refine RK.As rfl ?_
 refine RK.D ?_
 refine AWp_seq ?_
 refine AWp_sr hP ?_
 refine RK.M rfl ?_
 refine RK.V (op_lss rfl rfl) ?_
 refine RK.M rfl ?_
 refine RK.split (t := 10) rfl (fun hg1 => ?_) (fun hg1 => ?_)
 ·have hg1_ := of_decide_eq_true hg1
  refine RK.skip (guard_no rfl rfl hg1) ?_
  refine RK.skip (guard_no rfl rfl hg1) ?_
  refine RK.V (op_pick_t rfl hg1 (rfl : _ = AV.p (.c _))) ?_
  refine RK.D ?_
  refine AWp_cond_true rfl rfl ?_
  refine AWp_sr hP ?_
  refine RK.V (op_build_st hT rfl rfl rfl (es := [_, _]) rfl) ?_
  refine RK.S hT rfl rfl rfl rfl rfl rfl rfl ?_
  refine RK.As rfl ?_
  refine RK.D ?_
  refine AWp_ret ?_
  refine ends_two rfl (.inr rfl) (res_cell_agg hT rfl rfl rfl rfl (cs := [_, _]) rfl rfl) (res_tmp rfl) ?_ O_ends
  first | exact Sub.of_eq (by rw [withdraw_y hn, grantE_y hn, ← wdF_end ho hp hn]) | exact Sub.of_eq (by rw [withdraw_n (hypB_f (n := n) (by omega)), grantE_n (hypB_f (n := n) (by omega))]; rfl)
 ·have hg1_ := of_decide_eq_false hg1
  refine RK.val (guard_yes rfl rfl hg1) (op_move (rfl : _ = AV.p (.c _))) ?_
  refine RK.val (guard_yes rfl rfl hg1) (op_gtr rfl rfl) ?_
  refine RK.V (op_pick_f rfl hg1 (rfl : _ = AV.p (.c _))) ?_
  refine RK.D ?_
  refine AWp_cond rfl (fun hb2 => ?_) (fun hb2 => ?_)
  ·have hb2_ := of_decide_eq_true hb2
   refine AWp_sr hP ?_
   refine RK.V (op_build_st hT rfl rfl rfl (es := [_, _]) rfl) ?_
   refine RK.S hT rfl rfl rfl rfl rfl rfl rfl ?_
   refine RK.As rfl ?_
   refine RK.D ?_
   refine AWp_ret ?_
   refine ends_two rfl (.inr rfl) (res_cell_agg hT rfl rfl rfl rfl (cs := [_, _]) rfl rfl) (res_tmp rfl) ?_ O_ends
   first | exact Sub.of_eq (by rw [withdraw_y hn, grantE_y hn, ← wdF_end ho hp hn]) | exact Sub.of_eq (by rw [withdraw_n (hypB_f (n := n) (by omega)), grantE_n (hypB_f (n := n) (by omega))]; rfl)
  ·have hb2_ := of_decide_eq_false hb2
   refine AWp_skip ?_
   refine AWp_sr hP ?_
   refine RK.alc guard_none (op_bslice_vec hT rfl rfl rfl (es := []) rfl rfl rfl) ?_
   refine RK.V (op_assign (rfl : _ = AV.vec _)) ?_
   refine RK.D ?_
   refine AWp_rn 15 1000 rfl rfl rfl ?_
   refine AWp_seq ?_
   refine AWp_sr hP ?_
   refine RK.As rfl ?_
   refine RK.D ?_
   refine AWp_block ?_
   refine AWp_loop (ι := Nat) (fun k => stL [(1, Z n), (2, .loc 2 0), (4, .loc 4 0), (6, .vec 1000), (7, Z (k : Int))] [(2, ⟨false, 1, 27, enBk b⟩), (4, ⟨false, 1, 27, [.sl 0 [], .sl 0 []]⟩), (1000, VB 1 3 enZ ((b.2.take k).filter fun m => !decide (m = n)))]) (fun k => k ≤ b.2.length) (fun k => b.2.length - k) 0 (Nat.zero_le _) (le_stL ⟨.refl _, .refl _, .refl _, .refl _, .refl _, trivial⟩ ⟨rfl, rfl, rfl, trivial⟩) ?_
   rintro k hk
   refine AWp_seq ?_
   refine AWp_sr hP ?_
   refine RK.M rfl ?_
   refine RK.F hT rfl rfl rfl rfl rfl rfl ?_
   refine RK.V (op_load_one hT rfl rfl rfl rfl (by first | rfl | exact vget (by omega))) ?_
   refine RK.V (op_len hT rfl rfl rfl (by rfl)) ?_
   refine RK.V (op_lss rfl rfl) ?_
   refine RK.D ?_
   refine AWp_cond rfl (fun hb3 => ?_) (fun hb3 => ?_)
   ·have hb3_ := of_decide_eq_true hb3
    have hkl : k < b.2.length := by omega
    refine AWp_skip ?_
    refine AWp_seq ?_
    refine AWp_block ?_
    refine AWp_sr hP ?_
    refine RK.F hT rfl rfl rfl rfl rfl rfl ?_
    refine RK.V (op_load_one hT rfl rfl rfl rfl (by first | rfl | exact vget (by omega))) ?_
    refine RK.M rfl ?_
    refine RK.V (op_indexG hT enZ_len (by decide) 0 (n := (k : Int)) (l := b.2) rfl rfl rfl rfl rfl rfl (by omega)) ?_
    refine RK.V (op_load_ip_one hT rfl rfl rfl rfl) ?_
    refine RK.M rfl ?_
    refine RK.V (op_neq rfl rfl) ?_
    refine RK.D ?_
    refine AWp_cond rfl (fun hb4 => ?_) (fun hb4 => ?_)
    ·have hb4_ := bneT hb4
     have hq : ¬ b.2.getD k 0 = n := bneT hb4
     refine AWp_region hP ?_
     refine RK.V (op_move (rfl : _ = AV.vec _)) ?_
     refine RK.F hT rfl rfl rfl rfl rfl rfl ?_
     refine RK.V (op_load_one hT rfl rfl rfl rfl (by first | rfl | exact vget (by omega))) ?_
     refine RK.M rfl ?_
     refine RK.V (op_indexG hT enZ_len (by decide) 0 (n := (k : Int)) (l := b.2) rfl rfl rfl rfl rfl rfl (by omega)) ?_
     refine RK.V (op_load_ip_one hT rfl rfl rfl rfl) ?_
     refine RK.V (op_bslice hT rfl rfl rfl (es := [_]) rfl rfl rfl) ?_
     refine RK.app guard_none (op_appendG (encD := enZ) hT enZ_len (by decide) rfl rfl rfl rfl rfl rfl rfl (b := b.2.getD k 0) rfl (Nat.le_trans (List.length_filter_le _ _) (by rw [List.length_take]; omega)) (by decide) (by decide)) ?_
     refine RK.V (op_assign (rfl : _ = AV.vec _)) ?_
     refine RK.D ?_
     refine AWp_rn 37 1000 rfl rfl rfl ?_
     refine AWp_region hP ?_
     refine RK.M rfl ?_
     refine RK.V (op_add rfl rfl (by first | exact IntWalk.i64_in _ (by omega) | rfl)) ?_
     refine RK.As rfl ?_
     refine RK.D ?_
     refine ⟨k + 1, by omega, by omega, le_stL ⟨.refl _, .refl _, .refl _, .refl _, Sub.int (by omega), trivial⟩ ⟨rfl, rfl, Eq.trans rfl (congrArg (fun l => some (VB 1 3 enZ l)) (fltZ_y hkl hq)), trivial⟩⟩
    ·have hb4_ := bneF hb4
     have hq : b.2.getD k 0 = n := bneF hb4
     refine AWp_skip ?_
     refine AWp_region hP ?_
     refine RK.M rfl ?_
     refine RK.V (op_add rfl rfl (by first | exact IntWalk.i64_in _ (by omega) | rfl)) ?_
     refine RK.As rfl ?_
     refine RK.D ?_
     refine ⟨k + 1, by omega, by omega, le_stL ⟨.refl _, .refl _, .refl _, .refl _, Sub.int (by omega), trivial⟩ ⟨rfl, rfl, Eq.trans rfl (congrArg (fun l => some (VB 1 3 enZ l)) (fltZ_n hkl hq)), trivial⟩⟩
   ·have hb3_ := of_decide_eq_false hb3
    have hn : hypB n = true := decide_eq_true (by omega)
    have hfe : b.2.take k = b.2 := List.take_of_length_le (by omega)
    rw [hfe]
    refine AWp_exit ?_
    refine AWp_sr hP ?_
    refine RK.F hT rfl rfl rfl rfl rfl rfl ?_
    refine RK.V (op_load_one hT rfl rfl rfl rfl (by first | rfl | exact vget (by omega))) ?_
    refine RK.V (op_move (rfl : _ = AV.vec _)) ?_
    refine RK.mut guard_none (Eff.frzT enZ_len rfl 40 1000 rfl rfl (fun _ => op_build_st hT rfl rfl rfl (es := [_, _]) rfl)) ?_
    refine RK.S hT rfl rfl rfl rfl rfl rfl rfl ?_
    refine RK.As rfl ?_
    refine RK.D ?_
    refine AWp_ret ?_
    refine ends_two rfl (.inr rfl) (res_cell_agg hT rfl rfl rfl rfl (cs := [_, _]) rfl rfl) (res_tmp rfl) ?_ O_ends
    first | exact Sub.of_eq (by rw [withdraw_y hn, grantE_y hn, ← wdF_end ho hp hn]) | exact Sub.of_eq (by rw [withdraw_n (hypB_f (n := n) (by omega)), grantE_n (hypB_f (n := n) (by omega))]; rfl)
theorem p_rAddB (b : Book) (d : Drv) (hs : SrtD b.1) (hl : b.1.length ≤ 1000000) : Call0 Tryz.prog 29 [.p (.a (enBk b)), .p (.a (enD d))] (.t [.a (enBk (addB b d)), .c (.v (.int .i64 (addE b d)))]) := by
 have h := p_rAdd b.1 (SL enZ b.2) d hs hl
 rw [addC_b] at h
 exact h
/- algorist/algoristlaw30.sameGot -/
set_option maxHeartbeats 1000000 in
set_option maxRecDepth 100000 in
theorem p_sameGot (a b : Book) (e f : Int) :
  Call0 Tryz.prog 30 [.p (.a [SL enD a.1, SL enZ a.2, .v (.int .i64 e)]), .p (.a (enBk b)), Z f] (B (decide (e = f) && decide (a = b))) := by
 refine callM_of (np := 0) Tryz.func30 (by kernel_rfl) rfl rfl (Nat.le_of_ble_eq_true rfl) (fun m h => absurd rfl h) (fun m h => absurd rfl h) rfl ?_
 refine AWp_sr hP ?_
 refine RK.alc guard_none (op_box rfl rfl) ?_
 refine RK.alc guard_none (op_box rfl rfl) ?_
 refine RK.As rfl ?_
 refine RK.D ?_
 refine AWp_sr hP ?_
 refine RK.F hT rfl rfl rfl rfl rfl rfl ?_
 refine RK.V (op_load_one hT rfl rfl rfl rfl (by first | rfl | exact vget (by omega))) ?_
 refine RK.M rfl ?_
 refine RK.V (op_eql rfl rfl) ?_
 refine RK.M rfl ?_
 refine RK.split (t := 11) rfl (fun hg1 => ?_) (fun hg1 => ?_)
 ·have hg1_ := bT hg1
  have hq : e = f := bT hg1
  refine RK.val (guard_yes rfl rfl hg1) (op_field_loc hT rfl rfl rfl rfl rfl rfl) ?_
  refine RK.val (guard_yes rfl rfl hg1) (op_load_agg hT rfl rfl rfl rfl (cs := [_, _]) rfl rfl) ?_
  refine RK.val (guard_yes rfl rfl hg1) (op_load_agg hT rfl rfl rfl rfl (cs := [_, _]) rfl rfl) ?_
  refine RK.val (guard_yes rfl rfl hg1) (Eff.call0 (p_rSame a b)) ?_
  refine RK.V (op_pick_t rfl hg1 (rfl : _ = AV.p (.c _))) ?_
  refine RK.As rfl ?_
  refine RK.D ?_
  refine AWp_ret ?_
  refine ends_one rfl (.inr rfl) (res_tmp rfl) ?_ O_ends
  first | exact Sub.bool (sg_y hq) | exact Sub.bool (sg_n hq)
 ·have hg1_ := bF hg1
  have hq : ¬ e = f := bF hg1
  refine RK.skip (guard_no rfl rfl hg1) ?_
  refine RK.skip (guard_no rfl rfl hg1) ?_
  refine RK.skip (guard_no rfl rfl hg1) ?_
  refine RK.skip (guard_no rfl rfl hg1) ?_
  refine RK.V (op_pick_f rfl hg1 (rfl : _ = AV.p (.c _))) ?_
  refine RK.As rfl ?_
  refine RK.D ?_
  refine AWp_ret ?_
  refine ends_one rfl (.inr rfl) (res_tmp rfl) ?_ O_ends
  first | exact Sub.bool (sg_y hq) | exact Sub.bool (sg_n hq)
end Go.Proofs.YtmoaoiakmmbpoaaGreatDoor
end

section
/- chapter 30: MatchesReference -/
namespace Go.Proofs.YtmoaoiakmmbpoaaGreatDoor
open Go Go.AM
/- algorist/algoristlaw30.few -/
set_option maxHeartbeats 2000000 in
set_option maxRecDepth 100000 in
theorem p_few (b : Book) :
  Call0 Tryz.prog 26 [.p (.a (enBk b))] (B (fewB b)) := by
 refine callM_of (np := 0) Tryz.func26 (by kernel_rfl) rfl rfl (Nat.le_of_ble_eq_true rfl) (fun m h => absurd rfl h) (fun m h => absurd rfl h) rfl ?_
 refine AWp_lenA 0 0 (n := b.1.length) rfl rfl (fun hlen => ?_)
 refine AWp_sr hP ?_
 refine RK.alc guard_none (op_box rfl rfl) ?_
 refine RK.As rfl ?_
 refine RK.D ?_
 refine AWp_seq ?_
 refine AWp_sr hP ?_
 refine RK.As rfl ?_
 refine RK.D ?_
 refine AWp_block ?_
 refine AWp_loop (ι := Nat) (fun k => stL [(1, .loc 1 0), (3, Z (k : Int))] [(1, ⟨false, 1, 27, enBk b⟩)]) (fun k => k ≤ b.1.length ∧ ∀ i, i < k → (b.1.getD i zD).2.1.length ≤ 20 ∧ (b.1.getD i zD).2.2.length ≤ 20) (fun k => b.1.length - k) 0 ⟨Nat.zero_le _, fun i h => by omega⟩ (le_stL ⟨.refl _, .refl _, trivial⟩ ⟨rfl, trivial⟩) ?_
 rintro k ⟨hk, hI⟩
 refine AWp_seq ?_
 refine AWp_sr hP ?_
 refine RK.M rfl ?_
 refine RK.F hT rfl rfl rfl rfl rfl rfl ?_
 refine RK.V (op_load_one hT rfl rfl rfl rfl (by first | rfl | exact vget (by omega))) ?_
 refine RK.V (op_len hT rfl rfl rfl (by rfl)) ?_
 refine RK.V (op_lss rfl rfl) ?_
 refine RK.D ?_
 refine AWp_cond rfl (fun hb1 => ?_) (fun hb1 => ?_)
 ·have hb1_ := of_decide_eq_true hb1
  refine AWp_skip ?_
  refine AWp_seq ?_
  refine AWp_block ?_
  refine AWp_sr hP ?_
  refine RK.F hT rfl rfl rfl rfl rfl rfl ?_
  refine RK.V (op_load_one hT rfl rfl rfl rfl (by first | rfl | exact vget (by omega))) ?_
  refine RK.M rfl ?_
  refine RK.V (op_indexG hT enD_len (by decide) zD (n := (k : Int)) (l := b.1) rfl rfl rfl rfl rfl rfl (by omega)) ?_
  refine RK.V (op_field_ip hT rfl rfl rfl rfl rfl rfl) ?_
  refine RK.V (op_load_ip_one hT rfl rfl rfl rfl) ?_
  refine RK.V (op_len hT rfl rfl rfl (by rfl)) ?_
  refine RK.V (op_gtr rfl rfl) ?_
  refine RK.M rfl ?_
  refine RK.split (t := 19) rfl (fun hg2 => ?_) (fun hg2 => ?_)
  ·have hg2_ := of_decide_eq_true hg2
   refine RK.skip (guard_no rfl rfl hg2) ?_
   refine RK.skip (guard_no rfl rfl hg2) ?_
   refine RK.skip (guard_no rfl rfl hg2) ?_
   refine RK.skip (guard_no rfl rfl hg2) ?_
   refine RK.skip (guard_no rfl rfl hg2) ?_
   refine RK.skip (guard_no rfl rfl hg2) ?_
   refine RK.skip (guard_no rfl rfl hg2) ?_
   refine RK.skip (guard_no rfl rfl hg2) ?_
   refine RK.V (op_pick_t rfl hg2 (rfl : _ = AV.p (.c _))) ?_
   refine RK.D ?_
   refine AWp_cond_true rfl rfl ?_
   refine AWp_sr hP ?_
   refine RK.As rfl ?_
   refine RK.D ?_
   refine AWp_ret ?_
   refine ends_one rfl (.inr rfl) (res_tmp rfl) ?_ O_ends
   first | exact Sub.bool (few_1 (k := k) (by omega) (show ¬ ((b.1.getD ((k : Int)).toNat zD).2.1.length ≤ 20 ∧ (b.1.getD ((k : Int)).toNat zD).2.2.length ≤ 20) by omega)) | exact Sub.bool (few_2 (fun i hi => hI i (by omega)) (by omega)) | exact Sub.bool (few_3 (fun i hi => hI i (by omega)) (by omega))
  ·have hg2_ := of_decide_eq_false hg2
   refine RK.val (guard_yes rfl rfl hg2) (op_field_loc hT rfl rfl rfl rfl rfl rfl) ?_
   refine RK.val (guard_yes rfl rfl hg2) (op_load_one hT rfl rfl rfl rfl (by first | rfl | exact vget (by omega))) ?_
   refine RK.val (guard_yes rfl rfl hg2) (op_move (rfl : _ = AV.p (.c _))) ?_
   refine RK.val (guard_yes rfl rfl hg2) (op_indexG hT enD_len (by decide) zD (n := (k : Int)) (l := b.1) rfl rfl rfl rfl rfl rfl (by omega)) ?_
   refine RK.val (guard_yes rfl rfl hg2) (op_field_ip hT rfl rfl rfl rfl rfl rfl) ?_
   refine RK.val (guard_yes rfl rfl hg2) (op_load_ip_one hT rfl rfl rfl rfl) ?_
   refine RK.val (guard_yes rfl rfl hg2) (op_len hT rfl rfl rfl (by rfl)) ?_
   refine RK.val (guard_yes rfl rfl hg2) (op_gtr rfl rfl) ?_
   refine RK.V (op_pick_f rfl hg2 (rfl : _ = AV.p (.c _))) ?_
   refine RK.D ?_
   refine AWp_cond rfl (fun hb3 => ?_) (fun hb3 => ?_)
   ·have hb3_ := of_decide_eq_true hb3
    have hb28 := of_decide_eq_true hb3
    refine AWp_sr hP ?_
    refine RK.As rfl ?_
    refine RK.D ?_
    refine AWp_ret ?_
    refine ends_one rfl (.inr rfl) (res_tmp rfl) ?_ O_ends
    first | exact Sub.bool (few_1 (k := k) (by omega) (show ¬ ((b.1.getD ((k : Int)).toNat zD).2.1.length ≤ 20 ∧ (b.1.getD ((k : Int)).toNat zD).2.2.length ≤ 20) by omega)) | exact Sub.bool (few_2 (fun i hi => hI i (by omega)) (by omega)) | exact Sub.bool (few_3 (fun i hi => hI i (by omega)) (by omega))
   ·have hb3_ := of_decide_eq_false hb3
    have hb28 := of_decide_eq_false hb3
    refine AWp_skip ?_
    refine AWp_region hP ?_
    refine RK.M rfl ?_
    refine RK.V (op_add rfl rfl (by first | exact IntWalk.i64_in _ (by omega) | rfl)) ?_
    refine RK.As rfl ?_
    refine RK.D ?_
    refine ⟨k + 1, ⟨by omega, fun i h1 => by
      by_cases e : i = k
      ·subst e; exact ⟨(show (b.1.getD ((i : Int)).toNat zD).2.1.length ≤ 20 by omega), (show (b.1.getD ((i : Int)).toNat zD).2.2.length ≤ 20 by omega)⟩
      ·exact hI i (by omega)⟩, by omega, le_stL ⟨.refl _, Sub.int (by omega), trivial⟩ ⟨rfl, trivial⟩⟩
 ·have hb1_ := of_decide_eq_false hb1
  refine AWp_exit ?_
  refine AWp_sr hP ?_
  refine RK.F hT rfl rfl rfl rfl rfl rfl ?_
  refine RK.V (op_load_one hT rfl rfl rfl rfl (by first | rfl | exact vget (by omega))) ?_
  refine RK.V (op_len hT rfl rfl rfl (by rfl)) ?_
  refine RK.V (op_leq rfl rfl) ?_
  refine RK.M rfl ?_
  refine RK.split (t := 33) rfl (fun hg4 => ?_) (fun hg4 => ?_)
  ·have hg4_ := of_decide_eq_true hg4
   refine RK.val (guard_yes rfl rfl hg4) (op_field_loc hT rfl rfl rfl rfl rfl rfl) ?_
   refine RK.val (guard_yes rfl rfl hg4) (op_load_one hT rfl rfl rfl rfl (by first | rfl | exact vget (by omega))) ?_
   refine RK.val (guard_yes rfl rfl hg4) (op_len hT rfl rfl rfl (by rfl)) ?_
   refine RK.val (guard_yes rfl rfl hg4) (op_leq rfl rfl) ?_
   refine RK.V (op_pick_t rfl hg4 (rfl : _ = AV.p (.c _))) ?_
   refine RK.As rfl ?_
   refine RK.D ?_
   refine AWp_ret ?_
   refine ends_one rfl (.inr rfl) (res_tmp rfl) ?_ O_ends
   first | exact Sub.bool (few_1 (k := k) (by omega) (show ¬ ((b.1.getD ((k : Int)).toNat zD).2.1.length ≤ 20 ∧ (b.1.getD ((k : Int)).toNat zD).2.2.length ≤ 20) by omega)) | exact Sub.bool (few_2 (fun i hi => hI i (by omega)) (by omega)) | exact Sub.bool (few_3 (fun i hi => hI i (by omega)) (by omega))
  ·have hg4_ := of_decide_eq_false hg4
   refine RK.skip (guard_no rfl rfl hg4) ?_
   refine RK.skip (guard_no rfl rfl hg4) ?_
   refine RK.skip (guard_no rfl rfl hg4) ?_
   refine RK.skip (guard_no rfl rfl hg4) ?_
   refine RK.V (op_pick_f rfl hg4 (rfl : _ = AV.p (.c _))) ?_
   refine RK.As rfl ?_
   refine RK.D ?_
   refine AWp_ret ?_
   refine ends_one rfl (.inr rfl) (res_tmp rfl) ?_ O_ends
   first | exact Sub.bool (few_1 (k := k) (by omega) (show ¬ ((b.1.getD ((k : Int)).toNat zD).2.1.length ≤ 20 ∧ (b.1.getD ((k : Int)).toNat zD).2.2.length ≤ 20) by omega)) | exact Sub.bool (few_2 (fun i hi => hI i (by omega)) (by omega)) | exact Sub.bool (few_3 (fun i hi => hI i (by omega)) (by omega))
/- algorist/algoristlaw30.HypothesisMatchesReference -/
set_option maxHeartbeats 4000000 in
set_option maxRecDepth 100000 in
theorem l_HypothesisMatchesReference (R : List Raw) (g : UInt8) (o : Book) :
  Call0 Tryz.prog 7 [.p (.c (SL enR R)), .p (.c (.v (.int .u8 (g.toNat : Int)))), .p (.a (enBk o))] (B true) := by
 have hml := made_len R g
 obtain ⟨B0, hB⟩ : ∃ B, B = madeB R g := ⟨_, rfl⟩
 obtain ⟨nn, hnn⟩ : ∃ n : Int, n = (o.2.length : Int) - 2 := ⟨_, rfl⟩
 obtain ⟨XA, hXA⟩ : ∃ x, x = addB B0 (o.1.getD 0 zD) := ⟨_, rfl⟩
 obtain ⟨EA, hEA⟩ : ∃ x, x = addE B0 (o.1.getD 0 zD) := ⟨_, rfl⟩
 obtain ⟨XM, hXM⟩ : ∃ x, x = removeB B0 (o.1.getD 0 zD) := ⟨_, rfl⟩
 obtain ⟨EM, hEM⟩ : ∃ x, x = removeE B0 (o.1.getD 0 zD) := ⟨_, rfl⟩
 obtain ⟨XG, hXG⟩ : ∃ x, x = grantB B0 nn := ⟨_, rfl⟩
 obtain ⟨EG, hEG⟩ : ∃ x, x = grantE nn := ⟨_, rfl⟩
 obtain ⟨XW, hXW⟩ : ∃ x, x = withdrawB B0 nn := ⟨_, rfl⟩
 obtain ⟨EW, hEW⟩ : ∃ x, x = grantE nn := ⟨_, rfl⟩
 have cM : Call0 Tryz.prog 10 [.p (.c (SL enR R)), Z 8, .p (.c (.v (.int .u8 (g.toNat : Int))))] (.p (.a (enBk B0))) := by rw [hB]; exact p_Made R g
 have cR : Call0 Tryz.prog 27 [.p (.a (enBk B0))] (B true) := by have h := p_RightB (madeB R g); rw [made_rightB, ← hB] at h; exact h
 have cA1 : Call0 Tryz.prog 29 [.p (.a (enBk B0)), .p (.a (enD (o.1.getD 0 zD)))] (.t [.a (enBk XA), .c (.v (.int .i64 EA))]) := by rw [hXA, hEA, hB]; exact p_rAddB (madeB R g) (o.1.getD 0 zD) (made_srt R g) (made_le R g)
 have cA2 : Call0 Tryz.prog 20 [.p (.a (enBk B0)), .p (.a (enD (o.1.getD 0 zD)))] (.p (.a [SL enD XA.1, SL enZ XA.2, .v (.int .i64 EA)])) := by rw [hXA, hEA, hB]; exact p_ladd (madeB R g) (o.1.getD 0 zD) (made_srt R g) (made_le R g)
 have cM1 : Call0 Tryz.prog 31 [.p (.a (enBk B0)), .p (.a (enD (o.1.getD 0 zD)))] (.t [.a (enBk XM), .c (.v (.int .i64 EM))]) := by rw [hXM, hEM, hB]; exact p_rRemove (madeB R g) (o.1.getD 0 zD) (made_srt R g) (made_le R g)
 have cM2 : Call0 Tryz.prog 32 [.p (.a (enBk B0)), .p (.a (enD (o.1.getD 0 zD)))] (.p (.a [SL enD XM.1, SL enZ XM.2, .v (.int .i64 EM)])) := by rw [hXM, hEM, hB]; exact p_lremove (madeB R g) (o.1.getD 0 zD) (made_srt R g) (made_le R g)
 have cG1 : Call0 Tryz.prog 33 [.p (.a (enBk B0)), Z nn] (.t [.a (enBk XG), .c (.v (.int .i64 EG))]) := by rw [hXG, hEG, hB]; exact p_rGrant (madeB R g) nn (fun m hm => by have := made_mem hm; omega)
 have cG2 : Call0 Tryz.prog 22 [.p (.a (enBk B0)), Z nn] (.p (.a [SL enD XG.1, SL enZ XG.2, .v (.int .i64 EG)])) := by rw [hXG, hEG, hB]; exact p_lgrant (madeB R g) nn (made_ok R g)
 have cW1 : Call0 Tryz.prog 34 [.p (.a (enBk B0)), Z nn] (.t [.a (enBk XW), .c (.v (.int .i64 EW))]) := by rw [hXW, hEW, hB]; exact p_rWithdraw (madeB R g) nn (made_ok R g) (hyF_srt _ _) (Nat.le_trans (hyF_len _ _) (by decide))
 have cW2 : Call0 Tryz.prog 23 [.p (.a (enBk B0)), Z nn] (.p (.a [SL enD XW.1, SL enZ XW.2, .v (.int .i64 EW)])) := by rw [hXW, hEW, hB]; exact p_lwithdraw (madeB R g) nn (made_ok R g)
 refine callM_of (np := 0) Tryz.func7 (by kernel_rfl) rfl rfl (Nat.le_of_ble_eq_true rfl) (fun m h => absurd rfl h) (fun m h => absurd rfl h) rfl ?_
 refine AWp_lenA 2 0 (n := o.1.length) rfl rfl (fun hlen => ?_)
 refine AWp_lenA 2 1 (n := o.2.length) rfl rfl (fun hlen2 => ?_)
 refine AWp_sr hP ?_
 refine RK.alc guard_none (op_box rfl rfl) ?_
 refine RK.As rfl ?_
 refine RK.D ?_
 refine AWp_sr hP ?_
 refine RK.V (Eff.call0 p_examples) ?_
 refine RK.As rfl ?_
 refine RK.D ?_
 refine AWp_seq ?_
 refine AWp_sr hP ?_
 refine RK.M rfl ?_
 refine RK.V (op_unot rfl) ?_
 refine RK.D ?_
 refine AWp_cond_false rfl rfl ?_
 refine AWp_skip ?_
 refine AWp_seq ?_
 refine AWp_sr hP ?_
 refine RK.G2 hT rfl rfl rfl rfl rfl rfl ?_
 refine RK.V (Eff.call0 (p_few o)) ?_
 refine RK.V (op_unot rfl) ?_
 refine RK.M rfl ?_
 refine RK.split (t := 19) rfl (fun hg1 => ?_) (fun hg1 => ?_)
 ·have hg1_ := (notT hg1)
  refine RK.skip (guard_no rfl rfl hg1) ?_
  refine RK.skip (guard_no rfl rfl hg1) ?_
  refine RK.skip (guard_no rfl rfl hg1) ?_
  refine RK.skip (guard_no rfl rfl hg1) ?_
  refine RK.V (op_pick_t rfl hg1 (rfl : _ = AV.p (.c _))) ?_
  refine RK.D ?_
  refine AWp_cond_true rfl rfl ?_
  refine AWp_sr hP ?_
  refine RK.M rfl ?_
  refine RK.As rfl ?_
  refine RK.D ?_
  refine AWp_ret ?_
  refine ends_one rfl (.inr rfl) (res_tmp rfl) ?_ O_ends
  exact .refl _
 ·have hg1_ := (notF hg1)
  refine RK.val (guard_yes rfl rfl hg1) (op_field_loc hT rfl rfl rfl rfl rfl rfl) ?_
  refine RK.val (guard_yes rfl rfl hg1) (op_load_one hT rfl rfl rfl rfl (by first | rfl | exact vget (by omega))) ?_
  refine RK.val (guard_yes rfl rfl hg1) (op_len hT rfl rfl rfl (by rfl)) ?_
  refine RK.val (guard_yes rfl rfl hg1) (op_eql rfl rfl) ?_
  refine RK.V (op_pick_f rfl hg1 (rfl : _ = AV.p (.c _))) ?_
  refine RK.D ?_
  refine AWp_cond rfl (fun hb2 => ?_) (fun hb2 => ?_)
  ·have hb2_ := bT hb2
   refine AWp_sr hP ?_
   refine RK.M rfl ?_
   refine RK.As rfl ?_
   refine RK.D ?_
   refine AWp_ret ?_
   refine ends_one rfl (.inr rfl) (res_tmp rfl) ?_ O_ends
   exact .refl _
  ·have hb2_ := bF hb2
   refine AWp_skip ?_
   refine AWp_sr hP ?_
   refine RK.M rfl ?_
   refine RK.M rfl ?_
   refine RK.V (Eff.call0 cM) ?_
   refine RK.F hT rfl rfl rfl rfl rfl rfl ?_
   refine RK.V (op_load_one hT rfl rfl rfl rfl (by first | rfl | exact vget (by omega))) ?_
   refine RK.V (op_len hT rfl rfl rfl (by rfl)) ?_
   refine RK.V (op_sub rfl rfl (c := nn) (by rw [hnn, IntKind.wrap_i64]; omega)) ?_
   refine RK.alc guard_none (op_alloc hT rfl rfl) ?_
   refine RK.S hT rfl rfl rfl rfl rfl rfl rfl ?_
   refine RK.As rfl ?_
   refine RK.D ?_
   refine AWp_seq ?_
   refine AWp_sr hP ?_
   refine RK.G2 hT rfl rfl rfl rfl rfl rfl ?_
   refine RK.V (Eff.call0 (p_RightB o)) ?_
   refine RK.G2 hT rfl rfl rfl rfl rfl rfl ?_
   refine RK.V (Eff.call0 (p_rRight o)) ?_
   refine RK.V (op_bne hT rfl rfl rfl rfl) ?_
   refine RK.M rfl ?_
   refine RK.val (guard_yes rfl rfl (bne_self_eq_false' _)) (op_load_agg hT rfl rfl rfl rfl (cs := [_, _]) rfl rfl) ?_
   refine RK.val (guard_yes rfl rfl (bne_self_eq_false' _)) (Eff.call0 cR) ?_
   refine RK.val (guard_yes rfl rfl (bne_self_eq_false' _)) (op_unot rfl) ?_
   refine RK.V (op_pick_f rfl (bne_self_eq_false' _) (rfl : _ = AV.p (.c _))) ?_
   refine RK.D ?_
   refine AWp_cond_false rfl rfl ?_
   refine AWp_skip ?_
   refine AWp_sr hP ?_
   refine RK.F hT rfl rfl rfl rfl rfl rfl ?_
   refine RK.V (op_load_one hT rfl rfl rfl rfl (by first | rfl | exact vget (by omega))) ?_
   refine RK.V (op_indexG hT enD_len (by decide) zD (n := 0) (l := o.1) rfl rfl rfl rfl rfl rfl (by omega)) ?_
   refine RK.V (op_load_ip_agg hT rfl rfl rfl (cs := enD (o.1.getD 0 zD)) rfl rfl) ?_
   refine RK.alc guard_none (op_alloc hT rfl rfl) ?_
   refine RK.S hT rfl rfl rfl rfl rfl rfl rfl ?_
   refine RK.D ?_
   refine AWp_le (t := stL [(7, B true), (8, .loc 8 0), (9, Z nn), (10, .loc 10 0)] [(8, ⟨false, 1, 27, enBk B0⟩), (10, ⟨false, 1, 45, enD (o.1.getD 0 zD)⟩)]) (le_stL ⟨.refl _, .refl _, .refl _, .refl _, trivial⟩ ⟨rfl, rfl, trivial⟩) ?_
   refine AWp_sr hP ?_
   refine RK.G2 hT rfl rfl rfl rfl rfl rfl ?_
   refine RK.V (op_load_agg hT rfl rfl rfl rfl (cs := enD (o.1.getD 0 zD)) rfl rfl) ?_
   refine RK.V (Eff.call0 cA1) ?_
   refine RK.V (op_move (rfl : _ = AV.t _)) ?_
   refine RK.V (op_extract rfl (v := .a _) rfl) ?_
   refine RK.V (op_extract rfl (v := .c _) rfl) ?_
   refine RK.alc guard_none (op_alloc hT rfl rfl) ?_
   refine RK.S hT rfl rfl rfl rfl rfl rfl rfl ?_
   refine RK.As rfl ?_
   refine RK.D ?_
   refine AWp_seq ?_
   refine AWp_sr hP ?_
   refine RK.G2 hT rfl rfl rfl rfl rfl rfl ?_
   refine RK.V (op_load_agg hT rfl rfl rfl rfl (cs := enD (o.1.getD 0 zD)) rfl rfl) ?_
   refine RK.V (Eff.call0 cA2) ?_
   refine RK.G2 hT rfl rfl rfl rfl rfl rfl ?_
   refine RK.M rfl ?_
   refine RK.V (Eff.call0 (p_sameGot XA XA EA EA)) ?_
   refine RK.V (op_unot rfl) ?_
   refine RK.D ?_
   refine AWp_cond_false rfl (congrArg not (sg_same XA EA)) ?_
   refine AWp_skip ?_
   refine AWp_le (t := stL [(7, B true), (8, .loc 8 0), (9, Z nn), (10, .loc 10 0), (11, .loc 11 0)] [(8, ⟨false, 1, 27, enBk B0⟩), (10, ⟨false, 1, 45, enD (o.1.getD 0 zD)⟩), (11, ⟨false, 1, 27, enBk XA⟩)]) (le_stL ⟨.refl _, .refl _, .refl _, .refl _, .refl _, trivial⟩ ⟨rfl, rfl, rfl, trivial⟩) ?_
   refine AWp_sr hP ?_
   refine RK.G2 hT rfl rfl rfl rfl rfl rfl ?_
   refine RK.V (op_load_agg hT rfl rfl rfl rfl (cs := enD (o.1.getD 0 zD)) rfl rfl) ?_
   refine RK.V (Eff.call0 cM1) ?_
   refine RK.V (op_move (rfl : _ = AV.t _)) ?_
   refine RK.V (op_extract rfl (v := .a _) rfl) ?_
   refine RK.V (op_extract rfl (v := .c _) rfl) ?_
   refine RK.S hT rfl rfl rfl rfl rfl rfl rfl ?_
   refine RK.As rfl ?_
   refine RK.D ?_
   refine AWp_seq ?_
   refine AWp_sr hP ?_
   refine RK.G2 hT rfl rfl rfl rfl rfl rfl ?_
   refine RK.V (op_load_agg hT rfl rfl rfl rfl (cs := enD (o.1.getD 0 zD)) rfl rfl) ?_
   refine RK.V (Eff.call0 cM2) ?_
   refine RK.G2 hT rfl rfl rfl rfl rfl rfl ?_
   refine RK.M rfl ?_
   refine RK.V (Eff.call0 (p_sameGot XM XM EM EM)) ?_
   refine RK.V (op_unot rfl) ?_
   refine RK.D ?_
   refine AWp_cond_false rfl (congrArg not (sg_same XM EM)) ?_
   refine AWp_skip ?_
   refine AWp_le (t := stL [(7, B true), (8, .loc 8 0), (9, Z nn), (10, .loc 10 0), (11, .loc 11 0)] [(8, ⟨false, 1, 27, enBk B0⟩), (10, ⟨false, 1, 45, enD (o.1.getD 0 zD)⟩), (11, ⟨false, 1, 27, enBk XM⟩)]) (le_stL ⟨.refl _, .refl _, .refl _, .refl _, .refl _, trivial⟩ ⟨rfl, rfl, rfl, trivial⟩) ?_
   refine AWp_sr hP ?_
   refine RK.G2 hT rfl rfl rfl rfl rfl rfl ?_
   refine RK.M rfl ?_
   refine RK.V (Eff.call0 cG1) ?_
   refine RK.V (op_move (rfl : _ = AV.t _)) ?_
   refine RK.V (op_extract rfl (v := .a _) rfl) ?_
   refine RK.V (op_extract rfl (v := .c _) rfl) ?_
   refine RK.S hT rfl rfl rfl rfl rfl rfl rfl ?_
   refine RK.As rfl ?_
   refine RK.D ?_
   refine AWp_seq ?_
   refine AWp_sr hP ?_
   refine RK.G2 hT rfl rfl rfl rfl rfl rfl ?_
   refine RK.M rfl ?_
   refine RK.V (Eff.call0 cG2) ?_
   refine RK.G2 hT rfl rfl rfl rfl rfl rfl ?_
   refine RK.M rfl ?_
   refine RK.V (Eff.call0 (p_sameGot XG XG EG EG)) ?_
   refine RK.V (op_unot rfl) ?_
   refine RK.D ?_
   refine AWp_cond_false rfl (congrArg not (sg_same XG EG)) ?_
   refine AWp_skip ?_
   refine AWp_le (t := stL [(7, B true), (8, .loc 8 0), (9, Z nn), (10, .loc 10 0), (11, .loc 11 0)] [(8, ⟨false, 1, 27, enBk B0⟩), (10, ⟨false, 1, 45, enD (o.1.getD 0 zD)⟩), (11, ⟨false, 1, 27, enBk XG⟩)]) (le_stL ⟨.refl _, .refl _, .refl _, .refl _, .refl _, trivial⟩ ⟨rfl, rfl, rfl, trivial⟩) ?_
   refine AWp_sr hP ?_
   refine RK.G2 hT rfl rfl rfl rfl rfl rfl ?_
   refine RK.M rfl ?_
   refine RK.V (Eff.call0 cW1) ?_
   refine RK.V (op_move (rfl : _ = AV.t _)) ?_
   refine RK.V (op_extract rfl (v := .a _) rfl) ?_
   refine RK.V (op_extract rfl (v := .c _) rfl) ?_
   refine RK.S hT rfl rfl rfl rfl rfl rfl rfl ?_
   refine RK.As rfl ?_
   refine RK.D ?_
   refine AWp_sr hP ?_
   refine RK.G2 hT rfl rfl rfl rfl rfl rfl ?_
   refine RK.M rfl ?_
   refine RK.V (Eff.call0 cW2) ?_
   refine RK.G2 hT rfl rfl rfl rfl rfl rfl ?_
   refine RK.M rfl ?_
   refine RK.V (Eff.call0 (p_sameGot XW XW EW EW)) ?_
   refine RK.M rfl ?_
   refine RK.val (guard_yes rfl rfl (sg_same XW EW)) (op_move (rfl : _ = AV.p (.c _))) ?_
   refine RK.V (op_pick_t rfl (sg_same XW EW) (rfl : _ = AV.p (.c _))) ?_
   refine RK.As rfl ?_
   refine RK.D ?_
   refine AWp_ret ?_
   refine ends_one rfl (.inr rfl) (res_tmp rfl) ?_ O_ends
   exact .refl _
end Go.Proofs.YtmoaoiakmmbpoaaGreatDoor
end
