/- Principal; the reference: trim made word Of Neg Abs Sign size Cmp Same -/
import Derived.Test.YtfdjankalhfceaaGreatLGI
import Derived.Test.YtfdjankalhfceaaGreatLGB
import Derived.Test.YtfdjankalhfceaaGreatLGC
section
namespace Go.Proofs.YtfdjankalhfceaaGreat
open Go Go.AM
/- algorist/quadratic.Principal -/
set_option maxHeartbeats 1000000 in
set_option maxRecDepth 100000 in
theorem q_Principal (d : Int) (hd : L 40 d) :
  Call0 Tryz.prog 8 [I d] (.t [PF (prF d), PE (prE d)]) := by
 have id : LB d 40 := ⟨hd⟩
 have h4a := Int.emod_nonneg d (show (4 : Int) ≠ 0 by decide)
 have h4b := Int.emod_lt_of_pos d (show (0 : Int) < 4 by decide)
 refine callM_of (np := 0) Tryz.func8 (by kernel_rfl) rfl rfl (Nat.le_of_ble_eq_true rfl) (fun m h => absurd rfl h) (fun m h => absurd rfl h) rfl ?_
 refine AWp_sr hP ?_
 refine RK.alc guard_none (op_box rfl rfl) ?_
 refine RK.alc guard_none (op_alloc hT rfl rfl) ?_
 refine RK.As rfl ?_
 refine RK.D ?_
 refine AWp_sr hP ?_
 refine RK.G2 hT rfl rfl rfl rfl rfl rfl ?_
 refine RK.V (Eff.call0 (q_number _ (by first | assumption | decide))) ?_
 refine RK.V (Eff.call0 (int_DivMod _ 4 lz lz (by decide))) ?_
 refine RK.V (op_move (rfl : _ = AV.t _)) ?_
 refine RK.V (op_extract rfl (v := .a _) rfl) ?_
 refine RK.V (op_extract rfl (v := .a _) rfl) ?_
 refine RK.V (op_extract rfl (v := .c _) rfl) ?_
 refine RK.alc guard_none (op_alloc hT rfl rfl) ?_
 refine RK.alc guard_none (op_alloc hT rfl rfl) ?_
 refine RK.S hT rfl rfl rfl rfl rfl rfl rfl ?_
 refine RK.S hT rfl rfl rfl rfl rfl rfl rfl ?_
 refine RK.As rfl ?_
 refine RK.D ?_
 refine AWp_sr hP ?_
 refine RK.G2 hT rfl rfl rfl rfl rfl rfl ?_
 refine RK.V (Eff.call0 (int_Low (d % 4) (by omega) (by omega))) ?_
 refine RK.V (op_move (rfl : _ = AV.t _)) ?_
 refine RK.V (op_extract rfl (v := .c _) rfl) ?_
 refine RK.V (op_extract rfl (v := .c _) rfl) ?_
 refine RK.As rfl ?_
 refine RK.As rfl ?_
 refine RK.D ?_
 refine AWp_seq ?_
 refine AWp_sr hP ?_
 refine RK.M rfl ?_
 refine RK.V (op_unot rfl) ?_
 refine RK.M rfl ?_
 refine RK.val (guard_yes rfl rfl rfl) (op_move (rfl : _ = AV.p (.c _))) ?_
 refine RK.val (guard_yes rfl rfl rfl) (op_gtr rfl rfl) ?_
 refine RK.V (op_pick_f rfl rfl (rfl : _ = AV.p (.c _))) ?_
 refine RK.M rfl ?_
 refine RK.split (t := 27) rfl (fun hg2 => ?_) (fun hg2 => ?_)
 ·have hg2_ := of_decide_eq_true hg2
  refine RK.skip (guard_no rfl rfl hg2) ?_
  refine RK.skip (guard_no rfl rfl hg2) ?_
  refine RK.V (op_pick_t rfl hg2 (rfl : _ = AV.p (.c _))) ?_
  refine RK.D ?_
  refine AWp_cond_true rfl rfl ?_
  refine AWp_sr hP ?_
  refine RK.V (op_build_st hT rfl rfl rfl (es := [_, _, _, _, _, _]) rfl) ?_
  refine RK.S hT rfl rfl rfl rfl rfl rfl rfl ?_
  refine RK.As rfl ?_
  refine RK.D ?_
  refine AWp_ret ?_
  refine ends_two rfl (.inr rfl) (res_cell_agg hT rfl rfl rfl rfl (cs := [_, _, _, _, _, _]) rfl rfl) (res_tmp rfl) ?_ O_ends
  exact Sub.of_eq (pr_no (.inl hg2_))
 ·have hg2_ := of_decide_eq_false hg2
  refine RK.val (guard_yes rfl rfl hg2) (op_load_agg hT rfl rfl rfl rfl (cs := [_, _]) rfl rfl) ?_
  refine RK.val (guard_yes rfl rfl hg2) (Eff.call0 (q_isSquare _ lz)) ?_
  refine RK.V (op_pick_f rfl hg2 (rfl : _ = AV.p (.c _))) ?_
  refine RK.D ?_
  refine AWp_cond rfl (fun hb3 => ?_) (fun hb3 => ?_)
  ·refine AWp_sr hP ?_
   refine RK.V (op_build_st hT rfl rfl rfl (es := [_, _, _, _, _, _]) rfl) ?_
   refine RK.S hT rfl rfl rfl rfl rfl rfl rfl ?_
   refine RK.As rfl ?_
   refine RK.D ?_
   refine AWp_ret ?_
   refine ends_two rfl (.inr rfl) (res_cell_agg hT rfl rfl rfl rfl (cs := [_, _, _, _, _, _]) rfl rfl) (res_tmp rfl) ?_ O_ends
   exact Sub.of_eq (pr_no (.inr hb3))
  ·refine AWp_skip ?_
   refine AWp_sr hP ?_
   refine RK.V (Eff.call0 (q_number _ (by first | assumption | decide))) ?_
   refine RK.G2 hT rfl rfl rfl rfl rfl rfl ?_
   refine RK.G2 hT rfl rfl rfl rfl rfl rfl ?_
   refine RK.V (Eff.call0 (int_Neg _)) ?_
   refine RK.V (op_build_st hT rfl rfl rfl (es := [_, _, _, _, _, _]) rfl) ?_
   refine RK.S hT rfl rfl rfl rfl rfl rfl rfl ?_
   refine RK.As rfl ?_
   refine RK.D ?_
   refine AWp_ret ?_
   refine ends_two rfl (.inr rfl) (res_cell_agg hT rfl rfl rfl rfl (cs := [_, _, _, _, _, _]) rfl rfl) (res_tmp rfl) ?_ O_ends
   exact Sub.of_eq (pr_yes hg2_ hb3)
/- algorist/algoristref01.trim -/
set_option maxHeartbeats 1000000 in
set_option maxRecDepth 100000 in
theorem r_trim (ws : List Nat) (hok : okW ws) :
  Call0 Tryz.prog 45 [.p (.c (W ws))] (.p (.c (nt (wv ws)))) := by
 refine callM_of (np := 0) Tryz.func45 (by kernel_rfl) rfl rfl (Nat.le_of_ble_eq_true rfl) (fun m h => absurd rfl h) (fun m h => absurd rfl h) rfl ?_
 refine AWp_len (t := 0) rfl rfl (fun hlen => ?_)
 refine AWp_sr hP ?_
 refine RK.As rfl ?_
 refine RK.D ?_
 refine AWp_seq ?_
 refine AWp_block ?_
 refine AWp_loop (ι := List Nat) (fun l => stL [(0, .p (.c (W l)))] []) (fun l => okW l ∧ wv l = wv ws ∧ l.length ≤ 140737488355328) (fun l => l.length) ws ⟨hok, rfl, hlen⟩ (le_stL ⟨.refl _, trivial⟩ trivial) ?_
 rintro l ⟨hl, hv, hn⟩
 refine AWp_seq ?_
 refine AWp_sr hP ?_
 refine RK.M rfl ?_
 refine RK.V (op_len hT rfl rfl rfl rfl) ?_
 refine RK.V (op_gtr rfl rfl) ?_
 refine RK.M rfl ?_
 refine RK.split (t := 6) rfl (fun hg1 => ?_) (fun hg1 => ?_)
 ·have hg1_ := of_decide_eq_true hg1
  refine RK.val (guard_yes rfl rfl hg1) (op_move (rfl : _ = AV.p (.c _))) ?_
  refine RK.val (guard_yes rfl rfl hg1) (op_move (rfl : _ = AV.p (.c _))) ?_
  refine RK.val (guard_yes rfl rfl hg1) (op_len hT rfl rfl rfl rfl) ?_
  refine RK.val (guard_yes rfl rfl hg1) (op_sub rfl rfl (by first | exact IntWalk.i64_in _ (by omega) | rfl)) ?_
  refine RK.val (guard_yes rfl rfl hg1) (by first | exact op_index_WN hT rfl rfl rfl rfl rfl rfl (by omega) | exact op_index_sl hT rfl rfl rfl rfl rfl rfl (by omega) (by first | exact W_ne (by omega) | simp)) ?_
  refine RK.val (guard_yes rfl rfl hg1) (op_load_ip_one hT rfl rfl rfl (by first | rfl | exact wget (by omega))) ?_
  refine RK.val (guard_yes rfl rfl hg1) (op_eql rfl rfl) ?_
  refine RK.V (op_pick_t rfl hg1 (rfl : _ = AV.p (.c _))) ?_
  refine RK.D ?_
  refine AWp_cond rfl (fun hb2 => ?_) (fun hb2 => ?_)
  ·have hb2_ := bT hb2
   refine AWp_skip ?_
   refine AWp_block ?_
   refine AWp_region hP ?_
   refine RK.M rfl ?_
   refine RK.M rfl ?_
   refine RK.V (op_len hT rfl rfl rfl rfl) ?_
   refine RK.V (op_sub rfl rfl (by first | exact IntWalk.i64_in _ (by omega) | rfl)) ?_
   refine RK.V (op_slice_hW hT rfl rfl rfl rfl rfl rfl (by omega)) ?_
   refine RK.As rfl ?_
   refine RK.D ?_
   have e : ((l.length : Int) - 1).toNat = l.length - 1 := by omega
   refine ⟨l.take (l.length - 1), ⟨hl.take _, ?_, ?_⟩, ?_, le_stL ⟨Sub.of_eq ?_, trivial⟩ trivial⟩
   ·rw [wv_last0 (by omega) (by rw [← e]; omega), hv]
   ·rw [List.length_take]; omega
   ·rw [List.length_take]; omega
   ·show AV.p (.c (W (l.take ((l.length : Int) - 1).toNat))) = _
    rw [e]
  ·have hb2_ := bF hb2
   refine AWp_exit ?_
   refine AWp_sr hP ?_
   refine RK.M rfl ?_
   refine RK.As rfl ?_
   refine RK.D ?_
   refine AWp_ret ?_
   refine ends_one rfl (.inr rfl) (res_tmp rfl) ?_ O_ends
   have e : ((l.length : Int) - 1).toNat = l.length - 1 := by omega
   refine Sub.of_eq ?_
   rw [← hv, nt_of hl (.inr (by rw [← e]; omega))]
 ·have hg1_ := of_decide_eq_false hg1
  refine RK.skip (guard_no rfl rfl hg1) ?_
  refine RK.skip (guard_no rfl rfl hg1) ?_
  refine RK.skip (guard_no rfl rfl hg1) ?_
  refine RK.skip (guard_no rfl rfl hg1) ?_
  refine RK.skip (guard_no rfl rfl hg1) ?_
  refine RK.skip (guard_no rfl rfl hg1) ?_
  refine RK.skip (guard_no rfl rfl hg1) ?_
  refine RK.V (op_pick_f rfl hg1 (rfl : _ = AV.p (.c _))) ?_
  refine RK.D ?_
  refine AWp_cond_false rfl rfl ?_
  refine AWp_exit ?_
  refine AWp_sr hP ?_
  refine RK.M rfl ?_
  refine RK.As rfl ?_
  refine RK.D ?_
  refine AWp_ret ?_
  refine ends_one rfl (.inr rfl) (res_tmp rfl) ?_ O_ends
  refine Sub.of_eq ?_
  rw [← hv, nt_of hl (.inl (by omega))]
/- algorist/algoristref01.made -/
set_option maxHeartbeats 1000000 in
set_option maxRecDepth 100000 in
theorem r_made (neg : Bool) (ws : List Nat) (h : okW ws) :
  Call0 Tryz.prog 13 [B neg, .p (.c (W ws))] (I (sg neg (wv ws))) := by
 refine callM_of (np := 0) Tryz.func13 (by kernel_rfl) rfl rfl (Nat.le_of_ble_eq_true rfl) (fun m h => absurd rfl h) (fun m h => absurd rfl h) rfl ?_
 refine AWp_sr hP ?_
 refine RK.alc guard_none (op_alloc hT rfl rfl) ?_
 refine RK.D ?_
 refine AWp_sr hP ?_
 refine RK.M rfl ?_
 refine RK.V (Eff.call0 (r_trim _ h)) ?_
 refine RK.As rfl ?_
 refine RK.D ?_
 refine AWp_seq ?_
 refine AWp_sr hP ?_
 refine RK.M rfl ?_
 refine RK.V (op_len hT rfl rfl rfl rfl) ?_
 refine RK.V (op_eql rfl rfl) ?_
 refine RK.D ?_
 refine AWp_cond rfl (fun hb1 => ?_) (fun hb1 => ?_)
 ·have hb1_ := bT hb1
  refine AWp_sr hP ?_
  refine RK.V (op_build_st hT rfl rfl rfl (es := [_, _]) rfl) ?_
  refine RK.S hT rfl rfl rfl rfl rfl rfl rfl ?_
  refine RK.D ?_
  refine AWp_ret ?_
  refine ends_one rfl (.inr rfl) (res_cell_agg hT rfl rfl rfl rfl (cs := [_, _]) rfl rfl) ?_ O_ends
  have h0 : wv ws = 0 := wl_len0 (by omega)
  rw [h0, sg_zero]
  exact .refl _
 ·have hb1_ := bF hb1
  refine AWp_skip ?_
  refine AWp_sr hP ?_
  refine RK.M rfl ?_
  refine RK.M rfl ?_
  refine RK.V (op_build_st hT rfl rfl rfl (es := [_, _]) rfl) ?_
  refine RK.S hT rfl rfl rfl rfl rfl rfl rfl ?_
  refine RK.D ?_
  refine AWp_ret ?_
  refine ends_one rfl (.inr rfl) (res_cell_agg hT rfl rfl rfl rfl (cs := [_, _]) rfl rfl) ?_ O_ends
  have h0 : 0 < wv ws := by
   rcases Nat.eq_zero_or_pos (wv ws) with e | e
   ·rw [e] at hb1_; exact absurd rfl hb1_
   ·exact e
  exact Sub.of_eq (by show _ = AV.p (.a [zn _, zm _]); rw [zn_sg h0, zm_sg])
/- algorist/algoristref01.word -/
set_option maxHeartbeats 1000000 in
set_option maxRecDepth 100000 in
theorem r_word (ws : List Nat) (i : Int) (hok : okW ws) :
  Call0 Tryz.prog 143 [.p (.c (W ws)), Z i] (.p (.c (.v (.int .u64 ((wd ws i : Nat) : Int))))) := by
 refine callM_of (np := 0) Tryz.func143 (by kernel_rfl) rfl rfl (Nat.le_of_ble_eq_true rfl) (fun m h => absurd rfl h) (fun m h => absurd rfl h) rfl ?_
 refine AWp_sr hP ?_
 refine RK.As rfl ?_
 refine RK.D ?_
 refine AWp_seq ?_
 refine AWp_sr hP ?_
 refine RK.M rfl ?_
 refine RK.V (op_lss rfl rfl) ?_
 refine RK.M rfl ?_
 refine RK.split (t := 7) rfl (fun hg1 => ?_) (fun hg1 => ?_)
 ·have hg1_ := of_decide_eq_true hg1
  refine RK.skip (guard_no rfl rfl hg1) ?_
  refine RK.skip (guard_no rfl rfl hg1) ?_
  refine RK.skip (guard_no rfl rfl hg1) ?_
  refine RK.skip (guard_no rfl rfl hg1) ?_
  refine RK.V (op_pick_t rfl hg1 (rfl : _ = AV.p (.c _))) ?_
  refine RK.D ?_
  refine AWp_cond_true rfl rfl ?_
  refine AWp_sr hP ?_
  refine RK.As rfl ?_
  refine RK.D ?_
  refine AWp_ret ?_
  refine ends_one rfl (.inr rfl) (res_tmp rfl) ?_ O_ends
  exact Sub.int (by rw [wd_out (.inl hg1_)]; rfl)
 ·have hg1_ := of_decide_eq_false hg1
  have hi0 := of_decide_eq_false hg1
  refine RK.val (guard_yes rfl rfl hg1) (op_move (rfl : _ = AV.p (.c _))) ?_
  refine RK.val (guard_yes rfl rfl hg1) (op_move (rfl : _ = AV.p (.c _))) ?_
  refine RK.val (guard_yes rfl rfl hg1) (op_len hT rfl rfl rfl rfl) ?_
  refine RK.val (guard_yes rfl rfl hg1) (op_geq rfl rfl) ?_
  refine RK.V (op_pick_f rfl hg1 (rfl : _ = AV.p (.c _))) ?_
  refine RK.D ?_
  refine AWp_cond rfl (fun hb2 => ?_) (fun hb2 => ?_)
  ·have hb2_ := of_decide_eq_true hb2
   refine AWp_sr hP ?_
   refine RK.As rfl ?_
   refine RK.D ?_
   refine AWp_ret ?_
   refine ends_one rfl (.inr rfl) (res_tmp rfl) ?_ O_ends
   exact Sub.int (by rw [wd_out (.inr hb2_)]; rfl)
  ·have hb2_ := of_decide_eq_false hb2
   refine AWp_skip ?_
   refine AWp_sr hP ?_
   refine RK.M rfl ?_
   refine RK.M rfl ?_
   refine RK.V (by first | exact op_index_WN hT rfl rfl rfl rfl rfl rfl (by omega) | exact op_index_sl hT rfl rfl rfl rfl rfl rfl (by omega) (by first | exact W_ne (by omega) | simp)) ?_
   refine RK.V (op_load_ip_one hT rfl rfl rfl (by first | rfl | exact wget (by omega))) ?_
   refine RK.V (op_conv hT rfl rfl rfl rfl (IntWalk.u64_in _ (by have := hok.getD i.toNat; omega))) ?_
   refine RK.As rfl ?_
   refine RK.D ?_
   refine AWp_ret ?_
   refine ends_one rfl (.inr rfl) (res_tmp rfl) ?_ O_ends
   exact Sub.int (by rw [wd_in (by omega)])
/- algorist/algoristref01.Of -/
set_option maxHeartbeats 1000000 in
set_option maxRecDepth 100000 in
theorem r_Of (z : Int) (hz : InI64 z) :
  Call0 Tryz.prog 4 [.p (.c (.v (.int .i64 z)))] (I z) := by
 have hz1 : z.natAbs < 18446744073709551616 := by unfold InI64 at hz; omega
 refine callM_of (np := 0) Tryz.func4 (by kernel_rfl) rfl rfl (Nat.le_of_ble_eq_true rfl) (fun m h => absurd rfl h) (fun m h => absurd rfl h) rfl ?_
 refine AWp_sr hP ?_
 refine RK.alc guard_none (op_alloc hT rfl rfl) ?_
 refine RK.D ?_
 refine AWp_sr hP ?_
 refine RK.M rfl ?_
 refine RK.V (op_conv hT rfl rfl rfl rfl u64_nonneg) ?_
 refine RK.As rfl ?_
 refine RK.D ?_
 refine AWp_seq ?_
 refine AWp_sr hP ?_
 refine RK.M rfl ?_
 refine RK.V (op_lss rfl rfl) ?_
 refine RK.D ?_
 refine AWp_cond rfl (fun hb1 => ?_) (fun hb1 => ?_)
 ·have hb1_ := of_decide_eq_true hb1
  refine AWp_region hP ?_
  refine RK.M rfl ?_
  refine RK.V (op_uneg rfl (u64_negc hz hb1_)) ?_
  refine RK.As rfl ?_
  refine RK.D ?_
  refine AWp_sr hP ?_
  refine RK.M rfl ?_
  refine RK.V (op_lss rfl rfl) ?_
  refine RK.M rfl ?_
  refine RK.V (op_conv hT rfl rfl rfl rfl (c := ((z.natAbs % 4294967296 : Nat) : Int)) (by first | exact u32_lo _ | exact of_lo hz hb1_)) ?_
  refine RK.M rfl ?_
  refine RK.V (op_shrN (j := 32) rfl rfl (by decide)) ?_
  refine RK.V (op_conv hT rfl rfl rfl rfl (c := ((z.natAbs / 2 ^ 32 : Nat) : Int)) (by first | exact of_hi' hz | exact of_hi hz hb1_)) ?_
  refine RK.V (op_bslice hT rfl rfl rfl (es := [_, _]) rfl rfl rfl) ?_
  refine RK.V (Eff.call0 (r_made _ [z.natAbs % 4294967296, z.natAbs / 2 ^ 32] (okW_two (by omega)))) ?_
  refine RK.S hT rfl rfl rfl rfl rfl rfl rfl ?_
  refine RK.D ?_
  refine AWp_ret ?_
  refine ends_one rfl (.inr rfl) (res_cell_agg hT rfl rfl rfl rfl (cs := [_, _]) rfl rfl) ?_ O_ends
  exact Sub.I (by rw [wv_two]; exact of_sg)
 ·have hb1_ := of_decide_eq_false hb1
  refine AWp_skip ?_
  refine AWp_sr hP ?_
  refine RK.M rfl ?_
  refine RK.V (op_lss rfl rfl) ?_
  refine RK.M rfl ?_
  refine RK.V (op_conv hT rfl rfl rfl rfl (c := ((z.natAbs % 4294967296 : Nat) : Int)) (by first | exact u32_lo _ | exact of_lo hz hb1_)) ?_
  refine RK.M rfl ?_
  refine RK.V (op_shrN (j := 32) rfl rfl (by decide)) ?_
  refine RK.V (op_conv hT rfl rfl rfl rfl (c := ((z.natAbs / 2 ^ 32 : Nat) : Int)) (by first | exact of_hi' hz | exact of_hi hz hb1_)) ?_
  refine RK.V (op_bslice hT rfl rfl rfl (es := [_, _]) rfl rfl rfl) ?_
  refine RK.V (Eff.call0 (r_made _ [z.natAbs % 4294967296, z.natAbs / 2 ^ 32] (okW_two (by omega)))) ?_
  refine RK.S hT rfl rfl rfl rfl rfl rfl rfl ?_
  refine RK.D ?_
  refine AWp_ret ?_
  refine ends_one rfl (.inr rfl) (res_cell_agg hT rfl rfl rfl rfl (cs := [_, _]) rfl rfl) ?_ O_ends
  exact Sub.I (by rw [wv_two]; exact of_sg)
/- algorist/algoristref01.Neg -/
set_option maxHeartbeats 1000000 in
set_option maxRecDepth 100000 in
theorem r_Neg (x : Int) :
  Call0 Tryz.prog 149 [I x] (I (-x)) := by
 refine callM_of (np := 0) Tryz.func149 (by kernel_rfl) rfl rfl (Nat.le_of_ble_eq_true rfl) (fun m h => absurd rfl h) (fun m h => absurd rfl h) rfl ?_
 refine AWp_sr hP ?_
 refine RK.alc guard_none (op_box rfl rfl) ?_
 refine RK.alc guard_none (op_alloc hT rfl rfl) ?_
 refine RK.D ?_
 refine AWp_sr hP ?_
 refine RK.F hT rfl rfl rfl rfl rfl rfl ?_
 refine RK.V (op_load_one hT rfl rfl rfl rfl (by first | rfl | exact vget (by omega))) ?_
 refine RK.V (op_unot rfl) ?_
 refine RK.F hT rfl rfl rfl rfl rfl rfl ?_
 refine RK.V (op_load_one hT rfl rfl rfl rfl (by first | rfl | exact vget (by omega))) ?_
 refine RK.V (Eff.call0 (r_made _ (wl x.natAbs) (wl_ok _))) ?_
 refine RK.S hT rfl rfl rfl rfl rfl rfl rfl ?_
 refine RK.D ?_
 refine AWp_ret ?_
 refine ends_one rfl (.inr rfl) (res_cell_agg hT rfl rfl rfl rfl (cs := [_, _]) rfl rfl) ?_ O_ends
 exact Sub.I (neg_sg x)
/- algorist/algoristref01.Abs -/
set_option maxHeartbeats 1000000 in
set_option maxRecDepth 100000 in
theorem r_Abs (x : Int) :
  Call0 Tryz.prog 122 [I x] (I x.natAbs) := by
 refine callM_of (np := 0) Tryz.func122 (by kernel_rfl) rfl rfl (Nat.le_of_ble_eq_true rfl) (fun m h => absurd rfl h) (fun m h => absurd rfl h) rfl ?_
 refine AWp_sr hP ?_
 refine RK.alc guard_none (op_box rfl rfl) ?_
 refine RK.alc guard_none (op_alloc hT rfl rfl) ?_
 refine RK.D ?_
 refine AWp_sr hP ?_
 refine RK.F hT rfl rfl rfl rfl rfl rfl ?_
 refine RK.V (op_load_one hT rfl rfl rfl rfl (by first | rfl | exact vget (by omega))) ?_
 refine RK.V (Eff.call0 (r_made _ (wl x.natAbs) (wl_ok _))) ?_
 refine RK.S hT rfl rfl rfl rfl rfl rfl rfl ?_
 refine RK.D ?_
 refine AWp_ret ?_
 refine ends_one rfl (.inr rfl) (res_cell_agg hT rfl rfl rfl rfl (cs := [_, _]) rfl rfl) ?_ O_ends
 exact Sub.I (abs_sg x)
/- algorist/algoristref01.Sign -/
set_option maxHeartbeats 1000000 in
set_option maxRecDepth 100000 in
theorem r_Sign (x : Int) :
  Call0 Tryz.prog 46 [I x] (Z (sgn x)) := by
 refine callM_of (np := 0) Tryz.func46 (by kernel_rfl) rfl rfl (Nat.le_of_ble_eq_true rfl) (fun m h => absurd rfl h) (fun m h => absurd rfl h) rfl ?_
 refine AWp_sr hP ?_
 refine RK.alc guard_none (op_box rfl rfl) ?_
 refine RK.As rfl ?_
 refine RK.D ?_
 refine AWp_seq ?_
 refine AWp_sr hP ?_
 refine RK.F hT rfl rfl rfl rfl rfl rfl ?_
 refine RK.V (op_load_one hT rfl rfl rfl rfl (by first | rfl | exact vget (by omega))) ?_
 refine RK.V (op_len hT rfl rfl rfl rfl) ?_
 refine RK.V (op_eql rfl rfl) ?_
 refine RK.D ?_
 refine AWp_cond rfl (fun hb1 => ?_) (fun hb1 => ?_)
 ·have hb1_ := bT hb1
  refine AWp_sr hP ?_
  refine RK.As rfl ?_
  refine RK.D ?_
  refine AWp_ret ?_
  refine ends_one rfl (.inr rfl) (res_tmp rfl) ?_ O_ends
  have h0 := wl_len_zero.1 hb1_
  exact Sub.int (by rw [h0]; rfl)
 ·have hb1_ := bF hb1
  refine AWp_skip ?_
  refine AWp_seq ?_
  refine AWp_sr hP ?_
  refine RK.F hT rfl rfl rfl rfl rfl rfl ?_
  refine RK.V (op_load_one hT rfl rfl rfl rfl (by first | rfl | exact vget (by omega))) ?_
  refine RK.D ?_
  refine AWp_cond rfl (fun hb2 => ?_) (fun hb2 => ?_)
  ·refine AWp_sr hP ?_
   refine RK.As rfl ?_
   refine RK.D ?_
   refine AWp_ret ?_
   refine ends_one rfl (.inr rfl) (res_tmp rfl) ?_ O_ends
   exact Sub.int (sgn_neg hb2).symm
  ·refine AWp_skip ?_
   refine AWp_sr hP ?_
   refine RK.As rfl ?_
   refine RK.D ?_
   refine AWp_ret ?_
   refine ends_one rfl (.inr rfl) (res_tmp rfl) ?_ O_ends
   have h0 : x ≠ 0 := fun e => hb1_ (wl_len_zero.2 e)
   exact Sub.int (sgn_pos h0 hb2).symm
/- algorist/algoristref01.size -/
set_option maxHeartbeats 1000000 in
set_option maxRecDepth 100000 in
theorem r_size (m n : Nat) :
  Call0 Tryz.prog 53 [.p (.c (nt m)), .p (.c (nt n))] (Z (cmpI m n)) := by
 refine callM_of (np := 0) Tryz.func53 (by kernel_rfl) rfl rfl (Nat.le_of_ble_eq_true rfl) (fun m h => absurd rfl h) (fun m h => absurd rfl h) rfl ?_
 refine AWp_len (t := 0) rfl rfl (fun hlen => ?_)
 refine AWp_len (t := 1) rfl rfl (fun hlen2 => ?_)
 refine AWp_sr hP ?_
 refine RK.As rfl ?_
 refine RK.D ?_
 refine AWp_seq ?_
 refine AWp_sr hP ?_
 refine RK.M rfl ?_
 refine RK.V (op_len hT rfl rfl rfl rfl) ?_
 refine RK.M rfl ?_
 refine RK.V (op_len hT rfl rfl rfl rfl) ?_
 refine RK.V (op_neq rfl rfl) ?_
 refine RK.D ?_
 refine AWp_cond rfl (fun hb1 => ?_) (fun hb1 => ?_)
 ·have hb1_ := bneT hb1
  refine AWp_seq ?_
  refine AWp_sr hP ?_
  refine RK.M rfl ?_
  refine RK.V (op_len hT rfl rfl rfl rfl) ?_
  refine RK.M rfl ?_
  refine RK.V (op_len hT rfl rfl rfl rfl) ?_
  refine RK.V (op_lss rfl rfl) ?_
  refine RK.D ?_
  refine AWp_cond rfl (fun hb2 => ?_) (fun hb2 => ?_)
  ·have hb2_ := of_decide_eq_true hb2
   refine AWp_sr hP ?_
   refine RK.As rfl ?_
   refine RK.D ?_
   refine AWp_ret ?_
   refine ends_one rfl (.inr rfl) (res_tmp rfl) ?_ O_ends
   exact Sub.int (cmp_len_lt hb1_ hb2_)
  ·have hb2_ := of_decide_eq_false hb2
   refine AWp_skip ?_
   refine AWp_sr hP ?_
   refine RK.As rfl ?_
   refine RK.D ?_
   refine AWp_ret ?_
   refine ends_one rfl (.inr rfl) (res_tmp rfl) ?_ O_ends
   exact Sub.int (cmp_len_gt hb1_ hb2_)
 ·have hb1_ := bneF hb1
  refine AWp_skip ?_
  refine AWp_seq ?_
  refine AWp_sr hP ?_
  refine RK.M rfl ?_
  refine RK.V (op_len hT rfl rfl rfl rfl) ?_
  refine RK.V (op_sub rfl rfl (by first | exact IntWalk.i64_in _ (by omega) | rfl)) ?_
  refine RK.As rfl ?_
  refine RK.D ?_
  refine AWp_block ?_
  have hll : (wl m).length = (wl n).length := by omega
  refine AWp_loop (ι := Nat) (fun k => stL [(0, .p (.c (nt m))), (1, .p (.c (nt n))), (5, Z ((k : Int) - 1))] []) (fun k => k ≤ (wl m).length ∧ (wl m).drop k = (wl n).drop k) (fun k => k) (wl m).length ⟨Nat.le_refl _, by rw [List.drop_length, hll, List.drop_length]⟩ (le_stL ⟨.refl _, .refl _, .refl _, trivial⟩ trivial) ?_
  rintro k ⟨hk, he⟩
  refine AWp_seq ?_
  refine AWp_sr hP ?_
  refine RK.M rfl ?_
  refine RK.V (op_geq rfl rfl) ?_
  refine RK.D ?_
  refine AWp_cond rfl (fun hb3 => ?_) (fun hb3 => ?_)
  ·have hb3_ := of_decide_eq_true hb3
   refine AWp_skip ?_
   refine AWp_seq ?_
   refine AWp_block ?_
   refine AWp_seq ?_
   refine AWp_sr hP ?_
   refine RK.M rfl ?_
   refine RK.M rfl ?_
   refine RK.V (op_index_sl hT rfl rfl rfl rfl rfl rfl (l := (wl m).length) (xs := (wl m).map w32) (by omega) (W_ne (by omega))) ?_
   refine RK.V (op_load_ip_one hT rfl rfl rfl (by first | rfl | exact wget (by omega))) ?_
   refine RK.M rfl ?_
   refine RK.M rfl ?_
   refine RK.V (op_index_sl hT rfl rfl rfl rfl rfl rfl (l := (wl n).length) (xs := (wl n).map w32) (by omega) (W_ne (by omega))) ?_
   refine RK.V (op_load_ip_one hT rfl rfl rfl (by first | rfl | exact wget (by omega))) ?_
   refine RK.V (op_lss rfl rfl) ?_
   refine RK.D ?_
   refine AWp_cond rfl (fun hb4 => ?_) (fun hb4 => ?_)
   ·have hb4_ := of_decide_eq_true hb4
    refine AWp_sr hP ?_
    refine RK.As rfl ?_
    refine RK.D ?_
    refine AWp_ret ?_
    refine ends_one rfl (.inr rfl) (res_tmp rfl) ?_ O_ends
    have hkk : ((k : Int) - 1).toNat = k - 1 := by omega
    rw [hkk] at hb4_
    have h2 := cmp_word' hll (k := k - 1) (by omega) (by rw [show k - 1 + 1 = k by omega]; exact he) (by rw [cmpI_lt hb4_]; decide)
    exact Sub.int (by rw [← h2, cmpI_lt hb4_])
   ·have hb4_ := of_decide_eq_false hb4
    refine AWp_skip ?_
    refine AWp_sr hP ?_
    refine RK.M rfl ?_
    refine RK.M rfl ?_
    refine RK.V (op_index_sl hT rfl rfl rfl rfl rfl rfl (l := (wl m).length) (xs := (wl m).map w32) (by omega) (W_ne (by omega))) ?_
    refine RK.V (op_load_ip_one hT rfl rfl rfl (by first | rfl | exact wget (by omega))) ?_
    refine RK.M rfl ?_
    refine RK.M rfl ?_
    refine RK.V (op_index_sl hT rfl rfl rfl rfl rfl rfl (l := (wl n).length) (xs := (wl n).map w32) (by omega) (W_ne (by omega))) ?_
    refine RK.V (op_load_ip_one hT rfl rfl rfl (by first | rfl | exact wget (by omega))) ?_
    refine RK.V (op_gtr rfl rfl) ?_
    refine RK.D ?_
    refine AWp_cond rfl (fun hb5 => ?_) (fun hb5 => ?_)
    ·have hb5_ := of_decide_eq_true hb5
     refine AWp_sr hP ?_
     refine RK.As rfl ?_
     refine RK.D ?_
     refine AWp_ret ?_
     refine ends_one rfl (.inr rfl) (res_tmp rfl) ?_ O_ends
     have hkk : ((k : Int) - 1).toNat = k - 1 := by omega
     rw [hkk] at hb5_
     have h2 := cmp_word' hll (k := k - 1) (by omega) (by rw [show k - 1 + 1 = k by omega]; exact he) (by rw [cmpI_gt hb5_]; decide)
     exact Sub.int (by rw [← h2, cmpI_gt hb5_])
    ·have hb5_ := of_decide_eq_false hb5
     refine AWp_skip ?_
     refine AWp_region hP ?_
     refine RK.M rfl ?_
     refine RK.V (op_sub rfl rfl (by first | exact IntWalk.i64_in _ (by omega) | rfl)) ?_
     refine RK.As rfl ?_
     refine RK.D ?_
     have hkk : ((k : Int) - 1).toNat = k - 1 := by omega
     rw [hkk] at hb4_ hb5_
     refine ⟨k - 1, ⟨by omega, ?_⟩, by omega, le_stL ⟨.refl _, .refl _, Sub.int (by omega), trivial⟩ trivial⟩
     have e1 := drop_getD (ws := wl m) (k := k - 1) (by omega)
     have e2 := drop_getD (ws := wl n) (k := k - 1) (by omega)
     rw [e1, e2, show k - 1 + 1 = k by omega, he]
     congr 1
     omega
  ·have hb3_ := of_decide_eq_false hb3
   refine AWp_exit ?_
   refine AWp_sr hP ?_
   refine RK.As rfl ?_
   refine RK.D ?_
   refine AWp_ret ?_
   refine ends_one rfl (.inr rfl) (res_tmp rfl) ?_ O_ends
   have h0 : k = 0 := by omega
   subst h0
   have : m = n := by rw [← wv_wl m, ← wv_wl n]; exact congrArg wv he
   exact Sub.int (by rw [this, cmpI_self])
/- algorist/algoristref01.Cmp -/
set_option maxHeartbeats 1000000 in
set_option maxRecDepth 100000 in
theorem r_Cmp (x y : Int) :
  Call0 Tryz.prog 47 [I x, I y] (Z (cmpI x y)) := by
 refine callM_of (np := 0) Tryz.func47 (by kernel_rfl) rfl rfl (Nat.le_of_ble_eq_true rfl) (fun m h => absurd rfl h) (fun m h => absurd rfl h) rfl ?_
 refine AWp_sr hP ?_
 refine RK.alc guard_none (op_box rfl rfl) ?_
 refine RK.alc guard_none (op_box rfl rfl) ?_
 refine RK.As rfl ?_
 refine RK.D ?_
 refine AWp_seq ?_
 refine AWp_sr hP ?_
 refine RK.F hT rfl rfl rfl rfl rfl rfl ?_
 refine RK.V (op_load_one hT rfl rfl rfl rfl (by first | rfl | exact vget (by omega))) ?_
 refine RK.F hT rfl rfl rfl rfl rfl rfl ?_
 refine RK.V (op_load_one hT rfl rfl rfl rfl (by first | rfl | exact vget (by omega))) ?_
 refine RK.V (op_bne hT rfl rfl rfl rfl) ?_
 refine RK.D ?_
 refine AWp_cond rfl (fun hb1 => ?_) (fun hb1 => ?_)
 ·refine AWp_seq ?_
  refine AWp_sr hP ?_
  refine RK.F hT rfl rfl rfl rfl rfl rfl ?_
  refine RK.V (op_load_one hT rfl rfl rfl rfl (by first | rfl | exact vget (by omega))) ?_
  refine RK.D ?_
  refine AWp_cond rfl (fun hb2 => ?_) (fun hb2 => ?_)
  ·refine AWp_sr hP ?_
   refine RK.As rfl ?_
   refine RK.D ?_
   refine AWp_ret ?_
   refine ends_one rfl (.inr rfl) (res_tmp rfl) ?_ O_ends
   exact Sub.int (by rw [ref_cmp hb1, if_pos (of_decide_eq_true hb2)])
  ·refine AWp_skip ?_
   refine AWp_sr hP ?_
   refine RK.As rfl ?_
   refine RK.D ?_
   refine AWp_ret ?_
   refine ends_one rfl (.inr rfl) (res_tmp rfl) ?_ O_ends
   exact Sub.int (by rw [ref_cmp hb1, if_neg (of_decide_eq_false hb2)])
 ·refine AWp_skip ?_
  refine AWp_seq ?_
  refine AWp_sr hP ?_
  refine RK.F hT rfl rfl rfl rfl rfl rfl ?_
  refine RK.V (op_load_one hT rfl rfl rfl rfl (by first | rfl | exact vget (by omega))) ?_
  refine RK.D ?_
  refine AWp_cond rfl (fun hb3 => ?_) (fun hb3 => ?_)
  ·refine AWp_sr hP ?_
   refine RK.F hT rfl rfl rfl rfl rfl rfl ?_
   refine RK.V (op_load_one hT rfl rfl rfl rfl (by first | rfl | exact vget (by omega))) ?_
   refine RK.F hT rfl rfl rfl rfl rfl rfl ?_
   refine RK.V (op_load_one hT rfl rfl rfl rfl (by first | rfl | exact vget (by omega))) ?_
   refine RK.V (Eff.call0 (r_size y.natAbs x.natAbs)) ?_
   refine RK.As rfl ?_
   refine RK.D ?_
   refine AWp_ret ?_
   refine ends_one rfl (.inr rfl) (res_tmp rfl) ?_ O_ends
   exact Sub.int (ref_cmp_neg hb1 (of_decide_eq_true hb3))
  ·refine AWp_skip ?_
   refine AWp_sr hP ?_
   refine RK.F hT rfl rfl rfl rfl rfl rfl ?_
   refine RK.V (op_load_one hT rfl rfl rfl rfl (by first | rfl | exact vget (by omega))) ?_
   refine RK.F hT rfl rfl rfl rfl rfl rfl ?_
   refine RK.V (op_load_one hT rfl rfl rfl rfl (by first | rfl | exact vget (by omega))) ?_
   refine RK.V (Eff.call0 (r_size x.natAbs y.natAbs)) ?_
   refine RK.As rfl ?_
   refine RK.D ?_
   refine AWp_ret ?_
   refine ends_one rfl (.inr rfl) (res_tmp rfl) ?_ O_ends
   exact Sub.int (ref_cmp_pos hb1 (of_decide_eq_false hb3))
/- algorist/algoristref01.Same -/
set_option maxHeartbeats 1000000 in
set_option maxRecDepth 100000 in
theorem r_Same (x y : Int) :
  Call0 Tryz.prog 19 [I x, I y] (B (decide (x = y))) := by
 refine callM_of (np := 0) Tryz.func19 (by kernel_rfl) rfl rfl (Nat.le_of_ble_eq_true rfl) (fun m h => absurd rfl h) (fun m h => absurd rfl h) rfl ?_
 refine AWp_sr hP ?_
 refine RK.alc guard_none (op_box rfl rfl) ?_
 refine RK.alc guard_none (op_box rfl rfl) ?_
 refine RK.As rfl ?_
 refine RK.D ?_
 refine AWp_sr hP ?_
 refine RK.F hT rfl rfl rfl rfl rfl rfl ?_
 refine RK.V (op_load_one hT rfl rfl rfl rfl (by first | rfl | exact vget (by omega))) ?_
 refine RK.F hT rfl rfl rfl rfl rfl rfl ?_
 refine RK.V (op_load_one hT rfl rfl rfl rfl (by first | rfl | exact vget (by omega))) ?_
 refine RK.V (op_beq hT rfl rfl rfl rfl) ?_
 refine RK.M rfl ?_
 refine RK.split (t := 10) rfl (fun hg1 => ?_) (fun hg1 => ?_)
 ·refine RK.val (guard_yes rfl rfl hg1) (op_field_loc hT rfl rfl rfl rfl rfl rfl) ?_
  refine RK.val (guard_yes rfl rfl hg1) (op_load_one hT rfl rfl rfl rfl (by first | rfl | exact vget (by omega))) ?_
  refine RK.val (guard_yes rfl rfl hg1) (op_field_loc hT rfl rfl rfl rfl rfl rfl) ?_
  refine RK.val (guard_yes rfl rfl hg1) (op_load_one hT rfl rfl rfl rfl (by first | rfl | exact vget (by omega))) ?_
  refine RK.val (guard_yes rfl rfl hg1) (Eff.call0 (r_size x.natAbs y.natAbs)) ?_
  refine RK.val (guard_yes rfl rfl hg1) (op_eql rfl rfl) ?_
  refine RK.V (op_pick_t rfl hg1 (rfl : _ = AV.p (.c _))) ?_
  refine RK.As rfl ?_
  refine RK.D ?_
  refine AWp_ret ?_
  refine ends_one rfl (.inr rfl) (res_tmp rfl) ?_ O_ends
  exact Sub.bool (same_eq hg1)
 ·refine RK.skip (guard_no rfl rfl hg1) ?_
  refine RK.skip (guard_no rfl rfl hg1) ?_
  refine RK.skip (guard_no rfl rfl hg1) ?_
  refine RK.skip (guard_no rfl rfl hg1) ?_
  refine RK.skip (guard_no rfl rfl hg1) ?_
  refine RK.skip (guard_no rfl rfl hg1) ?_
  refine RK.V (op_pick_f rfl hg1 (rfl : _ = AV.p (.c _))) ?_
  refine RK.As rfl ?_
  refine RK.D ?_
  refine AWp_ret ?_
  refine ends_one rfl (.inr rfl) (res_tmp rfl) ?_ O_ends
  exact Sub.bool (same_ne hg1)
end Go.Proofs.YtfdjankalhfceaaGreat
end

section
/- reference: plus minus Add Sub Mul Bits -/
namespace Go.Proofs.YtfdjankalhfceaaGreat
open Go Go.AM
/- algorist/algoristref01.plus -/
set_option maxHeartbeats 1000000 in
set_option maxRecDepth 100000 in
theorem r_plus (a b : List Nat) (ha : okW a) (hb : okW b) (hla : a.length ≤ 1099511627776) (hlb : b.length ≤ 1099511627776) :
  Call0 Tryz.prog 147 [.p (.c (W a)), .p (.c (W b))] (.p (.c (W (dgs ((if (b.length : Int) > a.length then (b.length : Int) else a.length).toNat + 1) (wv a + wv b))))) := by
 obtain ⟨mx, hmx⟩ : ∃ mx : Int, mx = (if (b.length : Int) > a.length then (b.length : Int) else a.length) := ⟨_, rfl⟩
 have hm1 : (a.length : Int) ≤ mx ∧ (b.length : Int) ≤ mx ∧ mx ≤ 1099511627776 := by rw [hmx]; split <;> omega
 refine callM_of (np := 0) Tryz.func147 (by kernel_rfl) rfl rfl (Nat.le_of_ble_eq_true rfl) (fun m h => absurd rfl h) (fun m h => absurd rfl h) rfl ?_
 refine AWp_sr hP ?_
 refine RK.As rfl ?_
 refine RK.D ?_
 refine AWp_sr hP ?_
 refine RK.alc guard_none (op_bslice_vecW hT rfl rfl rfl rfl (ws := []) rfl rfl rfl) ?_
 refine RK.V (op_assign (rfl : _ = AV.vec _)) ?_
 refine RK.D ?_
 refine AWp_sr hP ?_
 refine RK.As rfl ?_
 refine RK.D ?_
 refine AWp_rn 8 1000 rfl rfl rfl ?_
 refine AWp_seq ?_
 refine AWp_sr hP ?_
 refine RK.As rfl ?_
 refine RK.D ?_
 refine AWp_block ?_
 refine AWp_loop (ι := List Nat × Nat) (fun p => stL [(0, .p (.c (W a))), (1, .p (.c (W b))), (5, .vec 1000), (6, .p (.c (.v (.int .u64 ((p.2 : Nat) : Int))))), (7, Z ((p.1.length : Nat) : Int))] [(1000, WB 52 p.1)]) (fun p => okW p.1 ∧ (p.1.length : Int) ≤ mx ∧ p.2 ≤ 1 ∧ wv p.1 + 4294967296 ^ p.1.length * p.2 = wv (a.take p.1.length) + wv (b.take p.1.length)) (fun p => (mx - p.1.length).toNat) ([], 0) ⟨okW.nil, by simp only [List.length_nil]; omega, by decide, by simp [wv]⟩ (le_stL ⟨.refl _, .refl _, .refl _, .refl _, .refl _, trivial⟩ ⟨rfl, trivial⟩) ?_
 rintro p ⟨ho, hl, hc, hv⟩
 have hwa := wd_lt ha (p.1.length : Nat)
 have hwb := wd_lt hb (p.1.length : Nat)
 refine AWp_seq ?_
 refine AWp_sr hP ?_
 refine RK.M rfl ?_
 refine RK.M rfl ?_
 refine RK.V (op_len hT rfl rfl rfl rfl) ?_
 refine RK.M rfl ?_
 refine RK.V (op_len hT rfl rfl rfl rfl) ?_
 refine RK.V (op_max rfl rfl) ?_
 refine RK.V (op_lss rfl rfl) ?_
 refine RK.D ?_
 refine AWp_cond rfl (fun hb1 => ?_) (fun hb1 => ?_)
 ·have hb1_ := of_decide_eq_true hb1
  have hlt : (p.1.length : Int) < mx := by rw [hmx]; exact hb1_
  refine AWp_skip ?_
  refine AWp_seq ?_
  refine AWp_block ?_
  refine AWp_sr hP ?_
  refine RK.M rfl ?_
  refine RK.M rfl ?_
  refine RK.M rfl ?_
  refine RK.V (Eff.call0 (r_word _ _ (by assumption))) ?_
  refine RK.M rfl ?_
  refine RK.M rfl ?_
  refine RK.V (Eff.call0 (r_word _ _ (by assumption))) ?_
  refine RK.V (op_add rfl rfl (c := ((wd a p.1.length + wd b p.1.length : Nat) : Int)) (by rw [← Int.natCast_add, u64N (by omega)])) ?_
  refine RK.V (op_add rfl rfl (c := ((p.2 + (wd a p.1.length + wd b p.1.length) : Nat) : Int)) (by rw [← Int.natCast_add, u64N (by omega)])) ?_
  refine RK.As rfl ?_
  refine RK.D ?_
  refine AWp_sr hP ?_
  refine RK.V (op_move (rfl : _ = AV.vec _)) ?_
  refine RK.M rfl ?_
  refine RK.V (op_conv hT rfl rfl rfl rfl (u32_lo _)) ?_
  refine RK.V (op_bslice hT rfl rfl rfl (es := [_]) rfl rfl rfl) ?_
  refine RK.app guard_none (op_appendW hT rfl rfl rfl rfl rfl rfl rfl (xs := [(p.2 + (wd a p.1.length + wd b p.1.length)) % 4294967296]) rfl (by simp only [List.length_cons, List.length_nil]; omega) (by decide)) ?_
  refine RK.V (op_assign (rfl : _ = AV.vec _)) ?_
  refine RK.D ?_
  refine AWp_rn 31 1000 rfl rfl rfl ?_
  refine AWp_region hP ?_
  refine RK.M rfl ?_
  refine RK.V (op_shrN (j := 32) rfl rfl (by decide)) ?_
  refine RK.As rfl ?_
  refine RK.D ?_
  refine AWp_region hP ?_
  refine RK.M rfl ?_
  refine RK.V (op_add rfl rfl (by first | exact IntWalk.i64_in _ (by omega) | rfl)) ?_
  refine RK.As rfl ?_
  refine RK.D ?_
  have hr := plus_round hv
  have hq : (p.2 + (wd a p.1.length + wd b p.1.length)) / 4294967296 ≤ 1 := by omega
  refine ⟨(p.1 ++ [(p.2 + (wd a p.1.length + wd b p.1.length)) % 4294967296], (p.2 + (wd a p.1.length + wd b p.1.length)) / 4294967296), ⟨ho.snoc (Nat.mod_lt _ (by decide)), ?_, hq, by simpa using hr⟩, ?_, le_stL ⟨.refl _, .refl _, .refl _, .refl _, Sub.int (by simp), trivial⟩ ⟨rfl, trivial⟩⟩
  ·simp only [List.length_append, List.length_cons, List.length_nil]; omega
  ·simp only [List.length_append, List.length_cons, List.length_nil]; omega
 ·have hb1_ := of_decide_eq_false hb1
  have hge : (p.1.length : Int) = mx := by
   have : ¬ (p.1.length : Int) < mx := by rw [hmx]; exact hb1_
   omega
  refine AWp_exit ?_
  refine AWp_sr hP ?_
  refine RK.V (op_move (rfl : _ = AV.vec _)) ?_
  refine RK.M rfl ?_
  refine RK.V (op_conv hT rfl rfl rfl rfl (u32_lo _)) ?_
  refine RK.V (op_bslice hT rfl rfl rfl (es := [_]) rfl rfl rfl) ?_
  refine RK.app guard_none (op_appendW hT rfl rfl rfl rfl rfl rfl rfl (xs := [p.2 % 4294967296]) rfl (by simp only [List.length_cons, List.length_nil]; omega) (by decide)) ?_
  refine RK.V (op_assign (rfl : _ = AV.vec _)) ?_
  refine RK.D ?_
  refine AWp_freezeW (t := 4) rfl rfl ?_
  refine AWp_ret ?_
  refine ends_one rfl (.inr rfl) (res_tmp rfl) ?_ O_ends
  have e : mx.toNat = p.1.length := by omega
  exact Sub.of_eq (by rw [plus_end ho (by omega) (by omega) (by omega) hv, ← hmx, e])
/- algorist/algoristref01.minus -/
set_option maxHeartbeats 1000000 in
set_option maxRecDepth 100000 in
theorem r_minus (a b : List Nat) (ha : okW a) (hb : okW b) (hla : a.length ≤ 1099511627776) (hlb : b.length ≤ a.length) (hab : wv b ≤ wv a) :
  Call0 Tryz.prog 148 [.p (.c (W a)), .p (.c (W b))] (.p (.c (W (dgs a.length (wv a - wv b))))) := by
 refine callM_of (np := 0) Tryz.func148 (by kernel_rfl) rfl rfl (Nat.le_of_ble_eq_true rfl) (fun m h => absurd rfl h) (fun m h => absurd rfl h) rfl ?_
 refine AWp_sr hP ?_
 refine RK.As rfl ?_
 refine RK.D ?_
 refine AWp_sr hP ?_
 refine RK.alc guard_none (op_bslice_vecW hT rfl rfl rfl rfl (ws := []) rfl rfl rfl) ?_
 refine RK.V (op_assign (rfl : _ = AV.vec _)) ?_
 refine RK.D ?_
 refine AWp_sr hP ?_
 refine RK.As rfl ?_
 refine RK.D ?_
 refine AWp_rn 9 1000 rfl rfl rfl ?_
 refine AWp_seq ?_
 refine AWp_sr hP ?_
 refine RK.As rfl ?_
 refine RK.D ?_
 refine AWp_block ?_
 refine AWp_loop (ι := List Nat × Nat) (fun p => stL [(0, .p (.c (W a))), (1, .p (.c (W b))), (5, .vec 1000), (6, .p (.c (.v (.int .u64 ((p.2 : Nat) : Int))))), (7, Z ((p.1.length : Nat) : Int))] [(1000, WB 52 p.1)]) (fun p => okW p.1 ∧ p.1.length ≤ a.length ∧ p.2 ≤ 1 ∧ wv p.1 + wv (b.take p.1.length) = wv (a.take p.1.length) + 4294967296 ^ p.1.length * p.2) (fun p => a.length - p.1.length) ([], 0) ⟨okW.nil, by simp, by decide, by simp [wv]⟩ (le_stL ⟨.refl _, .refl _, .refl _, .refl _, .refl _, trivial⟩ ⟨rfl, trivial⟩) ?_
 rintro p ⟨ho, hl, hc, hv⟩
 have hwa := wd_lt ha (p.1.length : Nat)
 have hwb := wd_lt hb (p.1.length : Nat)
 refine AWp_seq ?_
 refine AWp_sr hP ?_
 refine RK.M rfl ?_
 refine RK.M rfl ?_
 refine RK.V (op_len hT rfl rfl rfl rfl) ?_
 refine RK.V (op_lss rfl rfl) ?_
 refine RK.D ?_
 refine AWp_cond rfl (fun hb1 => ?_) (fun hb1 => ?_)
 ·have hb1_ := of_decide_eq_true hb1
  refine AWp_skip ?_
  refine AWp_seq ?_
  refine AWp_block ?_
  refine AWp_sr hP ?_
  refine RK.M rfl ?_
  refine RK.M rfl ?_
  refine RK.V (Eff.call0 (r_word _ _ (by assumption))) ?_
  refine RK.V (op_add rfl rfl (c := ((4294967296 + wd a p.1.length : Nat) : Int)) (by rw [IntWalk.u64_in _ (by omega)]; omega)) ?_
  refine RK.M rfl ?_
  refine RK.M rfl ?_
  refine RK.V (Eff.call0 (r_word _ _ (by assumption))) ?_
  refine RK.V (op_sub rfl rfl (c := ((4294967296 + wd a p.1.length - wd b p.1.length : Nat) : Int)) (by rw [IntWalk.u64_in _ (by omega)]; omega)) ?_
  refine RK.M rfl ?_
  refine RK.V (op_sub rfl rfl (c := ((4294967296 + wd a p.1.length - wd b p.1.length - p.2 : Nat) : Int)) (by rw [IntWalk.u64_in _ (by omega)]; omega)) ?_
  refine RK.As rfl ?_
  refine RK.D ?_
  refine AWp_sr hP ?_
  refine RK.V (op_move (rfl : _ = AV.vec _)) ?_
  refine RK.M rfl ?_
  refine RK.V (op_conv hT rfl rfl rfl rfl (u32_lo _)) ?_
  refine RK.V (op_bslice hT rfl rfl rfl (es := [_]) rfl rfl rfl) ?_
  refine RK.app guard_none (op_appendW hT rfl rfl rfl rfl rfl rfl rfl (xs := [(4294967296 + wd a p.1.length - wd b p.1.length - p.2) % 4294967296]) rfl (by simp only [List.length_cons, List.length_nil]; omega) (by decide)) ?_
  refine RK.V (op_assign (rfl : _ = AV.vec _)) ?_
  refine RK.D ?_
  refine AWp_rn 30 1000 rfl rfl rfl ?_
  refine AWp_region hP ?_
  refine RK.M rfl ?_
  refine RK.V (op_shrN (j := 32) rfl rfl (by decide)) ?_
  refine RK.V (op_sub rfl rfl (c := ((1 - (4294967296 + wd a p.1.length - wd b p.1.length - p.2) / 4294967296 : Nat) : Int)) (by rw [IntWalk.u64_in _ (by omega)]; omega)) ?_
  refine RK.As rfl ?_
  refine RK.D ?_
  refine AWp_region hP ?_
  refine RK.M rfl ?_
  refine RK.V (op_add rfl rfl (by first | exact IntWalk.i64_in _ (by omega) | rfl)) ?_
  refine RK.As rfl ?_
  refine RK.D ?_
  have hr := minus_round ha hb hc hv
  have hq : 1 - (4294967296 + wd a p.1.length - wd b p.1.length - p.2) / 4294967296 ≤ 1 := by omega
  refine ⟨(p.1 ++ [(4294967296 + wd a p.1.length - wd b p.1.length - p.2) % 4294967296], 1 - (4294967296 + wd a p.1.length - wd b p.1.length - p.2) / 4294967296), ⟨ho.snoc (Nat.mod_lt _ (by decide)), ?_, hq, by simpa using hr⟩, ?_, le_stL ⟨.refl _, .refl _, .refl _, .refl _, Sub.int (by simp), trivial⟩ ⟨rfl, trivial⟩⟩
  ·simp only [List.length_append, List.length_cons, List.length_nil]; omega
  ·simp only [List.length_append, List.length_cons, List.length_nil]; omega
 ·have hb1_ := of_decide_eq_false hb1
  refine AWp_exit ?_
  refine AWp_sr hP ?_
  refine RK.V (op_move (rfl : _ = AV.vec _)) ?_
  refine RK.V (op_assign (rfl : _ = AV.vec _)) ?_
  refine RK.D ?_
  refine AWp_freezeW (t := 4) rfl rfl ?_
  refine AWp_ret ?_
  refine ends_one rfl (.inr rfl) (res_tmp rfl) ?_ O_ends
  have e : p.1.length = a.length := by omega
  exact Sub.of_eq (by rw [minus_end ho e hlb hab hv])
/- algorist/algoristref01.Add -/
set_option maxHeartbeats 1000000 in
set_option maxRecDepth 100000 in
theorem r_Add (x y : Int) (hx : L 45 x) (hy : L 45 y) :
  Call0 Tryz.prog 121 [I x, I y] (I (x + y)) := by
 refine callM_of (np := 0) Tryz.func121 (by kernel_rfl) rfl rfl (Nat.le_of_ble_eq_true rfl) (fun m h => absurd rfl h) (fun m h => absurd rfl h) rfl ?_
 refine AWp_sr hP ?_
 refine RK.alc guard_none (op_box rfl rfl) ?_
 refine RK.alc guard_none (op_box rfl rfl) ?_
 refine RK.alc guard_none (op_alloc hT rfl rfl) ?_
 refine RK.D ?_
 refine AWp_seq ?_
 refine AWp_sr hP ?_
 refine RK.F hT rfl rfl rfl rfl rfl rfl ?_
 refine RK.V (op_load_one hT rfl rfl rfl rfl (by first | rfl | exact vget (by omega))) ?_
 refine RK.F hT rfl rfl rfl rfl rfl rfl ?_
 refine RK.V (op_load_one hT rfl rfl rfl rfl (by first | rfl | exact vget (by omega))) ?_
 refine RK.V (op_beq hT rfl rfl rfl rfl) ?_
 refine RK.D ?_
 refine AWp_cond rfl (fun hb1 => ?_) (fun hb1 => ?_)
 ·refine AWp_sr hP ?_
  refine RK.F hT rfl rfl rfl rfl rfl rfl ?_
  refine RK.V (op_load_one hT rfl rfl rfl rfl (by first | rfl | exact vget (by omega))) ?_
  refine RK.F hT rfl rfl rfl rfl rfl rfl ?_
  refine RK.V (op_load_one hT rfl rfl rfl rfl (by first | rfl | exact vget (by omega))) ?_
  refine RK.F hT rfl rfl rfl rfl rfl rfl ?_
  refine RK.V (op_load_one hT rfl rfl rfl rfl (by first | rfl | exact vget (by omega))) ?_
  refine RK.V (Eff.call0 (r_plus (wl x.natAbs) (wl y.natAbs) (wl_ok _) (wl_ok _) (sz hx) (sz hy))) ?_
  refine RK.V (Eff.call0 (r_made _ _ (dgs_ok _ _))) ?_
  refine RK.S hT rfl rfl rfl rfl rfl rfl rfl ?_
  refine RK.D ?_
  refine AWp_ret ?_
  refine ends_one rfl (.inr rfl) (res_cell_agg hT rfl rfl rfl rfl (cs := [_, _]) rfl rfl) ?_ O_ends
  exact Sub.I (by rw [plus_val]; exact add_same' hb1)
 ·refine AWp_skip ?_
  refine AWp_seq ?_
  refine AWp_sr hP ?_
  refine RK.F hT rfl rfl rfl rfl rfl rfl ?_
  refine RK.V (op_load_one hT rfl rfl rfl rfl (by first | rfl | exact vget (by omega))) ?_
  refine RK.F hT rfl rfl rfl rfl rfl rfl ?_
  refine RK.V (op_load_one hT rfl rfl rfl rfl (by first | rfl | exact vget (by omega))) ?_
  refine RK.V (Eff.call0 (r_size x.natAbs y.natAbs)) ?_
  refine RK.V (op_geq rfl rfl) ?_
  refine RK.D ?_
  refine AWp_cond rfl (fun hb2 => ?_) (fun hb2 => ?_)
  ·have hb2_ := of_decide_eq_true hb2
   have hc : y.natAbs ≤ x.natAbs := by have := cmpI_nonneg hb2_; omega
   refine AWp_sr hP ?_
   refine RK.F hT rfl rfl rfl rfl rfl rfl ?_
   refine RK.V (op_load_one hT rfl rfl rfl rfl (by first | rfl | exact vget (by omega))) ?_
   refine RK.F hT rfl rfl rfl rfl rfl rfl ?_
   refine RK.V (op_load_one hT rfl rfl rfl rfl (by first | rfl | exact vget (by omega))) ?_
   refine RK.F hT rfl rfl rfl rfl rfl rfl ?_
   refine RK.V (op_load_one hT rfl rfl rfl rfl (by first | rfl | exact vget (by omega))) ?_
   refine RK.V (Eff.call0 (r_minus (wl x.natAbs) (wl y.natAbs) (wl_ok _) (wl_ok _) (sz hx) (wl_len_mono hc) (by rw [wv_wl, wv_wl]; exact hc))) ?_
   refine RK.V (Eff.call0 (r_made _ _ (dgs_ok _ _))) ?_
   refine RK.S hT rfl rfl rfl rfl rfl rfl rfl ?_
   refine RK.D ?_
   refine AWp_ret ?_
   refine ends_one rfl (.inr rfl) (res_cell_agg hT rfl rfl rfl rfl (cs := [_, _]) rfl rfl) ?_ O_ends
   exact Sub.I (by rw [minus_val]; exact add_ge' hb1 hc)
  ·have hb2_ := of_decide_eq_false hb2
   have hc : x.natAbs < y.natAbs := by have := cmpI_negative hb2_; omega
   refine AWp_skip ?_
   refine AWp_sr hP ?_
   refine RK.F hT rfl rfl rfl rfl rfl rfl ?_
   refine RK.V (op_load_one hT rfl rfl rfl rfl (by first | rfl | exact vget (by omega))) ?_
   refine RK.F hT rfl rfl rfl rfl rfl rfl ?_
   refine RK.V (op_load_one hT rfl rfl rfl rfl (by first | rfl | exact vget (by omega))) ?_
   refine RK.F hT rfl rfl rfl rfl rfl rfl ?_
   refine RK.V (op_load_one hT rfl rfl rfl rfl (by first | rfl | exact vget (by omega))) ?_
   refine RK.V (Eff.call0 (r_minus (wl y.natAbs) (wl x.natAbs) (wl_ok _) (wl_ok _) (sz hy) (wl_len_mono (by omega)) (by rw [wv_wl, wv_wl]; omega))) ?_
   refine RK.V (Eff.call0 (r_made _ _ (dgs_ok _ _))) ?_
   refine RK.S hT rfl rfl rfl rfl rfl rfl rfl ?_
   refine RK.D ?_
   refine AWp_ret ?_
   refine ends_one rfl (.inr rfl) (res_cell_agg hT rfl rfl rfl rfl (cs := [_, _]) rfl rfl) ?_ O_ends
   exact Sub.I (by rw [minus_val]; exact add_lt' hb1 hc)
/- algorist/algoristref01.Sub -/
set_option maxHeartbeats 1000000 in
set_option maxRecDepth 100000 in
theorem r_Sub (x y : Int) (hx : L 45 x) (hy : L 45 y) :
  Call0 Tryz.prog 123 [I x, I y] (I (x - y)) := by
 have ix : LB x 45 := ⟨hx⟩
 have iy : LB y 45 := ⟨hy⟩
 refine callM_of (np := 0) Tryz.func123 (by kernel_rfl) rfl rfl (Nat.le_of_ble_eq_true rfl) (fun m h => absurd rfl h) (fun m h => absurd rfl h) rfl ?_
 refine AWp_sr hP ?_
 refine RK.alc guard_none (op_box rfl rfl) ?_
 refine RK.alc guard_none (op_box rfl rfl) ?_
 refine RK.alc guard_none (op_alloc hT rfl rfl) ?_
 refine RK.D ?_
 refine AWp_sr hP ?_
 refine RK.G2 hT rfl rfl rfl rfl rfl rfl ?_
 refine RK.G2 hT rfl rfl rfl rfl rfl rfl ?_
 refine RK.V (Eff.call0 (r_Neg _)) ?_
 refine RK.V (Eff.call0 (r_Add _ _ lz lz)) ?_
 refine RK.S hT rfl rfl rfl rfl rfl rfl rfl ?_
 refine RK.D ?_
 refine AWp_ret ?_
 refine ends_one rfl (.inr rfl) (res_cell_agg hT rfl rfl rfl rfl (cs := [_, _]) rfl rfl) ?_ O_ends
 exact Sub.I (by omega)
/- algorist/algoristref01.Mul -/
set_option maxHeartbeats 1000000 in
set_option maxRecDepth 100000 in
theorem r_Mul (x y : Int) (hx : L 45 x) (hy : L 45 y) :
  Call0 Tryz.prog 127 [I x, I y] (I (x * y)) := by
 have ha := wl_ok x.natAbs
 have hb := wl_ok y.natAbs
 have hla := sz hx
 have hlb := sz hy
 refine callM_of (np := 0) Tryz.func127 (by kernel_rfl) rfl rfl (Nat.le_of_ble_eq_true rfl) (fun m h => absurd rfl h) (fun m h => absurd rfl h) rfl ?_
 refine AWp_sr hP ?_
 refine RK.alc guard_none (op_box rfl rfl) ?_
 refine RK.alc guard_none (op_box rfl rfl) ?_
 refine RK.alc guard_none (op_alloc hT rfl rfl) ?_
 refine RK.D ?_
 refine AWp_sr hP ?_
 refine RK.F hT rfl rfl rfl rfl rfl rfl ?_
 refine RK.V (op_load_one hT rfl rfl rfl rfl (by first | rfl | exact vget (by omega))) ?_
 refine RK.V (op_len hT rfl rfl rfl rfl) ?_
 refine RK.F hT rfl rfl rfl rfl rfl rfl ?_
 refine RK.V (op_load_one hT rfl rfl rfl rfl (by first | rfl | exact vget (by omega))) ?_
 refine RK.V (op_len hT rfl rfl rfl rfl) ?_
 refine RK.V (op_add rfl rfl (by first | exact IntWalk.i64_in _ (by omega) | rfl)) ?_
 refine RK.alc guard_none (op_makeW hT rfl rfl rfl rfl rfl rfl rfl rfl (by omega)) ?_
 refine RK.V (op_assign (rfl : _ = AV.vec _)) ?_
 refine RK.D ?_
 refine AWp_seq ?_
 refine AWp_sr hP ?_
 refine RK.As rfl ?_
 refine RK.D ?_
 refine AWp_block ?_
 refine AWp_loop (ι := List Nat × Nat) (fun ⟨o, i⟩ => stL [(2, .loc 2 0), (3, .loc 3 0), (4, .loc 4 0), (5, .vec 16), (6, Z (i : Int))] [(2, ⟨false, 1, 26, [zn (x), zm (x)]⟩), (3, ⟨false, 1, 26, [zn (y), zm (y)]⟩), (4, ⟨false, 1, 26, [zn (0), zm (0)]⟩), (16, WB 52 o)]) (fun ⟨o, i⟩ => i ≤ (wl x.natAbs).length ∧ o.length = (wl x.natAbs).length + (wl y.natAbs).length ∧ okW o ∧ wv o = wv ((wl x.natAbs).take i) * wv (wl y.natAbs) ∧ ∀ j, i + (wl y.natAbs).length ≤ j → o.getD j 0 = 0) (fun ⟨_, i⟩ => (wl x.natAbs).length - i) (List.replicate (((wl x.natAbs).length : Int) + ((wl y.natAbs).length : Int)).toNat 0, 0) ⟨Nat.zero_le _, by simp; omega, okW.rep _, by rw [wv_rep]; simp [wv], fun j _ => getD_rep _ _⟩ (le_stL ⟨.refl _, .refl _, .refl _, .refl _, .refl _, trivial⟩ ⟨rfl, rfl, rfl, rfl, trivial⟩) ?_
 rintro ⟨o, i⟩ ⟨hi, hlo, ho, hv, hz⟩
 refine AWp_seq ?_
 refine AWp_sr hP ?_
 refine RK.M rfl ?_
 refine RK.F hT rfl rfl rfl rfl rfl rfl ?_
 refine RK.V (op_load_one hT rfl rfl rfl rfl (by first | rfl | exact vget (by omega))) ?_
 refine RK.V (op_len hT rfl rfl rfl rfl) ?_
 refine RK.V (op_lss rfl rfl) ?_
 refine RK.D ?_
 refine AWp_cond rfl (fun hb1 => ?_) (fun hb1 => ?_)
 ·have hb1_ := of_decide_eq_true hb1
  have hlt0 : i < (wl x.natAbs).length := by omega
  refine AWp_skip ?_
  refine AWp_seq ?_
  refine AWp_block ?_
  refine AWp_sr hP ?_
  refine RK.As rfl ?_
  refine RK.D ?_
  refine AWp_seq ?_
  refine AWp_sr hP ?_
  refine RK.As rfl ?_
  refine RK.D ?_
  refine AWp_block ?_
  obtain ⟨o0, ho0⟩ : ∃ o0, o0 = o := ⟨_, rfl⟩
  have hv0 := hv
  rw [← ho0] at hv
  refine AWp_loop (ι := List Nat × Nat × Nat) (fun ⟨o, k, c⟩ => stL [(2, .loc 2 0), (3, .loc 3 0), (4, .loc 4 0), (5, .vec 16), (6, Z (i : Int)), (7, .p (.c (.v (.int .u64 (c : Nat))))), (8, Z (k : Int))] [(2, ⟨false, 1, 26, [zn (x), zm (x)]⟩), (3, ⟨false, 1, 26, [zn (y), zm (y)]⟩), (4, ⟨false, 1, 26, [zn (0), zm (0)]⟩), (16, WB 52 o)]) (fun ⟨o, k, c⟩ => k ≤ (wl y.natAbs).length ∧ o.length = (wl x.natAbs).length + (wl y.natAbs).length ∧ okW o ∧ c < 4294967296 ∧ wv o + 4294967296 ^ (i + k) * c = wv o0 + 4294967296 ^ i * ((wl x.natAbs).getD i 0 * wv ((wl y.natAbs).take k)) ∧ ∀ j, i + (wl y.natAbs).length ≤ j → o.getD j 0 = 0) (fun ⟨_, k, _⟩ => (wl y.natAbs).length - k) (o, 0, 0) ⟨Nat.zero_le _, hlo, ho, by omega, by rw [ho0]; simp [wv], hz⟩ (le_stL ⟨.refl _, .refl _, .refl _, .refl _, .refl _, .refl _, .refl _, trivial⟩ ⟨rfl, rfl, rfl, rfl, trivial⟩) ?_
  clear hlo ho hz hv0 ho0
  rintro ⟨o, k, c⟩ ⟨hk, hlo, ho, hc, hkv, hz⟩
  refine AWp_seq ?_
  refine AWp_sr hP ?_
  refine RK.M rfl ?_
  refine RK.F hT rfl rfl rfl rfl rfl rfl ?_
  refine RK.V (op_load_one hT rfl rfl rfl rfl (by first | rfl | exact vget (by omega))) ?_
  refine RK.V (op_len hT rfl rfl rfl rfl) ?_
  refine RK.V (op_lss rfl rfl) ?_
  refine RK.D ?_
  refine AWp_cond rfl (fun hb2 => ?_) (fun hb2 => ?_)
  ·have hb2_ := of_decide_eq_true hb2
   have hlt : k < (wl y.natAbs).length := by omega
   have ha1 := ha.getD i
   have hb1v := hb.getD k
   have hp1 := Nat.mul_le_mul (Nat.le_sub_one_of_lt (ha.getD i)) (Nat.le_sub_one_of_lt (hb.getD k))
   have ho1 := ho.getD (i + k)
   refine AWp_skip ?_
   refine AWp_seq ?_
   refine AWp_block ?_
   refine AWp_sr hP ?_
   refine RK.M rfl ?_
   refine RK.F hT rfl rfl rfl rfl rfl rfl ?_
   refine RK.V (op_load_one hT rfl rfl rfl rfl (by first | rfl | exact vget (by omega))) ?_
   refine RK.M rfl ?_
   refine RK.V (by first | exact op_index_WN hT rfl rfl rfl rfl rfl rfl (by omega) | exact op_index_sl hT rfl rfl rfl rfl rfl rfl (by omega) (by first | exact W_ne (by omega) | simp)) ?_
   refine RK.V (op_load_ip_one hT rfl rfl rfl (by first | rfl | exact wget (by omega))) ?_
   refine RK.V (op_conv hT rfl rfl rfl rfl (u64N (by omega))) ?_
   refine RK.F hT rfl rfl rfl rfl rfl rfl ?_
   refine RK.V (op_load_one hT rfl rfl rfl rfl (by first | rfl | exact vget (by omega))) ?_
   refine RK.M rfl ?_
   refine RK.V (by first | exact op_index_WN hT rfl rfl rfl rfl rfl rfl (by omega) | exact op_index_sl hT rfl rfl rfl rfl rfl rfl (by omega) (by first | exact W_ne (by omega) | simp)) ?_
   refine RK.V (op_load_ip_one hT rfl rfl rfl (by first | rfl | exact wget (by omega))) ?_
   refine RK.V (op_conv hT rfl rfl rfl rfl (u64N (by omega))) ?_
   refine RK.V (op_mul rfl rfl (c := (((wl x.natAbs).getD i 0 * (wl y.natAbs).getD k 0 : Nat) : Int)) (by rw [← Int.natCast_mul, u64N (by omega)])) ?_
   refine RK.V (op_move (rfl : _ = AV.vec _)) ?_
   refine RK.M rfl ?_
   refine RK.M rfl ?_
   refine RK.V (op_add rfl rfl (c := ((i + k : Nat) : Int)) (by rw [IntWalk.i64_in _ (by omega)]; omega)) ?_
   refine RK.V (by first | exact op_index_vecWN hT rfl rfl rfl rfl rfl rfl rfl (by first | omega | (simp; omega)) | exact op_index_vecW hT rfl rfl rfl rfl rfl rfl rfl (by first | omega | (simp; omega))) ?_
   refine RK.V (op_loadWv hT rfl rfl rfl rfl (by first | omega | (simp; omega)) rfl) ?_
   refine RK.V (op_conv hT rfl rfl rfl rfl (u64N (by omega))) ?_
   refine RK.V (op_add rfl rfl (c := (((wl x.natAbs).getD i 0 * (wl y.natAbs).getD k 0 + o.getD (i + k) 0 : Nat) : Int)) (by rw [← Int.natCast_add, u64N (by omega)])) ?_
   refine RK.V (op_add rfl rfl (c := (((wl x.natAbs).getD i 0 * (wl y.natAbs).getD k 0 + o.getD (i + k) 0 + c : Nat) : Int)) (by rw [← Int.natCast_add, Nat.add_comm, u64N (by omega)])) ?_
   refine RK.As rfl ?_
   refine RK.D ?_
   refine AWp_sr hP ?_
   refine RK.V (op_move (rfl : _ = AV.vec _)) ?_
   refine RK.M rfl ?_
   refine RK.M rfl ?_
   refine RK.V (op_add rfl rfl (c := ((i + k : Nat) : Int)) (by rw [IntWalk.i64_in _ (by omega)]; omega)) ?_
   refine RK.M rfl ?_
   refine RK.V (op_conv hT rfl rfl rfl rfl (u32_lo _)) ?_
   refine RK.V (by first | exact op_index_vecWN hT rfl rfl rfl rfl rfl rfl rfl (by first | omega | (simp; omega)) | exact op_index_vecW hT rfl rfl rfl rfl rfl rfl rfl (by first | omega | (simp; omega))) ?_
   refine RK.sto guard_none (op_storeWv hT rfl rfl rfl rfl rfl (by first | omega | (simp; omega)) rfl) ?_
   refine RK.D ?_
   refine AWp_region hP ?_
   refine RK.M rfl ?_
   refine RK.V (op_shrN (j := 32) rfl rfl (by first | decide | omega)) ?_
   refine RK.As rfl ?_
   refine RK.D ?_
   refine AWp_region hP ?_
   refine RK.M rfl ?_
   refine RK.V (op_add rfl rfl (by first | exact IntWalk.i64_in _ (by omega) | rfl)) ?_
   refine RK.As rfl ?_
   refine RK.D ?_
   have hr := mul_round (b := (wl y.natAbs)) (x := (wl x.natAbs).getD i 0) (i := i) (k := k) (t := (wl x.natAbs).getD i 0 * (wl y.natAbs).getD k 0 + o.getD (i + k) 0 + c) (by omega) rfl hkv
   refine ⟨(o.set (i + k) (((wl x.natAbs).getD i 0 * (wl y.natAbs).getD k 0 + o.getD (i + k) 0 + c) % 4294967296), k + 1, ((wl x.natAbs).getD i 0 * (wl y.natAbs).getD k 0 + o.getD (i + k) 0 + c) / 4294967296), ⟨by omega, by simpa using hlo, ho.set (Nat.mod_lt _ (by omega)), (Nat.div_lt_iff_lt_mul (by omega)).2 (by omega), hr, fun j hj => ?_⟩, by show (wl y.natAbs).length - (k + 1) < (wl y.natAbs).length - k; omega, le_stL ⟨.refl _, .refl _, .refl _, .refl _, .refl _, .refl _, Sub.int (by omega), trivial⟩ ⟨rfl, rfl, rfl, rfl, trivial⟩⟩
   rw [getD_set _ _ _ _ (by omega), if_neg (by omega)]
   exact hz j (by omega)
  ·have hb2_ := of_decide_eq_false hb2
   have hke : k = (wl y.natAbs).length := by omega
   subst hke
   refine AWp_exit ?_
   refine AWp_region hP ?_
   refine RK.V (op_move (rfl : _ = AV.vec _)) ?_
   refine RK.M rfl ?_
   refine RK.F hT rfl rfl rfl rfl rfl rfl ?_
   refine RK.V (op_load_one hT rfl rfl rfl rfl (by first | rfl | exact vget (by omega))) ?_
   refine RK.V (op_len hT rfl rfl rfl rfl) ?_
   refine RK.V (op_add rfl rfl (c := ((i + (wl y.natAbs).length : Nat) : Int)) (by rw [IntWalk.i64_in _ (by omega)]; omega)) ?_
   refine RK.M rfl ?_
   refine RK.V (op_conv hT rfl rfl rfl rfl (u32N (by omega))) ?_
   refine RK.V (by first | exact op_index_vecWN hT rfl rfl rfl rfl rfl rfl rfl (by first | omega | (simp; omega)) | exact op_index_vecW hT rfl rfl rfl rfl rfl rfl rfl (by first | omega | (simp; omega))) ?_
   refine RK.sto guard_none (op_storeWv hT rfl rfl rfl rfl rfl (by first | omega | (simp; omega)) rfl) ?_
   refine RK.D ?_
   refine AWp_region hP ?_
   refine RK.M rfl ?_
   refine RK.V (op_add rfl rfl (by first | exact IntWalk.i64_in _ (by omega) | rfl)) ?_
   refine RK.As rfl ?_
   refine RK.D ?_
   have hov := mul_outer (o := o0) (a := (wl x.natAbs)) (by omega) (hz _ (Nat.le_refl _)) rfl hv hkv
   refine ⟨(o.set (i + (wl y.natAbs).length) c, i + 1), ⟨by omega, by simpa using hlo, ho.set (by omega), hov, fun j hj => ?_⟩, by show (wl x.natAbs).length - (i + 1) < (wl x.natAbs).length - i; omega, le_stL ⟨.refl _, .refl _, .refl _, .refl _, Sub.int (by omega), trivial⟩ ⟨rfl, rfl, rfl, rfl, trivial⟩⟩
   rw [getD_set _ _ _ _ (by omega), if_neg (by omega)]
   exact hz j (by omega)
 ·have hb1_ := of_decide_eq_false hb1
  have hie : i = (wl x.natAbs).length := by omega
  refine AWp_exit ?_
  refine AWp_freezeW (t := 5) rfl rfl ?_
  refine AWp_sr hP ?_
  refine RK.F hT rfl rfl rfl rfl rfl rfl ?_
  refine RK.V (op_load_one hT rfl rfl rfl rfl (by first | rfl | exact vget (by omega))) ?_
  refine RK.F hT rfl rfl rfl rfl rfl rfl ?_
  refine RK.V (op_load_one hT rfl rfl rfl rfl (by first | rfl | exact vget (by omega))) ?_
  refine RK.V (op_bne hT rfl rfl rfl rfl) ?_
  refine RK.M rfl ?_
  refine RK.V (Eff.call0 (r_made _ _ ho)) ?_
  refine RK.S hT rfl rfl rfl rfl rfl rfl rfl ?_
  refine RK.D ?_
  refine AWp_ret ?_
  refine ends_one rfl (.inr rfl) (res_cell_agg hT rfl rfl rfl rfl (cs := [_, _]) rfl rfl) ?_ O_ends
  exact Sub.I (by rw [hv, hie, List.take_length, wv_wl, wv_wl]; exact mul_sg' x y)
end Go.Proofs.YtfdjankalhfceaaGreat
end

section
/- reference: Bits left reaches half -/
namespace Go.Proofs.YtfdjankalhfceaaGreat
open Go Go.AM
/- algorist/algoristref01.Bits -/
set_option maxHeartbeats 1000000 in
set_option maxRecDepth 100000 in
theorem r_Bits (x : Int) (hx : L 45 x) :
  Call0 Tryz.prog 125 [I x] (Z (blen x.natAbs)) := by
 have hlen := sz hx
 refine callM_of (np := 0) Tryz.func125 (by kernel_rfl) rfl rfl (Nat.le_of_ble_eq_true rfl) (fun m h => absurd rfl h) (fun m h => absurd rfl h) rfl ?_
 refine AWp_sr hP ?_
 refine RK.alc guard_none (op_box rfl rfl) ?_
 refine RK.As rfl ?_
 refine RK.D ?_
 refine AWp_seq ?_
 refine AWp_sr hP ?_
 refine RK.F hT rfl rfl rfl rfl rfl rfl ?_
 refine RK.V (op_load_one hT rfl rfl rfl rfl (by first | rfl | exact vget (by omega))) ?_
 refine RK.V (op_len hT rfl rfl rfl rfl) ?_
 refine RK.V (op_eql rfl rfl) ?_
 refine RK.D ?_
 refine AWp_cond rfl (fun hb1 => ?_) (fun hb1 => ?_)
 ·have hb1_ := bT hb1
  refine AWp_sr hP ?_
  refine RK.As rfl ?_
  refine RK.D ?_
  refine AWp_ret ?_
  refine ends_one rfl (.inr rfl) (res_tmp rfl) ?_ O_ends
  have h0 := wl_len_zero.1 hb1_
  exact Sub.int (by rw [h0]; rfl)
 ·have hb1_ := bF hb1
  have h1 : (wl x.natAbs).length ≠ 0 := fun e => hb1_ (by rw [e]; rfl)
  have hbt := blen_top (m := x.natAbs) (n := (wl x.natAbs).length - 1) (by omega)
  have htl := (wl_ok x.natAbs).getD ((wl x.natAbs).length - 1)
  have hb32 := blen_le (k := 32) htl
  refine AWp_skip ?_
  refine AWp_sr hP ?_
  refine RK.F hT rfl rfl rfl rfl rfl rfl ?_
  refine RK.V (op_load_one hT rfl rfl rfl rfl (by first | rfl | exact vget (by omega))) ?_
  refine RK.V (op_len hT rfl rfl rfl rfl) ?_
  refine RK.V (op_sub rfl rfl (c := (((wl x.natAbs).length - 1 : Nat) : Int)) (by rw [IntWalk.i64_in _ (by omega)]; omega)) ?_
  refine RK.V (op_mul rfl rfl (c := ((32 * ((wl x.natAbs).length - 1) : Nat) : Int)) (by rw [IntWalk.i64_in _ (by omega)]; omega)) ?_
  refine RK.As rfl ?_
  refine RK.D ?_
  refine AWp_seq ?_
  refine AWp_sr hP ?_
  refine RK.F hT rfl rfl rfl rfl rfl rfl ?_
  refine RK.V (op_load_one hT rfl rfl rfl rfl (by first | rfl | exact vget (by omega))) ?_
  refine RK.F hT rfl rfl rfl rfl rfl rfl ?_
  refine RK.V (op_load_one hT rfl rfl rfl rfl (by first | rfl | exact vget (by omega))) ?_
  refine RK.V (op_len hT rfl rfl rfl rfl) ?_
  refine RK.V (op_sub rfl rfl (c := (((wl x.natAbs).length - 1 : Nat) : Int)) (by rw [IntWalk.i64_in _ (by omega)]; omega)) ?_
  refine RK.V (by first | exact op_index_WN hT rfl rfl rfl rfl rfl rfl (by omega) | exact op_index_sl hT rfl rfl rfl rfl rfl rfl (by omega) (by first | exact W_ne (by omega) | simp)) ?_
  refine RK.V (op_load_ip_one hT rfl rfl rfl (by first | rfl | exact wget (by omega))) ?_
  refine RK.As rfl ?_
  refine RK.D ?_
  refine AWp_block ?_
  refine AWp_loop (ι := Nat × Nat) (fun p => stL [(3, Z ((p.1 : Nat) : Int)), (4, .p (.c (w32 p.2)))] []) (fun p => p.1 + blen p.2 = blen x.natAbs ∧ p.2 < 4294967296 ∧ p.1 ≤ blen x.natAbs) (fun p => p.2) (32 * ((wl x.natAbs).length - 1), (wl x.natAbs).getD ((wl x.natAbs).length - 1) 0) ⟨hbt.symm, htl, show 32 * ((wl x.natAbs).length - 1) ≤ blen x.natAbs by omega⟩ (le_stL ⟨.refl _, .refl _, trivial⟩ trivial) ?_
  rintro p ⟨hp1, hp2, hp3⟩
  refine AWp_seq ?_
  refine AWp_sr hP ?_
  refine RK.M rfl ?_
  refine RK.V (op_gtr rfl rfl) ?_
  refine RK.D ?_
  refine AWp_cond rfl (fun hb2 => ?_) (fun hb2 => ?_)
  ·have hb2_ := of_decide_eq_true hb2
   refine AWp_skip ?_
   refine AWp_seq ?_
   refine AWp_block ?_
   refine AWp_region hP ?_
   refine RK.M rfl ?_
   refine RK.V (op_add rfl rfl (c := ((p.1 + 1 : Nat) : Int)) (by rw [IntWalk.i64_in _ (by omega)]; omega)) ?_
   refine RK.As rfl ?_
   refine RK.D ?_
   refine AWp_region hP ?_
   refine RK.M rfl ?_
   refine RK.V (op_quo rfl rfl (by decide) (c := ((p.2 / 2 ^ 1 : Nat) : Int)) (by rw [Int.tdiv_eq_ediv_of_nonneg (by omega), IntWalk.u32_in _ (by omega)]; omega)) ?_
   refine RK.As rfl ?_
   refine RK.D ?_
   have hd := blen_half (n := p.2) (by omega)
   refine ⟨(p.1 + 1, p.2 / 2 ^ 1), ⟨show p.1 + 1 + blen (p.2 / 2 ^ 1) = blen x.natAbs by omega, show p.2 / 2 ^ 1 < 4294967296 by omega, show p.1 + 1 ≤ blen x.natAbs by omega⟩, by show p.2 / 2 ^ 1 < p.2; omega, le_stL ⟨.refl _, .refl _, trivial⟩ trivial⟩
  ·have hb2_ := of_decide_eq_false hb2
   refine AWp_exit ?_
   refine AWp_sr hP ?_
   refine RK.M rfl ?_
   refine RK.As rfl ?_
   refine RK.D ?_
   refine AWp_ret ?_
   refine ends_one rfl (.inr rfl) (res_tmp rfl) ?_ O_ends
   have h0 : p.2 = 0 := by omega
   rw [h0] at hp1
   exact Sub.int (by rw [← hp1]; rfl)
/- algorist/algoristref01.left -/
set_option maxHeartbeats 1000000 in
set_option maxRecDepth 100000 in
theorem r_leftV (l : List Nat) (n : Nat) (hl : okW l) (hll : l.length ≤ 1099511627776) (hn : n ≤ 35184372088832) :
  CallV Tryz.prog 124 [.p (.c (W l)), Z (n : Int)] (WB 52 (dgs (n / 32 + l.length + 1) (wv l * 2 ^ n))) := by
 obtain ⟨q, hq⟩ : ∃ q, q = n / 32 := ⟨_, rfl⟩
 obtain ⟨k, hk⟩ : ∃ k, k = n % 32 := ⟨_, rfl⟩
 have hks : n = 32 * q + k := by omega
 have hk32 : k < 32 := by omega
 refine callV_of Tryz.func124 (by kernel_rfl) rfl rfl (Nat.le_of_ble_eq_true rfl) ?_
 refine AWp_sr hP ?_
 refine RK.As rfl ?_
 refine RK.D ?_
 refine AWp_sr hP ?_
 refine RK.M rfl ?_
 refine RK.V (op_quo rfl rfl (by decide) (c := ((q : Nat) : Int)) (by rw [Int.tdiv_eq_ediv_of_nonneg (by omega), IntWalk.i64_in _ (by omega)]; omega)) ?_
 refine RK.alc guard_none (op_makeW hT rfl rfl rfl rfl rfl rfl rfl rfl (by omega)) ?_
 refine RK.V (op_assign (rfl : _ = AV.vec _)) ?_
 refine RK.D ?_
 refine AWp_sr hP ?_
 refine RK.M rfl ?_
 refine RK.V (op_rem rfl rfl (by decide) (c := ((k : Nat) : Int)) (by rw [Int.tmod_eq_emod_of_nonneg (by omega)]; omega)) ?_
 refine RK.V (op_conv hT rfl rfl rfl rfl (u64N (by omega))) ?_
 refine RK.As rfl ?_
 refine RK.D ?_
 refine AWp_rn 10 1000 rfl rfl rfl ?_
 refine AWp_seq ?_
 refine AWp_sr hP ?_
 refine RK.As rfl ?_
 refine RK.D ?_
 refine AWp_block ?_
 refine AWp_loop (ι := List Nat × Nat) (fun ⟨o, i⟩ => stL [(0, .p (.c (W l))), (5, .vec 1000), (6, .p (.c (.v (.int .u64 ((k : Nat) : Int))))), (7, Z (i : Int))] [(1000, WB 52 o)]) (fun ⟨o, i⟩ => i ≤ l.length + 1 ∧ okW o ∧ o.length = q + i ∧ wv o + 4294967296 ^ o.length * (wd l ((i : Int) - 1) * 2 ^ k / 2 ^ 32) = wv (l.take i) * 2 ^ (32 * q + k)) (fun ⟨_, i⟩ => l.length + 1 - i) (List.replicate ((q : Nat) : Int).toNat 0, 0) ⟨Nat.zero_le _, okW.rep _, by simp, by rw [wv_rep, wd_out (.inl (by decide))]; simp [wv]⟩ (le_stL ⟨.refl _, .refl _, .refl _, .refl _, trivial⟩ ⟨rfl, trivial⟩) ?_
 rintro ⟨o, i⟩ ⟨hi, hok, hol, hv⟩
 have hwi := wd_lt hl (i : Int)
 have hwj := wd_lt hl ((i : Int) - 1)
 refine AWp_seq ?_
 refine AWp_sr hP ?_
 refine RK.M rfl ?_
 refine RK.M rfl ?_
 refine RK.V (op_len hT rfl rfl rfl rfl) ?_
 refine RK.V (op_leq rfl rfl) ?_
 refine RK.D ?_
 refine AWp_cond rfl (fun hb1 => ?_) (fun hb1 => ?_)
 ·have hb1_ := of_decide_eq_true hb1
  have hlt : i ≤ l.length := by omega
  refine AWp_skip ?_
  refine AWp_seq ?_
  refine AWp_block ?_
  refine AWp_region hP ?_
  refine RK.V (op_move (rfl : _ = AV.vec _)) ?_
  refine RK.M rfl ?_
  refine RK.M rfl ?_
  refine RK.V (Eff.call0 (r_word _ _ hl)) ?_
  refine RK.M rfl ?_
  refine RK.V (op_shl rfl rfl (by omega) (c := ((wd l i * 2 ^ k : Nat) : Int)) (shl64 hwi hk32)) ?_
  refine RK.M rfl ?_
  refine RK.M rfl ?_
  refine RK.V (op_sub rfl rfl (by first | exact IntWalk.i64_in _ (by omega) | rfl)) ?_
  refine RK.V (Eff.call0 (r_word _ _ hl)) ?_
  refine RK.M rfl ?_
  refine RK.V (op_shl rfl rfl (by omega) (c := ((wd l ((i : Int) - 1) * 2 ^ k : Nat) : Int)) (shl64 hwj hk32)) ?_
  refine RK.V (op_shrN (j := 32) rfl rfl (by decide)) ?_
  refine RK.V (op_orN rfl rfl rfl (lt64 (shl_lt64 hwi hk32)) (lt64 (Nat.lt_of_le_of_lt (Nat.div_le_self _ _) (shl_lt64 hwj hk32)))) ?_
  refine RK.V (op_conv hT rfl rfl rfl rfl (u32_lo _)) ?_
  refine RK.V (op_bslice hT rfl rfl rfl (es := [_]) rfl rfl rfl) ?_
  refine RK.app guard_none (op_appendW hT rfl rfl rfl rfl rfl rfl rfl (xs := [(wd l i * 2 ^ k ||| wd l ((i : Int) - 1) * 2 ^ k / 2 ^ 32) % 4294967296]) rfl (by simp only [List.length_cons, List.length_nil]; omega) (by decide)) ?_
  refine RK.V (op_assign (rfl : _ = AV.vec _)) ?_
  refine RK.D ?_
  refine AWp_rn 36 1000 rfl rfl rfl ?_
  refine AWp_region hP ?_
  refine RK.M rfl ?_
  refine RK.V (op_add rfl rfl (by first | exact IntWalk.i64_in _ (by omega) | rfl)) ?_
  refine RK.As rfl ?_
  refine RK.D ?_
  have hr := left_round hl hk32 hol hv
  refine ⟨(o ++ [(wd l i * 2 ^ k ||| wd l ((i : Int) - 1) * 2 ^ k / 2 ^ 32) % 4294967296], i + 1), ⟨by omega, hok.snoc (Nat.mod_lt _ (by decide)), by simp; omega, ?_⟩, by show l.length + 1 - (i + 1) < l.length + 1 - i; omega, le_stL ⟨.refl _, .refl _, .refl _, .refl _, trivial⟩ ⟨rfl, trivial⟩⟩
  rw [List.length_append, List.length_cons, List.length_nil, show (((i + 1 : Nat) : Int) - 1) = (i : Int) by omega]
  exact hr
 ·have hb1_ := of_decide_eq_false hb1
  have hge : i = l.length + 1 := by omega
  refine AWp_exit ?_
  refine AWp_sr hP ?_
  refine RK.V (op_move (rfl : _ = AV.vec _)) ?_
  refine RK.V (op_assign (rfl : _ = AV.vec _)) ?_
  refine RK.D ?_
  refine AWp_ret ?_
  refine ⟨.inr rfl, _, _, rfl, rfl, ?_⟩
  rw [← hq]
  exact congrArg (fun z => some (WB 52 z)) (by rw [left_end hok hol hge hv, hks])
theorem r_left (l : List Nat) (n : Nat) (hl : okW l) (hll : l.length ≤ 1099511627776) (hn : n ≤ 35184372088832) : Call0 Tryz.prog 124 [.p (.c (W l)), Z (n : Int)] (.p (.c (W (dgs (n / 32 + l.length + 1) (wv l * 2 ^ n))))) := (r_leftV l n hl hll hn).call0W
/- algorist/algoristref01.reaches -/
set_option maxHeartbeats 1000000 in
set_option maxRecDepth 100000 in
theorem r_reaches (a b : List Nat) (ha : okW a) (hb : okW b) (hla : a.length ≤ 4398046511104) (hlb : b.length ≤ 4398046511104) :
  Call0 Tryz.prog 144 [.p (.c (W a)), .p (.c (W b))] (B (decide (wv b ≤ wv a))) := by
 obtain ⟨mx, hmx⟩ : ∃ mx : Int, mx = (if (b.length : Int) > a.length then (b.length : Int) else a.length) := ⟨_, rfl⟩
 have hm1 : (a.length : Int) ≤ mx ∧ (b.length : Int) ≤ mx ∧ mx ≤ 4398046511104 := by rw [hmx]; split <;> omega
 refine callM_of (np := 0) Tryz.func144 (by kernel_rfl) rfl rfl (Nat.le_of_ble_eq_true rfl) (fun m h => absurd rfl h) (fun m h => absurd rfl h) rfl ?_
 refine AWp_sr hP ?_
 refine RK.As rfl ?_
 refine RK.D ?_
 refine AWp_seq ?_
 refine AWp_sr hP ?_
 refine RK.M rfl ?_
 refine RK.V (op_len hT rfl rfl rfl rfl) ?_
 refine RK.M rfl ?_
 refine RK.V (op_len hT rfl rfl rfl rfl) ?_
 refine RK.V (op_max rfl rfl) ?_
 refine RK.V (op_sub rfl rfl (c := (mx.toNat : Int) - 1) (by rw [← hmx, IntWalk.i64_in _ (by omega)]; omega)) ?_
 refine RK.As rfl ?_
 refine RK.D ?_
 refine AWp_block ?_
 refine AWp_loop (ι := Nat) (fun k => stL [(0, .p (.c (W a))), (1, .p (.c (W b))), (5, Z ((k : Int) - 1))] []) (fun k => k ≤ mx.toNat ∧ wv a / 4294967296 ^ k = wv b / 4294967296 ^ k) (fun k => k) mx.toNat ⟨Nat.le_refl _, by rw [reach_start ha (by omega), reach_start hb (by omega)]⟩ (le_stL ⟨.refl _, .refl _, .refl _, trivial⟩ trivial) ?_
 rintro k ⟨hk, he⟩
 refine AWp_seq ?_
 refine AWp_sr hP ?_
 refine RK.M rfl ?_
 refine RK.V (op_geq rfl rfl) ?_
 refine RK.D ?_
 refine AWp_cond rfl (fun hb1 => ?_) (fun hb1 => ?_)
 ·have hb1_ := of_decide_eq_true hb1
  refine AWp_skip ?_
  refine AWp_seq ?_
  refine AWp_block ?_
  refine AWp_sr hP ?_
  refine RK.M rfl ?_
  refine RK.M rfl ?_
  refine RK.V (Eff.call0 (r_word _ _ (by assumption))) ?_
  refine RK.M rfl ?_
  refine RK.M rfl ?_
  refine RK.V (Eff.call0 (r_word _ _ (by assumption))) ?_
  refine RK.V (op_neq rfl rfl) ?_
  refine RK.D ?_
  refine AWp_cond rfl (fun hb2 => ?_) (fun hb2 => ?_)
  ·have hb2_ := bneT hb2
   refine AWp_sr hP ?_
   refine RK.M rfl ?_
   refine RK.M rfl ?_
   refine RK.V (Eff.call0 (r_word _ _ (by assumption))) ?_
   refine RK.M rfl ?_
   refine RK.M rfl ?_
   refine RK.V (Eff.call0 (r_word _ _ (by assumption))) ?_
   refine RK.V (op_gtr rfl rfl) ?_
   refine RK.As rfl ?_
   refine RK.D ?_
   refine AWp_ret ?_
   refine ends_one rfl (.inr rfl) (res_tmp rfl) ?_ O_ends
   exact Sub.bool (reach_ret ha hb hb1_ he hb2_)
  ·have hb2_ := bneF hb2
   refine AWp_skip ?_
   refine AWp_region hP ?_
   refine RK.M rfl ?_
   refine RK.V (op_sub rfl rfl (by first | exact IntWalk.i64_in _ (by omega) | rfl)) ?_
   refine RK.As rfl ?_
   refine RK.D ?_
   exact ⟨k - 1, ⟨by omega, reach_next ha hb hb1_ he hb2_⟩, by omega, le_stL ⟨.refl _, .refl _, Sub.int (by omega), trivial⟩ trivial⟩
 ·have hb1_ := of_decide_eq_false hb1
  refine AWp_exit ?_
  refine AWp_sr hP ?_
  refine RK.As rfl ?_
  refine RK.D ?_
  refine AWp_ret ?_
  refine ends_one rfl (.inr rfl) (res_tmp rfl) ?_ O_ends
  have h0 : k = 0 := by omega
  subst h0
  exact Sub.bool (decide_eq_true (by simpa using Nat.le_of_eq he.symm)).symm
/- algorist/algoristref01.half -/
set_option maxHeartbeats 1000000 in
set_option maxRecDepth 100000 in
theorem r_half0 (l : List Nat) (hl : okW l) (hll : l.length ≤ 4398046511104) :
  CallM Tryz.prog 146 [.vec 0] (upd O 0 (some (WB 52 l))) (.t []) (upd O 0 (some (WB 52 (dgs l.length (wv l / 2))))) := by
 refine callM_of (np := 1) Tryz.func146 (by kernel_rfl) rfl rfl (Nat.le_of_ble_eq_true rfl) upd1_lt upd1_dom rfl ?_
 refine AWp_sr hP ?_
 refine RK.As rfl ?_
 refine RK.D ?_
 refine AWp_block ?_
 refine AWp_loop (ι := Nat) (fun i => stL [(0, .vec 0), (2, Z (i : Int))] [(0, WB 52 (hlf l i))]) (fun i => i ≤ l.length) (fun i => l.length - i) 0 (Nat.zero_le _) (le_stL ⟨.refl _, .refl _, trivial⟩ ⟨congrArg (fun z => some (WB 52 z)) (hlf_zero l).symm, trivial⟩) ?_
 intro i hi
 have hlen := hlf_len l hi
 have hok := hlf_ok hl i
 have hwi := wd_lt hok (i : Int)
 have hwj := wd_lt hok ((i : Int) + 1)
 refine AWp_seq ?_
 refine AWp_sr hP ?_
 refine RK.M rfl ?_
 refine RK.V (op_move (rfl : _ = AV.vec _)) ?_
 refine RK.V (op_len_vecW hT rfl rfl rfl rfl) ?_
 refine RK.V (op_lss rfl rfl) ?_
 refine RK.D ?_
 refine AWp_cond rfl (fun hb1 => ?_) (fun hb1 => ?_)
 ·have hb1_ := of_decide_eq_true hb1
  have hlt : i < l.length := by omega
  refine AWp_skip ?_
  refine AWp_seq ?_
  refine AWp_block ?_
  refine AWp_region hP ?_
  refine RK.V (op_move (rfl : _ = AV.vec _)) ?_
  refine RK.M rfl ?_
  refine RK.V (op_move (rfl : _ = AV.vec _)) ?_
  refine RK.M rfl ?_
  refine RK.V (Eff.borrow (.vecW rfl (.same .nil)) (r_word (hlf l i) _ hok)) ?_
  refine RK.V (op_shrN (j := 1) rfl rfl (by decide)) ?_
  refine RK.V (op_move (rfl : _ = AV.vec _)) ?_
  refine RK.M rfl ?_
  refine RK.V (op_add rfl rfl (by first | exact IntWalk.i64_in _ (by omega) | rfl)) ?_
  refine RK.V (Eff.borrow (.vecW rfl (.same .nil)) (r_word (hlf l i) _ hok)) ?_
  refine RK.V (op_shlN (j := 31) rfl rfl (by decide) rfl) ?_
  refine RK.V (op_orN rfl rfl rfl (lt64 (by omega)) (lt64 (Nat.mod_lt _ (by decide)))) ?_
  refine RK.V (op_conv hT rfl rfl rfl rfl (u32_lo _)) ?_
  refine RK.V (by first | exact op_index_vecWN hT rfl rfl rfl rfl rfl rfl rfl (by first | omega | (simp; omega)) | exact op_index_vecW hT rfl rfl rfl rfl rfl rfl rfl (by first | omega | (simp; omega))) ?_
  refine RK.sto guard_none (op_storeWv hT rfl rfl rfl rfl rfl (by first | omega | (simp; omega)) (show (hlf l i).set i _ = hlf l (i + 1) by rw [hlf_wd (Int.le_refl _) (by omega), hlf_wd (by omega) (by omega), half_word hl]; exact hlf_set hlt)) ?_
  refine RK.D ?_
  refine AWp_region hP ?_
  refine RK.M rfl ?_
  refine RK.V (op_add rfl rfl (by first | exact IntWalk.i64_in _ (by omega) | rfl)) ?_
  refine RK.As rfl ?_
  refine RK.D ?_
  exact ⟨i + 1, by show i + 1 ≤ l.length; omega, by show l.length - (i + 1) < l.length - i; omega, le_stL ⟨.refl _, Sub.int (by omega), trivial⟩ ⟨rfl, trivial⟩⟩
 ·have hb1_ := of_decide_eq_false hb1
  have hie : i = l.length := by omega
  refine AWp_exit ?_
  refine ends_none rfl (.inl rfl)  ?_ (own_end1 ?_)
  exact .refl _
  exact congrArg (fun z => some (WB 52 z)) (by rw [hie, hlf_end])
/- algorist/algoristref01.take -/
set_option maxHeartbeats 1000000 in
set_option maxRecDepth 100000 in
theorem r_take0 (a b : List Nat) (ha : okW a) (hb : okW b) (hla : a.length ≤ 4398046511104) (hab : wv b ≤ wv a) :
  CallM Tryz.prog 145 [.vec 0, .vec 1] (upd (upd O 0 (some (WB 52 a))) 1 (some (WB 52 b))) (.t []) (upd (upd O 0 (some (WB 52 (dgs a.length (wv a - wv b))))) 1 (some (WB 52 b))) := by
 refine callM_of (np := 2) Tryz.func145 (by kernel_rfl) rfl rfl (Nat.le_of_ble_eq_true rfl) upd2_lt upd2_dom rfl ?_
 refine AWp_sr hP ?_
 refine RK.As rfl ?_
 refine RK.D ?_
 refine AWp_sr hP ?_
 refine RK.As rfl ?_
 refine RK.D ?_
 refine AWp_block ?_
 refine AWp_loop (ι := List Nat × Nat) (fun p => stL [(0, .vec 0), (1, .vec 1), (4, .p (.c (.v (.int .u64 ((p.2 : Nat) : Int))))), (5, Z ((p.1.length : Nat) : Int))] [(0, WB 52 (p.1 ++ a.drop p.1.length)), (1, WB 52 b)]) (fun p => p.1.length ≤ a.length ∧ okW p.1 ∧ p.2 ≤ 1 ∧ wv p.1 + wv (b.take p.1.length) = wv (a.take p.1.length) + 4294967296 ^ p.1.length * p.2) (fun p => a.length - p.1.length) ([], 0) ⟨Nat.zero_le _, okW.nil, by decide, by simp [wv]⟩ (le_stL ⟨.refl _, .refl _, .refl _, .refl _, trivial⟩ ⟨rfl, rfl, trivial⟩) ?_
 rintro p ⟨hll, hol, hc, hv⟩
 have hmid := mid_len hll
 have hwb := wd_lt hb (p.1.length : Nat)
 refine AWp_seq ?_
 refine AWp_sr hP ?_
 refine RK.M rfl ?_
 refine RK.V (op_move (rfl : _ = AV.vec _)) ?_
 refine RK.V (op_len_vecW hT rfl rfl rfl rfl) ?_
 refine RK.V (op_lss rfl rfl) ?_
 refine RK.D ?_
 refine AWp_cond rfl (fun hb1 => ?_) (fun hb1 => ?_)
 ·have hb1_ := of_decide_eq_true hb1
  have hlt : p.1.length < a.length := by omega
  have hal := ha.getD p.1.length
  have htx := (take_x ha hb hc hlt).1
  refine AWp_skip ?_
  refine AWp_seq ?_
  refine AWp_block ?_
  refine AWp_sr hP ?_
  refine RK.V (op_move (rfl : _ = AV.vec _)) ?_
  refine RK.M rfl ?_
  refine RK.V (by first | exact op_index_vecWN hT rfl rfl rfl rfl rfl rfl rfl (by first | omega | (simp; omega)) | exact op_index_vecW hT rfl rfl rfl rfl rfl rfl rfl (by first | omega | (simp; omega))) ?_
  refine RK.V (op_loadWv hT rfl rfl rfl rfl (by first | omega | (simp; omega)) (mid_get hlt)) ?_
  refine RK.V (op_conv hT rfl rfl rfl rfl (u64N (by omega))) ?_
  refine RK.V (op_add rfl rfl (c := ((4294967296 + a.getD p.1.length 0 : Nat) : Int)) (by rw [IntWalk.u64_in _ (by omega)]; omega)) ?_
  refine RK.V (op_move (rfl : _ = AV.vec _)) ?_
  refine RK.M rfl ?_
  refine RK.V (Eff.borrow (.vecW rfl (.same .nil)) (r_word b _ hb)) ?_
  refine RK.V (op_sub rfl rfl (c := ((4294967296 + a.getD p.1.length 0 - wd b (p.1.length : Nat) : Nat) : Int)) (by rw [IntWalk.u64_in _ (by omega)]; omega)) ?_
  refine RK.M rfl ?_
  refine RK.V (op_sub rfl rfl (c := ((4294967296 + a.getD p.1.length 0 - wd b (p.1.length : Nat) - p.2 : Nat) : Int)) (by rw [IntWalk.u64_in _ (by omega)]; omega)) ?_
  refine RK.As rfl ?_
  refine RK.D ?_
  refine AWp_sr hP ?_
  refine RK.V (op_move (rfl : _ = AV.vec _)) ?_
  refine RK.M rfl ?_
  refine RK.M rfl ?_
  refine RK.V (op_conv hT rfl rfl rfl rfl (u32_lo _)) ?_
  refine RK.V (by first | exact op_index_vecWN hT rfl rfl rfl rfl rfl rfl rfl (by first | omega | (simp; omega)) | exact op_index_vecW hT rfl rfl rfl rfl rfl rfl rfl (by first | omega | (simp; omega))) ?_
  refine RK.sto guard_none (op_storeWv hT rfl rfl rfl rfl rfl (by first | omega | (simp; omega)) (mid_set hlt)) ?_
  refine RK.D ?_
  refine AWp_region hP ?_
  refine RK.M rfl ?_
  refine RK.V (op_shrN (j := 32) rfl rfl (by decide)) ?_
  refine RK.V (op_sub rfl rfl (c := ((1 - (4294967296 + a.getD p.1.length 0 - wd b (p.1.length : Nat) - p.2) / 4294967296 : Nat) : Int)) (by rw [IntWalk.u64_in _ (by omega)]; omega)) ?_
  refine RK.As rfl ?_
  refine RK.D ?_
  refine AWp_region hP ?_
  refine RK.M rfl ?_
  refine RK.V (op_add rfl rfl (by first | exact IntWalk.i64_in _ (by omega) | rfl)) ?_
  refine RK.As rfl ?_
  refine RK.D ?_
  have hx := (take_x ha hb hc hlt).2
  have hr := minus_round ha hb hc hv
  rw [← hx] at hr
  refine ⟨(p.1 ++ [(4294967296 + a.getD p.1.length 0 - wd b (p.1.length : Nat) - p.2) % 4294967296], 1 - (4294967296 + a.getD p.1.length 0 - wd b (p.1.length : Nat) - p.2) / 4294967296), ⟨?_, hol.snoc (Nat.mod_lt _ (by decide)), Nat.sub_le _ _, by simpa using hr⟩, ?_, le_stL ⟨.refl _, .refl _, .refl _, Sub.int (by simp), trivial⟩ ⟨rfl, rfl, trivial⟩⟩
  ·simp only [List.length_append, List.length_cons, List.length_nil]; omega
  ·simp only [List.length_append, List.length_cons, List.length_nil]; omega
 ·have hb1_ := of_decide_eq_false hb1
  have hge : p.1.length = a.length := by omega
  refine AWp_exit ?_
  refine ends_none rfl (.inl rfl)  ?_ (own_end2 ?_ rfl)
  exact .refl _
  exact congrArg (fun z => some (WB 52 z)) (take_end ha hb hol hge hab hv)
theorem r_half (m : Nat) (l : List Nat) (hl : okW l) (hll : l.length ≤ 4398046511104) : CallM Tryz.prog 146 [.vec m] (upd O m (some (WB 52 l))) (.t []) (upd O m (some (WB 52 (dgs l.length (wv l / 2))))) := CallM.ren1 m (r_half0 l hl hll) rfl rfl
theorem r_take (m k : Nat) (hmk : Nat.beq m k = false) (a b : List Nat) (ha : okW a) (hb : okW b) (hla : a.length ≤ 4398046511104) (hab : wv b ≤ wv a) : CallM Tryz.prog 145 [.vec m, .vec k] (upd (upd O m (some (WB 52 a))) k (some (WB 52 b))) (.t []) (upd (upd O m (some (WB 52 (dgs a.length (wv a - wv b))))) k (some (WB 52 b))) := CallM.ren2 m k hmk (r_take0 a b ha hb hla hab) rfl rfl
end Go.Proofs.YtfdjankalhfceaaGreat
end

section
/- reference: divide DivMod Div Mod Gcd Sqrt Made -/
namespace Go.Proofs.YtfdjankalhfceaaGreat
open Go Go.AM
theorem r_BitsN (a : Nat) (h : (wl a).length ≤ 1099511627776) : Call0 Tryz.prog 125 [.p (.a [zn 0, nt a])] (Z (blen a)) := by
 have h : Call0 Tryz.prog 125 [.p (.a [zn (a : Int), nt a])] (Z (blen a)) := r_Bits (a : Int) (L_of_len h)
 rw [zn_nat] at h
 exact h
/- algorist/algoristref01.divide -/
set_option maxHeartbeats 1000000 in
set_option maxRecDepth 100000 in
theorem r_divide (a b : Nat) (hla : (wl a).length ≤ 1099511627776) (hlb : (wl b).length ≤ 1099511627776) (hb : 0 < b) :
  Call0 Tryz.prog 120 [.p (.c (nt a)), .p (.c (nt b))] (.p (.a [W (qL a b), W (rL a b)])) := by
 have hba := blen_len hla
 have hbb := blen_len hlb
 refine callM_of (np := 0) Tryz.func120 (by kernel_rfl) rfl rfl (Nat.le_of_ble_eq_true rfl) (fun m h => absurd rfl h) (fun m h => absurd rfl h) rfl ?_
 refine AWp_sr hP ?_
 refine RK.alc guard_none (op_alloc hT rfl rfl) ?_
 refine RK.D ?_
 refine AWp_seq_cut (ι := Unit) (fun _ => stL [(0, .p (.c (nt a))), (1, .p (.c (nt b))), (4, .loc 4 0)] [(4, ⟨false, 1, 168, [.sl 0 [], .sl 0 []]⟩)]) (fun _ => ¬ ((wl a).length ≤ 2 ∧ (wl b).length ≤ 2)) ?_ ?_
 ·refine AWp_sr hP ?_
  refine RK.M rfl ?_
  refine RK.V (op_len hT rfl rfl rfl rfl) ?_
  refine RK.V (op_leq rfl rfl) ?_
  refine RK.M rfl ?_
  refine RK.split (t := 15) rfl (fun hg1 => ?_) (fun hg1 => ?_)
  ·have hg1_ := of_decide_eq_true hg1
   have hl1 : (wl a).length ≤ 2 := by have := of_decide_eq_true hg1; omega
   refine RK.val (guard_yes rfl rfl hg1) (op_move (rfl : _ = AV.p (.c _))) ?_
   refine RK.val (guard_yes rfl rfl hg1) (op_len hT rfl rfl rfl rfl) ?_
   refine RK.val (guard_yes rfl rfl hg1) (op_leq rfl rfl) ?_
   refine RK.V (op_pick_t rfl hg1 (rfl : _ = AV.p (.c _))) ?_
   refine RK.D ?_
   refine AWp_cond rfl (fun hb2 => ?_) (fun hb2 => ?_)
   ·have hb2_ := of_decide_eq_true hb2
    have hl2 : (wl b).length ≤ 2 := by have := of_decide_eq_true hb2; omega
    have ha64 := lt_two hl1
    have hb64 := lt_two hl2
    have hdv := Nat.div_le_self a b
    have hmd := Nat.mod_le a b
    refine AWp_sr hP ?_
    refine RK.M rfl ?_
    refine RK.V (Eff.call0 (r_word _ _ (wl_ok _))) ?_
    refine RK.M rfl ?_
    refine RK.V (Eff.call0 (r_word _ _ (wl_ok _))) ?_
    refine RK.V (op_shlN (j := 32) rfl rfl (by decide) rfl) ?_
    refine RK.V (op_or rfl rfl (lohi hl1)) ?_
    refine RK.As rfl ?_
    refine RK.D ?_
    refine AWp_sr hP ?_
    refine RK.M rfl ?_
    refine RK.V (Eff.call0 (r_word _ _ (wl_ok _))) ?_
    refine RK.M rfl ?_
    refine RK.V (Eff.call0 (r_word _ _ (wl_ok _))) ?_
    refine RK.V (op_shlN (j := 32) rfl rfl (by decide) rfl) ?_
    refine RK.V (op_or rfl rfl (lohi hl2)) ?_
    refine RK.As rfl ?_
    refine RK.D ?_
    refine AWp_sr hP ?_
    refine RK.M rfl ?_
    refine RK.M rfl ?_
    refine RK.V (op_quo rfl rfl (by omega) (c := ((a / b : Nat) : Int)) (by rw [Int.tdiv_eq_ediv_of_nonneg (by omega), ← Int.natCast_ediv, u64N (by omega)])) ?_
    refine RK.V (op_conv hT rfl rfl rfl rfl (u32_lo _)) ?_
    refine RK.M rfl ?_
    refine RK.M rfl ?_
    refine RK.V (op_quo rfl rfl (by omega) (c := ((a / b : Nat) : Int)) (by rw [Int.tdiv_eq_ediv_of_nonneg (by omega), ← Int.natCast_ediv, u64N (by omega)])) ?_
    refine RK.V (op_shrN (j := 32) rfl rfl (by decide)) ?_
    refine RK.V (op_conv hT rfl rfl rfl rfl (u32N (by omega))) ?_
    refine RK.V (op_bslice hT rfl rfl rfl (es := [_, _]) rfl rfl rfl) ?_
    refine RK.M rfl ?_
    refine RK.M rfl ?_
    refine RK.V (op_rem rfl rfl (by omega) (c := ((a % b : Nat) : Int)) (by rw [Int.tmod_eq_emod_of_nonneg (by omega), ← Int.natCast_emod])) ?_
    refine RK.V (op_conv hT rfl rfl rfl rfl (u32_lo _)) ?_
    refine RK.M rfl ?_
    refine RK.M rfl ?_
    refine RK.V (op_rem rfl rfl (by omega) (c := ((a % b : Nat) : Int)) (by rw [Int.tmod_eq_emod_of_nonneg (by omega), ← Int.natCast_emod])) ?_
    refine RK.V (op_shrN (j := 32) rfl rfl (by decide)) ?_
    refine RK.V (op_conv hT rfl rfl rfl rfl (u32N (by omega))) ?_
    refine RK.V (op_bslice hT rfl rfl rfl (es := [_, _]) rfl rfl rfl) ?_
    refine RK.V (op_build_st hT rfl rfl rfl (es := [_, _]) rfl) ?_
    refine RK.S hT rfl rfl rfl rfl rfl rfl rfl ?_
    refine RK.D ?_
    refine AWp_ret ?_
    refine ends_one rfl (.inr rfl) (res_cell_agg hT rfl rfl rfl rfl (cs := [_, _]) rfl rfl) ?_ O_ends
    exact Sub.of_eq (by unfold qL rL; rw [if_pos ⟨hl1, hl2⟩, if_pos ⟨hl1, hl2⟩]; rfl)
   ·have hb2_ := of_decide_eq_false hb2
    have hl2 : ¬ (wl b).length ≤ 2 := by have := of_decide_eq_false hb2; omega
    have hsm : ¬ ((wl a).length ≤ 2 ∧ (wl b).length ≤ 2) := fun x => hl2 x.2
    refine AWp_skip ?_
    exact ⟨(), hsm, le_stL ⟨.refl _, .refl _, .refl _, trivial⟩ ⟨rfl, trivial⟩⟩
  ·have hg1_ := of_decide_eq_false hg1
   have hl1 : ¬ (wl a).length ≤ 2 := by have := of_decide_eq_false hg1; omega
   have hsm : ¬ ((wl a).length ≤ 2 ∧ (wl b).length ≤ 2) := fun x => hl1 x.1
   refine RK.skip (guard_no rfl rfl hg1) ?_
   refine RK.skip (guard_no rfl rfl hg1) ?_
   refine RK.skip (guard_no rfl rfl hg1) ?_
   refine RK.V (op_pick_f rfl hg1 (rfl : _ = AV.p (.c _))) ?_
   refine RK.D ?_
   refine AWp_cond_false rfl rfl ?_
   refine AWp_skip ?_
   exact ⟨(), hsm, le_stL ⟨.refl _, .refl _, .refl _, trivial⟩ ⟨rfl, trivial⟩⟩
 rintro _ hsm
 refine AWp_sr hP ?_
 refine RK.alc guard_none (op_bslice_vecW hT rfl rfl rfl rfl (ws := []) rfl rfl rfl) ?_
 refine RK.M rfl ?_
 refine RK.app guard_none (op_appendW hT rfl rfl rfl rfl rfl rfl rfl (xs := wl a) rfl (by simp only [List.length_nil]; omega) (by decide)) ?_
 refine RK.V (op_assign (rfl : _ = AV.vec _)) ?_
 refine RK.D ?_
 refine AWp_sr hP ?_
 refine RK.M rfl ?_
 refine RK.V (op_build_st hT rfl rfl rfl (es := [_, _]) rfl) ?_
 refine RK.V (Eff.call0 (r_BitsN a hla)) ?_
 refine RK.M rfl ?_
 refine RK.V (op_build_st hT rfl rfl rfl (es := [_, _]) rfl) ?_
 refine RK.V (Eff.call0 (r_BitsN b hlb)) ?_
 refine RK.V (op_sub rfl rfl (by first | exact IntWalk.i64_in _ (by omega) | rfl)) ?_
 refine RK.As rfl ?_
 refine RK.D ?_
 refine AWp_seq ?_
 refine AWp_sr hP ?_
 refine RK.M rfl ?_
 refine RK.V (op_lss rfl rfl) ?_
 refine RK.D ?_
 refine AWp_cond rfl (fun hb3 => ?_) (fun hb3 => ?_)
 ·have hb3_ := of_decide_eq_true hb3
  have hneg : blen a < blen b := by omega
  refine AWp_freezeW (t := 7) rfl rfl ?_
  refine AWp_sr hP ?_
  refine RK.M rfl ?_
  refine RK.V (op_build_st hT rfl rfl rfl (es := [_, _]) rfl) ?_
  refine RK.S hT rfl rfl rfl rfl rfl rfl rfl ?_
  refine RK.D ?_
  refine AWp_ret ?_
  refine ends_one rfl (.inr rfl) (res_cell_agg hT rfl rfl rfl rfl (cs := [_, _]) rfl rfl) ?_ O_ends
  exact div_less hsm hneg
 ·have hb3_ := of_decide_eq_false hb3
  have hnn : blen b ≤ blen a := by omega
  obtain ⟨N, hN⟩ : ∃ N, N = blen a - blen b := ⟨_, rfl⟩
  refine AWp_skip ?_
  refine AWp_le (t := stL [(0, .p (.c (nt a))), (1, .p (.c (nt b))), (4, .loc 4 0), (7, .vec 55), (8, Z (N : Int))] [(4, ⟨false, 1, 168, [.sl 0 [], .sl 0 []]⟩), (55, WB 52 (wl a))]) (le_stL ⟨.refl _, .refl _, .refl _, .refl _, Sub.int (by omega), trivial⟩ ⟨rfl, rfl, trivial⟩) ?_
  refine AWp_sr hP ?_
  refine RK.M rfl ?_
  refine RK.V (op_quo rfl rfl (by decide) (c := ((N / 32 : Nat) : Int)) (by rw [Int.tdiv_eq_ediv_of_nonneg (by omega), IntWalk.i64_in _ (by omega)]; omega)) ?_
  refine RK.V (op_add rfl rfl (c := ((N / 32 + 1 : Nat) : Int)) (by rw [IntWalk.i64_in _ (by omega)]; omega)) ?_
  refine RK.alc guard_none (op_makeW hT rfl rfl rfl rfl rfl rfl rfl rfl (by omega)) ?_
  refine RK.V (op_assign (rfl : _ = AV.vec _)) ?_
  refine RK.D ?_
  refine AWp_sr hP ?_
  refine RK.M rfl ?_
  refine RK.M rfl ?_
  refine RK.alc guard_none (Eff.callV (r_leftV (wl b) N (wl_ok _) hlb (by omega))) ?_
  refine RK.V (op_assign (rfl : _ = AV.vec _)) ?_
  refine RK.D ?_
  refine AWp_seq ?_
  refine AWp_sr hP ?_
  refine RK.M rfl ?_
  refine RK.As rfl ?_
  refine RK.D ?_
  refine AWp_block ?_
  refine AWp_loop (ι := Nat × Nat × Nat) (fun ⟨j, Q, R⟩ => stL [(4, .loc 4 0), (7, .vec 55), (9, .vec 70), (10, .vec 73), (11, Z ((j : Int) - 1))] [(4, ⟨false, 1, 168, [.sl 0 [], .sl 0 []]⟩), (55, WB 52 (dgs (wl a).length R)), (70, WB 52 (dgs (N / 32 + 1) Q)), (73, WB 52 (dgs (N / 32 + (wl b).length + 1) (b * 2 ^ j / 2)))]) (fun ⟨j, Q, R⟩ => j ≤ N + 1 ∧ Q < 4294967296 ^ (N / 32 + 1) ∧ Dv a b j Q R) (fun ⟨j, _, _⟩ => j) (N + 1, 0, a) ⟨Nat.le_refl _, Nat.pow_pos (by decide), hN ▸ Dv.start hb hnn⟩ (le_stL ⟨.refl _, .refl _, .refl _, .refl _, Sub.int (by omega), trivial⟩ ⟨rfl, congrArg (fun z => some (WB 52 z)) (dgs_wl a).symm, congrArg (fun z => some (WB 52 z)) (by rw [dgs_zero]; rfl), congrArg (fun z => some (WB 52 z)) (by rw [wv_wl, half_pow (by omega), Nat.add_sub_cancel]), trivial⟩) ?_
  rintro ⟨j, Q, R⟩ ⟨hj, hQ, hD⟩
  have hRa : R < 4294967296 ^ (wl a).length := Nat.lt_of_le_of_lt hD.le (wl_len_lt a)
  have hDl := D_lt hb hj
  refine AWp_seq ?_
  refine AWp_sr hP ?_
  refine RK.M rfl ?_
  refine RK.V (op_geq rfl rfl) ?_
  refine RK.D ?_
  refine AWp_cond rfl (fun hb4 => ?_) (fun hb4 => ?_)
  ·have hb4_ := of_decide_eq_true hb4
   have hj0 : 0 < j := by omega
   have hset := set_bit (m := (N / 32 + 1)) (Q := Q) (i := j - 1) (by omega) (by rw [show j - 1 + 1 = j by omega]; exact hD.mul) hQ
   have hkk : ((j : Int) - 1) = ((j - 1 : Nat) : Int) := by omega
   refine AWp_skip ?_
   refine AWp_seq ?_
   refine AWp_block ?_
   refine AWp_seq ?_
   refine AWp_sr hP ?_
   refine RK.V (op_move (rfl : _ = AV.vec _)) ?_
   refine RK.V (op_move (rfl : _ = AV.vec _)) ?_
   refine RK.V (Eff.borrow (.vecW rfl (.vecW rfl .nil)) (r_reaches _ _ (dgs_ok _ _) (dgs_ok _ _) (by rw [dgs_length]; omega) (by rw [dgs_length]; omega))) ?_
   refine RK.D ?_
   refine AWp_cond rfl (fun hb5 => ?_) (fun hb5 => ?_)
   ·have hle := reach_yes hRa hDl hb5
    rw [half_pow hj0] at hle
    refine AWp_sr hP ?_
    refine RK.V (op_move (rfl : _ = AV.vec _)) ?_
    refine RK.V (op_move (rfl : _ = AV.vec _)) ?_
    refine RK.mutL guard_none (Eff.call (rd := [55, 73]) (r_take 55 73 rfl (dgs (wl a).length R) (dgs (N / 32 + (wl b).length + 1) (b * 2 ^ j / 2)) (dgs_ok _ _) (dgs_ok _ _) (by rw [dgs_length]; omega) (by rw [wv_dgs _ _ hRa, wv_dgs _ _ hDl, half_pow hj0]; exact hle)) (own2 rfl rfl rfl) upd2_mem) ?_
    refine RK.D ?_
    refine AWp_region hP ?_
    refine RK.V (op_move (rfl : _ = AV.vec _)) ?_
    refine RK.M rfl ?_
    refine RK.V (op_quo rfl rfl (by decide) (c := (((j - 1) / 32 : Nat) : Int)) (by rw [hkk, Int.tdiv_eq_ediv_of_nonneg (by omega), IntWalk.i64_in _ (by omega)]; omega)) ?_
    refine RK.V (by first | exact op_index_vecWN hT rfl rfl rfl rfl rfl rfl rfl (by rw [dgs_length]; omega) | exact op_index_vecW hT rfl rfl rfl rfl rfl rfl rfl (by rw [dgs_length]; omega)) ?_
    refine RK.V (op_loadWv hT rfl rfl rfl rfl (by rw [dgs_length]; omega) rfl) ?_
    refine RK.M rfl ?_
    refine RK.V (op_rem rfl rfl (by decide) (c := (((j - 1) % 32 : Nat) : Int)) (by rw [hkk, Int.tmod_eq_emod_of_nonneg (by omega)]; omega)) ?_
    refine RK.V (op_conv hT rfl rfl rfl rfl (u64N (by omega))) ?_
    refine RK.V (op_shl rfl rfl (by omega) (c := ((2 ^ ((j - 1) % 32) : Nat) : Int)) (shl_one (by omega))) ?_
    refine RK.V (op_orN rfl rfl rfl (lt32 ((dgs_ok _ _).getD _)) (lt32 (pow_lt32 (by omega)))) ?_
    refine RK.V (by first | exact op_index_vecWN hT rfl rfl rfl rfl rfl rfl rfl (by rw [dgs_length]; omega) | exact op_index_vecW hT rfl rfl rfl rfl rfl rfl rfl (by rw [dgs_length]; omega)) ?_
    refine RK.sto guard_none (op_storeWv hT rfl rfl rfl rfl rfl (by rw [dgs_length]; omega) rfl) ?_
    refine RK.D ?_
    refine AWp_region hP ?_
    refine RK.V (op_move (rfl : _ = AV.vec _)) ?_
    refine RK.mut guard_none (Eff.call (rd := [73]) (r_half 73 (dgs (N / 32 + (wl b).length + 1) (b * 2 ^ j / 2)) (dgs_ok _ _) (by rw [dgs_length]; omega)) (own1 rfl) upd1_mem) ?_
    refine RK.D ?_
    refine AWp_region hP ?_
    refine RK.M rfl ?_
    refine RK.V (op_sub rfl rfl (by first | exact IntWalk.i64_in _ (by omega) | rfl)) ?_
    refine RK.As rfl ?_
    refine RK.D ?_
    refine ⟨(j - 1, Q + 2 ^ (j - 1), R - b * 2 ^ (j - 1)), ⟨by omega, hset.2.2, hD.yes hj0 hle⟩, by show j - 1 < j; omega, le_stL ⟨.refl _, .refl _, .refl _, .refl _, Sub.int (by omega), trivial⟩ ⟨rfl, congrArg (fun z => some (WB 52 z)) (by rw [dgs_length, wv_dgs _ _ hRa, wv_dgs _ _ hDl, half_pow hj0]), congrArg (fun z => some (WB 52 z)) hset.1, congrArg (fun z => some (WB 52 z)) (by rw [dgs_length, wv_dgs _ _ hDl, half_pow hj0]), trivial⟩⟩
   ·have hle := reach_no hRa hDl hb5
    rw [half_pow hj0] at hle
    refine AWp_skip ?_
    refine AWp_region hP ?_
    refine RK.V (op_move (rfl : _ = AV.vec _)) ?_
    refine RK.mut guard_none (Eff.call (rd := [73]) (r_half 73 (dgs (N / 32 + (wl b).length + 1) (b * 2 ^ j / 2)) (dgs_ok _ _) (by rw [dgs_length]; omega)) (own1 rfl) upd1_mem) ?_
    refine RK.D ?_
    refine AWp_region hP ?_
    refine RK.M rfl ?_
    refine RK.V (op_sub rfl rfl (by first | exact IntWalk.i64_in _ (by omega) | rfl)) ?_
    refine RK.As rfl ?_
    refine RK.D ?_
    refine ⟨(j - 1, Q, R), ⟨by omega, hQ, hD.no hj0 hle⟩, by show j - 1 < j; omega, le_stL ⟨.refl _, .refl _, .refl _, .refl _, Sub.int (by omega), trivial⟩ ⟨rfl, rfl, rfl, congrArg (fun z => some (WB 52 z)) (by rw [dgs_length, wv_dgs _ _ hDl, half_pow hj0]), trivial⟩⟩
  ·have hb4_ := of_decide_eq_false hb4
   have hj0 : j = 0 := by omega
   subst hj0
   have hfin := hD.done
   refine AWp_exit ?_
   refine AWp_freezeW (t := 9) rfl rfl ?_
   refine AWp_freezeW (t := 7) rfl rfl ?_
   refine AWp_sr hP ?_
   refine RK.M rfl ?_
   refine RK.M rfl ?_
   refine RK.V (op_build_st hT rfl rfl rfl (es := [_, _]) rfl) ?_
   refine RK.S hT rfl rfl rfl rfl rfl rfl rfl ?_
   refine RK.D ?_
   refine AWp_ret ?_
   refine ends_one rfl (.inr rfl) (res_cell_agg hT rfl rfl rfl rfl (cs := [_, _]) rfl rfl) ?_ O_ends
   exact div_full hsm hnn hN hfin
end Go.Proofs.YtfdjankalhfceaaGreat
end

section
/- reference: DivMod Div Mod Gcd Sqrt Made -/
namespace Go.Proofs.YtfdjankalhfceaaGreat
open Go Go.AM
theorem r_madeQ (neg : Bool) (a b : Nat) (hb : 0 < b) : Call0 Tryz.prog 13 [B neg, .p (.c (W (qL a b)))] (I (sg neg (a / b))) := by
 have h := r_made neg (qL a b) qL_ok
 rwa [qL_val hb] at h
theorem r_madeR (neg : Bool) (a b : Nat) : Call0 Tryz.prog 13 [B neg, .p (.c (W (rL a b)))] (I (sg neg (a % b))) := by
 have h := r_made neg (rL a b) rL_ok
 rwa [rL_val] at h
/- algorist/algoristref01.DivMod -/
set_option maxHeartbeats 1000000 in
set_option maxRecDepth 100000 in
theorem r_DivMod (x y : Int) (hx : L 44 x) (hy : L 44 y) (h0 : y ≠ 0) :
  Call0 Tryz.prog 82 [I x, I y] (.t [PI (x / y), PI (x % y), PE 0]) := by
 have hq : L 44 (sg (!(decide (x < 0) == decide (y < 0))) (x.natAbs / y.natAbs)) := L.of_le hx (by rw [sg_abs]; exact Nat.div_le_self _ _)
 have hr : L 44 (sg (decide (x < 0)) (x.natAbs % y.natAbs)) := L.of_le hx (by rw [sg_abs]; exact Nat.mod_le _ _)
 have iq : LB _ 44 := ⟨hq⟩
 have ir : LB _ 44 := ⟨hr⟩
 have iy : LB y 44 := ⟨hy⟩
 refine callM_of (np := 0) Tryz.func82 (by kernel_rfl) rfl rfl (Nat.le_of_ble_eq_true rfl) (fun m h => absurd rfl h) (fun m h => absurd rfl h) rfl ?_
 refine AWp_sr hP ?_
 refine RK.alc guard_none (op_box rfl rfl) ?_
 refine RK.alc guard_none (op_box rfl rfl) ?_
 refine RK.alc guard_none (op_alloc hT rfl rfl) ?_
 refine RK.alc guard_none (op_alloc hT rfl rfl) ?_
 refine RK.As rfl ?_
 refine RK.D ?_
 refine AWp_seq ?_
 refine AWp_sr hP ?_
 refine RK.F hT rfl rfl rfl rfl rfl rfl ?_
 refine RK.V (op_load_one hT rfl rfl rfl rfl (by first | rfl | exact vget (by omega))) ?_
 refine RK.V (op_len hT rfl rfl rfl rfl) ?_
 refine RK.V (op_eql rfl rfl) ?_
 refine RK.D ?_
 refine AWp_cond rfl (fun hb1 => ?_) (fun hb1 => ?_)
 ·have hb1_ := bT hb1
  exact absurd (wl_len_zero.1 hb1_) h0 --dead
 ·have hb1_ := bF hb1
  refine AWp_skip ?_
  refine AWp_sr hP ?_
  refine RK.F hT rfl rfl rfl rfl rfl rfl ?_
  refine RK.V (op_load_one hT rfl rfl rfl rfl (by first | rfl | exact vget (by omega))) ?_
  refine RK.F hT rfl rfl rfl rfl rfl rfl ?_
  refine RK.V (op_load_one hT rfl rfl rfl rfl (by first | rfl | exact vget (by omega))) ?_
  refine RK.V (Eff.call0 (r_divide x.natAbs y.natAbs (sz (hx.mono (by decide))) (sz (hy.mono (by decide))) (by omega))) ?_
  refine RK.alc guard_none (op_alloc hT rfl rfl) ?_
  refine RK.S hT rfl rfl rfl rfl rfl rfl rfl ?_
  refine RK.D ?_
  refine AWp_sr hP ?_
  refine RK.F hT rfl rfl rfl rfl rfl rfl ?_
  refine RK.V (op_load_one hT rfl rfl rfl rfl (by first | rfl | exact vget (by omega))) ?_
  refine RK.F hT rfl rfl rfl rfl rfl rfl ?_
  refine RK.V (op_load_one hT rfl rfl rfl rfl (by first | rfl | exact vget (by omega))) ?_
  refine RK.V (op_bne hT rfl rfl rfl rfl) ?_
  refine RK.F hT rfl rfl rfl rfl rfl rfl ?_
  refine RK.V (op_load_one hT rfl rfl rfl rfl (by first | rfl | exact vget (by omega))) ?_
  refine RK.V (Eff.call0 (r_madeQ _ _ _ (by omega))) ?_
  refine RK.alc guard_none (op_alloc hT rfl rfl) ?_
  refine RK.S hT rfl rfl rfl rfl rfl rfl rfl ?_
  refine RK.D ?_
  refine AWp_sr hP ?_
  refine RK.F hT rfl rfl rfl rfl rfl rfl ?_
  refine RK.V (op_load_one hT rfl rfl rfl rfl (by first | rfl | exact vget (by omega))) ?_
  refine RK.F hT rfl rfl rfl rfl rfl rfl ?_
  refine RK.V (op_load_one hT rfl rfl rfl rfl (by first | rfl | exact vget (by omega))) ?_
  refine RK.V (Eff.call0 (r_madeR _ _ _)) ?_
  refine RK.alc guard_none (op_alloc hT rfl rfl) ?_
  refine RK.S hT rfl rfl rfl rfl rfl rfl rfl ?_
  refine RK.D ?_
  refine AWp_seq ?_
  refine AWp_sr hP ?_
  refine RK.F hT rfl rfl rfl rfl rfl rfl ?_
  refine RK.V (op_load_one hT rfl rfl rfl rfl (by first | rfl | exact vget (by omega))) ?_
  refine RK.D ?_
  refine AWp_cond rfl (fun hb2 => ?_) (fun hb2 => ?_)
  ·have e1 := (divmod_neg h0 (of_decide_eq_true hb2)).1
   have e2 := (divmod_neg h0 (of_decide_eq_true hb2)).2
   refine AWp_sr hP ?_
   refine RK.G2 hT rfl rfl rfl rfl rfl rfl ?_
   refine RK.G2 hT rfl rfl rfl rfl rfl rfl ?_
   refine RK.V (Eff.call0 (r_Abs _)) ?_
   refine RK.V (Eff.call0 (r_Add _ _ lz lz)) ?_
   refine RK.S hT rfl rfl rfl rfl rfl rfl rfl ?_
   refine RK.D ?_
   refine AWp_sr hP ?_
   refine RK.F hT rfl rfl rfl rfl rfl rfl ?_
   refine RK.V (op_load_one hT rfl rfl rfl rfl (by first | rfl | exact vget (by omega))) ?_
   refine RK.D ?_
   refine AWp_cond rfl (fun hb3 => ?_) (fun hb3 => ?_)
   ·rw [sgn_neg hb3] at e1
    refine AWp_region hP ?_
    refine RK.G2 hT rfl rfl rfl rfl rfl rfl ?_
    refine RK.V (Eff.call0 (r_Of _ (by first | assumption | decide))) ?_
    refine RK.V (Eff.call0 (r_Add _ _ lz lz)) ?_
    refine RK.S hT rfl rfl rfl rfl rfl rfl rfl ?_
    refine RK.D ?_
    refine AWp_sr hP ?_
    refine RK.G2 hT rfl rfl rfl rfl rfl rfl ?_
    refine RK.G2 hT rfl rfl rfl rfl rfl rfl ?_
    refine RK.S hT rfl rfl rfl rfl rfl rfl rfl ?_
    refine RK.S hT rfl rfl rfl rfl rfl rfl rfl ?_
    refine RK.As rfl ?_
    refine RK.D ?_
    refine AWp_ret ?_
    refine ends_three rfl (.inr rfl) (res_cell_agg hT rfl rfl rfl rfl (cs := [_, _]) rfl rfl) (res_cell_agg hT rfl rfl rfl rfl (cs := [_, _]) rfl rfl) (res_tmp rfl) ?_ O_ends
    exact Sub.of_eq (by rw [← e1, e2]; rfl)
   ·rw [sgn_pos h0 hb3] at e1
    refine AWp_region hP ?_
    refine RK.G2 hT rfl rfl rfl rfl rfl rfl ?_
    refine RK.V (Eff.call0 (r_Of _ (by first | assumption | decide))) ?_
    refine RK.V (Eff.call0 (r_Sub _ _ lz lz)) ?_
    refine RK.S hT rfl rfl rfl rfl rfl rfl rfl ?_
    refine RK.D ?_
    refine AWp_sr hP ?_
    refine RK.G2 hT rfl rfl rfl rfl rfl rfl ?_
    refine RK.G2 hT rfl rfl rfl rfl rfl rfl ?_
    refine RK.S hT rfl rfl rfl rfl rfl rfl rfl ?_
    refine RK.S hT rfl rfl rfl rfl rfl rfl rfl ?_
    refine RK.As rfl ?_
    refine RK.D ?_
    refine AWp_ret ?_
    refine ends_three rfl (.inr rfl) (res_cell_agg hT rfl rfl rfl rfl (cs := [_, _]) rfl rfl) (res_cell_agg hT rfl rfl rfl rfl (cs := [_, _]) rfl rfl) (res_tmp rfl) ?_ O_ends
    exact Sub.of_eq (by rw [← e1, e2])
  ·have e1 := (divmod_pos h0 (of_decide_eq_false hb2)).1
   have e2 := (divmod_pos h0 (of_decide_eq_false hb2)).2
   refine AWp_skip ?_
   refine AWp_sr hP ?_
   refine RK.G2 hT rfl rfl rfl rfl rfl rfl ?_
   refine RK.G2 hT rfl rfl rfl rfl rfl rfl ?_
   refine RK.S hT rfl rfl rfl rfl rfl rfl rfl ?_
   refine RK.S hT rfl rfl rfl rfl rfl rfl rfl ?_
   refine RK.As rfl ?_
   refine RK.D ?_
   refine AWp_ret ?_
   refine ends_three rfl (.inr rfl) (res_cell_agg hT rfl rfl rfl rfl (cs := [_, _]) rfl rfl) (res_cell_agg hT rfl rfl rfl rfl (cs := [_, _]) rfl rfl) (res_tmp rfl) ?_ O_ends
   exact Sub.of_eq (by rw [e1, e2])
/- algorist/algoristref01.Div -/
set_option maxHeartbeats 1000000 in
set_option maxRecDepth 100000 in
theorem r_Div (x y : Int) (hx : L 44 x) (hy : L 44 y) (h0 : y ≠ 0) :
  Call0 Tryz.prog 126 [I x, I y] (I (x / y)) := by
 refine callM_of (np := 0) Tryz.func126 (by kernel_rfl) rfl rfl (Nat.le_of_ble_eq_true rfl) (fun m h => absurd rfl h) (fun m h => absurd rfl h) rfl ?_
 refine AWp_sr hP ?_
 refine RK.alc guard_none (op_box rfl rfl) ?_
 refine RK.alc guard_none (op_box rfl rfl) ?_
 refine RK.alc guard_none (op_alloc hT rfl rfl) ?_
 refine RK.D ?_
 refine AWp_sr hP ?_
 refine RK.G2 hT rfl rfl rfl rfl rfl rfl ?_
 refine RK.G2 hT rfl rfl rfl rfl rfl rfl ?_
 refine RK.V (Eff.call0 (r_DivMod x y hx hy h0)) ?_
 refine RK.V (op_move (rfl : _ = AV.t _)) ?_
 refine RK.V (op_extract rfl (v := .a _) rfl) ?_
 refine RK.V (op_extract rfl (v := .a _) rfl) ?_
 refine RK.V (op_extract rfl (v := .c _) rfl) ?_
 refine RK.alc guard_none (op_alloc hT rfl rfl) ?_
 refine RK.alc guard_none (op_alloc hT rfl rfl) ?_
 refine RK.S hT rfl rfl rfl rfl rfl rfl rfl ?_
 refine RK.S hT rfl rfl rfl rfl rfl rfl rfl ?_
 refine RK.As rfl ?_
 refine RK.D ?_
 refine AWp_sr hP ?_
 refine RK.G2 hT rfl rfl rfl rfl rfl rfl ?_
 refine RK.S hT rfl rfl rfl rfl rfl rfl rfl ?_
 refine RK.D ?_
 refine AWp_ret ?_
 refine ends_one rfl (.inr rfl) (res_cell_agg hT rfl rfl rfl rfl (cs := [_, _]) rfl rfl) ?_ O_ends
 exact .refl _
/- algorist/algoristref01.Mod -/
set_option maxHeartbeats 1000000 in
set_option maxRecDepth 100000 in
theorem r_Mod (x y : Int) (hx : L 44 x) (hy : L 44 y) (h0 : y ≠ 0) :
  Call0 Tryz.prog 48 [I x, I y] (I (x % y)) := by
 refine callM_of (np := 0) Tryz.func48 (by kernel_rfl) rfl rfl (Nat.le_of_ble_eq_true rfl) (fun m h => absurd rfl h) (fun m h => absurd rfl h) rfl ?_
 refine AWp_sr hP ?_
 refine RK.alc guard_none (op_box rfl rfl) ?_
 refine RK.alc guard_none (op_box rfl rfl) ?_
 refine RK.alc guard_none (op_alloc hT rfl rfl) ?_
 refine RK.D ?_
 refine AWp_sr hP ?_
 refine RK.G2 hT rfl rfl rfl rfl rfl rfl ?_
 refine RK.G2 hT rfl rfl rfl rfl rfl rfl ?_
 refine RK.V (Eff.call0 (r_DivMod x y hx hy h0)) ?_
 refine RK.V (op_move (rfl : _ = AV.t _)) ?_
 refine RK.V (op_extract rfl (v := .a _) rfl) ?_
 refine RK.V (op_extract rfl (v := .a _) rfl) ?_
 refine RK.V (op_extract rfl (v := .c _) rfl) ?_
 refine RK.alc guard_none (op_alloc hT rfl rfl) ?_
 refine RK.alc guard_none (op_alloc hT rfl rfl) ?_
 refine RK.S hT rfl rfl rfl rfl rfl rfl rfl ?_
 refine RK.S hT rfl rfl rfl rfl rfl rfl rfl ?_
 refine RK.As rfl ?_
 refine RK.D ?_
 refine AWp_sr hP ?_
 refine RK.G2 hT rfl rfl rfl rfl rfl rfl ?_
 refine RK.S hT rfl rfl rfl rfl rfl rfl rfl ?_
 refine RK.D ?_
 refine AWp_ret ?_
 refine ends_one rfl (.inr rfl) (res_cell_agg hT rfl rfl rfl rfl (cs := [_, _]) rfl rfl) ?_ O_ends
 exact .refl _
/- algorist/algoristref01.Sqrt -/
set_option maxHeartbeats 1000000 in
set_option maxRecDepth 100000 in
theorem r_Sqrt (x : Int) (hx : L 40 x) :
  Call0 Tryz.prog 83 [I x] (.t [PI (rootV x), PI (if x < 0 then 0 else x - rootV x * rootV x), PE (rootE x)]) := by
 have hbl := blen_L hx
 have ix : LB x 40 := ⟨hx⟩
 refine callM_of (np := 0) Tryz.func83 (by kernel_rfl) rfl rfl (Nat.le_of_ble_eq_true rfl) (fun m h => absurd rfl h) (fun m h => absurd rfl h) rfl ?_
 refine AWp_sr hP ?_
 refine RK.alc guard_none (op_box rfl rfl) ?_
 refine RK.alc guard_none (op_alloc hT rfl rfl) ?_
 refine RK.alc guard_none (op_alloc hT rfl rfl) ?_
 refine RK.As rfl ?_
 refine RK.D ?_
 refine AWp_seq ?_
 refine AWp_sr hP ?_
 refine RK.F hT rfl rfl rfl rfl rfl rfl ?_
 refine RK.V (op_load_one hT rfl rfl rfl rfl (by first | rfl | exact vget (by omega))) ?_
 refine RK.D ?_
 refine AWp_cond rfl (fun hb1 => ?_) (fun hb1 => ?_)
 ·have hx0 := of_decide_eq_true hb1
  refine AWp_sr hP ?_
  refine RK.V (op_build_st hT rfl rfl rfl (es := [_, _]) rfl) ?_
  refine RK.V (op_build_st hT rfl rfl rfl (es := [_, _]) rfl) ?_
  refine RK.S hT rfl rfl rfl rfl rfl rfl rfl ?_
  refine RK.S hT rfl rfl rfl rfl rfl rfl rfl ?_
  refine RK.As rfl ?_
  refine RK.D ?_
  refine AWp_ret ?_
  refine ends_three rfl (.inr rfl) (res_cell_agg hT rfl rfl rfl rfl (cs := [_, _]) rfl rfl) (res_cell_agg hT rfl rfl rfl rfl (cs := [_, _]) rfl rfl) (res_tmp rfl) ?_ O_ends
  exact Sub.of_eq (by rw [(root_neg hx0).1, (root_neg hx0).2, if_pos hx0])
 ·have hx0 := of_decide_eq_false hb1
  refine AWp_skip ?_
  refine AWp_seq ?_
  refine AWp_sr hP ?_
  refine RK.F hT rfl rfl rfl rfl rfl rfl ?_
  refine RK.V (op_load_one hT rfl rfl rfl rfl (by first | rfl | exact vget (by omega))) ?_
  refine RK.V (op_len hT rfl rfl rfl rfl) ?_
  refine RK.V (op_eql rfl rfl) ?_
  refine RK.D ?_
  refine AWp_cond rfl (fun hb2 => ?_) (fun hb2 => ?_)
  ·have hb2_ := bT hb2
   have hz := wl_len_zero.1 hb2_
   refine AWp_sr hP ?_
   refine RK.V (op_build_st hT rfl rfl rfl (es := [_, _]) rfl) ?_
   refine RK.V (op_build_st hT rfl rfl rfl (es := [_, _]) rfl) ?_
   refine RK.S hT rfl rfl rfl rfl rfl rfl rfl ?_
   refine RK.S hT rfl rfl rfl rfl rfl rfl rfl ?_
   refine RK.As rfl ?_
   refine RK.D ?_
   refine AWp_ret ?_
   refine ends_three rfl (.inr rfl) (res_cell_agg hT rfl rfl rfl rfl (cs := [_, _]) rfl rfl) (res_cell_agg hT rfl rfl rfl rfl (cs := [_, _]) rfl rfl) (res_tmp rfl) ?_ O_ends
   exact Sub.of_eq (by rw [hz]; rfl)
  ·have hb2_ := bF hb2
   have hx1 : 0 < x := by
    rcases Int.lt_trichotomy x 0 with e | e | e
    ·exact absurd e hx0
    ·exact absurd (wl_len_zero.2 e) hb2_
    ·exact e
   refine AWp_skip ?_
   refine AWp_sr hP ?_
   refine RK.V (op_bslice hT rfl rfl rfl (es := [_]) rfl rfl rfl) ?_
   refine RK.G2 hT rfl rfl rfl rfl rfl rfl ?_
   refine RK.V (Eff.call0 (r_Bits x lz)) ?_
   refine RK.V (op_add rfl rfl (c := ((blen x.natAbs + 1 : Nat) : Int)) (by rw [IntWalk.i64_in _ (by omega)]; omega)) ?_
   refine RK.V (op_quo rfl rfl (by decide) (c := (((blen x.natAbs + 1) / 2 : Nat) : Int)) (by rw [Int.tdiv_eq_ediv_of_nonneg (by omega), IntWalk.i64_in _ (by omega)]; omega)) ?_
   refine RK.V (Eff.call0 (r_left [1] ((blen x.natAbs + 1) / 2) okW_one (by decide) (by omega))) ?_
   refine RK.V (Eff.call0 (r_made _ _ (dgs_ok _ _))) ?_
   refine RK.alc guard_none (op_alloc hT rfl rfl) ?_
   refine RK.S hT rfl rfl rfl rfl rfl rfl rfl ?_
   refine RK.D ?_
   refine AWp_block ?_
   refine AWp_loop (ι := Int) (fun s => stL [(1, .loc 1 0), (2, .loc 2 0), (3, .loc 3 0), (5, .loc 5 0)] [(1, ⟨false, 1, 26, [zn (x), zm (x)]⟩), (2, ⟨false, 1, 26, [zn (0), zm (0)]⟩), (3, ⟨false, 1, 26, [zn (0), zm (0)]⟩), (5, ⟨false, 1, 26, [zn (s), zm (s)]⟩)]) (fun s => 0 < s ∧ rootV x ≤ s ∧ s ≤ 2 * x) (fun s => s.toNat) (2 ^ ((blen x.natAbs + 1) / 2) : Nat) ?_ (le_stL ⟨.refl _, .refl _, .refl _, .refl _, trivial⟩ ⟨rfl, rfl, rfl, ?_, trivial⟩) ?_
   ·exact root_start hx1
   ·exact congrArg (fun z => some (⟨false, 1, 26, [zn z, zm z]⟩ : Blk)) (show sg false (wv (dgs _ _)) = _ by rw [left_one]; rfl)
   intro s hs
   have is : LB s 41 := ⟨L.of_le (b := 2 * x) (lz (by rfl)) (by omega)⟩
   refine AWp_block ?_
   refine AWp_sr hP ?_
   refine RK.G2 hT rfl rfl rfl rfl rfl rfl ?_
   refine RK.G2 hT rfl rfl rfl rfl rfl rfl ?_
   refine RK.G2 hT rfl rfl rfl rfl rfl rfl ?_
   refine RK.V (Eff.call0 (r_Div x s lz lz (by omega))) ?_
   refine RK.V (Eff.call0 (r_Add _ _ lz lz)) ?_
   refine RK.V (Eff.call0 (r_Of _ (by first | assumption | decide))) ?_
   refine RK.V (Eff.call0 (r_Div _ 2 lz lz (by decide))) ?_
   refine RK.alc guard_none (op_alloc hT rfl rfl) ?_
   refine RK.S hT rfl rfl rfl rfl rfl rfl rfl ?_
   refine RK.D ?_
   refine AWp_seq ?_
   refine AWp_sr hP ?_
   refine RK.G2 hT rfl rfl rfl rfl rfl rfl ?_
   refine RK.G2 hT rfl rfl rfl rfl rfl rfl ?_
   refine RK.V (Eff.call0 (r_Cmp _ _)) ?_
   refine RK.V (op_geq rfl rfl) ?_
   refine RK.D ?_
   refine AWp_cond rfl (fun hb3 => ?_) (fun hb3 => ?_)
   ·have hb3_ := of_decide_eq_true hb3
    have hge := cmpI_nonneg hb3_
    refine AWp_sr hP ?_
    refine RK.G2 hT rfl rfl rfl rfl rfl rfl ?_
    refine RK.G2 hT rfl rfl rfl rfl rfl rfl ?_
    refine RK.G2 hT rfl rfl rfl rfl rfl rfl ?_
    refine RK.G2 hT rfl rfl rfl rfl rfl rfl ?_
    refine RK.V (Eff.call0 (r_Mul _ _ lz lz)) ?_
    refine RK.V (Eff.call0 (r_Sub _ _ lz lz)) ?_
    refine RK.S hT rfl rfl rfl rfl rfl rfl rfl ?_
    refine RK.S hT rfl rfl rfl rfl rfl rfl rfl ?_
    refine RK.As rfl ?_
    refine RK.D ?_
    refine AWp_ret ?_
    refine ends_three rfl (.inr rfl) (res_cell_agg hT rfl rfl rfl rfl (cs := [_, _]) rfl rfl) (res_cell_agg hT rfl rfl rfl rfl (cs := [_, _]) rfl rfl) (res_tmp rfl) ?_ O_ends
    have e := root_stop' hx1 hs.1 hs.2.1 hge
    exact Sub.of_eq (by rw [e, rootE_nn hx0, if_neg hx0])
   ·have hb3_ := of_decide_eq_false hb3
    have hge := cmpI_negative hb3_
    refine AWp_skip ?_
    refine AWp_region hP ?_
    refine RK.G2 hT rfl rfl rfl rfl rfl rfl ?_
    refine RK.S hT rfl rfl rfl rfl rfl rfl rfl ?_
    refine RK.D ?_
    refine ⟨(s + x / s) / 2, ⟨(root_step' hx1 hs.1).2, (root_step' hx1 hs.1).1, Int.le_trans (Int.le_of_lt hge) hs.2.2⟩, ?_, le_stL ⟨.refl _, .refl _, .refl _, .refl _, trivial⟩ ⟨rfl, rfl, rfl, rfl, trivial⟩⟩
    have h3 := (root_step' hx1 hs.1).2
    show ((s + x / s) / 2).toNat < s.toNat
    omega
end Go.Proofs.YtfdjankalhfceaaGreat
end

section
/- reference: forms -/
namespace Go.Proofs.YtfdjankalhfceaaGreat
open Go Go.AM
/- algorist/algoristref08.Square -/
set_option maxHeartbeats 6000000 in
set_option maxRecDepth 100000 in
theorem r8_Square (x : Int) (hx : L 40 x) :
  Call0 Tryz.prog 49 [I x] (B (isSq x)) := by
 have ix : LB x 40 := ⟨hx⟩
 refine callM_of (np := 0) Tryz.func49 (by kernel_rfl) rfl rfl (Nat.le_of_ble_eq_true rfl) (fun m h => absurd rfl h) (fun m h => absurd rfl h) rfl ?_
 refine AWp_sr hP ?_
 refine RK.alc guard_none (op_box rfl rfl) ?_
 refine RK.As rfl ?_
 refine RK.D ?_
 refine AWp_seq ?_
 refine AWp_sr hP ?_
 refine RK.G2 hT rfl rfl rfl rfl rfl rfl ?_
 refine RK.V (Eff.call0 (r_Sign _)) ?_
 refine RK.V (op_lss rfl rfl) ?_
 refine RK.D ?_
 refine AWp_cond rfl (fun hb1 => ?_) (fun hb1 => ?_)
 ·have hb1_ := of_decide_eq_true hb1
  refine AWp_sr hP ?_
  refine RK.As rfl ?_
  refine RK.D ?_
  refine AWp_ret ?_
  refine ends_one rfl (.inr rfl) (res_tmp rfl) ?_ O_ends
  exact Sub.bool (r_isSq_neg hb1_)
 ·have hb1_ := of_decide_eq_false hb1
  refine AWp_skip ?_
  refine AWp_sr hP ?_
  refine RK.G2 hT rfl rfl rfl rfl rfl rfl ?_
  refine RK.V (Eff.call0 (r_Sqrt _ lz)) ?_
  refine RK.V (op_move (rfl : _ = AV.t _)) ?_
  refine RK.V (op_extract rfl (v := .a _) rfl) ?_
  refine RK.V (op_extract rfl (v := .a _) rfl) ?_
  refine RK.V (op_extract rfl (v := .c _) rfl) ?_
  refine RK.alc guard_none (op_alloc hT rfl rfl) ?_
  refine RK.alc guard_none (op_alloc hT rfl rfl) ?_
  refine RK.S hT rfl rfl rfl rfl rfl rfl rfl ?_
  refine RK.S hT rfl rfl rfl rfl rfl rfl rfl ?_
  refine RK.As rfl ?_
  refine RK.D ?_
  refine AWp_sr hP ?_
  refine RK.G2 hT rfl rfl rfl rfl rfl rfl ?_
  refine RK.V (Eff.call0 (r_Sign _)) ?_
  refine RK.V (op_eql rfl rfl) ?_
  refine RK.As rfl ?_
  refine RK.D ?_
  refine AWp_ret ?_
  refine ends_one rfl (.inr rfl) (res_tmp rfl) ?_ O_ends
  exact Sub.bool (r_isSq hb1_)
end Go.Proofs.YtfdjankalhfceaaGreat
end

section
/- cycle: number twice modulo known Reduced -/
namespace Go.Proofs.YtfdjankalhfceaaGreat
open Go Go.AM
/- algorist/cycle.number -/
set_option maxHeartbeats 1000000 in
set_option maxRecDepth 100000 in
theorem cy_number (z : Int) (hz : InI64 z) :
  Call0 Tryz.prog 138 [.p (.c (.v (.int .i64 z)))] (I z) := by
 refine callM_of (np := 0) Tryz.func138 (by kernel_rfl) rfl rfl (Nat.le_of_ble_eq_true rfl) (fun m h => absurd rfl h) (fun m h => absurd rfl h) rfl ?_
 refine AWp_sr hP ?_
 refine RK.alc guard_none (op_alloc hT rfl rfl) ?_
 refine RK.D ?_
 refine AWp_sr hP ?_
 refine RK.M rfl ?_
 refine RK.V (Eff.call0 (int_Of z hz)) ?_
 refine RK.S hT rfl rfl rfl rfl rfl rfl rfl ?_
 refine RK.D ?_
 refine AWp_ret ?_
 refine ends_one rfl (.inr rfl) (res_cell_agg hT rfl rfl rfl rfl (cs := [_, _]) rfl rfl) ?_ O_ends
 exact .refl _
/- algorist/cycle.twice -/
set_option maxHeartbeats 1000000 in
set_option maxRecDepth 100000 in
theorem cy_twice (z : Int) (hz : L 40 z) :
  Call0 Tryz.prog 140 [I z] (I (2 * (z.natAbs : Int))) := by
 have iz : LB z 40 := ⟨hz⟩
 have iz2 : LB (z.natAbs : Int) 40 := ⟨L_abs hz⟩
 refine callM_of (np := 0) Tryz.func140 (by kernel_rfl) rfl rfl (Nat.le_of_ble_eq_true rfl) (fun m h => absurd rfl h) (fun m h => absurd rfl h) rfl ?_
 refine AWp_sr hP ?_
 refine RK.alc guard_none (op_box rfl rfl) ?_
 refine RK.alc guard_none (op_alloc hT rfl rfl) ?_
 refine RK.D ?_
 refine AWp_sr hP ?_
 refine RK.V (Eff.call0 (cy_number _ (by first | assumption | decide))) ?_
 refine RK.G2 hT rfl rfl rfl rfl rfl rfl ?_
 refine RK.V (Eff.call0 (int_Abs _)) ?_
 refine RK.V (Eff.call0 (int_Mul _ _ lz lz)) ?_
 refine RK.S hT rfl rfl rfl rfl rfl rfl rfl ?_
 refine RK.D ?_
 refine AWp_ret ?_
 refine ends_one rfl (.inr rfl) (res_cell_agg hT rfl rfl rfl rfl (cs := [_, _]) rfl rfl) ?_ O_ends
 exact .refl _
/- algorist/cycle.modulo -/
set_option maxHeartbeats 1000000 in
set_option maxRecDepth 100000 in
theorem cy_modulo (x y : Int) (hx : L 44 x) (hy : L 44 y) (h0 : y ≠ 0) :
  Call0 Tryz.prog 141 [I x, I y] (I (x % y)) := by
 refine callM_of (np := 0) Tryz.func141 (by kernel_rfl) rfl rfl (Nat.le_of_ble_eq_true rfl) (fun m h => absurd rfl h) (fun m h => absurd rfl h) rfl ?_
 refine AWp_sr hP ?_
 refine RK.alc guard_none (op_box rfl rfl) ?_
 refine RK.alc guard_none (op_box rfl rfl) ?_
 refine RK.alc guard_none (op_alloc hT rfl rfl) ?_
 refine RK.D ?_
 refine AWp_sr hP ?_
 refine RK.G2 hT rfl rfl rfl rfl rfl rfl ?_
 refine RK.G2 hT rfl rfl rfl rfl rfl rfl ?_
 refine RK.V (Eff.call0 (int_DivMod x y hx hy h0)) ?_
 refine RK.V (op_move (rfl : _ = AV.t _)) ?_
 refine RK.V (op_extract rfl (v := .a _) rfl) ?_
 refine RK.V (op_extract rfl (v := .a _) rfl) ?_
 refine RK.V (op_extract rfl (v := .c _) rfl) ?_
 refine RK.alc guard_none (op_alloc hT rfl rfl) ?_
 refine RK.alc guard_none (op_alloc hT rfl rfl) ?_
 refine RK.S hT rfl rfl rfl rfl rfl rfl rfl ?_
 refine RK.S hT rfl rfl rfl rfl rfl rfl rfl ?_
 refine RK.As rfl ?_
 refine RK.D ?_
 refine AWp_sr hP ?_
 refine RK.G2 hT rfl rfl rfl rfl rfl rfl ?_
 refine RK.S hT rfl rfl rfl rfl rfl rfl rfl ?_
 refine RK.D ?_
 refine AWp_ret ?_
 refine ends_one rfl (.inr rfl) (res_cell_agg hT rfl rfl rfl rfl (cs := [_, _]) rfl rfl) ?_ O_ends
 exact .refl _
/- algorist/cycle.known -/
set_option maxHeartbeats 1000000 in
set_option maxRecDepth 100000 in
theorem cy_known (d : Int) (hd : DOK d) :
  Call0 Tryz.prog 113 [I d] (.t [PI (rootV d), PE 0]) := by
 have hi : LB d 6 := ⟨hd.L6⟩
 have hlo := hd.lo
 have cSq : Call0 Tryz.prog 60 [I d] (.t [PI (rootV d), PI (d - rootV d * rootV d), PE 0]) := by
  have h := int_Sqrt d lz
  rwa [if_neg (show ¬ d < 0 by omega), rootE_nn (show ¬ d < 0 by omega)] at h
 obtain ⟨s, hs⟩ : ∃ s, s = rootV d := ⟨_, rfl⟩
 have hsg := kn_sg hd
 rw [← hs] at cSq hsg ⊢
 obtain ⟨q, hq⟩ : ∃ q, q = d - s * s := ⟨_, rfl⟩
 rw [← hq] at cSq hsg
 refine callM_of (np := 0) Tryz.func113 (by kernel_rfl) rfl rfl (Nat.le_of_ble_eq_true rfl) (fun m h => absurd rfl h) (fun m h => absurd rfl h) rfl ?_
 refine AWp_sr hP ?_
 refine RK.alc guard_none (op_box rfl rfl) ?_
 refine RK.alc guard_none (op_alloc hT rfl rfl) ?_
 refine RK.As rfl ?_
 refine RK.D ?_
 refine AWp_sr hP ?_
 refine RK.G2 hT rfl rfl rfl rfl rfl rfl ?_
 refine RK.V (Eff.call0 (cy_number _ (by first | assumption | decide))) ?_
 refine RK.V (Eff.call0 (int_DivMod d 4 lz lz (by decide))) ?_
 refine RK.V (op_move (rfl : _ = AV.t _)) ?_
 refine RK.V (op_extract rfl (v := .a _) rfl) ?_
 refine RK.V (op_extract rfl (v := .a _) rfl) ?_
 refine RK.V (op_extract rfl (v := .c _) rfl) ?_
 refine RK.alc guard_none (op_alloc hT rfl rfl) ?_
 refine RK.alc guard_none (op_alloc hT rfl rfl) ?_
 refine RK.S hT rfl rfl rfl rfl rfl rfl rfl ?_
 refine RK.S hT rfl rfl rfl rfl rfl rfl rfl ?_
 refine RK.As rfl ?_
 refine RK.D ?_
 refine AWp_sr hP ?_
 refine RK.G2 hT rfl rfl rfl rfl rfl rfl ?_
 refine RK.V (Eff.call0 cSq) ?_
 refine RK.V (op_move (rfl : _ = AV.t _)) ?_
 refine RK.V (op_extract rfl (v := .a _) rfl) ?_
 refine RK.V (op_extract rfl (v := .a _) rfl) ?_
 refine RK.V (op_extract rfl (v := .c _) rfl) ?_
 refine RK.alc guard_none (op_alloc hT rfl rfl) ?_
 refine RK.alc guard_none (op_alloc hT rfl rfl) ?_
 refine RK.S hT rfl rfl rfl rfl rfl rfl rfl ?_
 refine RK.S hT rfl rfl rfl rfl rfl rfl rfl ?_
 refine RK.As rfl ?_
 refine RK.D ?_
 refine AWp_seq ?_
 refine AWp_block ?_
 refine AWp_sr hP ?_
 refine RK.M rfl ?_
 refine RK.V (op_neq rfl rfl) ?_
 refine RK.M rfl ?_
 refine RK.val (guard_yes rfl rfl rfl) (op_load_agg hT rfl rfl rfl rfl (cs := [_, _]) rfl rfl) ?_
 refine RK.val (guard_yes rfl rfl rfl) (Eff.call0 (int_Sign _)) ?_
 refine RK.val (guard_yes rfl rfl rfl) (op_eql rfl rfl) ?_
 refine RK.V (op_pick_f rfl rfl (rfl : _ = AV.p (.c _))) ?_
 refine RK.M rfl ?_
 refine RK.val (guard_yes rfl rfl hsg) (op_load_agg hT rfl rfl rfl rfl (cs := [_, _]) rfl rfl) ?_
 refine RK.val (guard_yes rfl rfl hsg) (Eff.call0 (cy_number _ (by first | assumption | decide))) ?_
 refine RK.val (guard_yes rfl rfl hsg) (Eff.call0 (int_Cmp _ _)) ?_
 refine RK.val (guard_yes rfl rfl hsg) (op_gtr rfl rfl) ?_
 refine RK.V (op_pick_f rfl hsg (rfl : _ = AV.p (.c _))) ?_
 refine RK.As rfl ?_
 refine RK.D ?_
 refine AWp_cond_false rfl (kn_m4 hd) ?_
 refine AWp_sr hP ?_
 refine RK.G2 hT rfl rfl rfl rfl rfl rfl ?_
 refine RK.V (Eff.call0 (cy_number _ (by first | assumption | decide))) ?_
 refine RK.V (Eff.call0 (int_Cmp _ _)) ?_
 refine RK.V (op_gtr rfl rfl) ?_
 refine RK.As rfl ?_
 refine RK.D ?_
 refine AWp_cond_false rfl (kn_hi hd) ?_
 refine AWp_skip ?_
 refine AWp_sr hP ?_
 refine RK.G2 hT rfl rfl rfl rfl rfl rfl ?_
 refine RK.S hT rfl rfl rfl rfl rfl rfl rfl ?_
 refine RK.As rfl ?_
 refine RK.D ?_
 refine AWp_ret ?_
 refine ends_two rfl (.inr rfl) (res_cell_agg hT rfl rfl rfl rfl (cs := [_, _]) rfl rfl) (res_tmp rfl) ?_ O_ends
 exact .refl _
/- algorist/cycle.Reduced -/
set_option maxHeartbeats 1000000 in
set_option maxRecDepth 100000 in
theorem cy_Reduced (d : Int) (f : Fm) (hd : DOK d) (hf : f.disc = d) (hx : OKF f) :
  Call0 Tryz.prog 115 [FA f.a f.b f.c] (B (rdI (rootV d) f)) := by
 have hi : LB f.a 6 := ⟨okS_L hx.a⟩
 have hib : LB f.b 6 := ⟨okS_L hx.b⟩
 have hic : LB f.c 6 := ⟨okS_L hx.c⟩
 have cD : Call0 Tryz.prog 99 [FA f.a f.b f.c] (I d) := by rw [← hf]; exact q_Disc _ _ _ lz lz lz
 have hrt := hd.rt
 have irt : LB (rootV d) 6 := ⟨rt_L hd⟩
 obtain ⟨s, hs⟩ : ∃ s, s = rootV d := ⟨_, rfl⟩
 have cK := cy_known d hd
 rw [← hs] at irt cK ⊢
 have ia2 : LB (f.a.natAbs : Int) 6 := ⟨L_abs (okS_L hx.a)⟩
 refine callM_of (np := 0) Tryz.func115 (by kernel_rfl) rfl rfl (Nat.le_of_ble_eq_true rfl) (fun m h => absurd rfl h) (fun m h => absurd rfl h) rfl ?_
 refine AWp_sr hP ?_
 refine RK.alc guard_none (op_box rfl rfl) ?_
 refine RK.As rfl ?_
 refine RK.D ?_
 refine AWp_sr hP ?_
 refine RK.G6 hT rfl rfl rfl rfl rfl rfl ?_
 refine RK.V (Eff.call0 cD) ?_
 refine RK.V (Eff.call0 cK) ?_
 refine RK.V (op_move (rfl : _ = AV.t _)) ?_
 refine RK.V (op_extract rfl (v := .a _) rfl) ?_
 refine RK.V (op_extract rfl (v := .c _) rfl) ?_
 refine RK.alc guard_none (op_alloc hT rfl rfl) ?_
 refine RK.S hT rfl rfl rfl rfl rfl rfl rfl ?_
 refine RK.As rfl ?_
 refine RK.D ?_
 refine AWp_seq ?_
 refine AWp_sr hP ?_
 refine RK.M rfl ?_
 refine RK.V (op_neq rfl rfl) ?_
 refine RK.M rfl ?_
 refine RK.val (guard_yes rfl rfl rfl) (op_field_loc hT rfl rfl rfl rfl rfl rfl) ?_
 refine RK.val (guard_yes rfl rfl rfl) (op_load_agg hT rfl rfl rfl rfl (cs := [_, _]) rfl rfl) ?_
 refine RK.val (guard_yes rfl rfl rfl) (Eff.call0 (int_Sign _)) ?_
 refine RK.val (guard_yes rfl rfl rfl) (op_leq rfl rfl) ?_
 refine RK.V (op_pick_f rfl rfl (rfl : _ = AV.p (.c _))) ?_
 refine RK.M rfl ?_
 refine RK.split (t := 20) rfl (fun hg2 => ?_) (fun hg2 => ?_)
 ·have hg2_ := of_decide_eq_true hg2
  have h1 := sgn_le_iff.1 (of_decide_eq_true hg2)
  refine RK.skip (guard_no rfl rfl hg2) ?_
  refine RK.skip (guard_no rfl rfl hg2) ?_
  refine RK.skip (guard_no rfl rfl hg2) ?_
  refine RK.skip (guard_no rfl rfl hg2) ?_
  refine RK.skip (guard_no rfl rfl hg2) ?_
  refine RK.V (op_pick_t rfl hg2 (rfl : _ = AV.p (.c _))) ?_
  refine RK.D ?_
  refine AWp_cond_true rfl rfl ?_
  refine AWp_sr hP ?_
  refine RK.As rfl ?_
  refine RK.D ?_
  refine AWp_ret ?_
  refine ends_one rfl (.inr rfl) (res_tmp rfl) ?_ O_ends
  first | exact Sub.bool (rdI_no fun q => by omega) | exact Sub.bool (rdI_no fun q => h3 q.2.2.1) | exact Sub.bool (rdI_dec h1 h2 h3) | exact Sub.bool (rdI_no fun q => by have := cmpI_gt_zero.1 (of_decide_eq_true hb1); omega) | exact Sub.bool (rdI_no fun q => by have := cmpI_gt_zero.1 (of_decide_eq_true hb2); omega) | exact Sub.bool (rdI_no fun q => by have := cmpI_gt_zero.1 (of_decide_eq_true hb3); omega)
 ·have hg2_ := of_decide_eq_false hg2
  have h1 : 0 < f.b := by have h := of_decide_eq_false hg2; rw [sgn_le_iff] at h; omega
  refine RK.val (guard_yes rfl rfl hg2) (op_field_loc hT rfl rfl rfl rfl rfl rfl) ?_
  refine RK.val (guard_yes rfl rfl hg2) (op_load_agg hT rfl rfl rfl rfl (cs := [_, _]) rfl rfl) ?_
  refine RK.val (guard_yes rfl rfl hg2) (op_load_agg hT rfl rfl rfl rfl (cs := [_, _]) rfl rfl) ?_
  refine RK.val (guard_yes rfl rfl hg2) (Eff.call0 (int_Cmp _ _)) ?_
  refine RK.val (guard_yes rfl rfl hg2) (op_gtr rfl rfl) ?_
  refine RK.V (op_pick_f rfl hg2 (rfl : _ = AV.p (.c _))) ?_
  refine RK.D ?_
  refine AWp_cond rfl (fun hb3 => ?_) (fun hb3 => ?_)
  ·have hb3_ := of_decide_eq_true hb3
   refine AWp_sr hP ?_
   refine RK.As rfl ?_
   refine RK.D ?_
   refine AWp_ret ?_
   refine ends_one rfl (.inr rfl) (res_tmp rfl) ?_ O_ends
   first | exact Sub.bool (rdI_no fun q => by omega) | exact Sub.bool (rdI_no fun q => h3 q.2.2.1) | exact Sub.bool (rdI_dec h1 h2 h3) | exact Sub.bool (rdI_no fun q => by have := cmpI_gt_zero.1 (of_decide_eq_true hb1); omega) | exact Sub.bool (rdI_no fun q => by have := cmpI_gt_zero.1 (of_decide_eq_true hb2); omega) | exact Sub.bool (rdI_no fun q => by have := cmpI_gt_zero.1 (of_decide_eq_true hb3); omega)
  ·have hb3_ := of_decide_eq_false hb3
   have h2 : f.b ≤ s := Int.not_lt.1 fun z => (of_decide_eq_false hb3) (cmpI_gt_zero.2 z)
   refine AWp_skip ?_
   refine AWp_sr hP ?_
   refine RK.F hT rfl rfl rfl rfl rfl rfl ?_
   refine RK.G2 hT rfl rfl rfl rfl rfl rfl ?_
   refine RK.V (Eff.call0 (cy_twice f.a lz)) ?_
   refine RK.alc guard_none (op_alloc hT rfl rfl) ?_
   refine RK.S hT rfl rfl rfl rfl rfl rfl rfl ?_
   refine RK.D ?_
   refine AWp_sr hP ?_
   refine RK.G2 hT rfl rfl rfl rfl rfl rfl ?_
   refine RK.F hT rfl rfl rfl rfl rfl rfl ?_
   refine RK.G2 hT rfl rfl rfl rfl rfl rfl ?_
   refine RK.V (Eff.call0 (int_Add _ _ lz lz)) ?_
   refine RK.G2 hT rfl rfl rfl rfl rfl rfl ?_
   refine RK.V (Eff.call0 (int_Cmp _ _)) ?_
   refine RK.V (op_gtr rfl rfl) ?_
   refine RK.M rfl ?_
   refine RK.split (t := 37) rfl (fun hg4 => ?_) (fun hg4 => ?_)
   ·have hg4_ := of_decide_eq_true hg4
    have h3 := cmpI_gt_zero.1 (of_decide_eq_true hg4)
    refine RK.val (guard_yes rfl rfl hg4) (op_load_agg hT rfl rfl rfl rfl (cs := [_, _]) rfl rfl) ?_
    refine RK.val (guard_yes rfl rfl hg4) (op_field_loc hT rfl rfl rfl rfl rfl rfl) ?_
    refine RK.val (guard_yes rfl rfl hg4) (op_load_agg hT rfl rfl rfl rfl (cs := [_, _]) rfl rfl) ?_
    refine RK.val (guard_yes rfl rfl hg4) (Eff.call0 (int_Sub _ _ lz lz)) ?_
    refine RK.val (guard_yes rfl rfl hg4) (op_load_agg hT rfl rfl rfl rfl (cs := [_, _]) rfl rfl) ?_
    refine RK.val (guard_yes rfl rfl hg4) (Eff.call0 (int_Cmp _ _)) ?_
    refine RK.val (guard_yes rfl rfl hg4) (op_leq rfl rfl) ?_
    refine RK.V (op_pick_t rfl hg4 (rfl : _ = AV.p (.c _))) ?_
    refine RK.As rfl ?_
    refine RK.D ?_
    refine AWp_ret ?_
    refine ends_one rfl (.inr rfl) (res_tmp rfl) ?_ O_ends
    first | exact Sub.bool (rdI_no fun q => by omega) | exact Sub.bool (rdI_no fun q => h3 q.2.2.1) | exact Sub.bool (rdI_dec h1 h2 h3) | exact Sub.bool (rdI_no fun q => by have := cmpI_gt_zero.1 (of_decide_eq_true hb1); omega) | exact Sub.bool (rdI_no fun q => by have := cmpI_gt_zero.1 (of_decide_eq_true hb2); omega) | exact Sub.bool (rdI_no fun q => by have := cmpI_gt_zero.1 (of_decide_eq_true hb3); omega)
   ·have hg4_ := of_decide_eq_false hg4
    have h3 := fun z => of_decide_eq_false hg4 (cmpI_gt_zero.2 z)
    refine RK.skip (guard_no rfl rfl hg4) ?_
    refine RK.skip (guard_no rfl rfl hg4) ?_
    refine RK.skip (guard_no rfl rfl hg4) ?_
    refine RK.skip (guard_no rfl rfl hg4) ?_
    refine RK.skip (guard_no rfl rfl hg4) ?_
    refine RK.skip (guard_no rfl rfl hg4) ?_
    refine RK.skip (guard_no rfl rfl hg4) ?_
    refine RK.V (op_pick_f rfl hg4 (rfl : _ = AV.p (.c _))) ?_
    refine RK.As rfl ?_
    refine RK.D ?_
    refine AWp_ret ?_
    refine ends_one rfl (.inr rfl) (res_tmp rfl) ?_ O_ends
    first | exact Sub.bool (rdI_no fun q => by omega) | exact Sub.bool (rdI_no fun q => h3 q.2.2.1) | exact Sub.bool (rdI_dec h1 h2 h3) | exact Sub.bool (rdI_no fun q => by have := cmpI_gt_zero.1 (of_decide_eq_true hb1); omega) | exact Sub.bool (rdI_no fun q => by have := cmpI_gt_zero.1 (of_decide_eq_true hb2); omega) | exact Sub.bool (rdI_no fun q => by have := cmpI_gt_zero.1 (of_decide_eq_true hb3); omega)
end Go.Proofs.YtfdjankalhfceaaGreat
end

section
/- cycle: step Rho neighbors -/
namespace Go.Proofs.YtfdjankalhfceaaGreat
open Go Go.AM
/- algorist/cycle.step -/
set_option maxHeartbeats 2000000 in
set_option maxRecDepth 100000 in
theorem cy_step (d : Int) (f : Fm) (hd : DOK d) (hf : f.disc = d) (hx : OKF f) :
  Call0 Tryz.prog 116 [FA f.a f.b f.c, I (rootV d)] (.p (PM (stpM (rootV d) f))) := by
 have hi : LB f.a 6 := ⟨okS_L hx.a⟩
 have hib : LB f.b 6 := ⟨okS_L hx.b⟩
 have hic : LB f.c 6 := ⟨okS_L hx.c⟩
 have hrt := hd.rt
 have hac := sq_ac (f := f) (by rw [hf]; exact hd.sq)
 have hc0 := hac.2
 have irt : LB (rootV d) 6 := ⟨rt_L hd⟩
 have cD : Call0 Tryz.prog 99 [FA f.a f.b f.c] (I d) := by rw [← hf]; exact q_Disc _ _ _ lz lz lz
 have cK := cy_known d hd
 have hsL : LB (stK (rootV d) f) 6 := ⟨stK_L (by omega) hx hc0⟩
 obtain ⟨s, hs⟩ : ∃ s, s = rootV d := ⟨_, rfl⟩
 rw [← hs] at hrt irt cK hsL ⊢
 refine callM_of (np := 0) Tryz.func116 (by kernel_rfl) rfl rfl (Nat.le_of_ble_eq_true rfl) (fun m h => absurd rfl h) (fun m h => absurd rfl h) rfl ?_
 refine AWp_sr hP ?_
 refine RK.alc guard_none (op_box rfl rfl) ?_
 refine RK.alc guard_none (op_box rfl rfl) ?_
 refine RK.alc guard_none (op_alloc hT rfl rfl) ?_
 refine RK.D ?_
 refine AWp_sr hP ?_
 refine RK.F hT rfl rfl rfl rfl rfl rfl ?_
 refine RK.G2 hT rfl rfl rfl rfl rfl rfl ?_
 refine RK.V (Eff.call0 (cy_twice f.c lz)) ?_
 refine RK.alc guard_none (op_alloc hT rfl rfl) ?_
 refine RK.S hT rfl rfl rfl rfl rfl rfl rfl ?_
 refine RK.D ?_
 refine AWp_sr hP ?_
 refine RK.G2 hT rfl rfl rfl rfl rfl rfl ?_
 refine RK.G2 hT rfl rfl rfl rfl rfl rfl ?_
 refine RK.F hT rfl rfl rfl rfl rfl rfl ?_
 refine RK.G2 hT rfl rfl rfl rfl rfl rfl ?_
 refine RK.V (Eff.call0 (int_Add _ _ lz lz)) ?_
 refine RK.G2 hT rfl rfl rfl rfl rfl rfl ?_
 refine RK.V (Eff.call0 (cy_modulo _ _ lz lz (by omega))) ?_
 refine RK.V (Eff.call0 (int_Sub _ _ lz lz)) ?_
 refine RK.alc guard_none (op_alloc hT rfl rfl) ?_
 refine RK.S hT rfl rfl rfl rfl rfl rfl rfl ?_
 refine RK.D ?_
 refine AWp_seq ?_
 refine AWp_sr hP ?_
 refine RK.F hT rfl rfl rfl rfl rfl rfl ?_
 refine RK.G2 hT rfl rfl rfl rfl rfl rfl ?_
 refine RK.V (Eff.call0 (int_Abs _)) ?_
 refine RK.G2 hT rfl rfl rfl rfl rfl rfl ?_
 refine RK.V (Eff.call0 (int_Cmp _ _)) ?_
 refine RK.V (op_gtr rfl rfl) ?_
 refine RK.D ?_
 refine AWp_cond rfl (fun hb1 => ?_) (fun hb1 => ?_)
 ·have hb1_ := of_decide_eq_true hb1
  have h1 := cmpI_gt_zero.1 (of_decide_eq_true hb1)
  refine AWp_sr hP ?_
  refine RK.F hT rfl rfl rfl rfl rfl rfl ?_
  refine RK.G2 hT rfl rfl rfl rfl rfl rfl ?_
  refine RK.V (Eff.call0 (int_Neg _)) ?_
  refine RK.G2 hT rfl rfl rfl rfl rfl rfl ?_
  refine RK.V (Eff.call0 (cy_modulo _ _ lz lz (by omega))) ?_
  refine RK.S hT rfl rfl rfl rfl rfl rfl rfl ?_
  refine RK.D ?_
  refine AWp_sr hP ?_
  refine RK.G2 hT rfl rfl rfl rfl rfl rfl ?_
  refine RK.F hT rfl rfl rfl rfl rfl rfl ?_
  refine RK.G2 hT rfl rfl rfl rfl rfl rfl ?_
  refine RK.V (Eff.call0 (int_Abs _)) ?_
  refine RK.V (Eff.call0 (int_Cmp _ _)) ?_
  refine RK.V (op_gtr rfl rfl) ?_
  refine RK.D ?_
  refine AWp_cond rfl (fun hb2 => ?_) (fun hb2 => ?_)
  ·have hb2_ := of_decide_eq_true hb2
   have hR := stR_2 (s := s) (f := f) h1 (cmpI_gt_zero.1 (of_decide_eq_true hb2))
   refine AWp_region hP ?_
   refine RK.G2 hT rfl rfl rfl rfl rfl rfl ?_
   refine RK.G2 hT rfl rfl rfl rfl rfl rfl ?_
   refine RK.V (Eff.call0 (int_Sub _ _ lz lz)) ?_
   refine RK.S hT rfl rfl rfl rfl rfl rfl rfl ?_
   refine RK.D ?_
   refine AWp_sr hP ?_
   refine RK.G2 hT rfl rfl rfl rfl rfl rfl ?_
   refine RK.F hT rfl rfl rfl rfl rfl rfl ?_
   refine RK.G2 hT rfl rfl rfl rfl rfl rfl ?_
   refine RK.V (Eff.call0 (int_Add _ _ lz lz)) ?_
   refine RK.V (Eff.call0 (cy_number _ (by first | assumption | decide))) ?_
   refine RK.F hT rfl rfl rfl rfl rfl rfl ?_
   refine RK.G2 hT rfl rfl rfl rfl rfl rfl ?_
   refine RK.V (Eff.call0 (int_Mul _ _ lz lz)) ?_
   refine RK.V (Eff.call0 (int_DivMod _ (2 * f.c) lz lz (by omega))) ?_
   refine RK.V (op_move (rfl : _ = AV.t _)) ?_
   refine RK.V (op_extract rfl (v := .a _) rfl) ?_
   refine RK.V (op_extract rfl (v := .a _) rfl) ?_
   refine RK.V (op_extract rfl (v := .c _) rfl) ?_
   refine RK.alc guard_none (op_alloc hT rfl rfl) ?_
   refine RK.alc guard_none (op_alloc hT rfl rfl) ?_
   refine RK.S hT rfl rfl rfl rfl rfl rfl rfl ?_
   refine RK.S hT rfl rfl rfl rfl rfl rfl rfl ?_
   refine RK.As rfl ?_
   refine RK.D ?_
   refine AWp_sr hP ?_
   refine RK.V (Eff.call0 (cy_number _ (by first | assumption | decide))) ?_
   refine RK.V (Eff.call0 (cy_number _ (by first | assumption | decide))) ?_
   refine RK.V (Eff.call0 (cy_number _ (by first | assumption | decide))) ?_
   refine RK.G2 hT rfl rfl rfl rfl rfl rfl ?_
   refine RK.V (op_build_st hT rfl rfl rfl (es := [_, _, _, _, _, _, _, _]) rfl) ?_
   refine RK.S hT rfl rfl rfl rfl rfl rfl rfl ?_
   refine RK.D ?_
   refine AWp_ret ?_
   refine ends_one rfl (.inr rfl) (res_cell_agg hT rfl rfl rfl rfl (cs := [_, _, _, _, _, _, _, _]) rfl rfl) ?_ O_ends
   exact Sub.of_eq (by unfold stpM stK; rw [← hR])
  ·have hb2_ := of_decide_eq_false hb2
   have hR := stR_3 (s := s) (f := f) h1 (fun z => of_decide_eq_false hb2 (cmpI_gt_zero.2 z))
   refine AWp_skip ?_
   refine AWp_sr hP ?_
   refine RK.G2 hT rfl rfl rfl rfl rfl rfl ?_
   refine RK.F hT rfl rfl rfl rfl rfl rfl ?_
   refine RK.G2 hT rfl rfl rfl rfl rfl rfl ?_
   refine RK.V (Eff.call0 (int_Add _ _ lz lz)) ?_
   refine RK.V (Eff.call0 (cy_number _ (by first | assumption | decide))) ?_
   refine RK.F hT rfl rfl rfl rfl rfl rfl ?_
   refine RK.G2 hT rfl rfl rfl rfl rfl rfl ?_
   refine RK.V (Eff.call0 (int_Mul _ _ lz lz)) ?_
   refine RK.V (Eff.call0 (int_DivMod _ (2 * f.c) lz lz (by omega))) ?_
   refine RK.V (op_move (rfl : _ = AV.t _)) ?_
   refine RK.V (op_extract rfl (v := .a _) rfl) ?_
   refine RK.V (op_extract rfl (v := .a _) rfl) ?_
   refine RK.V (op_extract rfl (v := .c _) rfl) ?_
   refine RK.alc guard_none (op_alloc hT rfl rfl) ?_
   refine RK.alc guard_none (op_alloc hT rfl rfl) ?_
   refine RK.S hT rfl rfl rfl rfl rfl rfl rfl ?_
   refine RK.S hT rfl rfl rfl rfl rfl rfl rfl ?_
   refine RK.As rfl ?_
   refine RK.D ?_
   refine AWp_sr hP ?_
   refine RK.V (Eff.call0 (cy_number _ (by first | assumption | decide))) ?_
   refine RK.V (Eff.call0 (cy_number _ (by first | assumption | decide))) ?_
   refine RK.V (Eff.call0 (cy_number _ (by first | assumption | decide))) ?_
   refine RK.G2 hT rfl rfl rfl rfl rfl rfl ?_
   refine RK.V (op_build_st hT rfl rfl rfl (es := [_, _, _, _, _, _, _, _]) rfl) ?_
   refine RK.S hT rfl rfl rfl rfl rfl rfl rfl ?_
   refine RK.D ?_
   refine AWp_ret ?_
   refine ends_one rfl (.inr rfl) (res_cell_agg hT rfl rfl rfl rfl (cs := [_, _, _, _, _, _, _, _]) rfl rfl) ?_ O_ends
   exact Sub.of_eq (by unfold stpM stK; rw [← hR])
 ·have hb1_ := of_decide_eq_false hb1
  have hR := stR_1 (s := s) (f := f) (fun z => of_decide_eq_false hb1 (cmpI_gt_zero.2 z))
  refine AWp_skip ?_
  refine AWp_sr hP ?_
  refine RK.G2 hT rfl rfl rfl rfl rfl rfl ?_
  refine RK.F hT rfl rfl rfl rfl rfl rfl ?_
  refine RK.G2 hT rfl rfl rfl rfl rfl rfl ?_
  refine RK.V (Eff.call0 (int_Add _ _ lz lz)) ?_
  refine RK.V (Eff.call0 (cy_number _ (by first | assumption | decide))) ?_
  refine RK.F hT rfl rfl rfl rfl rfl rfl ?_
  refine RK.G2 hT rfl rfl rfl rfl rfl rfl ?_
  refine RK.V (Eff.call0 (int_Mul _ _ lz lz)) ?_
  refine RK.V (Eff.call0 (int_DivMod _ (2 * f.c) lz lz (by omega))) ?_
  refine RK.V (op_move (rfl : _ = AV.t _)) ?_
  refine RK.V (op_extract rfl (v := .a _) rfl) ?_
  refine RK.V (op_extract rfl (v := .a _) rfl) ?_
  refine RK.V (op_extract rfl (v := .c _) rfl) ?_
  refine RK.alc guard_none (op_alloc hT rfl rfl) ?_
  refine RK.alc guard_none (op_alloc hT rfl rfl) ?_
  refine RK.S hT rfl rfl rfl rfl rfl rfl rfl ?_
  refine RK.S hT rfl rfl rfl rfl rfl rfl rfl ?_
  refine RK.As rfl ?_
  refine RK.D ?_
  refine AWp_sr hP ?_
  refine RK.V (Eff.call0 (cy_number _ (by first | assumption | decide))) ?_
  refine RK.V (Eff.call0 (cy_number _ (by first | assumption | decide))) ?_
  refine RK.V (Eff.call0 (cy_number _ (by first | assumption | decide))) ?_
  refine RK.G2 hT rfl rfl rfl rfl rfl rfl ?_
  refine RK.V (op_build_st hT rfl rfl rfl (es := [_, _, _, _, _, _, _, _]) rfl) ?_
  refine RK.S hT rfl rfl rfl rfl rfl rfl rfl ?_
  refine RK.D ?_
  refine AWp_ret ?_
  refine ends_one rfl (.inr rfl) (res_cell_agg hT rfl rfl rfl rfl (cs := [_, _, _, _, _, _, _, _]) rfl rfl) ?_ O_ends
  exact Sub.of_eq (by unfold stpM stK; rw [← hR])
/- algorist/cycle.Rho -/
set_option maxHeartbeats 2000000 in
set_option maxRecDepth 100000 in
theorem cy_Rho (d : Int) (f : Fm) (hd : DOK d) (hf : f.disc = d) (hx : OKF f) :
  Call0 Tryz.prog 76 [FA f.a f.b f.c] (.t [PF (rho (rootV d) f), PM (stpM (rootV d) f), PE 0]) := by
 have hi : LB f.a 6 := ⟨okS_L hx.a⟩
 have hib : LB f.b 6 := ⟨okS_L hx.b⟩
 have hic : LB f.c 6 := ⟨okS_L hx.c⟩
 have hrt := hd.rt
 have hac := sq_ac (f := f) (by rw [hf]; exact hd.sq)
 have hc0 := hac.2
 have irt : LB (rootV d) 6 := ⟨rt_L hd⟩
 have cD : Call0 Tryz.prog 99 [FA f.a f.b f.c] (I d) := by rw [← hf]; exact q_Disc _ _ _ lz lz lz
 have cK := cy_known d hd
 have hsL : LB (stK (rootV d) f) 6 := ⟨stK_L (by omega) hx hc0⟩
 have cS := cy_step d f hd hf hx
 obtain ⟨s, hs⟩ : ∃ s, s = rootV d := ⟨_, rfl⟩
 rw [← hs] at hrt irt cK hsL cS ⊢
 have cA := q_Apply f.a f.b f.c 0 (-1) 1 (stK s f) lz lz lz lz lz lz lz
 refine callM_of (np := 0) Tryz.func76 (by kernel_rfl) rfl rfl (Nat.le_of_ble_eq_true rfl) (fun m h => absurd rfl h) (fun m h => absurd rfl h) rfl ?_
 refine AWp_sr hP ?_
 refine RK.alc guard_none (op_box rfl rfl) ?_
 refine RK.alc guard_none (op_alloc hT rfl rfl) ?_
 refine RK.alc guard_none (op_alloc hT rfl rfl) ?_
 refine RK.As rfl ?_
 refine RK.D ?_
 refine AWp_sr hP ?_
 refine RK.G6 hT rfl rfl rfl rfl rfl rfl ?_
 refine RK.V (Eff.call0 cD) ?_
 refine RK.V (Eff.call0 cK) ?_
 refine RK.V (op_move (rfl : _ = AV.t _)) ?_
 refine RK.V (op_extract rfl (v := .a _) rfl) ?_
 refine RK.V (op_extract rfl (v := .c _) rfl) ?_
 refine RK.alc guard_none (op_alloc hT rfl rfl) ?_
 refine RK.S hT rfl rfl rfl rfl rfl rfl rfl ?_
 refine RK.As rfl ?_
 refine RK.D ?_
 refine AWp_seq ?_
 refine AWp_sr hP ?_
 refine RK.M rfl ?_
 refine RK.V (op_neq rfl rfl) ?_
 refine RK.D ?_
 refine AWp_cond_false rfl rfl ?_
 refine AWp_skip ?_
 refine AWp_sr hP ?_
 refine RK.G6 hT rfl rfl rfl rfl rfl rfl ?_
 refine RK.G2 hT rfl rfl rfl rfl rfl rfl ?_
 refine RK.V (Eff.call0 cS) ?_
 refine RK.alc guard_none (op_alloc hT rfl rfl) ?_
 refine RK.S hT rfl rfl rfl rfl rfl rfl rfl ?_
 refine RK.D ?_
 refine AWp_sr hP ?_
 refine RK.G6 hT rfl rfl rfl rfl rfl rfl ?_
 refine RK.V (op_load_agg hT rfl rfl rfl rfl (cs := [_, _, _, _, _, _, _, _]) rfl rfl) ?_
 refine RK.V (Eff.call0 cA) ?_
 refine RK.V (op_load_agg hT rfl rfl rfl rfl (cs := [_, _, _, _, _, _, _, _]) rfl rfl) ?_
 refine RK.S hT rfl rfl rfl rfl rfl rfl rfl ?_
 refine RK.S hT rfl rfl rfl rfl rfl rfl rfl ?_
 refine RK.As rfl ?_
 refine RK.D ?_
 refine AWp_ret ?_
 refine ends_three rfl (.inr rfl) (res_cell_agg hT rfl rfl rfl rfl (cs := [_, _, _, _, _, _]) rfl rfl) (res_cell_agg hT rfl rfl rfl rfl (cs := [_, _, _, _, _, _, _, _]) rfl rfl) (res_tmp rfl) ?_ O_ends
 exact .refl _
/- algorist/cycle.neighbors$1 -/
set_option maxHeartbeats 4000000 in
set_option maxRecDepth 100000 in
theorem cy_neighbors1 (d : Int) (f : Fm) (K : Nat) (hd : DOK d) (hf : f.disc = d) (hok : ∀ k, k < K → OKX (nb (rootV d) f k)) (hK0 : 0 < K) :
  IterF Tryz.prog 139 (⟨false, 1, 36, FL f.a f.b f.c⟩) [[zn (rootV d), zm (rootV d)]] ((List.range K).map fun k => [PF (nb (rootV d) f k).1, PM (nb (rootV d) f k).2]) := by
 have hrt := hd.rt
 have irt : LB (rootV d) 6 := ⟨rt_L hd⟩
 have hcs := fun g hg hx => cy_step d g hd hg hx
 obtain ⟨s, hs⟩ : ∃ s, s = rootV d := ⟨_, rfl⟩
 rw [← hs] at hrt irt hcs hok ⊢
 have hxl := nb_len (s := s) (f := f) (K := K)
 have hxg := fun i h => nb_get (s := s) (f := f) (K := K) (i := i) h
 generalize hxs : ((List.range K).map fun k => ([PF (nb s f k).1, PM (nb s f k).2] : List PV)) = xs at hxl hxg ⊢
 refine iterF_of Tryz.func139 (by kernel_rfl) rfl rfl (Nat.le_of_ble_eq_true rfl) rfl rfl ?_
 intro l n0 J hK hst
 refine AE_of hK.toKeepsB ?_
 have hst2 : ∀ h G W, ¬ J K h G W := by rw [← hxl]; exact hst
 refine AK_seq ?_
 refine AK_region hP ?_
 refine RK.V (Eff.call0 (cy_number _ (by first | assumption | decide))) ?_
 refine RK.V (Eff.call0 (cy_number _ (by first | assumption | decide))) ?_
 refine RK.V (Eff.call0 (cy_number _ (by first | assumption | decide))) ?_
 refine RK.V (Eff.call0 (cy_number _ (by first | assumption | decide))) ?_
 refine RK.V (op_build_st hT rfl rfl rfl (es := [_, _, _, _, _, _, _, _]) rfl) ?_
 refine RK.alc guard_none (op_alloc hT rfl rfl) ?_
 refine RK.S hT rfl rfl rfl rfl rfl rfl rfl ?_
 refine RK.D ?_
 refine AK_block ?_
 refine AK_loop (ι := Nat) (fun i => stL [(0, .p (.c (.v (.func (.yield l) #[] #[])))), (1, .loc 1 0), (2, .ip [zn s, zm s]), (4, .loc 4 0)] [(1, ⟨false, 1, 36, FL (nb s f i).1.a (nb s f i).1.b (nb s f i).1.c⟩), (4, ⟨false, 1, 115, ML (nb s f i).2.a (nb s f i).2.b (nb s f i).2.c (nb s f i).2.d⟩)]) (fun i => i) (fun i => i ≤ K) (fun i => K - i) 0 (Nat.zero_le _) rfl (le_stL ⟨.refl _, .refl _, .refl _, .refl _, trivial⟩ ⟨rfl, rfl, trivial⟩) ?_
 intro i hi
 by_cases hiK : i = K
 ·subst hiK; exact AK_dead hK.toKeepsB hst2
 have hox := hok i (by omega)
 have hgt := hxg i (by omega)
 have hn : nb s f (i + 1) = nxS s (nb s f i) := rfl
 have hdi : (nb s f i).1.disc = d := (nb_disc s f i).trans hf
 have hrn := hd
 generalize nb s f i = y at hox hgt hn hdi ⊢
 have hxf := hox.f
 have hi6 : LB y.1.a 6 := ⟨okS_L hox.a⟩
 have hib6 : LB y.1.b 6 := ⟨okS_L hox.b⟩
 have hic6 : LB y.1.c 6 := ⟨okS_L hox.c⟩
 have hma : LB y.2.a 10 := ⟨okB_L hox.p⟩
 have hmb : LB y.2.b 10 := ⟨okB_L hox.q⟩
 have hmc : LB y.2.c 10 := ⟨okB_L hox.r⟩
 have hmd : LB y.2.d 10 := ⟨okB_L hox.s⟩
 have hc0 := (sq_ac (f := y.1) (by rw [hdi]; exact hd.sq)).2
 have hsL : LB (stK s y.1) 6 := ⟨stK_L (by omega) hxf hc0⟩
 have cS := hcs y.1 hdi hxf
 have cA := q_Apply y.1.a y.1.b y.1.c 0 (-1) 1 (stK s y.1) lz lz lz lz lz lz lz
 have cT := q_Times y.2.a y.2.b y.2.c y.2.d 0 (-1) 1 (stK s y.1) lz lz lz lz lz lz lz lz
 refine AK_seq ?_
 refine AK_seq ?_
 refine AK_regionY ?_
 refine RY.val guard_none (op_move (rfl : _ = AV.p (.c _))) ?_
 refine RY.val guard_none (op_load_agg hT rfl rfl rfl rfl (cs := [_, _, _, _, _, _]) rfl rfl) ?_
 refine RY.val guard_none (op_load_agg hT rfl rfl rfl rfl (cs := [_, _, _, _, _, _, _, _]) rfl rfl) ?_
 refine RY.yield hK guard_none rfl rfl hgt ?_
 intro b
 refine RY.done ?_
 refine AK_cond rfl (fun hb1 => ?_) (fun hb1 => ?_)
 ·have hbt := hb1
  refine AK_skip ?_
  refine AK_block ?_
  refine AK_seq ?_
  refine AK_region hP ?_
  refine RK.G6 hT rfl rfl rfl rfl rfl rfl ?_
  refine RK.V (op_load_ip_agg hT rfl rfl rfl (cs := [_, _]) rfl rfl) ?_
  refine RK.V (Eff.call0 cS) ?_
  refine RK.alc guard_none (op_alloc hT rfl rfl) ?_
  refine RK.S hT rfl rfl rfl rfl rfl rfl rfl ?_
  refine RK.D ?_
  refine AK_region hP ?_
  refine RK.G6 hT rfl rfl rfl rfl rfl rfl ?_
  refine RK.V (op_load_agg hT rfl rfl rfl rfl (cs := [_, _, _, _, _, _, _, _]) rfl rfl) ?_
  refine RK.V (Eff.call0 cA) ?_
  refine RK.V (op_load_agg hT rfl rfl rfl rfl (cs := [_, _, _, _, _, _, _, _]) rfl rfl) ?_
  refine RK.V (op_load_agg hT rfl rfl rfl rfl (cs := [_, _, _, _, _, _, _, _]) rfl rfl) ?_
  refine RK.V (Eff.call0 cT) ?_
  refine RK.S hT rfl rfl rfl rfl rfl rfl rfl ?_
  refine RK.S hT rfl rfl rfl rfl rfl rfl rfl ?_
  refine RK.D ?_
  refine ⟨i + 1, by omega, by omega, (by rw [nx_t hbt]), le_stL ⟨.refl _, .refl _, .refl _, .refl _, trivial⟩ ⟨Eq.trans rfl (congrArg (fun z : Fm × Mt => some (⟨false, 1, 36, FL z.1.a z.1.b z.1.c⟩ : Blk)) hn.symm), Eq.trans rfl (congrArg (fun z : Fm × Mt => some (⟨false, 1, 115, ML z.2.a z.2.b z.2.c z.2.d⟩ : Blk)) hn.symm), trivial⟩⟩
 ·have hbf := hb1
  refine AK_exit ?_
  refine ⟨.inl rfl, ?_⟩
  exact hxl ▸ nx_f hbf
/- algorist/cycle.neighbors -/
set_option maxHeartbeats 1000000 in
set_option maxRecDepth 100000 in
theorem cy_neighbors (f : Fm) (s : Int) :
  CallH Tryz.prog 114 [FA f.a f.b f.c, I s] 139 [[zn s, zm s]] (⟨false, 1, 36, FL f.a f.b f.c⟩) := by
 refine callH_of Tryz.func114 (by kernel_rfl) rfl rfl (Nat.le_of_ble_eq_true rfl) ?_
 refine AWp_sr hP ?_
 refine RK.alc guard_none (op_box rfl rfl) ?_
 refine RK.alc guard_none (op_box rfl rfl) ?_
 refine RK.As rfl ?_
 refine RK.D ?_
 refine AWp_freezeBox (t := 3) rfl rfl ?_
 refine AWp_sr hP ?_
 refine RK.V (op_makeFuncF1 rfl rfl) ?_
 refine RK.V (op_assign (rfl : _ = AV.axm _ _)) ?_
 refine RK.D ?_
 refine AWp_ret ?_
 exact ⟨.inr rfl, 4, 2, rfl, rfl, rfl⟩
end Go.Proofs.YtfdjankalhfceaaGreat
end

section
/- cycle: Reduce small -/
namespace Go.Proofs.YtfdjankalhfceaaGreat
open Go Go.AM
/- algorist/cycle.Reduce -/
set_option maxHeartbeats 4000000 in
set_option maxRecDepth 100000 in
theorem cy_Reduce (d : Int) (f : Fm) (n : Nat) (y : Fm × Mt) (hd : DOK d) (hf : f.disc = d) (h : RdT (rootV d) f n y) :
  Call0 Tryz.prog 73 [FA f.a f.b f.c] (.t [PF y.1, PM y.2, PE 0]) := by
 have hx : OKF f := (h.ok 0 (Nat.zero_le _)).f
 have hi : LB f.a 6 := ⟨okS_L hx.a⟩
 have hib : LB f.b 6 := ⟨okS_L hx.b⟩
 have hic : LB f.c 6 := ⟨okS_L hx.c⟩
 have hrt := hd.rt
 have hac := sq_ac (f := f) (by rw [hf]; exact hd.sq)
 have hc0 := hac.2
 have irt : LB (rootV d) 6 := ⟨rt_L hd⟩
 have cD : Call0 Tryz.prog 99 [FA f.a f.b f.c] (I d) := by rw [← hf]; exact q_Disc _ _ _ lz lz lz
 have cK := cy_known d hd
 have hsL : LB (stK (rootV d) f) 6 := ⟨stK_L (by omega) hx hc0⟩
 have hcR := fun g hg hx => cy_Reduced d g hd hg hx
 have hnb := cy_neighbors1 d f (n + 1) hd hf (fun k hk => h.ok k (by omega)) (by omega)
 obtain ⟨s, hs⟩ : ∃ s, s = rootV d := ⟨_, rfl⟩
 rw [← hs] at hrt irt cK hsL hcR hnb h
 clear hs
 refine callM_of (np := 0) Tryz.func73 (by kernel_rfl) rfl rfl (Nat.le_of_ble_eq_true rfl) (fun m h => absurd rfl h) (fun m h => absurd rfl h) rfl ?_
 refine AWp_sr hP ?_
 refine RK.alc guard_none (op_box rfl rfl) ?_
 refine RK.alc guard_none (op_alloc hT rfl rfl) ?_
 refine RK.alc guard_none (op_alloc hT rfl rfl) ?_
 refine RK.alc guard_none (op_alloc hT rfl rfl) ?_
 refine RK.D ?_
 refine AWp_sr hP ?_
 refine RK.G6 hT rfl rfl rfl rfl rfl rfl ?_
 refine RK.V (Eff.call0 cD) ?_
 refine RK.V (Eff.call0 cK) ?_
 refine RK.V (op_move (rfl : _ = AV.t _)) ?_
 refine RK.V (op_extract rfl (v := .a _) rfl) ?_
 refine RK.V (op_extract rfl (v := .c _) rfl) ?_
 refine RK.alc guard_none (op_alloc hT rfl rfl) ?_
 refine RK.S hT rfl rfl rfl rfl rfl rfl rfl ?_
 refine RK.As rfl ?_
 refine RK.D ?_
 refine AWp_seq ?_
 refine AWp_sr hP ?_
 refine RK.M rfl ?_
 refine RK.V (op_neq rfl rfl) ?_
 refine RK.D ?_
 refine AWp_cond_false rfl rfl ?_
 refine AWp_skip ?_
 refine AWp_seq ?_
 refine AWp_sr hP ?_
 refine RK.G6 hT rfl rfl rfl rfl rfl rfl ?_
 refine RK.G2 hT rfl rfl rfl rfl rfl rfl ?_
 refine RK.alc guard_none (Eff.callH (cy_neighbors f s)) ?_
 refine RK.D ?_
 refine AWp_block ?_
 refine AWp_le (t := stL [(22, .axm (FlP 139 [[zn s, zm s]]) 22), (2, .loc 2 0), (3, .loc 3 0), (4, .loc 4 0)] ((22, ⟨false, 1, 36, FL f.a f.b f.c⟩) :: [(2, ⟨false, 1, 36, [zn 0, zm 0, zn 0, zm 0, zn 0, zm 0]⟩), (3, ⟨false, 1, 115, [zn 0, zm 0, zn 0, zm 0, zn 0, zm 0, zn 0, zm 0]⟩), (4, ⟨false, 1, 37, [.v (.int .i64 0)]⟩)])) (le_stL ⟨.refl _, .refl _, .refl _, .refl _, trivial⟩ ⟨rfl, rfl, rfl, rfl, trivial⟩) ?_
 clear hx
 refine AWp_rangeF (l := [(2, .loc 2 0), (3, .loc 3 0), (4, .loc 4 0)]) (o := lookO ((22, ⟨false, 1, 36, FL f.a f.b f.c⟩) :: [(2, ⟨false, 1, 36, [zn 0, zm 0, zn 0, zm 0, zn 0, zm 0]⟩), (3, ⟨false, 1, 115, [zn 0, zm 0, zn 0, zm 0, zn 0, zm 0, zn 0, zm 0]⟩), (4, ⟨false, 1, 37, [.v (.int .i64 0)]⟩)])) 5 (fun _ => lookO [(2, ⟨false, 1, 36, [zn 0, zm 0, zn 0, zm 0, zn 0, zm 0]⟩), (3, ⟨false, 1, 115, [zn 0, zm 0, zn 0, zm 0, zn 0, zm 0, zn 0, zm 0]⟩), (4, ⟨false, 1, 37, [.v (.int .i64 0)]⟩)]) (fun k => k ≤ n) hnb rfl rfl rfl rfl (own_less rfl) nb_two rfl rfl rfl (Nat.zero_le _) (fun k x hx hI => ?_) (by rw [nb_len]; omega)
 ·obtain ⟨hk, rfl⟩ := nb_at hx
  have hox := h.ok k (by omega)
  have hdi : (nb s f k).1.disc = d := (nb_disc s f k).trans hf
  have hyes : rdI s (nb s f k).1 = true → nb s f k = y := fun q => by
   rcases Nat.lt_or_ge k n with e | e
   ·rw [h.no k e] at q; cases q
   ·rw [show k = n by omega]; exact h.eq
  have hno : rdI s (nb s f k).1 = false → k + 1 ≤ n := fun q => by
   rcases Nat.lt_or_ge k n with e | e
   ·exact e
   ·have e2 : k = n := by omega
    rw [e2, h.eq, h.yes] at q; cases q
  generalize nb s f k = z at hox hdi hyes hno ⊢
  have cR := hcR z.1 hdi hox.f
  refine AWp_sr hP ?_
  refine RK.alc guard_none (op_alloc hT rfl rfl) ?_
  refine RK.S hT rfl rfl rfl rfl rfl rfl rfl ?_
  refine RK.D ?_
  refine AWp_region hP ?_
  refine RK.alc guard_none (op_alloc hT rfl rfl) ?_
  refine RK.S hT rfl rfl rfl rfl rfl rfl rfl ?_
  refine RK.D ?_
  refine AWp_block ?_
  refine AWp_sr hP ?_
  refine RK.G6 hT rfl rfl rfl rfl rfl rfl ?_
  refine RK.V (Eff.call0 cR) ?_
  refine RK.D ?_
  refine AWp_cond rfl (fun hb1 => ?_) (fun hb1 => ?_)
  ·have hq := hyes hb1
   refine AWp_sr hP ?_
   refine RK.G6 hT rfl rfl rfl rfl rfl rfl ?_
   refine RK.V (op_load_agg hT rfl rfl rfl rfl (cs := [_, _, _, _, _, _, _, _]) rfl rfl) ?_
   refine RK.S hT rfl rfl rfl rfl rfl rfl rfl ?_
   refine RK.S hT rfl rfl rfl rfl rfl rfl rfl ?_
   refine RK.S hT rfl rfl rfl rfl rfl rfl rfl ?_
   refine RK.D ?_
   refine AWp_ret ?_
   refine ⟨_, GW.forget fun _ => .inl rfl, ?_⟩
   refine ends_three rfl (.inr rfl) (res_cell_agg hT rfl rfl rfl rfl (cs := [_, _, _, _, _, _]) rfl rfl) (res_cell_agg hT rfl rfl rfl rfl (cs := [_, _, _, _, _, _, _, _]) rfl rfl) (res_cell_one hT rfl rfl rfl rfl rfl) ?_ O_ends
   exact Sub.of_eq (by rw [hq])
  ·have hq := hno hb1
   refine AWp_skip ?_
   exact ⟨GW.forget fun x => SubO.own (l := [(2, ⟨false, 1, 36, [zn 0, zm 0, zn 0, zm 0, zn 0, zm 0]⟩), (3, ⟨false, 1, 115, [zn 0, zm 0, zn 0, zm 0, zn 0, zm 0, zn 0, zm 0]⟩), (4, ⟨false, 1, 37, [.v (.int .i64 0)]⟩)]) ⟨rfl, rfl, rfl, trivial⟩ x, hq⟩
/- algorist/cycle.small -/
set_option maxHeartbeats 2000000 in
set_option maxRecDepth 100000 in
theorem cy_small (f : Fm) (hx : OKF f) :
  Call0 Tryz.prog 98 [FA f.a f.b f.c] (.p (.a (TCl f))) := by
 have h1 := okS_lt hx.a
 have h2 := okS_lt hx.b
 have h3 := okS_lt hx.c
 have c1 := int_Low f.a (by omega) (by omega)
 have c2 := int_Low f.b (by omega) (by omega)
 have c3 := int_Low f.c (by omega) (by omega)
 refine callM_of (np := 0) Tryz.func98 (by kernel_rfl) rfl rfl (Nat.le_of_ble_eq_true rfl) (fun m h => absurd rfl h) (fun m h => absurd rfl h) rfl ?_
 refine AWp_sr hP ?_
 refine RK.alc guard_none (op_box rfl rfl) ?_
 refine RK.alc guard_none (op_alloc hT rfl rfl) ?_
 refine RK.D ?_
 refine AWp_sr hP ?_
 refine RK.alc guard_none (op_alloc hT rfl rfl) ?_
 refine RK.D ?_
 refine AWp_seq ?_
 refine AWp_sr hP ?_
 refine RK.F hT rfl rfl rfl rfl rfl rfl ?_
 refine RK.G2 hT rfl rfl rfl rfl rfl rfl ?_
 refine RK.F hT rfl rfl rfl rfl rfl rfl ?_
 refine RK.G2 hT rfl rfl rfl rfl rfl rfl ?_
 refine RK.F hT rfl rfl rfl rfl rfl rfl ?_
 refine RK.G2 hT rfl rfl rfl rfl rfl rfl ?_
 refine RK.V (op_build_ar hT rfl rfl rfl (es := [_, _, _, _, _, _]) rfl) ?_
 refine RK.M rfl ?_
 refine RK.D ?_
 refine AWp_block ?_
 refine AWp_unroll 4 ?_
 refine AWp_sr hP ?_
 refine RK.V (op_lss rfl rfl) ?_
 refine RK.D ?_
 refine AWp_seq ?_
 refine AWp_cond_true rfl (by decide) ?_
 refine AWp_skip ?_
 refine AWp_seq ?_
 refine AWp_block ?_
 refine AWp_sr hP ?_
 refine RK.M rfl ?_
 refine RK.V (op_aindex_agg hT rfl rfl rfl rfl rfl rfl (by decide) (es := [_, _]) rfl rfl) ?_
 refine RK.alc guard_none (op_alloc hT rfl rfl) ?_
 refine RK.As rfl ?_
 refine RK.S hT rfl rfl rfl rfl rfl rfl rfl ?_
 refine RK.D ?_
 refine AWp_region hP ?_
 refine RK.M rfl ?_
 refine RK.G2 hT rfl rfl rfl rfl rfl rfl ?_
 refine RK.V (Eff.call0 c1) ?_
 refine RK.V (op_move (rfl : _ = AV.t _)) ?_
 refine RK.V (op_extract rfl (v := .c _) rfl) ?_
 refine RK.V (op_extract rfl (v := .c _) rfl) ?_
 refine RK.V (op_index_arr hT rfl rfl rfl rfl rfl (by first | decide | omega)) ?_
 refine RK.S hT rfl rfl rfl rfl rfl rfl rfl ?_
 refine RK.D ?_
 refine AWp_region hP ?_
 refine RK.V (op_add rfl rfl (by first | exact IntWalk.i64_in _ (by omega) | rfl)) ?_
 refine RK.M rfl ?_
 refine RK.D ?_
 refine AWp_sr hP ?_
 refine RK.V (op_lss rfl rfl) ?_
 refine RK.D ?_
 refine AWp_seq ?_
 refine AWp_cond_true rfl (by decide) ?_
 refine AWp_skip ?_
 refine AWp_seq ?_
 refine AWp_block ?_
 refine AWp_sr hP ?_
 refine RK.M rfl ?_
 refine RK.V (op_aindex_agg hT rfl rfl rfl rfl rfl rfl (by decide) (es := [_, _]) rfl rfl) ?_
 refine RK.alc guard_none (op_alloc hT rfl rfl) ?_
 refine RK.As rfl ?_
 refine RK.S hT rfl rfl rfl rfl rfl rfl rfl ?_
 refine RK.D ?_
 refine AWp_region hP ?_
 refine RK.M rfl ?_
 refine RK.G2 hT rfl rfl rfl rfl rfl rfl ?_
 refine RK.V (Eff.call0 c2) ?_
 refine RK.V (op_move (rfl : _ = AV.t _)) ?_
 refine RK.V (op_extract rfl (v := .c _) rfl) ?_
 refine RK.V (op_extract rfl (v := .c _) rfl) ?_
 refine RK.V (op_index_arr hT rfl rfl rfl rfl rfl (by first | decide | omega)) ?_
 refine RK.S hT rfl rfl rfl rfl rfl rfl rfl ?_
 refine RK.D ?_
 refine AWp_region hP ?_
 refine RK.V (op_add rfl rfl (by first | exact IntWalk.i64_in _ (by omega) | rfl)) ?_
 refine RK.M rfl ?_
 refine RK.D ?_
 refine AWp_sr hP ?_
 refine RK.V (op_lss rfl rfl) ?_
 refine RK.D ?_
 refine AWp_seq ?_
 refine AWp_cond_true rfl (by decide) ?_
 refine AWp_skip ?_
 refine AWp_seq ?_
 refine AWp_block ?_
 refine AWp_sr hP ?_
 refine RK.M rfl ?_
 refine RK.V (op_aindex_agg hT rfl rfl rfl rfl rfl rfl (by decide) (es := [_, _]) rfl rfl) ?_
 refine RK.alc guard_none (op_alloc hT rfl rfl) ?_
 refine RK.As rfl ?_
 refine RK.S hT rfl rfl rfl rfl rfl rfl rfl ?_
 refine RK.D ?_
 refine AWp_region hP ?_
 refine RK.M rfl ?_
 refine RK.G2 hT rfl rfl rfl rfl rfl rfl ?_
 refine RK.V (Eff.call0 c3) ?_
 refine RK.V (op_move (rfl : _ = AV.t _)) ?_
 refine RK.V (op_extract rfl (v := .c _) rfl) ?_
 refine RK.V (op_extract rfl (v := .c _) rfl) ?_
 refine RK.V (op_index_arr hT rfl rfl rfl rfl rfl (by first | decide | omega)) ?_
 refine RK.S hT rfl rfl rfl rfl rfl rfl rfl ?_
 refine RK.D ?_
 refine AWp_region hP ?_
 refine RK.V (op_add rfl rfl (by first | exact IntWalk.i64_in _ (by omega) | rfl)) ?_
 refine RK.M rfl ?_
 refine RK.D ?_
 refine AWp_sr hP ?_
 refine RK.V (op_lss rfl rfl) ?_
 refine RK.D ?_
 refine AWp_seq ?_
 refine AWp_cond_false rfl (by decide) ?_
 refine AWp_exit ?_
 refine AWp_sr hP ?_
 refine RK.V (op_load_agg hT rfl rfl rfl rfl (cs := [_, _, _]) rfl rfl) ?_
 refine RK.S hT rfl rfl rfl rfl rfl rfl rfl ?_
 refine RK.D ?_
 refine AWp_ret ?_
 refine ends_one rfl (.inr rfl) (res_cell_agg hT rfl rfl rfl rfl (cs := [_, _, _]) rfl rfl) ?_ O_ends
 exact .refl _
end Go.Proofs.YtfdjankalhfceaaGreat
end

section
/- cycle: around Cycle IndexFunc -/
namespace Go.Proofs.YtfdjankalhfceaaGreat
open Go Go.AM
/- algorist/cycle.around -/
set_option maxHeartbeats 8000000 in
set_option maxRecDepth 100000 in
theorem cy_around (d : Int) (f : Fm) (n : Nat) (hd : DOK d) (hf : f.disc = d) (h : ArT (rootV d) f n) :
  Call0 Tryz.prog 74 [FA f.a f.b f.c] (.t [.c (SL enF (cyF (rootV d) f n)), .c (SL enM (cyM (rootV d) f n))]) := by
 have hx : OKF f := (h.ok 0 (Nat.zero_le _)).f
 have hi : LB f.a 6 := ⟨okS_L hx.a⟩
 have hib : LB f.b 6 := ⟨okS_L hx.b⟩
 have hic : LB f.c 6 := ⟨okS_L hx.c⟩
 have hrt := hd.rt
 have hac := sq_ac (f := f) (by rw [hf]; exact hd.sq)
 have hc0 := hac.2
 have irt : LB (rootV d) 6 := ⟨rt_L hd⟩
 have cD : Call0 Tryz.prog 99 [FA f.a f.b f.c] (I d) := by rw [← hf]; exact q_Disc _ _ _ lz lz lz
 have cK := cy_known d hd
 have hsL : LB (stK (rootV d) f) 6 := ⟨stK_L (by omega) hx hc0⟩
 have hnb := cy_neighbors1 d f (n + 1) hd hf (fun k hk => h.ok k (by omega)) (by omega)
 obtain ⟨s, hs⟩ : ∃ s, s = rootV d := ⟨_, rfl⟩
 rw [← hs] at hrt irt cK hsL hnb h ⊢
 clear hs
 have cs0 := cy_small f hx
 refine callM_of (np := 0) Tryz.func74 (by kernel_rfl) rfl rfl (Nat.le_of_ble_eq_true rfl) (fun m h => absurd rfl h) (fun m h => absurd rfl h) rfl ?_
 refine AWp_sr hP ?_
 refine RK.alc guard_none (op_box rfl rfl) ?_
 refine RK.As rfl ?_
 refine RK.As rfl ?_
 refine RK.D ?_
 refine AWp_sr hP ?_
 refine RK.G6 hT rfl rfl rfl rfl rfl rfl ?_
 refine RK.V (Eff.call0 cD) ?_
 refine RK.V (Eff.call0 cK) ?_
 refine RK.V (op_move (rfl : _ = AV.t _)) ?_
 refine RK.V (op_extract rfl (v := .a _) rfl) ?_
 refine RK.V (op_extract rfl (v := .c _) rfl) ?_
 refine RK.alc guard_none (op_alloc hT rfl rfl) ?_
 refine RK.S hT rfl rfl rfl rfl rfl rfl rfl ?_
 refine RK.As rfl ?_
 refine RK.D ?_
 refine AWp_sr hP ?_
 refine RK.alc guard_none (op_alloc_nil hT rfl rfl) ?_
 refine RK.D ?_
 refine AWp_sr hP ?_
 refine RK.alc guard_none (op_alloc_nil hT rfl rfl) ?_
 refine RK.D ?_
 refine AWp_sr hP ?_
 refine RK.G6 hT rfl rfl rfl rfl rfl rfl ?_
 refine RK.V (Eff.call0 cs0) ?_
 refine RK.alc guard_none (op_alloc hT rfl rfl) ?_
 refine RK.S hT rfl rfl rfl rfl rfl rfl rfl ?_
 refine RK.D ?_
 refine AWp_seq ?_
 refine AWp_sr hP ?_
 refine RK.G6 hT rfl rfl rfl rfl rfl rfl ?_
 refine RK.G2 hT rfl rfl rfl rfl rfl rfl ?_
 refine RK.alc guard_none (Eff.callH (cy_neighbors f s)) ?_
 refine RK.D ?_
 refine AWp_block ?_
 refine AWp_mkLink 6 1000 6 36 rfl rfl rfl rfl ?_
 refine AWp_mkLink 7 1001 8 115 rfl rfl rfl rfl ?_
 refine AWp_le (t := stL [(21, .axm (FlP 139 [[zn s, zm s]]) 21), (6, .loc 6 0), (7, .loc 7 0), (8, .loc 8 0)] ((21, ⟨false, 1, 36, FL f.a f.b f.c⟩) :: [(6, ⟨false, 1002, 81, [.sl (cyF s f 0).length []]⟩), (1000, VB 6 36 enF (cyF s f 0)), (7, ⟨false, 1003, 125, [.sl (cyM s f 0).length []]⟩), (1001, VB 8 115 enM (cyM s f 0)), (8, ⟨false, 1, 147, TCl f⟩)])) (le_stL ⟨.refl _, .refl _, .refl _, .refl _, trivial⟩ ⟨rfl, rfl, rfl, rfl, rfl, rfl, trivial⟩) ?_
 clear hx
 refine AWp_rangeF (l := [(6, .loc 6 0), (7, .loc 7 0), (8, .loc 8 0)]) (o := lookO ((21, ⟨false, 1, 36, FL f.a f.b f.c⟩) :: [(6, ⟨false, 1002, 81, [.sl (cyF s f 0).length []]⟩), (1000, VB 6 36 enF (cyF s f 0)), (7, ⟨false, 1003, 125, [.sl (cyM s f 0).length []]⟩), (1001, VB 8 115 enM (cyM s f 0)), (8, ⟨false, 1, 147, TCl f⟩)])) 9 (fun k => lookO [(6, ⟨false, 1002, 81, [.sl (cyF s f k).length []]⟩), (1000, VB 6 36 enF (cyF s f k)), (7, ⟨false, 1003, 125, [.sl (cyM s f k).length []]⟩), (1001, VB 8 115 enM (cyM s f k)), (8, ⟨false, 1, 147, TCl f⟩)]) (fun k => k ≤ n) hnb rfl rfl rfl rfl (own_less rfl) nb_two rfl rfl rfl (Nat.zero_le _) (fun k x hx hI => ?_) (by rw [nb_len]; omega)
 ·obtain ⟨hk, rfl⟩ := nb_at hx
  have hox := h.ok k (by omega)
  have hcs := cy_small (nb s f k).1 hox.f
  have hkn : 0 < k ∧ (nb s f k).1 = f → k = n := fun q => by
   rcases Nat.lt_or_ge k n with e | e
   ·exact absurd q.2 (h.no k q.1 e)
   ·omega
  have hkc : ¬ (0 < k ∧ (nb s f k).1 = f) → k + 1 ≤ n := fun q => by
   rcases Nat.lt_or_ge k n with e | e
   ·exact e
   ·have e2 : k = n := by omega
    exact absurd ⟨e2 ▸ h.pos, e2 ▸ h.yes⟩ q
  have hFs := cyF_s (s := s) (f := f) (k := k)
  have hMs := cyM_s (s := s) (f := f) (k := k)
  have hll := cyF_len (s := s) (f := f) (k := k)
  have hlm := cyM_len (s := s) (f := f) (k := k)
  have hle := h.le
  generalize nb s f k = z at hcs hkn hkc hFs hMs ⊢
  refine AWp_sr hP ?_
  refine RK.alc guard_none (op_alloc hT rfl rfl) ?_
  refine RK.S hT rfl rfl rfl rfl rfl rfl rfl ?_
  refine RK.D ?_
  refine AWp_region hP ?_
  refine RK.alc guard_none (op_alloc hT rfl rfl) ?_
  refine RK.S hT rfl rfl rfl rfl rfl rfl rfl ?_
  refine RK.D ?_
  refine AWp_block ?_
  refine AWp_seq ?_
  refine AWp_sr hP ?_
  refine RK.V (op_loadNm hT rfl rfl rfl rfl rfl) ?_
  refine RK.V (op_len_vecG hT enF_len rfl rfl rfl rfl rfl) ?_
  refine RK.V (op_gtr rfl rfl) ?_
  refine RK.M rfl ?_
  refine RK.split (t := 27) rfl (fun hg1 => ?_) (fun hg1 => ?_)
  ·have hg1_ := of_decide_eq_true hg1
   have hp : 0 < k := by have := of_decide_eq_true hg1; omega
   refine RK.val (guard_yes rfl rfl hg1) (op_load_agg hT rfl rfl rfl rfl (cs := [_, _, _, _, _, _]) rfl rfl) ?_
   refine RK.val (guard_yes rfl rfl hg1) (Eff.call0 hcs) ?_
   refine RK.val (guard_yes rfl rfl hg1) (op_load_agg hT rfl rfl rfl rfl (cs := [_, _, _]) rfl rfl) ?_
   refine RK.val (guard_yes rfl rfl hg1) (op_eqlT3 hT rfl rfl rfl rfl rfl rfl rfl (by kernel_rfl)) ?_
   refine RK.V (op_pick_t rfl hg1 (rfl : _ = AV.p (.c _))) ?_
   refine RK.D ?_
   refine AWp_cond rfl (fun hb2 => ?_) (fun hb2 => ?_)
   ·have hkn2 : k = n := hkn ⟨hp, of_decide_eq_true hb2⟩
    subst hkn2
    refine AWp_exit ?_
    refine ⟨_, GW.forget fun _ => .inl rfl, ?_⟩
    refine AWp_sr hP ?_
    refine RK.V (op_loadNm hT rfl rfl rfl rfl rfl) ?_
    refine RK.V (op_loadNm hT rfl rfl rfl rfl rfl) ?_
    refine RK.V (op_assign (rfl : _ = AV.vec _)) ?_
    refine RK.V (op_assign (rfl : _ = AV.vec _)) ?_
    refine RK.D ?_
    refine AWp_freezeG (encD := enF) enF_len rfl (t := 2) rfl rfl ?_
    refine AWp_freezeG (encD := enM) enM_len rfl (t := 3) rfl rfl ?_
    refine AWp_ret ?_
    refine ends_two rfl (.inr rfl) (res_tmp rfl) (res_tmp rfl) ?_ O_ends
    exact .refl _
   ·have hc2 : k + 1 ≤ n := hkc fun q => of_decide_eq_false hb2 q.2
    refine AWp_skip ?_
    refine AWp_region hP ?_
    refine RK.V (op_loadNm hT rfl rfl rfl rfl rfl) ?_
    refine RK.G6 hT rfl rfl rfl rfl rfl rfl ?_
    refine RK.V (op_bslice hT rfl rfl rfl (es := [_, _, _, _, _, _]) rfl rfl rfl) ?_
    refine RK.app guard_none (op_appendG (encD := enF) hT enF_len (by decide) rfl rfl rfl rfl rfl rfl rfl (b := z.1) rfl (by omega) (by decide) (by decide)) ?_
    refine RK.V (op_loadNm hT rfl rfl rfl rfl rfl) ?_
    refine RK.V (op_load_agg hT rfl rfl rfl rfl (cs := [_, _, _, _, _, _, _, _]) rfl rfl) ?_
    refine RK.V (op_bslice hT rfl rfl rfl (es := [_, _, _, _, _, _, _, _]) rfl rfl rfl) ?_
    refine RK.app guard_none (op_appendG (encD := enM) hT enM_len (by decide) rfl rfl rfl rfl rfl rfl rfl (b := z.2) rfl (by omega) (by decide) (by decide)) ?_
    refine RK.sto guard_none (op_storeNm hT rfl rfl rfl rfl rfl rfl rfl (flat_len enF_len _).symm (Nat.zero_lt_succ 5)) ?_
    refine RK.sto guard_none (op_storeNm hT rfl rfl rfl rfl rfl rfl rfl (flat_len enM_len _).symm (Nat.zero_lt_succ 7)) ?_
    refine RK.D ?_
    refine ⟨GW.trans (b := lookO [(6, ⟨false, 1002, 81, [.sl (cyF s f k ++ [z.1]).length []]⟩), (1000, VB 6 36 enF (cyF s f k ++ [z.1])), (7, ⟨false, 42, 125, [.sl (cyM s f k ++ [z.2]).length []]⟩), (40, VB 8 115 enM (cyM s f k ++ [z.2])), (8, ⟨false, 1, 147, TCl f⟩)]) (GW.rnL 6 36 1000 (cyF s f k ++ [z.1]).length rfl rfl rfl (flat_len enF_len _).symm (Nat.zero_lt_succ 5) rfl rfl rfl rfl ?_) (GW.rnL 7 40 1001 (cyM s f k ++ [z.2]).length rfl rfl rfl (flat_len enM_len _).symm (Nat.zero_lt_succ 7) rfl rfl rfl rfl ?_), hc2⟩
    ·exact SubO.own ⟨rfl, rfl, rfl, rfl, rfl, trivial⟩
    ·show ∀ m, lookO _ m = _ ∨ lookO _ m = none
     rw [hFs, hMs]
     exact SubO.own ⟨rfl, rfl, rfl, rfl, rfl, trivial⟩
  ·have hg1_ := of_decide_eq_false hg1
   have hz : ¬ 0 < k := by have := of_decide_eq_false hg1; omega
   have hc2 : k + 1 ≤ n := hkc fun q => hz q.1
   refine RK.skip (guard_no rfl rfl hg1) ?_
   refine RK.skip (guard_no rfl rfl hg1) ?_
   refine RK.skip (guard_no rfl rfl hg1) ?_
   refine RK.skip (guard_no rfl rfl hg1) ?_
   refine RK.V (op_pick_f rfl hg1 (rfl : _ = AV.p (.c _))) ?_
   refine RK.D ?_
   refine AWp_cond_false rfl rfl ?_
   refine AWp_skip ?_
   refine AWp_region hP ?_
   refine RK.V (op_loadNm hT rfl rfl rfl rfl rfl) ?_
   refine RK.G6 hT rfl rfl rfl rfl rfl rfl ?_
   refine RK.V (op_bslice hT rfl rfl rfl (es := [_, _, _, _, _, _]) rfl rfl rfl) ?_
   refine RK.app guard_none (op_appendG (encD := enF) hT enF_len (by decide) rfl rfl rfl rfl rfl rfl rfl (b := z.1) rfl (by omega) (by decide) (by decide)) ?_
   refine RK.V (op_loadNm hT rfl rfl rfl rfl rfl) ?_
   refine RK.V (op_load_agg hT rfl rfl rfl rfl (cs := [_, _, _, _, _, _, _, _]) rfl rfl) ?_
   refine RK.V (op_bslice hT rfl rfl rfl (es := [_, _, _, _, _, _, _, _]) rfl rfl rfl) ?_
   refine RK.app guard_none (op_appendG (encD := enM) hT enM_len (by decide) rfl rfl rfl rfl rfl rfl rfl (b := z.2) rfl (by omega) (by decide) (by decide)) ?_
   refine RK.sto guard_none (op_storeNm hT rfl rfl rfl rfl rfl rfl rfl (flat_len enF_len _).symm (Nat.zero_lt_succ 5)) ?_
   refine RK.sto guard_none (op_storeNm hT rfl rfl rfl rfl rfl rfl rfl (flat_len enM_len _).symm (Nat.zero_lt_succ 7)) ?_
   refine RK.D ?_
   refine ⟨GW.trans (b := lookO [(6, ⟨false, 1002, 81, [.sl (cyF s f k ++ [z.1]).length []]⟩), (1000, VB 6 36 enF (cyF s f k ++ [z.1])), (7, ⟨false, 42, 125, [.sl (cyM s f k ++ [z.2]).length []]⟩), (40, VB 8 115 enM (cyM s f k ++ [z.2])), (8, ⟨false, 1, 147, TCl f⟩)]) (GW.rnL 6 36 1000 (cyF s f k ++ [z.1]).length rfl rfl rfl (flat_len enF_len _).symm (Nat.zero_lt_succ 5) rfl rfl rfl rfl ?_) (GW.rnL 7 40 1001 (cyM s f k ++ [z.2]).length rfl rfl rfl (flat_len enM_len _).symm (Nat.zero_lt_succ 7) rfl rfl rfl rfl ?_), hc2⟩
   ·exact SubO.own ⟨rfl, rfl, rfl, rfl, rfl, trivial⟩
   ·show ∀ m, lookO _ m = _ ∨ lookO _ m = none
    rw [hFs, hMs]
    exact SubO.own ⟨rfl, rfl, rfl, rfl, rfl, trivial⟩
/- algorist/cycle.Cycle -/
set_option maxHeartbeats 1000000 in
set_option maxRecDepth 100000 in
theorem cy_Cycle (d : Int) (f : Fm) (n0 n : Nat) (y : Fm × Mt) (hd : DOK d) (hf : f.disc = d) (h0 : RdT (rootV d) f n0 y) (h : ArT (rootV d) y.1 n) :
  Call0 Tryz.prog 33 [FA f.a f.b f.c] (.t [.c (SL enF (cyF (rootV d) y.1 n)), PE 0]) := by
 have c1 := cy_Reduce d f n0 y hd hf h0
 have c2 := cy_around d y.1 n hd (h0.disc.trans hf) h
 generalize cyF (rootV d) y.1 n = A0 at c2 ⊢
 generalize cyM (rootV d) y.1 n = A1 at c2
 refine callM_of (np := 0) Tryz.func33 (by kernel_rfl) rfl rfl (Nat.le_of_ble_eq_true rfl) (fun m h => absurd rfl h) (fun m h => absurd rfl h) rfl ?_
 refine AWp_sr hP ?_
 refine RK.alc guard_none (op_box rfl rfl) ?_
 refine RK.As rfl ?_
 refine RK.As rfl ?_
 refine RK.D ?_
 refine AWp_sr hP ?_
 refine RK.G6 hT rfl rfl rfl rfl rfl rfl ?_
 refine RK.V (Eff.call0 c1) ?_
 refine RK.V (op_move (rfl : _ = AV.t _)) ?_
 refine RK.V (op_extract rfl (v := .a _) rfl) ?_
 refine RK.V (op_extract rfl (v := .a _) rfl) ?_
 refine RK.V (op_extract rfl (v := .c _) rfl) ?_
 refine RK.alc guard_none (op_alloc hT rfl rfl) ?_
 refine RK.alc guard_none (op_alloc hT rfl rfl) ?_
 refine RK.S hT rfl rfl rfl rfl rfl rfl rfl ?_
 refine RK.S hT rfl rfl rfl rfl rfl rfl rfl ?_
 refine RK.As rfl ?_
 refine RK.D ?_
 refine AWp_seq ?_
 refine AWp_sr hP ?_
 refine RK.M rfl ?_
 refine RK.V (op_neq rfl rfl) ?_
 refine RK.D ?_
 refine AWp_cond_false rfl rfl ?_
 refine AWp_skip ?_
 refine AWp_sr hP ?_
 refine RK.G6 hT rfl rfl rfl rfl rfl rfl ?_
 refine RK.V (Eff.call0 c2) ?_
 refine RK.V (op_move (rfl : _ = AV.t _)) ?_
 refine RK.V (op_extract rfl (v := .c _) rfl) ?_
 refine RK.V (op_extract rfl (v := .c _) rfl) ?_
 refine RK.As rfl ?_
 refine RK.As rfl ?_
 refine RK.D ?_
 refine AWp_sr hP ?_
 refine RK.M rfl ?_
 refine RK.As rfl ?_
 refine RK.As rfl ?_
 refine RK.D ?_
 refine AWp_ret ?_
 refine ends_two rfl (.inr rfl) (res_tmp rfl) (res_tmp rfl) ?_ O_ends
 exact .refl _
/- slices.IndexFunc[[]algorist/api.Form,algorist/api.Form] -/
set_option maxHeartbeats 1000000 in
set_option maxRecDepth 100000 in
theorem sl_IndexFuncF (l : List Fm) (F : FuncId) (caps : List (List DV)) (p : Fm → Bool) (hc : ∀ g ∈ l, Call0 Tryz.prog F ([FA g.a g.b g.c] ++ caps.map .ip) (B (p g))) (hl : (l.length : Int) ≤ 1000000000) :
  Call0 Tryz.prog 34 [.p (.c (SL enF l)), .fn F caps] (Z (fixI p l 0)) := by
 refine callM_of (np := 0) Tryz.func34 (by kernel_rfl) rfl rfl (Nat.le_of_ble_eq_true rfl) (fun m h => absurd rfl h) (fun m h => absurd rfl h) rfl ?_
 refine AWp_sr hP ?_
 refine RK.As rfl ?_
 refine RK.D ?_
 refine AWp_seq ?_
 refine AWp_sr hP ?_
 refine RK.M rfl ?_
 refine RK.V (op_len hT rfl rfl rfl (by rfl)) ?_
 refine RK.M rfl ?_
 refine RK.D ?_
 refine AWp_block ?_
 refine AWp_loop (ι := Nat) (fun k => stL [(0, .p (.c (SL enF l))), (1, .fn F caps), (7, Z (l.length : Int)), (8, Z (k : Int))] []) (fun k => k ≤ l.length ∧ fixI p l 0 = fixI p (l.drop k) k) (fun k => l.length - k) 0 ⟨Nat.zero_le _, rfl⟩ (le_stL ⟨.refl _, .refl _, .refl _, .refl _, trivial⟩ trivial) ?_
 rintro k ⟨hk, hI⟩
 refine AWp_sr hP ?_
 refine RK.V (op_lss rfl rfl) ?_
 refine RK.D ?_
 refine AWp_seq ?_
 refine AWp_cond rfl (fun hb1 => ?_) (fun hb1 => ?_)
 ·have hb1_ := of_decide_eq_true hb1
  have hkl : k < l.length := by omega
  refine AWp_skip ?_
  refine AWp_seq ?_
  refine AWp_block ?_
  refine AWp_sr hP ?_
  refine RK.M rfl ?_
  refine RK.As rfl ?_
  refine RK.D ?_
  refine AWp_sr hP ?_
  refine RK.V (op_move (rfl : _ = AV.fn _ _)) ?_
  refine RK.M rfl ?_
  refine RK.M rfl ?_
  refine RK.V (op_indexG hT enF_len (by decide) ⟨0, 0, 0⟩ (n := (k : Int)) (l := l) rfl rfl rfl rfl rfl rfl (by omega)) ?_
  refine RK.V (op_load_ip_agg hT rfl rfl rfl (cs := enF (l.getD k ⟨0, 0, 0⟩)) rfl rfl) ?_
  refine RK.V (Eff.callC rfl (hc (l.getD k ⟨0, 0, 0⟩) (getD_mm _ hkl))) ?_
  refine RK.D ?_
  refine AWp_cond rfl (fun hb2 => ?_) (fun hb2 => ?_)
  ·have hq := hb2
   refine AWp_sr hP ?_
   refine RK.M rfl ?_
   refine RK.As rfl ?_
   refine RK.D ?_
   refine AWp_ret ?_
   refine ends_one rfl (.inr rfl) (res_tmp rfl) ?_ O_ends
   exact Sub.int (hI.trans (fixI_hit (d := ⟨0, 0, 0⟩) (by omega) hq)).symm
  ·have hq := hb2
   refine AWp_skip ?_
   refine AWp_region hP ?_
   refine RK.V (op_add rfl rfl (by first | exact IntWalk.i64_in _ (by omega) | rfl)) ?_
   refine RK.M rfl ?_
   refine RK.D ?_
   refine ⟨k + 1, ⟨by omega, hI.trans (fixI_next (d := ⟨0, 0, 0⟩) (by omega) hq)⟩, by omega, le_stL ⟨.refl _, .refl _, .refl _, Sub.int (by omega), trivial⟩ trivial⟩
 ·have hb1_ := of_decide_eq_false hb1
  refine AWp_exit ?_
  refine AWp_sr hP ?_
  refine RK.As rfl ?_
  refine RK.D ?_
  refine AWp_ret ?_
  refine ends_one rfl (.inr rfl) (res_tmp rfl) ?_ O_ends
  exact Sub.int (hI.trans (fixI_end (by omega))).symm
end Go.Proofs.YtfdjankalhfceaaGreat
end

section
/- cycle: Same Shows -/
namespace Go.Proofs.YtfdjankalhfceaaGreat
open Go Go.AM
/- algorist/cycle.Same$1 -/
set_option maxHeartbeats 1000000 in
set_option maxRecDepth 100000 in
theorem cy_Same1 (g o : Fm) (hg : OKF g) (ho : OKF o) :
  Call0 Tryz.prog 97 [FA g.a g.b g.c, .ip (FL o.a o.b o.c)] (B (decide (g = o))) := by
 refine callM_of (np := 0) Tryz.func97 (by kernel_rfl) rfl rfl (Nat.le_of_ble_eq_true rfl) (fun m h => absurd rfl h) (fun m h => absurd rfl h) rfl ?_
 refine AWp_sr hP ?_
 refine RK.alc guard_none (op_box rfl rfl) ?_
 refine RK.As rfl ?_
 refine RK.D ?_
 refine AWp_sr hP ?_
 refine RK.G6 hT rfl rfl rfl rfl rfl rfl ?_
 refine RK.V (Eff.call0 (cy_small g hg)) ?_
 refine RK.V (op_load_ip_agg hT rfl rfl rfl (cs := [_, _, _, _, _, _]) rfl rfl) ?_
 refine RK.V (Eff.call0 (cy_small o ho)) ?_
 refine RK.V (op_eqlT3 hT rfl rfl rfl rfl rfl rfl rfl (by kernel_rfl)) ?_
 refine RK.As rfl ?_
 refine RK.D ?_
 refine AWp_ret ?_
 refine ends_one rfl (.inr rfl) (res_tmp rfl) ?_ O_ends
 exact .refl _
/- algorist/cycle.Shows$1 -/
set_option maxHeartbeats 1000000 in
set_option maxRecDepth 100000 in
theorem cy_Shows1 (g : Fm) (m : Int) :
  Call0 Tryz.prog 35 [FA g.a g.b g.c, .ip [zn m, zm m]] (B (decide (g.a = m))) := by
 refine callM_of (np := 0) Tryz.func35 (by kernel_rfl) rfl rfl (Nat.le_of_ble_eq_true rfl) (fun m h => absurd rfl h) (fun m h => absurd rfl h) rfl ?_
 refine AWp_sr hP ?_
 refine RK.alc guard_none (op_box rfl rfl) ?_
 refine RK.As rfl ?_
 refine RK.D ?_
 refine AWp_sr hP ?_
 refine RK.F hT rfl rfl rfl rfl rfl rfl ?_
 refine RK.G2 hT rfl rfl rfl rfl rfl rfl ?_
 refine RK.V (op_load_ip_agg hT rfl rfl rfl (cs := [_, _]) rfl rfl) ?_
 refine RK.V (Eff.call0 (int_Cmp _ _)) ?_
 refine RK.V (op_eql rfl rfl) ?_
 refine RK.As rfl ?_
 refine RK.D ?_
 refine AWp_ret ?_
 refine ends_one rfl (.inr rfl) (res_tmp rfl) ?_ O_ends
 exact Sub.bool (cmp_dc g.a m)
/- algorist/cycle.Same -/
set_option maxHeartbeats 4000000 in
set_option maxRecDepth 100000 in
theorem cy_Same (d : Int) (f g : Fm) (nf ng n : Nat) (y z : Fm × Mt) (hd : DOK d) (hf : f.disc = d) (hg : g.disc = d) (h1 : RdT (rootV d) f nf y) (h2 : RdT (rootV d) g ng z) (h : ArT (rootV d) y.1 n) :
  Call0 Tryz.prog 64 [FA f.a f.b f.c, FA g.a g.b g.c] (.t [PM (smR (rootV d) y z n).1, PB (smR (rootV d) y z n).2]) := by
 have hxf : OKF f := (h1.ok 0 (Nat.zero_le _)).f
 have hxg : OKF g := (h2.ok 0 (Nat.zero_le _)).f
 have hoy : OKX y := by have := h1.ok nf (Nat.le_refl _); rwa [h1.eq] at this
 have hoz : OKX z := by have := h2.ok ng (Nat.le_refl _); rwa [h2.eq] at this
 have i1 : LB f.a 6 := ⟨okS_L hxf.a⟩
 have i2 : LB f.b 6 := ⟨okS_L hxf.b⟩
 have i3 : LB f.c 6 := ⟨okS_L hxf.c⟩
 have i4 : LB g.a 6 := ⟨okS_L hxg.a⟩
 have i5 : LB g.b 6 := ⟨okS_L hxg.b⟩
 have i6 : LB g.c 6 := ⟨okS_L hxg.c⟩
 have cD1 : Call0 Tryz.prog 99 [FA f.a f.b f.c] (I d) := by rw [← hf]; exact q_Disc _ _ _ lz lz lz
 have cD2 : Call0 Tryz.prog 99 [FA g.a g.b g.c] (I d) := by rw [← hg]; exact q_Disc _ _ _ lz lz lz
 have c1 := cy_Reduce d f nf y hd hf h1
 have c2 := cy_Reduce d g ng z hd hg h2
 have c3 := cy_around d y.1 n hd (h1.disc.trans hf) h
 have hcl := cyF_len (s := rootV d) (f := y.1) (k := n)
 have hcm := cyM_len (s := rootV d) (f := y.1) (k := n)
 have hnl := h.le
 have hsl := sm_lt (rootV d) y.1 n z.1
 have hso := fun q => sm_ok (g := z.1) h q
 have cI : Call0 Tryz.prog 34 [.p (.c (SL enF (cyF (rootV d) y.1 n))), .fn 97 [FL z.1.a z.1.b z.1.c]] (Z (smI (rootV d) y.1 n z.1)) :=
  sl_IndexFuncF (cyF (rootV d) y.1 n) 97 [FL z.1.a z.1.b z.1.c] (fun x => decide (x = z.1)) (fun q hq => by
   obtain ⟨i, hi, rfl⟩ := List.mem_map.1 hq
   exact cy_Same1 _ _ (h.ok i (by have := List.mem_range.1 hi; omega)).f hoz.f) (by omega)
 obtain ⟨s, hs⟩ : ∃ s, s = rootV d := ⟨_, rfl⟩
 rw [← hs] at c3 hcl hcm hsl hso cI ⊢
 clear hs h h1 h2
 have j1 : LB y.2.a 10 := ⟨okB_L hoy.p⟩
 have j2 : LB y.2.b 10 := ⟨okB_L hoy.q⟩
 have j3 : LB y.2.c 10 := ⟨okB_L hoy.r⟩
 have j4 : LB y.2.d 10 := ⟨okB_L hoy.s⟩
 have k1 : LB z.2.a 10 := ⟨okB_L hoz.p⟩
 have k2 : LB z.2.b 10 := ⟨okB_L hoz.q⟩
 have k3 : LB z.2.c 10 := ⟨okB_L hoz.r⟩
 have k4 : LB z.2.d 10 := ⟨okB_L hoz.s⟩
 refine callM_of (np := 0) Tryz.func64 (by kernel_rfl) rfl rfl (Nat.le_of_ble_eq_true rfl) (fun m h => absurd rfl h) (fun m h => absurd rfl h) rfl ?_
 refine AWp_sr hP ?_
 refine RK.alc guard_none (op_box rfl rfl) ?_
 refine RK.alc guard_none (op_box rfl rfl) ?_
 refine RK.alc guard_none (op_alloc hT rfl rfl) ?_
 refine RK.As rfl ?_
 refine RK.D ?_
 refine AWp_sr hP ?_
 refine RK.G6 hT rfl rfl rfl rfl rfl rfl ?_
 refine RK.V (Eff.call0 c1) ?_
 refine RK.V (op_move (rfl : _ = AV.t _)) ?_
 refine RK.V (op_extract rfl (v := .a _) rfl) ?_
 refine RK.V (op_extract rfl (v := .a _) rfl) ?_
 refine RK.V (op_extract rfl (v := .c _) rfl) ?_
 refine RK.alc guard_none (op_alloc hT rfl rfl) ?_
 refine RK.alc guard_none (op_alloc hT rfl rfl) ?_
 refine RK.S hT rfl rfl rfl rfl rfl rfl rfl ?_
 refine RK.S hT rfl rfl rfl rfl rfl rfl rfl ?_
 refine RK.As rfl ?_
 refine RK.D ?_
 refine AWp_sr hP ?_
 refine RK.G6 hT rfl rfl rfl rfl rfl rfl ?_
 refine RK.V (Eff.call0 c2) ?_
 refine RK.V (op_move (rfl : _ = AV.t _)) ?_
 refine RK.V (op_extract rfl (v := .a _) rfl) ?_
 refine RK.V (op_extract rfl (v := .a _) rfl) ?_
 refine RK.V (op_extract rfl (v := .c _) rfl) ?_
 refine RK.alc guard_none (op_alloc hT rfl rfl) ?_
 refine RK.alc guard_none (op_alloc hT rfl rfl) ?_
 refine RK.S hT rfl rfl rfl rfl rfl rfl rfl ?_
 refine RK.S hT rfl rfl rfl rfl rfl rfl rfl ?_
 refine RK.As rfl ?_
 refine RK.D ?_
 refine AWp_seq ?_
 refine AWp_sr hP ?_
 refine RK.M rfl ?_
 refine RK.V (op_neq rfl rfl) ?_
 refine RK.M rfl ?_
 refine RK.val (guard_yes rfl rfl rfl) (op_move (rfl : _ = AV.p (.c _))) ?_
 refine RK.val (guard_yes rfl rfl rfl) (op_neq rfl rfl) ?_
 refine RK.V (op_pick_f rfl rfl (rfl : _ = AV.p (.c _))) ?_
 refine RK.D ?_
 refine AWp_cond_false rfl rfl ?_
 refine AWp_skip ?_
 refine AWp_sr hP ?_
 refine RK.G6 hT rfl rfl rfl rfl rfl rfl ?_
 refine RK.V (Eff.call0 c3) ?_
 refine RK.V (op_move (rfl : _ = AV.t _)) ?_
 refine RK.V (op_extract rfl (v := .c _) rfl) ?_
 refine RK.V (op_extract rfl (v := .c _) rfl) ?_
 refine RK.As rfl ?_
 refine RK.As rfl ?_
 refine RK.D ?_
 refine AWp_freezeBox (t := 9) rfl rfl ?_
 refine AWp_sr hP ?_
 refine RK.M rfl ?_
 refine RK.V (op_makeFunc rfl) ?_
 refine RK.V (Eff.call0 cI) ?_
 refine RK.As rfl ?_
 refine RK.D ?_
 refine AWp_seq ?_
 refine AWp_sr hP ?_
 refine RK.M rfl ?_
 refine RK.V (op_lss rfl rfl) ?_
 refine RK.M rfl ?_
 refine RK.split (t := 45) rfl (fun hg2 => ?_) (fun hg2 => ?_)
 ·have hg2_ := of_decide_eq_true hg2
  have hlt : smI s y.1 n z.1 < 0 := of_decide_eq_true hg2
  refine RK.skip (guard_no rfl rfl hg2) ?_
  refine RK.skip (guard_no rfl rfl hg2) ?_
  refine RK.skip (guard_no rfl rfl hg2) ?_
  refine RK.skip (guard_no rfl rfl hg2) ?_
  refine RK.skip (guard_no rfl rfl hg2) ?_
  refine RK.skip (guard_no rfl rfl hg2) ?_
  refine RK.V (op_pick_t rfl hg2 (rfl : _ = AV.p (.c _))) ?_
  refine RK.D ?_
  refine AWp_cond_true rfl rfl ?_
  refine AWp_sr hP ?_
  refine RK.V (op_build_st hT rfl rfl rfl (es := [_, _, _, _, _, _, _, _]) rfl) ?_
  refine RK.S hT rfl rfl rfl rfl rfl rfl rfl ?_
  refine RK.As rfl ?_
  refine RK.D ?_
  refine AWp_ret ?_
  refine ends_two rfl (.inr rfl) (res_cell_agg hT rfl rfl rfl rfl (cs := [_, _, _, _, _, _, _, _]) rfl rfl) (res_tmp rfl) ?_ O_ends
  exact Sub.of_eq (by unfold smR; rw [if_pos hlt])
 ·have hg2_ := of_decide_eq_false hg2
  have hge : ¬ smI s y.1 n z.1 < 0 := of_decide_eq_false hg2
  have hox := (hso hge).1
  have hNe := (hso hge).2
  have l1 : LB ((cyM s y.1 n).getD (smI s y.1 n z.1).toNat ⟨0, 0, 0, 0⟩).a 10 := ⟨by rw [hNe]; exact okB_L hox.p⟩
  have l2 : LB ((cyM s y.1 n).getD (smI s y.1 n z.1).toNat ⟨0, 0, 0, 0⟩).b 10 := ⟨by rw [hNe]; exact okB_L hox.q⟩
  have l3 : LB ((cyM s y.1 n).getD (smI s y.1 n z.1).toNat ⟨0, 0, 0, 0⟩).c 10 := ⟨by rw [hNe]; exact okB_L hox.r⟩
  have l4 : LB ((cyM s y.1 n).getD (smI s y.1 n z.1).toNat ⟨0, 0, 0, 0⟩).d 10 := ⟨by rw [hNe]; exact okB_L hox.s⟩
  refine RK.val (guard_yes rfl rfl hg2) (op_load_agg hT rfl rfl rfl rfl (cs := [_, _, _, _, _, _]) rfl rfl) ?_
  refine RK.val (guard_yes rfl rfl hg2) (Eff.call0 cD1) ?_
  refine RK.val (guard_yes rfl rfl hg2) (op_load_agg hT rfl rfl rfl rfl (cs := [_, _, _, _, _, _]) rfl rfl) ?_
  refine RK.val (guard_yes rfl rfl hg2) (Eff.call0 cD2) ?_
  refine RK.val (guard_yes rfl rfl hg2) (Eff.call0 (int_Cmp _ _)) ?_
  refine RK.val (guard_yes rfl rfl hg2) (op_neq rfl rfl) ?_
  refine RK.V (op_pick_f rfl hg2 (rfl : _ = AV.p (.c _))) ?_
  refine RK.D ?_
  refine AWp_cond_false rfl (cmp_dd d) ?_
  refine AWp_skip ?_
  refine AWp_sr hP ?_
  refine RK.F hT rfl rfl rfl rfl rfl rfl ?_
  refine RK.G2 hT rfl rfl rfl rfl rfl rfl ?_
  refine RK.F hT rfl rfl rfl rfl rfl rfl ?_
  refine RK.G2 hT rfl rfl rfl rfl rfl rfl ?_
  refine RK.V (Eff.call0 (int_Neg _)) ?_
  refine RK.F hT rfl rfl rfl rfl rfl rfl ?_
  refine RK.G2 hT rfl rfl rfl rfl rfl rfl ?_
  refine RK.V (Eff.call0 (int_Neg _)) ?_
  refine RK.F hT rfl rfl rfl rfl rfl rfl ?_
  refine RK.G2 hT rfl rfl rfl rfl rfl rfl ?_
  refine RK.V (op_build_st hT rfl rfl rfl (es := [_, _, _, _, _, _, _, _]) rfl) ?_
  refine RK.alc guard_none (op_alloc hT rfl rfl) ?_
  refine RK.S hT rfl rfl rfl rfl rfl rfl rfl ?_
  refine RK.D ?_
  refine AWp_sr hP ?_
  refine RK.V (op_load_agg hT rfl rfl rfl rfl (cs := [_, _, _, _, _, _, _, _]) rfl rfl) ?_
  refine RK.M rfl ?_
  refine RK.M rfl ?_
  refine RK.V (op_indexG hT enM_len (by decide) ⟨0, 0, 0, 0⟩ (n := smI s y.1 n z.1) (l := cyM s y.1 n) rfl rfl rfl rfl rfl rfl (by omega)) ?_
  refine RK.V (op_load_ip_agg hT rfl rfl rfl (cs := enM ((cyM s y.1 n).getD (smI s y.1 n z.1).toNat ⟨0, 0, 0, 0⟩)) rfl rfl) ?_
  refine RK.V (Eff.call0 (q_Times y.2.a y.2.b y.2.c y.2.d ((cyM s y.1 n).getD (smI s y.1 n z.1).toNat ⟨0, 0, 0, 0⟩).a ((cyM s y.1 n).getD (smI s y.1 n z.1).toNat ⟨0, 0, 0, 0⟩).b ((cyM s y.1 n).getD (smI s y.1 n z.1).toNat ⟨0, 0, 0, 0⟩).c ((cyM s y.1 n).getD (smI s y.1 n z.1).toNat ⟨0, 0, 0, 0⟩).d lz lz lz lz lz lz lz lz)) ?_
  refine RK.V (op_load_agg hT rfl rfl rfl rfl (cs := [_, _, _, _, _, _, _, _]) rfl rfl) ?_
  refine RK.V (Eff.call0 (q_Times _ _ _ _ _ _ _ _ lz lz lz lz lz lz lz lz)) ?_
  refine RK.S hT rfl rfl rfl rfl rfl rfl rfl ?_
  refine RK.As rfl ?_
  refine RK.D ?_
  refine AWp_ret ?_
  refine ends_two rfl (.inr rfl) (res_cell_agg hT rfl rfl rfl rfl (cs := [_, _, _, _, _, _, _, _]) rfl rfl) (res_tmp rfl) ?_ O_ends
  exact Sub.of_eq (by unfold smR; rw [if_neg hge]; rfl)
/- algorist/cycle.Shows -/
set_option maxHeartbeats 2000000 in
set_option maxRecDepth 100000 in
theorem cy_Shows (d : Int) (f : Fm) (n0 n : Nat) (y : Fm × Mt) (m : Int) (hd : DOK d) (hf : f.disc = d) (h0 : RdT (rootV d) f n0 y) (h : ArT (rootV d) y.1 n) :
  Call0 Tryz.prog 10 [FA f.a f.b f.c, I m] (.t [PF (shR (cyF (rootV d) y.1 n) m).1, PE (shR (cyF (rootV d) y.1 n) m).2]) := by
 have c1 := cy_Cycle d f n0 n y hd hf h0 h
 have hcl := cyF_len (s := rootV d) (f := y.1) (k := n)
 have hnl := h.le
 generalize cyF (rootV d) y.1 n = l at c1 hcl ⊢
 have hsl := sh_lt l m
 have cI : Call0 Tryz.prog 34 [.p (.c (SL enF l)), .fn 35 [[zn m, zm m]]] (Z (shI l m)) := sl_IndexFuncF l 35 [[zn m, zm m]] (fun g : Fm => decide (g.a = m)) (fun q _ => cy_Shows1 q m) (by omega)
 refine callM_of (np := 0) Tryz.func10 (by kernel_rfl) rfl rfl (Nat.le_of_ble_eq_true rfl) (fun m h => absurd rfl h) (fun m h => absurd rfl h) rfl ?_
 refine AWp_sr hP ?_
 refine RK.alc guard_none (op_box rfl rfl) ?_
 refine RK.alc guard_none (op_box rfl rfl) ?_
 refine RK.alc guard_none (op_alloc hT rfl rfl) ?_
 refine RK.As rfl ?_
 refine RK.D ?_
 refine AWp_sr hP ?_
 refine RK.G6 hT rfl rfl rfl rfl rfl rfl ?_
 refine RK.V (Eff.call0 c1) ?_
 refine RK.V (op_move (rfl : _ = AV.t _)) ?_
 refine RK.V (op_extract rfl (v := .c _) rfl) ?_
 refine RK.V (op_extract rfl (v := .c _) rfl) ?_
 refine RK.As rfl ?_
 refine RK.As rfl ?_
 refine RK.D ?_
 refine AWp_seq ?_
 refine AWp_sr hP ?_
 refine RK.M rfl ?_
 refine RK.V (op_neq rfl rfl) ?_
 refine RK.D ?_
 refine AWp_cond_false rfl rfl ?_
 refine AWp_skip ?_
 refine AWp_freezeBox (t := 3) rfl rfl ?_
 refine AWp_sr hP ?_
 refine RK.M rfl ?_
 refine RK.V (op_makeFunc rfl) ?_
 refine RK.V (Eff.call0 cI) ?_
 refine RK.As rfl ?_
 refine RK.D ?_
 refine AWp_seq ?_
 refine AWp_sr hP ?_
 refine RK.M rfl ?_
 refine RK.V (op_lss rfl rfl) ?_
 refine RK.D ?_
 refine AWp_cond rfl (fun hb1 => ?_) (fun hb1 => ?_)
 ·have hb1_ := of_decide_eq_true hb1
  have hlt : shI l m < 0 := of_decide_eq_true hb1
  refine AWp_sr hP ?_
  refine RK.V (op_build_st hT rfl rfl rfl (es := [_, _, _, _, _, _]) rfl) ?_
  refine RK.S hT rfl rfl rfl rfl rfl rfl rfl ?_
  refine RK.As rfl ?_
  refine RK.D ?_
  refine AWp_ret ?_
  refine ends_two rfl (.inr rfl) (res_cell_agg hT rfl rfl rfl rfl (cs := [_, _, _, _, _, _]) rfl rfl) (res_tmp rfl) ?_ O_ends
  exact Sub.of_eq (by unfold shR; rw [if_pos hlt])
 ·have hb1_ := of_decide_eq_false hb1
  have hge : ¬ shI l m < 0 := of_decide_eq_false hb1
  refine AWp_skip ?_
  refine AWp_sr hP ?_
  refine RK.M rfl ?_
  refine RK.M rfl ?_
  refine RK.V (op_indexG hT enF_len (by decide) ⟨0, 0, 0⟩ (n := shI l m) (l := l) rfl rfl rfl rfl rfl rfl (by omega)) ?_
  refine RK.V (op_load_ip_agg hT rfl rfl rfl (cs := enF (l.getD (shI l m).toNat ⟨0, 0, 0⟩)) rfl rfl) ?_
  refine RK.S hT rfl rfl rfl rfl rfl rfl rfl ?_
  refine RK.As rfl ?_
  refine RK.D ?_
  refine AWp_ret ?_
  refine ends_two rfl (.inr rfl) (res_cell_agg hT rfl rfl rfl rfl (cs := [_, _, _, _, _, _]) rfl rfl) (res_tmp rfl) ?_ O_ends
  exact Sub.of_eq (by unfold shR; rw [if_neg hge])
end Go.Proofs.YtfdjankalhfceaaGreat
end

section
/- unit: fractions -/
namespace Go.Proofs.YtfdjankalhfceaaGreat
open Go Go.AM
/- algorist/unit.of -/
set_option maxHeartbeats 1000000 in
set_option maxRecDepth 100000 in
theorem un_of (z : Int) (hz : InI64 z) :
  Call0 Tryz.prog 37 [.p (.c (.v (.int .i64 z)))] (I z) := by
 refine callM_of (np := 0) Tryz.func37 (by kernel_rfl) rfl rfl (Nat.le_of_ble_eq_true rfl) (fun m h => absurd rfl h) (fun m h => absurd rfl h) rfl ?_
 refine AWp_sr hP ?_
 refine RK.alc guard_none (op_alloc hT rfl rfl) ?_
 refine RK.D ?_
 refine AWp_sr hP ?_
 refine RK.M rfl ?_
 refine RK.V (Eff.call0 (int_Of z hz)) ?_
 refine RK.S hT rfl rfl rfl rfl rfl rfl rfl ?_
 refine RK.D ?_
 refine AWp_ret ?_
 refine ends_one rfl (.inr rfl) (res_cell_agg hT rfl rfl rfl rfl (cs := [_, _]) rfl rfl) ?_ O_ends
 exact .refl _
/- algorist/unit.refused -/
set_option maxHeartbeats 1000000 in
set_option maxRecDepth 100000 in
theorem un_refused (d : Int) (hd : DOK d) :
  Call0 Tryz.prog 36 [I d] (Z 0) := by
 have id : LB d 6 := ⟨hd.L6⟩
 have cP : Call0 Tryz.prog 8 [I d] (.t [PF ⟨1, d % 4, -(d / 4)⟩, PE 0]) := by
  have h := q_Principal d lz
  rwa [(rf_ok hd).1, (rf_ok hd).2] at h
 refine callM_of (np := 0) Tryz.func36 (by kernel_rfl) rfl rfl (Nat.le_of_ble_eq_true rfl) (fun m h => absurd rfl h) (fun m h => absurd rfl h) rfl ?_
 refine AWp_sr hP ?_
 refine RK.alc guard_none (op_box rfl rfl) ?_
 refine RK.As rfl ?_
 refine RK.D ?_
 refine AWp_seq ?_
 refine AWp_sr hP ?_
 refine RK.G2 hT rfl rfl rfl rfl rfl rfl ?_
 refine RK.V (Eff.call0 cP) ?_
 refine RK.V (op_move (rfl : _ = AV.t _)) ?_
 refine RK.V (op_extract rfl (v := .a _) rfl) ?_
 refine RK.V (op_extract rfl (v := .c _) rfl) ?_
 refine RK.alc guard_none (op_alloc hT rfl rfl) ?_
 refine RK.S hT rfl rfl rfl rfl rfl rfl rfl ?_
 refine RK.As rfl ?_
 refine RK.D ?_
 refine AWp_sr hP ?_
 refine RK.M rfl ?_
 refine RK.V (op_neq rfl rfl) ?_
 refine RK.M rfl ?_
 refine RK.val (guard_yes rfl rfl rfl) (op_load_agg hT rfl rfl rfl rfl (cs := [_, _]) rfl rfl) ?_
 refine RK.val (guard_yes rfl rfl rfl) (Eff.call0 (int_Sign _)) ?_
 refine RK.val (guard_yes rfl rfl rfl) (op_lss rfl rfl) ?_
 refine RK.V (op_pick_f rfl rfl (rfl : _ = AV.p (.c _))) ?_
 refine RK.D ?_
 refine AWp_cond_false rfl (sg_d hd) ?_
 refine AWp_skip ?_
 refine AWp_seq ?_
 refine AWp_sr hP ?_
 refine RK.G2 hT rfl rfl rfl rfl rfl rfl ?_
 refine RK.V (Eff.call0 (un_of _ (by first | assumption | decide))) ?_
 refine RK.V (Eff.call0 (int_Cmp _ _)) ?_
 refine RK.V (op_gtr rfl rfl) ?_
 refine RK.D ?_
 refine AWp_cond_false rfl (rf_hi hd) ?_
 refine AWp_skip ?_
 refine AWp_sr hP ?_
 refine RK.As rfl ?_
 refine RK.D ?_
 refine AWp_ret ?_
 refine ends_one rfl (.inr rfl) (res_tmp rfl) ?_ O_ends
 exact .refl _
/- (algorist/unit.fraction).least$1 -/
set_option maxHeartbeats 1000000 in
set_option maxRecDepth 100000 in
theorem un_least1 (x g : Int) (hx : L 44 x) (hg : L 44 g) (h0 : g ≠ 0) :
  Call0 Tryz.prog 78 [I x, .ip [zn g, zm g]] (I (x / g)) := by
 refine callM_of (np := 0) Tryz.func78 (by kernel_rfl) rfl rfl (Nat.le_of_ble_eq_true rfl) (fun m h => absurd rfl h) (fun m h => absurd rfl h) rfl ?_
 refine AWp_sr hP ?_
 refine RK.alc guard_none (op_box rfl rfl) ?_
 refine RK.alc guard_none (op_alloc hT rfl rfl) ?_
 refine RK.D ?_
 refine AWp_sr hP ?_
 refine RK.G2 hT rfl rfl rfl rfl rfl rfl ?_
 refine RK.V (op_load_ip_agg hT rfl rfl rfl (cs := [_, _]) rfl rfl) ?_
 refine RK.V (Eff.call0 (int_DivMod x g hx hg h0)) ?_
 refine RK.V (op_move (rfl : _ = AV.t _)) ?_
 refine RK.V (op_extract rfl (v := .a _) rfl) ?_
 refine RK.V (op_extract rfl (v := .a _) rfl) ?_
 refine RK.V (op_extract rfl (v := .c _) rfl) ?_
 refine RK.alc guard_none (op_alloc hT rfl rfl) ?_
 refine RK.alc guard_none (op_alloc hT rfl rfl) ?_
 refine RK.S hT rfl rfl rfl rfl rfl rfl rfl ?_
 refine RK.S hT rfl rfl rfl rfl rfl rfl rfl ?_
 refine RK.As rfl ?_
 refine RK.D ?_
 refine AWp_sr hP ?_
 refine RK.G2 hT rfl rfl rfl rfl rfl rfl ?_
 refine RK.S hT rfl rfl rfl rfl rfl rfl rfl ?_
 refine RK.D ?_
 refine AWp_ret ?_
 refine ends_one rfl (.inr rfl) (res_cell_agg hT rfl rfl rfl rfl (cs := [_, _]) rfl rfl) ?_ O_ends
 exact .refl _
/- (algorist/unit.fraction).least -/
set_option maxHeartbeats 2000000 in
set_option maxRecDepth 100000 in
theorem un_least (q : Mt) (h : LM 40 q) (hc : q.c ≠ 0) :
  Call0 Tryz.prog 40 [.p (.a (ML q.a q.b q.c q.d))] (.p (PM (lsF q))) := by
 have hi1 : LB q.a 40 := ⟨h.a⟩
 have hi2 : LB q.b 40 := ⟨h.b⟩
 have hi3 : LB q.c 40 := ⟨h.c⟩
 have hi4 : LB q.d 40 := ⟨h.d⟩
 have hgn := lsg_ne (x := q.a) (y := q.b) hc
 have hgL : L 40 (lsg q.a q.b q.c) := lsg_L hc h.c
 have hig := LB_gcd (h.a) (h.b)
 have cL := fun x hx => un_least1 x (lsg q.a q.b q.c) hx (hgL.mono (by decide)) hgn
 have c1 := int_Gcd q.a q.b lz lz
 have c2 := int_Gcd (Int.gcd q.a q.b : Nat) q.c lz lz
 have hz : zn q.c = .v (.bool (decide (q.c < 0))) := rfl
 refine callM_of (np := 0) Tryz.func40 (by kernel_rfl) rfl rfl (Nat.le_of_ble_eq_true rfl) (fun m h => absurd rfl h) (fun m h => absurd rfl h) rfl ?_
 refine AWp_sr hP ?_
 refine RK.alc guard_none (op_box rfl rfl) ?_
 refine RK.alc guard_none (op_alloc hT rfl rfl) ?_
 refine RK.D ?_
 refine AWp_sr hP ?_
 refine RK.F hT rfl rfl rfl rfl rfl rfl ?_
 refine RK.G2 hT rfl rfl rfl rfl rfl rfl ?_
 refine RK.F hT rfl rfl rfl rfl rfl rfl ?_
 refine RK.G2 hT rfl rfl rfl rfl rfl rfl ?_
 refine RK.V (Eff.call0 c1) ?_
 refine RK.F hT rfl rfl rfl rfl rfl rfl ?_
 refine RK.G2 hT rfl rfl rfl rfl rfl rfl ?_
 refine RK.V (Eff.call0 c2) ?_
 refine RK.alc guard_none (op_alloc hT rfl rfl) ?_
 refine RK.S hT rfl rfl rfl rfl rfl rfl rfl ?_
 refine RK.D ?_
 refine AWp_seq ?_
 refine AWp_sr hP ?_
 refine RK.F hT rfl rfl rfl rfl rfl rfl ?_
 refine RK.F hT rfl rfl rfl rfl rfl rfl ?_
 refine RK.V (op_load_one hT rfl rfl rfl rfl (by first | rfl | exact vget (by omega))) ?_
 refine RK.D ?_
 refine AWp_cond rfl (fun hb1 => ?_) (fun hb1 => ?_)
 ·have hneg : q.c < 0 := of_decide_eq_true hb1
  have hge : -((Int.gcd (Int.gcd q.a q.b : Nat) q.c : Nat) : Int) = (lsg q.a q.b q.c) := (if_pos hneg).symm
  refine AWp_region hP ?_
  refine RK.G2 hT rfl rfl rfl rfl rfl rfl ?_
  refine RK.V (Eff.call0 (int_Neg _)) ?_
  refine RK.S hT rfl rfl rfl rfl rfl rfl rfl ?_
  refine RK.D ?_
  refine AWp_le (t := stL [(1, .loc 1 0), (2, .loc 2 0), (3, .loc 3 0)] [(1, ⟨false, 1, 87, ML q.a q.b q.c q.d⟩), (2, ⟨false, 1, 87, [zn 0, zm 0, zn 0, zm 0, zn 0, zm 0, zn 0, zm 0]⟩), (3, ⟨false, 1, 26, [zn (lsg q.a q.b q.c), zm (lsg q.a q.b q.c)]⟩)]) (le_stL ⟨.refl _, .refl _, .refl _, trivial⟩ ⟨rfl, rfl, Eq.trans rfl (congrArg (fun g : Int => some (⟨false, 1, 26, [zn g, zm g]⟩ : Blk)) hge), trivial⟩) ?_
  refine AWp_freezeBox (t := 3) rfl rfl ?_
  refine AWp_sr hP ?_
  refine RK.V (op_makeFunc rfl) ?_
  refine RK.V (op_assign (rfl : _ = AV.fn _ _)) ?_
  refine RK.D ?_
  refine AWp_sr hP ?_
  refine RK.V (op_move (rfl : _ = AV.fn _ _)) ?_
  refine RK.F hT rfl rfl rfl rfl rfl rfl ?_
  refine RK.G2 hT rfl rfl rfl rfl rfl rfl ?_
  refine RK.V (Eff.callC rfl (cL q.a lz)) ?_
  refine RK.V (op_move (rfl : _ = AV.fn _ _)) ?_
  refine RK.F hT rfl rfl rfl rfl rfl rfl ?_
  refine RK.G2 hT rfl rfl rfl rfl rfl rfl ?_
  refine RK.V (Eff.callC rfl (cL q.b lz)) ?_
  refine RK.V (op_move (rfl : _ = AV.fn _ _)) ?_
  refine RK.F hT rfl rfl rfl rfl rfl rfl ?_
  refine RK.G2 hT rfl rfl rfl rfl rfl rfl ?_
  refine RK.V (Eff.callC rfl (cL q.c lz)) ?_
  refine RK.F hT rfl rfl rfl rfl rfl rfl ?_
  refine RK.G2 hT rfl rfl rfl rfl rfl rfl ?_
  refine RK.V (op_build_st hT rfl rfl rfl (es := [_, _, _, _, _, _, _, _]) rfl) ?_
  refine RK.S hT rfl rfl rfl rfl rfl rfl rfl ?_
  refine RK.D ?_
  refine AWp_ret ?_
  refine ends_one rfl (.inr rfl) (res_cell_agg hT rfl rfl rfl rfl (cs := [_, _, _, _, _, _, _, _]) rfl rfl) ?_ O_ends
  exact .refl _
 ·have hneg : ¬ q.c < 0 := of_decide_eq_false hb1
  have hge : ((Int.gcd (Int.gcd q.a q.b : Nat) q.c : Nat) : Int) = (lsg q.a q.b q.c) := (if_neg hneg).symm
  refine AWp_skip ?_
  refine AWp_le (t := stL [(1, .loc 1 0), (2, .loc 2 0), (3, .loc 3 0)] [(1, ⟨false, 1, 87, ML q.a q.b q.c q.d⟩), (2, ⟨false, 1, 87, [zn 0, zm 0, zn 0, zm 0, zn 0, zm 0, zn 0, zm 0]⟩), (3, ⟨false, 1, 26, [zn (lsg q.a q.b q.c), zm (lsg q.a q.b q.c)]⟩)]) (le_stL ⟨.refl _, .refl _, .refl _, trivial⟩ ⟨rfl, rfl, Eq.trans rfl (congrArg (fun g : Int => some (⟨false, 1, 26, [zn g, zm g]⟩ : Blk)) hge), trivial⟩) ?_
  refine AWp_freezeBox (t := 3) rfl rfl ?_
  refine AWp_sr hP ?_
  refine RK.V (op_makeFunc rfl) ?_
  refine RK.V (op_assign (rfl : _ = AV.fn _ _)) ?_
  refine RK.D ?_
  refine AWp_sr hP ?_
  refine RK.V (op_move (rfl : _ = AV.fn _ _)) ?_
  refine RK.F hT rfl rfl rfl rfl rfl rfl ?_
  refine RK.G2 hT rfl rfl rfl rfl rfl rfl ?_
  refine RK.V (Eff.callC rfl (cL q.a lz)) ?_
  refine RK.V (op_move (rfl : _ = AV.fn _ _)) ?_
  refine RK.F hT rfl rfl rfl rfl rfl rfl ?_
  refine RK.G2 hT rfl rfl rfl rfl rfl rfl ?_
  refine RK.V (Eff.callC rfl (cL q.b lz)) ?_
  refine RK.V (op_move (rfl : _ = AV.fn _ _)) ?_
  refine RK.F hT rfl rfl rfl rfl rfl rfl ?_
  refine RK.G2 hT rfl rfl rfl rfl rfl rfl ?_
  refine RK.V (Eff.callC rfl (cL q.c lz)) ?_
  refine RK.F hT rfl rfl rfl rfl rfl rfl ?_
  refine RK.G2 hT rfl rfl rfl rfl rfl rfl ?_
  refine RK.V (op_build_st hT rfl rfl rfl (es := [_, _, _, _, _, _, _, _]) rfl) ?_
  refine RK.S hT rfl rfl rfl rfl rfl rfl rfl ?_
  refine RK.D ?_
  refine AWp_ret ?_
  refine ends_one rfl (.inr rfl) (res_cell_agg hT rfl rfl rfl rfl (cs := [_, _, _, _, _, _, _, _]) rfl rfl) ?_ O_ends
  exact .refl _
/- (algorist/unit.fraction).times -/
set_option maxHeartbeats 2000000 in
set_option maxRecDepth 100000 in
theorem un_times (f g : Mt) (hf : LM 30 f) (hg : LM 30 g) (h1 : f.c ≠ 0) (h2 : g.c ≠ 0) :
  Call0 Tryz.prog 39 [.p (.a (ML f.a f.b f.c f.d)), .p (.a (ML g.a g.b g.c g.d))] (.p (PM (tmF f g))) := by
 have hfi1 : LB f.a 30 := ⟨hf.a⟩
 have hfi2 : LB f.b 30 := ⟨hf.b⟩
 have hfi3 : LB f.c 30 := ⟨hf.c⟩
 have hfi4 : LB f.d 30 := ⟨hf.d⟩
 have hgi1 : LB g.a 30 := ⟨hg.a⟩
 have hgi2 : LB g.b 30 := ⟨hg.b⟩
 have hgi3 : LB g.c 30 := ⟨hg.c⟩
 have hgi4 : LB g.d 30 := ⟨hg.d⟩
 have cL := un_least (tmR f g) ((tmR_L hf hg).mono (by decide)) (tmR_c h1 h2)
 refine callM_of (np := 0) Tryz.func39 (by kernel_rfl) rfl rfl (Nat.le_of_ble_eq_true rfl) (fun m h => absurd rfl h) (fun m h => absurd rfl h) rfl ?_
 refine AWp_sr hP ?_
 refine RK.alc guard_none (op_box rfl rfl) ?_
 refine RK.alc guard_none (op_box rfl rfl) ?_
 refine RK.alc guard_none (op_alloc hT rfl rfl) ?_
 refine RK.D ?_
 refine AWp_sr hP ?_
 refine RK.F hT rfl rfl rfl rfl rfl rfl ?_
 refine RK.G2 hT rfl rfl rfl rfl rfl rfl ?_
 refine RK.F hT rfl rfl rfl rfl rfl rfl ?_
 refine RK.G2 hT rfl rfl rfl rfl rfl rfl ?_
 refine RK.V (Eff.call0 (int_Mul _ _ lz lz)) ?_
 refine RK.F hT rfl rfl rfl rfl rfl rfl ?_
 refine RK.G2 hT rfl rfl rfl rfl rfl rfl ?_
 refine RK.F hT rfl rfl rfl rfl rfl rfl ?_
 refine RK.G2 hT rfl rfl rfl rfl rfl rfl ?_
 refine RK.F hT rfl rfl rfl rfl rfl rfl ?_
 refine RK.G2 hT rfl rfl rfl rfl rfl rfl ?_
 refine RK.V (Eff.call0 (int_Mul _ _ lz lz)) ?_
 refine RK.V (Eff.call0 (int_Mul _ _ lz lz)) ?_
 refine RK.V (Eff.call0 (int_Add _ _ lz lz)) ?_
 refine RK.alc guard_none (op_alloc hT rfl rfl) ?_
 refine RK.S hT rfl rfl rfl rfl rfl rfl rfl ?_
 refine RK.D ?_
 refine AWp_sr hP ?_
 refine RK.F hT rfl rfl rfl rfl rfl rfl ?_
 refine RK.G2 hT rfl rfl rfl rfl rfl rfl ?_
 refine RK.F hT rfl rfl rfl rfl rfl rfl ?_
 refine RK.G2 hT rfl rfl rfl rfl rfl rfl ?_
 refine RK.V (Eff.call0 (int_Mul _ _ lz lz)) ?_
 refine RK.F hT rfl rfl rfl rfl rfl rfl ?_
 refine RK.G2 hT rfl rfl rfl rfl rfl rfl ?_
 refine RK.F hT rfl rfl rfl rfl rfl rfl ?_
 refine RK.G2 hT rfl rfl rfl rfl rfl rfl ?_
 refine RK.V (Eff.call0 (int_Mul _ _ lz lz)) ?_
 refine RK.V (Eff.call0 (int_Add _ _ lz lz)) ?_
 refine RK.alc guard_none (op_alloc hT rfl rfl) ?_
 refine RK.S hT rfl rfl rfl rfl rfl rfl rfl ?_
 refine RK.D ?_
 refine AWp_sr hP ?_
 refine RK.G2 hT rfl rfl rfl rfl rfl rfl ?_
 refine RK.G2 hT rfl rfl rfl rfl rfl rfl ?_
 refine RK.F hT rfl rfl rfl rfl rfl rfl ?_
 refine RK.G2 hT rfl rfl rfl rfl rfl rfl ?_
 refine RK.F hT rfl rfl rfl rfl rfl rfl ?_
 refine RK.G2 hT rfl rfl rfl rfl rfl rfl ?_
 refine RK.V (Eff.call0 (int_Mul _ _ lz lz)) ?_
 refine RK.F hT rfl rfl rfl rfl rfl rfl ?_
 refine RK.G2 hT rfl rfl rfl rfl rfl rfl ?_
 refine RK.V (op_build_st hT rfl rfl rfl (es := [_, _, _, _, _, _, _, _]) rfl) ?_
 refine RK.V (Eff.call0 cL) ?_
 refine RK.S hT rfl rfl rfl rfl rfl rfl rfl ?_
 refine RK.D ?_
 refine AWp_ret ?_
 refine ends_one rfl (.inr rfl) (res_cell_agg hT rfl rfl rfl rfl (cs := [_, _, _, _, _, _, _, _]) rfl rfl) ?_ O_ends
 exact .refl _
/- (algorist/unit.fraction).power -/
set_option maxHeartbeats 2000000 in
set_option maxRecDepth 100000 in
theorem un_power1 (f : Mt) (hf : LM 20 f) (h1 : f.c ≠ 0) :
  Call0 Tryz.prog 41 [.p (.a (ML f.a f.b f.c f.d)), Z 1] (.p (PM (tmF ⟨1, 0, 1, f.d⟩ f))) := by
 have hone : LM 20 ⟨1, 0, 1, f.d⟩ := ⟨(LB.le (z := 1)).mono (by decide), (LB.le (z := 0)).mono (by decide), (LB.le (z := 1)).mono (by decide), hf.d⟩
 have c1 := un_times ⟨1, 0, 1, f.d⟩ f (hone.mono (by decide)) (hf.mono (by decide)) (show (1 : Int) ≠ 0 by decide) h1
 have c2 := un_times f f (hf.mono (by decide)) (hf.mono (by decide)) h1 h1
 refine callM_of (np := 0) Tryz.func41 (by kernel_rfl) rfl rfl (Nat.le_of_ble_eq_true rfl) (fun m h => absurd rfl h) (fun m h => absurd rfl h) rfl ?_
 refine AWp_sr hP ?_
 refine RK.alc guard_none (op_box rfl rfl) ?_
 refine RK.alc guard_none (op_alloc hT rfl rfl) ?_
 refine RK.D ?_
 refine AWp_seq ?_
 refine AWp_sr hP ?_
 refine RK.M rfl ?_
 refine RK.V (op_lss rfl rfl) ?_
 refine RK.D ?_
 refine AWp_cond_false rfl rfl ?_
 refine AWp_skip ?_
 refine AWp_sr hP ?_
 refine RK.V (Eff.call0 (un_of _ (by first | assumption | decide))) ?_
 refine RK.V (op_build_st hT rfl rfl rfl (es := [_, _]) rfl) ?_
 refine RK.V (Eff.call0 (un_of _ (by first | assumption | decide))) ?_
 refine RK.F hT rfl rfl rfl rfl rfl rfl ?_
 refine RK.G2 hT rfl rfl rfl rfl rfl rfl ?_
 refine RK.V (op_build_st hT rfl rfl rfl (es := [_, _, _, _, _, _, _, _]) rfl) ?_
 refine RK.alc guard_none (op_alloc hT rfl rfl) ?_
 refine RK.S hT rfl rfl rfl rfl rfl rfl rfl ?_
 refine RK.D ?_
 refine AWp_seq ?_
 refine AWp_block ?_
 refine AWp_unroll 2 ?_
 refine AWp_seq ?_
 refine AWp_sr hP ?_
 refine RK.M rfl ?_
 refine RK.V (op_gtr rfl rfl) ?_
 refine RK.D ?_
 refine AWp_cond_true rfl (by decide) ?_
 refine AWp_skip ?_
 refine AWp_seq ?_
 refine AWp_block ?_
 refine AWp_seq ?_
 refine AWp_sr hP ?_
 refine RK.M rfl ?_
 refine RK.V (op_rem rfl rfl (by first | decide | omega) (by first | exact Int.tmod_eq_emod_of_nonneg (by omega) | rfl)) ?_
 refine RK.V (op_eql rfl rfl) ?_
 refine RK.D ?_
 refine AWp_cond_true rfl rfl ?_
 refine AWp_region hP ?_
 refine RK.V (op_load_agg hT rfl rfl rfl rfl (cs := [_, _, _, _, _, _, _, _]) rfl rfl) ?_
 refine RK.V (op_load_agg hT rfl rfl rfl rfl (cs := [_, _, _, _, _, _, _, _]) rfl rfl) ?_
 refine RK.V (Eff.call0 c1) ?_
 refine RK.S hT rfl rfl rfl rfl rfl rfl rfl ?_
 refine RK.D ?_
 refine AWp_region hP ?_
 refine RK.V (op_load_agg hT rfl rfl rfl rfl (cs := [_, _, _, _, _, _, _, _]) rfl rfl) ?_
 refine RK.V (op_load_agg hT rfl rfl rfl rfl (cs := [_, _, _, _, _, _, _, _]) rfl rfl) ?_
 refine RK.V (Eff.call0 c2) ?_
 refine RK.S hT rfl rfl rfl rfl rfl rfl rfl ?_
 refine RK.D ?_
 refine AWp_region hP ?_
 refine RK.M rfl ?_
 refine RK.V (op_quo rfl rfl (by first | decide | omega) (by first | exact IntWalk.i64_in _ (by omega) | rfl)) ?_
 refine RK.As rfl ?_
 refine RK.D ?_
 refine AWp_seq ?_
 refine AWp_sr hP ?_
 refine RK.M rfl ?_
 refine RK.V (op_gtr rfl rfl) ?_
 refine RK.D ?_
 refine AWp_cond_false rfl (by decide) ?_
 refine AWp_exit ?_
 refine AWp_sr hP ?_
 refine RK.V (op_load_agg hT rfl rfl rfl rfl (cs := [_, _, _, _, _, _, _, _]) rfl rfl) ?_
 refine RK.S hT rfl rfl rfl rfl rfl rfl rfl ?_
 refine RK.D ?_
 refine AWp_ret ?_
 refine ends_one rfl (.inr rfl) (res_cell_agg hT rfl rfl rfl rfl (cs := [_, _, _, _, _, _, _, _]) rfl rfl) ?_ O_ends
 exact .refl _
/- (algorist/unit.fraction).norm -/
set_option maxHeartbeats 1000000 in
set_option maxRecDepth 100000 in
theorem un_norm (f : Mt) (hf : LM 30 f) :
  Call0 Tryz.prog 119 [.p (.a (ML f.a f.b f.c f.d))] (I (f.a * f.a - f.d * (f.b * f.b))) := by
 have hfi1 : LB f.a 30 := ⟨hf.a⟩
 have hfi2 : LB f.b 30 := ⟨hf.b⟩
 have hfi3 : LB f.c 30 := ⟨hf.c⟩
 have hfi4 : LB f.d 30 := ⟨hf.d⟩
 refine callM_of (np := 0) Tryz.func119 (by kernel_rfl) rfl rfl (Nat.le_of_ble_eq_true rfl) (fun m h => absurd rfl h) (fun m h => absurd rfl h) rfl ?_
 refine AWp_sr hP ?_
 refine RK.alc guard_none (op_box rfl rfl) ?_
 refine RK.alc guard_none (op_alloc hT rfl rfl) ?_
 refine RK.D ?_
 refine AWp_sr hP ?_
 refine RK.F hT rfl rfl rfl rfl rfl rfl ?_
 refine RK.G2 hT rfl rfl rfl rfl rfl rfl ?_
 refine RK.F hT rfl rfl rfl rfl rfl rfl ?_
 refine RK.G2 hT rfl rfl rfl rfl rfl rfl ?_
 refine RK.V (Eff.call0 (int_Mul _ _ lz lz)) ?_
 refine RK.F hT rfl rfl rfl rfl rfl rfl ?_
 refine RK.G2 hT rfl rfl rfl rfl rfl rfl ?_
 refine RK.F hT rfl rfl rfl rfl rfl rfl ?_
 refine RK.G2 hT rfl rfl rfl rfl rfl rfl ?_
 refine RK.F hT rfl rfl rfl rfl rfl rfl ?_
 refine RK.G2 hT rfl rfl rfl rfl rfl rfl ?_
 refine RK.V (Eff.call0 (int_Mul _ _ lz lz)) ?_
 refine RK.V (Eff.call0 (int_Mul _ _ lz lz)) ?_
 refine RK.V (Eff.call0 (int_Sub _ _ lz lz)) ?_
 refine RK.S hT rfl rfl rfl rfl rfl rfl rfl ?_
 refine RK.D ?_
 refine AWp_ret ?_
 refine ends_one rfl (.inr rfl) (res_cell_agg hT rfl rfl rfl rfl (cs := [_, _]) rfl rfl) ?_ O_ends
 exact .refl _
/- algorist/unit.integral -/
set_option maxHeartbeats 1000000 in
set_option maxRecDepth 100000 in
theorem un_integral (q : Qd) (d : Int) (h : LQ 30 q) (hd : L 30 d) :
  Call0 Tryz.prog 81 [QA q, I d] (B (evB q d)) := by
 have hi1 : LB q.1 30 := ⟨h.x⟩
 have hi2 : LB q.2 30 := ⟨h.y⟩
 have id : LB d 30 := ⟨hd⟩
 refine callM_of (np := 0) Tryz.func81 (by kernel_rfl) rfl rfl (Nat.le_of_ble_eq_true rfl) (fun m h => absurd rfl h) (fun m h => absurd rfl h) rfl ?_
 refine AWp_sr hP ?_
 refine RK.alc guard_none (op_box rfl rfl) ?_
 refine RK.alc guard_none (op_box rfl rfl) ?_
 refine RK.As rfl ?_
 refine RK.D ?_
 refine AWp_sr hP ?_
 refine RK.F hT rfl rfl rfl rfl rfl rfl ?_
 refine RK.G2 hT rfl rfl rfl rfl rfl rfl ?_
 refine RK.G2 hT rfl rfl rfl rfl rfl rfl ?_
 refine RK.F hT rfl rfl rfl rfl rfl rfl ?_
 refine RK.G2 hT rfl rfl rfl rfl rfl rfl ?_
 refine RK.V (Eff.call0 (int_Mul _ _ lz lz)) ?_
 refine RK.V (Eff.call0 (int_Sub _ _ lz lz)) ?_
 refine RK.alc guard_none (op_alloc hT rfl rfl) ?_
 refine RK.S hT rfl rfl rfl rfl rfl rfl rfl ?_
 refine RK.D ?_
 refine AWp_sr hP ?_
 refine RK.F hT rfl rfl rfl rfl rfl rfl ?_
 refine RK.V (op_load_one hT rfl rfl rfl rfl (by first | rfl | exact vget (by omega))) ?_
 refine RK.V (op_len hT rfl rfl rfl rfl) ?_
 refine RK.V (op_eql rfl rfl) ?_
 refine RK.M rfl ?_
 refine RK.split (t := 17) rfl (fun hg1 => ?_) (fun hg1 => ?_)
 ·have hg1_ := bT hg1
  have he := bT hg1
  refine RK.skip (guard_no rfl rfl hg1) ?_
  refine RK.skip (guard_no rfl rfl hg1) ?_
  refine RK.skip (guard_no rfl rfl hg1) ?_
  refine RK.skip (guard_no rfl rfl hg1) ?_
  refine RK.skip (guard_no rfl rfl hg1) ?_
  refine RK.skip (guard_no rfl rfl hg1) ?_
  refine RK.V (op_pick_t rfl hg1 (rfl : _ = AV.p (.c _))) ?_
  refine RK.As rfl ?_
  refine RK.D ?_
  refine AWp_ret ?_
  refine ends_one rfl (.inr rfl) (res_tmp rfl) ?_ O_ends
  exact Sub.bool (ev_z he)
 ·have hg1_ := bF hg1
  have hne := bF hg1
  refine RK.val (guard_yes rfl rfl hg1) (op_field_loc hT rfl rfl rfl rfl rfl rfl) ?_
  refine RK.val (guard_yes rfl rfl hg1) (op_load_one hT rfl rfl rfl rfl (by first | rfl | exact vget (by omega))) ?_
  refine RK.val (guard_yes rfl rfl hg1) (op_index_WN hT rfl rfl rfl rfl rfl (n := 0) rfl (wl_pos0 hne)) ?_
  refine RK.val (guard_yes rfl rfl hg1) (op_load_ip_one hT rfl rfl rfl (wget (wl_pos0 hne))) ?_
  refine RK.val (guard_yes rfl rfl hg1) (op_andN (m := (wl (q.1 - d * q.2).natAbs).getD 0 0) (n := 1) rfl rfl rfl (lt32 (wl_lt0 _)) (by decide)) ?_
  refine RK.val (guard_yes rfl rfl hg1) (op_eql rfl rfl) ?_
  refine RK.V (op_pick_f rfl hg1 (rfl : _ = AV.p (.c _))) ?_
  refine RK.As rfl ?_
  refine RK.D ?_
  refine AWp_ret ?_
  refine ends_one rfl (.inr rfl) (res_tmp rfl) ?_ O_ends
  exact Sub.bool (ev_w hne)
/- (algorist/unit.fraction).quad -/
set_option maxHeartbeats 1000000 in
set_option maxRecDepth 100000 in
theorem un_quad (f : Mt) (hf : LM 20 f) (h1 : f.c ≠ 0) :
  Call0 Tryz.prog 80 [.p (.a (ML f.a f.b f.c f.d))] (.t [PQ (qdF f), PB (decide (2 % f.c = 0) && evB (qdF f) f.d)]) := by
 have hfi1 : LB f.a 20 := ⟨hf.a⟩
 have hfi2 : LB f.b 20 := ⟨hf.b⟩
 have hfi3 : LB f.c 20 := ⟨hf.c⟩
 have hfi4 : LB f.d 20 := ⟨hf.d⟩
 have hq := qdF_L hf
 have cI := un_integral (qdF f) f.d ⟨hq.x.mono (by decide), hq.y.mono (by decide)⟩ (hf.d.mono (by decide))
 refine callM_of (np := 0) Tryz.func80 (by kernel_rfl) rfl rfl (Nat.le_of_ble_eq_true rfl) (fun m h => absurd rfl h) (fun m h => absurd rfl h) rfl ?_
 refine AWp_sr hP ?_
 refine RK.alc guard_none (op_box rfl rfl) ?_
 refine RK.alc guard_none (op_alloc hT rfl rfl) ?_
 refine RK.As rfl ?_
 refine RK.D ?_
 refine AWp_sr hP ?_
 refine RK.V (Eff.call0 (un_of _ (by first | assumption | decide))) ?_
 refine RK.F hT rfl rfl rfl rfl rfl rfl ?_
 refine RK.G2 hT rfl rfl rfl rfl rfl rfl ?_
 refine RK.V (Eff.call0 (int_DivMod 2 f.c lz lz h1)) ?_
 refine RK.V (op_move (rfl : _ = AV.t _)) ?_
 refine RK.V (op_extract rfl (v := .a _) rfl) ?_
 refine RK.V (op_extract rfl (v := .a _) rfl) ?_
 refine RK.V (op_extract rfl (v := .c _) rfl) ?_
 refine RK.alc guard_none (op_alloc hT rfl rfl) ?_
 refine RK.alc guard_none (op_alloc hT rfl rfl) ?_
 refine RK.S hT rfl rfl rfl rfl rfl rfl rfl ?_
 refine RK.S hT rfl rfl rfl rfl rfl rfl rfl ?_
 refine RK.As rfl ?_
 refine RK.D ?_
 refine AWp_sr hP ?_
 refine RK.F hT rfl rfl rfl rfl rfl rfl ?_
 refine RK.G2 hT rfl rfl rfl rfl rfl rfl ?_
 refine RK.G2 hT rfl rfl rfl rfl rfl rfl ?_
 refine RK.V (Eff.call0 (int_Mul _ _ lz lz)) ?_
 refine RK.F hT rfl rfl rfl rfl rfl rfl ?_
 refine RK.G2 hT rfl rfl rfl rfl rfl rfl ?_
 refine RK.G2 hT rfl rfl rfl rfl rfl rfl ?_
 refine RK.V (Eff.call0 (int_Mul _ _ lz lz)) ?_
 refine RK.V (op_build_st hT rfl rfl rfl (es := [_, _, _, _]) rfl) ?_
 refine RK.alc guard_none (op_alloc hT rfl rfl) ?_
 refine RK.S hT rfl rfl rfl rfl rfl rfl rfl ?_
 refine RK.D ?_
 refine AWp_sr hP ?_
 refine RK.V (op_load_agg hT rfl rfl rfl rfl (cs := [_, _, _, _]) rfl rfl) ?_
 refine RK.G2 hT rfl rfl rfl rfl rfl rfl ?_
 refine RK.V (Eff.call0 (int_Sign _)) ?_
 refine RK.V (op_eql rfl rfl) ?_
 refine RK.M rfl ?_
 refine RK.split (t := 29) rfl (fun hg1 => ?_) (fun hg1 => ?_)
 ·have hg1_ := bT hg1
  have he := sgn_zero_iff.1 (bT hg1)
  refine RK.val (guard_yes rfl rfl hg1) (op_load_agg hT rfl rfl rfl rfl (cs := [_, _, _, _]) rfl rfl) ?_
  refine RK.val (guard_yes rfl rfl hg1) (op_field_loc hT rfl rfl rfl rfl rfl rfl) ?_
  refine RK.val (guard_yes rfl rfl hg1) (op_load_agg hT rfl rfl rfl rfl (cs := [_, _]) rfl rfl) ?_
  refine RK.val (guard_yes rfl rfl hg1) (Eff.call0 cI) ?_
  refine RK.V (op_pick_t rfl hg1 (rfl : _ = AV.p (.c _))) ?_
  refine RK.S hT rfl rfl rfl rfl rfl rfl rfl ?_
  refine RK.As rfl ?_
  refine RK.D ?_
  refine AWp_ret ?_
  refine ends_two rfl (.inr rfl) (res_cell_agg hT rfl rfl rfl rfl (cs := [_, _, _, _]) rfl rfl) (res_tmp rfl) ?_ O_ends
  exact Sub.of_eq (by rw [decide_eq_true he]; rfl)
 ·have hg1_ := bF hg1
  have he := fun z => bF hg1 (sgn_zero_iff.2 z)
  refine RK.skip (guard_no rfl rfl hg1) ?_
  refine RK.skip (guard_no rfl rfl hg1) ?_
  refine RK.skip (guard_no rfl rfl hg1) ?_
  refine RK.skip (guard_no rfl rfl hg1) ?_
  refine RK.V (op_pick_f rfl hg1 (rfl : _ = AV.p (.c _))) ?_
  refine RK.S hT rfl rfl rfl rfl rfl rfl rfl ?_
  refine RK.As rfl ?_
  refine RK.D ?_
  refine AWp_ret ?_
  refine ends_two rfl (.inr rfl) (res_cell_agg hT rfl rfl rfl rfl (cs := [_, _, _, _]) rfl rfl) (res_tmp rfl) ?_ O_ends
  exact Sub.of_eq (by rw [decide_eq_false he]; rfl)
/- algorist/unit.whole -/
set_option maxHeartbeats 1000000 in
set_option maxRecDepth 100000 in
theorem un_whole (f : Mt) (hf : LM 20 f) (h1 : f.c ≠ 0) :
  Call0 Tryz.prog 42 [.p (.a (ML f.a f.b f.c f.d))] (.t [PQ (qdF f), PE 0]) := by
 refine callM_of (np := 0) Tryz.func42 (by kernel_rfl) rfl rfl (Nat.le_of_ble_eq_true rfl) (fun m h => absurd rfl h) (fun m h => absurd rfl h) rfl ?_
 refine AWp_sr hP ?_
 refine RK.alc guard_none (op_box rfl rfl) ?_
 refine RK.alc guard_none (op_alloc hT rfl rfl) ?_
 refine RK.As rfl ?_
 refine RK.D ?_
 refine AWp_sr hP ?_
 refine RK.V (op_load_agg hT rfl rfl rfl rfl (cs := [_, _, _, _, _, _, _, _]) rfl rfl) ?_
 refine RK.V (Eff.call0 (un_quad f hf h1)) ?_
 refine RK.V (op_move (rfl : _ = AV.t _)) ?_
 refine RK.V (op_extract rfl (v := .a _) rfl) ?_
 refine RK.V (op_extract rfl (v := .c _) rfl) ?_
 refine RK.alc guard_none (op_alloc hT rfl rfl) ?_
 refine RK.S hT rfl rfl rfl rfl rfl rfl rfl ?_
 refine RK.As rfl ?_
 refine RK.D ?_
 refine AWp_sr hP ?_
 refine RK.V (op_load_agg hT rfl rfl rfl rfl (cs := [_, _, _, _]) rfl rfl) ?_
 refine RK.S hT rfl rfl rfl rfl rfl rfl rfl ?_
 refine RK.As rfl ?_
 refine RK.D ?_
 refine AWp_ret ?_
 refine ends_two rfl (.inr rfl) (res_cell_agg hT rfl rfl rfl rfl (cs := [_, _, _, _]) rfl rfl) (res_tmp rfl) ?_ O_ends
 exact .refl _
/- algorist/unit.made -/
set_option maxHeartbeats 1000000 in
set_option maxRecDepth 100000 in
theorem un_made (q : Qd) (d : Int) (h : LQ 30 q) (hd : L 30 d) :
  Call0 Tryz.prog 44 [QA q, I d] (.p (PM (mdF q d))) := by
 have hi1 : LB q.1 30 := ⟨h.x⟩
 have hi2 : LB q.2 30 := ⟨h.y⟩
 have cL := un_least ⟨q.1, q.2, 2, d⟩ ⟨h.x.mono (by decide), h.y.mono (by decide), (LB.le (z := 2)).mono (by decide), hd.mono (by decide)⟩ (show (2 : Int) ≠ 0 by decide)
 refine callM_of (np := 0) Tryz.func44 (by kernel_rfl) rfl rfl (Nat.le_of_ble_eq_true rfl) (fun m h => absurd rfl h) (fun m h => absurd rfl h) rfl ?_
 refine AWp_sr hP ?_
 refine RK.alc guard_none (op_box rfl rfl) ?_
 refine RK.alc guard_none (op_box rfl rfl) ?_
 refine RK.alc guard_none (op_alloc hT rfl rfl) ?_
 refine RK.D ?_
 refine AWp_sr hP ?_
 refine RK.F hT rfl rfl rfl rfl rfl rfl ?_
 refine RK.G2 hT rfl rfl rfl rfl rfl rfl ?_
 refine RK.F hT rfl rfl rfl rfl rfl rfl ?_
 refine RK.G2 hT rfl rfl rfl rfl rfl rfl ?_
 refine RK.V (Eff.call0 (un_of _ (by first | assumption | decide))) ?_
 refine RK.G2 hT rfl rfl rfl rfl rfl rfl ?_
 refine RK.V (op_build_st hT rfl rfl rfl (es := [_, _, _, _, _, _, _, _]) rfl) ?_
 refine RK.V (Eff.call0 cL) ?_
 refine RK.S hT rfl rfl rfl rfl rfl rfl rfl ?_
 refine RK.D ?_
 refine AWp_ret ?_
 refine ends_one rfl (.inr rfl) (res_cell_agg hT rfl rfl rfl rfl (cs := [_, _, _, _, _, _, _, _]) rfl rfl) ?_ O_ends
 exact .refl _
end Go.Proofs.YtfdjankalhfceaaGreat
end

section
/- unit: checked Norm Mul product -/
namespace Go.Proofs.YtfdjankalhfceaaGreat
open Go Go.AM
/- algorist/unit.checked -/
set_option maxHeartbeats 2000000 in
set_option maxRecDepth 100000 in
theorem un_checked1 (d : Int) (q : Qd) (hd : DOK d) (hq : LQ 30 q) (eq : evB q d = true) :
  Call0 Tryz.prog 43 [I d, .p (.c (.sl 1 [zn q.1, zm q.1, zn q.2, zm q.2]))] (Z 0) := by
 have id : LB d 6 := ⟨hd.L6⟩
 refine callM_of (np := 0) Tryz.func43 (by kernel_rfl) rfl rfl (Nat.le_of_ble_eq_true rfl) (fun m h => absurd rfl h) (fun m h => absurd rfl h) rfl ?_
 refine AWp_sr hP ?_
 refine RK.alc guard_none (op_box rfl rfl) ?_
 refine RK.As rfl ?_
 refine RK.D ?_
 refine AWp_sr hP ?_
 refine RK.G2 hT rfl rfl rfl rfl rfl rfl ?_
 refine RK.V (Eff.call0 (un_refused d hd)) ?_
 refine RK.As rfl ?_
 refine RK.D ?_
 refine AWp_seq ?_
 refine AWp_sr hP ?_
 refine RK.M rfl ?_
 refine RK.V (op_len hT rfl rfl rfl rfl) ?_
 refine RK.M rfl ?_
 refine RK.D ?_
 refine AWp_block ?_
 refine AWp_unroll 2 ?_
 refine AWp_sr hP ?_
 refine RK.V (op_lss rfl rfl) ?_
 refine RK.D ?_
 refine AWp_seq ?_
 refine AWp_cond_true rfl (by decide) ?_
 refine AWp_skip ?_
 refine AWp_seq ?_
 refine AWp_block ?_
 refine AWp_sr hP ?_
 refine RK.V (by first | exact op_index_WN hT rfl rfl rfl rfl rfl rfl (by omega) | exact op_index_sl hT rfl rfl rfl rfl rfl rfl (by omega) (by first | exact W_ne (by omega) | simp)) ?_
 refine RK.V (op_load_ip_agg hT rfl rfl rfl (cs := [_, _, _, _]) rfl rfl) ?_
 refine RK.alc guard_none (op_alloc hT rfl rfl) ?_
 refine RK.S hT rfl rfl rfl rfl rfl rfl rfl ?_
 refine RK.D ?_
 refine AWp_sr hP ?_
 refine RK.M rfl ?_
 refine RK.V (op_eql rfl rfl) ?_
 refine RK.M rfl ?_
 refine RK.val (guard_yes rfl rfl rfl) (op_load_agg hT rfl rfl rfl rfl (cs := [_, _, _, _]) rfl rfl) ?_
 refine RK.val (guard_yes rfl rfl rfl) (op_load_agg hT rfl rfl rfl rfl (cs := [_, _]) rfl rfl) ?_
 refine RK.val (guard_yes rfl rfl rfl) (Eff.call0 (un_integral q d hq (hd.L6.mono (by decide)))) ?_
 refine RK.val (guard_yes rfl rfl rfl) (op_unot rfl) ?_
 refine RK.V (op_pick_t rfl rfl (rfl : _ = AV.p (.c _))) ?_
 refine RK.D ?_
 refine AWp_cond_false rfl (congrArg not eq) ?_
 refine AWp_skip ?_
 refine AWp_region hP ?_
 refine RK.V (op_add rfl rfl (by first | exact IntWalk.i64_in _ (by omega) | rfl)) ?_
 refine RK.M rfl ?_
 refine RK.D ?_
 refine AWp_sr hP ?_
 refine RK.V (op_lss rfl rfl) ?_
 refine RK.D ?_
 refine AWp_seq ?_
 refine AWp_cond_false rfl (by decide) ?_
 refine AWp_exit ?_
 refine AWp_sr hP ?_
 refine RK.M rfl ?_
 refine RK.As rfl ?_
 refine RK.D ?_
 refine AWp_ret ?_
 refine ends_one rfl (.inr rfl) (res_tmp rfl) ?_ O_ends
 exact .refl _
/- algorist/unit.checked -/
set_option maxHeartbeats 2000000 in
set_option maxRecDepth 100000 in
theorem un_checked2 (d : Int) (q r : Qd) (hd : DOK d) (hq : LQ 30 q) (eq : evB q d = true) (hr : LQ 30 r) (er : evB r d = true) :
  Call0 Tryz.prog 43 [I d, .p (.c (.sl 2 [zn q.1, zm q.1, zn q.2, zm q.2, zn r.1, zm r.1, zn r.2, zm r.2]))] (Z 0) := by
 have id : LB d 6 := ⟨hd.L6⟩
 refine callM_of (np := 0) Tryz.func43 (by kernel_rfl) rfl rfl (Nat.le_of_ble_eq_true rfl) (fun m h => absurd rfl h) (fun m h => absurd rfl h) rfl ?_
 refine AWp_sr hP ?_
 refine RK.alc guard_none (op_box rfl rfl) ?_
 refine RK.As rfl ?_
 refine RK.D ?_
 refine AWp_sr hP ?_
 refine RK.G2 hT rfl rfl rfl rfl rfl rfl ?_
 refine RK.V (Eff.call0 (un_refused d hd)) ?_
 refine RK.As rfl ?_
 refine RK.D ?_
 refine AWp_seq ?_
 refine AWp_sr hP ?_
 refine RK.M rfl ?_
 refine RK.V (op_len hT rfl rfl rfl rfl) ?_
 refine RK.M rfl ?_
 refine RK.D ?_
 refine AWp_block ?_
 refine AWp_unroll 3 ?_
 refine AWp_sr hP ?_
 refine RK.V (op_lss rfl rfl) ?_
 refine RK.D ?_
 refine AWp_seq ?_
 refine AWp_cond_true rfl (by decide) ?_
 refine AWp_skip ?_
 refine AWp_seq ?_
 refine AWp_block ?_
 refine AWp_sr hP ?_
 refine RK.V (by first | exact op_index_WN hT rfl rfl rfl rfl rfl rfl (by omega) | exact op_index_sl hT rfl rfl rfl rfl rfl rfl (by omega) (by first | exact W_ne (by omega) | simp)) ?_
 refine RK.V (op_load_ip_agg hT rfl rfl rfl (cs := [_, _, _, _]) rfl rfl) ?_
 refine RK.alc guard_none (op_alloc hT rfl rfl) ?_
 refine RK.S hT rfl rfl rfl rfl rfl rfl rfl ?_
 refine RK.D ?_
 refine AWp_sr hP ?_
 refine RK.M rfl ?_
 refine RK.V (op_eql rfl rfl) ?_
 refine RK.M rfl ?_
 refine RK.val (guard_yes rfl rfl rfl) (op_load_agg hT rfl rfl rfl rfl (cs := [_, _, _, _]) rfl rfl) ?_
 refine RK.val (guard_yes rfl rfl rfl) (op_load_agg hT rfl rfl rfl rfl (cs := [_, _]) rfl rfl) ?_
 refine RK.val (guard_yes rfl rfl rfl) (Eff.call0 (un_integral q d hq (hd.L6.mono (by decide)))) ?_
 refine RK.val (guard_yes rfl rfl rfl) (op_unot rfl) ?_
 refine RK.V (op_pick_t rfl rfl (rfl : _ = AV.p (.c _))) ?_
 refine RK.D ?_
 refine AWp_cond_false rfl (congrArg not eq) ?_
 refine AWp_skip ?_
 refine AWp_region hP ?_
 refine RK.V (op_add rfl rfl (by first | exact IntWalk.i64_in _ (by omega) | rfl)) ?_
 refine RK.M rfl ?_
 refine RK.D ?_
 refine AWp_sr hP ?_
 refine RK.V (op_lss rfl rfl) ?_
 refine RK.D ?_
 refine AWp_seq ?_
 refine AWp_cond_true rfl (by decide) ?_
 refine AWp_skip ?_
 refine AWp_seq ?_
 refine AWp_block ?_
 refine AWp_sr hP ?_
 refine RK.V (by first | exact op_index_WN hT rfl rfl rfl rfl rfl rfl (by omega) | exact op_index_sl hT rfl rfl rfl rfl rfl rfl (by omega) (by first | exact W_ne (by omega) | simp)) ?_
 refine RK.V (op_load_ip_agg hT rfl rfl rfl (cs := [_, _, _, _]) rfl rfl) ?_
 refine RK.alc guard_none (op_alloc hT rfl rfl) ?_
 refine RK.S hT rfl rfl rfl rfl rfl rfl rfl ?_
 refine RK.D ?_
 refine AWp_sr hP ?_
 refine RK.M rfl ?_
 refine RK.V (op_eql rfl rfl) ?_
 refine RK.M rfl ?_
 refine RK.val (guard_yes rfl rfl rfl) (op_load_agg hT rfl rfl rfl rfl (cs := [_, _, _, _]) rfl rfl) ?_
 refine RK.val (guard_yes rfl rfl rfl) (op_load_agg hT rfl rfl rfl rfl (cs := [_, _]) rfl rfl) ?_
 refine RK.val (guard_yes rfl rfl rfl) (Eff.call0 (un_integral r d hr (hd.L6.mono (by decide)))) ?_
 refine RK.val (guard_yes rfl rfl rfl) (op_unot rfl) ?_
 refine RK.V (op_pick_t rfl rfl (rfl : _ = AV.p (.c _))) ?_
 refine RK.D ?_
 refine AWp_cond_false rfl (congrArg not er) ?_
 refine AWp_skip ?_
 refine AWp_region hP ?_
 refine RK.V (op_add rfl rfl (by first | exact IntWalk.i64_in _ (by omega) | rfl)) ?_
 refine RK.M rfl ?_
 refine RK.D ?_
 refine AWp_sr hP ?_
 refine RK.V (op_lss rfl rfl) ?_
 refine RK.D ?_
 refine AWp_seq ?_
 refine AWp_cond_false rfl (by decide) ?_
 refine AWp_exit ?_
 refine AWp_sr hP ?_
 refine RK.M rfl ?_
 refine RK.As rfl ?_
 refine RK.D ?_
 refine AWp_ret ?_
 refine ends_one rfl (.inr rfl) (res_tmp rfl) ?_ O_ends
 exact .refl _
/- algorist/unit.Norm -/
set_option maxHeartbeats 2000000 in
set_option maxRecDepth 100000 in
theorem un_Norm (q : Qd) (d : Int) (hd : DOK d) (h : LQ 20 q) (e : evB q d = true) :
  Call0 Tryz.prog 96 [QA q, I d] (.t [PI ((q.1 * q.1 - d * (q.2 * q.2)) / 4), PE 0]) := by
 have hi1 : LB q.1 20 := ⟨h.x⟩
 have hi2 : LB q.2 20 := ⟨h.y⟩
 have id : LB d 6 := ⟨hd.L6⟩
 have h30 : LQ 30 q := ⟨h.x.mono (by decide), h.y.mono (by decide)⟩
 have cN := un_norm ⟨q.1, q.2, 1, d⟩ ⟨h30.x, h30.y, (LB.le (z := 1)).mono (by decide), hd.L6.mono (by decide)⟩
 refine callM_of (np := 0) Tryz.func96 (by kernel_rfl) rfl rfl (Nat.le_of_ble_eq_true rfl) (fun m h => absurd rfl h) (fun m h => absurd rfl h) rfl ?_
 refine AWp_sr hP ?_
 refine RK.alc guard_none (op_box rfl rfl) ?_
 refine RK.alc guard_none (op_box rfl rfl) ?_
 refine RK.alc guard_none (op_alloc hT rfl rfl) ?_
 refine RK.As rfl ?_
 refine RK.D ?_
 refine AWp_seq ?_
 refine AWp_sr hP ?_
 refine RK.G2 hT rfl rfl rfl rfl rfl rfl ?_
 refine RK.V (op_load_agg hT rfl rfl rfl rfl (cs := [_, _, _, _]) rfl rfl) ?_
 refine RK.V (op_bslice hT rfl rfl rfl (es := [_, _, _, _]) rfl rfl rfl) ?_
 refine RK.V (Eff.call0 (un_checked1 d q hd h30 e)) ?_
 refine RK.As rfl ?_
 refine RK.D ?_
 refine AWp_sr hP ?_
 refine RK.M rfl ?_
 refine RK.V (op_neq rfl rfl) ?_
 refine RK.D ?_
 refine AWp_cond_false rfl rfl ?_
 refine AWp_skip ?_
 refine AWp_sr hP ?_
 refine RK.F hT rfl rfl rfl rfl rfl rfl ?_
 refine RK.G2 hT rfl rfl rfl rfl rfl rfl ?_
 refine RK.F hT rfl rfl rfl rfl rfl rfl ?_
 refine RK.G2 hT rfl rfl rfl rfl rfl rfl ?_
 refine RK.V (Eff.call0 (un_of _ (by first | assumption | decide))) ?_
 refine RK.G2 hT rfl rfl rfl rfl rfl rfl ?_
 refine RK.V (op_build_st hT rfl rfl rfl (es := [_, _, _, _, _, _, _, _]) rfl) ?_
 refine RK.V (Eff.call0 cN) ?_
 refine RK.V (Eff.call0 (un_of _ (by first | assumption | decide))) ?_
 refine RK.V (Eff.call0 (int_DivMod _ 4 lz lz (by decide))) ?_
 refine RK.V (op_move (rfl : _ = AV.t _)) ?_
 refine RK.V (op_extract rfl (v := .a _) rfl) ?_
 refine RK.V (op_extract rfl (v := .a _) rfl) ?_
 refine RK.V (op_extract rfl (v := .c _) rfl) ?_
 refine RK.alc guard_none (op_alloc hT rfl rfl) ?_
 refine RK.alc guard_none (op_alloc hT rfl rfl) ?_
 refine RK.S hT rfl rfl rfl rfl rfl rfl rfl ?_
 refine RK.S hT rfl rfl rfl rfl rfl rfl rfl ?_
 refine RK.As rfl ?_
 refine RK.D ?_
 refine AWp_sr hP ?_
 refine RK.G2 hT rfl rfl rfl rfl rfl rfl ?_
 refine RK.S hT rfl rfl rfl rfl rfl rfl rfl ?_
 refine RK.As rfl ?_
 refine RK.D ?_
 refine AWp_ret ?_
 refine ends_two rfl (.inr rfl) (res_cell_agg hT rfl rfl rfl rfl (cs := [_, _]) rfl rfl) (res_tmp rfl) ?_ O_ends
 exact .refl _
/- algorist/unit.Mul -/
set_option maxHeartbeats 2000000 in
set_option maxRecDepth 100000 in
theorem un_Mul (q r : Qd) (d : Int) (hd : DOK d) (hq : LQ 14 q) (hr : LQ 14 r) (eq : evB q d = true) (er : evB r d = true) :
  Call0 Tryz.prog 12 [QA q, QA r, I d] (.t [PQ (qmF q r d), PE 0]) := by
 have q30 : LQ 30 q := ⟨hq.x.mono (by decide), hq.y.mono (by decide)⟩
 have r30 : LQ 30 r := ⟨hr.x.mono (by decide), hr.y.mono (by decide)⟩
 have d14 : L 14 d := hd.L6.mono (by decide)
 have m1 := mdF_L hq d14
 have m2 := mdF_L hr d14
 have cT := un_times (mdF q d) (mdF r d) (m1.mono (by decide)) (m2.mono (by decide)) mdF_c mdF_c
 have cW := un_whole (tmF (mdF q d) (mdF r d)) ((lsF_L (tmR_L m1 m2)).mono (by decide)) (lsF_c (tmR_c mdF_c mdF_c))
 refine callM_of (np := 0) Tryz.func12 (by kernel_rfl) rfl rfl (Nat.le_of_ble_eq_true rfl) (fun m h => absurd rfl h) (fun m h => absurd rfl h) rfl ?_
 refine AWp_sr hP ?_
 refine RK.alc guard_none (op_box rfl rfl) ?_
 refine RK.alc guard_none (op_box rfl rfl) ?_
 refine RK.alc guard_none (op_box rfl rfl) ?_
 refine RK.alc guard_none (op_alloc hT rfl rfl) ?_
 refine RK.As rfl ?_
 refine RK.D ?_
 refine AWp_seq ?_
 refine AWp_sr hP ?_
 refine RK.G2 hT rfl rfl rfl rfl rfl rfl ?_
 refine RK.V (op_load_agg hT rfl rfl rfl rfl (cs := [_, _, _, _]) rfl rfl) ?_
 refine RK.V (op_load_agg hT rfl rfl rfl rfl (cs := [_, _, _, _]) rfl rfl) ?_
 refine RK.V (op_bslice hT rfl rfl rfl (es := [_, _, _, _, _, _, _, _]) rfl rfl rfl) ?_
 refine RK.V (Eff.call0 (un_checked2 d q r hd q30 eq r30 er)) ?_
 refine RK.As rfl ?_
 refine RK.D ?_
 refine AWp_sr hP ?_
 refine RK.M rfl ?_
 refine RK.V (op_neq rfl rfl) ?_
 refine RK.D ?_
 refine AWp_cond_false rfl rfl ?_
 refine AWp_skip ?_
 refine AWp_sr hP ?_
 refine RK.As rfl ?_
 refine RK.D ?_
 refine AWp_sr hP ?_
 refine RK.M rfl ?_
 refine RK.V (op_load_agg hT rfl rfl rfl rfl (cs := [_, _, _, _]) rfl rfl) ?_
 refine RK.G2 hT rfl rfl rfl rfl rfl rfl ?_
 refine RK.V (Eff.call0 (un_made q d q30 (hd.L6.mono (by decide)))) ?_
 refine RK.V (op_load_agg hT rfl rfl rfl rfl (cs := [_, _, _, _]) rfl rfl) ?_
 refine RK.G2 hT rfl rfl rfl rfl rfl rfl ?_
 refine RK.V (Eff.call0 (un_made r d r30 (hd.L6.mono (by decide)))) ?_
 refine RK.V (Eff.callF rfl cT) ?_
 refine RK.V (Eff.call0 cW) ?_
 refine RK.V (op_extract rfl (v := .a _) rfl) ?_
 refine RK.V (op_extract rfl (v := .c _) rfl) ?_
 refine RK.S hT rfl rfl rfl rfl rfl rfl rfl ?_
 refine RK.As rfl ?_
 refine RK.D ?_
 refine AWp_ret ?_
 refine ends_two rfl (.inr rfl) (res_cell_agg hT rfl rfl rfl rfl (cs := [_, _, _, _]) rfl rfl) (res_tmp rfl) ?_ O_ends
 exact .refl _
/- algorist/unit.product$1 -/
set_option maxHeartbeats 1000000 in
set_option maxRecDepth 100000 in
theorem un_product1 (f : Fm) :
  Call0 Tryz.prog 75 [FA f.a f.b f.c] (B (decide ((f.a.natAbs : Int) = 1))) := by
 refine callM_of (np := 0) Tryz.func75 (by kernel_rfl) rfl rfl (Nat.le_of_ble_eq_true rfl) (fun m h => absurd rfl h) (fun m h => absurd rfl h) rfl ?_
 refine AWp_sr hP ?_
 refine RK.alc guard_none (op_box rfl rfl) ?_
 refine RK.As rfl ?_
 refine RK.D ?_
 refine AWp_sr hP ?_
 refine RK.F hT rfl rfl rfl rfl rfl rfl ?_
 refine RK.G2 hT rfl rfl rfl rfl rfl rfl ?_
 refine RK.V (Eff.call0 (int_Abs _)) ?_
 refine RK.V (Eff.call0 (un_of _ (by first | assumption | decide))) ?_
 refine RK.V (Eff.call0 (int_Cmp _ _)) ?_
 refine RK.V (op_eql rfl rfl) ?_
 refine RK.As rfl ?_
 refine RK.D ?_
 refine AWp_ret ?_
 refine ends_one rfl (.inr rfl) (res_tmp rfl) ?_ O_ends
 exact Sub.bool (cmp_dc _ _)
theorem keyI : KeyA Tryz.prog 130 kcI := keyA2 hT (td := .int .i64) (f := fun k : Int × Int => .int .i64 k.1) (g := fun k : Int × Int => .int .i64 k.2) rfl rfl rfl rfl rfl Tryz.underlying2 (fun _ => rfl) (fun _ => rfl) (fun _ => rfl) (fun _ => rfl) (fun _ => rfl)
 (fun a b w => ⟨a.1 == b.1, run_equalIn_int (w := w) 9998 _ .i64 .i64 a.1 b.1 Tryz.underlying2, by simp⟩) (fun a b w => ⟨a.2 == b.2, run_equalIn_int (w := w) 9998 _ .i64 .i64 a.2 b.2 Tryz.underlying2, by simp⟩)
 (fun a b h1 h2 => Prod.ext (by simpa using h1) (by simpa using h2))
/- algorist/unit.product -/
set_option maxHeartbeats 8000000 in
set_option maxRecDepth 100000 in
theorem un_product (d : Int) (n m : Nat) (y : Fm × Mt) (hd : DOK d) (hPd : (⟨1, d % 4, -(d / 4)⟩ : Fm).disc = d) (h0 : RdT (rootV d) ⟨1, d % 4, -(d / 4)⟩ n y) (h : PrT (rootV d) y.1 m) :
  Call0 Tryz.prog 38 [I d] (.p (.c (SL enM (prL (rootV d) y.1 m)))) := by
 have id : LB d 6 := ⟨hd.L6⟩
 have cP : Call0 Tryz.prog 8 [I d] (.t [PF ⟨1, d % 4, -(d / 4)⟩, PE 0]) := by
  have h := q_Principal d lz
  rwa [(rf_ok hd).1, (rf_ok hd).2] at h
 have cRd := cy_Reduce d _ n y hd hPd h0
 have hyd : y.1.disc = d := h0.disc.trans hPd
 have hcRho := fun g hg hx => cy_Rho d g hd hg hx
 have hfa : (cmpI y.1.a 1 != 0) = false := by rw [h.one]; rfl
 obtain ⟨s, hs⟩ : ∃ s, s = rootV d := ⟨_, rfl⟩
 rw [← hs] at hcRho h ⊢
 clear hs h0
 refine callM_of (np := 0) Tryz.func38 (by kernel_rfl) rfl rfl (Nat.le_of_ble_eq_true rfl) (fun m h => absurd rfl h) (fun m h => absurd rfl h) rfl ?_
 refine AWp_sr hP ?_
 refine RK.alc guard_none (op_box rfl rfl) ?_
 refine RK.As rfl ?_
 refine RK.D ?_
 refine AWp_sr hP ?_
 refine RK.G2 hT rfl rfl rfl rfl rfl rfl ?_
 refine RK.V (Eff.call0 cP) ?_
 refine RK.V (op_move (rfl : _ = AV.t _)) ?_
 refine RK.V (op_extract rfl (v := .a _) rfl) ?_
 refine RK.V (op_extract rfl (v := .c _) rfl) ?_
 refine RK.alc guard_none (op_alloc hT rfl rfl) ?_
 refine RK.S hT rfl rfl rfl rfl rfl rfl rfl ?_
 refine RK.As rfl ?_
 refine RK.D ?_
 refine AWp_sr hP ?_
 refine RK.G6 hT rfl rfl rfl rfl rfl rfl ?_
 refine RK.V (Eff.call0 cRd) ?_
 refine RK.V (op_move (rfl : _ = AV.t _)) ?_
 refine RK.V (op_extract rfl (v := .a _) rfl) ?_
 refine RK.V (op_extract rfl (v := .a _) rfl) ?_
 refine RK.V (op_extract rfl (v := .c _) rfl) ?_
 refine RK.S hT rfl rfl rfl rfl rfl rfl rfl ?_
 refine RK.D ?_
 refine AWp_sr hP ?_
 refine RK.As rfl ?_
 refine RK.D ?_
 refine AWp_seq ?_
 refine AWp_block ?_
 refine AWp_unroll 1 ?_
 refine AWp_seq ?_
 refine AWp_sr hP ?_
 refine RK.F hT rfl rfl rfl rfl rfl rfl ?_
 refine RK.G2 hT rfl rfl rfl rfl rfl rfl ?_
 refine RK.V (Eff.call0 (un_of _ (by first | assumption | decide))) ?_
 refine RK.V (Eff.call0 (int_Cmp _ _)) ?_
 refine RK.V (op_neq rfl rfl) ?_
 refine RK.D ?_
 refine AWp_cond_false rfl hfa ?_
 refine AWp_exit ?_
 refine AWp_sr hP ?_
 refine RK.As rfl ?_
 refine RK.D ?_
 refine AWp_sr hP ?_
 refine RK.alc guard_none op_rawMake ?_
 refine RK.V (op_assign (rfl : _ = AV.vec _)) ?_
 refine RK.D ?_
 refine AWp_seq ?_
 refine AWp_sr hP ?_
 refine RK.As rfl ?_
 refine RK.D ?_
 refine AWp_block ?_
 refine AWp_nilV 6 1000 8 91 rfl rfl ?_
 refine AWp_loop (ι := Nat) (fun k => stL [(3, .loc 3 0), (5, .p (.c (.v (.func (.func 75) #[] #[])))), (6, .vec 1000), (7, .vec 37), (8, B (decide (k = 0)))] [(3, ⟨false, 1, 36, FL (nb s y.1 k).1.a (nb s y.1 k).1.b (nb s y.1 k).1.c⟩), (1000, VB 8 91 enM (prL s y.1 k)), (37, RB (enR kcI (prM s y.1 k)))]) (fun k => k ≤ m) (fun k => m - k) 0 (Nat.zero_le _) (le_stL ⟨.refl _, .refl _, .refl _, .refl _, .refl _, trivial⟩ ⟨rfl, rfl, rfl, trivial⟩) ?_
 rintro k hk
 refine AWp_seq ?_
 refine AWp_sr hP ?_
 refine RK.M rfl ?_
 refine RK.M rfl ?_
 refine RK.split (t := 39) rfl (fun hg1 => ?_) (fun hg1 => ?_)
 ·have hk0 : k = 0 := of_decide_eq_true hg1
  have hltm : k < m := by rw [hk0]; exact h.pos
  have hkm : k < m := hltm
  have hox := h.ok k (by omega)
  have hdi : (nb s y.1 k).1.disc = d := (nb_disc s y.1 k).trans hyd
  have hn : (nb s y.1 (k + 1)).1 = rho s (nb s y.1 k).1 := rfl
  have hLs := prL_s (s := s) (f := y.1) (k := k)
  have hMs : prM s y.1 (k + 1) = prM s y.1 k ++ [(kyI (nb s y.1 k).1, .int .i64 ((prL s y.1 k).length : Nat))] := by rw [prL_len]; exact prM_s
  have hgr := prM_none h hkm
  have hml := h.le
  have hll := prL_len (s := s) (f := y.1) (k := k)
  have hone := prM_one (s := s) (f := y.1) (k := k)
  generalize nb s y.1 k = z at hox hdi hn hLs hMs hgr ⊢
  have hzf := hox.f
  have i1 : LB z.1.a 6 := ⟨okS_L hzf.a⟩
  have i2 : LB z.1.b 6 := ⟨okS_L hzf.b⟩
  have b1 := okS_lt hzf.a
  have b2 := okS_lt hzf.b
  have cL1 := int_Low z.1.b (by omega) (by omega)
  have cL2 := int_Low (z.1.a.natAbs : Int) (by omega) (by omega)
  have cRho := hcRho z.1 hdi hzf
  have hin : InI64 (2 * (z.1.a.natAbs : Int)) := by unfold InI64; omega
  refine RK.skip (guard_no rfl rfl hg1) ?_
  refine RK.skip (guard_no rfl rfl hg1) ?_
  refine RK.skip (guard_no rfl rfl hg1) ?_
  refine RK.skip (guard_no rfl rfl hg1) ?_
  refine RK.V (op_pick_t rfl hg1 (rfl : _ = AV.p (.c _))) ?_
  refine RK.D ?_
  refine AWp_cond_true rfl rfl ?_
  refine AWp_skip ?_
  refine AWp_seq ?_
  refine AWp_block ?_
  refine AWp_sr hP ?_
  refine RK.F hT rfl rfl rfl rfl rfl rfl ?_
  refine RK.G2 hT rfl rfl rfl rfl rfl rfl ?_
  refine RK.V (Eff.call0 cL1) ?_
  refine RK.V (op_move (rfl : _ = AV.t _)) ?_
  refine RK.V (op_extract rfl (v := .c _) rfl) ?_
  refine RK.V (op_extract rfl (v := .c _) rfl) ?_
  refine RK.As rfl ?_
  refine RK.As rfl ?_
  refine RK.D ?_
  refine AWp_sr hP ?_
  refine RK.F hT rfl rfl rfl rfl rfl rfl ?_
  refine RK.G2 hT rfl rfl rfl rfl rfl rfl ?_
  refine RK.V (Eff.call0 (int_Abs _)) ?_
  refine RK.V (Eff.call0 cL2) ?_
  refine RK.V (op_move (rfl : _ = AV.t _)) ?_
  refine RK.V (op_extract rfl (v := .c _) rfl) ?_
  refine RK.V (op_extract rfl (v := .c _) rfl) ?_
  refine RK.As rfl ?_
  refine RK.As rfl ?_
  refine RK.D ?_
  refine AWp_seq ?_
  refine AWp_sr hP ?_
  refine RK.V (op_move (rfl : _ = AV.vec _)) ?_
  refine RK.M rfl ?_
  refine RK.M rfl ?_
  refine RK.V (op_build_ar hT rfl rfl rfl (es := [_, _]) rfl) ?_
  refine RK.V (op_rawLook (M := prM s y.1 k) (k := kyI z.1) (kc := kcI) hT rfl rfl keyI rfl rfl hone rfl rfl rfl (by rw [hgr])) ?_
  refine RK.V (op_move (rfl : _ = AV.t _)) ?_
  refine RK.V (op_extract rfl (v := .c _) rfl) ?_
  refine RK.V (op_extract rfl (v := .c _) rfl) ?_
  refine RK.As rfl ?_
  refine RK.As rfl ?_
  refine RK.D ?_
  refine AWp_sr hP ?_
  refine RK.M rfl ?_
  refine RK.D ?_
  refine AWp_cond_false rfl rfl ?_
  refine AWp_sr hP ?_
  refine RK.V (op_move (rfl : _ = AV.vec _)) ?_
  refine RK.M rfl ?_
  refine RK.M rfl ?_
  refine RK.V (op_build_ar hT rfl rfl rfl (es := [_, _]) rfl) ?_
  refine RK.V (op_move (rfl : _ = AV.vec _)) ?_
  refine RK.V (op_len_vecG hT enM_len rfl rfl rfl rfl rfl) ?_
  refine RK.sto guard_none (op_rawIns (M := prM s y.1 k) (k := kyI z.1) (kc := kcI) (v := .int .i64 ((prL s y.1 k).length : Nat)) hT rfl rfl keyI hgr rfl rfl rfl rfl) ?_
  refine RK.D ?_
  refine AWp_region hP ?_
  refine RK.V (op_move (rfl : _ = AV.vec _)) ?_
  refine RK.F hT rfl rfl rfl rfl rfl rfl ?_
  refine RK.G2 hT rfl rfl rfl rfl rfl rfl ?_
  refine RK.V (Eff.call0 (un_of _ (by first | assumption | decide))) ?_
  refine RK.M rfl ?_
  refine RK.V (op_mul rfl rfl (c := 2 * (z.1.a.natAbs : Int)) (by rw [IntKind.wrap_i64]; omega)) ?_
  refine RK.V (Eff.call0 (un_of _ (by first | assumption | decide))) ?_
  refine RK.V (Eff.call0 (un_of _ (by first | assumption | decide))) ?_
  refine RK.V (op_build_st hT rfl rfl rfl (es := [_, _, _, _, _, _, _, _]) rfl) ?_
  refine RK.V (op_bslice hT rfl rfl rfl (es := [_, _, _, _, _, _, _, _]) rfl rfl rfl) ?_
  refine RK.app guard_none (op_appendG (encD := enM) hT enM_len (by decide) rfl rfl rfl rfl rfl rfl rfl (b := trm z.1) rfl (by omega) (by decide) (by decide)) ?_
  refine RK.V (op_assign (rfl : _ = AV.vec _)) ?_
  refine RK.D ?_
  refine AWp_rn 94 1000 rfl rfl rfl ?_
  refine AWp_region hP ?_
  refine RK.G6 hT rfl rfl rfl rfl rfl rfl ?_
  refine RK.V (Eff.call0 cRho) ?_
  refine RK.V (op_move (rfl : _ = AV.t _)) ?_
  refine RK.V (op_extract rfl (v := .a _) rfl) ?_
  refine RK.V (op_extract rfl (v := .a _) rfl) ?_
  refine RK.V (op_extract rfl (v := .c _) rfl) ?_
  refine RK.S hT rfl rfl rfl rfl rfl rfl rfl ?_
  refine RK.D ?_
  refine AWp_region hP ?_
  refine RK.As rfl ?_
  refine RK.D ?_
  refine ⟨k + 1, by omega, by omega, le_stL ⟨.refl _, .refl _, .refl _, .refl _, Sub.bool (decide_eq_false (Nat.succ_ne_zero k)).symm, trivial⟩ ⟨Eq.trans rfl (congrArg (fun l : Fm => some (⟨false, 1, 36, FL l.a l.b l.c⟩ : Blk)) hn.symm), Eq.trans rfl (congrArg (fun l => some (VB 8 91 enM l : Blk)) hLs.symm), Eq.trans rfl (congrArg (fun l => some (RB (enR kcI l) : Blk)) hMs.symm), trivial⟩⟩
 ·have hk0 : ¬ k = 0 := of_decide_eq_false hg1
  refine RK.val (guard_yes rfl rfl hg1) (op_move (rfl : _ = AV.p (.c _))) ?_
  refine RK.val (guard_yes rfl rfl hg1) (op_load_agg hT rfl rfl rfl rfl (cs := [_, _, _, _, _, _]) rfl rfl) ?_
  refine RK.val (guard_yes rfl rfl hg1) (Eff.callF rfl (un_product1 (nb s y.1 k).1)) ?_
  refine RK.val (guard_yes rfl rfl hg1) (op_unot rfl) ?_
  refine RK.V (op_pick_f rfl hg1 (rfl : _ = AV.p (.c _))) ?_
  refine RK.D ?_
  refine AWp_cond rfl (fun hb2 => ?_) (fun hb2 => ?_)
  ·have hb2_ := (notT hb2)
   have hltm : k < m := by
    rcases Nat.lt_or_ge k m with e | e
    ·exact e
    ·exfalso
     have e2 : k = m := by omega
     have := of_decide_eq_false (notT hb2)
     rw [e2] at this
     have h9 := h.yes
     omega
   have hkm : k < m := hltm
   have hox := h.ok k (by omega)
   have hdi : (nb s y.1 k).1.disc = d := (nb_disc s y.1 k).trans hyd
   have hn : (nb s y.1 (k + 1)).1 = rho s (nb s y.1 k).1 := rfl
   have hLs := prL_s (s := s) (f := y.1) (k := k)
   have hMs : prM s y.1 (k + 1) = prM s y.1 k ++ [(kyI (nb s y.1 k).1, .int .i64 ((prL s y.1 k).length : Nat))] := by rw [prL_len]; exact prM_s
   have hgr := prM_none h hkm
   have hml := h.le
   have hll := prL_len (s := s) (f := y.1) (k := k)
   have hone := prM_one (s := s) (f := y.1) (k := k)
   generalize nb s y.1 k = z at hox hdi hn hLs hMs hgr ⊢
   have hzf := hox.f
   have i1 : LB z.1.a 6 := ⟨okS_L hzf.a⟩
   have i2 : LB z.1.b 6 := ⟨okS_L hzf.b⟩
   have b1 := okS_lt hzf.a
   have b2 := okS_lt hzf.b
   have cL1 := int_Low z.1.b (by omega) (by omega)
   have cL2 := int_Low (z.1.a.natAbs : Int) (by omega) (by omega)
   have cRho := hcRho z.1 hdi hzf
   have hin : InI64 (2 * (z.1.a.natAbs : Int)) := by unfold InI64; omega
   refine AWp_skip ?_
   refine AWp_seq ?_
   refine AWp_block ?_
   refine AWp_sr hP ?_
   refine RK.F hT rfl rfl rfl rfl rfl rfl ?_
   refine RK.G2 hT rfl rfl rfl rfl rfl rfl ?_
   refine RK.V (Eff.call0 cL1) ?_
   refine RK.V (op_move (rfl : _ = AV.t _)) ?_
   refine RK.V (op_extract rfl (v := .c _) rfl) ?_
   refine RK.V (op_extract rfl (v := .c _) rfl) ?_
   refine RK.As rfl ?_
   refine RK.As rfl ?_
   refine RK.D ?_
   refine AWp_sr hP ?_
   refine RK.F hT rfl rfl rfl rfl rfl rfl ?_
   refine RK.G2 hT rfl rfl rfl rfl rfl rfl ?_
   refine RK.V (Eff.call0 (int_Abs _)) ?_
   refine RK.V (Eff.call0 cL2) ?_
   refine RK.V (op_move (rfl : _ = AV.t _)) ?_
   refine RK.V (op_extract rfl (v := .c _) rfl) ?_
   refine RK.V (op_extract rfl (v := .c _) rfl) ?_
   refine RK.As rfl ?_
   refine RK.As rfl ?_
   refine RK.D ?_
   refine AWp_seq ?_
   refine AWp_sr hP ?_
   refine RK.V (op_move (rfl : _ = AV.vec _)) ?_
   refine RK.M rfl ?_
   refine RK.M rfl ?_
   refine RK.V (op_build_ar hT rfl rfl rfl (es := [_, _]) rfl) ?_
   refine RK.V (op_rawLook (M := prM s y.1 k) (k := kyI z.1) (kc := kcI) hT rfl rfl keyI rfl rfl hone rfl rfl rfl (by rw [hgr])) ?_
   refine RK.V (op_move (rfl : _ = AV.t _)) ?_
   refine RK.V (op_extract rfl (v := .c _) rfl) ?_
   refine RK.V (op_extract rfl (v := .c _) rfl) ?_
   refine RK.As rfl ?_
   refine RK.As rfl ?_
   refine RK.D ?_
   refine AWp_sr hP ?_
   refine RK.M rfl ?_
   refine RK.D ?_
   refine AWp_cond_false rfl rfl ?_
   refine AWp_sr hP ?_
   refine RK.V (op_move (rfl : _ = AV.vec _)) ?_
   refine RK.M rfl ?_
   refine RK.M rfl ?_
   refine RK.V (op_build_ar hT rfl rfl rfl (es := [_, _]) rfl) ?_
   refine RK.V (op_move (rfl : _ = AV.vec _)) ?_
   refine RK.V (op_len_vecG hT enM_len rfl rfl rfl rfl rfl) ?_
   refine RK.sto guard_none (op_rawIns (M := prM s y.1 k) (k := kyI z.1) (kc := kcI) (v := .int .i64 ((prL s y.1 k).length : Nat)) hT rfl rfl keyI hgr rfl rfl rfl rfl) ?_
   refine RK.D ?_
   refine AWp_region hP ?_
   refine RK.V (op_move (rfl : _ = AV.vec _)) ?_
   refine RK.F hT rfl rfl rfl rfl rfl rfl ?_
   refine RK.G2 hT rfl rfl rfl rfl rfl rfl ?_
   refine RK.V (Eff.call0 (un_of _ (by first | assumption | decide))) ?_
   refine RK.M rfl ?_
   refine RK.V (op_mul rfl rfl (c := 2 * (z.1.a.natAbs : Int)) (by rw [IntKind.wrap_i64]; omega)) ?_
   refine RK.V (Eff.call0 (un_of _ (by first | assumption | decide))) ?_
   refine RK.V (Eff.call0 (un_of _ (by first | assumption | decide))) ?_
   refine RK.V (op_build_st hT rfl rfl rfl (es := [_, _, _, _, _, _, _, _]) rfl) ?_
   refine RK.V (op_bslice hT rfl rfl rfl (es := [_, _, _, _, _, _, _, _]) rfl rfl rfl) ?_
   refine RK.app guard_none (op_appendG (encD := enM) hT enM_len (by decide) rfl rfl rfl rfl rfl rfl rfl (b := trm z.1) rfl (by omega) (by decide) (by decide)) ?_
   refine RK.V (op_assign (rfl : _ = AV.vec _)) ?_
   refine RK.D ?_
   refine AWp_rn 94 1000 rfl rfl rfl ?_
   refine AWp_region hP ?_
   refine RK.G6 hT rfl rfl rfl rfl rfl rfl ?_
   refine RK.V (Eff.call0 cRho) ?_
   refine RK.V (op_move (rfl : _ = AV.t _)) ?_
   refine RK.V (op_extract rfl (v := .a _) rfl) ?_
   refine RK.V (op_extract rfl (v := .a _) rfl) ?_
   refine RK.V (op_extract rfl (v := .c _) rfl) ?_
   refine RK.S hT rfl rfl rfl rfl rfl rfl rfl ?_
   refine RK.D ?_
   refine AWp_region hP ?_
   refine RK.As rfl ?_
   refine RK.D ?_
   refine ⟨k + 1, by omega, by omega, le_stL ⟨.refl _, .refl _, .refl _, .refl _, Sub.bool (decide_eq_false (Nat.succ_ne_zero k)).symm, trivial⟩ ⟨Eq.trans rfl (congrArg (fun l : Fm => some (⟨false, 1, 36, FL l.a l.b l.c⟩ : Blk)) hn.symm), Eq.trans rfl (congrArg (fun l => some (VB 8 91 enM l : Blk)) hLs.symm), Eq.trans rfl (congrArg (fun l => some (RB (enR kcI l) : Blk)) hMs.symm), trivial⟩⟩
  ·have hb2_ := (notF hb2)
   have hkm2 : k = m := by
    have h8 := of_decide_eq_true (notF hb2)
    rcases Nat.lt_or_ge k m with e | e
    ·exact absurd (by omega) (h.no k (by omega) e)
    ·omega
   subst hkm2
   refine AWp_exit ?_
   refine AWp_sr hP ?_
   refine RK.V (op_move (rfl : _ = AV.vec _)) ?_
   refine RK.V (op_assign (rfl : _ = AV.vec _)) ?_
   refine RK.D ?_
   refine AWp_freezeG (encD := enM) enM_len rfl (t := 2) rfl rfl ?_
   refine AWp_ret ?_
   refine ends_one rfl (.inr rfl) (res_tmp rfl) ?_ O_ends
   exact .refl _
end Go.Proofs.YtfdjankalhfceaaGreat
end
