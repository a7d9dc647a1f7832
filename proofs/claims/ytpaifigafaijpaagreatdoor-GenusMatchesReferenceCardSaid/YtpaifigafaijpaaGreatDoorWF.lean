import Derived.Test.YtpaifigafaijpaaGreatDoorWE
import Derived.Test.YtpaifigafaijpaaGreatDoorWB
import Derived.Test.YtpaifigafaijpaaGreatDoorWD
import Derived.Test.YtpaifigafaijpaaGreatDoorWC
set_option maxRecDepth 100000
set_option maxHeartbeats 6000000
section
namespace Go.Proofs.YtpaifigafaijpaaGreatDoor
open Go Go.AM
theorem q_turn0 (a b c p q r s t u v w : Int) (ha : L 34 a) (hb : L 34 b) (hc : L 34 c) (hp : L 34 p) (hq : L 34 q) (hr : L 34 r) (hs : L 34 s) (ht : L 34 t) (hu : L 34 u) (hv : L 34 v) (hw : L 34 w) :
  CallM Tryz.prog 102 [.loc 0 0, I t, I u, I v, I w] (upd O 0 (some ⟨false, 1, 141, [zn (a), zm (a), zn (b), zm (b), zn (c), zm (c), zn (p), zm (p), zn (q), zm (q), zn (r), zm (r), zn (s), zm (s)]⟩)) (.t []) (upd O 0 (some ⟨false, 1, 141, [zn (vl a b c t v), zm (vl a b c t v), zn (apB a b c t u v w), zm (apB a b c t u v w), zn (vl a b c u w), zm (vl a b c u w), zn (p * t + q * v), zm (p * t + q * v), zn (p * u + q * w), zm (p * u + q * w), zn (r * t + s * v), zm (r * t + s * v), zn (r * u + s * w), zm (r * u + s * w)]⟩)) := by
 have ia : LB a 34 := ⟨ha⟩
 have ib : LB b 34 := ⟨hb⟩
 have ic : LB c 34 := ⟨hc⟩
 have ip : LB p 34 := ⟨hp⟩
 have iq : LB q 34 := ⟨hq⟩
 have ir : LB r 34 := ⟨hr⟩
 have is : LB s 34 := ⟨hs⟩
 have it : LB t 34 := ⟨ht⟩
 have iu : LB u 34 := ⟨hu⟩
 have iv : LB v 34 := ⟨hv⟩
 have iw : LB w 34 := ⟨hw⟩
 refine callM_of (np := 1) Tryz.func102 (by kernel_rfl) rfl rfl (Nat.le_of_ble_eq_true rfl) upd1_lt upd1_dom rfl ?_
 refine AWp_sr hP<|RK.alc guard_none (op_box rfl rfl)<|RK.alc guard_none (op_box rfl rfl)<|RK.alc guard_none (op_box rfl rfl)<|RK.alc guard_none (op_box rfl rfl)<|RK.D<|AWp_sr hP<|RK.G2 hT rfl rfl rfl rfl rfl rfl<|RK.G2 hT rfl rfl rfl rfl rfl rfl<|RK.G2 hT rfl rfl rfl rfl rfl rfl<|RK.G2 hT rfl rfl rfl rfl rfl rfl<|RK.V (op_build_st hT rfl rfl rfl (es := [_, _, _, _, _, _, _, _]) rfl) ?_
 refine RK.alc guard_none (op_alloc hT rfl rfl)<|RK.S hT rfl rfl rfl rfl rfl rfl rfl<|RK.D<|AWp_region hP<|RK.V (op_move (rfl : _ = AV.loc _ _)) ?_
 refine RK.V (op_move (rfl : _ = AV.loc _ _)) ?_
 refine RK.V (op_move (rfl : _ = AV.loc _ _)) ?_
 refine RK.V (op_nilCheck_loc rfl) ?_
 refine RK.F hT rfl rfl rfl rfl rfl rfl<|RK.G6 hT rfl rfl rfl rfl rfl rfl<|RK.V (op_load_agg hT rfl rfl rfl rfl (cs := [_, _, _, _, _, _, _, _]) rfl rfl) ?_
 refine RK.V (Eff.call0 (q_Apply _ _ _ _ _ _ _ lz lz lz lz lz lz lz)) ?_
 refine RK.V (op_move (rfl : _ = AV.loc _ _)) ?_
 refine RK.V (op_nilCheck_loc rfl) ?_
 refine RK.F hT rfl rfl rfl rfl rfl rfl<|RK.V (op_load_agg hT rfl rfl rfl rfl (cs := [_, _, _, _, _, _, _, _]) rfl rfl) ?_
 refine RK.V (op_load_agg hT rfl rfl rfl rfl (cs := [_, _, _, _, _, _, _, _]) rfl rfl) ?_
 refine RK.V (Eff.call0 (q_Times _ _ _ _ _ _ _ _ lz lz lz lz lz lz lz lz)) ?_
 refine RK.V (op_nilCheck_loc rfl) ?_
 refine RK.F hT rfl rfl rfl rfl rfl rfl<|RK.S hT rfl rfl rfl rfl rfl rfl rfl<|RK.V (op_nilCheck_loc rfl) ?_
 refine RK.F hT rfl rfl rfl rfl rfl rfl<|RK.S hT rfl rfl rfl rfl rfl rfl rfl<|RK.D ?_
 refine ends_none rfl (.inl rfl)  ?_ (own_end1 rfl)
 exact .refl _
theorem q_turn (m : Nat) (a b c p q r s t u v w : Int) (ha : L 34 a) (hb : L 34 b) (hc : L 34 c) (hp : L 34 p) (hq : L 34 q) (hr : L 34 r) (hs : L 34 s) (ht : L 34 t) (hu : L 34 u) (hv : L 34 v) (hw : L 34 w) :
  CallM Tryz.prog 102 [.loc m 0, I t, I u, I v, I w] (upd O m (some ⟨false, 1, 141, [zn (a), zm (a), zn (b), zm (b), zn (c), zm (c), zn (p), zm (p), zn (q), zm (q), zn (r), zm (r), zn (s), zm (s)]⟩)) (.t []) (upd O m (some ⟨false, 1, 141, [zn (vl a b c t v), zm (vl a b c t v), zn (apB a b c t u v w), zm (apB a b c t u v w), zn (vl a b c u w), zm (vl a b c u w), zn (p * t + q * v), zm (p * t + q * v), zn (p * u + q * w), zm (p * u + q * w), zn (r * t + s * v), zm (r * t + s * v), zn (r * u + s * w), zm (r * u + s * w)]⟩)) := CallM.ren1 m (q_turn0 a b c p q r s t u v w ha hb hc hp hq hr hs ht hu hv hw) rfl rfl
theorem q_Reduce (a b c : Int) (ha : L 26 a) (hb : L 26 b) (hc : L 26 c) :
  Call0 Tryz.prog 35 [FA a b c] (.t [PF (rdF a b c), PM (rdM a b c), PE (rdE a b c)]) := by
 have ia : LB a 26 := ⟨ha⟩
 have ib : LB b 26 := ⟨hb⟩
 have ic : LB c 26 := ⟨hc⟩
 obtain ⟨M, hMa, hMc, hM0, hML⟩ := ha.max2 hc
 refine callM_of (np := 0) Tryz.func35 (by kernel_rfl) rfl rfl (Nat.le_of_ble_eq_true rfl) (fun m h => absurd rfl h) (fun m h => absurd rfl h) rfl ?_
 refine AWp_sr hP<|RK.alc guard_none (op_box rfl rfl)<|RK.alc guard_none (op_alloc hT rfl rfl)<|RK.alc guard_none (op_alloc hT rfl rfl)<|RK.As rfl<|RK.D<|AWp_sr hP<|RK.G6 hT rfl rfl rfl rfl rfl rfl<|RK.V (Eff.call0 (q_Check _ _ _ lz lz lz)) ?_
 refine RK.As rfl<|RK.D<|AWp_seq<|AWp_sr hP<|RK.M rfl<|RK.V (op_eql rfl rfl) ?_
 refine RK.M rfl ?_
 refine RK.split (t := 16) rfl (fun hg1 => ?_) (fun hg1 => ?_)
 ·have hg1_ := bT hg1
  refine RK.val (guard_yes rfl rfl hg1) (op_load_agg hT rfl rfl rfl rfl (cs := [_, _, _, _, _, _]) rfl rfl) ?_
  refine RK.val (guard_yes rfl rfl hg1) (Eff.call0 (q_Disc _ _ _ lz lz lz)) ?_
  refine RK.val (guard_yes rfl rfl hg1) (Eff.call0 (int_Sign _)) ?_
  refine RK.val (guard_yes rfl rfl hg1) (op_gtr rfl rfl) ?_
  refine RK.V (op_pick_t rfl hg1 (rfl : _ = AV.p (.c _))) ?_
  refine RK.D ?_
  refine AWp_cond rfl (fun hb2 => ?_) (fun hb2 => ?_)
  ·have hb2_ := of_decide_eq_true hb2
   refine AWp_region hP<|RK.As rfl<|RK.D<|AWp_seq<|AWp_sr hP<|RK.M rfl<|RK.V (op_neq rfl rfl) ?_
   refine RK.D<|AWp_cond_true rfl rfl ?_
   refine AWp_sr hP<|RK.V (op_build_st hT rfl rfl rfl (es := [_, _, _, _, _, _]) rfl) ?_
   refine RK.V (op_build_st hT rfl rfl rfl (es := [_, _, _, _, _, _, _, _]) rfl) ?_
   refine RK.M rfl<|RK.S hT rfl rfl rfl rfl rfl rfl rfl<|RK.S hT rfl rfl rfl rfl rfl rfl rfl<|RK.As rfl<|RK.D<|AWp_ret ?_
   refine ends_three rfl (.inr rfl) (res_cell_agg hT rfl rfl rfl rfl (cs := [_, _, _, _, _, _]) rfl rfl) (res_cell_agg hT rfl rfl rfl rfl (cs := [_, _, _, _, _, _, _, _]) rfl rfl) (res_tmp rfl) ?_ O_ends
   exact Sub.of_eq (rd_res0 (rdE_5 hg1 hb2_) (by decide))
  ·have hb2_ := of_decide_eq_false hb2
   refine AWp_skip<|AWp_seq<|AWp_sr hP<|RK.M rfl<|RK.V (op_neq rfl rfl) ?_
   refine RK.D<|AWp_cond_false rfl (by rw [bne, hg1]; rfl) ?_
   refine AWp_skip<|AWp_sr hP<|RK.V (Eff.call0 (q_number _ (by first | assumption | decide))) ?_
   refine RK.V (Eff.call0 (q_number _ (by first | assumption | decide))) ?_
   refine RK.alc guard_none (op_alloc hT rfl rfl)<|RK.alc guard_none (op_alloc hT rfl rfl)<|RK.S hT rfl rfl rfl rfl rfl rfl rfl<|RK.S hT rfl rfl rfl rfl rfl rfl rfl<|RK.D<|AWp_sr hP<|RK.G6 hT rfl rfl rfl rfl rfl rfl<|RK.G2 hT rfl rfl rfl rfl rfl rfl<|RK.G2 hT rfl rfl rfl rfl rfl rfl<|RK.G2 hT rfl rfl rfl rfl rfl rfl<|RK.G2 hT rfl rfl rfl rfl rfl rfl<|RK.V (op_build_st hT rfl rfl rfl (es := [_, _, _, _, _, _, _, _]) rfl) ?_
   refine RK.V (op_build_st hT rfl rfl rfl (es := [_, _, _, _, _, _, _, _, _, _, _, _, _, _]) rfl) ?_
   refine RK.alc guard_none (op_box rfl rfl)<|RK.V (op_assign (rfl : _ = AV.loc _ _)) ?_
   refine RK.D<|AWp_seq<|AWp_block ?_
   have he0 := rdE_0 hg1 hb2_
   have hp0 := rdE_pos he0
   refine AWp_loop (ι := (Fm × Mt) × Nat) (fun i => stL [(2, .loc 2 0), (3, .loc 3 0), (6, .loc 6 0), (7, .loc 7 0), (8, .loc 36 0)] [(2, ⟨false, 1, 53, FL 0 0 0⟩), (3, ⟨false, 1, 64, ML 0 0 0 0⟩), (6, ⟨false, 1, 36, [zn 1, zm 1]⟩), (7, ⟨false, 1, 36, [zn 0, zm 0]⟩), (36, ⟨false, 1, 141, [zn (i.1.1.a), zm (i.1.1.a), zn (i.1.1.b), zm (i.1.1.b), zn (i.1.1.c), zm (i.1.1.c), zn (i.1.2.a), zm (i.1.2.a), zn (i.1.2.b), zm (i.1.2.b), zn (i.1.2.c), zm (i.1.2.c), zn (i.1.2.d), zm (i.1.2.d)]⟩)]) (fun i => AM.Good ⟨a, b, c⟩ M i.1 ∧ i.1.1.mu ≤ i.2 ∧ rdRun i.2 i.1 = rdRun (Fm.mu ⟨a, b, c⟩) (⟨a, b, c⟩, .one)) (fun i => i.2) ((⟨a, b, c⟩, .one), Fm.mu ⟨a, b, c⟩) ⟨good_one hp0 hMa hMc, Nat.le_refl _, rfl⟩ (le_stL ⟨.refl _, .refl _, .refl _, .refl _, .refl _, trivial⟩ ⟨rfl, rfl, rfl, rfl, rfl, trivial⟩) ?_
   rintro ⟨s, k⟩ ⟨hG, hk, hR⟩
   have hL := hG.L hp0 hMa hMc hML
   have i1 : LB s.1.a 27 := ⟨hL.1.a⟩
   have i2 : LB s.1.b 27 := ⟨hL.1.b⟩
   have i3 : LB s.1.c 27 := ⟨hL.1.c⟩
   have i4 : LB s.2.a 27 := ⟨hL.2.a⟩
   have i5 : LB s.2.b 27 := ⟨hL.2.b⟩
   have i6 : LB s.2.c 27 := ⟨hL.2.c⟩
   have i7 : LB s.2.d 27 := ⟨hL.2.d⟩
   have hs0 : 2 * s.1.a ≠ 0 := by
    have h9 : 0 < s.1.a := hG.pos.1
    omega
   have i8 : LB s.1.k 28 := ⟨by unfold Fm.k; exact lz⟩
   refine AWp_seq<|AWp_sr hP<|RK.V (op_move (rfl : _ = AV.loc _ _)) ?_
   refine RK.V (op_nilCheck_loc rfl) ?_
   refine RK.F hT rfl rfl rfl rfl rfl rfl<|RK.G6 hT rfl rfl rfl rfl rfl rfl<|RK.V (Eff.call0 (q_Reduced _ _ _ lz lz lz)) ?_
   refine RK.V (op_unot rfl) ?_
   refine RK.D ?_
   refine AWp_cond rfl (fun hb3 => ?_) (fun hb3 => ?_)
   ·have hb3_ := (notT hb3)
    refine AWp_skip<|AWp_block<|AWp_sr hP<|RK.V (op_move (rfl : _ = AV.loc _ _)) ?_
    refine RK.V (op_nilCheck_loc rfl) ?_
    refine RK.F hT rfl rfl rfl rfl rfl rfl<|RK.F hT rfl rfl rfl rfl rfl rfl<|RK.G2 hT rfl rfl rfl rfl rfl rfl<|RK.V (op_move (rfl : _ = AV.loc _ _)) ?_
    refine RK.V (op_nilCheck_loc rfl) ?_
    refine RK.F hT rfl rfl rfl rfl rfl rfl<|RK.F hT rfl rfl rfl rfl rfl rfl<|RK.G2 hT rfl rfl rfl rfl rfl rfl<|RK.V (Eff.call0 (int_Sub _ _ lz lz)) ?_
    refine RK.V (Eff.call0 (q_number _ (by first | assumption | decide))) ?_
    refine RK.V (op_move (rfl : _ = AV.loc _ _)) ?_
    refine RK.V (op_nilCheck_loc rfl) ?_
    refine RK.F hT rfl rfl rfl rfl rfl rfl<|RK.F hT rfl rfl rfl rfl rfl rfl<|RK.G2 hT rfl rfl rfl rfl rfl rfl<|RK.V (op_bslice hT rfl rfl rfl (es := [_, _, _, _]) rfl rfl rfl) ?_
    refine RK.V (Eff.call0 (q_product2 _ _ lz lz)) ?_
    refine RK.V (Eff.call0 (int_DivMod _ _ lz lz hs0)) ?_
    refine RK.V (op_move (rfl : _ = AV.t _))<|RK.V (op_extract rfl (v := .a _) rfl)<|RK.V (op_extract rfl (v := .a _) rfl)<|RK.V (op_extract rfl (v := .c _) rfl)<|RK.alc guard_none (op_alloc hT rfl rfl)<|RK.alc guard_none (op_alloc hT rfl rfl)<|RK.S hT rfl rfl rfl rfl rfl rfl rfl<|RK.S hT rfl rfl rfl rfl rfl rfl rfl<|RK.As rfl<|RK.D<|AWp_sr hP<|RK.V (op_move (rfl : _ = AV.loc _ _)) ?_
    refine RK.G2 hT rfl rfl rfl rfl rfl rfl<|RK.G2 hT rfl rfl rfl rfl rfl rfl<|RK.G2 hT rfl rfl rfl rfl rfl rfl<|RK.G2 hT rfl rfl rfl rfl rfl rfl<|RK.mut guard_none (Eff.call (rd := [36]) (q_turn 36 (s.1.a) (s.1.b) (s.1.c) (s.2.a) (s.2.b) (s.2.c) (s.2.d) _ _ _ _ lz lz lz lz lz lz lz lz lz lz lz) (own1 rfl) upd1_mem) ?_
    refine RK.D<|AWp_sr hP<|RK.V (op_move (rfl : _ = AV.loc _ _)) ?_
    refine RK.V (op_nilCheck_loc rfl) ?_
    refine RK.F hT rfl rfl rfl rfl rfl rfl<|RK.G6 hT rfl rfl rfl rfl rfl rfl<|RK.V (Eff.call0 (q_Reduced _ _ _ lz lz lz)) ?_
    refine RK.V (op_unot rfl) ?_
    refine RK.D ?_
    refine AWp_cond rfl (fun hb4 => ?_) (fun hb4 => ?_)
    ·have hb4_ := (notT hb4)
     refine AWp_region hP<|RK.V (op_move (rfl : _ = AV.loc _ _)) ?_
     refine RK.G2 hT rfl rfl rfl rfl rfl rfl<|RK.V (Eff.call0 (q_number _ (by first | assumption | decide))) ?_
     refine RK.G2 hT rfl rfl rfl rfl rfl rfl<|RK.G2 hT rfl rfl rfl rfl rfl rfl<|RK.mut guard_none (Eff.call (rd := [36]) (q_turn 36 (vl s.1.a s.1.b s.1.c 1 0) (apB s.1.a s.1.b s.1.c 1 s.1.k 0 1) (vl s.1.a s.1.b s.1.c s.1.k 1) (s.2.a * 1 + s.2.b * 0) (s.2.a * s.1.k + s.2.b * 1) (s.2.c * 1 + s.2.d * 0) (s.2.c * s.1.k + s.2.d * 1) _ _ _ _ lz lz lz lz lz lz lz lz lz lz lz) (own1 rfl) upd1_mem) ?_
     refine RK.D ?_
     have hx := rd_next hG hk hR hb3 (stp_S hb4)
     refine ⟨(((s.1.app (.T s.1.k)).app .S, (s.2.mul (.T s.1.k)).mul .S), k - 1), hx.1, hx.2, le_stL ⟨.refl _, .refl _, .refl _, .refl _, .refl _, trivial⟩ ⟨rfl, rfl, rfl, rfl, rfl, trivial⟩⟩
    ·have hb4_ := (notF hb4)
     refine AWp_skip ?_
     have hx := rd_next hG hk hR hb3 (stp_T hb4)
     refine ⟨((s.1.app (.T s.1.k), s.2.mul (.T s.1.k)), k - 1), hx.1, hx.2, le_stL ⟨.refl _, .refl _, .refl _, .refl _, .refl _, trivial⟩ ⟨rfl, rfl, rfl, rfl, rfl, trivial⟩⟩
   ·have hb3_ := (notF hb3)
    refine AWp_exit<|AWp_sr hP<|RK.V (op_move (rfl : _ = AV.loc _ _)) ?_
    refine RK.V (op_nilCheck_loc rfl) ?_
    refine RK.F hT rfl rfl rfl rfl rfl rfl<|RK.G6 hT rfl rfl rfl rfl rfl rfl<|RK.V (op_move (rfl : _ = AV.loc _ _)) ?_
    refine RK.V (op_nilCheck_loc rfl) ?_
    refine RK.F hT rfl rfl rfl rfl rfl rfl<|RK.V (op_load_agg hT rfl rfl rfl rfl (cs := [_, _, _, _, _, _, _, _]) rfl rfl) ?_
    refine RK.S hT rfl rfl rfl rfl rfl rfl rfl<|RK.S hT rfl rfl rfl rfl rfl rfl rfl<|RK.As rfl<|RK.D<|AWp_ret ?_
    refine ends_three rfl (.inr rfl) (res_cell_agg hT rfl rfl rfl rfl (cs := [_, _, _, _, _, _]) rfl rfl) (res_cell_agg hT rfl rfl rfl rfl (cs := [_, _, _, _, _, _, _, _]) rfl rfl) (res_tmp rfl) ?_ O_ends
    exact Sub.of_eq (rd_res he0 (rd_done hR hb3))
 ·have hg1_ := bF hg1
  refine RK.skip (guard_no rfl rfl hg1) ?_
  refine RK.skip (guard_no rfl rfl hg1) ?_
  refine RK.skip (guard_no rfl rfl hg1) ?_
  refine RK.skip (guard_no rfl rfl hg1) ?_
  refine RK.V (op_pick_f rfl hg1 (rfl : _ = AV.p (.c _))) ?_
  refine RK.D<|AWp_cond_false rfl rfl ?_
  refine AWp_skip<|AWp_seq<|AWp_sr hP<|RK.M rfl<|RK.V (op_neq rfl rfl) ?_
  refine RK.D<|AWp_cond_true rfl (by rw [bne, hg1]; rfl) ?_
  refine AWp_sr hP<|RK.V (op_build_st hT rfl rfl rfl (es := [_, _, _, _, _, _]) rfl) ?_
  refine RK.V (op_build_st hT rfl rfl rfl (es := [_, _, _, _, _, _, _, _]) rfl) ?_
  refine RK.M rfl<|RK.S hT rfl rfl rfl rfl rfl rfl rfl<|RK.S hT rfl rfl rfl rfl rfl rfl rfl<|RK.As rfl<|RK.D<|AWp_ret ?_
  refine ends_three rfl (.inr rfl) (res_cell_agg hT rfl rfl rfl rfl (cs := [_, _, _, _, _, _]) rfl rfl) (res_cell_agg hT rfl rfl rfl rfl (cs := [_, _, _, _, _, _, _, _]) rfl rfl) (res_tmp rfl) ?_ O_ends
  exact Sub.of_eq (rd_res0 (rdE_ck hg1).1 (fun e => by rw [e] at hg1; cases hg1))
end Go.Proofs.YtpaifigafaijpaaGreatDoor
end
section
namespace Go.Proofs.YtpaifigafaijpaaGreatDoor
open Go Go.AM
theorem sl_back1 (zs : List Nat) (hz : zs.length ≤ 1000000) :
  Iter Tryz.prog 218 [[W zs]] (bkL zs) := by
 refine iter_of Tryz.func218 (by kernel_rfl) rfl rfl (Nat.le_of_ble_eq_true rfl) rfl ?_
 intro l n0 J hK
 refine AJ_seq ?_
 refine AJ_region hP ?_
 refine RK.V (op_load_ip_one hT rfl rfl rfl (by first | rfl | exact wget (by omega))) ?_
 refine RK.V (op_len hT rfl rfl rfl (l := zs.length) rfl) ?_
 refine RK.V (op_sub rfl rfl (by first | exact IntWalk.i64_in _ (by omega) | rfl)) ?_
 refine RK.As rfl<|RK.D<|AJ_block ?_
 refine AJ_loop (ι := Nat) (fun k => stL [(0, .p (.c (.v (.func (.yield l) #[] #[])))), (1, .ip [W zs]), (3, Z ((zs.length : Int) - 1 - (k : Int)))] []) (fun k => k) (fun k => k ≤ zs.length) (fun k => zs.length - k) 0 (Nat.zero_le _) rfl (le_stL ⟨.refl _, .refl _, Sub.int (by simp), trivial⟩ trivial) ?_
 intro k hk
 refine AJ_seq ?_
 refine AJ_seq ?_
 refine AJ_region hP ?_
 refine RK.M rfl<|RK.V (op_geq rfl rfl) ?_
 refine RK.D ?_
 refine AJ_cond rfl (fun hb1 => ?_) (fun hb1 => ?_)
 ·have hb1_ := of_decide_eq_true hb1
  refine AJ_skip ?_
  refine AJ_seq ?_
  refine AJ_block ?_
  refine AJ_seq ?_
  refine AJ_regionY ?_
  refine RJ.val guard_none (op_move (rfl : _ = AV.p (.c _))) ?_
  refine RJ.val guard_none (op_move (rfl : _ = AV.p (.c _))) ?_
  refine RJ.val guard_none (op_load_ip_one hT rfl rfl rfl (by first | rfl | exact wget (by omega))) ?_
  refine RJ.val guard_none (op_move (rfl : _ = AV.p (.c _))) ?_
  refine RJ.val guard_none (op_index_sl hT (l := zs.length) (n := ((zs.length : Int) - 1 - (k : Int))) rfl rfl rfl rfl rfl rfl (by omega) (W_ne (by omega))) ?_
  refine RJ.val guard_none (op_load_ip_one hT rfl rfl rfl (dv := w32 (zs.getD (zs.length - 1 - k) 0)) (by show ((zs.map w32).drop ((((zs.length : Int) - 1 - (k : Int))).toNat * 1))[0]? = _; rw [show (((zs.length : Int) - 1 - (k : Int))).toNat = zs.length - 1 - k by omega]; exact wget (by omega))) ?_
  refine RJ.yield hK guard_none rfl rfl (bkL_at (by omega)) ?_
  refine RJ.val guard_none (op_unot rfl) ?_
  refine RJ.done ?_
  refine AJ_cond_false rfl rfl ?_
  refine AJ_skip ?_
  refine AJ_region hP ?_
  refine RK.M rfl<|RK.V (op_sub rfl rfl (by first | exact IntWalk.i64_in _ (by omega) | rfl)) ?_
  refine RK.As rfl<|RK.D ?_
  refine ⟨k + 1, by omega, by omega, rfl, le_stL ⟨.refl _, .refl _, Sub.int (by omega), trivial⟩ trivial⟩
 ·have hb1_ := of_decide_eq_false hb1
  refine AJ_exit ?_
  refine ⟨.inl rfl, ?_⟩
  exact (bkL_len zs).symm ▸ (by omega)
theorem sl_back (zs : List Nat) :
  Call0 Tryz.prog 179 [.p (.c (W zs))] (.fn 218 [[W zs]]) := by
 refine callA_of Tryz.func179 (by kernel_rfl) rfl rfl (Nat.le_of_ble_eq_true rfl) rfl ?_
 refine AWp_sr hP<|RK.alc guard_none (op_box rfl rfl)<|RK.As rfl<|RK.D<|AWp_freezeBox (t := 1) rfl rfl ?_
 refine AWp_sr hP<|RK.V (op_makeFunc rfl) ?_
 refine RK.V (op_assign (rfl : _ = AV.fn _ _)) ?_
 refine RK.D<|AWp_ret ?_
 exact ⟨.inr rfl, 2, rfl, rfl⟩
theorem int_Low2 (x : Int) (hx : x.natAbs < 18446744073709551616) :
  Call0 Tryz.prog 131 [I x] (.t [PE (lwV x), PB (lwO x)]) := by
 have hlen : (wl x.natAbs).length ≤ 2 := wl_len_le (k := 2) (by omega)
 have hok := wl_ok x.natAbs
 refine callM_of (np := 0) Tryz.func131 (by kernel_rfl) rfl rfl (Nat.le_of_ble_eq_true rfl) (fun m h => absurd rfl h) (fun m h => absurd rfl h) rfl ?_
 refine AWp_sr hP<|RK.alc guard_none (op_box rfl rfl)<|RK.As rfl<|RK.As rfl<|RK.D<|AWp_seq<|AWp_sr hP<|RK.F hT rfl rfl rfl rfl rfl rfl<|RK.V (op_load_one hT rfl rfl rfl rfl (by first | rfl | exact vget (by omega))) ?_
 refine RK.V (op_len hT rfl rfl rfl (l := (wl x.natAbs).length) rfl) ?_
 refine RK.V (op_gtr rfl rfl) ?_
 refine RK.D<|AWp_cond_false rfl (decide_eq_false (by omega)) ?_
 refine AWp_skip<|AWp_sr hP<|RK.alc guard_none (op_alloc hT rfl rfl)<|RK.D<|AWp_seq<|AWp_sr hP<|RK.F hT rfl rfl rfl rfl rfl rfl<|RK.V (op_load_one hT rfl rfl rfl rfl (by first | rfl | exact vget (by omega))) ?_
 refine RK.V (Eff.call0 (sl_back (wl x.natAbs))) ?_
 refine RK.D<|AWp_block<|AWp_le (t := stL [(1, .loc 1 0), (4, .loc 4 0), (14, .fn 218 [[W (wl x.natAbs)]])] [(1, ⟨false, 1, 36, [zn x, zm x]⟩), (4, ⟨false, 1, 110, [.v (.int .u64 ((lwA (wl x.natAbs) 0 : Nat) : Int))]⟩)]) (le_stL ⟨.refl _, .refl _, .refl _, trivial⟩ ⟨rfl, by rw [lwA_0]; rfl, trivial⟩) ?_
 refine AWp_range 5 (fun k => lookO [(1, ⟨false, 1, 36, [zn x, zm x]⟩), (4, ⟨false, 1, 110, [.v (.int .u64 ((lwA (wl x.natAbs) k : Nat) : Int))]⟩)]) rfl (sl_back1 (wl x.natAbs) (by omega)) (bkL_two _) rfl rfl rfl (fun k xx hxx => ?_) ?_
 ·obtain ⟨hk, rfl⟩ := bkL_get hxx
  have hv := lwA_b hok hlen hk
  have hw := hok.getD ((wl x.natAbs).length - 1 - k)
  refine AWp_region hP<|RK.As rfl<|RK.D<|AWp_block<|AWp_region hP<|RK.V (op_load_one hT rfl rfl rfl rfl (by first | rfl | exact vget (by omega))) ?_
  refine RK.V (op_shl rfl rfl (by decide) (c := ((lwA (wl x.natAbs) k * 4294967296 : Nat) : Int)) (by rw [show (2 : Int) ^ (min (32 : Int).toNat IntKind.u64.bits) = 4294967296 from rfl, IntWalk.u64_in _ (by omega)]; omega)) ?_
  refine RK.M rfl<|RK.V (op_conv hT rfl rfl rfl rfl (IntWalk.u64_in _ (by omega))) ?_
  refine RK.V (op_or rfl rfl (or64 hv hw)) ?_
  refine RK.S hT rfl rfl rfl rfl rfl rfl rfl<|RK.D ?_
  refine ⟨rfl, GW.forget_as (congrArg (fun y => lookO [(1, ⟨false, 1, 36, [zn x, zm x]⟩), (4, ⟨false, 1, 110, [.v (.int .u64 ((y : Nat) : Int))]⟩)]) (lwA_next hk).symm) (SubO.own ⟨rfl, rfl, trivial⟩)⟩
 rw [bkL_len, lwA_all, wv_wl]
 refine AWp_sr hP<|RK.V (op_load_one hT rfl rfl rfl rfl (by first | rfl | exact vget (by omega))) ?_
 refine RK.V (op_conv hT rfl rfl rfl rfl (sw64_w hx)) ?_
 refine RK.As rfl<|RK.D<|AWp_seq<|AWp_sr hP<|RK.F hT rfl rfl rfl rfl rfl rfl<|RK.V (op_load_one hT rfl rfl rfl rfl (by first | rfl | exact vget (by omega))) ?_
 refine RK.D ?_
 refine AWp_cond rfl (fun hb1 => ?_) (fun hb1 => ?_)
 ·have hn : x < 0 := of_decide_eq_true hb1
  refine AWp_region hP<|RK.M rfl<|RK.V (op_uneg rfl (yL_neg hn)) ?_
  refine RK.As rfl<|RK.D<|AWp_seq<|AWp_sr hP<|RK.M rfl<|RK.V (op_neq rfl rfl) ?_
  refine RK.M rfl ?_
  refine RK.split (t := 30) rfl (fun hg2 => ?_) (fun hg2 => ?_)
  ·have hg2_ := bneT hg2
   refine RK.val (guard_yes rfl rfl hg2) (op_field_loc hT rfl rfl rfl rfl rfl rfl) ?_
   refine RK.val (guard_yes rfl rfl hg2) (op_load_one hT rfl rfl rfl rfl (by first | rfl | exact vget (by omega))) ?_
   refine RK.val (guard_yes rfl rfl hg2) (op_move (rfl : _ = AV.p (.c _))) ?_
   refine RK.val (guard_yes rfl rfl hg2) (op_lss rfl rfl) ?_
   refine RK.val (guard_yes rfl rfl hg2) (op_bne hT rfl rfl rfl rfl) ?_
   refine RK.V (op_pick_t rfl hg2 (rfl : _ = AV.p (.c _))) ?_
   refine RK.D ?_
   refine AWp_cond rfl (fun hb3 => ?_) (fun hb3 => ?_)
   ·refine AWp_sr hP<|RK.As rfl<|RK.As rfl<|RK.D<|AWp_ret ?_
    refine ends_two rfl (.inr rfl) (res_tmp rfl) (res_tmp rfl) ?_ O_ends
    exact Sub.of_eq (low_bad hx (by assumption))
   ·refine AWp_skip<|AWp_sr hP<|RK.M rfl<|RK.As rfl<|RK.As rfl<|RK.D<|AWp_ret ?_
    refine ends_two rfl (.inr rfl) (res_tmp rfl) (res_tmp rfl) ?_ O_ends
    exact Sub.of_eq (low_good hx (by assumption))
  ·have hg2_ := bneF hg2
   refine RK.skip (guard_no rfl rfl hg2) ?_
   refine RK.skip (guard_no rfl rfl hg2) ?_
   refine RK.skip (guard_no rfl rfl hg2) ?_
   refine RK.skip (guard_no rfl rfl hg2) ?_
   refine RK.skip (guard_no rfl rfl hg2) ?_
   refine RK.V (op_pick_f rfl hg2 (rfl : _ = AV.p (.c _))) ?_
   refine RK.D<|AWp_cond_false rfl rfl ?_
   refine AWp_skip<|AWp_sr hP<|RK.M rfl<|RK.As rfl<|RK.As rfl<|RK.D<|AWp_ret ?_
   refine ends_two rfl (.inr rfl) (res_tmp rfl) (res_tmp rfl) ?_ O_ends
   exact Sub.of_eq (low_zero0 hx (by assumption))
 ·have hn : ¬ x < 0 := of_decide_eq_false hb1
  rw [yL_pos hn]
  refine AWp_skip<|AWp_seq<|AWp_sr hP<|RK.M rfl<|RK.V (op_neq rfl rfl) ?_
  refine RK.M rfl ?_
  refine RK.split (t := 30) rfl (fun hg4 => ?_) (fun hg4 => ?_)
  ·have hg4_ := bneT hg4
   refine RK.val (guard_yes rfl rfl hg4) (op_field_loc hT rfl rfl rfl rfl rfl rfl) ?_
   refine RK.val (guard_yes rfl rfl hg4) (op_load_one hT rfl rfl rfl rfl (by first | rfl | exact vget (by omega))) ?_
   refine RK.val (guard_yes rfl rfl hg4) (op_move (rfl : _ = AV.p (.c _))) ?_
   refine RK.val (guard_yes rfl rfl hg4) (op_lss rfl rfl) ?_
   refine RK.val (guard_yes rfl rfl hg4) (op_bne hT rfl rfl rfl rfl) ?_
   refine RK.V (op_pick_t rfl hg4 (rfl : _ = AV.p (.c _))) ?_
   refine RK.D ?_
   refine AWp_cond rfl (fun hb5 => ?_) (fun hb5 => ?_)
   ·refine AWp_sr hP<|RK.As rfl<|RK.As rfl<|RK.D<|AWp_ret ?_
    refine ends_two rfl (.inr rfl) (res_tmp rfl) (res_tmp rfl) ?_ O_ends
    exact Sub.of_eq (low_bad hx (by assumption))
   ·refine AWp_skip<|AWp_sr hP<|RK.M rfl<|RK.As rfl<|RK.As rfl<|RK.D<|AWp_ret ?_
    refine ends_two rfl (.inr rfl) (res_tmp rfl) (res_tmp rfl) ?_ O_ends
    exact Sub.of_eq (low_good hx (by assumption))
  ·have hg4_ := bneF hg4
   refine RK.skip (guard_no rfl rfl hg4) ?_
   refine RK.skip (guard_no rfl rfl hg4) ?_
   refine RK.skip (guard_no rfl rfl hg4) ?_
   refine RK.skip (guard_no rfl rfl hg4) ?_
   refine RK.skip (guard_no rfl rfl hg4) ?_
   refine RK.V (op_pick_f rfl hg4 (rfl : _ = AV.p (.c _))) ?_
   refine RK.D<|AWp_cond_false rfl rfl ?_
   refine AWp_skip<|AWp_sr hP<|RK.M rfl<|RK.As rfl<|RK.As rfl<|RK.D<|AWp_ret ?_
   refine ends_two rfl (.inr rfl) (res_tmp rfl) (res_tmp rfl) ?_ O_ends
   exact Sub.of_eq (low_zero0 hx (by assumption))
theorem lw_in {x : Int} (h1 : -9223372036854775808 < x) (h2 : x < 9223372036854775808) : AV.t [PE (lwV x), PB (lwO x)] = .t [PE x, PB true] := by
 have e : lwO x = true := decide_eq_true ⟨by omega, h2⟩
 unfold lwV; rw [e]; rfl
theorem int_Low (x : Int) (h1 : -9223372036854775808 < x) (h2 : x < 9223372036854775808) : Call0 Tryz.prog 131 [I x] (.t [.c (.v (.int .i64 x)), PB true]) := lw_in h1 h2 ▸ int_Low2 x (by omega)
end Go.Proofs.YtpaifigafaijpaaGreatDoor
end
section
namespace Go.Proofs.YtpaifigafaijpaaGreatDoor
open Go Go.AM
theorem r_trim (ws : List Nat) (hok : okW ws) :
  Call0 Tryz.prog 146 [.p (.c (W ws))] (.p (.c (nt (wv ws)))) := by
 refine callM_of (np := 0) Tryz.func146 (by kernel_rfl) rfl rfl (Nat.le_of_ble_eq_true rfl) (fun m h => absurd rfl h) (fun m h => absurd rfl h) rfl ?_
 refine AWp_len (t := 0) rfl rfl (fun hlen => ?_)
 refine AWp_sr hP<|RK.As rfl<|RK.D<|AWp_seq<|AWp_block<|AWp_loop (ι := List Nat) (fun l => stL [(0, .p (.c (W l)))] []) (fun l => okW l ∧ wv l = wv ws ∧ l.length ≤ 140737488355328) (fun l => l.length) ws ⟨hok, rfl, hlen⟩ (le_stL ⟨.refl _, trivial⟩ trivial) ?_
 rintro l ⟨hl, hv, hn⟩
 refine AWp_seq<|AWp_sr hP<|RK.M rfl<|RK.V (op_len hT rfl rfl rfl rfl)<|RK.V (op_gtr rfl rfl) ?_
 refine RK.M rfl ?_
 refine RK.split (t := 6) rfl (fun hg1 => ?_) (fun hg1 => ?_)
 ·have hg1_ := of_decide_eq_true hg1
  refine RK.val (guard_yes rfl rfl hg1) (op_move (rfl : _ = AV.p (.c _))) ?_
  refine RK.val (guard_yes rfl rfl hg1) (op_move (rfl : _ = AV.p (.c _))) ?_
  refine RK.val (guard_yes rfl rfl hg1) (op_len hT rfl rfl rfl rfl) ?_
  refine RK.val (guard_yes rfl rfl hg1) (op_sub rfl rfl (by first | exact IntWalk.i64_in _ (by omega) | rfl)) ?_
  refine RK.val (guard_yes rfl rfl hg1) (by first | exact op_index_WN hT rfl rfl rfl rfl rfl rfl (by omega) | exact op_index_sl hT rfl rfl rfl rfl rfl rfl (by omega) (by first | exact W_ne (by omega) | simp)) ?_
  refine RK.val (guard_yes rfl rfl hg1) (op_load_ip_one hT rfl rfl rfl (by first | rfl | exact wget (by omega))) ?_
  refine RK.val (guard_yes rfl rfl hg1) (op_eql rfl rfl) ?_
  refine RK.V (op_pick_t rfl hg1 (rfl : _ = AV.p (.c _))) ?_
  refine RK.D ?_
  refine AWp_cond rfl (fun hb2 => ?_) (fun hb2 => ?_)
  ·have hb2_ := bT hb2
   refine AWp_skip<|AWp_block<|AWp_region hP<|RK.M rfl<|RK.M rfl<|RK.V (op_len hT rfl rfl rfl rfl)<|RK.V (op_sub rfl rfl (by first | exact IntWalk.i64_in _ (by omega) | rfl)) ?_
   refine RK.V (op_slice_hW hT rfl rfl rfl rfl rfl rfl (by omega)) ?_
   refine RK.As rfl<|RK.D ?_
   have e : ((l.length : Int) - 1).toNat = l.length - 1 := by omega
   refine ⟨l.take (l.length - 1), ⟨hl.take _, ?_, ?_⟩, ?_, le_stL ⟨Sub.of_eq ?_, trivial⟩ trivial⟩
   ·rw [wv_last0 (by omega) (by rw [← e]; omega), hv]
   ·rw [List.length_take]; omega
   ·rw [List.length_take]; omega
   ·show AV.p (.c (W (l.take ((l.length : Int) - 1).toNat))) = _
    rw [e]
  ·have hb2_ := bF hb2
   refine AWp_exit<|AWp_sr hP<|RK.M rfl<|RK.As rfl<|RK.D<|AWp_ret ?_
   refine ends_one rfl (.inr rfl) (res_tmp rfl) ?_ O_ends
   have e : ((l.length : Int) - 1).toNat = l.length - 1 := by omega
   refine Sub.of_eq ?_
   rw [← hv, nt_of hl (.inr (by rw [← e]; omega))]
 ·have hg1_ := of_decide_eq_false hg1
  refine RK.skip (guard_no rfl rfl hg1) ?_
  refine RK.skip (guard_no rfl rfl hg1) ?_
  refine RK.skip (guard_no rfl rfl hg1) ?_
  refine RK.skip (guard_no rfl rfl hg1) ?_
  refine RK.skip (guard_no rfl rfl hg1) ?_
  refine RK.skip (guard_no rfl rfl hg1) ?_
  refine RK.skip (guard_no rfl rfl hg1) ?_
  refine RK.V (op_pick_f rfl hg1 (rfl : _ = AV.p (.c _))) ?_
  refine RK.D<|AWp_cond_false rfl rfl ?_
  refine AWp_exit<|AWp_sr hP<|RK.M rfl<|RK.As rfl<|RK.D<|AWp_ret ?_
  refine ends_one rfl (.inr rfl) (res_tmp rfl) ?_ O_ends
  refine Sub.of_eq ?_
  rw [← hv, nt_of hl (.inl (by omega))]
theorem r_made (neg : Bool) (ws : List Nat) (h : okW ws) :
  Call0 Tryz.prog 70 [B neg, .p (.c (W ws))] (I (sg neg (wv ws))) := by
 refine callM_of (np := 0) Tryz.func70 (by kernel_rfl) rfl rfl (Nat.le_of_ble_eq_true rfl) (fun m h => absurd rfl h) (fun m h => absurd rfl h) rfl ?_
 refine AWp_sr hP<|RK.alc guard_none (op_alloc hT rfl rfl)<|RK.D<|AWp_sr hP<|RK.M rfl<|RK.V (Eff.call0 (r_trim _ h)) ?_
 refine RK.As rfl<|RK.D<|AWp_seq<|AWp_sr hP<|RK.M rfl<|RK.V (op_len hT rfl rfl rfl rfl)<|RK.V (op_eql rfl rfl) ?_
 refine RK.D ?_
 refine AWp_cond rfl (fun hb1 => ?_) (fun hb1 => ?_)
 ·have hb1_ := bT hb1
  refine AWp_sr hP<|RK.V (op_build_st hT rfl rfl rfl (es := [_, _]) rfl) ?_
  refine RK.S hT rfl rfl rfl rfl rfl rfl rfl<|RK.D<|AWp_ret ?_
  refine ends_one rfl (.inr rfl) (res_cell_agg hT rfl rfl rfl rfl (cs := [_, _]) rfl rfl) ?_ O_ends
  have h0 : wv ws = 0 := wl_len0 (by omega)
  rw [h0, sg_zero]
  exact .refl _
 ·have hb1_ := bF hb1
  refine AWp_skip<|AWp_sr hP<|RK.M rfl<|RK.M rfl<|RK.V (op_build_st hT rfl rfl rfl (es := [_, _]) rfl) ?_
  refine RK.S hT rfl rfl rfl rfl rfl rfl rfl<|RK.D<|AWp_ret ?_
  refine ends_one rfl (.inr rfl) (res_cell_agg hT rfl rfl rfl rfl (cs := [_, _]) rfl rfl) ?_ O_ends
  have h0 : 0 < wv ws := by
   rcases Nat.eq_zero_or_pos (wv ws) with e | e
   ·rw [e] at hb1_; exact absurd rfl hb1_
   ·exact e
  exact Sub.of_eq (by show _ = AV.p (.a [zn _, zm _]); rw [zn_sg h0, zm_sg])
theorem r_word (ws : List Nat) (i : Int) (hok : okW ws) :
  Call0 Tryz.prog 196 [.p (.c (W ws)), Z i] (.p (.c (.v (.int .u64 ((wd ws i : Nat) : Int))))) := by
 refine callM_of (np := 0) Tryz.func196 (by kernel_rfl) rfl rfl (Nat.le_of_ble_eq_true rfl) (fun m h => absurd rfl h) (fun m h => absurd rfl h) rfl ?_
 refine AWp_sr hP<|RK.As rfl<|RK.D<|AWp_seq<|AWp_sr hP<|RK.M rfl<|RK.V (op_lss rfl rfl)<|RK.M rfl ?_
 refine RK.split (t := 7) rfl (fun hg1 => ?_) (fun hg1 => ?_)
 ·have hg1_ := of_decide_eq_true hg1
  refine RK.skip (guard_no rfl rfl hg1) ?_
  refine RK.skip (guard_no rfl rfl hg1) ?_
  refine RK.skip (guard_no rfl rfl hg1) ?_
  refine RK.skip (guard_no rfl rfl hg1) ?_
  refine RK.V (op_pick_t rfl hg1 (rfl : _ = AV.p (.c _))) ?_
  refine RK.D<|AWp_cond_true rfl rfl ?_
  refine AWp_sr hP<|RK.As rfl<|RK.D<|AWp_ret ?_
  refine ends_one rfl (.inr rfl) (res_tmp rfl) ?_ O_ends
  exact Sub.int (by rw [wd_out (.inl hg1_)]; rfl)
 ·have hg1_ := of_decide_eq_false hg1
  have hi0 := of_decide_eq_false hg1
  refine RK.val (guard_yes rfl rfl hg1) (op_move (rfl : _ = AV.p (.c _))) ?_
  refine RK.val (guard_yes rfl rfl hg1) (op_move (rfl : _ = AV.p (.c _))) ?_
  refine RK.val (guard_yes rfl rfl hg1) (op_len hT rfl rfl rfl rfl) ?_
  refine RK.val (guard_yes rfl rfl hg1) (op_geq rfl rfl) ?_
  refine RK.V (op_pick_f rfl hg1 (rfl : _ = AV.p (.c _))) ?_
  refine RK.D ?_
  refine AWp_cond rfl (fun hb2 => ?_) (fun hb2 => ?_)
  ·have hb2_ := of_decide_eq_true hb2
   refine AWp_sr hP<|RK.As rfl<|RK.D<|AWp_ret ?_
   refine ends_one rfl (.inr rfl) (res_tmp rfl) ?_ O_ends
   exact Sub.int (by rw [wd_out (.inr hb2_)]; rfl)
  ·have hb2_ := of_decide_eq_false hb2
   refine AWp_skip<|AWp_sr hP<|RK.M rfl<|RK.M rfl<|RK.V (by first | exact op_index_WN hT rfl rfl rfl rfl rfl rfl (by omega) | exact op_index_sl hT rfl rfl rfl rfl rfl rfl (by omega) (by first | exact W_ne (by omega) | simp)) ?_
   refine RK.V (op_load_ip_one hT rfl rfl rfl (by first | rfl | exact wget (by omega))) ?_
   refine RK.V (op_conv hT rfl rfl rfl rfl (IntWalk.u64_in _ (by have := hok.getD i.toNat; omega))) ?_
   refine RK.As rfl<|RK.D<|AWp_ret ?_
   refine ends_one rfl (.inr rfl) (res_tmp rfl) ?_ O_ends
   exact Sub.int (by rw [wd_in (by omega)])
theorem r_Of (z : Int) (hz : InI64 z) :
  Call0 Tryz.prog 17 [.p (.c (.v (.int .i64 z)))] (I z) := by
 have hz1 : z.natAbs < 18446744073709551616 := by unfold InI64 at hz; omega
 refine callM_of (np := 0) Tryz.func17 (by kernel_rfl) rfl rfl (Nat.le_of_ble_eq_true rfl) (fun m h => absurd rfl h) (fun m h => absurd rfl h) rfl ?_
 refine AWp_sr hP<|RK.alc guard_none (op_alloc hT rfl rfl)<|RK.D<|AWp_sr hP<|RK.M rfl<|RK.V (op_conv hT rfl rfl rfl rfl u64_nonneg) ?_
 refine RK.As rfl<|RK.D<|AWp_seq<|AWp_sr hP<|RK.M rfl<|RK.V (op_lss rfl rfl)<|RK.D ?_
 refine AWp_cond rfl (fun hb1 => ?_) (fun hb1 => ?_)
 ·have hb1_ := of_decide_eq_true hb1
  refine AWp_region hP<|RK.M rfl<|RK.V (op_uneg rfl (u64_negc hz hb1_)) ?_
  refine RK.As rfl<|RK.D<|AWp_sr hP<|RK.M rfl<|RK.V (op_lss rfl rfl)<|RK.M rfl<|RK.V (op_conv hT rfl rfl rfl rfl (c := ((z.natAbs % 4294967296 : Nat) : Int)) (by first | exact u32_lo _ | exact of_lo hz hb1_)) ?_
  refine RK.M rfl<|RK.V (op_shrN (j := 32) rfl rfl (by decide)) ?_
  refine RK.V (op_conv hT rfl rfl rfl rfl (c := ((z.natAbs / 2 ^ 32 : Nat) : Int)) (by first | exact of_hi' hz | exact of_hi hz hb1_)) ?_
  refine RK.V (op_bslice hT rfl rfl rfl (es := [_, _]) rfl rfl rfl) ?_
  refine RK.V (Eff.call0 (r_made _ [z.natAbs % 4294967296, z.natAbs / 2 ^ 32] (okW_two (by omega)))) ?_
  refine RK.S hT rfl rfl rfl rfl rfl rfl rfl<|RK.D<|AWp_ret ?_
  refine ends_one rfl (.inr rfl) (res_cell_agg hT rfl rfl rfl rfl (cs := [_, _]) rfl rfl) ?_ O_ends
  exact Sub.I (by rw [wv_two]; exact of_sg)
 ·have hb1_ := of_decide_eq_false hb1
  refine AWp_skip<|AWp_sr hP<|RK.M rfl<|RK.V (op_lss rfl rfl)<|RK.M rfl<|RK.V (op_conv hT rfl rfl rfl rfl (c := ((z.natAbs % 4294967296 : Nat) : Int)) (by first | exact u32_lo _ | exact of_lo hz hb1_)) ?_
  refine RK.M rfl<|RK.V (op_shrN (j := 32) rfl rfl (by decide)) ?_
  refine RK.V (op_conv hT rfl rfl rfl rfl (c := ((z.natAbs / 2 ^ 32 : Nat) : Int)) (by first | exact of_hi' hz | exact of_hi hz hb1_)) ?_
  refine RK.V (op_bslice hT rfl rfl rfl (es := [_, _]) rfl rfl rfl) ?_
  refine RK.V (Eff.call0 (r_made _ [z.natAbs % 4294967296, z.natAbs / 2 ^ 32] (okW_two (by omega)))) ?_
  refine RK.S hT rfl rfl rfl rfl rfl rfl rfl<|RK.D<|AWp_ret ?_
  refine ends_one rfl (.inr rfl) (res_cell_agg hT rfl rfl rfl rfl (cs := [_, _]) rfl rfl) ?_ O_ends
  exact Sub.I (by rw [wv_two]; exact of_sg)
theorem r_Neg (x : Int) :
  Call0 Tryz.prog 169 [I x] (I (-x)) := by
 refine callM_of (np := 0) Tryz.func169 (by kernel_rfl) rfl rfl (Nat.le_of_ble_eq_true rfl) (fun m h => absurd rfl h) (fun m h => absurd rfl h) rfl ?_
 refine AWp_sr hP<|RK.alc guard_none (op_box rfl rfl)<|RK.alc guard_none (op_alloc hT rfl rfl)<|RK.D<|AWp_sr hP<|RK.F hT rfl rfl rfl rfl rfl rfl<|RK.V (op_load_one hT rfl rfl rfl rfl (by first | rfl | exact vget (by omega))) ?_
 refine RK.V (op_unot rfl) ?_
 refine RK.F hT rfl rfl rfl rfl rfl rfl<|RK.V (op_load_one hT rfl rfl rfl rfl (by first | rfl | exact vget (by omega))) ?_
 refine RK.V (Eff.call0 (r_made _ (wl x.natAbs) (wl_ok _))) ?_
 refine RK.S hT rfl rfl rfl rfl rfl rfl rfl<|RK.D<|AWp_ret ?_
 refine ends_one rfl (.inr rfl) (res_cell_agg hT rfl rfl rfl rfl (cs := [_, _]) rfl rfl) ?_ O_ends
 exact Sub.I (neg_sg x)
theorem r_Abs (x : Int) :
  Call0 Tryz.prog 163 [I x] (I x.natAbs) := by
 refine callM_of (np := 0) Tryz.func163 (by kernel_rfl) rfl rfl (Nat.le_of_ble_eq_true rfl) (fun m h => absurd rfl h) (fun m h => absurd rfl h) rfl ?_
 refine AWp_sr hP<|RK.alc guard_none (op_box rfl rfl)<|RK.alc guard_none (op_alloc hT rfl rfl)<|RK.D<|AWp_sr hP<|RK.F hT rfl rfl rfl rfl rfl rfl<|RK.V (op_load_one hT rfl rfl rfl rfl (by first | rfl | exact vget (by omega))) ?_
 refine RK.V (Eff.call0 (r_made _ (wl x.natAbs) (wl_ok _))) ?_
 refine RK.S hT rfl rfl rfl rfl rfl rfl rfl<|RK.D<|AWp_ret ?_
 refine ends_one rfl (.inr rfl) (res_cell_agg hT rfl rfl rfl rfl (cs := [_, _]) rfl rfl) ?_ O_ends
 exact Sub.I (abs_sg x)
theorem r_Sign (x : Int) :
  Call0 Tryz.prog 140 [I x] (Z (sgn x)) := by
 refine callM_of (np := 0) Tryz.func140 (by kernel_rfl) rfl rfl (Nat.le_of_ble_eq_true rfl) (fun m h => absurd rfl h) (fun m h => absurd rfl h) rfl ?_
 refine AWp_sr hP<|RK.alc guard_none (op_box rfl rfl)<|RK.As rfl<|RK.D<|AWp_seq<|AWp_sr hP<|RK.F hT rfl rfl rfl rfl rfl rfl<|RK.V (op_load_one hT rfl rfl rfl rfl (by first | rfl | exact vget (by omega))) ?_
 refine RK.V (op_len hT rfl rfl rfl rfl)<|RK.V (op_eql rfl rfl) ?_
 refine RK.D ?_
 refine AWp_cond rfl (fun hb1 => ?_) (fun hb1 => ?_)
 ·have hb1_ := bT hb1
  refine AWp_sr hP<|RK.As rfl<|RK.D<|AWp_ret ?_
  refine ends_one rfl (.inr rfl) (res_tmp rfl) ?_ O_ends
  have h0 := wl_len_zero.1 hb1_
  exact Sub.int (by rw [h0]; rfl)
 ·have hb1_ := bF hb1
  refine AWp_skip<|AWp_seq<|AWp_sr hP<|RK.F hT rfl rfl rfl rfl rfl rfl<|RK.V (op_load_one hT rfl rfl rfl rfl (by first | rfl | exact vget (by omega))) ?_
  refine RK.D ?_
  refine AWp_cond rfl (fun hb2 => ?_) (fun hb2 => ?_)
  ·refine AWp_sr hP<|RK.As rfl<|RK.D<|AWp_ret ?_
   refine ends_one rfl (.inr rfl) (res_tmp rfl) ?_ O_ends
   exact Sub.int (sgn_neg hb2).symm
  ·refine AWp_skip<|AWp_sr hP<|RK.As rfl<|RK.D<|AWp_ret ?_
   refine ends_one rfl (.inr rfl) (res_tmp rfl) ?_ O_ends
   have h0 : x ≠ 0 := fun e => hb1_ (wl_len_zero.2 e)
   exact Sub.int (sgn_pos h0 hb2).symm
theorem r_size (m n : Nat) :
  Call0 Tryz.prog 160 [.p (.c (nt m)), .p (.c (nt n))] (Z (cmpI m n)) := by
 refine callM_of (np := 0) Tryz.func160 (by kernel_rfl) rfl rfl (Nat.le_of_ble_eq_true rfl) (fun m h => absurd rfl h) (fun m h => absurd rfl h) rfl ?_
 refine AWp_len (t := 0) rfl rfl (fun hlen => ?_)
 refine AWp_len (t := 1) rfl rfl (fun hlen2 => ?_)
 refine AWp_sr hP<|RK.As rfl<|RK.D<|AWp_seq<|AWp_sr hP<|RK.M rfl<|RK.V (op_len hT rfl rfl rfl rfl)<|RK.M rfl<|RK.V (op_len hT rfl rfl rfl rfl)<|RK.V (op_neq rfl rfl) ?_
 refine RK.D ?_
 refine AWp_cond rfl (fun hb1 => ?_) (fun hb1 => ?_)
 ·have hb1_ := bneT hb1
  refine AWp_seq<|AWp_sr hP<|RK.M rfl<|RK.V (op_len hT rfl rfl rfl rfl)<|RK.M rfl<|RK.V (op_len hT rfl rfl rfl rfl)<|RK.V (op_lss rfl rfl)<|RK.D ?_
  refine AWp_cond rfl (fun hb2 => ?_) (fun hb2 => ?_)
  ·have hb2_ := of_decide_eq_true hb2
   refine AWp_sr hP<|RK.As rfl<|RK.D<|AWp_ret ?_
   refine ends_one rfl (.inr rfl) (res_tmp rfl) ?_ O_ends
   exact Sub.int (cmp_len_lt hb1_ hb2_)
  ·have hb2_ := of_decide_eq_false hb2
   refine AWp_skip<|AWp_sr hP<|RK.As rfl<|RK.D<|AWp_ret ?_
   refine ends_one rfl (.inr rfl) (res_tmp rfl) ?_ O_ends
   exact Sub.int (cmp_len_gt hb1_ hb2_)
 ·have hb1_ := bneF hb1
  refine AWp_skip<|AWp_seq<|AWp_sr hP<|RK.M rfl<|RK.V (op_len hT rfl rfl rfl rfl)<|RK.V (op_sub rfl rfl (by first | exact IntWalk.i64_in _ (by omega) | rfl)) ?_
  refine RK.As rfl<|RK.D<|AWp_block ?_
  have hll : (wl m).length = (wl n).length := by omega
  refine AWp_loop (ι := Nat) (fun k => stL [(0, .p (.c (nt m))), (1, .p (.c (nt n))), (5, Z ((k : Int) - 1))] []) (fun k => k ≤ (wl m).length ∧ (wl m).drop k = (wl n).drop k) (fun k => k) (wl m).length ⟨Nat.le_refl _, by rw [List.drop_length, hll, List.drop_length]⟩ (le_stL ⟨.refl _, .refl _, .refl _, trivial⟩ trivial) ?_
  rintro k ⟨hk, he⟩
  refine AWp_seq<|AWp_sr hP<|RK.M rfl<|RK.V (op_geq rfl rfl) ?_
  refine RK.D ?_
  refine AWp_cond rfl (fun hb3 => ?_) (fun hb3 => ?_)
  ·have hb3_ := of_decide_eq_true hb3
   refine AWp_skip<|AWp_seq<|AWp_block<|AWp_seq<|AWp_sr hP<|RK.M rfl<|RK.M rfl<|RK.V (op_index_sl hT rfl rfl rfl rfl rfl rfl (l := (wl m).length) (xs := (wl m).map w32) (by omega) (W_ne (by omega))) ?_
   refine RK.V (op_load_ip_one hT rfl rfl rfl (by first | rfl | exact wget (by omega))) ?_
   refine RK.M rfl<|RK.M rfl<|RK.V (op_index_sl hT rfl rfl rfl rfl rfl rfl (l := (wl n).length) (xs := (wl n).map w32) (by omega) (W_ne (by omega))) ?_
   refine RK.V (op_load_ip_one hT rfl rfl rfl (by first | rfl | exact wget (by omega))) ?_
   refine RK.V (op_lss rfl rfl)<|RK.D ?_
   refine AWp_cond rfl (fun hb4 => ?_) (fun hb4 => ?_)
   ·have hb4_ := of_decide_eq_true hb4
    refine AWp_sr hP<|RK.As rfl<|RK.D<|AWp_ret ?_
    refine ends_one rfl (.inr rfl) (res_tmp rfl) ?_ O_ends
    have hkk : ((k : Int) - 1).toNat = k - 1 := by omega
    rw [hkk] at hb4_
    have h2 := cmp_word' hll (k := k - 1) (by omega) (by rw [show k - 1 + 1 = k by omega]; exact he) (by rw [cmpI_lt hb4_]; decide)
    exact Sub.int (by rw [← h2, cmpI_lt hb4_])
   ·have hb4_ := of_decide_eq_false hb4
    refine AWp_skip<|AWp_sr hP<|RK.M rfl<|RK.M rfl<|RK.V (op_index_sl hT rfl rfl rfl rfl rfl rfl (l := (wl m).length) (xs := (wl m).map w32) (by omega) (W_ne (by omega))) ?_
    refine RK.V (op_load_ip_one hT rfl rfl rfl (by first | rfl | exact wget (by omega))) ?_
    refine RK.M rfl<|RK.M rfl<|RK.V (op_index_sl hT rfl rfl rfl rfl rfl rfl (l := (wl n).length) (xs := (wl n).map w32) (by omega) (W_ne (by omega))) ?_
    refine RK.V (op_load_ip_one hT rfl rfl rfl (by first | rfl | exact wget (by omega))) ?_
    refine RK.V (op_gtr rfl rfl) ?_
    refine RK.D ?_
    refine AWp_cond rfl (fun hb5 => ?_) (fun hb5 => ?_)
    ·have hb5_ := of_decide_eq_true hb5
     refine AWp_sr hP<|RK.As rfl<|RK.D<|AWp_ret ?_
     refine ends_one rfl (.inr rfl) (res_tmp rfl) ?_ O_ends
     have hkk : ((k : Int) - 1).toNat = k - 1 := by omega
     rw [hkk] at hb5_
     have h2 := cmp_word' hll (k := k - 1) (by omega) (by rw [show k - 1 + 1 = k by omega]; exact he) (by rw [cmpI_gt hb5_]; decide)
     exact Sub.int (by rw [← h2, cmpI_gt hb5_])
    ·have hb5_ := of_decide_eq_false hb5
     refine AWp_skip<|AWp_region hP<|RK.M rfl<|RK.V (op_sub rfl rfl (by first | exact IntWalk.i64_in _ (by omega) | rfl)) ?_
     refine RK.As rfl<|RK.D ?_
     have hkk : ((k : Int) - 1).toNat = k - 1 := by omega
     rw [hkk] at hb4_ hb5_
     refine ⟨k - 1, ⟨by omega, ?_⟩, by omega, le_stL ⟨.refl _, .refl _, Sub.int (by omega), trivial⟩ trivial⟩
     have e1 := drop_getD (ws := wl m) (k := k - 1) (by omega)
     have e2 := drop_getD (ws := wl n) (k := k - 1) (by omega)
     rw [e1, e2, show k - 1 + 1 = k by omega, he]
     congr 1
     omega
  ·have hb3_ := of_decide_eq_false hb3
   refine AWp_exit<|AWp_sr hP<|RK.As rfl<|RK.D<|AWp_ret ?_
   refine ends_one rfl (.inr rfl) (res_tmp rfl) ?_ O_ends
   have h0 : k = 0 := by omega
   subst h0
   have : m = n := by rw [← wv_wl m, ← wv_wl n]; exact congrArg wv he
   exact Sub.int (by rw [this, cmpI_self])
theorem r_Cmp (x y : Int) :
  Call0 Tryz.prog 149 [I x, I y] (Z (cmpI x y)) := by
 refine callM_of (np := 0) Tryz.func149 (by kernel_rfl) rfl rfl (Nat.le_of_ble_eq_true rfl) (fun m h => absurd rfl h) (fun m h => absurd rfl h) rfl ?_
 refine AWp_sr hP<|RK.alc guard_none (op_box rfl rfl)<|RK.alc guard_none (op_box rfl rfl)<|RK.As rfl<|RK.D<|AWp_seq<|AWp_sr hP<|RK.F hT rfl rfl rfl rfl rfl rfl<|RK.V (op_load_one hT rfl rfl rfl rfl (by first | rfl | exact vget (by omega))) ?_
 refine RK.F hT rfl rfl rfl rfl rfl rfl<|RK.V (op_load_one hT rfl rfl rfl rfl (by first | rfl | exact vget (by omega))) ?_
 refine RK.V (op_bne hT rfl rfl rfl rfl) ?_
 refine RK.D ?_
 refine AWp_cond rfl (fun hb1 => ?_) (fun hb1 => ?_)
 ·refine AWp_seq<|AWp_sr hP<|RK.F hT rfl rfl rfl rfl rfl rfl<|RK.V (op_load_one hT rfl rfl rfl rfl (by first | rfl | exact vget (by omega))) ?_
  refine RK.D ?_
  refine AWp_cond rfl (fun hb2 => ?_) (fun hb2 => ?_)
  ·refine AWp_sr hP<|RK.As rfl<|RK.D<|AWp_ret ?_
   refine ends_one rfl (.inr rfl) (res_tmp rfl) ?_ O_ends
   exact Sub.int (by rw [ref_cmp hb1, if_pos (of_decide_eq_true hb2)])
  ·refine AWp_skip<|AWp_sr hP<|RK.As rfl<|RK.D<|AWp_ret ?_
   refine ends_one rfl (.inr rfl) (res_tmp rfl) ?_ O_ends
   exact Sub.int (by rw [ref_cmp hb1, if_neg (of_decide_eq_false hb2)])
 ·refine AWp_skip<|AWp_seq<|AWp_sr hP<|RK.F hT rfl rfl rfl rfl rfl rfl<|RK.V (op_load_one hT rfl rfl rfl rfl (by first | rfl | exact vget (by omega))) ?_
  refine RK.D ?_
  refine AWp_cond rfl (fun hb3 => ?_) (fun hb3 => ?_)
  ·refine AWp_sr hP<|RK.F hT rfl rfl rfl rfl rfl rfl<|RK.V (op_load_one hT rfl rfl rfl rfl (by first | rfl | exact vget (by omega))) ?_
   refine RK.F hT rfl rfl rfl rfl rfl rfl<|RK.V (op_load_one hT rfl rfl rfl rfl (by first | rfl | exact vget (by omega))) ?_
   refine RK.V (Eff.call0 (r_size y.natAbs x.natAbs)) ?_
   refine RK.As rfl<|RK.D<|AWp_ret ?_
   refine ends_one rfl (.inr rfl) (res_tmp rfl) ?_ O_ends
   exact Sub.int (ref_cmp_neg hb1 (of_decide_eq_true hb3))
  ·refine AWp_skip<|AWp_sr hP<|RK.F hT rfl rfl rfl rfl rfl rfl<|RK.V (op_load_one hT rfl rfl rfl rfl (by first | rfl | exact vget (by omega))) ?_
   refine RK.F hT rfl rfl rfl rfl rfl rfl<|RK.V (op_load_one hT rfl rfl rfl rfl (by first | rfl | exact vget (by omega))) ?_
   refine RK.V (Eff.call0 (r_size x.natAbs y.natAbs)) ?_
   refine RK.As rfl<|RK.D<|AWp_ret ?_
   refine ends_one rfl (.inr rfl) (res_tmp rfl) ?_ O_ends
   exact Sub.int (ref_cmp_pos hb1 (of_decide_eq_false hb3))
theorem r_Same (x y : Int) :
  Call0 Tryz.prog 96 [I x, I y] (B (decide (x = y))) := by
 refine callM_of (np := 0) Tryz.func96 (by kernel_rfl) rfl rfl (Nat.le_of_ble_eq_true rfl) (fun m h => absurd rfl h) (fun m h => absurd rfl h) rfl ?_
 refine AWp_sr hP<|RK.alc guard_none (op_box rfl rfl)<|RK.alc guard_none (op_box rfl rfl)<|RK.As rfl<|RK.D<|AWp_sr hP<|RK.F hT rfl rfl rfl rfl rfl rfl<|RK.V (op_load_one hT rfl rfl rfl rfl (by first | rfl | exact vget (by omega))) ?_
 refine RK.F hT rfl rfl rfl rfl rfl rfl<|RK.V (op_load_one hT rfl rfl rfl rfl (by first | rfl | exact vget (by omega))) ?_
 refine RK.V (op_beq hT rfl rfl rfl rfl) ?_
 refine RK.M rfl ?_
 refine RK.split (t := 10) rfl (fun hg1 => ?_) (fun hg1 => ?_)
 ·refine RK.val (guard_yes rfl rfl hg1) (op_field_loc hT rfl rfl rfl rfl rfl rfl) ?_
  refine RK.val (guard_yes rfl rfl hg1) (op_load_one hT rfl rfl rfl rfl (by first | rfl | exact vget (by omega))) ?_
  refine RK.val (guard_yes rfl rfl hg1) (op_field_loc hT rfl rfl rfl rfl rfl rfl) ?_
  refine RK.val (guard_yes rfl rfl hg1) (op_load_one hT rfl rfl rfl rfl (by first | rfl | exact vget (by omega))) ?_
  refine RK.val (guard_yes rfl rfl hg1) (Eff.call0 (r_size x.natAbs y.natAbs)) ?_
  refine RK.val (guard_yes rfl rfl hg1) (op_eql rfl rfl) ?_
  refine RK.V (op_pick_t rfl hg1 (rfl : _ = AV.p (.c _))) ?_
  refine RK.As rfl<|RK.D<|AWp_ret ?_
  refine ends_one rfl (.inr rfl) (res_tmp rfl) ?_ O_ends
  exact Sub.bool (same_eq hg1)
 ·refine RK.skip (guard_no rfl rfl hg1) ?_
  refine RK.skip (guard_no rfl rfl hg1) ?_
  refine RK.skip (guard_no rfl rfl hg1) ?_
  refine RK.skip (guard_no rfl rfl hg1) ?_
  refine RK.skip (guard_no rfl rfl hg1) ?_
  refine RK.skip (guard_no rfl rfl hg1) ?_
  refine RK.V (op_pick_f rfl hg1 (rfl : _ = AV.p (.c _))) ?_
  refine RK.As rfl<|RK.D<|AWp_ret ?_
  refine ends_one rfl (.inr rfl) (res_tmp rfl) ?_ O_ends
  exact Sub.bool (same_ne hg1)
end Go.Proofs.YtpaifigafaijpaaGreatDoor
end
section
namespace Go.Proofs.YtpaifigafaijpaaGreatDoor
open Go Go.AM
theorem r_plus (a b : List Nat) (ha : okW a) (hb : okW b) (hla : a.length ≤ 1099511627776) (hlb : b.length ≤ 1099511627776) :
  Call0 Tryz.prog 207 [.p (.c (W a)), .p (.c (W b))] (.p (.c (W (dgs ((if (b.length : Int) > a.length then (b.length : Int) else a.length).toNat + 1) (wv a + wv b))))) := by
 obtain ⟨mx, hmx⟩ : ∃ mx : Int, mx = (if (b.length : Int) > a.length then (b.length : Int) else a.length) := ⟨_, rfl⟩
 have hm1 : (a.length : Int) ≤ mx ∧ (b.length : Int) ≤ mx ∧ mx ≤ 1099511627776 := by rw [hmx]; split <;> omega
 refine callM_of (np := 0) Tryz.func207 (by kernel_rfl) rfl rfl (Nat.le_of_ble_eq_true rfl) (fun m h => absurd rfl h) (fun m h => absurd rfl h) rfl ?_
 refine AWp_sr hP<|RK.As rfl<|RK.D<|AWp_sr hP<|RK.alc guard_none (op_bslice_vecW hT rfl rfl rfl rfl (ws := []) rfl rfl rfl) ?_
 refine RK.V (op_assign (rfl : _ = AV.vec _))<|RK.D<|AWp_sr hP<|RK.As rfl<|RK.D<|AWp_rn 8 1000 rfl rfl rfl ?_
 refine AWp_seq<|AWp_sr hP<|RK.As rfl<|RK.D<|AWp_block<|AWp_loop (ι := List Nat × Nat) (fun p => stL [(0, .p (.c (W a))), (1, .p (.c (W b))), (5, .vec 1000), (6, .p (.c (.v (.int .u64 ((p.2 : Nat) : Int))))), (7, Z ((p.1.length : Nat) : Int))] [(1000, WB 111 p.1)]) (fun p => okW p.1 ∧ (p.1.length : Int) ≤ mx ∧ p.2 ≤ 1 ∧ wv p.1 + 4294967296 ^ p.1.length * p.2 = wv (a.take p.1.length) + wv (b.take p.1.length)) (fun p => (mx - p.1.length).toNat) ([], 0) ⟨okW.nil, by simp only [List.length_nil]; omega, by decide, by simp [wv]⟩ (le_stL ⟨.refl _, .refl _, .refl _, .refl _, .refl _, trivial⟩ ⟨rfl, trivial⟩) ?_
 rintro p ⟨ho, hl, hc, hv⟩
 have hwa := wd_lt ha (p.1.length : Nat)
 have hwb := wd_lt hb (p.1.length : Nat)
 refine AWp_seq<|AWp_sr hP<|RK.M rfl<|RK.M rfl<|RK.V (op_len hT rfl rfl rfl rfl)<|RK.M rfl<|RK.V (op_len hT rfl rfl rfl rfl)<|RK.V (op_max rfl rfl) ?_
 refine RK.V (op_lss rfl rfl)<|RK.D ?_
 refine AWp_cond rfl (fun hb1 => ?_) (fun hb1 => ?_)
 ·have hb1_ := of_decide_eq_true hb1
  have hlt : (p.1.length : Int) < mx := by rw [hmx]; exact hb1_
  refine AWp_skip<|AWp_seq<|AWp_block<|AWp_sr hP<|RK.M rfl<|RK.M rfl<|RK.M rfl<|RK.V (Eff.call0 (r_word _ _ (by assumption))) ?_
  refine RK.M rfl<|RK.M rfl<|RK.V (Eff.call0 (r_word _ _ (by assumption))) ?_
  refine RK.V (op_add rfl rfl (c := ((wd a p.1.length + wd b p.1.length : Nat) : Int)) (by rw [← Int.natCast_add, u64N (by omega)])) ?_
  refine RK.V (op_add rfl rfl (c := ((p.2 + (wd a p.1.length + wd b p.1.length) : Nat) : Int)) (by rw [← Int.natCast_add, u64N (by omega)])) ?_
  refine RK.As rfl<|RK.D<|AWp_sr hP<|RK.V (op_move (rfl : _ = AV.vec _))<|RK.M rfl<|RK.V (op_conv hT rfl rfl rfl rfl (u32_lo _)) ?_
  refine RK.V (op_bslice hT rfl rfl rfl (es := [_]) rfl rfl rfl) ?_
  refine RK.app guard_none (op_appendW hT rfl rfl rfl rfl rfl rfl rfl (xs := [(p.2 + (wd a p.1.length + wd b p.1.length)) % 4294967296]) rfl (by simp only [List.length_cons, List.length_nil]; omega) (by decide)) ?_
  refine RK.V (op_assign (rfl : _ = AV.vec _))<|RK.D<|AWp_rn 31 1000 rfl rfl rfl ?_
  refine AWp_region hP<|RK.M rfl<|RK.V (op_shrN (j := 32) rfl rfl (by decide)) ?_
  refine RK.As rfl<|RK.D<|AWp_region hP<|RK.M rfl<|RK.V (op_add rfl rfl (by first | exact IntWalk.i64_in _ (by omega) | rfl)) ?_
  refine RK.As rfl<|RK.D ?_
  have hr := plus_round hv
  have hq : (p.2 + (wd a p.1.length + wd b p.1.length)) / 4294967296 ≤ 1 := by omega
  refine ⟨(p.1 ++ [(p.2 + (wd a p.1.length + wd b p.1.length)) % 4294967296], (p.2 + (wd a p.1.length + wd b p.1.length)) / 4294967296), ⟨ho.snoc (Nat.mod_lt _ (by decide)), ?_, hq, by simpa using hr⟩, ?_, le_stL ⟨.refl _, .refl _, .refl _, .refl _, Sub.int (by simp), trivial⟩ ⟨rfl, trivial⟩⟩
  ·simp only [List.length_append, List.length_cons, List.length_nil]; omega
  ·simp only [List.length_append, List.length_cons, List.length_nil]; omega
 ·have hb1_ := of_decide_eq_false hb1
  have hge : (p.1.length : Int) = mx := by
   have : ¬ (p.1.length : Int) < mx := by rw [hmx]; exact hb1_
   omega
  refine AWp_exit<|AWp_sr hP<|RK.V (op_move (rfl : _ = AV.vec _))<|RK.M rfl<|RK.V (op_conv hT rfl rfl rfl rfl (u32_lo _)) ?_
  refine RK.V (op_bslice hT rfl rfl rfl (es := [_]) rfl rfl rfl) ?_
  refine RK.app guard_none (op_appendW hT rfl rfl rfl rfl rfl rfl rfl (xs := [p.2 % 4294967296]) rfl (by simp only [List.length_cons, List.length_nil]; omega) (by decide)) ?_
  refine RK.V (op_assign (rfl : _ = AV.vec _))<|RK.D<|AWp_freezeW (t := 4) rfl rfl ?_
  refine AWp_ret ?_
  refine ends_one rfl (.inr rfl) (res_tmp rfl) ?_ O_ends
  have e : mx.toNat = p.1.length := by omega
  exact Sub.of_eq (by rw [plus_end ho (by omega) (by omega) (by omega) hv, ← hmx, e])
theorem r_minus (a b : List Nat) (ha : okW a) (hb : okW b) (hla : a.length ≤ 1099511627776) (hlb : b.length ≤ a.length) (hab : wv b ≤ wv a) :
  Call0 Tryz.prog 208 [.p (.c (W a)), .p (.c (W b))] (.p (.c (W (dgs a.length (wv a - wv b))))) := by
 refine callM_of (np := 0) Tryz.func208 (by kernel_rfl) rfl rfl (Nat.le_of_ble_eq_true rfl) (fun m h => absurd rfl h) (fun m h => absurd rfl h) rfl ?_
 refine AWp_sr hP<|RK.As rfl<|RK.D<|AWp_sr hP<|RK.alc guard_none (op_bslice_vecW hT rfl rfl rfl rfl (ws := []) rfl rfl rfl) ?_
 refine RK.V (op_assign (rfl : _ = AV.vec _))<|RK.D<|AWp_sr hP<|RK.As rfl<|RK.D<|AWp_rn 9 1000 rfl rfl rfl ?_
 refine AWp_seq<|AWp_sr hP<|RK.As rfl<|RK.D<|AWp_block<|AWp_loop (ι := List Nat × Nat) (fun p => stL [(0, .p (.c (W a))), (1, .p (.c (W b))), (5, .vec 1000), (6, .p (.c (.v (.int .u64 ((p.2 : Nat) : Int))))), (7, Z ((p.1.length : Nat) : Int))] [(1000, WB 111 p.1)]) (fun p => okW p.1 ∧ p.1.length ≤ a.length ∧ p.2 ≤ 1 ∧ wv p.1 + wv (b.take p.1.length) = wv (a.take p.1.length) + 4294967296 ^ p.1.length * p.2) (fun p => a.length - p.1.length) ([], 0) ⟨okW.nil, by simp, by decide, by simp [wv]⟩ (le_stL ⟨.refl _, .refl _, .refl _, .refl _, .refl _, trivial⟩ ⟨rfl, trivial⟩) ?_
 rintro p ⟨ho, hl, hc, hv⟩
 have hwa := wd_lt ha (p.1.length : Nat)
 have hwb := wd_lt hb (p.1.length : Nat)
 refine AWp_seq<|AWp_sr hP<|RK.M rfl<|RK.M rfl<|RK.V (op_len hT rfl rfl rfl rfl)<|RK.V (op_lss rfl rfl)<|RK.D ?_
 refine AWp_cond rfl (fun hb1 => ?_) (fun hb1 => ?_)
 ·have hb1_ := of_decide_eq_true hb1
  refine AWp_skip<|AWp_seq<|AWp_block<|AWp_sr hP<|RK.M rfl<|RK.M rfl<|RK.V (Eff.call0 (r_word _ _ (by assumption))) ?_
  refine RK.V (op_add rfl rfl (c := ((4294967296 + wd a p.1.length : Nat) : Int)) (by rw [IntWalk.u64_in _ (by omega)]; omega)) ?_
  refine RK.M rfl<|RK.M rfl<|RK.V (Eff.call0 (r_word _ _ (by assumption))) ?_
  refine RK.V (op_sub rfl rfl (c := ((4294967296 + wd a p.1.length - wd b p.1.length : Nat) : Int)) (by rw [IntWalk.u64_in _ (by omega)]; omega)) ?_
  refine RK.M rfl<|RK.V (op_sub rfl rfl (c := ((4294967296 + wd a p.1.length - wd b p.1.length - p.2 : Nat) : Int)) (by rw [IntWalk.u64_in _ (by omega)]; omega)) ?_
  refine RK.As rfl<|RK.D<|AWp_sr hP<|RK.V (op_move (rfl : _ = AV.vec _))<|RK.M rfl<|RK.V (op_conv hT rfl rfl rfl rfl (u32_lo _)) ?_
  refine RK.V (op_bslice hT rfl rfl rfl (es := [_]) rfl rfl rfl) ?_
  refine RK.app guard_none (op_appendW hT rfl rfl rfl rfl rfl rfl rfl (xs := [(4294967296 + wd a p.1.length - wd b p.1.length - p.2) % 4294967296]) rfl (by simp only [List.length_cons, List.length_nil]; omega) (by decide)) ?_
  refine RK.V (op_assign (rfl : _ = AV.vec _))<|RK.D<|AWp_rn 30 1000 rfl rfl rfl ?_
  refine AWp_region hP<|RK.M rfl<|RK.V (op_shrN (j := 32) rfl rfl (by decide)) ?_
  refine RK.V (op_sub rfl rfl (c := ((1 - (4294967296 + wd a p.1.length - wd b p.1.length - p.2) / 4294967296 : Nat) : Int)) (by rw [IntWalk.u64_in _ (by omega)]; omega)) ?_
  refine RK.As rfl<|RK.D<|AWp_region hP<|RK.M rfl<|RK.V (op_add rfl rfl (by first | exact IntWalk.i64_in _ (by omega) | rfl)) ?_
  refine RK.As rfl<|RK.D ?_
  have hr := minus_round ha hb hc hv
  have hq : 1 - (4294967296 + wd a p.1.length - wd b p.1.length - p.2) / 4294967296 ≤ 1 := by omega
  refine ⟨(p.1 ++ [(4294967296 + wd a p.1.length - wd b p.1.length - p.2) % 4294967296], 1 - (4294967296 + wd a p.1.length - wd b p.1.length - p.2) / 4294967296), ⟨ho.snoc (Nat.mod_lt _ (by decide)), ?_, hq, by simpa using hr⟩, ?_, le_stL ⟨.refl _, .refl _, .refl _, .refl _, Sub.int (by simp), trivial⟩ ⟨rfl, trivial⟩⟩
  ·simp only [List.length_append, List.length_cons, List.length_nil]; omega
  ·simp only [List.length_append, List.length_cons, List.length_nil]; omega
 ·have hb1_ := of_decide_eq_false hb1
  refine AWp_exit<|AWp_sr hP<|RK.V (op_move (rfl : _ = AV.vec _))<|RK.V (op_assign (rfl : _ = AV.vec _))<|RK.D<|AWp_freezeW (t := 4) rfl rfl ?_
  refine AWp_ret ?_
  refine ends_one rfl (.inr rfl) (res_tmp rfl) ?_ O_ends
  have e : p.1.length = a.length := by omega
  exact Sub.of_eq (by rw [minus_end ho e hlb hab hv])
theorem r_Add (x y : Int) (hx : L 45 x) (hy : L 45 y) :
  Call0 Tryz.prog 155 [I x, I y] (I (x + y)) := by
 refine callM_of (np := 0) Tryz.func155 (by kernel_rfl) rfl rfl (Nat.le_of_ble_eq_true rfl) (fun m h => absurd rfl h) (fun m h => absurd rfl h) rfl ?_
 refine AWp_sr hP<|RK.alc guard_none (op_box rfl rfl)<|RK.alc guard_none (op_box rfl rfl)<|RK.alc guard_none (op_alloc hT rfl rfl)<|RK.D<|AWp_seq<|AWp_sr hP<|RK.F hT rfl rfl rfl rfl rfl rfl<|RK.V (op_load_one hT rfl rfl rfl rfl (by first | rfl | exact vget (by omega))) ?_
 refine RK.F hT rfl rfl rfl rfl rfl rfl<|RK.V (op_load_one hT rfl rfl rfl rfl (by first | rfl | exact vget (by omega))) ?_
 refine RK.V (op_beq hT rfl rfl rfl rfl) ?_
 refine RK.D ?_
 refine AWp_cond rfl (fun hb1 => ?_) (fun hb1 => ?_)
 ·refine AWp_sr hP<|RK.F hT rfl rfl rfl rfl rfl rfl<|RK.V (op_load_one hT rfl rfl rfl rfl (by first | rfl | exact vget (by omega))) ?_
  refine RK.F hT rfl rfl rfl rfl rfl rfl<|RK.V (op_load_one hT rfl rfl rfl rfl (by first | rfl | exact vget (by omega))) ?_
  refine RK.F hT rfl rfl rfl rfl rfl rfl<|RK.V (op_load_one hT rfl rfl rfl rfl (by first | rfl | exact vget (by omega))) ?_
  refine RK.V (Eff.call0 (r_plus (wl x.natAbs) (wl y.natAbs) (wl_ok _) (wl_ok _) (sz hx) (sz hy))) ?_
  refine RK.V (Eff.call0 (r_made _ _ (dgs_ok _ _))) ?_
  refine RK.S hT rfl rfl rfl rfl rfl rfl rfl<|RK.D<|AWp_ret ?_
  refine ends_one rfl (.inr rfl) (res_cell_agg hT rfl rfl rfl rfl (cs := [_, _]) rfl rfl) ?_ O_ends
  exact Sub.I (by rw [plus_val]; exact add_same' hb1)
 ·refine AWp_skip<|AWp_seq<|AWp_sr hP<|RK.F hT rfl rfl rfl rfl rfl rfl<|RK.V (op_load_one hT rfl rfl rfl rfl (by first | rfl | exact vget (by omega))) ?_
  refine RK.F hT rfl rfl rfl rfl rfl rfl<|RK.V (op_load_one hT rfl rfl rfl rfl (by first | rfl | exact vget (by omega))) ?_
  refine RK.V (Eff.call0 (r_size x.natAbs y.natAbs)) ?_
  refine RK.V (op_geq rfl rfl) ?_
  refine RK.D ?_
  refine AWp_cond rfl (fun hb2 => ?_) (fun hb2 => ?_)
  ·have hb2_ := of_decide_eq_true hb2
   have hc : y.natAbs ≤ x.natAbs := by have := cmpI_nonneg hb2_; omega
   refine AWp_sr hP<|RK.F hT rfl rfl rfl rfl rfl rfl<|RK.V (op_load_one hT rfl rfl rfl rfl (by first | rfl | exact vget (by omega))) ?_
   refine RK.F hT rfl rfl rfl rfl rfl rfl<|RK.V (op_load_one hT rfl rfl rfl rfl (by first | rfl | exact vget (by omega))) ?_
   refine RK.F hT rfl rfl rfl rfl rfl rfl<|RK.V (op_load_one hT rfl rfl rfl rfl (by first | rfl | exact vget (by omega))) ?_
   refine RK.V (Eff.call0 (r_minus (wl x.natAbs) (wl y.natAbs) (wl_ok _) (wl_ok _) (sz hx) (wl_len_mono hc) (by rw [wv_wl, wv_wl]; exact hc))) ?_
   refine RK.V (Eff.call0 (r_made _ _ (dgs_ok _ _))) ?_
   refine RK.S hT rfl rfl rfl rfl rfl rfl rfl<|RK.D<|AWp_ret ?_
   refine ends_one rfl (.inr rfl) (res_cell_agg hT rfl rfl rfl rfl (cs := [_, _]) rfl rfl) ?_ O_ends
   exact Sub.I (by rw [minus_val]; exact add_ge' hb1 hc)
  ·have hb2_ := of_decide_eq_false hb2
   have hc : x.natAbs < y.natAbs := by have := cmpI_negative hb2_; omega
   refine AWp_skip<|AWp_sr hP<|RK.F hT rfl rfl rfl rfl rfl rfl<|RK.V (op_load_one hT rfl rfl rfl rfl (by first | rfl | exact vget (by omega))) ?_
   refine RK.F hT rfl rfl rfl rfl rfl rfl<|RK.V (op_load_one hT rfl rfl rfl rfl (by first | rfl | exact vget (by omega))) ?_
   refine RK.F hT rfl rfl rfl rfl rfl rfl<|RK.V (op_load_one hT rfl rfl rfl rfl (by first | rfl | exact vget (by omega))) ?_
   refine RK.V (Eff.call0 (r_minus (wl y.natAbs) (wl x.natAbs) (wl_ok _) (wl_ok _) (sz hy) (wl_len_mono (by omega)) (by rw [wv_wl, wv_wl]; omega))) ?_
   refine RK.V (Eff.call0 (r_made _ _ (dgs_ok _ _))) ?_
   refine RK.S hT rfl rfl rfl rfl rfl rfl rfl<|RK.D<|AWp_ret ?_
   refine ends_one rfl (.inr rfl) (res_cell_agg hT rfl rfl rfl rfl (cs := [_, _]) rfl rfl) ?_ O_ends
   exact Sub.I (by rw [minus_val]; exact add_lt' hb1 hc)
theorem r_Sub (x y : Int) (hx : L 45 x) (hy : L 45 y) :
  Call0 Tryz.prog 142 [I x, I y] (I (x - y)) := by
 have ix : LB x 45 := ⟨hx⟩
 have iy : LB y 45 := ⟨hy⟩
 refine callM_of (np := 0) Tryz.func142 (by kernel_rfl) rfl rfl (Nat.le_of_ble_eq_true rfl) (fun m h => absurd rfl h) (fun m h => absurd rfl h) rfl ?_
 refine AWp_sr hP<|RK.alc guard_none (op_box rfl rfl)<|RK.alc guard_none (op_box rfl rfl)<|RK.alc guard_none (op_alloc hT rfl rfl)<|RK.D<|AWp_sr hP<|RK.G2 hT rfl rfl rfl rfl rfl rfl<|RK.G2 hT rfl rfl rfl rfl rfl rfl<|RK.V (Eff.call0 (r_Neg _)) ?_
 refine RK.V (Eff.call0 (r_Add _ _ lz lz)) ?_
 refine RK.S hT rfl rfl rfl rfl rfl rfl rfl<|RK.D<|AWp_ret ?_
 refine ends_one rfl (.inr rfl) (res_cell_agg hT rfl rfl rfl rfl (cs := [_, _]) rfl rfl) ?_ O_ends
 exact Sub.I (by omega)
theorem r_Mul (x y : Int) (hx : L 45 x) (hy : L 45 y) :
  Call0 Tryz.prog 104 [I x, I y] (I (x * y)) := by
 have ha := wl_ok x.natAbs
 have hb := wl_ok y.natAbs
 have hla := sz hx
 have hlb := sz hy
 refine callM_of (np := 0) Tryz.func104 (by kernel_rfl) rfl rfl (Nat.le_of_ble_eq_true rfl) (fun m h => absurd rfl h) (fun m h => absurd rfl h) rfl ?_
 refine AWp_sr hP<|RK.alc guard_none (op_box rfl rfl)<|RK.alc guard_none (op_box rfl rfl)<|RK.alc guard_none (op_alloc hT rfl rfl)<|RK.D<|AWp_sr hP<|RK.F hT rfl rfl rfl rfl rfl rfl<|RK.V (op_load_one hT rfl rfl rfl rfl (by first | rfl | exact vget (by omega))) ?_
 refine RK.V (op_len hT rfl rfl rfl rfl)<|RK.F hT rfl rfl rfl rfl rfl rfl<|RK.V (op_load_one hT rfl rfl rfl rfl (by first | rfl | exact vget (by omega))) ?_
 refine RK.V (op_len hT rfl rfl rfl rfl)<|RK.V (op_add rfl rfl (by first | exact IntWalk.i64_in _ (by omega) | rfl)) ?_
 refine RK.alc guard_none (op_makeW hT rfl rfl rfl rfl rfl rfl rfl rfl (by omega)) ?_
 refine RK.V (op_assign (rfl : _ = AV.vec _))<|RK.D<|AWp_seq<|AWp_sr hP<|RK.As rfl<|RK.D<|AWp_block<|AWp_loop (ι := List Nat × Nat) (fun ⟨o, i⟩ => stL [(2, .loc 2 0), (3, .loc 3 0), (4, .loc 4 0), (5, .vec 16), (6, Z (i : Int))] [(2, ⟨false, 1, 36, [zn (x), zm (x)]⟩), (3, ⟨false, 1, 36, [zn (y), zm (y)]⟩), (4, ⟨false, 1, 36, [zn (0), zm (0)]⟩), (16, WB 111 o)]) (fun ⟨o, i⟩ => i ≤ (wl x.natAbs).length ∧ o.length = (wl x.natAbs).length + (wl y.natAbs).length ∧ okW o ∧ wv o = wv ((wl x.natAbs).take i) * wv (wl y.natAbs) ∧ ∀ j, i + (wl y.natAbs).length ≤ j → o.getD j 0 = 0) (fun ⟨_, i⟩ => (wl x.natAbs).length - i) (List.replicate (((wl x.natAbs).length : Int) + ((wl y.natAbs).length : Int)).toNat 0, 0) ⟨Nat.zero_le _, by simp; omega, okW.rep _, by rw [wv_rep]; simp [wv], fun j _ => getD_rep _ _⟩ (le_stL ⟨.refl _, .refl _, .refl _, .refl _, .refl _, trivial⟩ ⟨rfl, rfl, rfl, rfl, trivial⟩) ?_
 rintro ⟨o, i⟩ ⟨hi, hlo, ho, hv, hz⟩
 refine AWp_seq<|AWp_sr hP<|RK.M rfl<|RK.F hT rfl rfl rfl rfl rfl rfl<|RK.V (op_load_one hT rfl rfl rfl rfl (by first | rfl | exact vget (by omega))) ?_
 refine RK.V (op_len hT rfl rfl rfl rfl)<|RK.V (op_lss rfl rfl)<|RK.D ?_
 refine AWp_cond rfl (fun hb1 => ?_) (fun hb1 => ?_)
 ·have hb1_ := of_decide_eq_true hb1
  have hlt0 : i < (wl x.natAbs).length := by omega
  refine AWp_skip<|AWp_seq<|AWp_block<|AWp_sr hP<|RK.As rfl<|RK.D<|AWp_seq<|AWp_sr hP<|RK.As rfl<|RK.D<|AWp_block ?_
  obtain ⟨o0, ho0⟩ : ∃ o0, o0 = o := ⟨_, rfl⟩
  have hv0 := hv
  rw [← ho0] at hv
  refine AWp_loop (ι := List Nat × Nat × Nat) (fun ⟨o, k, c⟩ => stL [(2, .loc 2 0), (3, .loc 3 0), (4, .loc 4 0), (5, .vec 16), (6, Z (i : Int)), (7, .p (.c (.v (.int .u64 (c : Nat))))), (8, Z (k : Int))] [(2, ⟨false, 1, 36, [zn (x), zm (x)]⟩), (3, ⟨false, 1, 36, [zn (y), zm (y)]⟩), (4, ⟨false, 1, 36, [zn (0), zm (0)]⟩), (16, WB 111 o)]) (fun ⟨o, k, c⟩ => k ≤ (wl y.natAbs).length ∧ o.length = (wl x.natAbs).length + (wl y.natAbs).length ∧ okW o ∧ c < 4294967296 ∧ wv o + 4294967296 ^ (i + k) * c = wv o0 + 4294967296 ^ i * ((wl x.natAbs).getD i 0 * wv ((wl y.natAbs).take k)) ∧ ∀ j, i + (wl y.natAbs).length ≤ j → o.getD j 0 = 0) (fun ⟨_, k, _⟩ => (wl y.natAbs).length - k) (o, 0, 0) ⟨Nat.zero_le _, hlo, ho, by omega, by rw [ho0]; simp [wv], hz⟩ (le_stL ⟨.refl _, .refl _, .refl _, .refl _, .refl _, .refl _, .refl _, trivial⟩ ⟨rfl, rfl, rfl, rfl, trivial⟩) ?_
  clear hlo ho hz hv0 ho0
  rintro ⟨o, k, c⟩ ⟨hk, hlo, ho, hc, hkv, hz⟩
  refine AWp_seq<|AWp_sr hP<|RK.M rfl<|RK.F hT rfl rfl rfl rfl rfl rfl<|RK.V (op_load_one hT rfl rfl rfl rfl (by first | rfl | exact vget (by omega))) ?_
  refine RK.V (op_len hT rfl rfl rfl rfl)<|RK.V (op_lss rfl rfl)<|RK.D ?_
  refine AWp_cond rfl (fun hb2 => ?_) (fun hb2 => ?_)
  ·have hb2_ := of_decide_eq_true hb2
   have hlt : k < (wl y.natAbs).length := by omega
   have ha1 := ha.getD i
   have hb1v := hb.getD k
   have hp1 := Nat.mul_le_mul (Nat.le_sub_one_of_lt (ha.getD i)) (Nat.le_sub_one_of_lt (hb.getD k))
   have ho1 := ho.getD (i + k)
   refine AWp_skip<|AWp_seq<|AWp_block<|AWp_sr hP<|RK.M rfl<|RK.F hT rfl rfl rfl rfl rfl rfl<|RK.V (op_load_one hT rfl rfl rfl rfl (by first | rfl | exact vget (by omega))) ?_
   refine RK.M rfl<|RK.V (by first | exact op_index_WN hT rfl rfl rfl rfl rfl rfl (by omega) | exact op_index_sl hT rfl rfl rfl rfl rfl rfl (by omega) (by first | exact W_ne (by omega) | simp)) ?_
   refine RK.V (op_load_ip_one hT rfl rfl rfl (by first | rfl | exact wget (by omega))) ?_
   refine RK.V (op_conv hT rfl rfl rfl rfl (u64N (by omega))) ?_
   refine RK.F hT rfl rfl rfl rfl rfl rfl<|RK.V (op_load_one hT rfl rfl rfl rfl (by first | rfl | exact vget (by omega))) ?_
   refine RK.M rfl<|RK.V (by first | exact op_index_WN hT rfl rfl rfl rfl rfl rfl (by omega) | exact op_index_sl hT rfl rfl rfl rfl rfl rfl (by omega) (by first | exact W_ne (by omega) | simp)) ?_
   refine RK.V (op_load_ip_one hT rfl rfl rfl (by first | rfl | exact wget (by omega))) ?_
   refine RK.V (op_conv hT rfl rfl rfl rfl (u64N (by omega))) ?_
   refine RK.V (op_mul rfl rfl (c := (((wl x.natAbs).getD i 0 * (wl y.natAbs).getD k 0 : Nat) : Int)) (by rw [← Int.natCast_mul, u64N (by omega)])) ?_
   refine RK.V (op_move (rfl : _ = AV.vec _))<|RK.M rfl<|RK.M rfl<|RK.V (op_add rfl rfl (c := ((i + k : Nat) : Int)) (by rw [IntWalk.i64_in _ (by omega)]; omega)) ?_
   refine RK.V (by first | exact op_index_vecWN hT rfl rfl rfl rfl rfl rfl rfl (by first | omega | (simp; omega)) | exact op_index_vecW hT rfl rfl rfl rfl rfl rfl rfl (by first | omega | (simp; omega))) ?_
   refine RK.V (op_loadWv hT rfl rfl rfl rfl (by first | omega | (simp; omega)) rfl) ?_
   refine RK.V (op_conv hT rfl rfl rfl rfl (u64N (by omega))) ?_
   refine RK.V (op_add rfl rfl (c := (((wl x.natAbs).getD i 0 * (wl y.natAbs).getD k 0 + o.getD (i + k) 0 : Nat) : Int)) (by rw [← Int.natCast_add, u64N (by omega)])) ?_
   refine RK.V (op_add rfl rfl (c := (((wl x.natAbs).getD i 0 * (wl y.natAbs).getD k 0 + o.getD (i + k) 0 + c : Nat) : Int)) (by rw [← Int.natCast_add, Nat.add_comm, u64N (by omega)])) ?_
   refine RK.As rfl<|RK.D<|AWp_sr hP<|RK.V (op_move (rfl : _ = AV.vec _))<|RK.M rfl<|RK.M rfl<|RK.V (op_add rfl rfl (c := ((i + k : Nat) : Int)) (by rw [IntWalk.i64_in _ (by omega)]; omega)) ?_
   refine RK.M rfl<|RK.V (op_conv hT rfl rfl rfl rfl (u32_lo _)) ?_
   refine RK.V (by first | exact op_index_vecWN hT rfl rfl rfl rfl rfl rfl rfl (by first | omega | (simp; omega)) | exact op_index_vecW hT rfl rfl rfl rfl rfl rfl rfl (by first | omega | (simp; omega))) ?_
   refine RK.sto guard_none (op_storeWv hT rfl rfl rfl rfl rfl (by first | omega | (simp; omega)) rfl) ?_
   refine RK.D<|AWp_region hP<|RK.M rfl<|RK.V (op_shrN (j := 32) rfl rfl (by first | decide | omega)) ?_
   refine RK.As rfl<|RK.D<|AWp_region hP<|RK.M rfl<|RK.V (op_add rfl rfl (by first | exact IntWalk.i64_in _ (by omega) | rfl)) ?_
   refine RK.As rfl<|RK.D ?_
   have hr := mul_round (b := (wl y.natAbs)) (x := (wl x.natAbs).getD i 0) (i := i) (k := k) (t := (wl x.natAbs).getD i 0 * (wl y.natAbs).getD k 0 + o.getD (i + k) 0 + c) (by omega) rfl hkv
   refine ⟨(o.set (i + k) (((wl x.natAbs).getD i 0 * (wl y.natAbs).getD k 0 + o.getD (i + k) 0 + c) % 4294967296), k + 1, ((wl x.natAbs).getD i 0 * (wl y.natAbs).getD k 0 + o.getD (i + k) 0 + c) / 4294967296), ⟨by omega, by simpa using hlo, ho.set (Nat.mod_lt _ (by omega)), (Nat.div_lt_iff_lt_mul (by omega)).2 (by omega), hr, fun j hj => ?_⟩, by show (wl y.natAbs).length - (k + 1) < (wl y.natAbs).length - k; omega, le_stL ⟨.refl _, .refl _, .refl _, .refl _, .refl _, .refl _, Sub.int (by omega), trivial⟩ ⟨rfl, rfl, rfl, rfl, trivial⟩⟩
   rw [getD_set _ _ _ _ (by omega), if_neg (by omega)]
   exact hz j (by omega)
  ·have hb2_ := of_decide_eq_false hb2
   have hke : k = (wl y.natAbs).length := by omega
   subst hke
   refine AWp_exit<|AWp_region hP<|RK.V (op_move (rfl : _ = AV.vec _))<|RK.M rfl<|RK.F hT rfl rfl rfl rfl rfl rfl<|RK.V (op_load_one hT rfl rfl rfl rfl (by first | rfl | exact vget (by omega))) ?_
   refine RK.V (op_len hT rfl rfl rfl rfl)<|RK.V (op_add rfl rfl (c := ((i + (wl y.natAbs).length : Nat) : Int)) (by rw [IntWalk.i64_in _ (by omega)]; omega)) ?_
   refine RK.M rfl<|RK.V (op_conv hT rfl rfl rfl rfl (u32N (by omega))) ?_
   refine RK.V (by first | exact op_index_vecWN hT rfl rfl rfl rfl rfl rfl rfl (by first | omega | (simp; omega)) | exact op_index_vecW hT rfl rfl rfl rfl rfl rfl rfl (by first | omega | (simp; omega))) ?_
   refine RK.sto guard_none (op_storeWv hT rfl rfl rfl rfl rfl (by first | omega | (simp; omega)) rfl) ?_
   refine RK.D<|AWp_region hP<|RK.M rfl<|RK.V (op_add rfl rfl (by first | exact IntWalk.i64_in _ (by omega) | rfl)) ?_
   refine RK.As rfl<|RK.D ?_
   have hov := mul_outer (o := o0) (a := (wl x.natAbs)) (by omega) (hz _ (Nat.le_refl _)) rfl hv hkv
   refine ⟨(o.set (i + (wl y.natAbs).length) c, i + 1), ⟨by omega, by simpa using hlo, ho.set (by omega), hov, fun j hj => ?_⟩, by show (wl x.natAbs).length - (i + 1) < (wl x.natAbs).length - i; omega, le_stL ⟨.refl _, .refl _, .refl _, .refl _, Sub.int (by omega), trivial⟩ ⟨rfl, rfl, rfl, rfl, trivial⟩⟩
   rw [getD_set _ _ _ _ (by omega), if_neg (by omega)]
   exact hz j (by omega)
 ·have hb1_ := of_decide_eq_false hb1
  have hie : i = (wl x.natAbs).length := by omega
  refine AWp_exit<|AWp_freezeW (t := 5) rfl rfl ?_
  refine AWp_sr hP<|RK.F hT rfl rfl rfl rfl rfl rfl<|RK.V (op_load_one hT rfl rfl rfl rfl (by first | rfl | exact vget (by omega))) ?_
  refine RK.F hT rfl rfl rfl rfl rfl rfl<|RK.V (op_load_one hT rfl rfl rfl rfl (by first | rfl | exact vget (by omega))) ?_
  refine RK.V (op_bne hT rfl rfl rfl rfl) ?_
  refine RK.M rfl<|RK.V (Eff.call0 (r_made _ _ ho)) ?_
  refine RK.S hT rfl rfl rfl rfl rfl rfl rfl<|RK.D<|AWp_ret ?_
  refine ends_one rfl (.inr rfl) (res_cell_agg hT rfl rfl rfl rfl (cs := [_, _]) rfl rfl) ?_ O_ends
  exact Sub.I (by rw [hv, hie, List.take_length, wv_wl, wv_wl]; exact mul_sg' x y)
end Go.Proofs.YtpaifigafaijpaaGreatDoor
end
section
namespace Go.Proofs.YtpaifigafaijpaaGreatDoor
open Go Go.AM
theorem r_Bits (x : Int) (hx : L 45 x) :
  Call0 Tryz.prog 170 [I x] (Z (blen x.natAbs)) := by
 have hlen := sz hx
 refine callM_of (np := 0) Tryz.func170 (by kernel_rfl) rfl rfl (Nat.le_of_ble_eq_true rfl) (fun m h => absurd rfl h) (fun m h => absurd rfl h) rfl ?_
 refine AWp_sr hP<|RK.alc guard_none (op_box rfl rfl)<|RK.As rfl<|RK.D<|AWp_seq<|AWp_sr hP<|RK.F hT rfl rfl rfl rfl rfl rfl<|RK.V (op_load_one hT rfl rfl rfl rfl (by first | rfl | exact vget (by omega))) ?_
 refine RK.V (op_len hT rfl rfl rfl rfl)<|RK.V (op_eql rfl rfl) ?_
 refine RK.D ?_
 refine AWp_cond rfl (fun hb1 => ?_) (fun hb1 => ?_)
 ·have hb1_ := bT hb1
  refine AWp_sr hP<|RK.As rfl<|RK.D<|AWp_ret ?_
  refine ends_one rfl (.inr rfl) (res_tmp rfl) ?_ O_ends
  have h0 := wl_len_zero.1 hb1_
  exact Sub.int (by rw [h0]; rfl)
 ·have hb1_ := bF hb1
  have h1 : (wl x.natAbs).length ≠ 0 := fun e => hb1_ (by rw [e]; rfl)
  have hbt := blen_top (m := x.natAbs) (n := (wl x.natAbs).length - 1) (by omega)
  have htl := (wl_ok x.natAbs).getD ((wl x.natAbs).length - 1)
  have hb32 := blen_le (k := 32) htl
  refine AWp_skip<|AWp_sr hP<|RK.F hT rfl rfl rfl rfl rfl rfl<|RK.V (op_load_one hT rfl rfl rfl rfl (by first | rfl | exact vget (by omega))) ?_
  refine RK.V (op_len hT rfl rfl rfl rfl)<|RK.V (op_sub rfl rfl (c := (((wl x.natAbs).length - 1 : Nat) : Int)) (by rw [IntWalk.i64_in _ (by omega)]; omega)) ?_
  refine RK.V (op_mul rfl rfl (c := ((32 * ((wl x.natAbs).length - 1) : Nat) : Int)) (by rw [IntWalk.i64_in _ (by omega)]; omega)) ?_
  refine RK.As rfl<|RK.D<|AWp_seq<|AWp_sr hP<|RK.F hT rfl rfl rfl rfl rfl rfl<|RK.V (op_load_one hT rfl rfl rfl rfl (by first | rfl | exact vget (by omega))) ?_
  refine RK.F hT rfl rfl rfl rfl rfl rfl<|RK.V (op_load_one hT rfl rfl rfl rfl (by first | rfl | exact vget (by omega))) ?_
  refine RK.V (op_len hT rfl rfl rfl rfl)<|RK.V (op_sub rfl rfl (c := (((wl x.natAbs).length - 1 : Nat) : Int)) (by rw [IntWalk.i64_in _ (by omega)]; omega)) ?_
  refine RK.V (by first | exact op_index_WN hT rfl rfl rfl rfl rfl rfl (by omega) | exact op_index_sl hT rfl rfl rfl rfl rfl rfl (by omega) (by first | exact W_ne (by omega) | simp)) ?_
  refine RK.V (op_load_ip_one hT rfl rfl rfl (by first | rfl | exact wget (by omega))) ?_
  refine RK.As rfl<|RK.D<|AWp_block<|AWp_loop (ι := Nat × Nat) (fun p => stL [(3, Z ((p.1 : Nat) : Int)), (4, .p (.c (w32 p.2)))] []) (fun p => p.1 + blen p.2 = blen x.natAbs ∧ p.2 < 4294967296 ∧ p.1 ≤ blen x.natAbs) (fun p => p.2) (32 * ((wl x.natAbs).length - 1), (wl x.natAbs).getD ((wl x.natAbs).length - 1) 0) ⟨hbt.symm, htl, show 32 * ((wl x.natAbs).length - 1) ≤ blen x.natAbs by omega⟩ (le_stL ⟨.refl _, .refl _, trivial⟩ trivial) ?_
  rintro p ⟨hp1, hp2, hp3⟩
  refine AWp_seq<|AWp_sr hP<|RK.M rfl<|RK.V (op_gtr rfl rfl) ?_
  refine RK.D ?_
  refine AWp_cond rfl (fun hb2 => ?_) (fun hb2 => ?_)
  ·have hb2_ := of_decide_eq_true hb2
   refine AWp_skip<|AWp_seq<|AWp_block<|AWp_region hP<|RK.M rfl<|RK.V (op_add rfl rfl (c := ((p.1 + 1 : Nat) : Int)) (by rw [IntWalk.i64_in _ (by omega)]; omega)) ?_
   refine RK.As rfl<|RK.D<|AWp_region hP<|RK.M rfl<|RK.V (op_quo rfl rfl (by decide) (c := ((p.2 / 2 ^ 1 : Nat) : Int)) (by rw [Int.tdiv_eq_ediv_of_nonneg (by omega), IntWalk.u32_in _ (by omega)]; omega)) ?_
   refine RK.As rfl<|RK.D ?_
   have hd := blen_half (n := p.2) (by omega)
   refine ⟨(p.1 + 1, p.2 / 2 ^ 1), ⟨show p.1 + 1 + blen (p.2 / 2 ^ 1) = blen x.natAbs by omega, show p.2 / 2 ^ 1 < 4294967296 by omega, show p.1 + 1 ≤ blen x.natAbs by omega⟩, by show p.2 / 2 ^ 1 < p.2; omega, le_stL ⟨.refl _, .refl _, trivial⟩ trivial⟩
  ·have hb2_ := of_decide_eq_false hb2
   refine AWp_exit<|AWp_sr hP<|RK.M rfl<|RK.As rfl<|RK.D<|AWp_ret ?_
   refine ends_one rfl (.inr rfl) (res_tmp rfl) ?_ O_ends
   have h0 : p.2 = 0 := by omega
   rw [h0] at hp1
   exact Sub.int (by rw [← hp1]; rfl)
theorem r_leftV (l : List Nat) (n : Nat) (hl : okW l) (hll : l.length ≤ 1099511627776) (hn : n ≤ 35184372088832) :
  CallV Tryz.prog 240 [.p (.c (W l)), Z (n : Int)] (WB 111 (dgs (n / 32 + l.length + 1) (wv l * 2 ^ n))) := by
 obtain ⟨q, hq⟩ : ∃ q, q = n / 32 := ⟨_, rfl⟩
 obtain ⟨k, hk⟩ : ∃ k, k = n % 32 := ⟨_, rfl⟩
 have hks : n = 32 * q + k := by omega
 have hk32 : k < 32 := by omega
 refine callV_of Tryz.func240 (by kernel_rfl) rfl rfl (Nat.le_of_ble_eq_true rfl) ?_
 refine AWp_sr hP<|RK.As rfl<|RK.D<|AWp_sr hP<|RK.M rfl<|RK.V (op_quo rfl rfl (by decide) (c := ((q : Nat) : Int)) (by rw [Int.tdiv_eq_ediv_of_nonneg (by omega), IntWalk.i64_in _ (by omega)]; omega)) ?_
 refine RK.alc guard_none (op_makeW hT rfl rfl rfl rfl rfl rfl rfl rfl (by omega)) ?_
 refine RK.V (op_assign (rfl : _ = AV.vec _))<|RK.D<|AWp_sr hP<|RK.M rfl<|RK.V (op_rem rfl rfl (by decide) (c := ((k : Nat) : Int)) (by rw [Int.tmod_eq_emod_of_nonneg (by omega)]; omega)) ?_
 refine RK.V (op_conv hT rfl rfl rfl rfl (u64N (by omega))) ?_
 refine RK.As rfl<|RK.D<|AWp_rn 10 1000 rfl rfl rfl ?_
 refine AWp_seq<|AWp_sr hP<|RK.As rfl<|RK.D<|AWp_block<|AWp_loop (ι := List Nat × Nat) (fun ⟨o, i⟩ => stL [(0, .p (.c (W l))), (5, .vec 1000), (6, .p (.c (.v (.int .u64 ((k : Nat) : Int))))), (7, Z (i : Int))] [(1000, WB 111 o)]) (fun ⟨o, i⟩ => i ≤ l.length + 1 ∧ okW o ∧ o.length = q + i ∧ wv o + 4294967296 ^ o.length * (wd l ((i : Int) - 1) * 2 ^ k / 2 ^ 32) = wv (l.take i) * 2 ^ (32 * q + k)) (fun ⟨_, i⟩ => l.length + 1 - i) (List.replicate ((q : Nat) : Int).toNat 0, 0) ⟨Nat.zero_le _, okW.rep _, by simp, by rw [wv_rep, wd_out (.inl (by decide))]; simp [wv]⟩ (le_stL ⟨.refl _, .refl _, .refl _, .refl _, trivial⟩ ⟨rfl, trivial⟩) ?_
 rintro ⟨o, i⟩ ⟨hi, hok, hol, hv⟩
 have hwi := wd_lt hl (i : Int)
 have hwj := wd_lt hl ((i : Int) - 1)
 refine AWp_seq<|AWp_sr hP<|RK.M rfl<|RK.M rfl<|RK.V (op_len hT rfl rfl rfl rfl)<|RK.V (op_leq rfl rfl) ?_
 refine RK.D ?_
 refine AWp_cond rfl (fun hb1 => ?_) (fun hb1 => ?_)
 ·have hb1_ := of_decide_eq_true hb1
  have hlt : i ≤ l.length := by omega
  refine AWp_skip<|AWp_seq<|AWp_block<|AWp_region hP<|RK.V (op_move (rfl : _ = AV.vec _))<|RK.M rfl<|RK.M rfl<|RK.V (Eff.call0 (r_word _ _ hl)) ?_
  refine RK.M rfl<|RK.V (op_shl rfl rfl (by omega) (c := ((wd l i * 2 ^ k : Nat) : Int)) (shl64 hwi hk32)) ?_
  refine RK.M rfl<|RK.M rfl<|RK.V (op_sub rfl rfl (by first | exact IntWalk.i64_in _ (by omega) | rfl)) ?_
  refine RK.V (Eff.call0 (r_word _ _ hl)) ?_
  refine RK.M rfl<|RK.V (op_shl rfl rfl (by omega) (c := ((wd l ((i : Int) - 1) * 2 ^ k : Nat) : Int)) (shl64 hwj hk32)) ?_
  refine RK.V (op_shrN (j := 32) rfl rfl (by decide)) ?_
  refine RK.V (op_orN rfl rfl rfl (lt64 (shl_lt64 hwi hk32)) (lt64 (Nat.lt_of_le_of_lt (Nat.div_le_self _ _) (shl_lt64 hwj hk32)))) ?_
  refine RK.V (op_conv hT rfl rfl rfl rfl (u32_lo _)) ?_
  refine RK.V (op_bslice hT rfl rfl rfl (es := [_]) rfl rfl rfl) ?_
  refine RK.app guard_none (op_appendW hT rfl rfl rfl rfl rfl rfl rfl (xs := [(wd l i * 2 ^ k ||| wd l ((i : Int) - 1) * 2 ^ k / 2 ^ 32) % 4294967296]) rfl (by simp only [List.length_cons, List.length_nil]; omega) (by decide)) ?_
  refine RK.V (op_assign (rfl : _ = AV.vec _))<|RK.D<|AWp_rn 36 1000 rfl rfl rfl ?_
  refine AWp_region hP<|RK.M rfl<|RK.V (op_add rfl rfl (by first | exact IntWalk.i64_in _ (by omega) | rfl)) ?_
  refine RK.As rfl<|RK.D ?_
  have hr := left_round hl hk32 hol hv
  refine ⟨(o ++ [(wd l i * 2 ^ k ||| wd l ((i : Int) - 1) * 2 ^ k / 2 ^ 32) % 4294967296], i + 1), ⟨by omega, hok.snoc (Nat.mod_lt _ (by decide)), by simp; omega, ?_⟩, by show l.length + 1 - (i + 1) < l.length + 1 - i; omega, le_stL ⟨.refl _, .refl _, .refl _, .refl _, trivial⟩ ⟨rfl, trivial⟩⟩
  rw [List.length_append, List.length_cons, List.length_nil, show (((i + 1 : Nat) : Int) - 1) = (i : Int) by omega]
  exact hr
 ·have hb1_ := of_decide_eq_false hb1
  have hge : i = l.length + 1 := by omega
  refine AWp_exit<|AWp_sr hP<|RK.V (op_move (rfl : _ = AV.vec _))<|RK.V (op_assign (rfl : _ = AV.vec _))<|RK.D<|AWp_ret ?_
  refine ⟨.inr rfl, _, _, rfl, rfl, ?_⟩
  rw [← hq]
  exact congrArg (fun z => some (WB 111 z)) (by rw [left_end hok hol hge hv, hks])
theorem r_left (l : List Nat) (n : Nat) (hl : okW l) (hll : l.length ≤ 1099511627776) (hn : n ≤ 35184372088832) : Call0 Tryz.prog 240 [.p (.c (W l)), Z (n : Int)] (.p (.c (W (dgs (n / 32 + l.length + 1) (wv l * 2 ^ n))))) := (r_leftV l n hl hll hn).call0W
theorem r_reaches (a b : List Nat) (ha : okW a) (hb : okW b) (hla : a.length ≤ 4398046511104) (hlb : b.length ≤ 4398046511104) :
  Call0 Tryz.prog 241 [.p (.c (W a)), .p (.c (W b))] (B (decide (wv b ≤ wv a))) := by
 obtain ⟨mx, hmx⟩ : ∃ mx : Int, mx = (if (b.length : Int) > a.length then (b.length : Int) else a.length) := ⟨_, rfl⟩
 have hm1 : (a.length : Int) ≤ mx ∧ (b.length : Int) ≤ mx ∧ mx ≤ 4398046511104 := by rw [hmx]; split <;> omega
 refine callM_of (np := 0) Tryz.func241 (by kernel_rfl) rfl rfl (Nat.le_of_ble_eq_true rfl) (fun m h => absurd rfl h) (fun m h => absurd rfl h) rfl ?_
 refine AWp_sr hP<|RK.As rfl<|RK.D<|AWp_seq<|AWp_sr hP<|RK.M rfl<|RK.V (op_len hT rfl rfl rfl rfl)<|RK.M rfl<|RK.V (op_len hT rfl rfl rfl rfl)<|RK.V (op_max rfl rfl) ?_
 refine RK.V (op_sub rfl rfl (c := (mx.toNat : Int) - 1) (by rw [← hmx, IntWalk.i64_in _ (by omega)]; omega)) ?_
 refine RK.As rfl<|RK.D<|AWp_block<|AWp_loop (ι := Nat) (fun k => stL [(0, .p (.c (W a))), (1, .p (.c (W b))), (5, Z ((k : Int) - 1))] []) (fun k => k ≤ mx.toNat ∧ wv a / 4294967296 ^ k = wv b / 4294967296 ^ k) (fun k => k) mx.toNat ⟨Nat.le_refl _, by rw [reach_start ha (by omega), reach_start hb (by omega)]⟩ (le_stL ⟨.refl _, .refl _, .refl _, trivial⟩ trivial) ?_
 rintro k ⟨hk, he⟩
 refine AWp_seq<|AWp_sr hP<|RK.M rfl<|RK.V (op_geq rfl rfl) ?_
 refine RK.D ?_
 refine AWp_cond rfl (fun hb1 => ?_) (fun hb1 => ?_)
 ·have hb1_ := of_decide_eq_true hb1
  refine AWp_skip<|AWp_seq<|AWp_block<|AWp_sr hP<|RK.M rfl<|RK.M rfl<|RK.V (Eff.call0 (r_word _ _ (by assumption))) ?_
  refine RK.M rfl<|RK.M rfl<|RK.V (Eff.call0 (r_word _ _ (by assumption))) ?_
  refine RK.V (op_neq rfl rfl) ?_
  refine RK.D ?_
  refine AWp_cond rfl (fun hb2 => ?_) (fun hb2 => ?_)
  ·have hb2_ := bneT hb2
   refine AWp_sr hP<|RK.M rfl<|RK.M rfl<|RK.V (Eff.call0 (r_word _ _ (by assumption))) ?_
   refine RK.M rfl<|RK.M rfl<|RK.V (Eff.call0 (r_word _ _ (by assumption))) ?_
   refine RK.V (op_gtr rfl rfl) ?_
   refine RK.As rfl<|RK.D<|AWp_ret ?_
   refine ends_one rfl (.inr rfl) (res_tmp rfl) ?_ O_ends
   exact Sub.bool (reach_ret ha hb hb1_ he hb2_)
  ·have hb2_ := bneF hb2
   refine AWp_skip<|AWp_region hP<|RK.M rfl<|RK.V (op_sub rfl rfl (by first | exact IntWalk.i64_in _ (by omega) | rfl)) ?_
   refine RK.As rfl<|RK.D ?_
   exact ⟨k - 1, ⟨by omega, reach_next ha hb hb1_ he hb2_⟩, by omega, le_stL ⟨.refl _, .refl _, Sub.int (by omega), trivial⟩ trivial⟩
 ·have hb1_ := of_decide_eq_false hb1
  refine AWp_exit<|AWp_sr hP<|RK.As rfl<|RK.D<|AWp_ret ?_
  refine ends_one rfl (.inr rfl) (res_tmp rfl) ?_ O_ends
  have h0 : k = 0 := by omega
  subst h0
  exact Sub.bool (decide_eq_true (by simpa using Nat.le_of_eq he.symm)).symm
theorem r_half0 (l : List Nat) (hl : okW l) (hll : l.length ≤ 4398046511104) :
  CallM Tryz.prog 243 [.vec 0] (upd O 0 (some (WB 111 l))) (.t []) (upd O 0 (some (WB 111 (dgs l.length (wv l / 2))))) := by
 refine callM_of (np := 1) Tryz.func243 (by kernel_rfl) rfl rfl (Nat.le_of_ble_eq_true rfl) upd1_lt upd1_dom rfl ?_
 refine AWp_sr hP<|RK.As rfl<|RK.D<|AWp_block<|AWp_loop (ι := Nat) (fun i => stL [(0, .vec 0), (2, Z (i : Int))] [(0, WB 111 (hlf l i))]) (fun i => i ≤ l.length) (fun i => l.length - i) 0 (Nat.zero_le _) (le_stL ⟨.refl _, .refl _, trivial⟩ ⟨congrArg (fun z => some (WB 111 z)) (hlf_zero l).symm, trivial⟩) ?_
 intro i hi
 have hlen := hlf_len l hi
 have hok := hlf_ok hl i
 have hwi := wd_lt hok (i : Int)
 have hwj := wd_lt hok ((i : Int) + 1)
 refine AWp_seq<|AWp_sr hP<|RK.M rfl<|RK.V (op_move (rfl : _ = AV.vec _))<|RK.V (op_len_vecW hT rfl rfl rfl rfl) ?_
 refine RK.V (op_lss rfl rfl)<|RK.D ?_
 refine AWp_cond rfl (fun hb1 => ?_) (fun hb1 => ?_)
 ·have hb1_ := of_decide_eq_true hb1
  have hlt : i < l.length := by omega
  refine AWp_skip<|AWp_seq<|AWp_block<|AWp_region hP<|RK.V (op_move (rfl : _ = AV.vec _))<|RK.M rfl<|RK.V (op_move (rfl : _ = AV.vec _))<|RK.M rfl<|RK.V (Eff.borrow (.vecW rfl (.same .nil)) (r_word (hlf l i) _ hok)) ?_
  refine RK.V (op_shrN (j := 1) rfl rfl (by decide)) ?_
  refine RK.V (op_move (rfl : _ = AV.vec _))<|RK.M rfl<|RK.V (op_add rfl rfl (by first | exact IntWalk.i64_in _ (by omega) | rfl)) ?_
  refine RK.V (Eff.borrow (.vecW rfl (.same .nil)) (r_word (hlf l i) _ hok)) ?_
  refine RK.V (op_shlN (j := 31) rfl rfl (by decide) rfl) ?_
  refine RK.V (op_orN rfl rfl rfl (lt64 (by omega)) (lt64 (Nat.mod_lt _ (by decide)))) ?_
  refine RK.V (op_conv hT rfl rfl rfl rfl (u32_lo _)) ?_
  refine RK.V (by first | exact op_index_vecWN hT rfl rfl rfl rfl rfl rfl rfl (by first | omega | (simp; omega)) | exact op_index_vecW hT rfl rfl rfl rfl rfl rfl rfl (by first | omega | (simp; omega))) ?_
  refine RK.sto guard_none (op_storeWv hT rfl rfl rfl rfl rfl (by first | omega | (simp; omega)) (show (hlf l i).set i _ = hlf l (i + 1) by rw [hlf_wd (Int.le_refl _) (by omega), hlf_wd (by omega) (by omega), half_word hl]; exact hlf_set hlt)) ?_
  refine RK.D<|AWp_region hP<|RK.M rfl<|RK.V (op_add rfl rfl (by first | exact IntWalk.i64_in _ (by omega) | rfl)) ?_
  refine RK.As rfl<|RK.D ?_
  exact ⟨i + 1, by show i + 1 ≤ l.length; omega, by show l.length - (i + 1) < l.length - i; omega, le_stL ⟨.refl _, Sub.int (by omega), trivial⟩ ⟨rfl, trivial⟩⟩
 ·have hb1_ := of_decide_eq_false hb1
  have hie : i = l.length := by omega
  refine AWp_exit ?_
  refine ends_none rfl (.inl rfl)  ?_ (own_end1 ?_)
  exact .refl _
  exact congrArg (fun z => some (WB 111 z)) (by rw [hie, hlf_end])
theorem r_take0 (a b : List Nat) (ha : okW a) (hb : okW b) (hla : a.length ≤ 4398046511104) (hab : wv b ≤ wv a) :
  CallM Tryz.prog 242 [.vec 0, .vec 1] (upd (upd O 0 (some (WB 111 a))) 1 (some (WB 111 b))) (.t []) (upd (upd O 0 (some (WB 111 (dgs a.length (wv a - wv b))))) 1 (some (WB 111 b))) := by
 refine callM_of (np := 2) Tryz.func242 (by kernel_rfl) rfl rfl (Nat.le_of_ble_eq_true rfl) upd2_lt upd2_dom rfl ?_
 refine AWp_sr hP<|RK.As rfl<|RK.D<|AWp_sr hP<|RK.As rfl<|RK.D<|AWp_block<|AWp_loop (ι := List Nat × Nat) (fun p => stL [(0, .vec 0), (1, .vec 1), (4, .p (.c (.v (.int .u64 ((p.2 : Nat) : Int))))), (5, Z ((p.1.length : Nat) : Int))] [(0, WB 111 (p.1 ++ a.drop p.1.length)), (1, WB 111 b)]) (fun p => p.1.length ≤ a.length ∧ okW p.1 ∧ p.2 ≤ 1 ∧ wv p.1 + wv (b.take p.1.length) = wv (a.take p.1.length) + 4294967296 ^ p.1.length * p.2) (fun p => a.length - p.1.length) ([], 0) ⟨Nat.zero_le _, okW.nil, by decide, by simp [wv]⟩ (le_stL ⟨.refl _, .refl _, .refl _, .refl _, trivial⟩ ⟨rfl, rfl, trivial⟩) ?_
 rintro p ⟨hll, hol, hc, hv⟩
 have hmid := mid_len hll
 have hwb := wd_lt hb (p.1.length : Nat)
 refine AWp_seq<|AWp_sr hP<|RK.M rfl<|RK.V (op_move (rfl : _ = AV.vec _))<|RK.V (op_len_vecW hT rfl rfl rfl rfl) ?_
 refine RK.V (op_lss rfl rfl)<|RK.D ?_
 refine AWp_cond rfl (fun hb1 => ?_) (fun hb1 => ?_)
 ·have hb1_ := of_decide_eq_true hb1
  have hlt : p.1.length < a.length := by omega
  have hal := ha.getD p.1.length
  have htx := (take_x ha hb hc hlt).1
  refine AWp_skip<|AWp_seq<|AWp_block<|AWp_sr hP<|RK.V (op_move (rfl : _ = AV.vec _))<|RK.M rfl<|RK.V (by first | exact op_index_vecWN hT rfl rfl rfl rfl rfl rfl rfl (by first | omega | (simp; omega)) | exact op_index_vecW hT rfl rfl rfl rfl rfl rfl rfl (by first | omega | (simp; omega))) ?_
  refine RK.V (op_loadWv hT rfl rfl rfl rfl (by first | omega | (simp; omega)) (mid_get hlt)) ?_
  refine RK.V (op_conv hT rfl rfl rfl rfl (u64N (by omega))) ?_
  refine RK.V (op_add rfl rfl (c := ((4294967296 + a.getD p.1.length 0 : Nat) : Int)) (by rw [IntWalk.u64_in _ (by omega)]; omega)) ?_
  refine RK.V (op_move (rfl : _ = AV.vec _))<|RK.M rfl<|RK.V (Eff.borrow (.vecW rfl (.same .nil)) (r_word b _ hb)) ?_
  refine RK.V (op_sub rfl rfl (c := ((4294967296 + a.getD p.1.length 0 - wd b (p.1.length : Nat) : Nat) : Int)) (by rw [IntWalk.u64_in _ (by omega)]; omega)) ?_
  refine RK.M rfl<|RK.V (op_sub rfl rfl (c := ((4294967296 + a.getD p.1.length 0 - wd b (p.1.length : Nat) - p.2 : Nat) : Int)) (by rw [IntWalk.u64_in _ (by omega)]; omega)) ?_
  refine RK.As rfl<|RK.D<|AWp_sr hP<|RK.V (op_move (rfl : _ = AV.vec _))<|RK.M rfl<|RK.M rfl<|RK.V (op_conv hT rfl rfl rfl rfl (u32_lo _)) ?_
  refine RK.V (by first | exact op_index_vecWN hT rfl rfl rfl rfl rfl rfl rfl (by first | omega | (simp; omega)) | exact op_index_vecW hT rfl rfl rfl rfl rfl rfl rfl (by first | omega | (simp; omega))) ?_
  refine RK.sto guard_none (op_storeWv hT rfl rfl rfl rfl rfl (by first | omega | (simp; omega)) (mid_set hlt)) ?_
  refine RK.D<|AWp_region hP<|RK.M rfl<|RK.V (op_shrN (j := 32) rfl rfl (by decide)) ?_
  refine RK.V (op_sub rfl rfl (c := ((1 - (4294967296 + a.getD p.1.length 0 - wd b (p.1.length : Nat) - p.2) / 4294967296 : Nat) : Int)) (by rw [IntWalk.u64_in _ (by omega)]; omega)) ?_
  refine RK.As rfl<|RK.D<|AWp_region hP<|RK.M rfl<|RK.V (op_add rfl rfl (by first | exact IntWalk.i64_in _ (by omega) | rfl)) ?_
  refine RK.As rfl<|RK.D ?_
  have hx := (take_x ha hb hc hlt).2
  have hr := minus_round ha hb hc hv
  rw [← hx] at hr
  refine ⟨(p.1 ++ [(4294967296 + a.getD p.1.length 0 - wd b (p.1.length : Nat) - p.2) % 4294967296], 1 - (4294967296 + a.getD p.1.length 0 - wd b (p.1.length : Nat) - p.2) / 4294967296), ⟨?_, hol.snoc (Nat.mod_lt _ (by decide)), Nat.sub_le _ _, by simpa using hr⟩, ?_, le_stL ⟨.refl _, .refl _, .refl _, Sub.int (by simp), trivial⟩ ⟨rfl, rfl, trivial⟩⟩
  ·simp only [List.length_append, List.length_cons, List.length_nil]; omega
  ·simp only [List.length_append, List.length_cons, List.length_nil]; omega
 ·have hb1_ := of_decide_eq_false hb1
  have hge : p.1.length = a.length := by omega
  refine AWp_exit ?_
  refine ends_none rfl (.inl rfl)  ?_ (own_end2 ?_ rfl)
  exact .refl _
  exact congrArg (fun z => some (WB 111 z)) (take_end ha hb hol hge hab hv)
theorem r_half (m : Nat) (l : List Nat) (hl : okW l) (hll : l.length ≤ 4398046511104) : CallM Tryz.prog 243 [.vec m] (upd O m (some (WB 111 l))) (.t []) (upd O m (some (WB 111 (dgs l.length (wv l / 2))))) := CallM.ren1 m (r_half0 l hl hll) rfl rfl
theorem r_take (m k : Nat) (hmk : Nat.beq m k = false) (a b : List Nat) (ha : okW a) (hb : okW b) (hla : a.length ≤ 4398046511104) (hab : wv b ≤ wv a) : CallM Tryz.prog 242 [.vec m, .vec k] (upd (upd O m (some (WB 111 a))) k (some (WB 111 b))) (.t []) (upd (upd O m (some (WB 111 (dgs a.length (wv a - wv b))))) k (some (WB 111 b))) := CallM.ren2 m k hmk (r_take0 a b ha hb hla hab) rfl rfl
end Go.Proofs.YtpaifigafaijpaaGreatDoor
end
section
namespace Go.Proofs.YtpaifigafaijpaaGreatDoor
open Go Go.AM
theorem r_BitsN (a : Nat) (h : (wl a).length ≤ 1099511627776) : Call0 Tryz.prog 170 [.p (.a [zn 0, nt a])] (Z (blen a)) := by
 have h : Call0 Tryz.prog 170 [.p (.a [zn (a : Int), nt a])] (Z (blen a)) := r_Bits (a : Int) (L_of_len h)
 rw [zn_nat] at h
 exact h
theorem r_divide (a b : Nat) (hla : (wl a).length ≤ 1099511627776) (hlb : (wl b).length ≤ 1099511627776) (hb : 0 < b) :
  Call0 Tryz.prog 222 [.p (.c (nt a)), .p (.c (nt b))] (.p (.a [W (qL a b), W (rL a b)])) := by
 have hba := blen_len hla
 have hbb := blen_len hlb
 refine callM_of (np := 0) Tryz.func222 (by kernel_rfl) rfl rfl (Nat.le_of_ble_eq_true rfl) (fun m h => absurd rfl h) (fun m h => absurd rfl h) rfl ?_
 refine AWp_sr hP<|RK.alc guard_none (op_alloc hT rfl rfl)<|RK.D<|AWp_seq_cut (ι := Unit) (fun _ => stL [(0, .p (.c (nt a))), (1, .p (.c (nt b))), (4, .loc 4 0)] [(4, ⟨false, 1, 215, [.sl 0 [], .sl 0 []]⟩)]) (fun _ => ¬ ((wl a).length ≤ 2 ∧ (wl b).length ≤ 2)) ?_ ?_
 ·refine AWp_sr hP<|RK.M rfl<|RK.V (op_len hT rfl rfl rfl rfl)<|RK.V (op_leq rfl rfl) ?_
  refine RK.M rfl ?_
  refine RK.split (t := 15) rfl (fun hg1 => ?_) (fun hg1 => ?_)
  ·have hg1_ := of_decide_eq_true hg1
   have hl1 : (wl a).length ≤ 2 := by have := of_decide_eq_true hg1; omega
   refine RK.val (guard_yes rfl rfl hg1) (op_move (rfl : _ = AV.p (.c _))) ?_
   refine RK.val (guard_yes rfl rfl hg1) (op_len hT rfl rfl rfl rfl) ?_
   refine RK.val (guard_yes rfl rfl hg1) (op_leq rfl rfl) ?_
   refine RK.V (op_pick_t rfl hg1 (rfl : _ = AV.p (.c _))) ?_
   refine RK.D ?_
   refine AWp_cond rfl (fun hb2 => ?_) (fun hb2 => ?_)
   ·have hb2_ := of_decide_eq_true hb2
    have hl2 : (wl b).length ≤ 2 := by have := of_decide_eq_true hb2; omega
    have ha64 := lt_two hl1
    have hb64 := lt_two hl2
    have hdv := Nat.div_le_self a b
    have hmd := Nat.mod_le a b
    refine AWp_sr hP<|RK.M rfl<|RK.V (Eff.call0 (r_word _ _ (wl_ok _))) ?_
    refine RK.M rfl<|RK.V (Eff.call0 (r_word _ _ (wl_ok _))) ?_
    refine RK.V (op_shlN (j := 32) rfl rfl (by decide) rfl) ?_
    refine RK.V (op_or rfl rfl (lohi hl1)) ?_
    refine RK.As rfl<|RK.D<|AWp_sr hP<|RK.M rfl<|RK.V (Eff.call0 (r_word _ _ (wl_ok _))) ?_
    refine RK.M rfl<|RK.V (Eff.call0 (r_word _ _ (wl_ok _))) ?_
    refine RK.V (op_shlN (j := 32) rfl rfl (by decide) rfl) ?_
    refine RK.V (op_or rfl rfl (lohi hl2)) ?_
    refine RK.As rfl<|RK.D<|AWp_sr hP<|RK.M rfl<|RK.M rfl<|RK.V (op_quo rfl rfl (by omega) (c := ((a / b : Nat) : Int)) (by rw [Int.tdiv_eq_ediv_of_nonneg (by omega), ← Int.natCast_ediv, u64N (by omega)])) ?_
    refine RK.V (op_conv hT rfl rfl rfl rfl (u32_lo _)) ?_
    refine RK.M rfl<|RK.M rfl<|RK.V (op_quo rfl rfl (by omega) (c := ((a / b : Nat) : Int)) (by rw [Int.tdiv_eq_ediv_of_nonneg (by omega), ← Int.natCast_ediv, u64N (by omega)])) ?_
    refine RK.V (op_shrN (j := 32) rfl rfl (by decide)) ?_
    refine RK.V (op_conv hT rfl rfl rfl rfl (u32N (by omega))) ?_
    refine RK.V (op_bslice hT rfl rfl rfl (es := [_, _]) rfl rfl rfl) ?_
    refine RK.M rfl<|RK.M rfl<|RK.V (op_rem rfl rfl (by omega) (c := ((a % b : Nat) : Int)) (by rw [Int.tmod_eq_emod_of_nonneg (by omega), ← Int.natCast_emod])) ?_
    refine RK.V (op_conv hT rfl rfl rfl rfl (u32_lo _)) ?_
    refine RK.M rfl<|RK.M rfl<|RK.V (op_rem rfl rfl (by omega) (c := ((a % b : Nat) : Int)) (by rw [Int.tmod_eq_emod_of_nonneg (by omega), ← Int.natCast_emod])) ?_
    refine RK.V (op_shrN (j := 32) rfl rfl (by decide)) ?_
    refine RK.V (op_conv hT rfl rfl rfl rfl (u32N (by omega))) ?_
    refine RK.V (op_bslice hT rfl rfl rfl (es := [_, _]) rfl rfl rfl) ?_
    refine RK.V (op_build_st hT rfl rfl rfl (es := [_, _]) rfl) ?_
    refine RK.S hT rfl rfl rfl rfl rfl rfl rfl<|RK.D<|AWp_ret ?_
    refine ends_one rfl (.inr rfl) (res_cell_agg hT rfl rfl rfl rfl (cs := [_, _]) rfl rfl) ?_ O_ends
    exact Sub.of_eq (by unfold qL rL; rw [if_pos ⟨hl1, hl2⟩, if_pos ⟨hl1, hl2⟩]; rfl)
   ·have hb2_ := of_decide_eq_false hb2
    have hl2 : ¬ (wl b).length ≤ 2 := by have := of_decide_eq_false hb2; omega
    have hsm : ¬ ((wl a).length ≤ 2 ∧ (wl b).length ≤ 2) := fun x => hl2 x.2
    refine AWp_skip ?_
    exact ⟨(), hsm, le_stL ⟨.refl _, .refl _, .refl _, trivial⟩ ⟨rfl, trivial⟩⟩
  ·have hg1_ := of_decide_eq_false hg1
   have hl1 : ¬ (wl a).length ≤ 2 := by have := of_decide_eq_false hg1; omega
   have hsm : ¬ ((wl a).length ≤ 2 ∧ (wl b).length ≤ 2) := fun x => hl1 x.1
   refine RK.skip (guard_no rfl rfl hg1) ?_
   refine RK.skip (guard_no rfl rfl hg1) ?_
   refine RK.skip (guard_no rfl rfl hg1) ?_
   refine RK.V (op_pick_f rfl hg1 (rfl : _ = AV.p (.c _))) ?_
   refine RK.D<|AWp_cond_false rfl rfl ?_
   refine AWp_skip ?_
   exact ⟨(), hsm, le_stL ⟨.refl _, .refl _, .refl _, trivial⟩ ⟨rfl, trivial⟩⟩
 rintro _ hsm
 refine AWp_sr hP<|RK.alc guard_none (op_bslice_vecW hT rfl rfl rfl rfl (ws := []) rfl rfl rfl) ?_
 refine RK.M rfl<|RK.app guard_none (op_appendW hT rfl rfl rfl rfl rfl rfl rfl (xs := wl a) rfl (by simp only [List.length_nil]; omega) (by decide)) ?_
 refine RK.V (op_assign (rfl : _ = AV.vec _))<|RK.D<|AWp_sr hP<|RK.M rfl<|RK.V (op_build_st hT rfl rfl rfl (es := [_, _]) rfl) ?_
 refine RK.V (Eff.call0 (r_BitsN a hla)) ?_
 refine RK.M rfl<|RK.V (op_build_st hT rfl rfl rfl (es := [_, _]) rfl) ?_
 refine RK.V (Eff.call0 (r_BitsN b hlb)) ?_
 refine RK.V (op_sub rfl rfl (by first | exact IntWalk.i64_in _ (by omega) | rfl)) ?_
 refine RK.As rfl<|RK.D<|AWp_seq<|AWp_sr hP<|RK.M rfl<|RK.V (op_lss rfl rfl)<|RK.D ?_
 refine AWp_cond rfl (fun hb3 => ?_) (fun hb3 => ?_)
 ·have hb3_ := of_decide_eq_true hb3
  have hneg : blen a < blen b := by omega
  refine AWp_freezeW (t := 7) rfl rfl ?_
  refine AWp_sr hP<|RK.M rfl<|RK.V (op_build_st hT rfl rfl rfl (es := [_, _]) rfl) ?_
  refine RK.S hT rfl rfl rfl rfl rfl rfl rfl<|RK.D<|AWp_ret ?_
  refine ends_one rfl (.inr rfl) (res_cell_agg hT rfl rfl rfl rfl (cs := [_, _]) rfl rfl) ?_ O_ends
  exact div_less hsm hneg
 ·have hb3_ := of_decide_eq_false hb3
  have hnn : blen b ≤ blen a := by omega
  obtain ⟨N, hN⟩ : ∃ N, N = blen a - blen b := ⟨_, rfl⟩
  refine AWp_skip<|AWp_le (t := stL [(0, .p (.c (nt a))), (1, .p (.c (nt b))), (4, .loc 4 0), (7, .vec 55), (8, Z (N : Int))] [(4, ⟨false, 1, 215, [.sl 0 [], .sl 0 []]⟩), (55, WB 111 (wl a))]) (le_stL ⟨.refl _, .refl _, .refl _, .refl _, Sub.int (by omega), trivial⟩ ⟨rfl, rfl, trivial⟩) ?_
  refine AWp_sr hP<|RK.M rfl<|RK.V (op_quo rfl rfl (by decide) (c := ((N / 32 : Nat) : Int)) (by rw [Int.tdiv_eq_ediv_of_nonneg (by omega), IntWalk.i64_in _ (by omega)]; omega)) ?_
  refine RK.V (op_add rfl rfl (c := ((N / 32 + 1 : Nat) : Int)) (by rw [IntWalk.i64_in _ (by omega)]; omega)) ?_
  refine RK.alc guard_none (op_makeW hT rfl rfl rfl rfl rfl rfl rfl rfl (by omega)) ?_
  refine RK.V (op_assign (rfl : _ = AV.vec _))<|RK.D<|AWp_sr hP<|RK.M rfl<|RK.M rfl<|RK.alc guard_none (Eff.callV (r_leftV (wl b) N (wl_ok _) hlb (by omega))) ?_
  refine RK.V (op_assign (rfl : _ = AV.vec _))<|RK.D<|AWp_seq<|AWp_sr hP<|RK.M rfl<|RK.As rfl<|RK.D<|AWp_block<|AWp_loop (ι := Nat × Nat × Nat) (fun ⟨j, Q, R⟩ => stL [(4, .loc 4 0), (7, .vec 55), (9, .vec 70), (10, .vec 73), (11, Z ((j : Int) - 1))] [(4, ⟨false, 1, 215, [.sl 0 [], .sl 0 []]⟩), (55, WB 111 (dgs (wl a).length R)), (70, WB 111 (dgs (N / 32 + 1) Q)), (73, WB 111 (dgs (N / 32 + (wl b).length + 1) (b * 2 ^ j / 2)))]) (fun ⟨j, Q, R⟩ => j ≤ N + 1 ∧ Q < 4294967296 ^ (N / 32 + 1) ∧ Dv a b j Q R) (fun ⟨j, _, _⟩ => j) (N + 1, 0, a) ⟨Nat.le_refl _, Nat.pow_pos (by decide), hN ▸ Dv.start hb hnn⟩ (le_stL ⟨.refl _, .refl _, .refl _, .refl _, Sub.int (by omega), trivial⟩ ⟨rfl, congrArg (fun z => some (WB 111 z)) (dgs_wl a).symm, congrArg (fun z => some (WB 111 z)) (by rw [dgs_zero]; rfl), congrArg (fun z => some (WB 111 z)) (by rw [wv_wl, half_pow (by omega), Nat.add_sub_cancel]), trivial⟩) ?_
  rintro ⟨j, Q, R⟩ ⟨hj, hQ, hD⟩
  have hRa : R < 4294967296 ^ (wl a).length := Nat.lt_of_le_of_lt hD.le (wl_len_lt a)
  have hDl := D_lt hb hj
  refine AWp_seq<|AWp_sr hP<|RK.M rfl<|RK.V (op_geq rfl rfl) ?_
  refine RK.D ?_
  refine AWp_cond rfl (fun hb4 => ?_) (fun hb4 => ?_)
  ·have hb4_ := of_decide_eq_true hb4
   have hj0 : 0 < j := by omega
   have hset := set_bit (m := (N / 32 + 1)) (Q := Q) (i := j - 1) (by omega) (by rw [show j - 1 + 1 = j by omega]; exact hD.mul) hQ
   have hkk : ((j : Int) - 1) = ((j - 1 : Nat) : Int) := by omega
   refine AWp_skip<|AWp_seq<|AWp_block<|AWp_seq<|AWp_sr hP<|RK.V (op_move (rfl : _ = AV.vec _))<|RK.V (op_move (rfl : _ = AV.vec _))<|RK.V (Eff.borrow (.vecW rfl (.vecW rfl .nil)) (r_reaches _ _ (dgs_ok _ _) (dgs_ok _ _) (by rw [dgs_length]; omega) (by rw [dgs_length]; omega))) ?_
   refine RK.D ?_
   refine AWp_cond rfl (fun hb5 => ?_) (fun hb5 => ?_)
   ·have hle := reach_yes hRa hDl hb5
    rw [half_pow hj0] at hle
    refine AWp_sr hP<|RK.V (op_move (rfl : _ = AV.vec _))<|RK.V (op_move (rfl : _ = AV.vec _))<|RK.mutL guard_none (Eff.call (rd := [55, 73]) (r_take 55 73 rfl (dgs (wl a).length R) (dgs (N / 32 + (wl b).length + 1) (b * 2 ^ j / 2)) (dgs_ok _ _) (dgs_ok _ _) (by rw [dgs_length]; omega) (by rw [wv_dgs _ _ hRa, wv_dgs _ _ hDl, half_pow hj0]; exact hle)) (own2 rfl rfl rfl) upd2_mem) ?_
    refine RK.D<|AWp_region hP<|RK.V (op_move (rfl : _ = AV.vec _))<|RK.M rfl<|RK.V (op_quo rfl rfl (by decide) (c := (((j - 1) / 32 : Nat) : Int)) (by rw [hkk, Int.tdiv_eq_ediv_of_nonneg (by omega), IntWalk.i64_in _ (by omega)]; omega)) ?_
    refine RK.V (by first | exact op_index_vecWN hT rfl rfl rfl rfl rfl rfl rfl (by rw [dgs_length]; omega) | exact op_index_vecW hT rfl rfl rfl rfl rfl rfl rfl (by rw [dgs_length]; omega)) ?_
    refine RK.V (op_loadWv hT rfl rfl rfl rfl (by rw [dgs_length]; omega) rfl) ?_
    refine RK.M rfl<|RK.V (op_rem rfl rfl (by decide) (c := (((j - 1) % 32 : Nat) : Int)) (by rw [hkk, Int.tmod_eq_emod_of_nonneg (by omega)]; omega)) ?_
    refine RK.V (op_conv hT rfl rfl rfl rfl (u64N (by omega))) ?_
    refine RK.V (op_shl rfl rfl (by omega) (c := ((2 ^ ((j - 1) % 32) : Nat) : Int)) (shl_one (by omega))) ?_
    refine RK.V (op_orN rfl rfl rfl (lt32 ((dgs_ok _ _).getD _)) (lt32 (pow_lt32 (by omega)))) ?_
    refine RK.V (by first | exact op_index_vecWN hT rfl rfl rfl rfl rfl rfl rfl (by rw [dgs_length]; omega) | exact op_index_vecW hT rfl rfl rfl rfl rfl rfl rfl (by rw [dgs_length]; omega)) ?_
    refine RK.sto guard_none (op_storeWv hT rfl rfl rfl rfl rfl (by rw [dgs_length]; omega) rfl) ?_
    refine RK.D<|AWp_region hP<|RK.V (op_move (rfl : _ = AV.vec _))<|RK.mut guard_none (Eff.call (rd := [73]) (r_half 73 (dgs (N / 32 + (wl b).length + 1) (b * 2 ^ j / 2)) (dgs_ok _ _) (by rw [dgs_length]; omega)) (own1 rfl) upd1_mem) ?_
    refine RK.D<|AWp_region hP<|RK.M rfl<|RK.V (op_sub rfl rfl (by first | exact IntWalk.i64_in _ (by omega) | rfl)) ?_
    refine RK.As rfl<|RK.D ?_
    refine ⟨(j - 1, Q + 2 ^ (j - 1), R - b * 2 ^ (j - 1)), ⟨by omega, hset.2.2, hD.yes hj0 hle⟩, by show j - 1 < j; omega, le_stL ⟨.refl _, .refl _, .refl _, .refl _, Sub.int (by omega), trivial⟩ ⟨rfl, congrArg (fun z => some (WB 111 z)) (by rw [dgs_length, wv_dgs _ _ hRa, wv_dgs _ _ hDl, half_pow hj0]), congrArg (fun z => some (WB 111 z)) hset.1, congrArg (fun z => some (WB 111 z)) (by rw [dgs_length, wv_dgs _ _ hDl, half_pow hj0]), trivial⟩⟩
   ·have hle := reach_no hRa hDl hb5
    rw [half_pow hj0] at hle
    refine AWp_skip<|AWp_region hP<|RK.V (op_move (rfl : _ = AV.vec _))<|RK.mut guard_none (Eff.call (rd := [73]) (r_half 73 (dgs (N / 32 + (wl b).length + 1) (b * 2 ^ j / 2)) (dgs_ok _ _) (by rw [dgs_length]; omega)) (own1 rfl) upd1_mem) ?_
    refine RK.D<|AWp_region hP<|RK.M rfl<|RK.V (op_sub rfl rfl (by first | exact IntWalk.i64_in _ (by omega) | rfl)) ?_
    refine RK.As rfl<|RK.D ?_
    refine ⟨(j - 1, Q, R), ⟨by omega, hQ, hD.no hj0 hle⟩, by show j - 1 < j; omega, le_stL ⟨.refl _, .refl _, .refl _, .refl _, Sub.int (by omega), trivial⟩ ⟨rfl, rfl, rfl, congrArg (fun z => some (WB 111 z)) (by rw [dgs_length, wv_dgs _ _ hDl, half_pow hj0]), trivial⟩⟩
  ·have hb4_ := of_decide_eq_false hb4
   have hj0 : j = 0 := by omega
   subst hj0
   have hfin := hD.done
   refine AWp_exit<|AWp_freezeW (t := 9) rfl rfl ?_
   refine AWp_freezeW (t := 7) rfl rfl ?_
   refine AWp_sr hP<|RK.M rfl<|RK.M rfl<|RK.V (op_build_st hT rfl rfl rfl (es := [_, _]) rfl) ?_
   refine RK.S hT rfl rfl rfl rfl rfl rfl rfl<|RK.D<|AWp_ret ?_
   refine ends_one rfl (.inr rfl) (res_cell_agg hT rfl rfl rfl rfl (cs := [_, _]) rfl rfl) ?_ O_ends
   exact div_full hsm hnn hN hfin
end Go.Proofs.YtpaifigafaijpaaGreatDoor
end
section
namespace Go.Proofs.YtpaifigafaijpaaGreatDoor
open Go Go.AM
theorem r_madeQ (neg : Bool) (a b : Nat) (hb : 0 < b) : Call0 Tryz.prog 70 [B neg, .p (.c (W (qL a b)))] (I (sg neg (a / b))) := by
 have h := r_made neg (qL a b) qL_ok
 rwa [qL_val hb] at h
theorem r_madeR (neg : Bool) (a b : Nat) : Call0 Tryz.prog 70 [B neg, .p (.c (W (rL a b)))] (I (sg neg (a % b))) := by
 have h := r_made neg (rL a b) rL_ok
 rwa [rL_val] at h
theorem r_DivMod (x y : Int) (hx : L 44 x) (hy : L 44 y) (h0 : y ≠ 0) :
  Call0 Tryz.prog 188 [I x, I y] (.t [PI (x / y), PI (x % y), PE 0]) := by
 have hq : L 44 (sg (!(decide (x < 0) == decide (y < 0))) (x.natAbs / y.natAbs)) := L.of_le hx (by rw [sg_abs]; exact Nat.div_le_self _ _)
 have hr : L 44 (sg (decide (x < 0)) (x.natAbs % y.natAbs)) := L.of_le hx (by rw [sg_abs]; exact Nat.mod_le _ _)
 have iq : LB _ 44 := ⟨hq⟩
 have ir : LB _ 44 := ⟨hr⟩
 have iy : LB y 44 := ⟨hy⟩
 refine callM_of (np := 0) Tryz.func188 (by kernel_rfl) rfl rfl (Nat.le_of_ble_eq_true rfl) (fun m h => absurd rfl h) (fun m h => absurd rfl h) rfl ?_
 refine AWp_sr hP<|RK.alc guard_none (op_box rfl rfl)<|RK.alc guard_none (op_box rfl rfl)<|RK.alc guard_none (op_alloc hT rfl rfl)<|RK.alc guard_none (op_alloc hT rfl rfl)<|RK.As rfl<|RK.D<|AWp_seq<|AWp_sr hP<|RK.F hT rfl rfl rfl rfl rfl rfl<|RK.V (op_load_one hT rfl rfl rfl rfl (by first | rfl | exact vget (by omega))) ?_
 refine RK.V (op_len hT rfl rfl rfl rfl)<|RK.V (op_eql rfl rfl) ?_
 refine RK.D ?_
 refine AWp_cond rfl (fun hb1 => ?_) (fun hb1 => ?_)
 ·have hb1_ := bT hb1
  exact absurd (wl_len_zero.1 hb1_) h0
 ·have hb1_ := bF hb1
  refine AWp_skip<|AWp_sr hP<|RK.F hT rfl rfl rfl rfl rfl rfl<|RK.V (op_load_one hT rfl rfl rfl rfl (by first | rfl | exact vget (by omega))) ?_
  refine RK.F hT rfl rfl rfl rfl rfl rfl<|RK.V (op_load_one hT rfl rfl rfl rfl (by first | rfl | exact vget (by omega))) ?_
  refine RK.V (Eff.call0 (r_divide x.natAbs y.natAbs (sz (hx.mono (by decide))) (sz (hy.mono (by decide))) (by omega))) ?_
  refine RK.alc guard_none (op_alloc hT rfl rfl)<|RK.S hT rfl rfl rfl rfl rfl rfl rfl<|RK.D<|AWp_sr hP<|RK.F hT rfl rfl rfl rfl rfl rfl<|RK.V (op_load_one hT rfl rfl rfl rfl (by first | rfl | exact vget (by omega))) ?_
  refine RK.F hT rfl rfl rfl rfl rfl rfl<|RK.V (op_load_one hT rfl rfl rfl rfl (by first | rfl | exact vget (by omega))) ?_
  refine RK.V (op_bne hT rfl rfl rfl rfl) ?_
  refine RK.F hT rfl rfl rfl rfl rfl rfl<|RK.V (op_load_one hT rfl rfl rfl rfl (by first | rfl | exact vget (by omega))) ?_
  refine RK.V (Eff.call0 (r_madeQ _ _ _ (by omega))) ?_
  refine RK.alc guard_none (op_alloc hT rfl rfl)<|RK.S hT rfl rfl rfl rfl rfl rfl rfl<|RK.D<|AWp_sr hP<|RK.F hT rfl rfl rfl rfl rfl rfl<|RK.V (op_load_one hT rfl rfl rfl rfl (by first | rfl | exact vget (by omega))) ?_
  refine RK.F hT rfl rfl rfl rfl rfl rfl<|RK.V (op_load_one hT rfl rfl rfl rfl (by first | rfl | exact vget (by omega))) ?_
  refine RK.V (Eff.call0 (r_madeR _ _ _)) ?_
  refine RK.alc guard_none (op_alloc hT rfl rfl)<|RK.S hT rfl rfl rfl rfl rfl rfl rfl<|RK.D<|AWp_seq<|AWp_sr hP<|RK.F hT rfl rfl rfl rfl rfl rfl<|RK.V (op_load_one hT rfl rfl rfl rfl (by first | rfl | exact vget (by omega))) ?_
  refine RK.D ?_
  refine AWp_cond rfl (fun hb2 => ?_) (fun hb2 => ?_)
  ·have e1 := (divmod_neg h0 (of_decide_eq_true hb2)).1
   have e2 := (divmod_neg h0 (of_decide_eq_true hb2)).2
   refine AWp_sr hP<|RK.G2 hT rfl rfl rfl rfl rfl rfl<|RK.G2 hT rfl rfl rfl rfl rfl rfl<|RK.V (Eff.call0 (r_Abs _)) ?_
   refine RK.V (Eff.call0 (r_Add _ _ lz lz)) ?_
   refine RK.S hT rfl rfl rfl rfl rfl rfl rfl<|RK.D<|AWp_sr hP<|RK.F hT rfl rfl rfl rfl rfl rfl<|RK.V (op_load_one hT rfl rfl rfl rfl (by first | rfl | exact vget (by omega))) ?_
   refine RK.D ?_
   refine AWp_cond rfl (fun hb3 => ?_) (fun hb3 => ?_)
   ·rw [sgn_neg hb3] at e1
    refine AWp_region hP<|RK.G2 hT rfl rfl rfl rfl rfl rfl<|RK.V (Eff.call0 (r_Of _ (by first | assumption | decide))) ?_
    refine RK.V (Eff.call0 (r_Add _ _ lz lz)) ?_
    refine RK.S hT rfl rfl rfl rfl rfl rfl rfl<|RK.D<|AWp_sr hP<|RK.G2 hT rfl rfl rfl rfl rfl rfl<|RK.G2 hT rfl rfl rfl rfl rfl rfl<|RK.S hT rfl rfl rfl rfl rfl rfl rfl<|RK.S hT rfl rfl rfl rfl rfl rfl rfl<|RK.As rfl<|RK.D<|AWp_ret ?_
    refine ends_three rfl (.inr rfl) (res_cell_agg hT rfl rfl rfl rfl (cs := [_, _]) rfl rfl) (res_cell_agg hT rfl rfl rfl rfl (cs := [_, _]) rfl rfl) (res_tmp rfl) ?_ O_ends
    exact Sub.of_eq (by rw [← e1, e2]; rfl)
   ·rw [sgn_pos h0 hb3] at e1
    refine AWp_region hP<|RK.G2 hT rfl rfl rfl rfl rfl rfl<|RK.V (Eff.call0 (r_Of _ (by first | assumption | decide))) ?_
    refine RK.V (Eff.call0 (r_Sub _ _ lz lz)) ?_
    refine RK.S hT rfl rfl rfl rfl rfl rfl rfl<|RK.D<|AWp_sr hP<|RK.G2 hT rfl rfl rfl rfl rfl rfl<|RK.G2 hT rfl rfl rfl rfl rfl rfl<|RK.S hT rfl rfl rfl rfl rfl rfl rfl<|RK.S hT rfl rfl rfl rfl rfl rfl rfl<|RK.As rfl<|RK.D<|AWp_ret ?_
    refine ends_three rfl (.inr rfl) (res_cell_agg hT rfl rfl rfl rfl (cs := [_, _]) rfl rfl) (res_cell_agg hT rfl rfl rfl rfl (cs := [_, _]) rfl rfl) (res_tmp rfl) ?_ O_ends
    exact Sub.of_eq (by rw [← e1, e2])
  ·have e1 := (divmod_pos h0 (of_decide_eq_false hb2)).1
   have e2 := (divmod_pos h0 (of_decide_eq_false hb2)).2
   refine AWp_skip<|AWp_sr hP<|RK.G2 hT rfl rfl rfl rfl rfl rfl<|RK.G2 hT rfl rfl rfl rfl rfl rfl<|RK.S hT rfl rfl rfl rfl rfl rfl rfl<|RK.S hT rfl rfl rfl rfl rfl rfl rfl<|RK.As rfl<|RK.D<|AWp_ret ?_
   refine ends_three rfl (.inr rfl) (res_cell_agg hT rfl rfl rfl rfl (cs := [_, _]) rfl rfl) (res_cell_agg hT rfl rfl rfl rfl (cs := [_, _]) rfl rfl) (res_tmp rfl) ?_ O_ends
   exact Sub.of_eq (by rw [e1, e2])
theorem r_Div (x y : Int) (hx : L 44 x) (hy : L 44 y) (h0 : y ≠ 0) :
  Call0 Tryz.prog 144 [I x, I y] (I (x / y)) := by
 refine callM_of (np := 0) Tryz.func144 (by kernel_rfl) rfl rfl (Nat.le_of_ble_eq_true rfl) (fun m h => absurd rfl h) (fun m h => absurd rfl h) rfl ?_
 refine AWp_sr hP<|RK.alc guard_none (op_box rfl rfl)<|RK.alc guard_none (op_box rfl rfl)<|RK.alc guard_none (op_alloc hT rfl rfl)<|RK.D<|AWp_sr hP<|RK.G2 hT rfl rfl rfl rfl rfl rfl<|RK.G2 hT rfl rfl rfl rfl rfl rfl<|RK.V (Eff.call0 (r_DivMod x y hx hy h0)) ?_
 refine RK.V (op_move (rfl : _ = AV.t _))<|RK.V (op_extract rfl (v := .a _) rfl)<|RK.V (op_extract rfl (v := .a _) rfl)<|RK.V (op_extract rfl (v := .c _) rfl)<|RK.alc guard_none (op_alloc hT rfl rfl)<|RK.alc guard_none (op_alloc hT rfl rfl)<|RK.S hT rfl rfl rfl rfl rfl rfl rfl<|RK.S hT rfl rfl rfl rfl rfl rfl rfl<|RK.As rfl<|RK.D<|AWp_sr hP<|RK.G2 hT rfl rfl rfl rfl rfl rfl<|RK.S hT rfl rfl rfl rfl rfl rfl rfl<|RK.D<|AWp_ret ?_
 refine ends_one rfl (.inr rfl) (res_cell_agg hT rfl rfl rfl rfl (cs := [_, _]) rfl rfl) ?_ O_ends
 exact .refl _
theorem r_Mod (x y : Int) (hx : L 44 x) (hy : L 44 y) (h0 : y ≠ 0) :
  Call0 Tryz.prog 143 [I x, I y] (I (x % y)) := by
 refine callM_of (np := 0) Tryz.func143 (by kernel_rfl) rfl rfl (Nat.le_of_ble_eq_true rfl) (fun m h => absurd rfl h) (fun m h => absurd rfl h) rfl ?_
 refine AWp_sr hP<|RK.alc guard_none (op_box rfl rfl)<|RK.alc guard_none (op_box rfl rfl)<|RK.alc guard_none (op_alloc hT rfl rfl)<|RK.D<|AWp_sr hP<|RK.G2 hT rfl rfl rfl rfl rfl rfl<|RK.G2 hT rfl rfl rfl rfl rfl rfl<|RK.V (Eff.call0 (r_DivMod x y hx hy h0)) ?_
 refine RK.V (op_move (rfl : _ = AV.t _))<|RK.V (op_extract rfl (v := .a _) rfl)<|RK.V (op_extract rfl (v := .a _) rfl)<|RK.V (op_extract rfl (v := .c _) rfl)<|RK.alc guard_none (op_alloc hT rfl rfl)<|RK.alc guard_none (op_alloc hT rfl rfl)<|RK.S hT rfl rfl rfl rfl rfl rfl rfl<|RK.S hT rfl rfl rfl rfl rfl rfl rfl<|RK.As rfl<|RK.D<|AWp_sr hP<|RK.G2 hT rfl rfl rfl rfl rfl rfl<|RK.S hT rfl rfl rfl rfl rfl rfl rfl<|RK.D<|AWp_ret ?_
 refine ends_one rfl (.inr rfl) (res_cell_agg hT rfl rfl rfl rfl (cs := [_, _]) rfl rfl) ?_ O_ends
 exact .refl _
theorem r_Gcd (x y : Int) (hx : L 44 x) (hy : L 44 y) :
  Call0 Tryz.prog 103 [I x, I y] (I (Int.gcd x y)) := by
 refine callM_of (np := 0) Tryz.func103 (by kernel_rfl) rfl rfl (Nat.le_of_ble_eq_true rfl) (fun m h => absurd rfl h) (fun m h => absurd rfl h) rfl ?_
 refine AWp_sr hP<|RK.alc guard_none (op_box rfl rfl)<|RK.alc guard_none (op_box rfl rfl)<|RK.alc guard_none (op_alloc hT rfl rfl)<|RK.D<|AWp_sr hP<|RK.G2 hT rfl rfl rfl rfl rfl rfl<|RK.V (Eff.call0 (r_Abs _)) ?_
 refine RK.S hT rfl rfl rfl rfl rfl rfl rfl<|RK.D<|AWp_sr hP<|RK.G2 hT rfl rfl rfl rfl rfl rfl<|RK.V (Eff.call0 (r_Abs _)) ?_
 refine RK.S hT rfl rfl rfl rfl rfl rfl rfl<|RK.D<|AWp_seq<|AWp_block<|AWp_loop (ι := Int × Int) (fun p => stL [(2, .loc 2 0), (3, .loc 3 0), (4, .loc 4 0)] [(2, ⟨false, 1, 36, [zn (p.1), zm (p.1)]⟩), (3, ⟨false, 1, 36, [zn (p.2), zm (p.2)]⟩), (4, ⟨false, 1, 36, [zn (0), zm (0)]⟩)]) (fun p => L 44 p.1 ∧ L 44 p.2 ∧ 0 ≤ p.1 ∧ 0 ≤ p.2 ∧ Int.gcd p.1 p.2 = Int.gcd x y) (fun p => p.2.natAbs) ((x.natAbs : Int), (y.natAbs : Int)) ⟨hx.abs, hy.abs, Int.natCast_nonneg _, Int.natCast_nonneg _, by simp [Int.gcd]⟩ (le_stL ⟨.refl _, .refl _, .refl _, trivial⟩ ⟨rfl, rfl, rfl, trivial⟩) ?_
 rintro ⟨a, b⟩ ⟨ha, hb, ha0, hb0, hg⟩
 refine AWp_seq<|AWp_sr hP<|RK.F hT rfl rfl rfl rfl rfl rfl<|RK.V (op_load_one hT rfl rfl rfl rfl (by first | rfl | exact vget (by omega))) ?_
 refine RK.V (op_len hT rfl rfl rfl rfl)<|RK.V (op_gtr rfl rfl) ?_
 refine RK.D ?_
 refine AWp_cond rfl (fun hb1 => ?_) (fun hb1 => ?_)
 ·have hb1_ := of_decide_eq_true hb1
  have h0 : b ≠ 0 := fun e => by
   have e2 : 0 < ((wl b.natAbs).length : Int) := hb1_
   rw [e] at e2; exact absurd e2 (by decide)
  refine AWp_skip<|AWp_block<|AWp_sr hP<|RK.G2 hT rfl rfl rfl rfl rfl rfl<|RK.G2 hT rfl rfl rfl rfl rfl rfl<|RK.V (Eff.call0 (r_Mod a b ha hb h0)) ?_
  refine RK.alc guard_none (op_alloc hT rfl rfl)<|RK.S hT rfl rfl rfl rfl rfl rfl rfl<|RK.D<|AWp_sr hP<|RK.G2 hT rfl rfl rfl rfl rfl rfl<|RK.S hT rfl rfl rfl rfl rfl rfl rfl<|RK.D<|AWp_region hP<|RK.G2 hT rfl rfl rfl rfl rfl rfl<|RK.S hT rfl rfl rfl rfl rfl rfl rfl<|RK.D ?_
  refine ⟨(b, a % b), ⟨hb, (ha.emod hb).mono (by decide), hb0, Int.emod_nonneg a h0, ?_⟩, ?_, le_stL ⟨.refl _, .refl _, .refl _, trivial⟩ ⟨rfl, rfl, rfl, trivial⟩⟩
  ·rw [← hg]; exact gcd_step a b
  ·have h1 := Int.emod_nonneg a h0
   have h2 := Int.emod_lt a h0
   show (a % b).natAbs < b.natAbs
   omega
 ·have hb1_ := of_decide_eq_false hb1
  refine AWp_exit<|AWp_sr hP<|RK.G2 hT rfl rfl rfl rfl rfl rfl<|RK.S hT rfl rfl rfl rfl rfl rfl rfl<|RK.D<|AWp_ret ?_
  refine ends_one rfl (.inr rfl) (res_cell_agg hT rfl rfl rfl rfl (cs := [_, _]) rfl rfl) ?_ O_ends
  have h0 : b = 0 := by
   have e2 : ¬ 0 < ((wl b.natAbs).length : Int) := hb1_
   have : ((wl b.natAbs).length : Int) = 0 := by omega
   exact wl_len_zero.1 this
  exact Sub.I (by rw [← hg, h0]; simp; omega)
theorem r_Sqrt (x : Int) (hx : L 40 x) :
  Call0 Tryz.prog 221 [I x] (.t [PI (rootV x), PI (if x < 0 then 0 else x - rootV x * rootV x), PE (rootE x)]) := by
 have hbl := blen_L hx
 have ix : LB x 40 := ⟨hx⟩
 refine callM_of (np := 0) Tryz.func221 (by kernel_rfl) rfl rfl (Nat.le_of_ble_eq_true rfl) (fun m h => absurd rfl h) (fun m h => absurd rfl h) rfl ?_
 refine AWp_sr hP<|RK.alc guard_none (op_box rfl rfl)<|RK.alc guard_none (op_alloc hT rfl rfl)<|RK.alc guard_none (op_alloc hT rfl rfl)<|RK.As rfl<|RK.D<|AWp_seq<|AWp_sr hP<|RK.F hT rfl rfl rfl rfl rfl rfl<|RK.V (op_load_one hT rfl rfl rfl rfl (by first | rfl | exact vget (by omega))) ?_
 refine RK.D ?_
 refine AWp_cond rfl (fun hb1 => ?_) (fun hb1 => ?_)
 ·have hx0 := of_decide_eq_true hb1
  refine AWp_sr hP<|RK.V (op_build_st hT rfl rfl rfl (es := [_, _]) rfl) ?_
  refine RK.V (op_build_st hT rfl rfl rfl (es := [_, _]) rfl) ?_
  refine RK.S hT rfl rfl rfl rfl rfl rfl rfl<|RK.S hT rfl rfl rfl rfl rfl rfl rfl<|RK.As rfl<|RK.D<|AWp_ret ?_
  refine ends_three rfl (.inr rfl) (res_cell_agg hT rfl rfl rfl rfl (cs := [_, _]) rfl rfl) (res_cell_agg hT rfl rfl rfl rfl (cs := [_, _]) rfl rfl) (res_tmp rfl) ?_ O_ends
  exact Sub.of_eq (by rw [(root_neg hx0).1, (root_neg hx0).2, if_pos hx0])
 ·have hx0 := of_decide_eq_false hb1
  refine AWp_skip<|AWp_seq<|AWp_sr hP<|RK.F hT rfl rfl rfl rfl rfl rfl<|RK.V (op_load_one hT rfl rfl rfl rfl (by first | rfl | exact vget (by omega))) ?_
  refine RK.V (op_len hT rfl rfl rfl rfl)<|RK.V (op_eql rfl rfl) ?_
  refine RK.D ?_
  refine AWp_cond rfl (fun hb2 => ?_) (fun hb2 => ?_)
  ·have hb2_ := bT hb2
   have hz := wl_len_zero.1 hb2_
   refine AWp_sr hP<|RK.V (op_build_st hT rfl rfl rfl (es := [_, _]) rfl) ?_
   refine RK.V (op_build_st hT rfl rfl rfl (es := [_, _]) rfl) ?_
   refine RK.S hT rfl rfl rfl rfl rfl rfl rfl<|RK.S hT rfl rfl rfl rfl rfl rfl rfl<|RK.As rfl<|RK.D<|AWp_ret ?_
   refine ends_three rfl (.inr rfl) (res_cell_agg hT rfl rfl rfl rfl (cs := [_, _]) rfl rfl) (res_cell_agg hT rfl rfl rfl rfl (cs := [_, _]) rfl rfl) (res_tmp rfl) ?_ O_ends
   exact Sub.of_eq (by rw [hz]; rfl)
  ·have hb2_ := bF hb2
   have hx1 : 0 < x := by
    rcases Int.lt_trichotomy x 0 with e | e | e
    ·exact absurd e hx0
    ·exact absurd (wl_len_zero.2 e) hb2_
    ·exact e
   refine AWp_skip<|AWp_sr hP<|RK.V (op_bslice hT rfl rfl rfl (es := [_]) rfl rfl rfl) ?_
   refine RK.G2 hT rfl rfl rfl rfl rfl rfl<|RK.V (Eff.call0 (r_Bits x lz)) ?_
   refine RK.V (op_add rfl rfl (c := ((blen x.natAbs + 1 : Nat) : Int)) (by rw [IntWalk.i64_in _ (by omega)]; omega)) ?_
   refine RK.V (op_quo rfl rfl (by decide) (c := (((blen x.natAbs + 1) / 2 : Nat) : Int)) (by rw [Int.tdiv_eq_ediv_of_nonneg (by omega), IntWalk.i64_in _ (by omega)]; omega)) ?_
   refine RK.V (Eff.call0 (r_left [1] ((blen x.natAbs + 1) / 2) okW_one (by decide) (by omega))) ?_
   refine RK.V (Eff.call0 (r_made _ _ (dgs_ok _ _))) ?_
   refine RK.alc guard_none (op_alloc hT rfl rfl)<|RK.S hT rfl rfl rfl rfl rfl rfl rfl<|RK.D<|AWp_block<|AWp_loop (ι := Int) (fun s => stL [(1, .loc 1 0), (2, .loc 2 0), (3, .loc 3 0), (5, .loc 5 0)] [(1, ⟨false, 1, 36, [zn (x), zm (x)]⟩), (2, ⟨false, 1, 36, [zn (0), zm (0)]⟩), (3, ⟨false, 1, 36, [zn (0), zm (0)]⟩), (5, ⟨false, 1, 36, [zn (s), zm (s)]⟩)]) (fun s => 0 < s ∧ rootV x ≤ s ∧ s ≤ 2 * x) (fun s => s.toNat) (2 ^ ((blen x.natAbs + 1) / 2) : Nat) ?_ (le_stL ⟨.refl _, .refl _, .refl _, .refl _, trivial⟩ ⟨rfl, rfl, rfl, ?_, trivial⟩) ?_
   ·exact root_start hx1
   ·exact congrArg (fun z => some (⟨false, 1, 36, [zn z, zm z]⟩ : Blk)) (show sg false (wv (dgs _ _)) = _ by rw [left_one]; rfl)
   intro s hs
   have is : LB s 41 := ⟨L.of_le (b := 2 * x) (lz (by rfl)) (by omega)⟩
   refine AWp_block<|AWp_sr hP<|RK.G2 hT rfl rfl rfl rfl rfl rfl<|RK.G2 hT rfl rfl rfl rfl rfl rfl<|RK.G2 hT rfl rfl rfl rfl rfl rfl<|RK.V (Eff.call0 (r_Div x s lz lz (by omega))) ?_
   refine RK.V (Eff.call0 (r_Add _ _ lz lz)) ?_
   refine RK.V (Eff.call0 (r_Of _ (by first | assumption | decide))) ?_
   refine RK.V (Eff.call0 (r_Div _ 2 lz lz (by decide))) ?_
   refine RK.alc guard_none (op_alloc hT rfl rfl)<|RK.S hT rfl rfl rfl rfl rfl rfl rfl<|RK.D<|AWp_seq<|AWp_sr hP<|RK.G2 hT rfl rfl rfl rfl rfl rfl<|RK.G2 hT rfl rfl rfl rfl rfl rfl<|RK.V (Eff.call0 (r_Cmp _ _)) ?_
   refine RK.V (op_geq rfl rfl) ?_
   refine RK.D ?_
   refine AWp_cond rfl (fun hb3 => ?_) (fun hb3 => ?_)
   ·have hb3_ := of_decide_eq_true hb3
    have hge := cmpI_nonneg hb3_
    refine AWp_sr hP<|RK.G2 hT rfl rfl rfl rfl rfl rfl<|RK.G2 hT rfl rfl rfl rfl rfl rfl<|RK.G2 hT rfl rfl rfl rfl rfl rfl<|RK.G2 hT rfl rfl rfl rfl rfl rfl<|RK.V (Eff.call0 (r_Mul _ _ lz lz)) ?_
    refine RK.V (Eff.call0 (r_Sub _ _ lz lz)) ?_
    refine RK.S hT rfl rfl rfl rfl rfl rfl rfl<|RK.S hT rfl rfl rfl rfl rfl rfl rfl<|RK.As rfl<|RK.D<|AWp_ret ?_
    refine ends_three rfl (.inr rfl) (res_cell_agg hT rfl rfl rfl rfl (cs := [_, _]) rfl rfl) (res_cell_agg hT rfl rfl rfl rfl (cs := [_, _]) rfl rfl) (res_tmp rfl) ?_ O_ends
    have e := root_stop' hx1 hs.1 hs.2.1 hge
    exact Sub.of_eq (by rw [e, rootE_nn hx0, if_neg hx0])
   ·have hb3_ := of_decide_eq_false hb3
    have hge := cmpI_negative hb3_
    refine AWp_skip<|AWp_region hP<|RK.G2 hT rfl rfl rfl rfl rfl rfl<|RK.S hT rfl rfl rfl rfl rfl rfl rfl<|RK.D ?_
    refine ⟨(s + x / s) / 2, ⟨(root_step' hx1 hs.1).2, (root_step' hx1 hs.1).1, Int.le_trans (Int.le_of_lt hge) hs.2.2⟩, ?_, le_stL ⟨.refl _, .refl _, .refl _, .refl _, trivial⟩ ⟨rfl, rfl, rfl, rfl, trivial⟩⟩
    have h3 := (root_step' hx1 hs.1).2
    show ((s + x / s) / 2).toNat < s.toNat
    omega
theorem r_Made (neg : Bool) (ws : List Nat) (k : Nat) (hw : okW ws) (hk : k ≤ 1000) :
  Call0 Tryz.prog 16 [.p (.a [.v (.bool neg), W ws]), Z (k : Int)] (I (sg neg (wv (ws.take k)))) := by
 refine callM_of (np := 0) Tryz.func16 (by kernel_rfl) rfl rfl (Nat.le_of_ble_eq_true rfl) (fun m h => absurd rfl h) (fun m h => absurd rfl h) rfl ?_
 refine AWp_sr hP<|RK.alc guard_none (op_box rfl rfl)<|RK.alc guard_none (op_alloc hT rfl rfl)<|RK.D<|AWp_sr hP<|RK.F hT rfl rfl rfl rfl rfl rfl<|RK.V (op_load_one hT rfl rfl rfl rfl (by first | rfl | exact vget (by omega))) ?_
 refine RK.alc guard_none (op_bslice_vecW hT rfl rfl rfl rfl (ws := []) rfl rfl rfl) ?_
 refine RK.F hT rfl rfl rfl rfl rfl rfl<|RK.V (op_load_one hT rfl rfl rfl rfl (by first | rfl | exact vget (by omega))) ?_
 refine RK.F hT rfl rfl rfl rfl rfl rfl<|RK.V (op_load_one hT rfl rfl rfl rfl (by first | rfl | exact vget (by omega))) ?_
 refine RK.V (op_len hT rfl rfl rfl rfl)<|RK.M rfl<|RK.V (op_min rfl rfl) ?_
 refine RK.V (op_slice_hW hT rfl rfl rfl rfl rfl rfl (by split <;> omega)) ?_
 refine RK.app guard_none (op_appendW hT rfl rfl rfl rfl rfl rfl rfl (xs := ws.take (if (k : Int) < (ws.length : Int) then (k : Int) else (ws.length : Int)).toNat) rfl (by simp only [List.length_nil, List.length_take]; split <;> omega) (by decide)) ?_
 refine RK.mutL guard_none (Eff.give (.same (.vecW rfl .nil)) (r_made _ _ (okW.nil.app (hw.take _))) (by intro m hm; rw [List.mem_singleton.1 hm]; exact fun h => by cases h)) ?_
 refine RK.S hT rfl rfl rfl rfl rfl rfl rfl<|RK.D<|AWp_ret ?_
 refine ends_one rfl (.inr rfl) (res_cell_agg hT rfl rfl rfl rfl (cs := [_, _]) rfl rfl) ?_ O_ends
 exact Sub.I (by rw [List.nil_append, min_take])
end Go.Proofs.YtpaifigafaijpaaGreatDoor
end
section
namespace Go.Proofs.YtpaifigafaijpaaGreatDoor
open Go Go.AM
theorem r_Valid (x : Int) (hx : L 45 x) :
  Call0 Tryz.prog 210 [I x] (B true) := by
 have hlen := sz hx
 refine callM_of (np := 0) Tryz.func210 (by kernel_rfl) rfl rfl (Nat.le_of_ble_eq_true rfl) (fun m h => absurd rfl h) (fun m h => absurd rfl h) rfl ?_
 refine AWp_sr hP<|RK.alc guard_none (op_box rfl rfl)<|RK.As rfl<|RK.D<|AWp_sr hP<|RK.F hT rfl rfl rfl rfl rfl rfl<|RK.V (op_load_one hT rfl rfl rfl rfl (by first | rfl | exact vget (by omega))) ?_
 refine RK.V (op_len hT rfl rfl rfl rfl)<|RK.V (op_eql rfl rfl) ?_
 refine RK.M rfl ?_
 refine RK.split (t := 7) rfl (fun hg1 => ?_) (fun hg1 => ?_)
 ·have hg1_ := bT hg1
  refine RK.val (guard_yes rfl rfl hg1) (op_field_loc hT rfl rfl rfl rfl rfl rfl) ?_
  refine RK.val (guard_yes rfl rfl hg1) (op_load_one hT rfl rfl rfl rfl (by first | rfl | exact vget (by omega))) ?_
  refine RK.val (guard_yes rfl rfl hg1) (op_unot rfl) ?_
  refine RK.V (op_pick_t rfl hg1 (rfl : _ = AV.p (.c _))) ?_
  refine RK.M rfl ?_
  refine RK.split (t := 12) rfl (fun hg2 => ?_) (fun hg2 => ?_)
  ·have hg2_ := (notT hg2)
   refine RK.skip (guard_no rfl rfl hg2) ?_
   refine RK.skip (guard_no rfl rfl hg2) ?_
   refine RK.skip (guard_no rfl rfl hg2) ?_
   refine RK.skip (guard_no rfl rfl hg2) ?_
   refine RK.skip (guard_no rfl rfl hg2) ?_
   refine RK.skip (guard_sk rfl rfl) ?_
   refine RK.skip (guard_sk rfl rfl) ?_
   refine RK.skip (guard_sk rfl rfl) ?_
   refine RK.skip (guard_sk rfl rfl) ?_
   refine RK.skip (guard_sk rfl rfl) ?_
   refine RK.skip (guard_sk rfl rfl) ?_
   refine RK.skip (guard_sk rfl rfl) ?_
   refine RK.skip (guard_sk rfl rfl) ?_
   refine RK.skip (guard_sk rfl rfl) ?_
   refine RK.skip (guard_no rfl rfl hg2) ?_
   refine RK.V (op_pick_t rfl hg2 (rfl : _ = AV.p (.c _))) ?_
   refine RK.As rfl<|RK.D<|AWp_ret ?_
   refine ends_one rfl (.inr rfl) (res_tmp rfl) ?_ O_ends
   exact .refl _
  ·have hg2_ := (notF hg2)
   have h0 := wl_len_zero.1 hg1_
   rw [h0] at hg2
   cases hg2
 ·have hg1_ := bF hg1
  refine RK.skip (guard_no rfl rfl hg1) ?_
  refine RK.skip (guard_no rfl rfl hg1) ?_
  refine RK.skip (guard_no rfl rfl hg1) ?_
  refine RK.V (op_pick_f rfl hg1 (rfl : _ = AV.p (.c _))) ?_
  refine RK.M rfl<|RK.val (guard_yes rfl rfl rfl) (op_field_loc hT rfl rfl rfl rfl rfl rfl) ?_
  refine RK.val (guard_yes rfl rfl rfl) (op_load_one hT rfl rfl rfl rfl (by first | rfl | exact vget (by omega))) ?_
  refine RK.val (guard_yes rfl rfl rfl) (op_len hT rfl rfl rfl rfl) ?_
  refine RK.val (guard_yes rfl rfl rfl) (op_gtr rfl rfl) ?_
  refine RK.val (guard_yes rfl rfl rfl) (op_move (rfl : _ = AV.p (.c _))) ?_
  refine RK.split (t := 17) rfl (fun hg3 => ?_) (fun hg3 => ?_)
  ·have hg3_ := of_decide_eq_true hg3
   refine RK.val (guard_yes rfl rfl hg3) (op_field_loc hT rfl rfl rfl rfl rfl rfl) ?_
   refine RK.val (guard_yes rfl rfl hg3) (op_load_one hT rfl rfl rfl rfl (by first | rfl | exact vget (by omega))) ?_
   refine RK.val (guard_yes rfl rfl hg3) (op_field_loc hT rfl rfl rfl rfl rfl rfl) ?_
   refine RK.val (guard_yes rfl rfl hg3) (op_load_one hT rfl rfl rfl rfl (by first | rfl | exact vget (by omega))) ?_
   refine RK.val (guard_yes rfl rfl hg3) (op_len hT rfl rfl rfl rfl) ?_
   refine RK.val (guard_yes rfl rfl hg3) (op_sub rfl rfl (by first | exact IntWalk.i64_in _ (by omega) | rfl)) ?_
   refine RK.val (guard_yes rfl rfl hg3) (by first | exact op_index_WN hT rfl rfl rfl rfl rfl rfl (by omega) | exact op_index_sl hT rfl rfl rfl rfl rfl rfl (by omega) (by first | exact W_ne (by omega) | simp)) ?_
   refine RK.val (guard_yes rfl rfl hg3) (op_load_ip_one hT rfl rfl rfl (by first | rfl | exact wget (by omega))) ?_
   refine RK.val (guard_yes rfl rfl hg3) (op_neq rfl rfl) ?_
   refine RK.val (guard_yes rfl rfl rfl) (op_pick_t rfl hg3 (rfl : _ = AV.p (.c _))) ?_
   refine RK.V (op_pick_f rfl rfl (rfl : _ = AV.p (.c _))) ?_
   refine RK.As rfl<|RK.D<|AWp_ret ?_
   refine ends_one rfl (.inr rfl) (res_tmp rfl) ?_ O_ends
   have h1 : (wl x.natAbs).length ≠ 0 := fun e => hg1_ (by rw [e]; rfl)
   have h2 : (((wl x.natAbs).length : Int) - 1).toNat = (wl x.natAbs).length - 1 := by omega
   rw [h2]
   have h3 := top_ne (k := x.natAbs) (n := (wl x.natAbs).length - 1) (by omega)
   exact Sub.of_eq (by rw [show ((((wl x.natAbs).getD ((wl x.natAbs).length - 1) 0 : Nat) : Int) != 0) = true from bne_iff_ne.2 (by omega)])
  ·have hg3_ := of_decide_eq_false hg3
   exact absurd (show ((wl x.natAbs).length : Int) = 0 by omega) hg1_
theorem r8_Of (a b c : Int) (ha : InI64 a) (hb : InI64 b) (hc : InI64 c) :
  Call0 Tryz.prog 69 [Z a, Z b, Z c] (FA a b c) := by
 refine callM_of (np := 0) Tryz.func69 (by kernel_rfl) rfl rfl (Nat.le_of_ble_eq_true rfl) (fun m h => absurd rfl h) (fun m h => absurd rfl h) rfl ?_
 refine AWp_sr hP<|RK.alc guard_none (op_alloc hT rfl rfl)<|RK.D<|AWp_sr hP<|RK.M rfl<|RK.V (Eff.call0 (r_Of _ (by first | assumption | decide))) ?_
 refine RK.M rfl<|RK.V (Eff.call0 (r_Of _ (by first | assumption | decide))) ?_
 refine RK.M rfl<|RK.V (Eff.call0 (r_Of _ (by first | assumption | decide))) ?_
 refine RK.V (op_build_st hT rfl rfl rfl (es := [_, _, _, _, _, _]) rfl) ?_
 refine RK.S hT rfl rfl rfl rfl rfl rfl rfl<|RK.D<|AWp_ret ?_
 refine ends_one rfl (.inr rfl) (res_cell_agg hT rfl rfl rfl rfl (cs := [_, _, _, _, _, _]) rfl rfl) ?_ O_ends
 exact .refl _
theorem r8_Matrix (a b c d : Int) (ha : InI64 a) (hb : InI64 b) (hc : InI64 c) (hd : InI64 d) :
  Call0 Tryz.prog 137 [Z a, Z b, Z c, Z d] (MA a b c d) := by
 refine callM_of (np := 0) Tryz.func137 (by kernel_rfl) rfl rfl (Nat.le_of_ble_eq_true rfl) (fun m h => absurd rfl h) (fun m h => absurd rfl h) rfl ?_
 refine AWp_sr hP<|RK.alc guard_none (op_alloc hT rfl rfl)<|RK.D<|AWp_sr hP<|RK.M rfl<|RK.V (Eff.call0 (r_Of _ (by first | assumption | decide))) ?_
 refine RK.M rfl<|RK.V (Eff.call0 (r_Of _ (by first | assumption | decide))) ?_
 refine RK.M rfl<|RK.V (Eff.call0 (r_Of _ (by first | assumption | decide))) ?_
 refine RK.M rfl<|RK.V (Eff.call0 (r_Of _ (by first | assumption | decide))) ?_
 refine RK.V (op_build_st hT rfl rfl rfl (es := [_, _, _, _, _, _, _, _]) rfl) ?_
 refine RK.S hT rfl rfl rfl rfl rfl rfl rfl<|RK.D<|AWp_ret ?_
 refine ends_one rfl (.inr rfl) (res_cell_agg hT rfl rfl rfl rfl (cs := [_, _, _, _, _, _, _, _]) rfl rfl) ?_ O_ends
 exact .refl _
theorem r8_sum (a b c d : Int) (ha : L 40 a) (hb : L 40 b) (hc : L 40 c) (hd : L 40 d) :
  Call0 Tryz.prog 156 [I a, I b, I c, I d] (I (a * b + c * d)) := by
 have ia : LB a 40 := ⟨ha⟩
 have ib : LB b 40 := ⟨hb⟩
 have ic : LB c 40 := ⟨hc⟩
 have id : LB d 40 := ⟨hd⟩
 refine callM_of (np := 0) Tryz.func156 (by kernel_rfl) rfl rfl (Nat.le_of_ble_eq_true rfl) (fun m h => absurd rfl h) (fun m h => absurd rfl h) rfl ?_
 refine AWp_sr hP<|RK.alc guard_none (op_box rfl rfl)<|RK.alc guard_none (op_box rfl rfl)<|RK.alc guard_none (op_box rfl rfl)<|RK.alc guard_none (op_box rfl rfl)<|RK.alc guard_none (op_alloc hT rfl rfl)<|RK.D<|AWp_sr hP<|RK.G2 hT rfl rfl rfl rfl rfl rfl<|RK.G2 hT rfl rfl rfl rfl rfl rfl<|RK.V (Eff.call0 (r_Mul _ _ lz lz)) ?_
 refine RK.G2 hT rfl rfl rfl rfl rfl rfl<|RK.G2 hT rfl rfl rfl rfl rfl rfl<|RK.V (Eff.call0 (r_Mul _ _ lz lz)) ?_
 refine RK.V (Eff.call0 (r_Add _ _ lz lz)) ?_
 refine RK.S hT rfl rfl rfl rfl rfl rfl rfl<|RK.D<|AWp_ret ?_
 refine ends_one rfl (.inr rfl) (res_cell_agg hT rfl rfl rfl rfl (cs := [_, _]) rfl rfl) ?_ O_ends
 exact .refl _
theorem r8_Disc (a b c : Int) (ha : L 34 a) (hb : L 34 b) (hc : L 34 c) :
  Call0 Tryz.prog 97 [FA a b c] (I (dsc a b c)) := by
 have ia : LB a 34 := ⟨ha⟩
 have ib : LB b 34 := ⟨hb⟩
 have ic : LB c 34 := ⟨hc⟩
 refine callM_of (np := 0) Tryz.func97 (by kernel_rfl) rfl rfl (Nat.le_of_ble_eq_true rfl) (fun m h => absurd rfl h) (fun m h => absurd rfl h) rfl ?_
 refine AWp_sr hP<|RK.alc guard_none (op_box rfl rfl)<|RK.alc guard_none (op_alloc hT rfl rfl)<|RK.D<|AWp_sr hP<|RK.F hT rfl rfl rfl rfl rfl rfl<|RK.G2 hT rfl rfl rfl rfl rfl rfl<|RK.F hT rfl rfl rfl rfl rfl rfl<|RK.G2 hT rfl rfl rfl rfl rfl rfl<|RK.V (Eff.call0 (r_Of _ (by first | assumption | decide))) ?_
 refine RK.F hT rfl rfl rfl rfl rfl rfl<|RK.G2 hT rfl rfl rfl rfl rfl rfl<|RK.V (Eff.call0 (r_Mul _ _ lz lz)) ?_
 refine RK.F hT rfl rfl rfl rfl rfl rfl<|RK.G2 hT rfl rfl rfl rfl rfl rfl<|RK.V (Eff.call0 (r8_sum _ _ _ _ lz lz lz lz)) ?_
 refine RK.S hT rfl rfl rfl rfl rfl rfl rfl<|RK.D<|AWp_ret ?_
 refine ends_one rfl (.inr rfl) (res_cell_agg hT rfl rfl rfl rfl (cs := [_, _]) rfl rfl) ?_ O_ends
 exact Sub.I (r_dsc a b c)
theorem r8_Square (x : Int) (hx : L 40 x) :
  Call0 Tryz.prog 187 [I x] (B (isSq x)) := by
 have ix : LB x 40 := ⟨hx⟩
 refine callM_of (np := 0) Tryz.func187 (by kernel_rfl) rfl rfl (Nat.le_of_ble_eq_true rfl) (fun m h => absurd rfl h) (fun m h => absurd rfl h) rfl ?_
 refine AWp_sr hP<|RK.alc guard_none (op_box rfl rfl)<|RK.As rfl<|RK.D<|AWp_seq<|AWp_sr hP<|RK.G2 hT rfl rfl rfl rfl rfl rfl<|RK.V (Eff.call0 (r_Sign _)) ?_
 refine RK.V (op_lss rfl rfl)<|RK.D ?_
 refine AWp_cond rfl (fun hb1 => ?_) (fun hb1 => ?_)
 ·have hb1_ := of_decide_eq_true hb1
  refine AWp_sr hP<|RK.As rfl<|RK.D<|AWp_ret ?_
  refine ends_one rfl (.inr rfl) (res_tmp rfl) ?_ O_ends
  exact Sub.bool (r_isSq_neg hb1_)
 ·have hb1_ := of_decide_eq_false hb1
  refine AWp_skip<|AWp_sr hP<|RK.G2 hT rfl rfl rfl rfl rfl rfl<|RK.V (Eff.call0 (r_Sqrt _ lz)) ?_
  refine RK.V (op_move (rfl : _ = AV.t _))<|RK.V (op_extract rfl (v := .a _) rfl)<|RK.V (op_extract rfl (v := .a _) rfl)<|RK.V (op_extract rfl (v := .c _) rfl)<|RK.alc guard_none (op_alloc hT rfl rfl)<|RK.alc guard_none (op_alloc hT rfl rfl)<|RK.S hT rfl rfl rfl rfl rfl rfl rfl<|RK.S hT rfl rfl rfl rfl rfl rfl rfl<|RK.As rfl<|RK.D<|AWp_sr hP<|RK.G2 hT rfl rfl rfl rfl rfl rfl<|RK.V (Eff.call0 (r_Sign _)) ?_
  refine RK.V (op_eql rfl rfl) ?_
  refine RK.As rfl<|RK.D<|AWp_ret ?_
  refine ends_one rfl (.inr rfl) (res_tmp rfl) ?_ O_ends
  exact Sub.bool (r_isSq hb1_)
theorem r8_Check (a b c : Int) (ha : L 34 a) (hb : L 34 b) (hc : L 34 c) :
  Call0 Tryz.prog 158 [FA a b c] (Z (ck a b c)) := by
 have ia : LB a 34 := ⟨ha⟩
 have ib : LB b 34 := ⟨hb⟩
 have ic : LB c 34 := ⟨hc⟩
 refine callM_of (np := 0) Tryz.func158 (by kernel_rfl) rfl rfl (Nat.le_of_ble_eq_true rfl) (fun m h => absurd rfl h) (fun m h => absurd rfl h) rfl ?_
 refine AWp_sr hP<|RK.alc guard_none (op_box rfl rfl)<|RK.As rfl<|RK.D<|AWp_seq<|AWp_sr hP<|RK.F hT rfl rfl rfl rfl rfl rfl<|RK.G2 hT rfl rfl rfl rfl rfl rfl<|RK.V (Eff.call0 (r_Valid _ lz)) ?_
 refine RK.V (op_unot rfl) ?_
 refine RK.M rfl<|RK.val (guard_yes rfl rfl rfl) (op_field_loc hT rfl rfl rfl rfl rfl rfl) ?_
 refine RK.val (guard_yes rfl rfl rfl) (op_load_agg hT rfl rfl rfl rfl (cs := [_, _]) rfl rfl) ?_
 refine RK.val (guard_yes rfl rfl rfl) (Eff.call0 (r_Valid _ lz)) ?_
 refine RK.val (guard_yes rfl rfl rfl) (op_unot rfl) ?_
 refine RK.V (op_pick_f rfl rfl (rfl : _ = AV.p (.c _))) ?_
 refine RK.M rfl<|RK.val (guard_yes rfl rfl rfl) (op_field_loc hT rfl rfl rfl rfl rfl rfl) ?_
 refine RK.val (guard_yes rfl rfl rfl) (op_load_agg hT rfl rfl rfl rfl (cs := [_, _]) rfl rfl) ?_
 refine RK.val (guard_yes rfl rfl rfl) (Eff.call0 (r_Valid _ lz)) ?_
 refine RK.val (guard_yes rfl rfl rfl) (op_unot rfl) ?_
 refine RK.V (op_pick_f rfl rfl (rfl : _ = AV.p (.c _))) ?_
 refine RK.D<|AWp_cond_false rfl rfl ?_
 refine AWp_skip<|AWp_sr hP<|RK.G6 hT rfl rfl rfl rfl rfl rfl<|RK.V (Eff.call0 (r8_Disc _ _ _ lz lz lz)) ?_
 refine RK.alc guard_none (op_alloc hT rfl rfl)<|RK.S hT rfl rfl rfl rfl rfl rfl rfl<|RK.D<|AWp_seq<|AWp_sr hP<|RK.G2 hT rfl rfl rfl rfl rfl rfl<|RK.V (Eff.call0 (r8_Square _ lz)) ?_
 refine RK.D ?_
 refine AWp_cond rfl (fun hb3 => ?_) (fun hb3 => ?_)
 ·refine AWp_sr hP<|RK.As rfl<|RK.D<|AWp_ret ?_
  refine ends_one rfl (.inr rfl) (res_tmp rfl) ?_ O_ends
  exact Sub.int (ck_sq hb3)
 ·refine AWp_skip<|AWp_seq<|AWp_sr hP<|RK.G2 hT rfl rfl rfl rfl rfl rfl<|RK.V (Eff.call0 (r_Sign _)) ?_
  refine RK.V (op_lss rfl rfl)<|RK.M rfl ?_
  refine RK.split (t := 27) rfl (fun hg4 => ?_) (fun hg4 => ?_)
  ·have hg4_ := of_decide_eq_true hg4
   refine RK.val (guard_yes rfl rfl hg4) (op_field_loc hT rfl rfl rfl rfl rfl rfl) ?_
   refine RK.val (guard_yes rfl rfl hg4) (op_load_agg hT rfl rfl rfl rfl (cs := [_, _]) rfl rfl) ?_
   refine RK.val (guard_yes rfl rfl hg4) (Eff.call0 (r_Sign _)) ?_
   refine RK.val (guard_yes rfl rfl hg4) (op_lss rfl rfl) ?_
   refine RK.V (op_pick_t rfl hg4 (rfl : _ = AV.p (.c _))) ?_
   refine RK.D ?_
   refine AWp_cond rfl (fun hb5 => ?_) (fun hb5 => ?_)
   ·have hb5_ := of_decide_eq_true hb5
    refine AWp_sr hP<|RK.As rfl<|RK.D<|AWp_ret ?_
    refine ends_one rfl (.inr rfl) (res_tmp rfl) ?_ O_ends
    exact Sub.int (r_ck_neg hb3 hg4_ hb5_)
   ·have hb5_ := of_decide_eq_false hb5
    refine AWp_skip<|AWp_sr hP<|RK.As rfl<|RK.D<|AWp_ret ?_
    refine ends_one rfl (.inr rfl) (res_tmp rfl) ?_ O_ends
    exact Sub.int (r_ck_ok hb3 hg4_ hb5_)
  ·have hg4_ := of_decide_eq_false hg4
   refine RK.skip (guard_no rfl rfl hg4) ?_
   refine RK.skip (guard_no rfl rfl hg4) ?_
   refine RK.skip (guard_no rfl rfl hg4) ?_
   refine RK.skip (guard_no rfl rfl hg4) ?_
   refine RK.V (op_pick_f rfl hg4 (rfl : _ = AV.p (.c _))) ?_
   refine RK.D<|AWp_cond_false rfl rfl ?_
   refine AWp_skip<|AWp_sr hP<|RK.As rfl<|RK.D<|AWp_ret ?_
   refine ends_one rfl (.inr rfl) (res_tmp rfl) ?_ O_ends
   exact Sub.int (ck_pos hb3 hg4_)
theorem r8_Content (a b c : Int) (ha : L 44 a) (hb : L 44 b) (hc : L 44 c) :
  Call0 Tryz.prog 167 [FA a b c] (I (Int.gcd (Int.gcd a b : Int) c : Int)) := by
 have ia : LB a 44 := ⟨ha⟩
 have ib : LB b 44 := ⟨hb⟩
 have ic : LB c 44 := ⟨hc⟩
 have ig := LB_gcd ha hb
 refine callM_of (np := 0) Tryz.func167 (by kernel_rfl) rfl rfl (Nat.le_of_ble_eq_true rfl) (fun m h => absurd rfl h) (fun m h => absurd rfl h) rfl ?_
 refine AWp_sr hP<|RK.alc guard_none (op_box rfl rfl)<|RK.alc guard_none (op_alloc hT rfl rfl)<|RK.D<|AWp_sr hP<|RK.F hT rfl rfl rfl rfl rfl rfl<|RK.G2 hT rfl rfl rfl rfl rfl rfl<|RK.F hT rfl rfl rfl rfl rfl rfl<|RK.G2 hT rfl rfl rfl rfl rfl rfl<|RK.V (Eff.call0 (r_Gcd _ _ lz lz)) ?_
 refine RK.F hT rfl rfl rfl rfl rfl rfl<|RK.G2 hT rfl rfl rfl rfl rfl rfl<|RK.V (Eff.call0 (r_Gcd _ _ lz lz)) ?_
 refine RK.S hT rfl rfl rfl rfl rfl rfl rfl<|RK.D<|AWp_ret ?_
 refine ends_one rfl (.inr rfl) (res_cell_agg hT rfl rfl rfl rfl (cs := [_, _]) rfl rfl) ?_ O_ends
 exact .refl _
theorem r8_Primitive (a b c : Int) (ha : L 44 a) (hb : L 44 b) (hc : L 44 c) :
  Call0 Tryz.prog 107 [FA a b c] (B (prim a b c)) := by
 have ia : LB a 44 := ⟨ha⟩
 have ib : LB b 44 := ⟨hb⟩
 have ic : LB c 44 := ⟨hc⟩
 refine callM_of (np := 0) Tryz.func107 (by kernel_rfl) rfl rfl (Nat.le_of_ble_eq_true rfl) (fun m h => absurd rfl h) (fun m h => absurd rfl h) rfl ?_
 refine AWp_sr hP<|RK.alc guard_none (op_box rfl rfl)<|RK.As rfl<|RK.D<|AWp_sr hP<|RK.G6 hT rfl rfl rfl rfl rfl rfl<|RK.V (Eff.call0 (r8_Content _ _ _ lz lz lz)) ?_
 refine RK.V (Eff.call0 (r_Of _ (by first | assumption | decide))) ?_
 refine RK.V (Eff.call0 (r_Same _ _)) ?_
 refine RK.As rfl<|RK.D<|AWp_ret ?_
 refine ends_one rfl (.inr rfl) (res_tmp rfl) ?_ O_ends
 exact Sub.bool (r_prim a b c)
theorem r8_Value (a b c x y : Int) (ha : L 36 a) (hb : L 36 b) (hc : L 36 c) (hx : L 36 x) (hy : L 36 y) :
  Call0 Tryz.prog 92 [FA a b c, I x, I y] (I (vl a b c x y)) := by
 have ia : LB a 36 := ⟨ha⟩
 have ib : LB b 36 := ⟨hb⟩
 have ic : LB c 36 := ⟨hc⟩
 have ix : LB x 36 := ⟨hx⟩
 have iy : LB y 36 := ⟨hy⟩
 refine callM_of (np := 0) Tryz.func92 (by kernel_rfl) rfl rfl (Nat.le_of_ble_eq_true rfl) (fun m h => absurd rfl h) (fun m h => absurd rfl h) rfl ?_
 refine AWp_sr hP<|RK.alc guard_none (op_box rfl rfl)<|RK.alc guard_none (op_box rfl rfl)<|RK.alc guard_none (op_box rfl rfl)<|RK.alc guard_none (op_alloc hT rfl rfl)<|RK.D<|AWp_sr hP<|RK.G2 hT rfl rfl rfl rfl rfl rfl<|RK.F hT rfl rfl rfl rfl rfl rfl<|RK.G2 hT rfl rfl rfl rfl rfl rfl<|RK.G2 hT rfl rfl rfl rfl rfl rfl<|RK.F hT rfl rfl rfl rfl rfl rfl<|RK.G2 hT rfl rfl rfl rfl rfl rfl<|RK.G2 hT rfl rfl rfl rfl rfl rfl<|RK.V (Eff.call0 (r8_sum _ _ _ _ lz lz lz lz)) ?_
 refine RK.V (Eff.call0 (r_Mul _ _ lz lz)) ?_
 refine RK.F hT rfl rfl rfl rfl rfl rfl<|RK.G2 hT rfl rfl rfl rfl rfl rfl<|RK.G2 hT rfl rfl rfl rfl rfl rfl<|RK.G2 hT rfl rfl rfl rfl rfl rfl<|RK.V (Eff.call0 (r_Mul _ _ lz lz)) ?_
 refine RK.V (Eff.call0 (r_Mul _ _ lz lz)) ?_
 refine RK.V (Eff.call0 (r_Add _ _ lz lz)) ?_
 refine RK.S hT rfl rfl rfl rfl rfl rfl rfl<|RK.D<|AWp_ret ?_
 refine ends_one rfl (.inr rfl) (res_cell_agg hT rfl rfl rfl rfl (cs := [_, _]) rfl rfl) ?_ O_ends
 exact Sub.I (r_vl a b c x y)
theorem r8_Apply (a b c p q r s : Int) (ha : L 34 a) (hb : L 34 b) (hc : L 34 c) (hp : L 34 p) (hq : L 34 q) (hr : L 34 r) (hs : L 34 s) :
  Call0 Tryz.prog 86 [FA a b c, MA p q r s] (FA (vl a b c p r) (apB a b c p q r s) (vl a b c q s)) := by
 have ia : LB a 34 := ⟨ha⟩
 have ib : LB b 34 := ⟨hb⟩
 have ic : LB c 34 := ⟨hc⟩
 have ip : LB p 34 := ⟨hp⟩
 have iq : LB q 34 := ⟨hq⟩
 have ir : LB r 34 := ⟨hr⟩
 have is : LB s 34 := ⟨hs⟩
 refine callM_of (np := 0) Tryz.func86 (by kernel_rfl) rfl rfl (Nat.le_of_ble_eq_true rfl) (fun m h => absurd rfl h) (fun m h => absurd rfl h) rfl ?_
 refine AWp_sr hP<|RK.alc guard_none (op_box rfl rfl)<|RK.alc guard_none (op_box rfl rfl)<|RK.alc guard_none (op_alloc hT rfl rfl)<|RK.D<|AWp_sr hP<|RK.V (Eff.call0 (r_Of _ (by first | assumption | decide))) ?_
 refine RK.alc guard_none (op_alloc hT rfl rfl)<|RK.S hT rfl rfl rfl rfl rfl rfl rfl<|RK.D<|AWp_sr hP<|RK.G2 hT rfl rfl rfl rfl rfl rfl<|RK.F hT rfl rfl rfl rfl rfl rfl<|RK.G2 hT rfl rfl rfl rfl rfl rfl<|RK.F hT rfl rfl rfl rfl rfl rfl<|RK.G2 hT rfl rfl rfl rfl rfl rfl<|RK.F hT rfl rfl rfl rfl rfl rfl<|RK.G2 hT rfl rfl rfl rfl rfl rfl<|RK.V (Eff.call0 (r_Mul _ _ lz lz)) ?_
 refine RK.V (Eff.call0 (r_Mul _ _ lz lz)) ?_
 refine RK.V (Eff.call0 (r_Mul _ _ lz lz)) ?_
 refine RK.F hT rfl rfl rfl rfl rfl rfl<|RK.G2 hT rfl rfl rfl rfl rfl rfl<|RK.F hT rfl rfl rfl rfl rfl rfl<|RK.G2 hT rfl rfl rfl rfl rfl rfl<|RK.F hT rfl rfl rfl rfl rfl rfl<|RK.G2 hT rfl rfl rfl rfl rfl rfl<|RK.F hT rfl rfl rfl rfl rfl rfl<|RK.G2 hT rfl rfl rfl rfl rfl rfl<|RK.F hT rfl rfl rfl rfl rfl rfl<|RK.G2 hT rfl rfl rfl rfl rfl rfl<|RK.V (Eff.call0 (r8_sum _ _ _ _ lz lz lz lz)) ?_
 refine RK.V (Eff.call0 (r_Mul _ _ lz lz)) ?_
 refine RK.G2 hT rfl rfl rfl rfl rfl rfl<|RK.F hT rfl rfl rfl rfl rfl rfl<|RK.G2 hT rfl rfl rfl rfl rfl rfl<|RK.F hT rfl rfl rfl rfl rfl rfl<|RK.G2 hT rfl rfl rfl rfl rfl rfl<|RK.F hT rfl rfl rfl rfl rfl rfl<|RK.G2 hT rfl rfl rfl rfl rfl rfl<|RK.V (Eff.call0 (r_Mul _ _ lz lz)) ?_
 refine RK.V (Eff.call0 (r_Mul _ _ lz lz)) ?_
 refine RK.V (Eff.call0 (r_Mul _ _ lz lz)) ?_
 refine RK.V (Eff.call0 (r_Add _ _ lz lz)) ?_
 refine RK.V (Eff.call0 (r_Add _ _ lz lz)) ?_
 refine RK.alc guard_none (op_alloc hT rfl rfl)<|RK.S hT rfl rfl rfl rfl rfl rfl rfl<|RK.D<|AWp_sr hP<|RK.G6 hT rfl rfl rfl rfl rfl rfl<|RK.F hT rfl rfl rfl rfl rfl rfl<|RK.G2 hT rfl rfl rfl rfl rfl rfl<|RK.F hT rfl rfl rfl rfl rfl rfl<|RK.G2 hT rfl rfl rfl rfl rfl rfl<|RK.V (Eff.call0 (r8_Value _ _ _ _ _ lz lz lz lz lz)) ?_
 refine RK.G2 hT rfl rfl rfl rfl rfl rfl<|RK.G6 hT rfl rfl rfl rfl rfl rfl<|RK.F hT rfl rfl rfl rfl rfl rfl<|RK.G2 hT rfl rfl rfl rfl rfl rfl<|RK.F hT rfl rfl rfl rfl rfl rfl<|RK.G2 hT rfl rfl rfl rfl rfl rfl<|RK.V (Eff.call0 (r8_Value _ _ _ _ _ lz lz lz lz lz)) ?_
 refine RK.V (op_build_st hT rfl rfl rfl (es := [_, _, _, _, _, _]) rfl) ?_
 refine RK.S hT rfl rfl rfl rfl rfl rfl rfl<|RK.D<|AWp_ret ?_
 refine ends_one rfl (.inr rfl) (res_cell_agg hT rfl rfl rfl rfl (cs := [_, _, _, _, _, _]) rfl rfl) ?_ O_ends
 exact Sub.of_eq (by rw [r_apB])
theorem r8_Times (p q r s t u v w : Int) (hp : L 38 p) (hq : L 38 q) (hr : L 38 r) (hs : L 38 s) (ht : L 38 t) (hu : L 38 u) (hv : L 38 v) (hw : L 38 w) :
  Call0 Tryz.prog 138 [MA p q r s, MA t u v w] (MA (p * t + q * v) (p * u + q * w) (r * t + s * v) (r * u + s * w)) := by
 have ip : LB p 38 := ⟨hp⟩
 have iq : LB q 38 := ⟨hq⟩
 have ir : LB r 38 := ⟨hr⟩
 have is : LB s 38 := ⟨hs⟩
 have it : LB t 38 := ⟨ht⟩
 have iu : LB u 38 := ⟨hu⟩
 have iv : LB v 38 := ⟨hv⟩
 have iw : LB w 38 := ⟨hw⟩
 refine callM_of (np := 0) Tryz.func138 (by kernel_rfl) rfl rfl (Nat.le_of_ble_eq_true rfl) (fun m h => absurd rfl h) (fun m h => absurd rfl h) rfl ?_
 refine AWp_sr hP<|RK.alc guard_none (op_box rfl rfl)<|RK.alc guard_none (op_box rfl rfl)<|RK.alc guard_none (op_alloc hT rfl rfl)<|RK.D<|AWp_sr hP<|RK.F hT rfl rfl rfl rfl rfl rfl<|RK.G2 hT rfl rfl rfl rfl rfl rfl<|RK.F hT rfl rfl rfl rfl rfl rfl<|RK.G2 hT rfl rfl rfl rfl rfl rfl<|RK.F hT rfl rfl rfl rfl rfl rfl<|RK.G2 hT rfl rfl rfl rfl rfl rfl<|RK.F hT rfl rfl rfl rfl rfl rfl<|RK.G2 hT rfl rfl rfl rfl rfl rfl<|RK.V (Eff.call0 (r8_sum _ _ _ _ lz lz lz lz)) ?_
 refine RK.F hT rfl rfl rfl rfl rfl rfl<|RK.G2 hT rfl rfl rfl rfl rfl rfl<|RK.F hT rfl rfl rfl rfl rfl rfl<|RK.G2 hT rfl rfl rfl rfl rfl rfl<|RK.F hT rfl rfl rfl rfl rfl rfl<|RK.G2 hT rfl rfl rfl rfl rfl rfl<|RK.F hT rfl rfl rfl rfl rfl rfl<|RK.G2 hT rfl rfl rfl rfl rfl rfl<|RK.V (Eff.call0 (r8_sum _ _ _ _ lz lz lz lz)) ?_
 refine RK.F hT rfl rfl rfl rfl rfl rfl<|RK.G2 hT rfl rfl rfl rfl rfl rfl<|RK.F hT rfl rfl rfl rfl rfl rfl<|RK.G2 hT rfl rfl rfl rfl rfl rfl<|RK.F hT rfl rfl rfl rfl rfl rfl<|RK.G2 hT rfl rfl rfl rfl rfl rfl<|RK.F hT rfl rfl rfl rfl rfl rfl<|RK.G2 hT rfl rfl rfl rfl rfl rfl<|RK.V (Eff.call0 (r8_sum _ _ _ _ lz lz lz lz)) ?_
 refine RK.F hT rfl rfl rfl rfl rfl rfl<|RK.G2 hT rfl rfl rfl rfl rfl rfl<|RK.F hT rfl rfl rfl rfl rfl rfl<|RK.G2 hT rfl rfl rfl rfl rfl rfl<|RK.F hT rfl rfl rfl rfl rfl rfl<|RK.G2 hT rfl rfl rfl rfl rfl rfl<|RK.F hT rfl rfl rfl rfl rfl rfl<|RK.G2 hT rfl rfl rfl rfl rfl rfl<|RK.V (Eff.call0 (r8_sum _ _ _ _ lz lz lz lz)) ?_
 refine RK.V (op_build_st hT rfl rfl rfl (es := [_, _, _, _, _, _, _, _]) rfl) ?_
 refine RK.S hT rfl rfl rfl rfl rfl rfl rfl<|RK.D<|AWp_ret ?_
 refine ends_one rfl (.inr rfl) (res_cell_agg hT rfl rfl rfl rfl (cs := [_, _, _, _, _, _, _, _]) rfl rfl) ?_ O_ends
 exact .refl _
theorem r8_Definite (a b c : Int) (ha : L 34 a) (hb : L 34 b) (hc : L 34 c) :
  Call0 Tryz.prog 166 [FA a b c] (B (dfn a b c)) := by
 have ia : LB a 34 := ⟨ha⟩
 have ib : LB b 34 := ⟨hb⟩
 have ic : LB c 34 := ⟨hc⟩
 refine callM_of (np := 0) Tryz.func166 (by kernel_rfl) rfl rfl (Nat.le_of_ble_eq_true rfl) (fun m h => absurd rfl h) (fun m h => absurd rfl h) rfl ?_
 refine AWp_sr hP<|RK.alc guard_none (op_box rfl rfl)<|RK.As rfl<|RK.D<|AWp_sr hP<|RK.G6 hT rfl rfl rfl rfl rfl rfl<|RK.V (Eff.call0 (r8_Check _ _ _ lz lz lz)) ?_
 refine RK.V (op_eql rfl rfl) ?_
 refine RK.M rfl ?_
 refine RK.split (t := 6) rfl (fun hg1 => ?_) (fun hg1 => ?_)
 ·have hg1_ := bT hg1
  refine RK.val (guard_yes rfl rfl hg1) (op_load_agg hT rfl rfl rfl rfl (cs := [_, _, _, _, _, _]) rfl rfl) ?_
  refine RK.val (guard_yes rfl rfl hg1) (Eff.call0 (r8_Disc _ _ _ lz lz lz)) ?_
  refine RK.val (guard_yes rfl rfl hg1) (Eff.call0 (r_Sign _)) ?_
  refine RK.val (guard_yes rfl rfl hg1) (op_lss rfl rfl) ?_
  refine RK.V (op_pick_t rfl hg1 (rfl : _ = AV.p (.c _))) ?_
  refine RK.As rfl<|RK.D<|AWp_ret ?_
  refine ends_one rfl (.inr rfl) (res_tmp rfl) ?_ O_ends
  exact Sub.bool (dfn_yes hg1)
 ·have hg1_ := bF hg1
  refine RK.skip (guard_no rfl rfl hg1) ?_
  refine RK.skip (guard_no rfl rfl hg1) ?_
  refine RK.skip (guard_no rfl rfl hg1) ?_
  refine RK.skip (guard_no rfl rfl hg1) ?_
  refine RK.V (op_pick_f rfl hg1 (rfl : _ = AV.p (.c _))) ?_
  refine RK.As rfl<|RK.D<|AWp_ret ?_
  refine ends_one rfl (.inr rfl) (res_tmp rfl) ?_ O_ends
  exact Sub.bool (dfn_no hg1)
theorem r8_Reduced (a b c : Int) (ha : L 34 a) (hb : L 34 b) (hc : L 34 c) :
  Call0 Tryz.prog 106 [FA a b c] (B (rdd a b c)) := by
 have ia : LB a 34 := ⟨ha⟩
 have ib : LB b 34 := ⟨hb⟩
 have ic : LB c 34 := ⟨hc⟩
 refine callM_of (np := 0) Tryz.func106 (by kernel_rfl) rfl rfl (Nat.le_of_ble_eq_true rfl) (fun m h => absurd rfl h) (fun m h => absurd rfl h) rfl ?_
 refine AWp_sr hP<|RK.alc guard_none (op_box rfl rfl)<|RK.As rfl<|RK.D<|AWp_seq<|AWp_sr hP<|RK.G6 hT rfl rfl rfl rfl rfl rfl<|RK.V (Eff.call0 (r8_Definite _ _ _ lz lz lz)) ?_
 refine RK.V (op_unot rfl) ?_
 refine RK.M rfl ?_
 refine RK.split (t := 7) rfl (fun hg1 => ?_) (fun hg1 => ?_)
 ·have hg1_ := (notT hg1)
  refine RK.skip (guard_no rfl rfl hg1) ?_
  refine RK.skip (guard_no rfl rfl hg1) ?_
  refine RK.skip (guard_no rfl rfl hg1) ?_
  refine RK.skip (guard_no rfl rfl hg1) ?_
  refine RK.skip (guard_no rfl rfl hg1) ?_
  refine RK.skip (guard_no rfl rfl hg1) ?_
  refine RK.skip (guard_no rfl rfl hg1) ?_
  refine RK.V (op_pick_t rfl hg1 (rfl : _ = AV.p (.c _))) ?_
  refine RK.M rfl<|RK.skip (guard_no rfl rfl rfl) ?_
  refine RK.skip (guard_no rfl rfl rfl) ?_
  refine RK.skip (guard_no rfl rfl rfl) ?_
  refine RK.skip (guard_no rfl rfl rfl) ?_
  refine RK.skip (guard_no rfl rfl rfl) ?_
  refine RK.skip (guard_no rfl rfl rfl) ?_
  refine RK.V (op_pick_t rfl rfl (rfl : _ = AV.p (.c _))) ?_
  refine RK.D<|AWp_cond_true rfl rfl ?_
  refine AWp_sr hP<|RK.As rfl<|RK.D<|AWp_ret ?_
  refine ends_one rfl (.inr rfl) (res_tmp rfl) ?_ O_ends
  exact Sub.bool (r_rdd_1 hg1)
 ·have hg1_ := (notF hg1)
  refine RK.val (guard_yes rfl rfl hg1) (op_field_loc hT rfl rfl rfl rfl rfl rfl) ?_
  refine RK.val (guard_yes rfl rfl hg1) (op_load_agg hT rfl rfl rfl rfl (cs := [_, _]) rfl rfl) ?_
  refine RK.val (guard_yes rfl rfl hg1) (Eff.call0 (r_Abs _)) ?_
  refine RK.val (guard_yes rfl rfl hg1) (op_field_loc hT rfl rfl rfl rfl rfl rfl) ?_
  refine RK.val (guard_yes rfl rfl hg1) (op_load_agg hT rfl rfl rfl rfl (cs := [_, _]) rfl rfl) ?_
  refine RK.val (guard_yes rfl rfl hg1) (Eff.call0 (r_Cmp _ _)) ?_
  refine RK.val (guard_yes rfl rfl hg1) (op_gtr rfl rfl) ?_
  refine RK.V (op_pick_f rfl hg1 (rfl : _ = AV.p (.c _))) ?_
  refine RK.M rfl ?_
  refine RK.split (t := 16) rfl (fun hg2 => ?_) (fun hg2 => ?_)
  ·have hg2_ := of_decide_eq_true hg2
   refine RK.skip (guard_no rfl rfl hg2) ?_
   refine RK.skip (guard_no rfl rfl hg2) ?_
   refine RK.skip (guard_no rfl rfl hg2) ?_
   refine RK.skip (guard_no rfl rfl hg2) ?_
   refine RK.skip (guard_no rfl rfl hg2) ?_
   refine RK.skip (guard_no rfl rfl hg2) ?_
   refine RK.V (op_pick_t rfl hg2 (rfl : _ = AV.p (.c _))) ?_
   refine RK.D<|AWp_cond_true rfl rfl ?_
   refine AWp_sr hP<|RK.As rfl<|RK.D<|AWp_ret ?_
   refine ends_one rfl (.inr rfl) (res_tmp rfl) ?_ O_ends
   exact Sub.bool (r_rdd_2 hg2)
  ·have hg2_ := of_decide_eq_false hg2
   refine RK.val (guard_yes rfl rfl hg2) (op_field_loc hT rfl rfl rfl rfl rfl rfl) ?_
   refine RK.val (guard_yes rfl rfl hg2) (op_load_agg hT rfl rfl rfl rfl (cs := [_, _]) rfl rfl) ?_
   refine RK.val (guard_yes rfl rfl hg2) (op_field_loc hT rfl rfl rfl rfl rfl rfl) ?_
   refine RK.val (guard_yes rfl rfl hg2) (op_load_agg hT rfl rfl rfl rfl (cs := [_, _]) rfl rfl) ?_
   refine RK.val (guard_yes rfl rfl hg2) (Eff.call0 (r_Cmp _ _)) ?_
   refine RK.val (guard_yes rfl rfl hg2) (op_gtr rfl rfl) ?_
   refine RK.V (op_pick_f rfl hg2 (rfl : _ = AV.p (.c _))) ?_
   refine RK.D ?_
   refine AWp_cond rfl (fun hb3 => ?_) (fun hb3 => ?_)
   ·have hb3_ := of_decide_eq_true hb3
    refine AWp_sr hP<|RK.As rfl<|RK.D<|AWp_ret ?_
    refine ends_one rfl (.inr rfl) (res_tmp rfl) ?_ O_ends
    exact Sub.bool (r_rdd_3 hb3)
   ·have hb3_ := of_decide_eq_false hb3
    refine AWp_skip<|AWp_sr hP<|RK.F hT rfl rfl rfl rfl rfl rfl<|RK.G2 hT rfl rfl rfl rfl rfl rfl<|RK.V (Eff.call0 (r_Abs _)) ?_
    refine RK.F hT rfl rfl rfl rfl rfl rfl<|RK.G2 hT rfl rfl rfl rfl rfl rfl<|RK.V (Eff.call0 (r_Cmp _ _)) ?_
    refine RK.V (op_eql rfl rfl) ?_
    refine RK.M rfl ?_
    refine RK.split (t := 31) rfl (fun hg4 => ?_) (fun hg4 => ?_)
    ·have hg4_ := bT hg4
     refine RK.skip (guard_no rfl rfl hg4) ?_
     refine RK.skip (guard_no rfl rfl hg4) ?_
     refine RK.skip (guard_no rfl rfl hg4) ?_
     refine RK.skip (guard_no rfl rfl hg4) ?_
     refine RK.skip (guard_no rfl rfl hg4) ?_
     refine RK.skip (guard_no rfl rfl hg4) ?_
     refine RK.V (op_pick_t rfl hg4 (rfl : _ = AV.p (.c _))) ?_
     refine RK.As rfl<|RK.D<|AWp_sr hP<|RK.M rfl<|RK.V (op_unot rfl) ?_
     refine RK.M rfl<|RK.val (guard_yes rfl rfl (congrArg not rfl)) (op_field_loc hT rfl rfl rfl rfl rfl rfl) ?_
     refine RK.val (guard_yes rfl rfl (congrArg not rfl)) (op_load_agg hT rfl rfl rfl rfl (cs := [_, _]) rfl rfl) ?_
     refine RK.val (guard_yes rfl rfl (congrArg not rfl)) (Eff.call0 (r_Sign _)) ?_
     refine RK.val (guard_yes rfl rfl (congrArg not rfl)) (op_geq rfl rfl) ?_
     refine RK.V (op_pick_f rfl (congrArg not rfl) (rfl : _ = AV.p (.c _))) ?_
     refine RK.As rfl<|RK.D<|AWp_ret ?_
     refine ends_one rfl (.inr rfl) (res_tmp rfl) ?_ O_ends
     exact Sub.bool (r_rdd_4 hg1 hg2 hb3 (.inl hg4_))
    ·have hg4_ := bF hg4
     refine RK.val (guard_yes rfl rfl hg4) (op_field_loc hT rfl rfl rfl rfl rfl rfl) ?_
     refine RK.val (guard_yes rfl rfl hg4) (op_load_agg hT rfl rfl rfl rfl (cs := [_, _]) rfl rfl) ?_
     refine RK.val (guard_yes rfl rfl hg4) (op_field_loc hT rfl rfl rfl rfl rfl rfl) ?_
     refine RK.val (guard_yes rfl rfl hg4) (op_load_agg hT rfl rfl rfl rfl (cs := [_, _]) rfl rfl) ?_
     refine RK.val (guard_yes rfl rfl hg4) (Eff.call0 (r_Cmp _ _)) ?_
     refine RK.val (guard_yes rfl rfl hg4) (op_eql rfl rfl) ?_
     refine RK.V (op_pick_f rfl hg4 (rfl : _ = AV.p (.c _))) ?_
     refine RK.As rfl<|RK.D<|AWp_sr hP<|RK.M rfl<|RK.V (op_unot rfl) ?_
     refine RK.M rfl ?_
     refine RK.split (t := 41) rfl (fun hg5 => ?_) (fun hg5 => ?_)
     ·have hg5_ := bF (notT hg5)
      refine RK.skip (guard_no rfl rfl hg5) ?_
      refine RK.skip (guard_no rfl rfl hg5) ?_
      refine RK.skip (guard_no rfl rfl hg5) ?_
      refine RK.skip (guard_no rfl rfl hg5) ?_
      refine RK.V (op_pick_t rfl hg5 (rfl : _ = AV.p (.c _))) ?_
      refine RK.As rfl<|RK.D<|AWp_ret ?_
      refine ends_one rfl (.inr rfl) (res_tmp rfl) ?_ O_ends
      exact Sub.bool (r_rdd_5 hg1 hg2 hb3 hg4_ hg5_)
     ·have hg5_ := bT (notF hg5)
      refine RK.val (guard_yes rfl rfl hg5) (op_field_loc hT rfl rfl rfl rfl rfl rfl) ?_
      refine RK.val (guard_yes rfl rfl hg5) (op_load_agg hT rfl rfl rfl rfl (cs := [_, _]) rfl rfl) ?_
      refine RK.val (guard_yes rfl rfl hg5) (Eff.call0 (r_Sign _)) ?_
      refine RK.val (guard_yes rfl rfl hg5) (op_geq rfl rfl) ?_
      refine RK.V (op_pick_f rfl hg5 (rfl : _ = AV.p (.c _))) ?_
      refine RK.As rfl<|RK.D<|AWp_ret ?_
      refine ends_one rfl (.inr rfl) (res_tmp rfl) ?_ O_ends
      exact Sub.bool (r_rdd_4 hg1 hg2 hb3 (.inr hg5_))
theorem r8_Reduce (a b c : Int) (ha : L 26 a) (hb : L 26 b) (hc : L 26 c) :
  Call0 Tryz.prog 91 [FA a b c] (.t [PF (rdF a b c), PM (rdM a b c), PE (rdE a b c)]) := by
 have ia : LB a 26 := ⟨ha⟩
 have ib : LB b 26 := ⟨hb⟩
 have ic : LB c 26 := ⟨hc⟩
 obtain ⟨M, hMa, hMc, hM0, hML⟩ := ha.max2 hc
 refine callM_of (np := 0) Tryz.func91 (by kernel_rfl) rfl rfl (Nat.le_of_ble_eq_true rfl) (fun m h => absurd rfl h) (fun m h => absurd rfl h) rfl ?_
 refine AWp_sr hP<|RK.alc guard_none (op_box rfl rfl)<|RK.alc guard_none (op_alloc hT rfl rfl)<|RK.alc guard_none (op_alloc hT rfl rfl)<|RK.As rfl<|RK.D<|AWp_sr hP<|RK.G6 hT rfl rfl rfl rfl rfl rfl<|RK.V (Eff.call0 (r8_Check _ _ _ lz lz lz)) ?_
 refine RK.As rfl<|RK.D<|AWp_seq<|AWp_sr hP<|RK.M rfl<|RK.V (op_eql rfl rfl) ?_
 refine RK.M rfl ?_
 refine RK.split (t := 13) rfl (fun hg1 => ?_) (fun hg1 => ?_)
 ·have hg1_ := bT hg1
  refine RK.val (guard_yes rfl rfl hg1) (op_load_agg hT rfl rfl rfl rfl (cs := [_, _, _, _, _, _]) rfl rfl) ?_
  refine RK.val (guard_yes rfl rfl hg1) (Eff.call0 (r8_Disc _ _ _ lz lz lz)) ?_
  refine RK.val (guard_yes rfl rfl hg1) (Eff.call0 (r_Sign _)) ?_
  refine RK.val (guard_yes rfl rfl hg1) (op_gtr rfl rfl) ?_
  refine RK.V (op_pick_t rfl hg1 (rfl : _ = AV.p (.c _))) ?_
  refine RK.D ?_
  refine AWp_cond rfl (fun hb2 => ?_) (fun hb2 => ?_)
  ·have hb2_ := of_decide_eq_true hb2
   refine AWp_region hP<|RK.As rfl<|RK.D<|AWp_seq<|AWp_sr hP<|RK.M rfl<|RK.V (op_neq rfl rfl) ?_
   refine RK.D<|AWp_cond_true rfl rfl ?_
   refine AWp_sr hP<|RK.V (op_build_st hT rfl rfl rfl (es := [_, _, _, _, _, _]) rfl) ?_
   refine RK.V (op_build_st hT rfl rfl rfl (es := [_, _, _, _, _, _, _, _]) rfl) ?_
   refine RK.M rfl<|RK.S hT rfl rfl rfl rfl rfl rfl rfl<|RK.S hT rfl rfl rfl rfl rfl rfl rfl<|RK.As rfl<|RK.D<|AWp_ret ?_
   refine ends_three rfl (.inr rfl) (res_cell_agg hT rfl rfl rfl rfl (cs := [_, _, _, _, _, _]) rfl rfl) (res_cell_agg hT rfl rfl rfl rfl (cs := [_, _, _, _, _, _, _, _]) rfl rfl) (res_tmp rfl) ?_ O_ends
   exact Sub.of_eq (rd_res0 (rdE_5 hg1 hb2_) (by decide))
  ·have hb2_ := of_decide_eq_false hb2
   refine AWp_skip<|AWp_seq<|AWp_sr hP<|RK.M rfl<|RK.V (op_neq rfl rfl) ?_
   refine RK.D<|AWp_cond_false rfl (by rw [bne, hg1]; rfl) ?_
   refine AWp_skip<|AWp_sr hP<|RK.V (Eff.call0 (r8_Matrix _ _ _ _ (by first | assumption | decide) (by first | assumption | decide) (by first | assumption | decide) (by first | assumption | decide))) ?_
   refine RK.alc guard_none (op_alloc hT rfl rfl)<|RK.S hT rfl rfl rfl rfl rfl rfl rfl<|RK.D<|AWp_seq<|AWp_block ?_
   have he0 := rdE_0 hg1 hb2_
   have hp0 := rdE_pos he0
   refine AWp_loop (ι := (Fm × Mt) × Nat) (fun i => stL [(1, .loc 1 0), (2, .loc 2 0), (3, .loc 3 0), (6, .loc 6 0)] [(1, ⟨false, 1, 53, FL i.1.1.a i.1.1.b i.1.1.c⟩), (2, ⟨false, 1, 53, FL 0 0 0⟩), (3, ⟨false, 1, 64, ML 0 0 0 0⟩), (6, ⟨false, 1, 64, ML i.1.2.a i.1.2.b i.1.2.c i.1.2.d⟩)]) (fun i => AM.Good ⟨a, b, c⟩ M i.1 ∧ i.1.1.mu ≤ i.2 ∧ rdRun i.2 i.1 = rdRun (Fm.mu ⟨a, b, c⟩) (⟨a, b, c⟩, .one)) (fun i => i.2) ((⟨a, b, c⟩, .one), Fm.mu ⟨a, b, c⟩) ⟨good_one hp0 hMa hMc, Nat.le_refl _, rfl⟩ (le_stL ⟨.refl _, .refl _, .refl _, .refl _, trivial⟩ ⟨rfl, rfl, rfl, rfl, trivial⟩) ?_
   rintro ⟨s, k⟩ ⟨hG, hk, hR⟩
   have hL := hG.L hp0 hMa hMc hML
   have i1 : LB s.1.a 27 := ⟨hL.1.a⟩
   have i2 : LB s.1.b 27 := ⟨hL.1.b⟩
   have i3 : LB s.1.c 27 := ⟨hL.1.c⟩
   have i4 : LB s.2.a 27 := ⟨hL.2.a⟩
   have i5 : LB s.2.b 27 := ⟨hL.2.b⟩
   have i6 : LB s.2.c 27 := ⟨hL.2.c⟩
   have i7 : LB s.2.d 27 := ⟨hL.2.d⟩
   have hs0 : 2 * s.1.a ≠ 0 := by
    have h9 : 0 < s.1.a := hG.pos.1
    omega
   have i8 : LB s.1.k 28 := ⟨by unfold Fm.k; exact lz⟩
   refine AWp_seq<|AWp_sr hP<|RK.G6 hT rfl rfl rfl rfl rfl rfl<|RK.V (Eff.call0 (r8_Reduced _ _ _ lz lz lz)) ?_
   refine RK.V (op_unot rfl) ?_
   refine RK.D ?_
   refine AWp_cond rfl (fun hb3 => ?_) (fun hb3 => ?_)
   ·have hb3_ := (notT hb3)
    refine AWp_skip<|AWp_block<|AWp_sr hP<|RK.F hT rfl rfl rfl rfl rfl rfl<|RK.G2 hT rfl rfl rfl rfl rfl rfl<|RK.F hT rfl rfl rfl rfl rfl rfl<|RK.G2 hT rfl rfl rfl rfl rfl rfl<|RK.V (Eff.call0 (r_Sub _ _ lz lz)) ?_
    refine RK.V (Eff.call0 (r_Of _ (by first | assumption | decide))) ?_
    refine RK.F hT rfl rfl rfl rfl rfl rfl<|RK.G2 hT rfl rfl rfl rfl rfl rfl<|RK.V (Eff.call0 (r_Mul _ _ lz lz)) ?_
    refine RK.V (Eff.call0 (r_Div _ _ lz lz hs0)) ?_
    refine RK.alc guard_none (op_alloc hT rfl rfl)<|RK.S hT rfl rfl rfl rfl rfl rfl rfl<|RK.D<|AWp_sr hP<|RK.V (Eff.call0 (r_Of _ (by first | assumption | decide))) ?_
    refine RK.G2 hT rfl rfl rfl rfl rfl rfl<|RK.V (Eff.call0 (r_Of _ (by first | assumption | decide))) ?_
    refine RK.V (Eff.call0 (r_Of _ (by first | assumption | decide))) ?_
    refine RK.V (op_build_st hT rfl rfl rfl (es := [_, _, _, _, _, _, _, _]) rfl) ?_
    refine RK.alc guard_none (op_alloc hT rfl rfl)<|RK.S hT rfl rfl rfl rfl rfl rfl rfl<|RK.D<|AWp_sr hP<|RK.G6 hT rfl rfl rfl rfl rfl rfl<|RK.V (op_load_agg hT rfl rfl rfl rfl (cs := [_, _, _, _, _, _, _, _]) rfl rfl) ?_
    refine RK.V (Eff.call0 (r8_Apply _ _ _ _ _ _ _ lz lz lz lz lz lz lz)) ?_
    refine RK.V (op_load_agg hT rfl rfl rfl rfl (cs := [_, _, _, _, _, _, _, _]) rfl rfl) ?_
    refine RK.V (op_load_agg hT rfl rfl rfl rfl (cs := [_, _, _, _, _, _, _, _]) rfl rfl) ?_
    refine RK.V (Eff.call0 (r8_Times _ _ _ _ _ _ _ _ lz lz lz lz lz lz lz lz)) ?_
    refine RK.S hT rfl rfl rfl rfl rfl rfl rfl<|RK.S hT rfl rfl rfl rfl rfl rfl rfl<|RK.D<|AWp_sr hP<|RK.G6 hT rfl rfl rfl rfl rfl rfl<|RK.V (Eff.call0 (r8_Reduced _ _ _ lz lz lz)) ?_
    refine RK.V (op_unot rfl) ?_
    refine RK.D ?_
    refine AWp_cond rfl (fun hb4 => ?_) (fun hb4 => ?_)
    ·have hb4_ := (notT hb4)
     refine AWp_sr hP<|RK.V (Eff.call0 (r8_Matrix _ _ _ _ (by first | assumption | decide) (by first | assumption | decide) (by first | assumption | decide) (by first | assumption | decide))) ?_
     refine RK.S hT rfl rfl rfl rfl rfl rfl rfl<|RK.D<|AWp_region hP<|RK.G6 hT rfl rfl rfl rfl rfl rfl<|RK.V (op_load_agg hT rfl rfl rfl rfl (cs := [_, _, _, _, _, _, _, _]) rfl rfl) ?_
     refine RK.V (Eff.call0 (r8_Apply _ _ _ _ _ _ _ lz lz lz lz lz lz lz)) ?_
     refine RK.V (op_load_agg hT rfl rfl rfl rfl (cs := [_, _, _, _, _, _, _, _]) rfl rfl) ?_
     refine RK.V (op_load_agg hT rfl rfl rfl rfl (cs := [_, _, _, _, _, _, _, _]) rfl rfl) ?_
     refine RK.V (Eff.call0 (r8_Times _ _ _ _ _ _ _ _ lz lz lz lz lz lz lz lz)) ?_
     refine RK.S hT rfl rfl rfl rfl rfl rfl rfl<|RK.S hT rfl rfl rfl rfl rfl rfl rfl<|RK.D ?_
     have hx := rd_next hG hk hR hb3 (stp_S hb4)
     refine ⟨(((s.1.app (.T s.1.k)).app .S, (s.2.mul (.T s.1.k)).mul .S), k - 1), hx.1, hx.2, le_stL ⟨.refl _, .refl _, .refl _, .refl _, trivial⟩ ⟨rfl, rfl, rfl, rfl, trivial⟩⟩
    ·have hb4_ := (notF hb4)
     refine AWp_skip ?_
     have hx := rd_next hG hk hR hb3 (stp_T hb4)
     refine ⟨((s.1.app (.T s.1.k), s.2.mul (.T s.1.k)), k - 1), hx.1, hx.2, le_stL ⟨.refl _, .refl _, .refl _, .refl _, trivial⟩ ⟨rfl, rfl, rfl, rfl, trivial⟩⟩
   ·have hb3_ := (notF hb3)
    refine AWp_exit<|AWp_sr hP<|RK.G6 hT rfl rfl rfl rfl rfl rfl<|RK.V (op_load_agg hT rfl rfl rfl rfl (cs := [_, _, _, _, _, _, _, _]) rfl rfl) ?_
    refine RK.S hT rfl rfl rfl rfl rfl rfl rfl<|RK.S hT rfl rfl rfl rfl rfl rfl rfl<|RK.As rfl<|RK.D<|AWp_ret ?_
    refine ends_three rfl (.inr rfl) (res_cell_agg hT rfl rfl rfl rfl (cs := [_, _, _, _, _, _]) rfl rfl) (res_cell_agg hT rfl rfl rfl rfl (cs := [_, _, _, _, _, _, _, _]) rfl rfl) (res_tmp rfl) ?_ O_ends
    exact Sub.of_eq (rd_res he0 (rd_done hR hb3))
 ·have hg1_ := bF hg1
  refine RK.skip (guard_no rfl rfl hg1) ?_
  refine RK.skip (guard_no rfl rfl hg1) ?_
  refine RK.skip (guard_no rfl rfl hg1) ?_
  refine RK.skip (guard_no rfl rfl hg1) ?_
  refine RK.V (op_pick_f rfl hg1 (rfl : _ = AV.p (.c _))) ?_
  refine RK.D<|AWp_cond_false rfl rfl ?_
  refine AWp_skip<|AWp_seq<|AWp_sr hP<|RK.M rfl<|RK.V (op_neq rfl rfl) ?_
  refine RK.D<|AWp_cond_true rfl (by rw [bne, hg1]; rfl) ?_
  refine AWp_sr hP<|RK.V (op_build_st hT rfl rfl rfl (es := [_, _, _, _, _, _]) rfl) ?_
  refine RK.V (op_build_st hT rfl rfl rfl (es := [_, _, _, _, _, _, _, _]) rfl) ?_
  refine RK.M rfl<|RK.S hT rfl rfl rfl rfl rfl rfl rfl<|RK.S hT rfl rfl rfl rfl rfl rfl rfl<|RK.As rfl<|RK.D<|AWp_ret ?_
  refine ends_three rfl (.inr rfl) (res_cell_agg hT rfl rfl rfl rfl (cs := [_, _, _, _, _, _]) rfl rfl) (res_cell_agg hT rfl rfl rfl rfl (cs := [_, _, _, _, _, _, _, _]) rfl rfl) (res_tmp rfl) ?_ O_ends
  exact Sub.of_eq (rd_res0 (rdE_ck hg1).1 (fun e => by rw [e] at hg1; cases hg1))
theorem r8_Equal (a b c p q r : Int) :
  Call0 Tryz.prog 41 [FA a b c, FA p q r] (B (decide (a = p ∧ b = q ∧ c = r))) := by
 refine callM_of (np := 0) Tryz.func41 (by kernel_rfl) rfl rfl (Nat.le_of_ble_eq_true rfl) (fun m h => absurd rfl h) (fun m h => absurd rfl h) rfl ?_
 refine AWp_sr hP<|RK.alc guard_none (op_box rfl rfl)<|RK.alc guard_none (op_box rfl rfl)<|RK.As rfl<|RK.D<|AWp_sr hP<|RK.F hT rfl rfl rfl rfl rfl rfl<|RK.G2 hT rfl rfl rfl rfl rfl rfl<|RK.F hT rfl rfl rfl rfl rfl rfl<|RK.G2 hT rfl rfl rfl rfl rfl rfl<|RK.V (Eff.call0 (r_Same _ _)) ?_
 refine RK.M rfl ?_
 refine RK.split (t := 10) rfl (fun hg1 => ?_) (fun hg1 => ?_)
 ·refine RK.val (guard_yes rfl rfl hg1) (op_field_loc hT rfl rfl rfl rfl rfl rfl) ?_
  refine RK.val (guard_yes rfl rfl hg1) (op_load_agg hT rfl rfl rfl rfl (cs := [_, _]) rfl rfl) ?_
  refine RK.val (guard_yes rfl rfl hg1) (op_field_loc hT rfl rfl rfl rfl rfl rfl) ?_
  refine RK.val (guard_yes rfl rfl hg1) (op_load_agg hT rfl rfl rfl rfl (cs := [_, _]) rfl rfl) ?_
  refine RK.val (guard_yes rfl rfl hg1) (Eff.call0 (r_Same _ _)) ?_
  refine RK.V (op_pick_t rfl hg1 (rfl : _ = AV.p (.c _))) ?_
  refine RK.M rfl ?_
  refine RK.split (t := 17) rfl (fun hg2 => ?_) (fun hg2 => ?_)
  ·refine RK.val (guard_yes rfl rfl hg2) (op_field_loc hT rfl rfl rfl rfl rfl rfl) ?_
   refine RK.val (guard_yes rfl rfl hg2) (op_load_agg hT rfl rfl rfl rfl (cs := [_, _]) rfl rfl) ?_
   refine RK.val (guard_yes rfl rfl hg2) (op_field_loc hT rfl rfl rfl rfl rfl rfl) ?_
   refine RK.val (guard_yes rfl rfl hg2) (op_load_agg hT rfl rfl rfl rfl (cs := [_, _]) rfl rfl) ?_
   refine RK.val (guard_yes rfl rfl hg2) (Eff.call0 (r_Same _ _)) ?_
   refine RK.V (op_pick_t rfl hg2 (rfl : _ = AV.p (.c _))) ?_
   refine RK.As rfl<|RK.D<|AWp_ret ?_
   refine ends_one rfl (.inr rfl) (res_tmp rfl) ?_ O_ends
   exact Sub.bool (eq3_s hg1 (eq3_s hg2 rfl))
  ·refine RK.skip (guard_no rfl rfl hg2) ?_
   refine RK.skip (guard_no rfl rfl hg2) ?_
   refine RK.skip (guard_no rfl rfl hg2) ?_
   refine RK.skip (guard_no rfl rfl hg2) ?_
   refine RK.skip (guard_no rfl rfl hg2) ?_
   refine RK.V (op_pick_f rfl hg2 (rfl : _ = AV.p (.c _))) ?_
   refine RK.As rfl<|RK.D<|AWp_ret ?_
   refine ends_one rfl (.inr rfl) (res_tmp rfl) ?_ O_ends
   exact Sub.bool (eq3_s hg1 (eq3_1 hg2))
 ·refine RK.skip (guard_no rfl rfl hg1) ?_
  refine RK.skip (guard_no rfl rfl hg1) ?_
  refine RK.skip (guard_no rfl rfl hg1) ?_
  refine RK.skip (guard_no rfl rfl hg1) ?_
  refine RK.skip (guard_no rfl rfl hg1) ?_
  refine RK.V (op_pick_f rfl hg1 (rfl : _ = AV.p (.c _))) ?_
  refine RK.M rfl<|RK.skip (guard_no rfl rfl rfl) ?_
  refine RK.skip (guard_no rfl rfl rfl) ?_
  refine RK.skip (guard_no rfl rfl rfl) ?_
  refine RK.skip (guard_no rfl rfl rfl) ?_
  refine RK.skip (guard_no rfl rfl rfl) ?_
  refine RK.V (op_pick_f rfl rfl (rfl : _ = AV.p (.c _))) ?_
  refine RK.As rfl<|RK.D<|AWp_ret ?_
  refine ends_one rfl (.inr rfl) (res_tmp rfl) ?_ O_ends
  exact Sub.bool (eq3_1 hg1)
theorem r8_Turn (b : Nat) (hb : b < 256) :
  Call0 Tryz.prog 63 [.p (.c (.v (.int .u8 (b : Int))))] (MA (turnM b).a (turnM b).b (turnM b).c (turnM b).d) := by
 have i1 : LB ((b : Int) % 8 - 3) 6 := ⟨by unfold L; omega⟩
 have i2 : LB ((b : Int) / 8 % 8 - 4) 6 := ⟨by unfold L; omega⟩
 refine callM_of (np := 0) Tryz.func63 (by kernel_rfl) rfl rfl (Nat.le_of_ble_eq_true rfl) (fun m h => absurd rfl h) (fun m h => absurd rfl h) rfl ?_
 refine AWp_sr hP<|RK.alc guard_none (op_alloc hT rfl rfl)<|RK.D<|AWp_sr hP<|RK.M rfl<|RK.V (op_rem rfl rfl (by decide) (c := (b : Int) % 8) (Int.tmod_eq_emod_of_nonneg (by omega))) ?_
 refine RK.V (op_conv hT rfl rfl rfl rfl (IntWalk.i64_in _ (by omega))) ?_
 refine RK.V (op_sub rfl rfl (IntWalk.i64_in _ (by omega))) ?_
 refine RK.V (Eff.call0 (r8_Matrix 1 _ 0 1 (by decide) (by unfold InI64; omega) (by decide) (by decide))) ?_
 refine RK.alc guard_none (op_alloc hT rfl rfl)<|RK.S hT rfl rfl rfl rfl rfl rfl rfl<|RK.D<|AWp_sr hP<|RK.V (op_load_agg hT rfl rfl rfl rfl (cs := [_, _, _, _, _, _, _, _]) rfl rfl) ?_
 refine RK.V (Eff.call0 (r8_Matrix _ _ _ _ (by first | assumption | decide) (by first | assumption | decide) (by first | assumption | decide) (by first | assumption | decide))) ?_
 refine RK.V (Eff.call0 (r8_Times _ _ _ _ _ _ _ _ lz lz lz lz lz lz lz lz)) ?_
 refine RK.M rfl<|RK.V (op_quo rfl rfl (by decide) (c := (b : Int) / 8) (by rw [Int.tdiv_eq_ediv_of_nonneg (by omega), IntWalk.u8_in _ (by omega)])) ?_
 refine RK.V (op_rem rfl rfl (by decide) (c := (b : Int) / 8 % 8) (Int.tmod_eq_emod_of_nonneg (by omega))) ?_
 refine RK.V (op_conv hT rfl rfl rfl rfl (IntWalk.i64_in _ (by omega))) ?_
 refine RK.V (op_sub rfl rfl (IntWalk.i64_in _ (by omega))) ?_
 refine RK.V (Eff.call0 (r8_Matrix 1 _ 0 1 (by decide) (by unfold InI64; omega) (by decide) (by decide))) ?_
 refine RK.V (Eff.call0 (r8_Times _ _ _ _ _ _ _ _ lz lz lz lz lz lz lz lz)) ?_
 refine RK.S hT rfl rfl rfl rfl rfl rfl rfl<|RK.D<|AWp_ret ?_
 refine ends_one rfl (.inr rfl) (res_cell_agg hT rfl rfl rfl rfl (cs := [_, _, _, _, _, _, _, _]) rfl rfl) ?_ O_ends
 exact .refl _
theorem r8_Any (n0 n1 n2 n3 n4 n5 n6 : Bool) (w0 w1 w2 w3 w4 w5 w6 : List Nat) (h0 : okW w0) (h1 : okW w1) (h2 : okW w2) (_h3 : okW w3) (_h4 : okW w4) (_h5 : okW w5) (_h6 : okW w6) :
  Call0 Tryz.prog 28 [.p (.a [.v (.bool n0), W w0, .v (.bool n1), W w1, .v (.bool n2), W w2, .v (.bool n3), W w3, .v (.bool n4), W w4, .v (.bool n5), W w5, .v (.bool n6), W w6])] (FA (md n0 w0) (md n1 w1) (md n2 w2)) := by
 refine callM_of (np := 0) Tryz.func28 (by kernel_rfl) rfl rfl (Nat.le_of_ble_eq_true rfl) (fun m h => absurd rfl h) (fun m h => absurd rfl h) rfl ?_
 refine AWp_sr hP<|RK.alc guard_none (op_box rfl rfl)<|RK.alc guard_none (op_alloc hT rfl rfl)<|RK.D<|AWp_sr hP<|RK.F hT rfl rfl rfl rfl rfl rfl<|RK.V (op_index_arr hT rfl rfl rfl rfl rfl (by first | decide | omega)) ?_
 refine RK.G2 hT rfl rfl rfl rfl rfl rfl<|RK.V (Eff.call0 (r_Made _ _ 2 h0 (by decide))) ?_
 refine RK.F hT rfl rfl rfl rfl rfl rfl<|RK.V (op_index_arr hT rfl rfl rfl rfl rfl (by first | decide | omega)) ?_
 refine RK.G2 hT rfl rfl rfl rfl rfl rfl<|RK.V (Eff.call0 (r_Made _ _ 2 h1 (by decide))) ?_
 refine RK.F hT rfl rfl rfl rfl rfl rfl<|RK.V (op_index_arr hT rfl rfl rfl rfl rfl (by first | decide | omega)) ?_
 refine RK.G2 hT rfl rfl rfl rfl rfl rfl<|RK.V (Eff.call0 (r_Made _ _ 2 h2 (by decide))) ?_
 refine RK.V (op_build_st hT rfl rfl rfl (es := [_, _, _, _, _, _]) rfl) ?_
 refine RK.S hT rfl rfl rfl rfl rfl rfl rfl<|RK.D<|AWp_ret ?_
 refine ends_one rfl (.inr rfl) (res_cell_agg hT rfl rfl rfl rfl (cs := [_, _, _, _, _, _]) rfl rfl) ?_ O_ends
 exact .refl _
end Go.Proofs.YtpaifigafaijpaaGreatDoor
end
section
namespace Go.Proofs.YtpaifigafaijpaaGreatDoor
open Go Go.AM
end Go.Proofs.YtpaifigafaijpaaGreatDoor
end
section
namespace Go.Proofs.YtpaifigafaijpaaGreatDoor
open Go Go.AM
theorem m_of (z : Int) (hz : InI64 z) :
  Call0 Tryz.prog 238 [Z z] (I z) := by
 refine callM_of (np := 0) Tryz.func238 (by kernel_rfl) rfl rfl (Nat.le_of_ble_eq_true rfl) (fun m h => absurd rfl h) (fun m h => absurd rfl h) rfl ?_
 refine AWp_sr hP<|RK.alc guard_none (op_alloc hT rfl rfl)<|RK.D<|AWp_sr hP<|RK.M rfl<|RK.V (Eff.call0 (int_Of _ (by first | assumption | decide))) ?_
 refine RK.S hT rfl rfl rfl rfl rfl rfl rfl<|RK.D<|AWp_ret ?_
 refine ends_one rfl (.inr rfl) (res_cell_agg hT rfl rfl rfl rfl (cs := [_, _]) rfl rfl) ?_ O_ends
 exact .refl _
theorem m_one (x : Int) :
  Call0 Tryz.prog 216 [I x] (B (decide (x = 1))) := by
 refine callM_of (np := 0) Tryz.func216 (by kernel_rfl) rfl rfl (Nat.le_of_ble_eq_true rfl) (fun m h => absurd rfl h) (fun m h => absurd rfl h) rfl ?_
 refine AWp_sr hP<|RK.alc guard_none (op_box rfl rfl)<|RK.As rfl<|RK.D<|AWp_sr hP<|RK.G2 hT rfl rfl rfl rfl rfl rfl<|RK.V (Eff.call0 (m_of _ (by first | assumption | decide))) ?_
 refine RK.V (Eff.call0 (int_Cmp _ _)) ?_
 refine RK.V (op_eql rfl rfl) ?_
 refine RK.As rfl<|RK.D<|AWp_ret ?_
 refine ends_one rfl (.inr rfl) (res_tmp rfl) ?_ O_ends
 exact Sub.bool (by rw [Bool.eq_iff_iff]; simp [cmpI_eq_zero])
theorem m_odd (x : Int) :
  Call0 Tryz.prog 227 [I x] (B (oddB x)) := by
 refine callM_of (np := 0) Tryz.func227 (by kernel_rfl) rfl rfl (Nat.le_of_ble_eq_true rfl) (fun m h => absurd rfl h) (fun m h => absurd rfl h) rfl ?_
 refine AWp_sr hP<|RK.alc guard_none (op_box rfl rfl)<|RK.As rfl<|RK.D<|AWp_sr hP<|RK.F hT rfl rfl rfl rfl rfl rfl<|RK.V (op_load_one hT rfl rfl rfl rfl (by first | rfl | exact vget (by omega))) ?_
 refine RK.V (op_len hT rfl rfl rfl rfl)<|RK.V (op_gtr rfl rfl) ?_
 refine RK.M rfl ?_
 refine RK.split (t := 7) rfl (fun hg1 => ?_) (fun hg1 => ?_)
 ·have hg1_ := of_decide_eq_true hg1
  refine RK.val (guard_yes rfl rfl hg1) (op_field_loc hT rfl rfl rfl rfl rfl rfl) ?_
  refine RK.val (guard_yes rfl rfl hg1) (op_load_one hT rfl rfl rfl rfl (by first | rfl | exact vget (by omega))) ?_
  refine RK.val (guard_yes rfl rfl hg1) (by first | exact op_index_WN hT rfl rfl rfl rfl rfl rfl (by omega) | exact op_index_sl hT rfl rfl rfl rfl rfl rfl (by omega) (by first | exact W_ne (by omega) | simp)) ?_
  refine RK.val (guard_yes rfl rfl hg1) (op_load_ip_one hT rfl rfl rfl (by first | rfl | exact wget (by omega))) ?_
  refine RK.val (guard_yes rfl rfl hg1) (op_andN (m := (wl x.natAbs).getD 0 0) (n := 1) rfl rfl rfl (lt32 ((wl_ok x.natAbs).getD 0)) (by decide)) ?_
  refine RK.val (guard_yes rfl rfl hg1) (op_eql rfl rfl) ?_
  refine RK.V (op_pick_t rfl hg1 (rfl : _ = AV.p (.c _))) ?_
  refine RK.As rfl<|RK.D<|AWp_ret ?_
  refine ends_one rfl (.inr rfl) (res_tmp rfl) ?_ O_ends
  exact Sub.bool (odd_yes hg1_)
 ·have hg1_ := of_decide_eq_false hg1
  refine RK.skip (guard_no rfl rfl hg1) ?_
  refine RK.skip (guard_no rfl rfl hg1) ?_
  refine RK.skip (guard_no rfl rfl hg1) ?_
  refine RK.skip (guard_no rfl rfl hg1) ?_
  refine RK.skip (guard_no rfl rfl hg1) ?_
  refine RK.skip (guard_no rfl rfl hg1) ?_
  refine RK.V (op_pick_f rfl hg1 (rfl : _ = AV.p (.c _))) ?_
  refine RK.As rfl<|RK.D<|AWp_ret ?_
  refine ends_one rfl (.inr rfl) (res_tmp rfl) ?_ O_ends
  exact Sub.bool (odd_no hg1_)
theorem m_mod (x y : Int) (hx : L 44 x) (hy : L 44 y) (h0 : y ≠ 0) :
  Call0 Tryz.prog 215 [I x, I y] (I (x % y)) := by
 have ix : LB x 44 := ⟨hx⟩
 have iy : LB y 44 := ⟨hy⟩
 refine callM_of (np := 0) Tryz.func215 (by kernel_rfl) rfl rfl (Nat.le_of_ble_eq_true rfl) (fun m h => absurd rfl h) (fun m h => absurd rfl h) rfl ?_
 refine AWp_sr hP<|RK.alc guard_none (op_box rfl rfl)<|RK.alc guard_none (op_box rfl rfl)<|RK.alc guard_none (op_alloc hT rfl rfl)<|RK.D<|AWp_sr hP<|RK.G2 hT rfl rfl rfl rfl rfl rfl<|RK.G2 hT rfl rfl rfl rfl rfl rfl<|RK.V (Eff.call0 (int_DivMod _ _ lz lz h0)) ?_
 refine RK.V (op_move (rfl : _ = AV.t _))<|RK.V (op_extract rfl (v := .a _) rfl)<|RK.V (op_extract rfl (v := .a _) rfl)<|RK.V (op_extract rfl (v := .c _) rfl)<|RK.alc guard_none (op_alloc hT rfl rfl)<|RK.alc guard_none (op_alloc hT rfl rfl)<|RK.S hT rfl rfl rfl rfl rfl rfl rfl<|RK.S hT rfl rfl rfl rfl rfl rfl rfl<|RK.As rfl<|RK.D<|AWp_sr hP<|RK.G2 hT rfl rfl rfl rfl rfl rfl<|RK.S hT rfl rfl rfl rfl rfl rfl rfl<|RK.D<|AWp_ret ?_
 refine ends_one rfl (.inr rfl) (res_cell_agg hT rfl rfl rfl rfl (cs := [_, _]) rfl rfl) ?_ O_ends
 exact .refl _
theorem m_div (x y : Int) (hx : L 44 x) (hy : L 44 y) (h0 : y ≠ 0) :
  Call0 Tryz.prog 246 [I x, I y] (I (x / y)) := by
 have ix : LB x 44 := ⟨hx⟩
 have iy : LB y 44 := ⟨hy⟩
 refine callM_of (np := 0) Tryz.func246 (by kernel_rfl) rfl rfl (Nat.le_of_ble_eq_true rfl) (fun m h => absurd rfl h) (fun m h => absurd rfl h) rfl ?_
 refine AWp_sr hP<|RK.alc guard_none (op_box rfl rfl)<|RK.alc guard_none (op_box rfl rfl)<|RK.alc guard_none (op_alloc hT rfl rfl)<|RK.D<|AWp_sr hP<|RK.G2 hT rfl rfl rfl rfl rfl rfl<|RK.G2 hT rfl rfl rfl rfl rfl rfl<|RK.V (Eff.call0 (int_DivMod _ _ lz lz h0)) ?_
 refine RK.V (op_move (rfl : _ = AV.t _))<|RK.V (op_extract rfl (v := .a _) rfl)<|RK.V (op_extract rfl (v := .a _) rfl)<|RK.V (op_extract rfl (v := .c _) rfl)<|RK.alc guard_none (op_alloc hT rfl rfl)<|RK.alc guard_none (op_alloc hT rfl rfl)<|RK.S hT rfl rfl rfl rfl rfl rfl rfl<|RK.S hT rfl rfl rfl rfl rfl rfl rfl<|RK.As rfl<|RK.D<|AWp_sr hP<|RK.G2 hT rfl rfl rfl rfl rfl rfl<|RK.S hT rfl rfl rfl rfl rfl rfl rfl<|RK.D<|AWp_ret ?_
 refine ends_one rfl (.inr rfl) (res_cell_agg hT rfl rfl rfl rfl (cs := [_, _]) rfl rfl) ?_ O_ends
 exact .refl _
theorem m_low (x m : Int) (hm : m = 4 ∨ m = 8) :
  Call0 Tryz.prog 229 [I x, .p (.c (.v (.int .u32 m)))] (.p (.c (.v (.int .u32 (x % m))))) := by
 have hm0 : 0 < m ∧ m < 10 := by omega
 have hb := Int.emod_nonneg (x.natAbs : Int) (show m ≠ 0 by omega)
 have hb2 := Int.emod_lt_of_pos (x.natAbs : Int) hm0.1
 refine callM_of (np := 0) Tryz.func229 (by kernel_rfl) rfl rfl (Nat.le_of_ble_eq_true rfl) (fun m h => absurd rfl h) (fun m h => absurd rfl h) rfl ?_
 refine AWp_sr hP<|RK.alc guard_none (op_box rfl rfl)<|RK.As rfl<|RK.D<|AWp_seq<|AWp_sr hP<|RK.F hT rfl rfl rfl rfl rfl rfl<|RK.V (op_load_one hT rfl rfl rfl rfl (by first | rfl | exact vget (by omega))) ?_
 refine RK.V (op_len hT rfl rfl rfl rfl)<|RK.V (op_eql rfl rfl) ?_
 refine RK.D ?_
 refine AWp_cond rfl (fun hb1 => ?_) (fun hb1 => ?_)
 ·have hb1_ := bT hb1
  refine AWp_sr hP<|RK.As rfl<|RK.D<|AWp_ret ?_
  refine ends_one rfl (.inr rfl) (res_tmp rfl) ?_ O_ends
  exact Sub.of_eq (by rw [low_zero hb1_])
 ·have hb1_ := bF hb1
  refine AWp_skip<|AWp_sr hP<|RK.F hT rfl rfl rfl rfl rfl rfl<|RK.V (op_load_one hT rfl rfl rfl rfl (by first | rfl | exact vget (by omega))) ?_
  refine RK.V (by first | exact op_index_WN hT rfl rfl rfl rfl rfl rfl (by omega) | exact op_index_sl hT rfl rfl rfl rfl rfl rfl (by omega) (by first | exact W_ne (by omega) | simp)) ?_
  refine RK.V (op_load_ip_one hT rfl rfl rfl (by first | rfl | exact wget (by omega))) ?_
  refine RK.M rfl<|RK.V (op_rem rfl rfl (by omega) (c := (x.natAbs : Int) % m) (by rw [Int.tmod_eq_emod_of_nonneg (by omega)]; exact low_get hm hb1_)) ?_
  refine RK.As rfl<|RK.D<|AWp_seq<|AWp_sr hP<|RK.F hT rfl rfl rfl rfl rfl rfl<|RK.V (op_load_one hT rfl rfl rfl rfl (by first | rfl | exact vget (by omega))) ?_
  refine RK.M rfl ?_
  refine RK.split (t := 18) rfl (fun hg2 => ?_) (fun hg2 => ?_)
  ·refine RK.val (guard_yes rfl rfl hg2) (op_move (rfl : _ = AV.p (.c _))) ?_
   refine RK.val (guard_yes rfl rfl hg2) (op_gtr rfl rfl) ?_
   refine RK.V (op_pick_t rfl hg2 (rfl : _ = AV.p (.c _))) ?_
   refine RK.D ?_
   refine AWp_cond rfl (fun hb3 => ?_) (fun hb3 => ?_)
   ·have hb3_ := of_decide_eq_true hb3
    refine AWp_region hP<|RK.M rfl<|RK.M rfl<|RK.V (op_sub rfl rfl (by first | exact IntWalk.u32_in _ (by omega) | rfl)) ?_
    refine RK.As rfl<|RK.D<|AWp_sr hP<|RK.M rfl<|RK.As rfl<|RK.D<|AWp_ret ?_
    refine ends_one rfl (.inr rfl) (res_tmp rfl) ?_ O_ends
    exact Sub.of_eq (by rw [low_neg hm (of_decide_eq_true hg2) hb3_])
   ·have hb3_ := of_decide_eq_false hb3
    refine AWp_skip<|AWp_sr hP<|RK.M rfl<|RK.As rfl<|RK.D<|AWp_ret ?_
    refine ends_one rfl (.inr rfl) (res_tmp rfl) ?_ O_ends
    exact Sub.of_eq (by rw [low_neg0 hm (of_decide_eq_true hg2) hb3_])
  ·refine RK.skip (guard_no rfl rfl hg2) ?_
   refine RK.skip (guard_no rfl rfl hg2) ?_
   refine RK.V (op_pick_f rfl hg2 (rfl : _ = AV.p (.c _))) ?_
   refine RK.D<|AWp_cond_false rfl rfl ?_
   refine AWp_skip<|AWp_sr hP<|RK.M rfl<|RK.As rfl<|RK.D<|AWp_ret ?_
   refine ends_one rfl (.inr rfl) (res_tmp rfl) ?_ O_ends
   exact Sub.of_eq (by rw [low_pos (of_decide_eq_false hg2)])
end Go.Proofs.YtpaifigafaijpaaGreatDoor
end
section
namespace Go.Proofs.YtpaifigafaijpaaGreatDoor
open Go Go.AM
theorem m_twos (x : Int) (hx : L 40 x) (h0 : x ≠ 0) :
  Call0 Tryz.prog 228 [I x] (.t [PI (tw x).1, PE (tw x).2]) := by
 refine callM_of (np := 0) Tryz.func228 (by kernel_rfl) rfl rfl (Nat.le_of_ble_eq_true rfl) (fun m h => absurd rfl h) (fun m h => absurd rfl h) rfl ?_
 refine AWp_sr hP<|RK.alc guard_none (op_box rfl rfl)<|RK.alc guard_none (op_alloc hT rfl rfl)<|RK.As rfl<|RK.D<|AWp_sr hP<|RK.As rfl<|RK.D<|AWp_seq<|AWp_block<|AWp_loop (ι := Int × Int) (fun p => stL [(1, .loc 1 0), (2, .loc 2 0), (4, Z p.2)] [(1, ⟨false, 1, 36, [zn (p.1), zm (p.1)]⟩), (2, ⟨false, 1, 36, [zn (0), zm (0)]⟩)]) (fun p => TwI x p.1 p.2) (fun p => p.1.natAbs) (x, 0) (TwI.start hx h0) (le_stL ⟨.refl _, .refl _, .refl _, trivial⟩ ⟨rfl, rfl, trivial⟩) ?_
 rintro p hI
 have hlt := hI.lt hx
 have hk0 := hI.k0
 have ib : LB p.1 40 := ⟨hI.lb⟩
 refine AWp_seq<|AWp_sr hP<|RK.G2 hT rfl rfl rfl rfl rfl rfl<|RK.V (Eff.call0 (m_odd _)) ?_
 refine RK.V (op_unot rfl) ?_
 refine RK.D ?_
 refine AWp_cond rfl (fun hb1 => ?_) (fun hb1 => ?_)
 ·have hb1_ := (notT hb1)
  refine AWp_skip<|AWp_block<|AWp_sr hP<|RK.G2 hT rfl rfl rfl rfl rfl rfl<|RK.V (Eff.call0 (m_of _ (by first | assumption | decide))) ?_
  refine RK.V (Eff.call0 (m_div _ _ lz lz (by first | assumption | decide))) ?_
  refine RK.S hT rfl rfl rfl rfl rfl rfl rfl<|RK.D<|AWp_region hP<|RK.M rfl<|RK.V (op_add rfl rfl (by first | exact IntWalk.i64_in _ (by omega) | rfl)) ?_
  refine RK.As rfl<|RK.D ?_
  refine ⟨(p.1 / 2, p.2 + 1), (hI.next (by simpa using hb1)).1, (hI.next (by simpa using hb1)).2, le_stL ⟨.refl _, .refl _, .refl _, trivial⟩ ⟨rfl, rfl, trivial⟩⟩
 ·have hb1_ := (notF hb1)
  refine AWp_exit<|AWp_sr hP<|RK.G2 hT rfl rfl rfl rfl rfl rfl<|RK.M rfl<|RK.S hT rfl rfl rfl rfl rfl rfl rfl<|RK.As rfl<|RK.D<|AWp_ret ?_
  refine ends_two rfl (.inr rfl) (res_cell_agg hT rfl rfl rfl rfl (cs := [_, _]) rfl rfl) (res_tmp rfl) ?_ O_ends
  exact Sub.of_eq (by rw [tw_stop (by simpa using hb1) hI.tw])
theorem m_Kronecker (a m : Int) (ha : L 40 a) (hm : L 40 m) :
  Call0 Tryz.prog 192 [I a, I m] (Z (kr a m)) := by
 have ia : LB a 40 := ⟨ha⟩
 have im : LB m 40 := ⟨hm⟩
 have hkb := k0K_b a m
 have hsg := k_sg (x := a) hkb
 have hsg0 := Int.emod_nonneg a (show (8 : Int) ≠ 0 by omega)
 have hsg1 := Int.emod_lt_of_pos a (show (0 : Int) < 8 by omega)
 refine callM_of (np := 0) Tryz.func192 (by kernel_rfl) rfl rfl (Nat.le_of_ble_eq_true rfl) (fun m h => absurd rfl h) (fun m h => absurd rfl h) rfl ?_
 refine AWp_sr hP<|RK.alc guard_none (op_box rfl rfl)<|RK.alc guard_none (op_box rfl rfl)<|RK.As rfl<|RK.D<|AWp_seq<|AWp_sr hP<|RK.G2 hT rfl rfl rfl rfl rfl rfl<|RK.V (Eff.call0 (int_Sign _)) ?_
 refine RK.V (op_eql rfl rfl) ?_
 refine RK.D ?_
 refine AWp_cond rfl (fun hb1 => ?_) (fun hb1 => ?_)
 ·have hb1_ := bT hb1
  refine AWp_seq<|AWp_sr hP<|RK.G2 hT rfl rfl rfl rfl rfl rfl<|RK.V (Eff.call0 (int_Abs _)) ?_
  refine RK.V (Eff.call0 (m_one _)) ?_
  refine RK.D ?_
  refine AWp_cond rfl (fun hb2 => ?_) (fun hb2 => ?_)
  ·refine AWp_sr hP<|RK.As rfl<|RK.D<|AWp_ret ?_
   refine ends_one rfl (.inr rfl) (res_tmp rfl) ?_ O_ends
   exact Sub.int (kr_0 (sgn_zero_iff.1 hb1_) (of_decide_eq_true hb2))
  ·refine AWp_skip<|AWp_sr hP<|RK.As rfl<|RK.D<|AWp_ret ?_
   refine ends_one rfl (.inr rfl) (res_tmp rfl) ?_ O_ends
   exact Sub.int (kr_00 (sgn_zero_iff.1 hb1_) (of_decide_eq_false hb2))
 ·have hb1_ := bF hb1
  refine AWp_skip<|AWp_seq_cut (ι := Unit) (fun _ => stL [(2, .loc 2 0), (3, .loc 3 0)] [(2, ⟨false, 1, 36, [zn (a), zm (a)]⟩), (3, ⟨false, 1, 36, [zn (m), zm (m)]⟩)]) (fun _ => ¬ (oddB a = false ∧ oddB m = false)) ?_ ?_
  ·refine AWp_sr hP<|RK.G2 hT rfl rfl rfl rfl rfl rfl<|RK.V (Eff.call0 (m_odd _)) ?_
   refine RK.V (op_unot rfl) ?_
   refine RK.M rfl ?_
   refine RK.split (t := 16) rfl (fun hg3 => ?_) (fun hg3 => ?_)
   ·have hg3_ := (notT hg3)
    refine RK.val (guard_yes rfl rfl hg3) (op_load_agg hT rfl rfl rfl rfl (cs := [_, _]) rfl rfl) ?_
    refine RK.val (guard_yes rfl rfl hg3) (Eff.call0 (m_odd _)) ?_
    refine RK.val (guard_yes rfl rfl hg3) (op_unot rfl) ?_
    refine RK.V (op_pick_t rfl hg3 (rfl : _ = AV.p (.c _))) ?_
    refine RK.D ?_
    refine AWp_cond rfl (fun hb4 => ?_) (fun hb4 => ?_)
    ·have hb4_ := (notT hb4)
     refine AWp_sr hP<|RK.As rfl<|RK.D<|AWp_ret ?_
     refine ends_one rfl (.inr rfl) (res_tmp rfl) ?_ O_ends
     exact Sub.int (kr_even (fun e => hb1_ (sgn_zero_iff.2 e)) hg3_ hb4_)
    ·have hb4_ := (notF hb4)
     refine AWp_skip ?_
     refine ⟨(), fun x => (by rw [x.2] at hb4_; cases hb4_), le_stL ⟨.refl _, .refl _, trivial⟩ ⟨rfl, rfl, trivial⟩⟩
   ·have hg3_ := (notF hg3)
    refine RK.skip (guard_no rfl rfl hg3) ?_
    refine RK.skip (guard_no rfl rfl hg3) ?_
    refine RK.skip (guard_no rfl rfl hg3) ?_
    refine RK.V (op_pick_f rfl hg3 (rfl : _ = AV.p (.c _))) ?_
    refine RK.D<|AWp_cond_false rfl rfl ?_
    refine AWp_skip ?_
    refine ⟨(), fun x => (by rw [x.1] at hg3_; cases hg3_), le_stL ⟨.refl _, .refl _, trivial⟩ ⟨rfl, rfl, trivial⟩⟩
  intro _ hpar
  refine AWp_sr hP<|RK.As rfl<|RK.D<|AWp_seq_cut (ι := Unit) (fun _ => stL [(2, .loc 2 0), (3, .loc 3 0), (5, Z (k0K a m))] [(2, ⟨false, 1, 36, [zn (a), zm (a)]⟩), (3, ⟨false, 1, 36, [zn ((m.natAbs : Int)), zm ((m.natAbs : Int))]⟩)]) (fun _ => True) ?_ ?_
  ·refine AWp_sr hP<|RK.F hT rfl rfl rfl rfl rfl rfl<|RK.V (op_load_one hT rfl rfl rfl rfl (by first | rfl | exact vget (by omega))) ?_
   refine RK.D ?_
   refine AWp_cond rfl (fun hb5 => ?_) (fun hb5 => ?_)
   ·refine AWp_seq<|AWp_sr hP<|RK.F hT rfl rfl rfl rfl rfl rfl<|RK.V (op_load_one hT rfl rfl rfl rfl (by first | rfl | exact vget (by omega))) ?_
    refine RK.D ?_
    refine AWp_cond rfl (fun hb6 => ?_) (fun hb6 => ?_)
    ·refine AWp_region hP<|RK.As rfl<|RK.D<|AWp_region hP<|RK.G2 hT rfl rfl rfl rfl rfl rfl<|RK.V (Eff.call0 (int_Neg _)) ?_
     refine RK.S hT rfl rfl rfl rfl rfl rfl rfl<|RK.D ?_
     refine ⟨(), trivial, le_stL ⟨.refl _, .refl _, Sub.int (by unfold k0K; rw [if_pos ⟨of_decide_eq_true hb5, of_decide_eq_true hb6⟩]), trivial⟩ ⟨rfl, by rw [neg_abs (of_decide_eq_true hb5)]; rfl, trivial⟩⟩
    ·refine AWp_skip<|AWp_region hP<|RK.G2 hT rfl rfl rfl rfl rfl rfl<|RK.V (Eff.call0 (int_Neg _)) ?_
     refine RK.S hT rfl rfl rfl rfl rfl rfl rfl<|RK.D ?_
     refine ⟨(), trivial, le_stL ⟨.refl _, .refl _, Sub.int (by unfold k0K; rw [if_neg (fun x => of_decide_eq_false hb6 x.2)]), trivial⟩ ⟨rfl, by rw [neg_abs (of_decide_eq_true hb5)]; rfl, trivial⟩⟩
   ·refine AWp_skip ?_
    refine ⟨(), trivial, le_stL ⟨.refl _, .refl _, Sub.int (by unfold k0K; rw [if_neg (fun x => of_decide_eq_false hb5 x.1)]), trivial⟩ ⟨rfl, by rw [pos_abs (of_decide_eq_false hb5)]; rfl, trivial⟩⟩
  intro _ _
  have hn0 : (m.natAbs : Int) ≠ 0 := fun e => hb1_ (sgn_zero_iff.2 (by omega))
  refine AWp_sr hP<|RK.G2 hT rfl rfl rfl rfl rfl rfl<|RK.V (Eff.call0 (m_twos _ lz hn0)) ?_
  refine RK.V (op_move (rfl : _ = AV.t _))<|RK.V (op_extract rfl (v := .a _) rfl)<|RK.V (op_extract rfl (v := .c _) rfl)<|RK.S hT rfl rfl rfl rfl rfl rfl rfl<|RK.As rfl<|RK.D<|AWp_seq_cut (ι := Unit) (fun _ => stL [(2, .loc 2 0), (3, .loc 3 0), (5, Z (k1K a m))] [(2, ⟨false, 1, 36, [zn (a), zm (a)]⟩), (3, ⟨false, 1, 36, [zn ((tw (m.natAbs : Int)).1), zm ((tw (m.natAbs : Int)).1)]⟩)]) (fun _ => True) ?_ ?_
  ·refine AWp_sr hP<|RK.M rfl<|RK.V (op_rem rfl rfl (by decide) (c := (tw (m.natAbs : Int)).2 % 2) (Int.tmod_eq_emod_of_nonneg (by have := tw_c (x := (m.natAbs : Int)) lz hn0; omega))) ?_
   refine RK.V (op_eql rfl rfl) ?_
   refine RK.D ?_
   refine AWp_cond rfl (fun hb7 => ?_) (fun hb7 => ?_)
   ·have hb7_ := bT hb7
    refine AWp_region hP<|RK.M rfl<|RK.G2 hT rfl rfl rfl rfl rfl rfl<|RK.V (Eff.call0 (m_low _ _ (by simp))) ?_
    refine RK.V (op_index_glob hT rfl rfl rfl rfl (.head _) rfl rfl (by omega)) ?_
    refine RK.V (op_load_ip_one hT rfl rfl rfl (sg8_get a)) ?_
    refine RK.V (op_mul rfl rfl (by first | exact IntWalk.i64_in _ (by omega) | rfl)) ?_
    refine RK.As rfl<|RK.D ?_
    refine ⟨(), trivial, le_stL ⟨.refl _, .refl _, Sub.int (by unfold k1K; rw [if_pos hb7_]), trivial⟩ ⟨rfl, rfl, trivial⟩⟩
   ·have hb7_ := bF hb7
    refine AWp_skip ?_
    refine ⟨(), trivial, le_stL ⟨.refl _, .refl _, Sub.int (by unfold k1K; rw [if_neg hb7_]), trivial⟩ ⟨rfl, rfl, trivial⟩⟩
  intro _ _
  have htw : LB (tw (m.natAbs : Int)).1 40 := tw_L lz hn0
  have ht0 : (tw (m.natAbs : Int)).1 ≠ 0 := (tw_abs _ _ (Nat.le_refl _) hn0).2.1
  refine AWp_sr hP<|RK.G2 hT rfl rfl rfl rfl rfl rfl<|RK.G2 hT rfl rfl rfl rfl rfl rfl<|RK.V (Eff.call0 (m_mod _ _ lz lz ht0)) ?_
  refine RK.S hT rfl rfl rfl rfl rfl rfl rfl<|RK.D<|AWp_seq<|AWp_block<|AWp_loop (ι := (Int × Int × Int) × Nat) (fun i => stL [(2, .loc 2 0), (3, .loc 3 0), (5, Z (i.1.1))] [(2, ⟨false, 1, 36, [zn (i.1.2.1), zm (i.1.2.1)]⟩), (3, ⟨false, 1, 36, [zn (i.1.2.2), zm (i.1.2.2)]⟩)]) (fun i => KrI (RK_ a m) i.2 i.1.1 i.1.2.1 i.1.2.2) (fun i => i.1.2.1.natAbs) ((k1K a m, a % (tw (m.natAbs : Int)).1, (tw (m.natAbs : Int)).1), _) (KrI.start (fun e => hb1_ (sgn_zero_iff.2 e)) ha hm) (le_stL ⟨.refl _, .refl _, .refl _, trivial⟩ ⟨rfl, rfl, trivial⟩) ?_
  rintro i hI
  have h5 := hI.hk
  have j1 : LB i.1.2.1 40 := ⟨hI.la⟩
  have j2 : LB i.1.2.2 40 := ⟨hI.ln⟩
  refine AWp_seq<|AWp_sr hP<|RK.G2 hT rfl rfl rfl rfl rfl rfl<|RK.V (Eff.call0 (int_Sign _)) ?_
  refine RK.V (op_gtr rfl rfl) ?_
  refine RK.D ?_
  refine AWp_cond rfl (fun hb8 => ?_) (fun hb8 => ?_)
  ·have hb8_ := of_decide_eq_true hb8
   have hapos : 0 < i.1.2.1 := sgn_gt_iff.1 hb8_
   have hne : i.1.2.1 ≠ 0 := by omega
   have hsg2 := k_sg (x := i.1.2.2) h5
   have hkk := KrI.next hI hapos
   have hw : LB (tw i.1.2.1).1 40 := tw_L hI.la hne
   have hw0 : (tw i.1.2.1).1 ≠ 0 := (tw_abs _ _ (Nat.le_refl _) hne).2.1
   have hk1b := k1F_b (a := i.1.2.1) (n := i.1.2.2) h5
   have hsg0 := Int.emod_nonneg i.1.2.2 (show (8 : Int) ≠ 0 by omega)
   have hsg1 := Int.emod_lt_of_pos i.1.2.2 (show (0 : Int) < 8 by omega)
   refine AWp_skip<|AWp_block<|AWp_sr hP<|RK.G2 hT rfl rfl rfl rfl rfl rfl<|RK.V (Eff.call0 (m_twos _ lz hne)) ?_
   refine RK.V (op_move (rfl : _ = AV.t _))<|RK.V (op_extract rfl (v := .a _) rfl)<|RK.V (op_extract rfl (v := .c _) rfl)<|RK.S hT rfl rfl rfl rfl rfl rfl rfl<|RK.As rfl<|RK.D<|AWp_seq_cut (ι := Unit) (fun _ => stL [(2, .loc 2 0), (3, .loc 3 0), (5, Z ((k1F i.1.1 i.1.2.1 i.1.2.2)))] [(2, ⟨false, 1, 36, [zn ((tw i.1.2.1).1), zm ((tw i.1.2.1).1)]⟩), (3, ⟨false, 1, 36, [zn (i.1.2.2), zm (i.1.2.2)]⟩)]) (fun _ => True) ?_ ?_
   ·refine AWp_sr hP<|RK.M rfl<|RK.V (op_rem rfl rfl (by decide) (c := (tw i.1.2.1).2 % 2) (Int.tmod_eq_emod_of_nonneg (by have := tw_c (x := i.1.2.1) lz hne; omega))) ?_
    refine RK.V (op_eql rfl rfl) ?_
    refine RK.D ?_
    refine AWp_cond rfl (fun hb9 => ?_) (fun hb9 => ?_)
    ·have hb9_ := bT hb9
     refine AWp_region hP<|RK.M rfl<|RK.G2 hT rfl rfl rfl rfl rfl rfl<|RK.V (Eff.call0 (m_low _ _ (by simp))) ?_
     refine RK.V (op_index_glob hT rfl rfl rfl rfl (.head _) rfl rfl (by omega)) ?_
     refine RK.V (op_load_ip_one hT rfl rfl rfl (sg8_get i.1.2.2)) ?_
     refine RK.V (op_mul rfl rfl (by first | exact IntWalk.i64_in _ (by omega) | rfl)) ?_
     refine RK.As rfl<|RK.D ?_
     refine ⟨(), trivial, le_stL ⟨.refl _, .refl _, Sub.int (by unfold k1F; rw [if_pos hb9_]), trivial⟩ ⟨rfl, rfl, trivial⟩⟩
    ·have hb9_ := bF hb9
     refine AWp_skip ?_
     refine ⟨(), trivial, le_stL ⟨.refl _, .refl _, Sub.int (by unfold k1F; rw [if_neg hb9_]), trivial⟩ ⟨rfl, rfl, trivial⟩⟩
   intro _ _
   refine AWp_seq<|AWp_sr hP<|RK.G2 hT rfl rfl rfl rfl rfl rfl<|RK.V (Eff.call0 (m_low _ _ (by simp))) ?_
   refine RK.V (op_eql rfl rfl) ?_
   refine RK.M rfl ?_
   refine RK.split (t := 64) rfl (fun hg10 => ?_) (fun hg10 => ?_)
   ·have hg10_ := bT hg10
    refine RK.val (guard_yes rfl rfl hg10) (op_load_agg hT rfl rfl rfl rfl (cs := [_, _]) rfl rfl) ?_
    refine RK.val (guard_yes rfl rfl hg10) (Eff.call0 (m_low _ _ (by simp))) ?_
    refine RK.val (guard_yes rfl rfl hg10) (op_eql rfl rfl) ?_
    refine RK.V (op_pick_t rfl hg10 (rfl : _ = AV.p (.c _))) ?_
    refine RK.D ?_
    refine AWp_cond rfl (fun hb11 => ?_) (fun hb11 => ?_)
    ·have hb11_ := bT hb11
     refine AWp_region hP<|RK.M rfl<|RK.V (op_uneg rfl (by first | exact IntWalk.i64_in _ (by omega) | rfl)) ?_
     refine RK.As rfl<|RK.D<|AWp_region hP<|RK.G2 hT rfl rfl rfl rfl rfl rfl<|RK.G2 hT rfl rfl rfl rfl rfl rfl<|RK.V (Eff.call0 (m_mod _ _ lz lz hw0)) ?_
     refine RK.G2 hT rfl rfl rfl rfl rfl rfl<|RK.S hT rfl rfl rfl rfl rfl rfl rfl<|RK.S hT rfl rfl rfl rfl rfl rfl rfl<|RK.D ?_
     refine ⟨((k2F (k1F i.1.1 i.1.2.1 i.1.2.2) i.1.2.1 i.1.2.2, i.1.2.2 % (tw i.1.2.1).1, (tw i.1.2.1).1), i.2 - 1), (hI.next hapos).1, (hI.next hapos).2, le_stL ⟨.refl _, .refl _, Sub.int (by show _ = k2F _ _ _; unfold k2F; rw [if_pos ⟨hg10_, hb11_⟩]; omega), trivial⟩ ⟨rfl, rfl, trivial⟩⟩
    ·have hb11_ := bF hb11
     refine AWp_skip<|AWp_region hP<|RK.G2 hT rfl rfl rfl rfl rfl rfl<|RK.G2 hT rfl rfl rfl rfl rfl rfl<|RK.V (Eff.call0 (m_mod _ _ lz lz hw0)) ?_
     refine RK.G2 hT rfl rfl rfl rfl rfl rfl<|RK.S hT rfl rfl rfl rfl rfl rfl rfl<|RK.S hT rfl rfl rfl rfl rfl rfl rfl<|RK.D ?_
     refine ⟨((k2F (k1F i.1.1 i.1.2.1 i.1.2.2) i.1.2.1 i.1.2.2, i.1.2.2 % (tw i.1.2.1).1, (tw i.1.2.1).1), i.2 - 1), (hI.next hapos).1, (hI.next hapos).2, le_stL ⟨.refl _, .refl _, Sub.int (by show _ = k2F _ _ _; unfold k2F; rw [if_neg (fun x => hb11_ x.2)]), trivial⟩ ⟨rfl, rfl, trivial⟩⟩
   ·have hg10_ := bF hg10
    refine RK.skip (guard_no rfl rfl hg10) ?_
    refine RK.skip (guard_no rfl rfl hg10) ?_
    refine RK.skip (guard_no rfl rfl hg10) ?_
    refine RK.V (op_pick_f rfl hg10 (rfl : _ = AV.p (.c _))) ?_
    refine RK.D<|AWp_cond_false rfl rfl ?_
    refine AWp_skip<|AWp_region hP<|RK.G2 hT rfl rfl rfl rfl rfl rfl<|RK.G2 hT rfl rfl rfl rfl rfl rfl<|RK.V (Eff.call0 (m_mod _ _ lz lz hw0)) ?_
    refine RK.G2 hT rfl rfl rfl rfl rfl rfl<|RK.S hT rfl rfl rfl rfl rfl rfl rfl<|RK.S hT rfl rfl rfl rfl rfl rfl rfl<|RK.D ?_
    refine ⟨((k2F (k1F i.1.1 i.1.2.1 i.1.2.2) i.1.2.1 i.1.2.2, i.1.2.2 % (tw i.1.2.1).1, (tw i.1.2.1).1), i.2 - 1), (hI.next hapos).1, (hI.next hapos).2, le_stL ⟨.refl _, .refl _, Sub.int (by show _ = k2F _ _ _; unfold k2F; rw [if_neg (fun x => hg10_ x.1)]), trivial⟩ ⟨rfl, rfl, trivial⟩⟩
  ·have hb8_ := of_decide_eq_false hb8
   refine AWp_exit<|AWp_seq<|AWp_sr hP<|RK.G2 hT rfl rfl rfl rfl rfl rfl<|RK.V (Eff.call0 (m_one _)) ?_
   refine RK.V (op_unot rfl) ?_
   refine RK.D ?_
   refine AWp_cond rfl (fun hb12 => ?_) (fun hb12 => ?_)
   ·have hb12_ := (notT hb12)
    refine AWp_sr hP<|RK.As rfl<|RK.D<|AWp_ret ?_
    refine ends_one rfl (.inr rfl) (res_tmp rfl) ?_ O_ends
    exact Sub.int (by rw [kr_go (fun e => hb1_ (sgn_zero_iff.2 e)) hpar, hI.stop (fun h => hb8_ (sgn_gt_iff.2 h)), if_neg (of_decide_eq_false hb12_)])
   ·have hb12_ := (notF hb12)
    refine AWp_skip<|AWp_sr hP<|RK.M rfl<|RK.As rfl<|RK.D<|AWp_ret ?_
    refine ends_one rfl (.inr rfl) (res_tmp rfl) ?_ O_ends
    exact Sub.int (by rw [kr_go (fun e => hb1_ (sgn_zero_iff.2 e)) hpar, hI.stop (fun h => hb8_ (sgn_gt_iff.2 h)), if_pos (of_decide_eq_true hb12_)])
end Go.Proofs.YtpaifigafaijpaaGreatDoor
end
section
end
section
namespace Go.Proofs.YtpaifigafaijpaaGreatDoor
open Go Go.AM
theorem r8_List (N : Int) (h3 : 3 ≤ N) (h4 : N ≤ 2003) :
  Call0 Tryz.prog 39 [Z N] (.p (.c (FS (lst N)))) := by
 refine callM_of (np := 0) Tryz.func39 (by kernel_rfl) rfl rfl (Nat.le_of_ble_eq_true rfl) (fun m h => absurd rfl h) (fun m h => absurd rfl h) rfl ?_
 refine AWp_sr hP<|RK.As rfl<|RK.D<|AWp_sr hP<|RK.alc guard_none (op_bslice_vec hT rfl rfl rfl (es := []) rfl rfl rfl) ?_
 refine RK.V (op_assign (rfl : _ = AV.vec _))<|RK.D<|AWp_rn 7 1000 rfl rfl rfl ?_
 refine AWp_seq<|AWp_sr hP<|RK.As rfl<|RK.D<|AWp_block<|AWp_loop (ι := List Fm × Int) (fun p => stL [(0, Z N), (3, .vec 1000), (4, Z p.2)] [(1000, FB 53 p.1)]) (fun p => p.1 ++ lsAll N (101 - p.2).toNat p.2 = lst N ∧ 1 ≤ p.2 ∧ p.2 ≤ 26 ∧ (p.1.length : Int) ≤ 60 * p.2) (fun p => (100 - p.2).toNat) ([], 1) ⟨ls_start N, by decide, by decide, by decide⟩ (le_stL ⟨.refl _, .refl _, .refl _, trivial⟩ ⟨rfl, trivial⟩) ?_
 rintro p ⟨hI, ha1, ha2, hlen⟩
 have hsq := a_sq ⟨ha1, ha2⟩
 refine AWp_seq<|AWp_sr hP<|RK.M rfl<|RK.V (op_mul rfl rfl (by first | exact IntWalk.i64_in _ (by omega) | rfl)) ?_
 refine RK.M rfl<|RK.V (op_mul rfl rfl (by first | exact IntWalk.i64_in _ (by omega) | rfl)) ?_
 refine RK.M rfl<|RK.V (op_leq rfl rfl) ?_
 refine RK.D ?_
 refine AWp_cond rfl (fun hb1 => ?_) (fun hb1 => ?_)
 ·have hb1_ := of_decide_eq_true hb1
  have ha3 := a_le ha1 hb1_ h4
  refine AWp_skip<|AWp_seq<|AWp_block<|AWp_sr hP<|RK.M rfl<|RK.V (op_uneg rfl (by first | exact IntWalk.i64_in _ (by omega) | rfl)) ?_
  refine RK.As rfl<|RK.D<|AWp_block<|AWp_loop (ι := List Fm × Int) (fun q => stL [(0, Z N), (3, .vec 1000), (4, Z p.2), (5, Z q.2)] [(1000, FB 53 q.1)]) (fun q => q.1 ++ (lsRow N p.2 (p.2 + 1 - q.2).toNat q.2 ++ lsAll N (100 - p.2).toNat (p.2 + 1)) = lst N ∧ -p.2 ≤ q.2 ∧ q.2 ≤ p.2 + 1 ∧ (q.1.length : Int) ≤ 60 * p.2 + (q.2 + p.2)) (fun q => (p.2 + 1 - q.2).toNat) (p.1, -p.2) ⟨ls_in hI ⟨ha1, by omega⟩ hb1_, by simp, by simp only; omega, by simp only; omega⟩ (le_stL ⟨.refl _, .refl _, .refl _, Sub.int (by omega), trivial⟩ ⟨rfl, trivial⟩) ?_
  rintro q ⟨hJ, hq1, hq2, hlen2⟩
  refine AWp_seq<|AWp_sr hP<|RK.M rfl<|RK.M rfl<|RK.V (op_leq rfl rfl) ?_
  refine RK.D ?_
  refine AWp_cond rfl (fun hb2 => ?_) (fun hb2 => ?_)
  ·have hb2_ := of_decide_eq_true hb2
   have qs := sq_b (x := q.2) (m := 25) (by omega)
   have qc := c_b (x := q.2 * q.2 + N) (y := 4 * p.2) (by omega) (by omega)
   have ja : InI64 p.2 := by unfold InI64; omega
   have jb : InI64 q.2 := by unfold InI64; omega
   have jc : InI64 ((q.2 * q.2 + N) / (4 * p.2)) := by unfold InI64; omega
   have ia : LB p.2 6 := ⟨by unfold L; omega⟩
   have ib : LB q.2 6 := ⟨by unfold L; omega⟩
   have ic : LB ((q.2 * q.2 + N) / (4 * p.2)) 6 := ⟨by unfold L; omega⟩
   refine AWp_skip<|AWp_seq<|AWp_block<|AWp_seq<|AWp_sr hP<|RK.M rfl<|RK.M rfl<|RK.V (op_mul rfl rfl (by first | exact IntWalk.i64_in _ (by omega) | rfl)) ?_
   refine RK.M rfl<|RK.V (op_add rfl rfl (by first | exact IntWalk.i64_in _ (by omega) | rfl)) ?_
   refine RK.M rfl<|RK.V (op_mul rfl rfl (by first | exact IntWalk.i64_in _ (by omega) | rfl)) ?_
   refine RK.V (op_rem rfl rfl (by omega) (c := (q.2 * q.2 + N) % (4 * p.2)) (Int.tmod_eq_emod_of_nonneg (by omega))) ?_
   refine RK.V (op_neq rfl rfl) ?_
   refine RK.D ?_
   refine AWp_cond rfl (fun hb3 => ?_) (fun hb3 => ?_)
   ·have hb3_ := bneT hb3
    refine AWp_exit<|AWp_region hP<|RK.M rfl<|RK.V (op_add rfl rfl (by first | exact IntWalk.i64_in _ (by omega) | rfl)) ?_
    refine RK.As rfl<|RK.D ?_
    refine ⟨(q.1, q.2 + 1), ⟨ls_no hJ hb2_ (okF_no1 hb3_), by simp only; omega, by simp only; omega, by simp only; omega⟩, by simp only; omega, le_stL ⟨.refl _, .refl _, .refl _, .refl _, trivial⟩ ⟨rfl, trivial⟩⟩
   ·have hb3_ := bneF hb3
    have hz : (q.2 * q.2 + N) % (4 * p.2) = 0 := bneF hb3
    refine AWp_skip<|AWp_sr hP<|RK.M rfl<|RK.M rfl<|RK.M rfl<|RK.M rfl<|RK.V (op_mul rfl rfl (by first | exact IntWalk.i64_in _ (by omega) | rfl)) ?_
    refine RK.M rfl<|RK.V (op_add rfl rfl (by first | exact IntWalk.i64_in _ (by omega) | rfl)) ?_
    refine RK.M rfl<|RK.V (op_mul rfl rfl (by first | exact IntWalk.i64_in _ (by omega) | rfl)) ?_
    refine RK.V (op_quo rfl rfl (by omega) (c := ((q.2 * q.2 + N) / (4 * p.2))) (by rw [Int.tdiv_eq_ediv_of_nonneg (by omega), IntWalk.i64_in _ (by omega)])) ?_
    refine RK.V (Eff.call0 (r8_Of _ _ _ (by first | assumption | decide) (by first | assumption | decide) (by first | assumption | decide))) ?_
    refine RK.alc guard_none (op_alloc hT rfl rfl)<|RK.S hT rfl rfl rfl rfl rfl rfl rfl<|RK.D<|AWp_sr hP<|RK.G6 hT rfl rfl rfl rfl rfl rfl<|RK.V (Eff.call0 (r8_Reduced _ _ _ lz lz lz)) ?_
    refine RK.M rfl ?_
    refine RK.split (t := 45) rfl (fun hg4 => ?_) (fun hg4 => ?_)
    ·refine RK.val (guard_yes rfl rfl hg4) (op_load_agg hT rfl rfl rfl rfl (cs := [_, _, _, _, _, _]) rfl rfl) ?_
     refine RK.val (guard_yes rfl rfl hg4) (Eff.call0 (r8_Primitive _ _ _ lz lz lz)) ?_
     refine RK.V (op_pick_t rfl hg4 (rfl : _ = AV.p (.c _))) ?_
     refine RK.D ?_
     refine AWp_cond rfl (fun hb5 => ?_) (fun hb5 => ?_)
     ·refine AWp_region hP<|RK.V (op_move (rfl : _ = AV.vec _))<|RK.G6 hT rfl rfl rfl rfl rfl rfl<|RK.V (op_bslice hT rfl rfl rfl (es := [_, _, _, _, _, _]) rfl rfl rfl) ?_
      refine RK.app guard_none (op_appendF hT rfl rfl rfl rfl rfl rfl rfl (f := ⟨p.2, q.2, ((q.2 * q.2 + N) / (4 * p.2))⟩) rfl (by omega) (by decide)) ?_
      refine RK.V (op_assign (rfl : _ = AV.vec _))<|RK.D<|AWp_rn 52 1000 rfl rfl rfl ?_
      refine AWp_region hP<|RK.M rfl<|RK.V (op_add rfl rfl (by first | exact IntWalk.i64_in _ (by omega) | rfl)) ?_
      refine RK.As rfl<|RK.D ?_
      refine ⟨(q.1 ++ [⟨p.2, q.2, ((q.2 * q.2 + N) / (4 * p.2))⟩], q.2 + 1), ⟨ls_yes hJ hb2_ (by rw [okF_of hz, hg4, hb5]; rfl), by simp only; omega, by simp only; omega, by simp only [List.length_append, List.length_singleton]; omega⟩, by simp only; omega, le_stL ⟨.refl _, .refl _, .refl _, .refl _, trivial⟩ ⟨rfl, trivial⟩⟩
     ·refine AWp_skip<|AWp_region hP<|RK.M rfl<|RK.V (op_add rfl rfl (by first | exact IntWalk.i64_in _ (by omega) | rfl)) ?_
      refine RK.As rfl<|RK.D ?_
      refine ⟨(q.1, q.2 + 1), ⟨ls_no hJ hb2_ (by rw [okF_of hz, hg4, hb5]; rfl), by simp only; omega, by simp only; omega, by simp only; omega⟩, by simp only; omega, le_stL ⟨.refl _, .refl _, .refl _, .refl _, trivial⟩ ⟨rfl, trivial⟩⟩
    ·refine RK.skip (guard_no rfl rfl hg4) ?_
     refine RK.skip (guard_no rfl rfl hg4) ?_
     refine RK.V (op_pick_f rfl hg4 (rfl : _ = AV.p (.c _))) ?_
     refine RK.D<|AWp_cond_false rfl rfl ?_
     refine AWp_skip<|AWp_region hP<|RK.M rfl<|RK.V (op_add rfl rfl (by first | exact IntWalk.i64_in _ (by omega) | rfl)) ?_
     refine RK.As rfl<|RK.D ?_
     refine ⟨(q.1, q.2 + 1), ⟨ls_no hJ hb2_ (by rw [okF_of hz, hg4]; rfl), by simp only; omega, by simp only; omega, by simp only; omega⟩, by simp only; omega, le_stL ⟨.refl _, .refl _, .refl _, .refl _, trivial⟩ ⟨rfl, trivial⟩⟩
  ·have hb2_ := of_decide_eq_false hb2
   refine AWp_exit<|AWp_region hP<|RK.M rfl<|RK.V (op_add rfl rfl (by first | exact IntWalk.i64_in _ (by omega) | rfl)) ?_
   refine RK.As rfl<|RK.D ?_
   refine ⟨(q.1, p.2 + 1), ⟨ls_out hJ hb2_, by omega, by omega, by simp only; omega⟩, by simp only; omega, le_stL ⟨.refl _, .refl _, .refl _, trivial⟩ ⟨rfl, trivial⟩⟩
 ·have hb1_ := of_decide_eq_false hb1
  refine AWp_exit<|AWp_sr hP<|RK.V (op_move (rfl : _ = AV.vec _))<|RK.V (op_assign (rfl : _ = AV.vec _))<|RK.D<|AWp_freezeF (t := 2) rfl rfl ?_
  refine AWp_ret ?_
  refine ends_one rfl (.inr rfl) (res_tmp rfl) ?_ O_ends
  exact Sub.of_eq (by rw [ls_end hI hb1_])
theorem r8_Size (D i0 i1 i2 i3 m0 m1 m2 m3 : Nat) (_hD : D < 65536) (_g0 : i0 < 65536) (_g1 : i1 < 65536) (_g2 : i2 < 65536) (_g3 : i3 < 65536) (_k0 : m0 < 256) (_k1 : m1 < 256) (_k2 : m2 < 256) (_k3 : m3 < 256) :
  Call0 Tryz.prog 18 [.p (.a [.v (.int .u16 (D : Int)), .v (.int .u16 (i0 : Int)), .v (.int .u16 (i1 : Int)), .v (.int .u16 (i2 : Int)), .v (.int .u16 (i3 : Int)), .v (.int .u8 (m0 : Int)), .v (.int .u8 (m1 : Int)), .v (.int .u8 (m2 : Int)), .v (.int .u8 (m3 : Int))])] (Z (szz D)) := by
 obtain ⟨s1, s2, s3, s4, s5⟩ := szz_spec D
 have d1 := Int.emod_nonneg (D : Int) (show (2000 : Int) ≠ 0 by omega)
 have d2 := Int.emod_lt_of_pos (D : Int) (show (0 : Int) < 2000 by omega)
 refine callM_of (np := 0) Tryz.func18 (by kernel_rfl) rfl rfl (Nat.le_of_ble_eq_true rfl) (fun m h => absurd rfl h) (fun m h => absurd rfl h) rfl ?_
 refine AWp_sr hP<|RK.alc guard_none (op_box rfl rfl)<|RK.As rfl<|RK.D<|AWp_sr hP<|RK.F hT rfl rfl rfl rfl rfl rfl<|RK.V (op_load_one hT rfl rfl rfl rfl (by first | rfl | exact vget (by omega))) ?_
 refine RK.V (op_rem rfl rfl (by decide) (c := (D : Int) % 2000) (Int.tmod_eq_emod_of_nonneg (by omega))) ?_
 refine RK.V (op_conv hT rfl rfl rfl rfl (IntWalk.i64_in _ (by omega))) ?_
 refine RK.V (op_add rfl rfl (by first | exact IntWalk.i64_in _ (by omega) | rfl)) ?_
 refine RK.As rfl<|RK.D<|AWp_seq<|AWp_block<|AWp_loop (ι := Int) (fun n => stL [(3, Z n)] []) (fun n => 3 + (D : Int) % 2000 ≤ n ∧ n ≤ szz D) (fun n => (szz D - n).toNat) (3 + (D : Int) % 2000) ⟨Int.le_refl _, s1⟩ (le_stL ⟨.refl _, trivial⟩ trivial) ?_
 rintro n ⟨hn1, hn2⟩
 refine AWp_seq<|AWp_sr hP<|RK.M rfl<|RK.V (op_rem rfl rfl (by decide) (c := n % 4) (Int.tmod_eq_emod_of_nonneg (by omega))) ?_
 refine RK.V (op_neq rfl rfl) ?_
 refine RK.M rfl ?_
 refine RK.split (t := 12) rfl (fun hg1 => ?_) (fun hg1 => ?_)
 ·have hg1_ := bneT hg1
  refine RK.val (guard_yes rfl rfl hg1) (op_move (rfl : _ = AV.p (.c _))) ?_
  refine RK.val (guard_yes rfl rfl hg1) (op_rem rfl rfl (by decide) (c := n % 4) (Int.tmod_eq_emod_of_nonneg (by omega))) ?_
  refine RK.val (guard_yes rfl rfl hg1) (op_neq rfl rfl) ?_
  refine RK.V (op_pick_t rfl hg1 (rfl : _ = AV.p (.c _))) ?_
  refine RK.D ?_
  refine AWp_cond rfl (fun hb2 => ?_) (fun hb2 => ?_)
  ·have hb2_ := bneT hb2
   refine AWp_skip<|AWp_block<|AWp_region hP<|RK.M rfl<|RK.V (op_add rfl rfl (by first | exact IntWalk.i64_in _ (by omega) | rfl)) ?_
   refine RK.As rfl<|RK.D ?_
   have hne : n ≠ szz D := by
    rintro rfl
    have := bneT hg1
    have := bneT hb2
    omega
   refine ⟨n + 1, ⟨by omega, by omega⟩, by omega, le_stL ⟨.refl _, trivial⟩ trivial⟩
  ·have hb2_ := bneF hb2
   refine AWp_exit<|AWp_sr hP<|RK.M rfl<|RK.As rfl<|RK.D<|AWp_ret ?_
   refine ends_one rfl (.inr rfl) (res_tmp rfl) ?_ O_ends
   exact Sub.int (s5 n hn1 hn2 (.inr (bneF hb2)))
 ·have hg1_ := bneF hg1
  refine RK.skip (guard_no rfl rfl hg1) ?_
  refine RK.skip (guard_no rfl rfl hg1) ?_
  refine RK.skip (guard_no rfl rfl hg1) ?_
  refine RK.V (op_pick_f rfl hg1 (rfl : _ = AV.p (.c _))) ?_
  refine RK.D<|AWp_cond_false rfl rfl ?_
  refine AWp_exit<|AWp_sr hP<|RK.M rfl<|RK.As rfl<|RK.D<|AWp_ret ?_
  refine ends_one rfl (.inr rfl) (res_tmp rfl) ?_ O_ends
  exact Sub.int (s5 n hn1 hn2 (.inl (bneF hg1)))
theorem r8_Made0 (D i0 i1 i2 i3 m0 m1 m2 m3 : Nat) (hD : D < 65536) (g0 : i0 < 65536) (g1 : i1 < 65536) (g2 : i2 < 65536) (g3 : i3 < 65536) (k0 : m0 < 256) (k1 : m1 < 256) (k2 : m2 < 256) (k3 : m3 < 256) :
  Call0 Tryz.prog 27 [.p (.a [.v (.int .u16 (D : Int)), .v (.int .u16 (i0 : Int)), .v (.int .u16 (i1 : Int)), .v (.int .u16 (i2 : Int)), .v (.int .u16 (i3 : Int)), .v (.int .u8 (m0 : Int)), .v (.int .u8 (m1 : Int)), .v (.int .u8 (m2 : Int)), .v (.int .u8 (m3 : Int))]), Z 0] (FA (mkF D i0 m0).a (mkF D i0 m0).b (mkF D i0 m0).c) := by
 obtain ⟨_, s2, s3, s4, _⟩ := szz_spec D
 have hlp := lst_pos D
 obtain ⟨pa, pb, pc⟩ := pik_L D i0
 obtain ⟨ta, tb, tc, td⟩ := turn_L k0
 have e1 := Int.emod_nonneg (i0 : Int) (show (((lst (szz D)).length : Nat) : Int) ≠ 0 by omega)
 have e2 := Int.emod_lt_of_pos (i0 : Int) (show (0 : Int) < (((lst (szz D)).length : Nat) : Int) by omega)
 have cu := r8_Turn m0 k0
 refine callM_of (np := 0) Tryz.func27 (by kernel_rfl) rfl rfl (Nat.le_of_ble_eq_true rfl) (fun m h => absurd rfl h) (fun m h => absurd rfl h) rfl ?_
 refine AWp_sr hP<|RK.alc guard_none (op_box rfl rfl)<|RK.alc guard_none (op_alloc hT rfl rfl)<|RK.D<|AWp_sr hP<|RK.V (op_load_agg hT rfl rfl rfl rfl (cs := [_, _, _, _, _, _, _, _, _]) rfl rfl) ?_
 refine RK.V (Eff.call0 (r8_Size _ _ _ _ _ _ _ _ _ hD g0 g1 g2 g3 k0 k1 k2 k3)) ?_
 refine RK.V (Eff.call0 (r8_List _ (by omega) (by omega))) ?_
 refine RK.As rfl<|RK.D<|AWp_sr hP<|RK.M rfl<|RK.M rfl<|RK.V (op_rem rfl rfl (by decide) (c := 0) (by decide)) ?_
 refine RK.F hT rfl rfl rfl rfl rfl rfl<|RK.V (op_index_arr hT rfl rfl rfl rfl rfl (by first | decide | omega)) ?_
 refine RK.V (op_load_one hT rfl rfl rfl rfl (by first | rfl | exact vget (by omega))) ?_
 refine RK.V (op_conv hT rfl rfl rfl rfl (IntWalk.i64_in _ (by omega))) ?_
 refine RK.M rfl<|RK.V (op_len hT rfl rfl rfl (by rfl)) ?_
 refine RK.V (op_rem rfl rfl (by omega) (c := (i0 : Int) % ((lst (szz D)).length : Nat)) (Int.tmod_eq_emod_of_nonneg (by omega))) ?_
 refine RK.V (op_indexF hT rfl rfl rfl rfl rfl rfl (by omega)) ?_
 refine RK.V (op_load_ip_agg hT rfl rfl rfl (cs := FC (pik D i0)) rfl rfl) ?_
 refine RK.alc guard_none (op_alloc hT rfl rfl)<|RK.S hT rfl rfl rfl rfl rfl rfl rfl<|RK.D<|AWp_seq<|AWp_sr hP<|RK.M rfl<|RK.V (op_rem rfl rfl (by decide) (c := 0) (by decide)) ?_
 refine RK.F hT rfl rfl rfl rfl rfl rfl<|RK.V (op_index_arr hT rfl rfl rfl rfl rfl (by first | decide | omega)) ?_
 refine RK.V (op_load_one hT rfl rfl rfl rfl (by first | rfl | exact vget (by omega))) ?_
 refine RK.V (op_rem rfl rfl (by decide) (c := (m0 : Int) % 4) (Int.tmod_eq_emod_of_nonneg (by omega))) ?_
 refine RK.V (op_eql rfl rfl) ?_
 refine RK.D ?_
 refine AWp_cond rfl (fun hb1 => ?_) (fun hb1 => ?_)
 ·have hb1_ := bT hb1
  refine AWp_sr hP<|RK.G6 hT rfl rfl rfl rfl rfl rfl<|RK.S hT rfl rfl rfl rfl rfl rfl rfl<|RK.D<|AWp_ret ?_
  refine ends_one rfl (.inr rfl) (res_cell_agg hT rfl rfl rfl rfl (cs := [_, _, _, _, _, _]) rfl rfl) ?_ O_ends
  exact Sub.of_eq (by rw [mkF, if_pos (by omega)])
 ·have hb1_ := bF hb1
  refine AWp_skip<|AWp_sr hP<|RK.G6 hT rfl rfl rfl rfl rfl rfl<|RK.M rfl<|RK.V (op_rem rfl rfl (by decide) (c := 0) (by decide)) ?_
  refine RK.F hT rfl rfl rfl rfl rfl rfl<|RK.V (op_index_arr hT rfl rfl rfl rfl rfl (by first | decide | omega)) ?_
  refine RK.V (op_load_one hT rfl rfl rfl rfl (by first | rfl | exact vget (by omega))) ?_
  refine RK.V (Eff.call0 cu) ?_
  refine RK.V (Eff.call0 (r8_Apply _ _ _ _ _ _ _ lz lz lz lz lz lz lz)) ?_
  refine RK.S hT rfl rfl rfl rfl rfl rfl rfl<|RK.D<|AWp_ret ?_
  refine ends_one rfl (.inr rfl) (res_cell_agg hT rfl rfl rfl rfl (cs := [_, _, _, _, _, _]) rfl rfl) ?_ O_ends
  exact Sub.of_eq (by rw [mkF, if_neg (by omega)]; rfl)
theorem r8_Made1 (D i0 i1 i2 i3 m0 m1 m2 m3 : Nat) (hD : D < 65536) (g0 : i0 < 65536) (g1 : i1 < 65536) (g2 : i2 < 65536) (g3 : i3 < 65536) (k0 : m0 < 256) (k1 : m1 < 256) (k2 : m2 < 256) (k3 : m3 < 256) :
  Call0 Tryz.prog 27 [.p (.a [.v (.int .u16 (D : Int)), .v (.int .u16 (i0 : Int)), .v (.int .u16 (i1 : Int)), .v (.int .u16 (i2 : Int)), .v (.int .u16 (i3 : Int)), .v (.int .u8 (m0 : Int)), .v (.int .u8 (m1 : Int)), .v (.int .u8 (m2 : Int)), .v (.int .u8 (m3 : Int))]), Z 1] (FA (mkF D i1 m1).a (mkF D i1 m1).b (mkF D i1 m1).c) := by
 obtain ⟨_, s2, s3, s4, _⟩ := szz_spec D
 have hlp := lst_pos D
 obtain ⟨pa, pb, pc⟩ := pik_L D i1
 obtain ⟨ta, tb, tc, td⟩ := turn_L k1
 have e1 := Int.emod_nonneg (i1 : Int) (show (((lst (szz D)).length : Nat) : Int) ≠ 0 by omega)
 have e2 := Int.emod_lt_of_pos (i1 : Int) (show (0 : Int) < (((lst (szz D)).length : Nat) : Int) by omega)
 have cu := r8_Turn m1 k1
 refine callM_of (np := 0) Tryz.func27 (by kernel_rfl) rfl rfl (Nat.le_of_ble_eq_true rfl) (fun m h => absurd rfl h) (fun m h => absurd rfl h) rfl ?_
 refine AWp_sr hP<|RK.alc guard_none (op_box rfl rfl)<|RK.alc guard_none (op_alloc hT rfl rfl)<|RK.D<|AWp_sr hP<|RK.V (op_load_agg hT rfl rfl rfl rfl (cs := [_, _, _, _, _, _, _, _, _]) rfl rfl) ?_
 refine RK.V (Eff.call0 (r8_Size _ _ _ _ _ _ _ _ _ hD g0 g1 g2 g3 k0 k1 k2 k3)) ?_
 refine RK.V (Eff.call0 (r8_List _ (by omega) (by omega))) ?_
 refine RK.As rfl<|RK.D<|AWp_sr hP<|RK.M rfl<|RK.M rfl<|RK.V (op_rem rfl rfl (by decide) (c := 1) (by decide)) ?_
 refine RK.F hT rfl rfl rfl rfl rfl rfl<|RK.V (op_index_arr hT rfl rfl rfl rfl rfl (by first | decide | omega)) ?_
 refine RK.V (op_load_one hT rfl rfl rfl rfl (by first | rfl | exact vget (by omega))) ?_
 refine RK.V (op_conv hT rfl rfl rfl rfl (IntWalk.i64_in _ (by omega))) ?_
 refine RK.M rfl<|RK.V (op_len hT rfl rfl rfl (by rfl)) ?_
 refine RK.V (op_rem rfl rfl (by omega) (c := (i1 : Int) % ((lst (szz D)).length : Nat)) (Int.tmod_eq_emod_of_nonneg (by omega))) ?_
 refine RK.V (op_indexF hT rfl rfl rfl rfl rfl rfl (by omega)) ?_
 refine RK.V (op_load_ip_agg hT rfl rfl rfl (cs := FC (pik D i1)) rfl rfl) ?_
 refine RK.alc guard_none (op_alloc hT rfl rfl)<|RK.S hT rfl rfl rfl rfl rfl rfl rfl<|RK.D<|AWp_seq<|AWp_sr hP<|RK.M rfl<|RK.V (op_rem rfl rfl (by decide) (c := 1) (by decide)) ?_
 refine RK.F hT rfl rfl rfl rfl rfl rfl<|RK.V (op_index_arr hT rfl rfl rfl rfl rfl (by first | decide | omega)) ?_
 refine RK.V (op_load_one hT rfl rfl rfl rfl (by first | rfl | exact vget (by omega))) ?_
 refine RK.V (op_rem rfl rfl (by decide) (c := (m1 : Int) % 4) (Int.tmod_eq_emod_of_nonneg (by omega))) ?_
 refine RK.V (op_eql rfl rfl) ?_
 refine RK.D ?_
 refine AWp_cond rfl (fun hb1 => ?_) (fun hb1 => ?_)
 ·have hb1_ := bT hb1
  refine AWp_sr hP<|RK.G6 hT rfl rfl rfl rfl rfl rfl<|RK.S hT rfl rfl rfl rfl rfl rfl rfl<|RK.D<|AWp_ret ?_
  refine ends_one rfl (.inr rfl) (res_cell_agg hT rfl rfl rfl rfl (cs := [_, _, _, _, _, _]) rfl rfl) ?_ O_ends
  exact Sub.of_eq (by rw [mkF, if_pos (by omega)])
 ·have hb1_ := bF hb1
  refine AWp_skip<|AWp_sr hP<|RK.G6 hT rfl rfl rfl rfl rfl rfl<|RK.M rfl<|RK.V (op_rem rfl rfl (by decide) (c := 1) (by decide)) ?_
  refine RK.F hT rfl rfl rfl rfl rfl rfl<|RK.V (op_index_arr hT rfl rfl rfl rfl rfl (by first | decide | omega)) ?_
  refine RK.V (op_load_one hT rfl rfl rfl rfl (by first | rfl | exact vget (by omega))) ?_
  refine RK.V (Eff.call0 cu) ?_
  refine RK.V (Eff.call0 (r8_Apply _ _ _ _ _ _ _ lz lz lz lz lz lz lz)) ?_
  refine RK.S hT rfl rfl rfl rfl rfl rfl rfl<|RK.D<|AWp_ret ?_
  refine ends_one rfl (.inr rfl) (res_cell_agg hT rfl rfl rfl rfl (cs := [_, _, _, _, _, _]) rfl rfl) ?_ O_ends
  exact Sub.of_eq (by rw [mkF, if_neg (by omega)]; rfl)
end Go.Proofs.YtpaifigafaijpaaGreatDoor
end
