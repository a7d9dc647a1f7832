import Derived.Test.YtpaifigafaijpaaGreatDoorWE
import Derived.Test.YtpaifigafaijpaaGreatDoorWD
import Derived.Test.YtpaifigafaijpaaGreatDoorWG
set_option maxRecDepth 100000
set_option maxHeartbeats 16000000
section
namespace Go.Proofs.YtpaifigafaijpaaGreatDoor
open Go Go.AM
theorem r10_refused (d : Int) (hd : L 40 d) :
  Call0 Tryz.prog 73 [I d] (.t [PE (gnV d), PE (szE d)]) := by
 have id0 : LB d 40 := ⟨hd⟩
 have hm0 := Int.emod_nonneg d (show (4 : Int) ≠ 0 by omega)
 have hm1 := Int.emod_lt_of_pos d (show (0 : Int) < 4 by omega)
 refine callM_of (np := 0) Tryz.func73 (by kernel_rfl) rfl rfl (Nat.le_of_ble_eq_true rfl) (fun m h => absurd rfl h) (fun m h => absurd rfl h) rfl ?_
 refine AWp_sr hP<|RK.alc guard_none (op_box rfl rfl)<|RK.As rfl<|RK.As rfl<|RK.D<|AWp_seq<|AWp_sr hP<|RK.G2 hT rfl rfl rfl rfl rfl rfl<|RK.V (Eff.call0 (r_Sign _)) ?_
 refine RK.V (op_geq rfl rfl) ?_
 refine RK.D ?_
 refine AWp_cond rfl (fun hb1 => ?_) (fun hb1 => ?_)
 ·have hb1_ := of_decide_eq_true hb1
  refine AWp_sr hP<|RK.As rfl<|RK.As rfl<|RK.D<|AWp_ret ?_
  refine ends_two rfl (.inr rfl) (res_tmp rfl) (res_tmp rfl) ?_ O_ends
  exact Sub.of_eq (gn_5 (.inl (sgn_ge_iff.1 hb1_)))
 ·have hb1_ := of_decide_eq_false hb1
  refine AWp_skip<|AWp_sr hP<|RK.G2 hT rfl rfl rfl rfl rfl rfl<|RK.V (Eff.call0 (r_Of 4 (by decide))) ?_
  refine RK.V (Eff.call0 (r_Mod _ _ lz lz (by decide))) ?_
  refine RK.alc guard_none (op_alloc hT rfl rfl)<|RK.S hT rfl rfl rfl rfl rfl rfl rfl<|RK.D<|AWp_seq<|AWp_sr hP<|RK.G2 hT rfl rfl rfl rfl rfl rfl<|RK.V (Eff.call0 (r_Of 1 (by decide))) ?_
  refine RK.V (Eff.call0 (r_Cmp _ _)) ?_
  refine RK.V (op_gtr rfl rfl) ?_
  refine RK.D ?_
  refine AWp_cond rfl (fun hb2 => ?_) (fun hb2 => ?_)
  ·have hb2_ := of_decide_eq_true hb2
   refine AWp_sr hP<|RK.As rfl<|RK.As rfl<|RK.D<|AWp_ret ?_
   refine ends_two rfl (.inr rfl) (res_tmp rfl) (res_tmp rfl) ?_ O_ends
   exact Sub.of_eq (gn_5 (.inr (cmpI_gt_zero.1 hb2_)))
  ·have hb2_ := of_decide_eq_false hb2
   have hn : ¬ (0 ≤ d ∨ d % 4 > 1) := fun h => h.elim (fun x => hb1_ (sgn_ge_iff.2 x)) (fun x => hb2_ (cmpI_gt_zero.2 x))
   refine AWp_skip<|AWp_sr hP<|RK.G2 hT rfl rfl rfl rfl rfl rfl<|RK.V (Eff.call0 (r_Low d lz)) ?_
   refine RK.V (op_move (rfl : _ = AV.t _))<|RK.V (op_extract rfl (v := .c _) rfl)<|RK.V (op_extract rfl (v := .c _) rfl)<|RK.As rfl<|RK.As rfl<|RK.D<|AWp_seq<|AWp_sr hP<|RK.G2 hT rfl rfl rfl rfl rfl rfl<|RK.V (Eff.call0 (r_Of (-4194304) (by decide))) ?_
   refine RK.V (Eff.call0 (r_Cmp _ _)) ?_
   refine RK.V (op_lss rfl rfl)<|RK.D ?_
   refine AWp_cond rfl (fun hb3 => ?_) (fun hb3 => ?_)
   ·have hb3_ := of_decide_eq_true hb3
    refine AWp_sr hP<|RK.As rfl<|RK.As rfl<|RK.D<|AWp_ret ?_
    refine ends_two rfl (.inr rfl) (res_tmp rfl) (res_tmp rfl) ?_ O_ends
    exact Sub.of_eq (gn_2 hn (by have := cmpI_lt_zero.1 hb3_; omega))
   ·have hb3_ := of_decide_eq_false hb3
    have hlt : ¬ d < -4194304 := fun h => hb3_ (cmpI_lt_zero.2 h)
    have hly := lwO_yes (a := d) (by omega)
    refine AWp_skip<|AWp_sr hP<|RK.M rfl<|RK.As rfl<|RK.As rfl<|RK.D<|AWp_ret ?_
    refine ends_two rfl (.inr rfl) (res_tmp rfl) (res_tmp rfl) ?_ O_ends
    exact Sub.of_eq (by rw [hly.2]; exact gn_0 hn (by omega))
theorem r10_wrong (f : Fm) (hfa : L 6 f.a) (hfb : L 6 f.b) (hfc : L 6 f.c) :
  Call0 Tryz.prog 90 [FA f.a f.b f.c] (.t [PE (gpV f), PE (gpE f)]) := by
 have ifa : LB f.a 6 := ⟨hfa⟩
 have ifb : LB f.b 6 := ⟨hfb⟩
 have ifc : LB f.c 6 := ⟨hfc⟩
 refine callM_of (np := 0) Tryz.func90 (by kernel_rfl) rfl rfl (Nat.le_of_ble_eq_true rfl) (fun m h => absurd rfl h) (fun m h => absurd rfl h) rfl ?_
 refine AWp_sr hP<|RK.alc guard_none (op_box rfl rfl)<|RK.As rfl<|RK.As rfl<|RK.D<|AWp_sr hP<|RK.G6 hT rfl rfl rfl rfl rfl rfl<|RK.V (Eff.call0 (r8_Check f.a f.b f.c lz lz lz)) ?_
 refine RK.As rfl<|RK.D<|AWp_seq<|AWp_sr hP<|RK.M rfl<|RK.V (op_neq rfl rfl) ?_
 refine RK.D ?_
 refine AWp_cond rfl (fun hb1 => ?_) (fun hb1 => ?_)
 ·have hb1_ := bneT hb1
  refine AWp_sr hP<|RK.M rfl<|RK.As rfl<|RK.As rfl<|RK.D<|AWp_ret ?_
  refine ends_two rfl (.inr rfl) (res_tmp rfl) (res_tmp rfl) ?_ O_ends
  exact Sub.of_eq (gp_1 hb1_)
 ·have hb1_ := bneF hb1
  refine AWp_skip<|AWp_sr hP<|RK.G6 hT rfl rfl rfl rfl rfl rfl<|RK.V (Eff.call0 (r8_Disc f.a f.b f.c lz lz lz)) ?_
  refine RK.V (Eff.call0 (r10_refused _ lz)) ?_
  refine RK.V (op_move (rfl : _ = AV.t _))<|RK.V (op_extract rfl (v := .c _) rfl)<|RK.V (op_extract rfl (v := .c _) rfl)<|RK.As rfl<|RK.As rfl<|RK.D<|AWp_seq<|AWp_sr hP<|RK.M rfl<|RK.V (op_neq rfl rfl) ?_
  refine RK.D ?_
  refine AWp_cond rfl (fun hb2 => ?_) (fun hb2 => ?_)
  ·have hb2_ := bneT hb2
   refine AWp_sr hP<|RK.M rfl<|RK.As rfl<|RK.As rfl<|RK.D<|AWp_ret ?_
   refine ends_two rfl (.inr rfl) (res_tmp rfl) (res_tmp rfl) ?_ O_ends
   exact Sub.of_eq (gp_4' hb1_ hb2_)
  ·have hb2_ := bneF hb2
   refine AWp_skip<|AWp_seq<|AWp_sr hP<|RK.G6 hT rfl rfl rfl rfl rfl rfl<|RK.V (Eff.call0 (r8_Primitive f.a f.b f.c lz lz lz)) ?_
   refine RK.V (op_unot rfl) ?_
   refine RK.D ?_
   refine AWp_cond rfl (fun hb3 => ?_) (fun hb3 => ?_)
   ·have hb3_ := (notT hb3)
    refine AWp_sr hP<|RK.As rfl<|RK.As rfl<|RK.D<|AWp_ret ?_
    refine ends_two rfl (.inr rfl) (res_tmp rfl) (res_tmp rfl) ?_ O_ends
    exact Sub.of_eq (gp_2 hb1_ hb2_ (notT hb3))
   ·have hb3_ := (notF hb3)
    refine AWp_skip<|AWp_sr hP<|RK.M rfl<|RK.As rfl<|RK.As rfl<|RK.D<|AWp_ret ?_
    refine ends_two rfl (.inr rfl) (res_tmp rfl) (res_tmp rfl) ?_ O_ends
    exact Sub.of_eq (gp_3' hb1_ hb2_ (notF hb3))
theorem r10_characters (d : Int) (h0 : d < 0) (h1 : -4194304 ≤ d) :
  Call0 Tryz.prog 74 [Z d] (.p (.c (IS (chs d)))) := by
 refine callM_of (np := 0) Tryz.func74 (by kernel_rfl) rfl rfl (Nat.le_of_ble_eq_true rfl) (fun m h => absurd rfl h) (fun m h => absurd rfl h) rfl ?_
 refine AWp_sr hP<|RK.As rfl<|RK.D<|AWp_sr hP<|RK.alc guard_none (op_bslice_vec hT rfl rfl rfl (es := []) rfl rfl rfl) ?_
 refine RK.V (op_assign (rfl : _ = AV.vec _))<|RK.D<|AWp_rn 7 1000 rfl rfl rfl ?_
 refine AWp_sr hP<|RK.M rfl<|RK.V (op_uneg rfl (c := -d) (by rw [IntWalk.i64_in _ (by omega)]; omega)) ?_
 refine RK.As rfl<|RK.D<|AWp_seq<|AWp_block<|AWp_loop (ι := Int) (fun m => stL [(0, Z d), (3, .vec 1000), (4, Z m)] [(1000, IB 3 ([]))]) (fun m => (0 < m ∧ m ≤ 4194304) ∧ rmp m 2 = (rmp (-d) 2)) (fun m => m.toNat) (-d) ⟨by omega, rfl⟩ (le_stL ⟨.refl _, .refl _, .refl _, trivial⟩ ⟨rfl, trivial⟩) ?_
 rintro m ⟨hm, hr⟩
 refine AWp_seq<|AWp_sr hP<|RK.M rfl<|RK.V (op_rem rfl rfl (by omega) (c := m % 2) (Int.tmod_eq_emod_of_nonneg (by omega))) ?_
 refine RK.V (op_eql rfl rfl) ?_
 refine RK.D ?_
 refine AWp_cond rfl (fun hb1 => ?_) (fun hb1 => ?_)
 ·have hb1_ := bT hb1
  refine AWp_skip<|AWp_block<|AWp_region hP<|RK.M rfl<|RK.V (op_quo rfl rfl (by omega) (c := m / 2) (by rw [Int.tdiv_eq_ediv_of_nonneg (by omega), IntWalk.i64_in _ (by omega)])) ?_
  refine RK.As rfl<|RK.D ?_
  have hdd := div_ltp hm.1 (by decide) hb1_
  refine ⟨m / 2, ⟨by omega, by rw [rmp_yes (by decide) hm.1 hb1_, hr]⟩, by omega, le_stL ⟨.refl _, .refl _, .refl _, trivial⟩ ⟨rfl, trivial⟩⟩
 ·have hb1_ := bF hb1
  refine AWp_exit<|AWp_seq<|AWp_sr hP<|RK.As rfl<|RK.D<|AWp_block ?_
  have hm2 : m = (rmp (-d) 2) := by rw [← hr, rmp_no hb1_]
  refine AWp_loop (ι := Int × Int × List Int) (fun q => stL [(0, Z d), (3, .vec 1000), (4, Z q.1), (5, Z q.2.1)] [(1000, IB 3 (q.2.2))]) (fun q => OcI (rmp (-d) 2) q.1 q.2.1 q.2.2 ∧ q.2.1 ≤ 2051) (fun q => (5000 - q.2.1).toNat) (m, 3, []) ⟨by have := OcI.start (n := m) (by omega) (by omega) (by omega); rw [hm2] at this ⊢; exact this, by simp only; omega⟩ (le_stL ⟨.refl _, .refl _, .refl _, .refl _, trivial⟩ ⟨rfl, trivial⟩) ?_
  rintro q ⟨i, hp51⟩
  have in1 := i.n1
  have inb := i.nb
  have ip3 := i.p3
  have il := i.len.1
  have hsq := sq_b (x := q.2.1) (m := 2051) (by omega)
  refine AWp_seq<|AWp_sr hP<|RK.M rfl<|RK.M rfl<|RK.V (op_mul rfl rfl (by first | exact IntWalk.i64_in _ (by omega) | rfl)) ?_
  refine RK.M rfl<|RK.V (op_leq rfl rfl) ?_
  refine RK.D ?_
  refine AWp_cond rfl (fun hb2 => ?_) (fun hb2 => ?_)
  ·have hb2_ := of_decide_eq_true hb2
   have hst := i.stepR hb2_
   have hp48 : q.2.1 ≤ 2048 := by
    have h9 : 3 * 3 ≤ q.2.1 * q.2.1 := Int.mul_le_mul ip3 ip3 (by omega) (by omega)
    exact i.sq (by omega) hb2_
   refine AWp_skip<|AWp_seq<|AWp_block<|AWp_seq_cutR 29 1000 (ι := Unit) (fun _ => stL [(0, Z d), (3, .vec 1000), (4, Z q.1), (5, Z q.2.1)] [(1000, IB 3 (outR q.1 q.2.1 q.2.2))]) (fun _ => True) rfl rfl ?_ ?_
   ·refine AWp_sr hP<|RK.M rfl<|RK.M rfl<|RK.V (op_rem rfl rfl (by omega) (c := q.1 % q.2.1) (Int.tmod_eq_emod_of_nonneg (by omega))) ?_
    refine RK.V (op_eql rfl rfl) ?_
    refine RK.D ?_
    refine AWp_cond rfl (fun hb3 => ?_) (fun hb3 => ?_)
    ·have hb3_ := bT hb3
     refine AWp_region hP<|RK.V (op_move (rfl : _ = AV.vec _))<|RK.M rfl<|RK.V (op_bslice hT rfl rfl rfl (es := [_]) rfl rfl rfl) ?_
     refine RK.app guard_none (op_appendI (z := q.2.1) hT rfl rfl rfl rfl rfl rfl rfl rfl (by omega) (by decide)) ?_
     refine RK.V (op_assign (rfl : _ = AV.vec _))<|RK.D ?_
     refine ⟨(), trivial, .inr ⟨_, rfl, rfl, le_stL ⟨.refl _, .refl _, .refl _, .refl _, trivial⟩ ⟨Eq.trans rfl (congrArg (fun x => some (IB 3 x)) (show q.2.2 ++ [q.2.1] = outR q.1 q.2.1 q.2.2 from (if_pos hb3_).symm)), trivial⟩⟩⟩
    ·have hb3_ := bF hb3
     refine AWp_skip ?_
     refine ⟨(), trivial, .inl (le_stL ⟨.refl _, .refl _, .refl _, .refl _, trivial⟩ ⟨Eq.trans rfl (congrArg (fun x => some (IB 3 x)) (show q.2.2 = outR q.1 q.2.1 q.2.2 from (if_neg hb3_).symm)), trivial⟩)⟩
   intro _ _
   refine AWp_block<|AWp_loop (ι := Int) (fun m => stL [(0, Z d), (3, .vec 1000), (4, Z m), (5, Z q.2.1)] [(1000, IB 3 (outR q.1 q.2.1 q.2.2))]) (fun m => (0 < m ∧ m ≤ 4194304) ∧ rmp m q.2.1 = rmp q.1 q.2.1) (fun m => m.toNat) q.1 ⟨by omega, rfl⟩ (le_stL ⟨.refl _, .refl _, .refl _, .refl _, trivial⟩ ⟨rfl, trivial⟩) ?_
   rintro m ⟨hm, hrm⟩
   refine AWp_seq<|AWp_sr hP<|RK.M rfl<|RK.M rfl<|RK.V (op_rem rfl rfl (by omega) (c := m % q.2.1) (Int.tmod_eq_emod_of_nonneg (by omega))) ?_
   refine RK.V (op_eql rfl rfl) ?_
   refine RK.D ?_
   refine AWp_cond rfl (fun hb4 => ?_) (fun hb4 => ?_)
   ·have hb4_ := bT hb4
    have hdd := div_ltp hm.1 (by omega) ‹m % q.2.1 = 0›
    refine AWp_skip<|AWp_block<|AWp_region hP<|RK.M rfl<|RK.M rfl<|RK.V (op_quo rfl rfl (by omega) (c := m / q.2.1) (by rw [Int.tdiv_eq_ediv_of_nonneg (by omega), IntWalk.i64_in _ (by omega)])) ?_
    refine RK.As rfl<|RK.D ?_
    refine ⟨m / q.2.1, ⟨by omega, by rw [rmp_yes (by omega) hm.1 ‹m % q.2.1 = 0›, hrm]⟩, by omega, le_stL ⟨.refl _, .refl _, .refl _, .refl _, trivial⟩ ⟨rfl, trivial⟩⟩
   ·have hb4_ := bF hb4
    refine AWp_exit<|AWp_region hP<|RK.M rfl<|RK.V (op_add rfl rfl (by first | exact IntWalk.i64_in _ (by omega) | rfl)) ?_
    refine RK.As rfl<|RK.D ?_
    refine ⟨(rmp q.1 q.2.1, q.2.1 + 2, outR q.1 q.2.1 q.2.2), ⟨hst, by simp only; omega⟩, by simp only; omega, le_stL ⟨.refl _, .refl _, Sub.int (by rw [← hrm, rmp_no ‹m % q.2.1 ≠ 0›]), .refl _, trivial⟩ ⟨rfl, trivial⟩⟩
  ·have hb2_ := of_decide_eq_false hb2
   have hend := i.endR hb2_
   refine AWp_exit<|AWp_seq_cutR 42 1000 (ι := Unit) (fun _ => stL [(0, Z d), (3, .vec 1000)] [(1000, IB 3 (oddC (rmp (-d) 2)))]) (fun _ => True) rfl rfl ?_ ?_
   ·refine AWp_sr hP<|RK.M rfl<|RK.V (op_gtr rfl rfl) ?_
    refine RK.D ?_
    refine AWp_cond rfl (fun hb5 => ?_) (fun hb5 => ?_)
    ·have hb5_ := of_decide_eq_true hb5
     refine AWp_region hP<|RK.V (op_move (rfl : _ = AV.vec _))<|RK.M rfl<|RK.V (op_bslice hT rfl rfl rfl (es := [_]) rfl rfl rfl) ?_
     refine RK.app guard_none (op_appendI (z := q.1) hT rfl rfl rfl rfl rfl rfl rfl rfl (by omega) (by decide)) ?_
     refine RK.V (op_assign (rfl : _ = AV.vec _))<|RK.D ?_
     refine ⟨(), trivial, .inr ⟨_, rfl, rfl, le_stL ⟨.refl _, .refl _, trivial⟩ ⟨Eq.trans rfl (congrArg (fun x => some (IB 3 x)) (by rw [← hend, if_pos ‹q.1 > 1›])), trivial⟩⟩⟩
    ·have hb5_ := of_decide_eq_false hb5
     refine AWp_skip ?_
     refine ⟨(), trivial, .inl (le_stL ⟨.refl _, .refl _, trivial⟩ ⟨Eq.trans rfl (congrArg (fun x => some (IB 3 x)) (by rw [← hend, if_neg ‹¬ q.1 > 1›])), trivial⟩)⟩
   intro _ _
   refine AWp_seq<|AWp_sr hP<|RK.M rfl<|RK.V (op_rem rfl rfl (by decide) (c := d.tmod 4) rfl) ?_
   refine RK.V (op_neq rfl rfl) ?_
   refine RK.D ?_
   refine AWp_cond rfl (fun hb6 => ?_) (fun hb6 => ?_)
   ·have hb6_ := bneT hb6
    refine AWp_sr hP<|RK.V (op_move (rfl : _ = AV.vec _))<|RK.V (op_assign (rfl : _ = AV.vec _))<|RK.D<|AWp_freezeI (t := 2) rfl rfl ?_
    refine AWp_ret ?_
    refine ends_one rfl (.inr rfl) (res_tmp rfl) ?_ O_ends
    exact Sub.of_eq (by rw [chs_n ‹d.tmod 4 ≠ 0›])
   ·have hb6_ := bneF hb6
    refine AWp_skip<|AWp_sr hP<|RK.M rfl<|RK.V (op_uneg rfl (c := -d) (by rw [IntWalk.i64_in _ (by omega)]; omega)) ?_
    refine RK.V (op_quo rfl rfl (by omega) (c := -d / 4) (by rw [Int.tdiv_eq_ediv_of_nonneg (by omega), IntWalk.i64_in _ (by omega)])) ?_
    refine RK.As rfl<|RK.D<|AWp_seq_cutR 65 1000 (ι := Unit) (fun _ => stL [(3, .vec 1000), (6, Z (-d / 4))] [(1000, IB 3 (oddC (rmp (-d) 2) ++ sA1 (-d / 4)))]) (fun _ => True) rfl rfl ?_ ?_
    ·refine AWp_sr hP<|RK.M rfl<|RK.V (op_rem rfl rfl (by omega) (c := -d / 4 % 4) (Int.tmod_eq_emod_of_nonneg (by omega))) ?_
     refine RK.V (op_eql rfl rfl) ?_
     refine RK.M rfl ?_
     refine RK.split (t := 53) rfl (fun hg7 => ?_) (fun hg7 => ?_)
     ·have hg7_ := bT hg7
      refine RK.skip (guard_no rfl rfl hg7) ?_
      refine RK.skip (guard_no rfl rfl hg7) ?_
      refine RK.skip (guard_no rfl rfl hg7) ?_
      refine RK.V (op_pick_t rfl hg7 (rfl : _ = AV.p (.c _))) ?_
      refine RK.M rfl<|RK.skip (guard_no rfl rfl rfl) ?_
      refine RK.skip (guard_no rfl rfl rfl) ?_
      refine RK.skip (guard_no rfl rfl rfl) ?_
      refine RK.V (op_pick_t rfl rfl (rfl : _ = AV.p (.c _))) ?_
      refine RK.D<|AWp_cond_true rfl rfl ?_
      refine AWp_region hP<|RK.V (op_move (rfl : _ = AV.vec _))<|RK.V (op_bslice hT rfl rfl rfl (es := [_]) rfl rfl rfl) ?_
      refine RK.app guard_none (op_appendI (z := -4) hT rfl rfl rfl rfl rfl rfl rfl rfl (by have := oddC_len (rmp (-d) 2); omega) (by decide)) ?_
      refine RK.V (op_assign (rfl : _ = AV.vec _))<|RK.D ?_
      refine ⟨(), trivial, .inr ⟨_, rfl, rfl, le_stL ⟨.refl _, .refl _, trivial⟩ ⟨Eq.trans rfl (congrArg (fun x => some (IB 3 x)) (app_if (m := sA1 (-d / 4)) (if_pos (by omega)))), trivial⟩⟩⟩
     ·have hg7_ := bF hg7
      refine RK.val (guard_yes rfl rfl hg7) (op_move (rfl : _ = AV.p (.c _))) ?_
      refine RK.val (guard_yes rfl rfl hg7) (op_rem rfl rfl (by omega) (c := -d / 4 % 8) (Int.tmod_eq_emod_of_nonneg (by omega))) ?_
      refine RK.val (guard_yes rfl rfl hg7) (op_eql rfl rfl) ?_
      refine RK.V (op_pick_f rfl hg7 (rfl : _ = AV.p (.c _))) ?_
      refine RK.M rfl ?_
      refine RK.split (t := 58) rfl (fun hg8 => ?_) (fun hg8 => ?_)
      ·have hg8_ := bT hg8
       refine RK.skip (guard_no rfl rfl hg8) ?_
       refine RK.skip (guard_no rfl rfl hg8) ?_
       refine RK.skip (guard_no rfl rfl hg8) ?_
       refine RK.V (op_pick_t rfl hg8 (rfl : _ = AV.p (.c _))) ?_
       refine RK.D<|AWp_cond_true rfl rfl ?_
       refine AWp_region hP<|RK.V (op_move (rfl : _ = AV.vec _))<|RK.V (op_bslice hT rfl rfl rfl (es := [_]) rfl rfl rfl) ?_
       refine RK.app guard_none (op_appendI (z := -4) hT rfl rfl rfl rfl rfl rfl rfl rfl (by have := oddC_len (rmp (-d) 2); omega) (by decide)) ?_
       refine RK.V (op_assign (rfl : _ = AV.vec _))<|RK.D ?_
       refine ⟨(), trivial, .inr ⟨_, rfl, rfl, le_stL ⟨.refl _, .refl _, trivial⟩ ⟨Eq.trans rfl (congrArg (fun x => some (IB 3 x)) (app_if (m := sA1 (-d / 4)) (if_pos (by omega)))), trivial⟩⟩⟩
      ·have hg8_ := bF hg8
       refine RK.val (guard_yes rfl rfl hg8) (op_move (rfl : _ = AV.p (.c _))) ?_
       refine RK.val (guard_yes rfl rfl hg8) (op_rem rfl rfl (by omega) (c := -d / 4 % 8) (Int.tmod_eq_emod_of_nonneg (by omega))) ?_
       refine RK.val (guard_yes rfl rfl hg8) (op_eql rfl rfl) ?_
       refine RK.V (op_pick_f rfl hg8 (rfl : _ = AV.p (.c _))) ?_
       refine RK.D ?_
       refine AWp_cond rfl (fun hb9 => ?_) (fun hb9 => ?_)
       ·have hb9_ := bT hb9
        refine AWp_region hP<|RK.V (op_move (rfl : _ = AV.vec _))<|RK.V (op_bslice hT rfl rfl rfl (es := [_]) rfl rfl rfl) ?_
        refine RK.app guard_none (op_appendI (z := -4) hT rfl rfl rfl rfl rfl rfl rfl rfl (by have := oddC_len (rmp (-d) 2); omega) (by decide)) ?_
        refine RK.V (op_assign (rfl : _ = AV.vec _))<|RK.D ?_
        refine ⟨(), trivial, .inr ⟨_, rfl, rfl, le_stL ⟨.refl _, .refl _, trivial⟩ ⟨Eq.trans rfl (congrArg (fun x => some (IB 3 x)) (app_if (m := sA1 (-d / 4)) (if_pos (by omega)))), trivial⟩⟩⟩
       ·have hb9_ := bF hb9
        refine AWp_skip ?_
        refine ⟨(), trivial, .inl (le_stL ⟨.refl _, .refl _, trivial⟩ ⟨Eq.trans rfl (congrArg (fun x => some (IB 3 x)) (app_no (m := sA1 (-d / 4)) (if_neg (by omega)))), trivial⟩)⟩
    intro _ _
    refine AWp_seq_cutR 76 1000 (ι := Unit) (fun _ => stL [(3, .vec 1000), (6, Z (-d / 4))] [(1000, IB 3 (oddC (rmp (-d) 2) ++ sA1 (-d / 4) ++ sA2 (-d / 4)))]) (fun _ => True) rfl rfl ?_ ?_
    ·refine AWp_sr hP<|RK.M rfl<|RK.V (op_rem rfl rfl (by omega) (c := -d / 4 % 8) (Int.tmod_eq_emod_of_nonneg (by omega))) ?_
     refine RK.V (op_eql rfl rfl) ?_
     refine RK.M rfl ?_
     refine RK.split (t := 69) rfl (fun hg10 => ?_) (fun hg10 => ?_)
     ·have hg10_ := bT hg10
      refine RK.skip (guard_no rfl rfl hg10) ?_
      refine RK.skip (guard_no rfl rfl hg10) ?_
      refine RK.skip (guard_no rfl rfl hg10) ?_
      refine RK.V (op_pick_t rfl hg10 (rfl : _ = AV.p (.c _))) ?_
      refine RK.D<|AWp_cond_true rfl rfl ?_
      refine AWp_region hP<|RK.V (op_move (rfl : _ = AV.vec _))<|RK.V (op_bslice hT rfl rfl rfl (es := [_]) rfl rfl rfl) ?_
      refine RK.app guard_none (op_appendI (z := 8) hT rfl rfl rfl rfl rfl rfl rfl rfl (by have := oddC_len (rmp (-d) 2); rw [List.length_append]; unfold sA1; split <;> simp <;> omega) (by decide)) ?_
      refine RK.V (op_assign (rfl : _ = AV.vec _))<|RK.D ?_
      refine ⟨(), trivial, .inr ⟨_, rfl, rfl, le_stL ⟨.refl _, .refl _, trivial⟩ ⟨Eq.trans rfl (congrArg (fun x => some (IB 3 x)) (app_if (m := sA2 (-d / 4)) (if_pos (by omega)))), trivial⟩⟩⟩
     ·have hg10_ := bF hg10
      refine RK.val (guard_yes rfl rfl hg10) (op_move (rfl : _ = AV.p (.c _))) ?_
      refine RK.val (guard_yes rfl rfl hg10) (op_rem rfl rfl (by omega) (c := -d / 4 % 8) (Int.tmod_eq_emod_of_nonneg (by omega))) ?_
      refine RK.val (guard_yes rfl rfl hg10) (op_eql rfl rfl) ?_
      refine RK.V (op_pick_f rfl hg10 (rfl : _ = AV.p (.c _))) ?_
      refine RK.D ?_
      refine AWp_cond rfl (fun hb11 => ?_) (fun hb11 => ?_)
      ·have hb11_ := bT hb11
       refine AWp_region hP<|RK.V (op_move (rfl : _ = AV.vec _))<|RK.V (op_bslice hT rfl rfl rfl (es := [_]) rfl rfl rfl) ?_
       refine RK.app guard_none (op_appendI (z := 8) hT rfl rfl rfl rfl rfl rfl rfl rfl (by have := oddC_len (rmp (-d) 2); rw [List.length_append]; unfold sA1; split <;> simp <;> omega) (by decide)) ?_
       refine RK.V (op_assign (rfl : _ = AV.vec _))<|RK.D ?_
       refine ⟨(), trivial, .inr ⟨_, rfl, rfl, le_stL ⟨.refl _, .refl _, trivial⟩ ⟨Eq.trans rfl (congrArg (fun x => some (IB 3 x)) (app_if (m := sA2 (-d / 4)) (if_pos (by omega)))), trivial⟩⟩⟩
      ·have hb11_ := bF hb11
       refine AWp_skip ?_
       refine ⟨(), trivial, .inl (le_stL ⟨.refl _, .refl _, trivial⟩ ⟨Eq.trans rfl (congrArg (fun x => some (IB 3 x)) (app_no (m := sA2 (-d / 4)) (if_neg (by omega)))), trivial⟩)⟩
    intro _ _
    refine AWp_seq_cutR 82 1000 (ι := Unit) (fun _ => stL [(3, .vec 1000)] [(1000, IB 3 (oddC (rmp (-d) 2) ++ sA1 (-d / 4) ++ sA2 (-d / 4) ++ sA3 (-d / 4)))]) (fun _ => True) rfl rfl ?_ ?_
    ·refine AWp_sr hP<|RK.M rfl<|RK.V (op_rem rfl rfl (by omega) (c := -d / 4 % 8) (Int.tmod_eq_emod_of_nonneg (by omega))) ?_
     refine RK.V (op_eql rfl rfl) ?_
     refine RK.D ?_
     refine AWp_cond rfl (fun hb12 => ?_) (fun hb12 => ?_)
     ·have hb12_ := bT hb12
      refine AWp_region hP<|RK.V (op_move (rfl : _ = AV.vec _))<|RK.V (op_bslice hT rfl rfl rfl (es := [_]) rfl rfl rfl) ?_
      refine RK.app guard_none (op_appendI (z := -8) hT rfl rfl rfl rfl rfl rfl rfl rfl (by have := oddC_len (rmp (-d) 2); simp only [List.length_append]; unfold sA1 sA2; split <;> split <;> simp <;> omega) (by decide)) ?_
      refine RK.V (op_assign (rfl : _ = AV.vec _))<|RK.D ?_
      refine ⟨(), trivial, .inr ⟨_, rfl, rfl, le_stL ⟨.refl _, trivial⟩ ⟨Eq.trans rfl (congrArg (fun x => some (IB 3 x)) (app_if (m := sA3 (-d / 4)) (if_pos (by omega)))), trivial⟩⟩⟩
     ·have hb12_ := bF hb12
      refine AWp_skip ?_
      refine ⟨(), trivial, .inl (le_stL ⟨.refl _, trivial⟩ ⟨Eq.trans rfl (congrArg (fun x => some (IB 3 x)) (app_no (m := sA3 (-d / 4)) (if_neg (by omega)))), trivial⟩)⟩
    intro _ _
    refine AWp_sr hP<|RK.V (op_move (rfl : _ = AV.vec _))<|RK.V (op_assign (rfl : _ = AV.vec _))<|RK.D<|AWp_freezeI (t := 2) rfl rfl ?_
    refine AWp_ret ?_
    refine ends_one rfl (.inr rfl) (res_tmp rfl) ?_ O_ends
    exact Sub.of_eq (by rw [sA_all ‹d.tmod 4 = 0›])
theorem r10_Characters (d : Int) (hd : L 40 d) :
  Call0 Tryz.prog 20 [I d] (.t [.c (IS (chE d)), PE (szE d)]) := by
 have id0 : LB d 40 := ⟨hd⟩
 refine callM_of (np := 0) Tryz.func20 (by kernel_rfl) rfl rfl (Nat.le_of_ble_eq_true rfl) (fun m h => absurd rfl h) (fun m h => absurd rfl h) rfl ?_
 refine AWp_sr hP<|RK.alc guard_none (op_box rfl rfl)<|RK.As rfl<|RK.As rfl<|RK.D<|AWp_sr hP<|RK.G2 hT rfl rfl rfl rfl rfl rfl<|RK.V (Eff.call0 (r10_refused d hd)) ?_
 refine RK.V (op_move (rfl : _ = AV.t _))<|RK.V (op_extract rfl (v := .c _) rfl)<|RK.V (op_extract rfl (v := .c _) rfl)<|RK.As rfl<|RK.As rfl<|RK.D<|AWp_seq<|AWp_sr hP<|RK.M rfl<|RK.V (op_neq rfl rfl) ?_
 refine RK.D ?_
 refine AWp_cond rfl (fun hb1 => ?_) (fun hb1 => ?_)
 ·have hb1_ := bneT hb1
  refine AWp_sr hP<|RK.M rfl<|RK.As rfl<|RK.As rfl<|RK.D<|AWp_ret ?_
  refine ends_two rfl (.inr rfl) (res_tmp rfl) (res_tmp rfl) ?_ O_ends
  exact (by rw [chE_e hb1_]; exact Sub.tup ⟨DSub.nil_sl, DSub.refl _, trivial⟩)
 ·have hb1_ := bneF hb1
  have he : szE d = 0 := hb1_
  obtain ⟨e1, e2, e3⟩ := gnV_0 he
  have cC := r10_characters d e2 e3
  rw [e1]
  refine AWp_skip<|AWp_sr hP<|RK.M rfl<|RK.V (Eff.call0 cC) ?_
  refine RK.As rfl<|RK.As rfl<|RK.D<|AWp_ret ?_
  refine ends_two rfl (.inr rfl) (res_tmp rfl) (res_tmp rfl) ?_ O_ends
  exact Sub.of_eq (by rw [he, chE_0 he])
theorem r10_Genera (d : Int) (hd : L 40 d) :
  Call0 Tryz.prog 22 [I d] (.t [PE (gnN d), PE (szE d)]) := by
 have id0 : LB d 40 := ⟨hd⟩
 refine callM_of (np := 0) Tryz.func22 (by kernel_rfl) rfl rfl (Nat.le_of_ble_eq_true rfl) (fun m h => absurd rfl h) (fun m h => absurd rfl h) rfl ?_
 refine AWp_sr hP<|RK.alc guard_none (op_box rfl rfl)<|RK.As rfl<|RK.As rfl<|RK.D<|AWp_sr hP<|RK.G2 hT rfl rfl rfl rfl rfl rfl<|RK.V (Eff.call0 (r10_Characters d hd)) ?_
 refine RK.V (op_move (rfl : _ = AV.t _))<|RK.V (op_extract rfl (v := .c _) rfl)<|RK.V (op_extract rfl (v := .c _) rfl)<|RK.As rfl<|RK.As rfl<|RK.D<|AWp_seq<|AWp_sr hP<|RK.M rfl<|RK.V (op_neq rfl rfl) ?_
 refine RK.D ?_
 refine AWp_cond rfl (fun hb1 => ?_) (fun hb1 => ?_)
 ·have hb1_ := bneT hb1
  refine AWp_sr hP<|RK.M rfl<|RK.As rfl<|RK.As rfl<|RK.D<|AWp_ret ?_
  refine ends_two rfl (.inr rfl) (res_tmp rfl) (res_tmp rfl) ?_ O_ends
  exact Sub.of_eq (gnN_e hb1_)
 ·have hb1_ := bneF hb1
  have he : szE d = 0 := hb1_
  obtain ⟨e1, e2, e3⟩ := gnV_0 he
  have hcl := chs_len e2 e3
  have hch := chE_0 he
  rw [hch]
  generalize hl : chs d = l at hcl
  refine AWp_skip<|AWp_sr hP<|RK.As rfl<|RK.D<|AWp_seq<|AWp_sr hP<|RK.As rfl<|RK.D<|AWp_block<|AWp_loop (ι := Nat) (fun k => stL [(4, .p (.c (IS l))), (6, Z (2 ^ (k - 1))), (7, Z (k : Int))] []) (fun k => 1 ≤ k ∧ k ≤ max 1 l.length) (fun k => 20 - k) 1 ⟨Nat.le_refl _, Nat.le_max_left _ _⟩ (le_stL ⟨.refl _, .refl _, .refl _, trivial⟩ trivial) ?_
  rintro k ⟨hk1, hk2⟩
  have hpw := two_pow_b (k := k - 1) (by omega)
  refine AWp_seq<|AWp_sr hP<|RK.M rfl<|RK.M rfl<|RK.V (op_len hT rfl rfl rfl (by rfl)) ?_
  refine RK.V (op_lss rfl rfl)<|RK.D ?_
  refine AWp_cond rfl (fun hb2 => ?_) (fun hb2 => ?_)
  ·have hb2_ := of_decide_eq_true hb2
   refine AWp_skip<|AWp_seq<|AWp_block<|AWp_region hP<|RK.M rfl<|RK.V (op_mul rfl rfl (by first | exact IntWalk.i64_in _ (by omega) | rfl)) ?_
   refine RK.As rfl<|RK.D<|AWp_region hP<|RK.M rfl<|RK.V (op_add rfl rfl (by first | exact IntWalk.i64_in _ (by omega) | rfl)) ?_
   refine RK.As rfl<|RK.D ?_
   have e : (2 : Int) ^ (k - 1) * 2 = 2 ^ (k + 1 - 1) := by rw [show k + 1 - 1 = k - 1 + 1 by omega, Int.pow_succ]
   refine ⟨k + 1, by omega, by omega, le_stL ⟨.refl _, Sub.int e, Sub.int (by omega), trivial⟩ trivial⟩
  ·have hb2_ := of_decide_eq_false hb2
   refine AWp_exit<|AWp_sr hP<|RK.M rfl<|RK.As rfl<|RK.As rfl<|RK.D<|AWp_ret ?_
   refine ends_two rfl (.inr rfl) (res_tmp rfl) (res_tmp rfl) ?_ O_ends
   exact Sub.of_eq (by rw [show k - 1 = l.length - 1 by omega, ← hl]; exact gnN_0 he)
theorem r10_at (d N : Int) (h0 : d < 0) (h1 : -4194304 ≤ d) (hN : L 40 N) (hp : 0 < N) (ho : N % 2 = 1) :
  Call0 Tryz.prog 93 [Z d, I N] (.p (.c (IS ((chs d).map (fun c => cv c N))))) := by
 have iN : LB N 40 := ⟨hN⟩
 have cC := r10_characters d h0 h1
 have hcl := chs_len h0 h1
 have hkd := fun c hc => chs_kind (c := c) h0 hc
 have hkb := fun c hc => chs_b (c := c) h0 h1 hc
 generalize chs d = l at *
 refine callM_of (np := 0) Tryz.func93 (by kernel_rfl) rfl rfl (Nat.le_of_ble_eq_true rfl) (fun m h => absurd rfl h) (fun m h => absurd rfl h) rfl ?_
 refine AWp_sr hP<|RK.alc guard_none (op_box rfl rfl)<|RK.As rfl<|RK.D<|AWp_sr hP<|RK.M rfl<|RK.V (Eff.call0 cC) ?_
 refine RK.As rfl<|RK.D<|AWp_sr hP<|RK.alc guard_none (op_bslice_vec hT rfl rfl rfl (es := []) rfl rfl rfl) ?_
 refine RK.V (op_assign (rfl : _ = AV.vec _))<|RK.D<|AWp_rn 10 1000 rfl rfl rfl ?_
 refine AWp_seq<|AWp_sr hP<|RK.As rfl<|RK.D<|AWp_block<|AWp_loop (ι := Nat) (fun k => stL [(3, .loc 3 0), (5, .p (.c (IS l))), (6, .vec 1000), (7, Z (k : Int))] [(3, ⟨false, 1, 36, [zn (N), zm (N)]⟩), (1000, IB 3 ((l.take k).map (fun c => cv c N)))]) (fun k => k ≤ l.length) (fun k => l.length - k) 0 (Nat.zero_le _) (le_stL ⟨.refl _, .refl _, .refl _, .refl _, trivial⟩ ⟨rfl, rfl, trivial⟩) ?_
 intro k hk
 refine AWp_seq<|AWp_sr hP<|RK.M rfl<|RK.M rfl<|RK.V (op_len hT rfl rfl rfl (by rfl)) ?_
 refine RK.V (op_lss rfl rfl)<|RK.D ?_
 refine AWp_cond rfl (fun hb1 => ?_) (fun hb1 => ?_)
 ·have hb1_ := of_decide_eq_true hb1
  have hmk := getD_memI hb1_
  have cX := r10_Value (l.getD k 0) N (hkd _ hmk) (hkb _ hmk) hN hp ho
  refine AWp_skip<|AWp_seq<|AWp_block<|AWp_region hP<|RK.V (op_move (rfl : _ = AV.vec _))<|RK.M rfl<|RK.M rfl<|RK.V (op_indexI hT (n := (k : Int)) rfl rfl rfl rfl rfl rfl (by omega)) ?_
  refine RK.V (op_load_ip_one hT rfl rfl rfl rfl) ?_
  refine RK.G2 hT rfl rfl rfl rfl rfl rfl<|RK.V (Eff.call0 cX) ?_
  refine RK.V (op_bslice hT rfl rfl rfl (es := [_]) rfl rfl rfl) ?_
  refine RK.app guard_none (op_appendI (z := cv (l.getD k 0) N) hT rfl rfl rfl rfl rfl rfl rfl rfl (by rw [List.length_map, List.length_take]; omega) (by decide)) ?_
  refine RK.V (op_assign (rfl : _ = AV.vec _))<|RK.D<|AWp_rn 25 1000 rfl rfl rfl ?_
  refine AWp_region hP<|RK.M rfl<|RK.V (op_add rfl rfl (by first | exact IntWalk.i64_in _ (by omega) | rfl)) ?_
  refine RK.As rfl<|RK.D ?_
  refine ⟨k + 1, by omega, by omega, le_stL ⟨.refl _, .refl _, .refl _, Sub.int (by omega), trivial⟩ ⟨rfl, Eq.trans rfl (congrArg (fun x => some (IB 3 x)) (map_snoc hb1_)), trivial⟩⟩
 ·have hb1_ := of_decide_eq_false hb1
  refine AWp_exit<|AWp_freezeI (t := 6) rfl rfl ?_
  refine AWp_sr hP<|RK.M rfl<|RK.As rfl<|RK.D<|AWp_ret ?_
  refine ends_one rfl (.inr rfl) (res_tmp rfl) ?_ O_ends
  exact Sub.of_eq (by rw [take_all hb1_])
end Go.Proofs.YtpaifigafaijpaaGreatDoor
end
section
namespace Go.Proofs.YtpaifigafaijpaaGreatDoor
open Go Go.AM
theorem r10_Values (f : Fm) (hfa : L 6 f.a) (hfb : L 6 f.b) (hfc : L 6 f.c) :
  Call0 Tryz.prog 30 [FA f.a f.b f.c] (.t [.c (IS (gvL f)), PE (gpE f)]) := by
 have ifa : LB f.a 6 := ⟨hfa⟩
 have ifb : LB f.b 6 := ⟨hfb⟩
 have ifc : LB f.c 6 := ⟨hfc⟩
 have cP := r10_wrong f hfa hfb hfc
 have cR : Call0 Tryz.prog 91 [FA f.a f.b f.c] (.t [PF f.rd, PM (rdM f.a f.b f.c), PE (rdE f.a f.b f.c)]) := r8_Reduce f.a f.b f.c lz lz lz
 refine callM_of (np := 0) Tryz.func30 (by kernel_rfl) rfl rfl (Nat.le_of_ble_eq_true rfl) (fun m h => absurd rfl h) (fun m h => absurd rfl h) rfl ?_
 refine AWp_sr hP<|RK.alc guard_none (op_box rfl rfl)<|RK.As rfl<|RK.As rfl<|RK.D<|AWp_sr hP<|RK.G6 hT rfl rfl rfl rfl rfl rfl<|RK.V (Eff.call0 cP) ?_
 refine RK.V (op_move (rfl : _ = AV.t _))<|RK.V (op_extract rfl (v := .c _) rfl)<|RK.V (op_extract rfl (v := .c _) rfl)<|RK.As rfl<|RK.As rfl<|RK.D<|AWp_seq<|AWp_sr hP<|RK.M rfl<|RK.V (op_neq rfl rfl) ?_
 refine RK.D ?_
 refine AWp_cond rfl (fun hb1 => ?_) (fun hb1 => ?_)
 ·have hb1_ := bneT hb1
  refine AWp_sr hP<|RK.M rfl<|RK.As rfl<|RK.As rfl<|RK.D<|AWp_ret ?_
  refine ends_two rfl (.inr rfl) (res_tmp rfl) (res_tmp rfl) ?_ O_ends
  exact (by rw [gvL_e hb1_]; exact Sub.tup ⟨DSub.nil_sl, DSub.refl _, trivial⟩)
 ·have hb1_ := bneF hb1
  have he : gpE f = 0 := hb1_
  obtain ⟨hf, hE⟩ := gpE_cl he
  obtain ⟨hgn, hd0, hd1⟩ := gnV_0 hE
  have hxx := gp_hx he
  have eV : gpV f = dsc f.a f.b f.c := by unfold gpV; rw [if_pos he]
  have hmap := fun (N : Int) (h1 : RpN f.rd N) (h2 : Int.gcd N (2 * dsc f.a f.b f.c) = 1) => gv_map hf hd1 hd0 hE h1 h2
  obtain ⟨⟨s1, s2⟩, ⟨s3, s4⟩, s5, s6⟩ := rd_small hf.rd hf.rd_rd hd1
  have hg := hf.rd
  have hpe : rdE f.a f.b f.c = 0 := pos_rdE hf.pos
  rw [hpe] at cR
  have hat0 := fun (N : Int) => r10_at (dsc f.a f.b f.c) N hd0 hd1
  generalize rdM f.a f.b f.c = M0 at *
  rw [eV]
  generalize dsc f.a f.b f.c = d at *
  generalize f.rd = g at *
  have jd : InI64 d := by unfold InI64; omega
  have hdL : L 40 d := (show L 6 d by unfold L; omega).mono (by decide)
  have iga : LB g.a 6 := ⟨by unfold L; omega⟩
  have igb : LB g.b 6 := ⟨by unfold L; omega⟩
  have igc : LB g.c 6 := ⟨by unfold L; omega⟩
  refine AWp_skip<|AWp_sr hP<|RK.G6 hT rfl rfl rfl rfl rfl rfl<|RK.V (Eff.call0 cR) ?_
  refine RK.V (op_move (rfl : _ = AV.t _))<|RK.V (op_extract rfl (v := .a _) rfl)<|RK.V (op_extract rfl (v := .a _) rfl)<|RK.V (op_extract rfl (v := .c _) rfl)<|RK.alc guard_none (op_alloc hT rfl rfl)<|RK.alc guard_none (op_alloc hT rfl rfl)<|RK.S hT rfl rfl rfl rfl rfl rfl rfl<|RK.S hT rfl rfl rfl rfl rfl rfl rfl<|RK.As rfl<|RK.D<|AWp_sr hP<|RK.As rfl<|RK.D<|AWp_block<|AWp_loop (ι := Int) (fun s => stL [(4, Z d), (6, .loc 6 0), (9, Z s)] [(6, ⟨false, 1, 53, FL g.a g.b g.c⟩)]) (fun s => 1 ≤ s ∧ NoS g d s) (fun s => (2800001 - s).toNat) 1 ⟨by decide, NoS.start⟩ (le_stL ⟨.refl _, .refl _, .refl _, trivial⟩ ⟨rfl, trivial⟩) ?_
  rintro s ⟨hs1, hs2⟩
  have hle0 := hs2.le hd0 hxx
  refine AWp_seq<|AWp_block<|AWp_sr hP<|RK.As rfl<|RK.D<|AWp_block<|AWp_loop (ι := Int) (fun x => stL [(4, Z d), (6, .loc 6 0), (9, Z s), (10, Z x)] [(6, ⟨false, 1, 53, FL g.a g.b g.c⟩)]) (fun x => (0 ≤ x ∧ x ≤ s + 1) ∧ NoT g d s x) (fun x => (s + 1 - x).toNat) 0 ⟨by omega, NoT.start⟩ (le_stL ⟨.refl _, .refl _, .refl _, .refl _, trivial⟩ ⟨rfl, trivial⟩) ?_
  rintro x ⟨hx1, hx2⟩
  refine AWp_seq<|AWp_sr hP<|RK.M rfl<|RK.M rfl<|RK.V (op_leq rfl rfl) ?_
  refine RK.D ?_
  refine AWp_cond rfl (fun hb2 => ?_) (fun hb2 => ?_)
  ·have hb2_ := of_decide_eq_true hb2
   have hle := hs2.le hd0 hxx
   have jx : InI64 x := by unfold InI64; omega
   have jsx : InI64 (s - x) := by unfold InI64; omega
   have ix6 : LB x 6 := ⟨by unfold L; omega⟩
   have isx : LB (s - x) 6 := ⟨by unfold L; omega⟩
   have cV := r8_Value g.a g.b g.c x (s - x) lz lz lz lz lz
   have hVL : L 40 (vl g.a g.b g.c x (s - x)) := lz
   have hVr : RpN g (vl g.a g.b g.c x (s - x)) := ⟨x, s - x, rfl⟩
   have hVn := fun h => hx2.next (x := x) h
   generalize (vl g.a g.b g.c x (s - x)) = V at cV hVL hVr hVn
   refine AWp_skip<|AWp_seq<|AWp_block<|AWp_sr hP<|RK.G6 hT rfl rfl rfl rfl rfl rfl<|RK.M rfl<|RK.V (Eff.call0 (r_Of x jx)) ?_
   refine RK.M rfl<|RK.M rfl<|RK.V (op_sub rfl rfl (by first | exact IntWalk.i64_in _ (by omega) | rfl)) ?_
   refine RK.V (Eff.call0 (r_Of (s - x) jsx)) ?_
   refine RK.V (Eff.call0 cV) ?_
   refine RK.alc guard_none (op_alloc hT rfl rfl)<|RK.S hT rfl rfl rfl rfl rfl rfl rfl<|RK.D<|AWp_sr hP<|RK.G2 hT rfl rfl rfl rfl rfl rfl<|RK.M rfl<|RK.V (Eff.call0 (r_Of d jd)) ?_
   refine RK.V (Eff.call0 (r10_Coprime V d hVL hdL)) ?_
   refine RK.D ?_
   refine AWp_cond rfl (fun hb3 => ?_) (fun hb3 => ?_)
   ·have hc1 : Int.gcd V (2 * d) = 1 := gcd_t ‹decide (((Int.gcd V (2 * d) : Nat) : Int) = 1) = true›
    have p01 := rp_pos hg hd0 hVr hc1
    have cAt := hat0 V hVL p01.1 p01.2
    have hfin := hmap V hVr hc1
    refine AWp_sr hP<|RK.M rfl<|RK.G2 hT rfl rfl rfl rfl rfl rfl<|RK.V (Eff.call0 cAt) ?_
    refine RK.As rfl<|RK.As rfl<|RK.D<|AWp_ret ?_
    refine ends_two rfl (.inr rfl) (res_tmp rfl) (res_tmp rfl) ?_ O_ends
    exact Sub.of_eq (by rw [hfin, he])
   ·have hc1 : Int.gcd V (2 * d) ≠ 1 := gcd_f ‹decide (((Int.gcd V (2 * d) : Nat) : Int) = 1) = false›
    refine AWp_skip<|AWp_region hP<|RK.M rfl<|RK.V (op_add rfl rfl (by first | exact IntWalk.i64_in _ (by omega) | rfl)) ?_
    refine RK.As rfl<|RK.D ?_
    refine ⟨x + 1, ⟨by omega, hVn hc1⟩, by omega, le_stL ⟨.refl _, .refl _, .refl _, .refl _, trivial⟩ ⟨rfl, trivial⟩⟩
  ·have hb2_ := of_decide_eq_false hb2
   refine AWp_exit<|AWp_region hP<|RK.M rfl<|RK.V (op_add rfl rfl (by first | exact IntWalk.i64_in _ (by omega) | rfl)) ?_
   refine RK.As rfl<|RK.D ?_
   refine ⟨s + 1, ⟨by omega, hs2.next hx2 ‹¬ x ≤ s›⟩, by omega, le_stL ⟨.refl _, .refl _, .refl _, trivial⟩ ⟨rfl, trivial⟩⟩
theorem r10_Same (f g : Fm) (hfa : L 6 f.a) (hfb : L 6 f.b) (hfc : L 6 f.c) (hga : L 6 g.a) (hgb : L 6 g.b) (hgc : L 6 g.c) :
  Call0 Tryz.prog 34 [FA f.a f.b f.c, FA g.a g.b g.c] (.t [PB (gsB f g), PE (gsE f g)]) := by
 have ifa : LB f.a 6 := ⟨hfa⟩
 have ifb : LB f.b 6 := ⟨hfb⟩
 have ifc : LB f.c 6 := ⟨hfc⟩
 have iga : LB g.a 6 := ⟨hga⟩
 have igb : LB g.b 6 := ⟨hgb⟩
 have igc : LB g.c 6 := ⟨hgc⟩
 have hvl := gvL_len f
 refine callM_of (np := 0) Tryz.func34 (by kernel_rfl) rfl rfl (Nat.le_of_ble_eq_true rfl) (fun m h => absurd rfl h) (fun m h => absurd rfl h) rfl ?_
 refine AWp_sr hP<|RK.alc guard_none (op_box rfl rfl)<|RK.alc guard_none (op_box rfl rfl)<|RK.As rfl<|RK.As rfl<|RK.D<|AWp_sr hP<|RK.G6 hT rfl rfl rfl rfl rfl rfl<|RK.V (Eff.call0 (r10_Values f hfa hfb hfc)) ?_
 refine RK.V (op_move (rfl : _ = AV.t _))<|RK.V (op_extract rfl (v := .c _) rfl)<|RK.V (op_extract rfl (v := .c _) rfl)<|RK.As rfl<|RK.As rfl<|RK.D<|AWp_seq<|AWp_sr hP<|RK.M rfl<|RK.V (op_neq rfl rfl) ?_
 refine RK.D ?_
 refine AWp_cond rfl (fun hb1 => ?_) (fun hb1 => ?_)
 ·have hb1_ := bneT hb1
  refine AWp_sr hP<|RK.M rfl<|RK.As rfl<|RK.As rfl<|RK.D<|AWp_ret ?_
  refine ends_two rfl (.inr rfl) (res_tmp rfl) (res_tmp rfl) ?_ O_ends
  exact Sub.of_eq (gs_1 hb1_)
 ·have hb1_ := bneF hb1
  refine AWp_skip<|AWp_sr hP<|RK.G6 hT rfl rfl rfl rfl rfl rfl<|RK.V (Eff.call0 (r10_Values g hga hgb hgc)) ?_
  refine RK.V (op_move (rfl : _ = AV.t _))<|RK.V (op_extract rfl (v := .c _) rfl)<|RK.V (op_extract rfl (v := .c _) rfl)<|RK.As rfl<|RK.As rfl<|RK.D<|AWp_seq<|AWp_sr hP<|RK.M rfl<|RK.V (op_neq rfl rfl) ?_
  refine RK.D ?_
  refine AWp_cond rfl (fun hb2 => ?_) (fun hb2 => ?_)
  ·have hb2_ := bneT hb2
   refine AWp_sr hP<|RK.M rfl<|RK.As rfl<|RK.As rfl<|RK.D<|AWp_ret ?_
   refine ends_two rfl (.inr rfl) (res_tmp rfl) (res_tmp rfl) ?_ O_ends
   exact Sub.of_eq (gs_2 hb1_ hb2_)
  ·have hb2_ := bneF hb2
   refine AWp_skip<|AWp_seq<|AWp_sr hP<|RK.G6 hT rfl rfl rfl rfl rfl rfl<|RK.V (Eff.call0 (r8_Disc f.a f.b f.c lz lz lz)) ?_
   refine RK.G6 hT rfl rfl rfl rfl rfl rfl<|RK.V (Eff.call0 (r8_Disc g.a g.b g.c lz lz lz)) ?_
   refine RK.V (Eff.call0 (r_Same _ _)) ?_
   refine RK.V (op_unot rfl) ?_
   refine RK.D ?_
   refine AWp_cond rfl (fun hb3 => ?_) (fun hb3 => ?_)
   ·have hb3_ := (notT hb3)
    refine AWp_sr hP<|RK.As rfl<|RK.As rfl<|RK.D<|AWp_ret ?_
    refine ends_two rfl (.inr rfl) (res_tmp rfl) (res_tmp rfl) ?_ O_ends
    exact Sub.of_eq (gs_3 hb1_ hb2_ (of_decide_eq_false (notT hb3)))
   ·have hb3_ := (notF hb3)
    refine AWp_skip<|AWp_sr hP<|RK.M rfl<|RK.M rfl<|RK.V (Eff.call0 (r10_SameList (gvL f) (gvL g) hvl)) ?_
    refine RK.As rfl<|RK.As rfl<|RK.D<|AWp_ret ?_
    refine ends_two rfl (.inr rfl) (res_tmp rfl) (res_tmp rfl) ?_ O_ends
    exact Sub.of_eq (gs_4 hb1_ hb2_ (of_decide_eq_true (notF hb3)))
theorem r10_Principal (f : Fm) (hfa : L 6 f.a) (hfb : L 6 f.b) (hfc : L 6 f.c) :
  Call0 Tryz.prog 32 [FA f.a f.b f.c] (.t [PB (gpr f), PE (gpE f)]) := by
 have ifa : LB f.a 6 := ⟨hfa⟩
 have ifb : LB f.b 6 := ⟨hfb⟩
 have ifc : LB f.c 6 := ⟨hfc⟩
 have hvl := gvL_len f
 have cV := r10_Values f hfa hfb hfc
 refine callM_of (np := 0) Tryz.func32 (by kernel_rfl) rfl rfl (Nat.le_of_ble_eq_true rfl) (fun m h => absurd rfl h) (fun m h => absurd rfl h) rfl ?_
 refine AWp_sr hP<|RK.alc guard_none (op_box rfl rfl)<|RK.As rfl<|RK.As rfl<|RK.D<|AWp_sr hP<|RK.G6 hT rfl rfl rfl rfl rfl rfl<|RK.V (Eff.call0 cV) ?_
 refine RK.V (op_move (rfl : _ = AV.t _))<|RK.V (op_extract rfl (v := .c _) rfl)<|RK.V (op_extract rfl (v := .c _) rfl)<|RK.As rfl<|RK.As rfl<|RK.D<|AWp_seq<|AWp_sr hP<|RK.M rfl<|RK.V (op_neq rfl rfl) ?_
 refine RK.D ?_
 refine AWp_cond rfl (fun hb1 => ?_) (fun hb1 => ?_)
 ·have hb1_ := bneT hb1
  refine AWp_sr hP<|RK.M rfl<|RK.As rfl<|RK.As rfl<|RK.D<|AWp_ret ?_
  refine ends_two rfl (.inr rfl) (res_tmp rfl) (res_tmp rfl) ?_ O_ends
  exact Sub.of_eq (gpr_e hb1_)
 ·have hb1_ := bneF hb1
  have he : gpE f = 0 := hb1_
  refine AWp_skip<|AWp_seq<|AWp_sr hP<|RK.As rfl<|RK.D<|AWp_block<|AWp_loop (ι := Nat) (fun k => stL [(4, .p (.c (IS (gvL f)))), (6, Z (k : Int))] []) (fun k => k ≤ (gvL f).length ∧ ∀ j : Nat, j < k → (gvL f).getD j 0 = 1) (fun k => (gvL f).length - k) 0 ⟨Nat.zero_le _, fun j h => absurd h (Nat.not_lt_zero j)⟩ (le_stL ⟨.refl _, .refl _, trivial⟩ trivial) ?_
  rintro k ⟨hk, hall⟩
  refine AWp_seq<|AWp_sr hP<|RK.M rfl<|RK.M rfl<|RK.V (op_len hT rfl rfl rfl (by rfl)) ?_
  refine RK.V (op_lss rfl rfl)<|RK.D ?_
  refine AWp_cond rfl (fun hb2 => ?_) (fun hb2 => ?_)
  ·have hb2_ := of_decide_eq_true hb2
   refine AWp_skip<|AWp_seq<|AWp_block<|AWp_sr hP<|RK.M rfl<|RK.M rfl<|RK.V (op_indexI hT (n := (k : Int)) rfl rfl rfl rfl rfl rfl (by omega)) ?_
   refine RK.V (op_load_ip_one hT rfl rfl rfl rfl) ?_
   refine RK.V (op_neq rfl rfl) ?_
   refine RK.D ?_
   refine AWp_cond rfl (fun hb3 => ?_) (fun hb3 => ?_)
   ·have hb3_ := bneT hb3
    refine AWp_sr hP<|RK.As rfl<|RK.As rfl<|RK.D<|AWp_ret ?_
    refine ends_two rfl (.inr rfl) (res_tmp rfl) (res_tmp rfl) ?_ O_ends
    exact Sub.of_eq (by rw [← gpr_no he hb2_ hb3_, he])
   ·have hb3_ := bneF hb3
    refine AWp_skip<|AWp_region hP<|RK.M rfl<|RK.V (op_add rfl rfl (by first | exact IntWalk.i64_in _ (by omega) | rfl)) ?_
    refine RK.As rfl<|RK.D ?_
    refine ⟨k + 1, ⟨by omega, fun j hj => (Nat.lt_succ_iff_lt_or_eq.1 hj).elim (hall j) (fun e => e ▸ by simpa using hb3_)⟩, by omega, le_stL ⟨.refl _, Sub.int (by omega), trivial⟩ trivial⟩
  ·have hb2_ := of_decide_eq_false hb2
   refine AWp_exit<|AWp_sr hP<|RK.As rfl<|RK.As rfl<|RK.D<|AWp_ret ?_
   refine ends_two rfl (.inr rfl) (res_tmp rfl) (res_tmp rfl) ?_ O_ends
   exact Sub.of_eq (by rw [← gpr_yes he hb2_ hall, he])
theorem r8_LessF (f g : Fm) :
  Call0 Tryz.prog 154 [FA f.a f.b f.c, FA g.a g.b g.c] (B (lesF f g)) := by
 refine callM_of (np := 0) Tryz.func154 (by kernel_rfl) rfl rfl (Nat.le_of_ble_eq_true rfl) (fun m h => absurd rfl h) (fun m h => absurd rfl h) rfl ?_
 refine AWp_sr hP<|RK.alc guard_none (op_box rfl rfl)<|RK.alc guard_none (op_box rfl rfl)<|RK.As rfl<|RK.D<|AWp_sr hP<|RK.F hT rfl rfl rfl rfl rfl rfl<|RK.G2 hT rfl rfl rfl rfl rfl rfl<|RK.F hT rfl rfl rfl rfl rfl rfl<|RK.G2 hT rfl rfl rfl rfl rfl rfl<|RK.V (Eff.call0 (r_Cmp _ _)) ?_
 refine RK.F hT rfl rfl rfl rfl rfl rfl<|RK.G2 hT rfl rfl rfl rfl rfl rfl<|RK.F hT rfl rfl rfl rfl rfl rfl<|RK.G2 hT rfl rfl rfl rfl rfl rfl<|RK.V (Eff.call0 (r_Cmp _ _)) ?_
 refine RK.As rfl<|RK.As rfl<|RK.D<|AWp_sr hP<|RK.M rfl<|RK.V (op_lss rfl rfl)<|RK.M rfl ?_
 refine RK.split (t := 19) rfl (fun hg1 => ?_) (fun hg1 => ?_)
 ·have hg1_ := of_decide_eq_true hg1
  refine RK.skip (guard_no rfl rfl hg1) ?_
  refine RK.skip (guard_no rfl rfl hg1) ?_
  refine RK.skip (guard_no rfl rfl hg1) ?_
  refine RK.skip (guard_sk rfl rfl) ?_
  refine RK.skip (guard_sk rfl rfl) ?_
  refine RK.skip (guard_sk rfl rfl) ?_
  refine RK.skip (guard_sk rfl rfl) ?_
  refine RK.skip (guard_sk rfl rfl) ?_
  refine RK.skip (guard_sk rfl rfl) ?_
  refine RK.skip (guard_sk rfl rfl) ?_
  refine RK.skip (guard_sk rfl rfl) ?_
  refine RK.skip (guard_sk rfl rfl) ?_
  refine RK.skip (guard_sk rfl rfl) ?_
  refine RK.skip (guard_sk rfl rfl) ?_
  refine RK.skip (guard_sk rfl rfl) ?_
  refine RK.skip (guard_sk rfl rfl) ?_
  refine RK.skip (guard_sk rfl rfl) ?_
  refine RK.skip (guard_no rfl rfl hg1) ?_
  refine RK.V (op_pick_t rfl hg1 (rfl : _ = AV.p (.c _))) ?_
  refine RK.As rfl<|RK.D<|AWp_ret ?_
  refine ends_one rfl (.inr rfl) (res_tmp rfl) ?_ O_ends
  exact Sub.bool (by unfold lesF; simp_all)
 ·have hg1_ := of_decide_eq_false hg1
  refine RK.val (guard_yes rfl rfl hg1) (op_move (rfl : _ = AV.p (.c _))) ?_
  refine RK.val (guard_yes rfl rfl hg1) (op_eql rfl rfl) ?_
  refine RK.val (guard_yes rfl rfl hg1) (op_move (rfl : _ = AV.p (.c _))) ?_
  refine RK.split (t := 22) rfl (fun hg2 => ?_) (fun hg2 => ?_)
  ·have hg2_ := bT hg2
   refine RK.val (guard_yes rfl rfl hg2) (op_move (rfl : _ = AV.p (.c _))) ?_
   refine RK.val (guard_yes rfl rfl hg2) (op_lss rfl rfl) ?_
   refine RK.val (guard_yes rfl rfl hg2) (op_move (rfl : _ = AV.p (.c _))) ?_
   refine RK.split (t := 25) rfl (fun hg3 => ?_) (fun hg3 => ?_)
   ·have hg3_ := of_decide_eq_true hg3
    refine RK.skip (guard_no rfl rfl hg3) ?_
    refine RK.skip (guard_no rfl rfl hg3) ?_
    refine RK.skip (guard_no rfl rfl hg3) ?_
    refine RK.skip (guard_sk rfl rfl) ?_
    refine RK.skip (guard_sk rfl rfl) ?_
    refine RK.skip (guard_sk rfl rfl) ?_
    refine RK.skip (guard_sk rfl rfl) ?_
    refine RK.skip (guard_sk rfl rfl) ?_
    refine RK.skip (guard_sk rfl rfl) ?_
    refine RK.skip (guard_no rfl rfl hg3) ?_
    refine RK.val (guard_yes rfl rfl hg2) (op_pick_t rfl hg3 (rfl : _ = AV.p (.c _))) ?_
    refine RK.val (guard_yes rfl rfl hg1) (op_pick_t rfl hg2 (rfl : _ = AV.p (.c _))) ?_
    refine RK.V (op_pick_f rfl hg1 (rfl : _ = AV.p (.c _))) ?_
    refine RK.As rfl<|RK.D<|AWp_ret ?_
    refine ends_one rfl (.inr rfl) (res_tmp rfl) ?_ O_ends
    exact Sub.bool (by unfold lesF; simp_all)
   ·have hg3_ := of_decide_eq_false hg3
    refine RK.val (guard_yes rfl rfl hg3) (op_move (rfl : _ = AV.p (.c _))) ?_
    refine RK.val (guard_yes rfl rfl hg3) (op_eql rfl rfl) ?_
    refine RK.val (guard_yes rfl rfl hg3) (op_move (rfl : _ = AV.p (.c _))) ?_
    refine RK.split (t := 28) rfl (fun hg4 => ?_) (fun hg4 => ?_)
    ·have hg4_ := bT hg4
     refine RK.val (guard_yes rfl rfl hg4) (op_field_loc hT rfl rfl rfl rfl rfl rfl) ?_
     refine RK.val (guard_yes rfl rfl hg4) (op_load_agg hT rfl rfl rfl rfl (cs := [_, _]) rfl rfl) ?_
     refine RK.val (guard_yes rfl rfl hg4) (op_field_loc hT rfl rfl rfl rfl rfl rfl) ?_
     refine RK.val (guard_yes rfl rfl hg4) (op_load_agg hT rfl rfl rfl rfl (cs := [_, _]) rfl rfl) ?_
     refine RK.val (guard_yes rfl rfl hg4) (Eff.call0 (r_Cmp _ _)) ?_
     refine RK.val (guard_yes rfl rfl hg4) (op_lss rfl rfl) ?_
     refine RK.val (guard_yes rfl rfl hg3) (op_pick_t rfl hg4 (rfl : _ = AV.p (.c _))) ?_
     refine RK.val (guard_yes rfl rfl hg2) (op_pick_f rfl hg3 (rfl : _ = AV.p (.c _))) ?_
     refine RK.val (guard_yes rfl rfl hg1) (op_pick_t rfl hg2 (rfl : _ = AV.p (.c _))) ?_
     refine RK.V (op_pick_f rfl hg1 (rfl : _ = AV.p (.c _))) ?_
     refine RK.As rfl<|RK.D<|AWp_ret ?_
     refine ends_one rfl (.inr rfl) (res_tmp rfl) ?_ O_ends
     exact Sub.bool (by unfold lesF; simp_all)
    ·have hg4_ := bF hg4
     refine RK.skip (guard_no rfl rfl hg4) ?_
     refine RK.skip (guard_no rfl rfl hg4) ?_
     refine RK.skip (guard_no rfl rfl hg4) ?_
     refine RK.skip (guard_no rfl rfl hg4) ?_
     refine RK.skip (guard_no rfl rfl hg4) ?_
     refine RK.skip (guard_no rfl rfl hg4) ?_
     refine RK.val (guard_yes rfl rfl hg3) (op_pick_f rfl hg4 (rfl : _ = AV.p (.c _))) ?_
     refine RK.val (guard_yes rfl rfl hg2) (op_pick_f rfl hg3 (rfl : _ = AV.p (.c _))) ?_
     refine RK.val (guard_yes rfl rfl hg1) (op_pick_t rfl hg2 (rfl : _ = AV.p (.c _))) ?_
     refine RK.V (op_pick_f rfl hg1 (rfl : _ = AV.p (.c _))) ?_
     refine RK.As rfl<|RK.D<|AWp_ret ?_
     refine ends_one rfl (.inr rfl) (res_tmp rfl) ?_ O_ends
     exact Sub.bool (by unfold lesF; simp_all)
  ·have hg2_ := bF hg2
   refine RK.skip (guard_no rfl rfl hg2) ?_
   refine RK.skip (guard_no rfl rfl hg2) ?_
   refine RK.skip (guard_no rfl rfl hg2) ?_
   refine RK.skip (guard_sk rfl rfl) ?_
   refine RK.skip (guard_sk rfl rfl) ?_
   refine RK.skip (guard_sk rfl rfl) ?_
   refine RK.skip (guard_sk rfl rfl) ?_
   refine RK.skip (guard_sk rfl rfl) ?_
   refine RK.skip (guard_sk rfl rfl) ?_
   refine RK.skip (guard_sk rfl rfl) ?_
   refine RK.skip (guard_sk rfl rfl) ?_
   refine RK.skip (guard_sk rfl rfl) ?_
   refine RK.skip (guard_sk rfl rfl) ?_
   refine RK.skip (guard_no rfl rfl hg2) ?_
   refine RK.val (guard_yes rfl rfl hg1) (op_pick_f rfl hg2 (rfl : _ = AV.p (.c _))) ?_
   refine RK.V (op_pick_f rfl hg1 (rfl : _ = AV.p (.c _))) ?_
   refine RK.As rfl<|RK.D<|AWp_ret ?_
   refine ends_one rfl (.inr rfl) (res_tmp rfl) ?_ O_ends
   exact Sub.bool (by unfold lesF; simp_all)
theorem r10_insert (l : List Fm) (f : Fm) (hl : l.length ≤ 100000) (hfa : L 6 f.a) (hfb : L 6 f.b) (hfc : L 6 f.c) :
  Call0 Tryz.prog 85 [.p (.c (FS l)), FA f.a f.b f.c] (.p (.c (FS (insR l f)))) := by
 have ifa : LB f.a 6 := ⟨hfa⟩
 have ifb : LB f.b 6 := ⟨hfb⟩
 have ifc : LB f.c 6 := ⟨hfc⟩
 refine callM_of (np := 0) Tryz.func85 (by kernel_rfl) rfl rfl (Nat.le_of_ble_eq_true rfl) (fun m h => absurd rfl h) (fun m h => absurd rfl h) rfl ?_
 refine AWp_sr hP<|RK.alc guard_none (op_box rfl rfl)<|RK.As rfl<|RK.D<|AWp_seq<|AWp_sr hP<|RK.G6 hT rfl rfl rfl rfl rfl rfl<|RK.V (Eff.call0 (r8_Reduced f.a f.b f.c lz lz lz)) ?_
 refine RK.V (op_unot rfl) ?_
 refine RK.M rfl ?_
 refine RK.split (t := 11) rfl (fun hg1 => ?_) (fun hg1 => ?_)
 ·have hg1_ := (notT hg1)
  refine RK.skip (guard_no rfl rfl hg1) ?_
  refine RK.skip (guard_no rfl rfl hg1) ?_
  refine RK.skip (guard_no rfl rfl hg1) ?_
  refine RK.V (op_pick_t rfl hg1 (rfl : _ = AV.p (.c _))) ?_
  refine RK.D<|AWp_cond_true rfl rfl ?_
  refine AWp_sr hP<|RK.M rfl<|RK.As rfl<|RK.D<|AWp_ret ?_
  refine ends_one rfl (.inr rfl) (res_tmp rfl) ?_ O_ends
  exact Sub.of_eq (by rw [insR_1 (notT hg1)])
 ·have hg1_ := (notF hg1)
  have hrd := notF hg1
  refine RK.val (guard_yes rfl rfl hg1) (op_load_agg hT rfl rfl rfl rfl (cs := [_, _, _, _, _, _]) rfl rfl) ?_
  refine RK.val (guard_yes rfl rfl hg1) (Eff.call0 (r8_Primitive f.a f.b f.c lz lz lz)) ?_
  refine RK.val (guard_yes rfl rfl hg1) (op_unot rfl) ?_
  refine RK.V (op_pick_f rfl hg1 (rfl : _ = AV.p (.c _))) ?_
  refine RK.D ?_
  refine AWp_cond rfl (fun hb2 => ?_) (fun hb2 => ?_)
  ·have hb2_ := (notT hb2)
   refine AWp_sr hP<|RK.M rfl<|RK.As rfl<|RK.D<|AWp_ret ?_
   refine ends_one rfl (.inr rfl) (res_tmp rfl) ?_ O_ends
   exact Sub.of_eq (by rw [insR_2 (notT hb2)])
  ·have hb2_ := (notF hb2)
   have hpr := notF hb2
   refine AWp_skip<|AWp_sr hP<|RK.alc guard_none (op_bslice_vec hT rfl rfl rfl (es := []) rfl rfl rfl) ?_
   refine RK.V (op_assign (rfl : _ = AV.vec _))<|RK.D<|AWp_rn 17 1000 rfl rfl rfl ?_
   refine AWp_sr hP<|RK.As rfl<|RK.D<|AWp_seq<|AWp_sr hP<|RK.As rfl<|RK.D<|AWp_block<|AWp_loop (ι := Nat) (fun k => stL [(0, .p (.c (FS l))), (3, .loc 3 0), (5, .vec 1000), (6, .p (.c (.v (.bool (insF f (l.take k)).2)))), (7, Z (k : Int))] [(3, ⟨false, 1, 53, FL f.a f.b f.c⟩), (1000, FB 53 (insF f (l.take k)).1)]) (fun k => k ≤ l.length ∧ f ∉ l.take k) (fun k => l.length - k) 0 ⟨Nat.zero_le _, by simp⟩ (le_stL ⟨.refl _, .refl _, .refl _, .refl _, .refl _, trivial⟩ ⟨rfl, rfl, trivial⟩) ?_
   rintro k ⟨hk, hnk⟩
   refine AWp_seq<|AWp_sr hP<|RK.M rfl<|RK.M rfl<|RK.V (op_len hT rfl rfl rfl (by rfl)) ?_
   refine RK.V (op_lss rfl rfl)<|RK.D ?_
   refine AWp_cond rfl (fun hb3 => ?_) (fun hb3 => ?_)
   ·have hb3_ := of_decide_eq_true hb3
    refine AWp_skip<|AWp_seq<|AWp_block<|AWp_seq<|AWp_sr hP<|RK.M rfl<|RK.M rfl<|RK.V (op_indexF hT (n := (k : Int)) rfl rfl rfl rfl rfl rfl (by omega)) ?_
    refine RK.V (op_load_ip_agg hT rfl rfl rfl (cs := FC (l.getD k ⟨0, 0, 0⟩)) rfl rfl) ?_
    refine RK.G6 hT rfl rfl rfl rfl rfl rfl<|RK.V (Eff.call0 (r8_Equal (l.getD k ⟨0, 0, 0⟩).a (l.getD k ⟨0, 0, 0⟩).b (l.getD k ⟨0, 0, 0⟩).c f.a f.b f.c)) ?_
    refine RK.D ?_
    refine AWp_cond rfl (fun hb4 => ?_) (fun hb4 => ?_)
    ·have hin : f ∈ l := by
      have e := of_decide_eq_true hb4
      have e2 : (l.getD k ⟨0, 0, 0⟩) = f := Fm.ext e.1 e.2.1 e.2.2
      exact e2 ▸ getD_mem hb3_
     refine AWp_sr hP<|RK.M rfl<|RK.As rfl<|RK.D<|AWp_ret ?_
     refine ends_one rfl (.inr rfl) (res_tmp rfl) ?_ O_ends
     exact Sub.of_eq (by rw [insR_3 hrd hpr hin])
    ·have hne : ¬ (l.getD k ⟨0, 0, 0⟩) = f := fun e => of_decide_eq_false hb4 ⟨congrArg Fm.a e, congrArg Fm.b e, congrArg Fm.c e⟩
     have hlenk := insF_len f (l.take k)
     rw [List.length_take] at hlenk
     refine AWp_skip<|AWp_seq_cutR 44 1000 (ι := List Fm × Bool) (fun i => let (o, b) := i; stL [(0, .p (.c (FS l))), (3, .loc 3 0), (5, .vec 1000), (6, .p (.c (.v (.bool b)))), (7, Z (k : Int))] [(3, ⟨false, 1, 53, FL f.a f.b f.c⟩), (1000, FB 53 o)]) (fun i => i.1.length ≤ 200000 ∧ (i.1 ++ [(l.getD k ⟨0, 0, 0⟩)], i.2) = insStep f (insF f (l.take k)) (l.getD k ⟨0, 0, 0⟩)) rfl rfl ?_ ?_
     ·refine AWp_sr hP<|RK.M rfl<|RK.V (op_unot rfl) ?_
      refine RK.M rfl ?_
      refine RK.split (t := 33) rfl (fun hg5 => ?_) (fun hg5 => ?_)
      ·have hg5_ := (notT hg5)
       refine RK.val (guard_yes rfl rfl hg5) (op_load_agg hT rfl rfl rfl rfl (cs := [_, _, _, _, _, _]) rfl rfl) ?_
       refine RK.val (guard_yes rfl rfl hg5) (op_move (rfl : _ = AV.p (.c _))) ?_
       refine RK.val (guard_yes rfl rfl hg5) (op_move (rfl : _ = AV.p (.c _))) ?_
       refine RK.val (guard_yes rfl rfl hg5) (op_indexF hT (n := (k : Int)) rfl rfl rfl rfl rfl rfl (by omega)) ?_
       refine RK.val (guard_yes rfl rfl hg5) (op_load_ip_agg hT rfl rfl rfl (cs := FC (l.getD k ⟨0, 0, 0⟩)) rfl rfl) ?_
       refine RK.val (guard_yes rfl rfl hg5) (Eff.call0 (r8_LessF f (l.getD k ⟨0, 0, 0⟩))) ?_
       refine RK.V (op_pick_t rfl hg5 (rfl : _ = AV.p (.c _))) ?_
       refine RK.D ?_
       refine AWp_cond rfl (fun hb6 => ?_) (fun hb6 => ?_)
       ·refine AWp_sr hP<|RK.V (op_move (rfl : _ = AV.vec _))<|RK.G6 hT rfl rfl rfl rfl rfl rfl<|RK.V (op_bslice hT rfl rfl rfl (es := [_, _, _, _, _, _]) rfl rfl rfl) ?_
        refine RK.app guard_none (op_appendF hT rfl rfl rfl rfl rfl rfl rfl (f := f) rfl (by have := insF_len f (l.take k); rw [List.length_take] at this; omega) (by decide)) ?_
        refine RK.V (op_assign (rfl : _ = AV.vec _))<|RK.D<|AWp_region hP<|RK.As rfl<|RK.D ?_
        refine ⟨((insF f (l.take k)).1 ++ [f], true), ⟨by rw [List.length_append]; simp; omega, ins_1 (notT hg5) hb6⟩, .inr ⟨_, rfl, rfl, le_stL ⟨.refl _, .refl _, .refl _, .refl _, .refl _, trivial⟩ ⟨rfl, rfl, trivial⟩⟩⟩
       ·refine AWp_skip ?_
        refine ⟨((insF f (l.take k)).1, (insF f (l.take k)).2), ⟨by simp only; omega, ins_2 hb6⟩, .inl (le_stL ⟨.refl _, .refl _, .refl _, .refl _, .refl _, trivial⟩ ⟨rfl, rfl, trivial⟩)⟩
      ·have hg5_ := (notF hg5)
       refine RK.skip (guard_no rfl rfl hg5) ?_
       refine RK.skip (guard_no rfl rfl hg5) ?_
       refine RK.skip (guard_no rfl rfl hg5) ?_
       refine RK.skip (guard_no rfl rfl hg5) ?_
       refine RK.skip (guard_no rfl rfl hg5) ?_
       refine RK.skip (guard_no rfl rfl hg5) ?_
       refine RK.V (op_pick_f rfl hg5 (rfl : _ = AV.p (.c _))) ?_
       refine RK.D<|AWp_cond_false rfl rfl ?_
       refine AWp_skip ?_
       refine ⟨((insF f (l.take k)).1, (insF f (l.take k)).2), ⟨by simp only; omega, ins_3 (notF hg5)⟩, .inl (le_stL ⟨.refl _, .refl _, .refl _, .refl _, .refl _, trivial⟩ ⟨rfl, rfl, trivial⟩)⟩
     rintro ⟨o, b⟩ ⟨hol, hst⟩
     simp only at hol
     have hnx := (insF_next hb3_).trans hst.symm
     refine AWp_region hP<|RK.V (op_move (rfl : _ = AV.vec _))<|RK.M rfl<|RK.M rfl<|RK.V (op_indexF hT (n := (k : Int)) rfl rfl rfl rfl rfl rfl (by omega)) ?_
     refine RK.V (op_load_ip_agg hT rfl rfl rfl (cs := FC (l.getD k ⟨0, 0, 0⟩)) rfl rfl) ?_
     refine RK.V (op_bslice hT rfl rfl rfl (es := [_, _, _, _, _, _]) rfl rfl rfl) ?_
     refine RK.app guard_none (op_appendF hT rfl rfl rfl rfl rfl rfl rfl (f := (l.getD k ⟨0, 0, 0⟩)) rfl (by omega) (by decide)) ?_
     refine RK.V (op_assign (rfl : _ = AV.vec _))<|RK.D<|AWp_rn 51 1000 rfl rfl rfl ?_
     refine AWp_region hP<|RK.M rfl<|RK.V (op_add rfl rfl (by first | exact IntWalk.i64_in _ (by omega) | rfl)) ?_
     refine RK.As rfl<|RK.D ?_
     refine ⟨k + 1, ⟨by omega, ins_ni hnk hb3_ hne⟩, by omega, le_stL ⟨.refl _, .refl _, .refl _, Sub.bool (by rw [hnx]), Sub.int (by omega), trivial⟩ ⟨rfl, Eq.trans rfl (congrArg (fun x => some (FB 53 x)) (by rw [hnx])), trivial⟩⟩
   ·have hb3_ := of_decide_eq_false hb3
    have htk : l.take k = l := List.take_of_length_le (by omega)
    rw [htk]
    refine AWp_exit<|AWp_seq<|AWp_sr hP<|RK.M rfl<|RK.V (op_unot rfl) ?_
    refine RK.D ?_
    refine AWp_cond rfl (fun hb7 => ?_) (fun hb7 => ?_)
    ·have hb7_ := (notT hb7)
     refine AWp_region hP<|RK.V (op_move (rfl : _ = AV.vec _))<|RK.G6 hT rfl rfl rfl rfl rfl rfl<|RK.V (op_bslice hT rfl rfl rfl (es := [_, _, _, _, _, _]) rfl rfl rfl) ?_
     refine RK.app guard_none (op_appendF hT rfl rfl rfl rfl rfl rfl rfl (f := f) rfl (by have := insF_len f l; omega) (by decide)) ?_
     refine RK.V (op_assign (rfl : _ = AV.vec _))<|RK.D<|AWp_rn 57 1000 rfl rfl rfl ?_
     refine AWp_freezeF (t := 5) rfl rfl ?_
     refine AWp_sr hP<|RK.M rfl<|RK.As rfl<|RK.D<|AWp_ret ?_
     refine ends_one rfl (.inr rfl) (res_tmp rfl) ?_ O_ends
     exact Sub.of_eq (by rw [insR_4 hrd hpr (htk ▸ hnk), ← insV_f (notT ‹(!(insF f l).2) = true›)])
    ·have hb7_ := (notF hb7)
     refine AWp_skip<|AWp_freezeF (t := 5) rfl rfl ?_
     refine AWp_sr hP<|RK.M rfl<|RK.As rfl<|RK.D<|AWp_ret ?_
     refine ends_one rfl (.inr rfl) (res_tmp rfl) ?_ O_ends
     exact Sub.of_eq (by rw [insR_4 hrd hpr (htk ▸ hnk), ← insV_t (notF ‹(!(insF f l).2) = false›)])
theorem r10_Ambiguous (d : Int) (hd : L 40 d) :
  Call0 Tryz.prog 24 [I d] (.t [.c (FS (amA d)), PE (szE d)]) := by
 have id0 : LB d 40 := ⟨hd⟩
 refine callM_of (np := 0) Tryz.func24 (by kernel_rfl) rfl rfl (Nat.le_of_ble_eq_true rfl) (fun m h => absurd rfl h) (fun m h => absurd rfl h) rfl ?_
 refine AWp_sr hP<|RK.alc guard_none (op_box rfl rfl)<|RK.As rfl<|RK.As rfl<|RK.D<|AWp_sr hP<|RK.G2 hT rfl rfl rfl rfl rfl rfl<|RK.V (Eff.call0 (r10_refused d hd)) ?_
 refine RK.V (op_move (rfl : _ = AV.t _))<|RK.V (op_extract rfl (v := .c _) rfl)<|RK.V (op_extract rfl (v := .c _) rfl)<|RK.As rfl<|RK.As rfl<|RK.D<|AWp_seq<|AWp_sr hP<|RK.M rfl<|RK.V (op_neq rfl rfl) ?_
 refine RK.D ?_
 refine AWp_cond rfl (fun hb1 => ?_) (fun hb1 => ?_)
 ·have hb1_ := bneT hb1
  refine AWp_sr hP<|RK.M rfl<|RK.As rfl<|RK.As rfl<|RK.D<|AWp_ret ?_
  refine ends_two rfl (.inr rfl) (res_tmp rfl) (res_tmp rfl) ?_ O_ends
  exact (by rw [amA_n hb1_]; exact Sub.tup ⟨DSub.nil_sl, .refl _, trivial⟩)
 ·have hb1_ := bneF hb1
  have he : szE d = 0 := hb1_
  obtain ⟨e1, e2, e3⟩ := gnV_0 he
  obtain ⟨m, hm⟩ : ∃ m, -d = m := ⟨_, rfl⟩
  have hdm : d = -m := by omega
  have hmm : 0 < m ∧ m ≤ 4194304 := by omega
  have hEm : szE (-m) = 0 := by rw [← hdm]; exact he
  rw [e1]
  refine AWp_skip<|AWp_sr hP<|RK.M rfl<|RK.V (op_uneg rfl (c := m) (by rw [IntWalk.i64_in _ (by omega)]; omega)) ?_
  refine RK.As rfl<|RK.D<|AWp_sr hP<|RK.V (op_bslice hT rfl rfl rfl (es := []) rfl rfl rfl) ?_
  refine RK.As rfl<|RK.D<|AWp_seq<|AWp_sr hP<|RK.As rfl<|RK.D<|AWp_block<|AWp_loop (ι := Nat) (fun k => stL [(6, Z m), (7, .p (.c (FS (rfG m k)))), (8, Z ((k : Int) + 1))] []) (fun k => k ≤ 2896) (fun k => 3000 - k) 0 (Nat.zero_le _) (le_stL ⟨.refl _, .refl _, .refl _, trivial⟩ trivial) ?_
  intro k hk
  have hsq := sq_b (x := ((k : Int) + 1)) (m := 2897) (by omega)
  refine AWp_seq<|AWp_sr hP<|RK.M rfl<|RK.M rfl<|RK.V (op_mul rfl rfl (by first | exact IntWalk.i64_in _ (by omega) | rfl)) ?_
  refine RK.M rfl<|RK.V (op_mul rfl rfl (by first | exact IntWalk.i64_in _ (by omega) | rfl)) ?_
  refine RK.V (op_leq rfl rfl) ?_
  refine RK.D ?_
  refine AWp_cond rfl (fun hb2 => ?_) (fun hb2 => ?_)
  ·have hb2_ := of_decide_eq_true hb2
   have hk6 := rk_b hmm hb2_
   have hq1 : 0 ≤ m / 4 / ((k : Int) + 1) ∧ m / 4 / ((k : Int) + 1) ≤ 4194304 := ⟨Int.ediv_nonneg (by omega) (by omega), Int.le_trans (Int.ediv_le_self _ (by omega)) (by omega)⟩
   have hq2 : 0 ≤ m / ((k : Int) + 1) ∧ m / ((k : Int) + 1) ≤ 4194304 := ⟨Int.ediv_nonneg (by omega) (by omega), Int.le_trans (Int.ediv_le_self _ (by omega)) (by omega)⟩
   have hln := rfG_len m k
   refine AWp_skip<|AWp_seq<|AWp_block<|AWp_seq_cut (ι := Unit) (fun _ => stL [(6, Z m), (7, .p (.c (FS (rfS1 m ((k : Int) + 1) (rfG m k))))), (8, Z ((k : Int) + 1))] []) (fun _ => True) ?_ ?_
   ·refine AWp_sr hP<|RK.M rfl<|RK.M rfl<|RK.V (op_mul rfl rfl (by first | exact IntWalk.i64_in _ (by omega) | rfl)) ?_
    refine RK.V (op_rem rfl rfl (by omega) (c := m % (4 * ((k : Int) + 1))) (Int.tmod_eq_emod_of_nonneg (by omega))) ?_
    refine RK.V (op_eql rfl rfl) ?_
    refine RK.D ?_
    refine AWp_cond rfl (fun hb3 => ?_) (fun hb3 => ?_)
    ·have hb3_ := bT hb3
     refine AWp_region hP<|RK.M rfl<|RK.M rfl<|RK.M rfl<|RK.V (op_quo rfl rfl (by omega) (c := m / 4) (by rw [Int.tdiv_eq_ediv_of_nonneg (by omega), IntWalk.i64_in _ (by omega)])) ?_
     refine RK.M rfl<|RK.V (op_quo rfl rfl (by omega) (c := m / 4 / ((k : Int) + 1)) (by rw [Int.tdiv_eq_ediv_of_nonneg (by omega), IntWalk.i64_in _ (by omega)])) ?_
     refine RK.V (Eff.call0 (r8_Of ((k : Int) + 1) 0 (m / 4 / ((k : Int) + 1)) (by unfold InI64; omega) (by decide) (by unfold InI64; omega))) ?_
     refine RK.V (Eff.call0 (r10_insert (rfG m k) (rs1 m ((k : Int) + 1)) (by omega) (show L 6 (((k : Int) + 1)) by unfold L; omega) (show L 6 (0) by unfold L; omega) (show L 6 (m / 4 / ((k : Int) + 1)) by unfold L; omega))) ?_
     refine RK.As rfl<|RK.D ?_
     refine ⟨(), trivial, le_stL ⟨.refl _, Sub.of_eq (congrArg (fun x => AV.p (.c (FS x))) (show insR (rfG m k) (rs1 m ((k : Int) + 1)) = (rfS1 m ((k : Int) + 1) (rfG m k)) from (if_pos hb3_).symm)), .refl _, trivial⟩ trivial⟩
    ·have hb3_ := bF hb3
     refine AWp_skip ?_
     refine ⟨(), trivial, le_stL ⟨.refl _, Sub.of_eq (congrArg (fun x => AV.p (.c (FS x))) (show (rfG m k) = (rfS1 m ((k : Int) + 1) (rfG m k)) from (if_neg hb3_).symm)), .refl _, trivial⟩ trivial⟩
   intro _ _
   have hl1 : (rfS1 m ((k : Int) + 1) (rfG m k)).length ≤ (rfG m k).length + 1 := rfS1_len m ((k : Int) + 1) (rfG m k)
   refine AWp_seq<|AWp_sr hP<|RK.M rfl<|RK.M rfl<|RK.V (op_rem rfl rfl (by omega) (c := m % ((k : Int) + 1)) (Int.tmod_eq_emod_of_nonneg (by omega))) ?_
   refine RK.V (op_neq rfl rfl) ?_
   refine RK.D ?_
   refine AWp_cond rfl (fun hb4 => ?_) (fun hb4 => ?_)
   ·have hb4_ := bneT hb4
    refine AWp_exit<|AWp_region hP<|RK.M rfl<|RK.V (op_add rfl rfl (by first | exact IntWalk.i64_in _ (by omega) | rfl)) ?_
    refine RK.As rfl<|RK.D ?_
    refine ⟨k + 1, by omega, by omega, le_stL ⟨.refl _, Sub.of_eq (congrArg (fun x => AV.p (.c (FS x))) (show _ = rfG m (k + 1) from (rfS_1 ‹m % ((k : Int) + 1) ≠ 0›).symm)), Sub.int (by omega), trivial⟩ trivial⟩
   ·have hb4_ := bneF hb4
    refine AWp_skip<|AWp_sr hP<|RK.M rfl<|RK.M rfl<|RK.V (op_quo rfl rfl (by omega) (c := m / ((k : Int) + 1)) (by rw [Int.tdiv_eq_ediv_of_nonneg (by omega), IntWalk.i64_in _ (by omega)])) ?_
    refine RK.M rfl<|RK.V (op_add rfl rfl (by first | exact IntWalk.i64_in _ (by omega) | rfl)) ?_
    refine RK.V (op_rem rfl rfl (by omega) (c := (m / ((k : Int) + 1) + ((k : Int) + 1)) % 4) (Int.tmod_eq_emod_of_nonneg (by omega))) ?_
    refine RK.V (op_eql rfl rfl) ?_
    refine RK.D ?_
    refine AWp_cond rfl (fun hb5 => ?_) (fun hb5 => ?_)
    ·have hb5_ := bT hb5
     have hev : (m / ((k : Int) + 1) - ((k : Int) + 1)) % 2 = 0 := by omega
     have hl2 := insR_len (rfS1 m ((k : Int) + 1) (rfG m k)) (rs2 m ((k : Int) + 1))
     refine AWp_sr hP<|RK.M rfl<|RK.M rfl<|RK.M rfl<|RK.M rfl<|RK.M rfl<|RK.V (op_quo rfl rfl (by omega) (c := m / ((k : Int) + 1)) (by rw [Int.tdiv_eq_ediv_of_nonneg (by omega), IntWalk.i64_in _ (by omega)])) ?_
     refine RK.M rfl<|RK.V (op_add rfl rfl (by first | exact IntWalk.i64_in _ (by omega) | rfl)) ?_
     refine RK.V (op_quo rfl rfl (by omega) (c := (m / ((k : Int) + 1) + ((k : Int) + 1)) / 4) (by rw [Int.tdiv_eq_ediv_of_nonneg (by omega), IntWalk.i64_in _ (by omega)])) ?_
     refine RK.V (Eff.call0 (r8_Of ((k : Int) + 1) ((k : Int) + 1) ((m / ((k : Int) + 1) + ((k : Int) + 1)) / 4) (by unfold InI64; omega) (by unfold InI64; omega) (by unfold InI64; omega))) ?_
     refine RK.V (Eff.call0 (r10_insert (rfS1 m ((k : Int) + 1) (rfG m k)) (rs2 m ((k : Int) + 1)) (by omega) (show L 6 (((k : Int) + 1)) by unfold L; omega) (show L 6 (((k : Int) + 1)) by unfold L; omega) (show L 6 ((m / ((k : Int) + 1) + ((k : Int) + 1)) / 4) by unfold L; omega))) ?_
     refine RK.As rfl<|RK.D<|AWp_region hP<|RK.M rfl<|RK.M rfl<|RK.M rfl<|RK.V (op_quo rfl rfl (by omega) (c := m / ((k : Int) + 1)) (by rw [Int.tdiv_eq_ediv_of_nonneg (by omega), IntWalk.i64_in _ (by omega)])) ?_
     refine RK.M rfl<|RK.V (op_add rfl rfl (by first | exact IntWalk.i64_in _ (by omega) | rfl)) ?_
     refine RK.V (op_quo rfl rfl (by omega) (c := (m / ((k : Int) + 1) + ((k : Int) + 1)) / 4) (by rw [Int.tdiv_eq_ediv_of_nonneg (by omega), IntWalk.i64_in _ (by omega)])) ?_
     refine RK.M rfl<|RK.M rfl<|RK.V (op_quo rfl rfl (by omega) (c := m / ((k : Int) + 1)) (by rw [Int.tdiv_eq_ediv_of_nonneg (by omega), IntWalk.i64_in _ (by omega)])) ?_
     refine RK.M rfl<|RK.V (op_sub rfl rfl (by first | exact IntWalk.i64_in _ (by omega) | rfl)) ?_
     refine RK.V (op_quo rfl rfl (by decide) (c := (m / ((k : Int) + 1) - ((k : Int) + 1)) / 2) (by rw [tdiv_ev hev, IntWalk.i64_in _ (by omega)])) ?_
     refine RK.M rfl<|RK.M rfl<|RK.V (op_quo rfl rfl (by omega) (c := m / ((k : Int) + 1)) (by rw [Int.tdiv_eq_ediv_of_nonneg (by omega), IntWalk.i64_in _ (by omega)])) ?_
     refine RK.M rfl<|RK.V (op_add rfl rfl (by first | exact IntWalk.i64_in _ (by omega) | rfl)) ?_
     refine RK.V (op_quo rfl rfl (by omega) (c := (m / ((k : Int) + 1) + ((k : Int) + 1)) / 4) (by rw [Int.tdiv_eq_ediv_of_nonneg (by omega), IntWalk.i64_in _ (by omega)])) ?_
     refine RK.V (Eff.call0 (r8_Of ((m / ((k : Int) + 1) + ((k : Int) + 1)) / 4) ((m / ((k : Int) + 1) - ((k : Int) + 1)) / 2) ((m / ((k : Int) + 1) + ((k : Int) + 1)) / 4) (by unfold InI64; omega) (by unfold InI64; omega) (by unfold InI64; omega))) ?_
     refine RK.V (Eff.call0 (r10_insert (insR (rfS1 m ((k : Int) + 1) (rfG m k)) (rs2 m ((k : Int) + 1))) (rs3 m ((k : Int) + 1)) (by omega) (show L 6 ((m / ((k : Int) + 1) + ((k : Int) + 1)) / 4) by unfold L; omega) (show L 6 ((m / ((k : Int) + 1) - ((k : Int) + 1)) / 2) by unfold L; omega) (show L 6 ((m / ((k : Int) + 1) + ((k : Int) + 1)) / 4) by unfold L; omega))) ?_
     refine RK.As rfl<|RK.D<|AWp_region hP<|RK.M rfl<|RK.V (op_add rfl rfl (by first | exact IntWalk.i64_in _ (by omega) | rfl)) ?_
     refine RK.As rfl<|RK.D ?_
     refine ⟨k + 1, by omega, by omega, le_stL ⟨.refl _, Sub.of_eq (congrArg (fun x => AV.p (.c (FS x))) (show _ = rfG m (k + 1) from (rfS_2 (fun h => h ‹m % ((k : Int) + 1) = 0›) ‹(m / ((k : Int) + 1) + ((k : Int) + 1)) % 4 = 0›).symm)), Sub.int (by omega), trivial⟩ trivial⟩
    ·have hb5_ := bF hb5
     refine AWp_skip<|AWp_region hP<|RK.M rfl<|RK.V (op_add rfl rfl (by first | exact IntWalk.i64_in _ (by omega) | rfl)) ?_
     refine RK.As rfl<|RK.D ?_
     refine ⟨k + 1, by omega, by omega, le_stL ⟨.refl _, Sub.of_eq (congrArg (fun x => AV.p (.c (FS x))) (show _ = rfG m (k + 1) from (rfS_3 (fun h => h ‹m % ((k : Int) + 1) = 0›) ‹¬ (m / ((k : Int) + 1) + ((k : Int) + 1)) % 4 = 0›).symm)), Sub.int (by omega), trivial⟩ trivial⟩
  ·have hb2_ := of_decide_eq_false hb2
   refine AWp_exit<|AWp_sr hP<|RK.M rfl<|RK.As rfl<|RK.As rfl<|RK.D<|AWp_ret ?_
   refine ends_two rfl (.inr rfl) (res_tmp rfl) (res_tmp rfl) ?_ O_ends
   exact Sub.of_eq (by rw [rfG_amA hEm (by omega), ← hdm, he])
end Go.Proofs.YtpaifigafaijpaaGreatDoor
end
section
namespace Go.Proofs.YtpaifigafaijpaaGreatDoor
open Go Go.AM
theorem l_GenusMatchesReference (D i0 i1 i2 i3 m0 m1 m2 m3 : Nat) (hD : D < 65536) (g0 : i0 < 65536) (g1 : i1 < 65536) (g2 : i2 < 65536) (g3 : i3 < 65536) (k0 : m0 < 256) (k1 : m1 < 256) (k2 : m2 < 256) (k3 : m3 < 256) (p0 p1 p2 p3 p4 p5 p6 : Bool) (u0 u1 u2 u3 u4 u5 u6 : List Nat) (hu0 : okW u0) (hu1 : okW u1) (hu2 : okW u2) (hu3 : okW u3) (hu4 : okW u4) (hu5 : okW u5) (hu6 : okW u6) (s : Bool) (ws : List Nat) (hw : okW ws) :
  Call0 Tryz.prog 3 [.p (.a [.v (.int .u16 (D : Int)), .v (.int .u16 (i0 : Int)), .v (.int .u16 (i1 : Int)), .v (.int .u16 (i2 : Int)), .v (.int .u16 (i3 : Int)), .v (.int .u8 (m0 : Int)), .v (.int .u8 (m1 : Int)), .v (.int .u8 (m2 : Int)), .v (.int .u8 (m3 : Int))]), .p (.a [.v (.bool p0), W u0, .v (.bool p1), W u1, .v (.bool p2), W u2, .v (.bool p3), W u3, .v (.bool p4), W u4, .v (.bool p5), W u5, .v (.bool p6), W u6]), .p (.a [.v (.bool s), W ws])] (B true) := by
 have c0 := r8_Made0 _ _ _ _ _ _ _ _ _ hD g0 g1 g2 g3 k0 k1 k2 k3
 have hf := mkF_cl D i0 m0
 obtain ⟨fa, fb, fc⟩ := mkF_L6 (D := D) (i := i0) k0
 obtain ⟨hD1, hD2⟩ := szz_D D
 obtain ⟨s1, s2, s3, s4, s5⟩ := szz_spec D
 have c1 := r8_Made1 _ _ _ _ _ _ _ _ _ hD g0 g1 g2 g3 k0 k1 k2 k3
 have hg := mkF_cl D i1 m1
 obtain ⟨ga, gb, gc⟩ := mkF_L6 (D := D) (i := i1) k1
 have cS := r8_Size _ _ _ _ _ _ _ _ _ hD g0 g1 g2 g3 k0 k1 k2 k3
 have jn : InI64 (-szz D) := by unfold InI64; omega
 generalize mkF D i0 m0 = f at *
 generalize mkF D i1 m1 = g at *
 generalize szz D = NN at *
 have hng : IntKind.i64.wrap (0 - NN) = -NN := by rw [Int.zero_sub]; exact IntWalk.i64_in _ (by omega)
 generalize -NN = d at *
 have cM : Call0 Tryz.prog 16 [.p (.a [.v (.bool s), W ws]), Z 2] (I (md s ws)) := r_Made s ws 2 hw (by decide)
 have hM := md_L (n := s) hw
 generalize md s ws = m at *
 have cA := r8_Any p0 p1 p2 p3 p4 p5 p6 u0 u1 u2 u3 u4 u5 u6 hu0 hu1 hu2 hu3 hu4 hu5 hu6
 obtain ⟨o, e1, e2, e3⟩ : ∃ o : Fm, md p0 u0 = o.a ∧ md p1 u1 = o.b ∧ md p2 u2 = o.c := ⟨⟨_, _, _⟩, rfl, rfl, rfl⟩
 have oa : L 6 o.a := e1 ▸ md_L (n := p0) hu0
 have ob : L 6 o.b := e2 ▸ md_L (n := p1) hu1
 have oc : L 6 o.c := e3 ▸ md_L (n := p2) hu2
 rw [e1, e2, e3] at cA
 obtain ⟨ds, hds⟩ : ∃ ds, ds = [m, d] := ⟨_, rfl⟩
 obtain ⟨fs, hfs⟩ : ∃ fs, fs = [f, g, o] := ⟨_, rfl⟩
 have hdn : ds.length = 2 := by rw [hds]; rfl
 have hfn : fs.length = 3 := by rw [hfs]; rfl
 have hdL : ∀ k : Nat, (k : Int) < ds.length → L 40 (ds.getD k 0) := fun k hk => ds_dec hds (Q := fun z => L 40 z) (hM.mono (by decide)) ((show L 6 d by unfold L; omega).mono (by decide)) hk
 have hfL : ∀ k : Nat, (k : Int) < fs.length → L 6 (fs.getD k ⟨0, 0, 0⟩).a ∧ L 6 (fs.getD k ⟨0, 0, 0⟩).b ∧ L 6 (fs.getD k ⟨0, 0, 0⟩).c := fun k hk => fs_dec hfs (Q := fun z => L 6 z.a ∧ L 6 z.b ∧ L 6 z.c) ⟨fa, fb, fc⟩ ⟨ga, gb, gc⟩ ⟨oa, ob, oc⟩ hk
 refine callM_of (np := 0) Tryz.func3 (by kernel_rfl) rfl rfl (Nat.le_of_ble_eq_true rfl) (fun m h => absurd rfl h) (fun m h => absurd rfl h) rfl ?_
 refine AWp_sr hP<|RK.alc guard_none (op_box rfl rfl)<|RK.alc guard_none (op_box rfl rfl)<|RK.alc guard_none (op_box rfl rfl)<|RK.As rfl<|RK.D<|AWp_sr hP<|RK.V (Eff.call0 l_examples10) ?_
 refine RK.As rfl<|RK.D<|AWp_seq<|AWp_sr hP<|RK.M rfl<|RK.V (op_unot rfl) ?_
 refine RK.D<|AWp_cond_false rfl rfl ?_
 refine AWp_skip<|AWp_sr hP<|RK.G2 hT rfl rfl rfl rfl rfl rfl<|RK.V (Eff.call0 cM) ?_
 refine RK.V (op_load_agg hT rfl rfl rfl rfl (cs := [_, _, _, _, _, _, _, _, _]) rfl rfl) ?_
 refine RK.V (Eff.call0 cS) ?_
 refine RK.V (op_uneg rfl (c := d) hng) ?_
 refine RK.V (Eff.call0 (r_Of d jn)) ?_
 refine RK.V (op_bslice hT rfl rfl rfl (es := [_, _, _, _]) rfl rfl rfl) ?_
 refine RK.As rfl<|RK.D<|AWp_seq<|AWp_sr hP<|RK.As rfl<|RK.D<|AWp_block<|AWp_loop (ι := Nat) (fun k => stL [(3, .loc 3 0), (4, .loc 4 0), (7, .p (.c (.v (.bool true)))), (8, .p (.c (SL enI ds))), (9, Z (k : Int))] [(3, ⟨false, 1, 26, [.v (.int .u16 (D : Int)), .v (.int .u16 (i0 : Int)), .v (.int .u16 (i1 : Int)), .v (.int .u16 (i2 : Int)), .v (.int .u16 (i3 : Int)), .v (.int .u8 (m0 : Int)), .v (.int .u8 (m1 : Int)), .v (.int .u8 (m2 : Int)), .v (.int .u8 (m3 : Int))]⟩), (4, ⟨false, 1, 33, [.v (.bool p0), W u0, .v (.bool p1), W u1, .v (.bool p2), W u2, .v (.bool p3), W u3, .v (.bool p4), W u4, .v (.bool p5), W u5, .v (.bool p6), W u6]⟩)]) (fun k => k ≤ ds.length) (fun k => ds.length - k) 0 (Nat.zero_le _) (le_stL ⟨.refl _, .refl _, .refl _, Sub.of_eq (by rw [hds]; rfl), .refl _, trivial⟩ ⟨rfl, rfl, trivial⟩) ?_
 intro k hk
 refine AWp_seq<|AWp_sr hP<|RK.M rfl<|RK.M rfl<|RK.V (op_len hT rfl rfl rfl rfl)<|RK.V (op_lss rfl rfl)<|RK.D ?_
 refine AWp_cond rfl (fun hb1 => ?_) (fun hb1 => ?_)
 ·have hb1_ := of_decide_eq_true hb1
  have hdk := hdL k hb1_
  refine AWp_skip<|AWp_seq<|AWp_block<|AWp_sr hP<|RK.M rfl<|RK.M rfl<|RK.V (op_indexG (encD := enI) hT enI_len (by decide) (0 : Int) (n := (k : Int)) (l := ds) rfl rfl rfl rfl rfl rfl (by omega)) ?_
  refine RK.V (op_load_ip_agg hT rfl rfl rfl (cs := enI (ds.getD k 0)) rfl rfl) ?_
  refine RK.V (Eff.call0 (g_Characters _ hdk)) ?_
  refine RK.V (op_move (rfl : _ = AV.t _))<|RK.V (op_extract rfl (v := .c _) rfl)<|RK.V (op_extract rfl (v := .c _) rfl)<|RK.As rfl<|RK.As rfl<|RK.D<|AWp_sr hP<|RK.M rfl<|RK.M rfl<|RK.V (op_indexG (encD := enI) hT enI_len (by decide) (0 : Int) (n := (k : Int)) (l := ds) rfl rfl rfl rfl rfl rfl (by omega)) ?_
  refine RK.V (op_load_ip_agg hT rfl rfl rfl (cs := enI (ds.getD k 0)) rfl rfl) ?_
  refine RK.V (Eff.call0 (r10_Characters _ hdk)) ?_
  refine RK.V (op_move (rfl : _ = AV.t _))<|RK.V (op_extract rfl (v := .c _) rfl)<|RK.V (op_extract rfl (v := .c _) rfl)<|RK.As rfl<|RK.As rfl<|RK.D<|AWp_sr hP<|RK.M rfl<|RK.M rfl<|RK.V (op_indexG (encD := enI) hT enI_len (by decide) (0 : Int) (n := (k : Int)) (l := ds) rfl rfl rfl rfl rfl rfl (by omega)) ?_
  refine RK.V (op_load_ip_agg hT rfl rfl rfl (cs := enI (ds.getD k 0)) rfl rfl) ?_
  refine RK.V (Eff.call0 (g_Genera _ hdk)) ?_
  refine RK.V (op_move (rfl : _ = AV.t _))<|RK.V (op_extract rfl (v := .c _) rfl)<|RK.V (op_extract rfl (v := .c _) rfl)<|RK.As rfl<|RK.As rfl<|RK.D<|AWp_sr hP<|RK.M rfl<|RK.M rfl<|RK.V (op_indexG (encD := enI) hT enI_len (by decide) (0 : Int) (n := (k : Int)) (l := ds) rfl rfl rfl rfl rfl rfl (by omega)) ?_
  refine RK.V (op_load_ip_agg hT rfl rfl rfl (cs := enI (ds.getD k 0)) rfl rfl) ?_
  refine RK.V (Eff.call0 (r10_Genera _ hdk)) ?_
  refine RK.V (op_move (rfl : _ = AV.t _))<|RK.V (op_extract rfl (v := .c _) rfl)<|RK.V (op_extract rfl (v := .c _) rfl)<|RK.As rfl<|RK.As rfl<|RK.D<|AWp_sr hP<|RK.M rfl<|RK.M rfl<|RK.V (op_indexG (encD := enI) hT enI_len (by decide) (0 : Int) (n := (k : Int)) (l := ds) rfl rfl rfl rfl rfl rfl (by omega)) ?_
  refine RK.V (op_load_ip_agg hT rfl rfl rfl (cs := enI (ds.getD k 0)) rfl rfl) ?_
  refine RK.V (Eff.call0 (g_Ambiguous _ hdk)) ?_
  refine RK.V (op_move (rfl : _ = AV.t _))<|RK.V (op_extract rfl (v := .c _) rfl)<|RK.V (op_extract rfl (v := .c _) rfl)<|RK.As rfl<|RK.As rfl<|RK.D<|AWp_sr hP<|RK.M rfl<|RK.M rfl<|RK.V (op_indexG (encD := enI) hT enI_len (by decide) (0 : Int) (n := (k : Int)) (l := ds) rfl rfl rfl rfl rfl rfl (by omega)) ?_
  refine RK.V (op_load_ip_agg hT rfl rfl rfl (cs := enI (ds.getD k 0)) rfl rfl) ?_
  refine RK.V (Eff.call0 (r10_Ambiguous _ hdk)) ?_
  refine RK.V (op_move (rfl : _ = AV.t _))<|RK.V (op_extract rfl (v := .c _) rfl)<|RK.V (op_extract rfl (v := .c _) rfl)<|RK.As rfl<|RK.As rfl<|RK.D<|AWp_le (t := stL [(3, .loc 3 0), (4, .loc 4 0), (7, .p (.c (.v (.bool true)))), (8, .p (.c (SL enI ds))), (9, Z (k : Int)), (10, .p (.c (IS (chE (ds.getD k 0))))), (11, .p (PE (szE (ds.getD k 0)))), (12, .p (.c (IS (chE (ds.getD k 0))))), (13, .p (PE (szE (ds.getD k 0)))), (14, .p (PE (gnN (ds.getD k 0)))), (15, .p (PE (szE (ds.getD k 0)))), (16, .p (PE (gnN (ds.getD k 0)))), (17, .p (PE (szE (ds.getD k 0)))), (18, .p (.c (FS (amA (ds.getD k 0))))), (19, .p (PE (szE (ds.getD k 0)))), (20, .p (.c (FS (amA (ds.getD k 0))))), (21, .p (PE (szE (ds.getD k 0))))] [(3, ⟨false, 1, 26, [.v (.int .u16 (D : Int)), .v (.int .u16 (i0 : Int)), .v (.int .u16 (i1 : Int)), .v (.int .u16 (i2 : Int)), .v (.int .u16 (i3 : Int)), .v (.int .u8 (m0 : Int)), .v (.int .u8 (m1 : Int)), .v (.int .u8 (m2 : Int)), .v (.int .u8 (m3 : Int))]⟩), (4, ⟨false, 1, 33, [.v (.bool p0), W u0, .v (.bool p1), W u1, .v (.bool p2), W u2, .v (.bool p3), W u3, .v (.bool p4), W u4, .v (.bool p5), W u5, .v (.bool p6), W u6]⟩)]) (le_stL ⟨.refl _, .refl _, .refl _, .refl _, .refl _, .refl _, .refl _, .refl _, .refl _, .refl _, .refl _, .refl _, .refl _, .refl _, .refl _, .refl _, .refl _, trivial⟩ ⟨rfl, rfl, trivial⟩) ?_
  refine AWp_sr hP<|RK.M rfl<|RK.M rfl<|RK.V (op_neq rfl rfl) ?_
  refine RK.M rfl<|RK.val (guard_yes rfl rfl (neI rfl)) (op_move (rfl : _ = AV.p (.c _))) ?_
  refine RK.val (guard_yes rfl rfl (neI rfl)) (op_move (rfl : _ = AV.p (.c _))) ?_
  refine RK.val (guard_yes rfl rfl (neI rfl)) (op_neq rfl rfl) ?_
  refine RK.V (op_pick_f rfl (neI rfl) (rfl : _ = AV.p (.c _))) ?_
  refine RK.M rfl<|RK.val (guard_yes rfl rfl (neI rfl)) (op_move (rfl : _ = AV.p (.c _))) ?_
  refine RK.val (guard_yes rfl rfl (neI rfl)) (op_move (rfl : _ = AV.p (.c _))) ?_
  refine RK.val (guard_yes rfl rfl (neI rfl)) (op_neq rfl rfl) ?_
  refine RK.V (op_pick_f rfl (neI rfl) (rfl : _ = AV.p (.c _))) ?_
  refine RK.M rfl<|RK.val (guard_yes rfl rfl (neI rfl)) (op_move (rfl : _ = AV.p (.c _))) ?_
  refine RK.val (guard_yes rfl rfl (neI rfl)) (op_move (rfl : _ = AV.p (.c _))) ?_
  refine RK.val (guard_yes rfl rfl (neI rfl)) (op_neq rfl rfl) ?_
  refine RK.V (op_pick_f rfl (neI rfl) (rfl : _ = AV.p (.c _))) ?_
  refine RK.M rfl<|RK.val (guard_yes rfl rfl (neI rfl)) (op_move (rfl : _ = AV.p (.c _))) ?_
  refine RK.val (guard_yes rfl rfl (neI rfl)) (op_move (rfl : _ = AV.p (.c _))) ?_
  refine RK.val (guard_yes rfl rfl (neI rfl)) (Eff.call0 (r10_SameList _ _ (chE_le _))) ?_
  refine RK.val (guard_yes rfl rfl (neI rfl)) (op_unot rfl) ?_
  refine RK.V (op_pick_f rfl (neI rfl) (rfl : _ = AV.p (.c _))) ?_
  refine RK.M rfl<|RK.val (guard_yes rfl rfl (congrArg not (decide_eq_true rfl))) (op_move (rfl : _ = AV.p (.c _))) ?_
  refine RK.val (guard_yes rfl rfl (congrArg not (decide_eq_true rfl))) (op_move (rfl : _ = AV.p (.c _))) ?_
  refine RK.val (guard_yes rfl rfl (congrArg not (decide_eq_true rfl))) (Eff.call0 (l_sameForms _ _ (amA_le _))) ?_
  refine RK.val (guard_yes rfl rfl (congrArg not (decide_eq_true rfl))) (op_unot rfl) ?_
  refine RK.V (op_pick_f rfl (congrArg not (decide_eq_true rfl)) (rfl : _ = AV.p (.c _))) ?_
  refine RK.D<|AWp_cond_false rfl (congrArg not (decide_eq_true rfl)) ?_
  refine AWp_skip<|AWp_region hP<|RK.M rfl<|RK.V (op_add rfl rfl (by first | exact IntWalk.i64_in _ (by omega) | rfl)) ?_
  refine RK.As rfl<|RK.D ?_
  refine ⟨k + 1, by omega, by omega, le_stL ⟨.refl _, .refl _, .refl _, .refl _, Sub.int (by omega), trivial⟩ ⟨rfl, rfl, trivial⟩⟩
 ·have hb1_ := of_decide_eq_false hb1
  refine AWp_exit<|AWp_sr hP<|RK.V (op_load_agg hT rfl rfl rfl rfl (cs := [_, _, _, _, _, _, _, _, _]) rfl rfl) ?_
  refine RK.V (Eff.call0 c0) ?_
  refine RK.V (op_load_agg hT rfl rfl rfl rfl (cs := [_, _, _, _, _, _, _, _, _]) rfl rfl) ?_
  refine RK.V (Eff.call0 c1) ?_
  refine RK.V (op_load_agg hT rfl rfl rfl rfl (cs := [_, _, _, _, _, _, _, _, _, _, _, _, _, _]) rfl rfl) ?_
  refine RK.V (Eff.call0 cA) ?_
  refine RK.V (op_bslice hT rfl rfl rfl (es := [_, _, _, _, _, _, _, _, _, _, _, _, _, _, _, _, _, _]) rfl rfl rfl) ?_
  refine RK.As rfl<|RK.D<|AWp_seq<|AWp_sr hP<|RK.As rfl<|RK.D<|AWp_block<|AWp_loop (ι := Nat) (fun k => stL [(7, .p (.c (.v (.bool true)))), (22, .p (.c (FS fs))), (23, Z (k : Int))] []) (fun k => k ≤ fs.length) (fun k => fs.length - k) 0 (Nat.zero_le _) (le_stL ⟨.refl _, Sub.of_eq (by rw [hfs]; rfl), .refl _, trivial⟩ trivial) ?_
  intro k hk
  refine AWp_seq<|AWp_sr hP<|RK.M rfl<|RK.M rfl<|RK.V (op_len hT rfl rfl rfl (by rfl)) ?_
  refine RK.V (op_lss rfl rfl)<|RK.D ?_
  refine AWp_cond rfl (fun hb7 => ?_) (fun hb7 => ?_)
  ·have hb7_ := of_decide_eq_true hb7
   obtain ⟨ha, hb, hc⟩ := hfL k hb7_
   refine AWp_skip<|AWp_seq<|AWp_block<|AWp_sr hP<|RK.M rfl<|RK.M rfl<|RK.V (op_indexF hT (n := (k : Int)) rfl rfl rfl rfl rfl rfl (by omega)) ?_
   refine RK.V (op_load_ip_agg hT rfl rfl rfl (cs := FC (fs.getD k ⟨0, 0, 0⟩)) rfl rfl) ?_
   refine RK.V (Eff.call0 (g_Values _ ha hb hc gp_hx)) ?_
   refine RK.V (op_move (rfl : _ = AV.t _))<|RK.V (op_extract rfl (v := .c _) rfl)<|RK.V (op_extract rfl (v := .c _) rfl)<|RK.As rfl<|RK.As rfl<|RK.D<|AWp_sr hP<|RK.M rfl<|RK.M rfl<|RK.V (op_indexF hT (n := (k : Int)) rfl rfl rfl rfl rfl rfl (by omega)) ?_
   refine RK.V (op_load_ip_agg hT rfl rfl rfl (cs := FC (fs.getD k ⟨0, 0, 0⟩)) rfl rfl) ?_
   refine RK.V (Eff.call0 (r10_Values _ ha hb hc)) ?_
   refine RK.V (op_move (rfl : _ = AV.t _))<|RK.V (op_extract rfl (v := .c _) rfl)<|RK.V (op_extract rfl (v := .c _) rfl)<|RK.As rfl<|RK.As rfl<|RK.D<|AWp_sr hP<|RK.M rfl<|RK.M rfl<|RK.V (op_indexF hT (n := (k : Int)) rfl rfl rfl rfl rfl rfl (by omega)) ?_
   refine RK.V (op_load_ip_agg hT rfl rfl rfl (cs := FC (fs.getD k ⟨0, 0, 0⟩)) rfl rfl) ?_
   refine RK.V (Eff.call0 (g_Principal _ ha hb hc gp_hx)) ?_
   refine RK.V (op_move (rfl : _ = AV.t _))<|RK.V (op_extract rfl (v := .c _) rfl)<|RK.V (op_extract rfl (v := .c _) rfl)<|RK.As rfl<|RK.As rfl<|RK.D<|AWp_sr hP<|RK.M rfl<|RK.M rfl<|RK.V (op_indexF hT (n := (k : Int)) rfl rfl rfl rfl rfl rfl (by omega)) ?_
   refine RK.V (op_load_ip_agg hT rfl rfl rfl (cs := FC (fs.getD k ⟨0, 0, 0⟩)) rfl rfl) ?_
   refine RK.V (Eff.call0 (r10_Principal _ ha hb hc)) ?_
   refine RK.V (op_move (rfl : _ = AV.t _))<|RK.V (op_extract rfl (v := .c _) rfl)<|RK.V (op_extract rfl (v := .c _) rfl)<|RK.As rfl<|RK.As rfl<|RK.D<|AWp_le (t := stL [(7, .p (.c (.v (.bool true)))), (22, .p (.c (FS fs))), (23, Z (k : Int)), (24, .p (.c (IS (gvL (fs.getD k ⟨0, 0, 0⟩))))), (25, .p (PE (gpE (fs.getD k ⟨0, 0, 0⟩)))), (26, .p (.c (IS (gvL (fs.getD k ⟨0, 0, 0⟩))))), (27, .p (PE (gpE (fs.getD k ⟨0, 0, 0⟩)))), (28, .p (PB (gpr (fs.getD k ⟨0, 0, 0⟩)))), (29, .p (PE (gpE (fs.getD k ⟨0, 0, 0⟩)))), (30, .p (PB (gpr (fs.getD k ⟨0, 0, 0⟩)))), (31, .p (PE (gpE (fs.getD k ⟨0, 0, 0⟩))))] []) (le_stL ⟨.refl _, .refl _, .refl _, .refl _, .refl _, .refl _, .refl _, .refl _, .refl _, .refl _, .refl _, trivial⟩ trivial) ?_
   refine AWp_seq<|AWp_sr hP<|RK.M rfl<|RK.M rfl<|RK.V (op_neq rfl rfl) ?_
   refine RK.M rfl<|RK.val (guard_yes rfl rfl (neI rfl)) (op_move (rfl : _ = AV.p (.c _))) ?_
   refine RK.val (guard_yes rfl rfl (neI rfl)) (op_move (rfl : _ = AV.p (.c _))) ?_
   refine RK.val (guard_yes rfl rfl (neI rfl)) (op_neq rfl rfl) ?_
   refine RK.V (op_pick_f rfl (neI rfl) (rfl : _ = AV.p (.c _))) ?_
   refine RK.M rfl<|RK.val (guard_yes rfl rfl (neI rfl)) (op_move (rfl : _ = AV.p (.c _))) ?_
   refine RK.val (guard_yes rfl rfl (neI rfl)) (op_move (rfl : _ = AV.p (.c _))) ?_
   refine RK.val (guard_yes rfl rfl (neI rfl)) (op_bne hT rfl rfl rfl rfl) ?_
   refine RK.V (op_pick_f rfl (neI rfl) (rfl : _ = AV.p (.c _))) ?_
   refine RK.M rfl<|RK.val (guard_yes rfl rfl (by simp)) (op_move (rfl : _ = AV.p (.c _))) ?_
   refine RK.val (guard_yes rfl rfl (by simp)) (op_move (rfl : _ = AV.p (.c _))) ?_
   refine RK.val (guard_yes rfl rfl (by simp)) (Eff.call0 (r10_SameList _ _ (gvL_len _))) ?_
   refine RK.val (guard_yes rfl rfl (by simp)) (op_unot rfl) ?_
   refine RK.V (op_pick_f rfl (by simp) (rfl : _ = AV.p (.c _))) ?_
   refine RK.D<|AWp_cond_false rfl (congrArg not (decide_eq_true rfl)) ?_
   refine AWp_skip<|AWp_sr hP<|RK.As rfl<|RK.D<|AWp_block<|AWp_loop (ι := Nat) (fun kk => stL [(7, .p (.c (.v (.bool true)))), (22, .p (.c (FS fs))), (23, Z (k : Int)), (32, Z (kk : Int))] []) (fun kk => kk ≤ fs.length) (fun kk => fs.length - kk) 0 (Nat.zero_le _) (le_stL ⟨.refl _, .refl _, .refl _, .refl _, trivial⟩ trivial) ?_
   intro kk hkk
   refine AWp_seq<|AWp_sr hP<|RK.M rfl<|RK.M rfl<|RK.V (op_len hT rfl rfl rfl (by rfl)) ?_
   refine RK.V (op_lss rfl rfl)<|RK.D ?_
   refine AWp_cond rfl (fun hb11 => ?_) (fun hb11 => ?_)
   ·have hb11_ := of_decide_eq_true hb11
    obtain ⟨ha2, hb2, hc2⟩ := hfL kk hb11_
    refine AWp_skip<|AWp_seq<|AWp_block<|AWp_sr hP<|RK.M rfl<|RK.M rfl<|RK.V (op_indexF hT (n := (k : Int)) rfl rfl rfl rfl rfl rfl (by omega)) ?_
    refine RK.V (op_load_ip_agg hT rfl rfl rfl (cs := FC (fs.getD k ⟨0, 0, 0⟩)) rfl rfl) ?_
    refine RK.M rfl<|RK.M rfl<|RK.V (op_indexF hT (n := (kk : Int)) rfl rfl rfl rfl rfl rfl (by omega)) ?_
    refine RK.V (op_load_ip_agg hT rfl rfl rfl (cs := FC (fs.getD kk ⟨0, 0, 0⟩)) rfl rfl) ?_
    refine RK.V (Eff.call0 (g_Same _ _ ha hb hc ha2 hb2 hc2 gp_hx gp_hx)) ?_
    refine RK.V (op_move (rfl : _ = AV.t _))<|RK.V (op_extract rfl (v := .c _) rfl)<|RK.V (op_extract rfl (v := .c _) rfl)<|RK.As rfl<|RK.As rfl<|RK.D<|AWp_sr hP<|RK.M rfl<|RK.M rfl<|RK.V (op_indexF hT (n := (k : Int)) rfl rfl rfl rfl rfl rfl (by omega)) ?_
    refine RK.V (op_load_ip_agg hT rfl rfl rfl (cs := FC (fs.getD k ⟨0, 0, 0⟩)) rfl rfl) ?_
    refine RK.M rfl<|RK.M rfl<|RK.V (op_indexF hT (n := (kk : Int)) rfl rfl rfl rfl rfl rfl (by omega)) ?_
    refine RK.V (op_load_ip_agg hT rfl rfl rfl (cs := FC (fs.getD kk ⟨0, 0, 0⟩)) rfl rfl) ?_
    refine RK.V (Eff.call0 (r10_Same _ _ ha hb hc ha2 hb2 hc2)) ?_
    refine RK.V (op_move (rfl : _ = AV.t _))<|RK.V (op_extract rfl (v := .c _) rfl)<|RK.V (op_extract rfl (v := .c _) rfl)<|RK.As rfl<|RK.As rfl<|RK.D<|AWp_sr hP<|RK.M rfl<|RK.M rfl<|RK.V (op_bne hT rfl rfl rfl rfl) ?_
    refine RK.M rfl<|RK.val (guard_yes rfl rfl (by simp)) (op_move (rfl : _ = AV.p (.c _))) ?_
    refine RK.val (guard_yes rfl rfl (by simp)) (op_move (rfl : _ = AV.p (.c _))) ?_
    refine RK.val (guard_yes rfl rfl (by simp)) (op_neq rfl rfl) ?_
    refine RK.V (op_pick_f rfl (by simp) (rfl : _ = AV.p (.c _))) ?_
    refine RK.D<|AWp_cond_false rfl (neI rfl) ?_
    refine AWp_skip<|AWp_region hP<|RK.M rfl<|RK.V (op_add rfl rfl (by first | exact IntWalk.i64_in _ (by omega) | rfl)) ?_
    refine RK.As rfl<|RK.D ?_
    refine ⟨kk + 1, by omega, by omega, le_stL ⟨.refl _, .refl _, .refl _, Sub.int (by omega), trivial⟩ trivial⟩
   ·have hb11_ := of_decide_eq_false hb11
    refine AWp_exit<|AWp_region hP<|RK.M rfl<|RK.V (op_add rfl rfl (by first | exact IntWalk.i64_in _ (by omega) | rfl)) ?_
    refine RK.As rfl<|RK.D ?_
    refine ⟨k + 1, by omega, by omega, le_stL ⟨.refl _, .refl _, Sub.int (by omega), trivial⟩ trivial⟩
  ·have hb7_ := of_decide_eq_false hb7
   refine AWp_exit<|AWp_sr hP<|RK.M rfl<|RK.As rfl<|RK.D<|AWp_ret ?_
   refine ends_one rfl (.inr rfl) (res_tmp rfl) ?_ O_ends
   exact .refl _
end Go.Proofs.YtpaifigafaijpaaGreatDoor
end
