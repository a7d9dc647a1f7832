/- Texts merged by program, in build order. -/
import Derived.Test.YtpaifigafaijpaaGreatDoorRE
import Derived.Test.YtpaifigafaijpaaGreatDoorRC
import Derived.Test.YtpaifigafaijpaaGreatDoorRF
import Derived.Test.YtpaifigafaijpaaGreatDoorRB
import Derived.Test.YtpaifigafaijpaaGreatDoorRD
section
/- chapter 9: composition -/
namespace Go.Proofs.YtpaifigafaijpaaGreatDoor
open Go Go.AM
set_option maxRecDepth 100000
set_option maxHeartbeats 1000000
theorem m_Inv (a m : Int) (ha : L 30 a) (hm : L 30 m) (h0 : 0 < m) (h1 : Int.gcd a m = 1) :
  Call0 Tryz.prog 173 [I a, I m] (.t [PI (bzU (a % m) m % m), PE 0]) := by
 have ia : LB a 30 := ⟨ha⟩
 have im : LB m 30 := ⟨hm⟩
 have e1 : ((Int.gcd (a % m) m : Nat) : Int) = 1 := by rw [Int.gcd_comm, gcd_step, h1]; rfl
 have iu : LB (bzU (a % m) m) 30 := ⟨L.of_le hm (by have := bzU_b (a := a % m) (b := m) (by omega); omega)⟩
 refine callM_of (np := 0) Tryz.func173 (by kernel_rfl) rfl rfl (Nat.le_of_ble_eq_true rfl) (fun m h => absurd rfl h) (fun m h => absurd rfl h) rfl ?_
 refine AWp_sr hP ?_
 refine RK.alc guard_none (op_box rfl rfl) ?_
 refine RK.alc guard_none (op_box rfl rfl) ?_
 refine RK.alc guard_none (op_alloc hT rfl rfl) ?_
 refine RK.As rfl ?_
 refine RK.D ?_
 refine AWp_seq ?_
 refine AWp_sr hP ?_
 refine RK.G2 hT rfl rfl rfl rfl rfl rfl ?_
 refine RK.V (Eff.call0 (int_Sign _)) ?_
 refine RK.V (op_lss rfl rfl) ?_
 refine RK.D ?_
 refine AWp_cond_false rfl (decide_eq_false (by have := sgn_gt_iff.2 h0; omega)) ?_
 refine AWp_skip ?_
 refine AWp_sr hP ?_
 refine RK.G2 hT rfl rfl rfl rfl rfl rfl ?_
 refine RK.G2 hT rfl rfl rfl rfl rfl rfl ?_
 refine RK.V (Eff.call0 (m_mod _ _ lz lz (by omega))) ?_
 refine RK.G2 hT rfl rfl rfl rfl rfl rfl ?_
 refine RK.V (Eff.call0 (int_Bezout _ _ lz lz)) ?_
 refine RK.V (op_move (rfl : _ = AV.t _)) ?_
 refine RK.V (op_extract rfl (v := .a _) rfl) ?_
 refine RK.V (op_extract rfl (v := .a _) rfl) ?_
 refine RK.V (op_extract rfl (v := .a _) rfl) ?_
 refine RK.alc guard_none (op_alloc hT rfl rfl) ?_
 refine RK.alc guard_none (op_alloc hT rfl rfl) ?_
 refine RK.alc guard_none (op_alloc hT rfl rfl) ?_
 refine RK.S hT rfl rfl rfl rfl rfl rfl rfl ?_
 refine RK.S hT rfl rfl rfl rfl rfl rfl rfl ?_
 refine RK.S hT rfl rfl rfl rfl rfl rfl rfl ?_
 refine RK.D ?_
 refine AWp_seq ?_
 refine AWp_sr hP ?_
 refine RK.G2 hT rfl rfl rfl rfl rfl rfl ?_
 refine RK.V (Eff.call0 (m_one _)) ?_
 refine RK.V (op_unot rfl) ?_
 refine RK.D ?_
 refine AWp_cond_false rfl (congrArg not (decide_eq_true e1)) ?_
 refine AWp_skip ?_
 refine AWp_sr hP ?_
 refine RK.G2 hT rfl rfl rfl rfl rfl rfl ?_
 refine RK.G2 hT rfl rfl rfl rfl rfl rfl ?_
 refine RK.V (Eff.call0 (m_mod _ _ lz lz (by omega))) ?_
 refine RK.S hT rfl rfl rfl rfl rfl rfl rfl ?_
 refine RK.As rfl ?_
 refine RK.D ?_
 refine AWp_ret ?_
 refine ends_two rfl (.inr rfl) (res_cell_agg hT rfl rfl rfl rfl (cs := [_, _]) rfl rfl) (res_tmp rfl) ?_ O_ends
 exact .refl _
theorem m_Mod (a m : Int) (ha : L 40 a) (hm : L 40 m) (h0 : 0 < m) :
  Call0 Tryz.prog 174 [I a, I m] (.t [PI (a % m), PE 0]) := by
 have ia : LB a 40 := ⟨ha⟩
 have im : LB m 40 := ⟨hm⟩
 refine callM_of (np := 0) Tryz.func174 (by kernel_rfl) rfl rfl (Nat.le_of_ble_eq_true rfl) (fun m h => absurd rfl h) (fun m h => absurd rfl h) rfl ?_
 refine AWp_sr hP ?_
 refine RK.alc guard_none (op_box rfl rfl) ?_
 refine RK.alc guard_none (op_box rfl rfl) ?_
 refine RK.alc guard_none (op_alloc hT rfl rfl) ?_
 refine RK.As rfl ?_
 refine RK.D ?_
 refine AWp_seq ?_
 refine AWp_sr hP ?_
 refine RK.G2 hT rfl rfl rfl rfl rfl rfl ?_
 refine RK.V (Eff.call0 (int_Sign _)) ?_
 refine RK.V (op_lss rfl rfl) ?_
 refine RK.D ?_
 refine AWp_cond_false rfl (decide_eq_false (by have := sgn_gt_iff.2 h0; omega)) ?_
 refine AWp_skip ?_
 refine AWp_sr hP ?_
 refine RK.G2 hT rfl rfl rfl rfl rfl rfl ?_
 refine RK.G2 hT rfl rfl rfl rfl rfl rfl ?_
 refine RK.V (Eff.call0 (m_mod _ _ lz lz (by omega))) ?_
 refine RK.S hT rfl rfl rfl rfl rfl rfl rfl ?_
 refine RK.As rfl ?_
 refine RK.D ?_
 refine AWp_ret ?_
 refine ends_two rfl (.inr rfl) (res_cell_agg hT rfl rfl rfl rfl (cs := [_, _]) rfl rfl) (res_tmp rfl) ?_ O_ends
 exact .refl _
theorem co_of (z : Int) (hz : InI64 z) :
  Call0 Tryz.prog 118 [Z z] (I z) := by
 refine callM_of (np := 0) Tryz.func118 (by kernel_rfl) rfl rfl (Nat.le_of_ble_eq_true rfl) (fun m h => absurd rfl h) (fun m h => absurd rfl h) rfl ?_
 refine AWp_sr hP ?_
 refine RK.alc guard_none (op_alloc hT rfl rfl) ?_
 refine RK.D ?_
 refine AWp_sr hP ?_
 refine RK.M rfl ?_
 refine RK.V (Eff.call0 (int_Of z hz)) ?_
 refine RK.S hT rfl rfl rfl rfl rfl rfl rfl ?_
 refine RK.D ?_
 refine AWp_ret ?_
 refine ends_one rfl (.inr rfl) (res_cell_agg hT rfl rfl rfl rfl (cs := [_, _]) rfl rfl) ?_ O_ends
 exact .refl _
theorem co_isOne (x : Int) :
  Call0 Tryz.prog 214 [I x] (B (decide (x = 1))) := by
 refine callM_of (np := 0) Tryz.func214 (by kernel_rfl) rfl rfl (Nat.le_of_ble_eq_true rfl) (fun m h => absurd rfl h) (fun m h => absurd rfl h) rfl ?_
 refine AWp_sr hP ?_
 refine RK.alc guard_none (op_box rfl rfl) ?_
 refine RK.As rfl ?_
 refine RK.D ?_
 refine AWp_sr hP ?_
 refine RK.G2 hT rfl rfl rfl rfl rfl rfl ?_
 refine RK.V (Eff.call0 (co_of _ (by first | assumption | decide))) ?_
 refine RK.V (Eff.call0 (int_Cmp _ _)) ?_
 refine RK.V (op_eql rfl rfl) ?_
 refine RK.As rfl ?_
 refine RK.D ?_
 refine AWp_ret ?_
 refine ends_one rfl (.inr rfl) (res_tmp rfl) ?_ O_ends
 exact Sub.bool (by rw [Bool.eq_iff_iff]; simp [cmpI_eq_zero])
theorem co_equal (a b c p q r : Int) :
  Call0 Tryz.prog 116 [FA a b c, FA p q r] (B (decide (a = p ∧ b = q ∧ c = r))) := by
 refine callM_of (np := 0) Tryz.func116 (by kernel_rfl) rfl rfl (Nat.le_of_ble_eq_true rfl) (fun m h => absurd rfl h) (fun m h => absurd rfl h) rfl ?_
 refine AWp_sr hP ?_
 refine RK.alc guard_none (op_box rfl rfl) ?_
 refine RK.alc guard_none (op_box rfl rfl) ?_
 refine RK.As rfl ?_
 refine RK.D ?_
 refine AWp_sr hP ?_
 refine RK.F hT rfl rfl rfl rfl rfl rfl ?_
 refine RK.G2 hT rfl rfl rfl rfl rfl rfl ?_
 refine RK.F hT rfl rfl rfl rfl rfl rfl ?_
 refine RK.G2 hT rfl rfl rfl rfl rfl rfl ?_
 refine RK.V (Eff.call0 (int_Cmp _ _)) ?_
 refine RK.V (op_eql rfl rfl) ?_
 refine RK.M rfl ?_
 refine RK.split (t := 11) rfl (fun hg1 => ?_) (fun hg1 => ?_)
 ·have hg1_ := bT hg1
  refine RK.val (guard_yes rfl rfl hg1) (op_field_loc hT rfl rfl rfl rfl rfl rfl) ?_
  refine RK.val (guard_yes rfl rfl hg1) (op_load_agg hT rfl rfl rfl rfl (cs := [_, _]) rfl rfl) ?_
  refine RK.val (guard_yes rfl rfl hg1) (op_field_loc hT rfl rfl rfl rfl rfl rfl) ?_
  refine RK.val (guard_yes rfl rfl hg1) (op_load_agg hT rfl rfl rfl rfl (cs := [_, _]) rfl rfl) ?_
  refine RK.val (guard_yes rfl rfl hg1) (Eff.call0 (int_Cmp _ _)) ?_
  refine RK.val (guard_yes rfl rfl hg1) (op_eql rfl rfl) ?_
  refine RK.V (op_pick_t rfl hg1 (rfl : _ = AV.p (.c _))) ?_
  refine RK.M rfl ?_
  refine RK.split (t := 19) rfl (fun hg2 => ?_) (fun hg2 => ?_)
  ·have hg2_ := bT hg2
   refine RK.val (guard_yes rfl rfl hg2) (op_field_loc hT rfl rfl rfl rfl rfl rfl) ?_
   refine RK.val (guard_yes rfl rfl hg2) (op_load_agg hT rfl rfl rfl rfl (cs := [_, _]) rfl rfl) ?_
   refine RK.val (guard_yes rfl rfl hg2) (op_field_loc hT rfl rfl rfl rfl rfl rfl) ?_
   refine RK.val (guard_yes rfl rfl hg2) (op_load_agg hT rfl rfl rfl rfl (cs := [_, _]) rfl rfl) ?_
   refine RK.val (guard_yes rfl rfl hg2) (Eff.call0 (int_Cmp _ _)) ?_
   refine RK.val (guard_yes rfl rfl hg2) (op_eql rfl rfl) ?_
   refine RK.V (op_pick_t rfl hg2 (rfl : _ = AV.p (.c _))) ?_
   refine RK.As rfl ?_
   refine RK.D ?_
   refine AWp_ret ?_
   refine ends_one rfl (.inr rfl) (res_tmp rfl) ?_ O_ends
   exact Sub.bool (eqc_3 hg1 hg2)
  ·have hg2_ := bF hg2
   refine RK.skip (guard_no rfl rfl hg2) ?_
   refine RK.skip (guard_no rfl rfl hg2) ?_
   refine RK.skip (guard_no rfl rfl hg2) ?_
   refine RK.skip (guard_no rfl rfl hg2) ?_
   refine RK.skip (guard_no rfl rfl hg2) ?_
   refine RK.skip (guard_no rfl rfl hg2) ?_
   refine RK.V (op_pick_f rfl hg2 (rfl : _ = AV.p (.c _))) ?_
   refine RK.As rfl ?_
   refine RK.D ?_
   refine AWp_ret ?_
   refine ends_one rfl (.inr rfl) (res_tmp rfl) ?_ O_ends
   exact Sub.bool (eqc_2 hg1 hg2)
 ·have hg1_ := bF hg1
  refine RK.skip (guard_no rfl rfl hg1) ?_
  refine RK.skip (guard_no rfl rfl hg1) ?_
  refine RK.skip (guard_no rfl rfl hg1) ?_
  refine RK.skip (guard_no rfl rfl hg1) ?_
  refine RK.skip (guard_no rfl rfl hg1) ?_
  refine RK.skip (guard_no rfl rfl hg1) ?_
  refine RK.V (op_pick_f rfl hg1 (rfl : _ = AV.p (.c _))) ?_
  refine RK.M rfl ?_
  refine RK.skip (guard_no rfl rfl rfl) ?_
  refine RK.skip (guard_no rfl rfl rfl) ?_
  refine RK.skip (guard_no rfl rfl rfl) ?_
  refine RK.skip (guard_no rfl rfl rfl) ?_
  refine RK.skip (guard_no rfl rfl rfl) ?_
  refine RK.skip (guard_no rfl rfl rfl) ?_
  refine RK.V (op_pick_f rfl rfl (rfl : _ = AV.p (.c _))) ?_
  refine RK.As rfl ?_
  refine RK.D ?_
  refine AWp_ret ?_
  refine ends_one rfl (.inr rfl) (res_tmp rfl) ?_ O_ends
  exact Sub.bool (eqc_1 hg1)
theorem co_refused (a b c : Int) (ha : L 20 a) (hb : L 20 b) (hc : L 20 c) :
  Call0 Tryz.prog 113 [FA a b c] (.p (PE (rfE ⟨a, b, c⟩))) := by
 have ia : LB a 20 := ⟨ha⟩
 have ib : LB b 20 := ⟨hb⟩
 have ic : LB c 20 := ⟨hc⟩
 refine callM_of (np := 0) Tryz.func113 (by kernel_rfl) rfl rfl (Nat.le_of_ble_eq_true rfl) (fun m h => absurd rfl h) (fun m h => absurd rfl h) rfl ?_
 refine AWp_sr hP ?_
 refine RK.alc guard_none (op_box rfl rfl) ?_
 refine RK.As rfl ?_
 refine RK.D ?_
 refine AWp_sr hP ?_
 refine RK.G6 hT rfl rfl rfl rfl rfl rfl ?_
 refine RK.V (Eff.call0 (q_Check _ _ _ lz lz lz)) ?_
 refine RK.As rfl ?_
 refine RK.D ?_
 refine AWp_seq ?_
 refine AWp_block ?_
 refine AWp_sr hP ?_
 refine RK.M rfl ?_
 refine RK.V (op_neq rfl rfl) ?_
 refine RK.As rfl ?_
 refine RK.D ?_
 refine AWp_cond rfl (fun hb1 => ?_) (fun hb1 => ?_)
 ·have hb1_ := bneT hb1
  refine AWp_sr hP ?_
  refine RK.M rfl ?_
  refine RK.As rfl ?_
  refine RK.D ?_
  refine AWp_ret ?_
  refine ends_one rfl (.inr rfl) (res_tmp rfl) ?_ O_ends
  exact Sub.of_eq (congrArg (fun x => AV.p (PE x)) (rfE_1 (f := ⟨a, b, c⟩) (bneq hb1)))
 ·have hb1_ := bneF hb1
  refine AWp_sr hP ?_
  refine RK.G6 hT rfl rfl rfl rfl rfl rfl ?_
  refine RK.V (Eff.call0 (q_Disc _ _ _ lz lz lz)) ?_
  refine RK.V (Eff.call0 (int_Sign _)) ?_
  refine RK.V (op_gtr rfl rfl) ?_
  refine RK.As rfl ?_
  refine RK.D ?_
  refine AWp_cond rfl (fun hb2 => ?_) (fun hb2 => ?_)
  ·have hb2_ := of_decide_eq_true hb2
   refine AWp_sr hP ?_
   refine RK.As rfl ?_
   refine RK.D ?_
   refine AWp_ret ?_
   refine ends_one rfl (.inr rfl) (res_tmp rfl) ?_ O_ends
   exact Sub.of_eq (congrArg (fun x => AV.p (PE x)) (rfE_2 (f := ⟨a, b, c⟩) (bneqF hb1) hb2_))
  ·have hb2_ := of_decide_eq_false hb2
   refine AWp_sr hP ?_
   refine RK.G6 hT rfl rfl rfl rfl rfl rfl ?_
   refine RK.V (Eff.call0 (q_Primitive _ _ _ lz lz lz)) ?_
   refine RK.V (op_unot rfl) ?_
   refine RK.As rfl ?_
   refine RK.D ?_
   refine AWp_cond rfl (fun hb3 => ?_) (fun hb3 => ?_)
   ·have hb3_ := (notT hb3)
    refine AWp_sr hP ?_
    refine RK.As rfl ?_
    refine RK.D ?_
    refine AWp_ret ?_
    refine ends_one rfl (.inr rfl) (res_tmp rfl) ?_ O_ends
    exact Sub.of_eq (congrArg (fun x => AV.p (PE x)) (rfE_3 (f := ⟨a, b, c⟩) (bneqF hb1) hb2_ (notT hb3)))
   ·have hb3_ := (notF hb3)
    refine AWp_skip ?_
    refine AWp_sr hP ?_
    refine RK.As rfl ?_
    refine RK.D ?_
    refine AWp_ret ?_
    refine ends_one rfl (.inr rfl) (res_tmp rfl) ?_ O_ends
    exact Sub.of_eq (congrArg (fun x => AV.p (PE x)) (rfE_4 (f := ⟨a, b, c⟩) (bneqF hb1) hb2_ (notF hb3)))
theorem co_reduced (a b c : Int) (ha : L 26 a) (hb : L 26 b) (hc : L 26 c) :
  Call0 Tryz.prog 121 [FA a b c] (FA (rdF a b c).a (rdF a b c).b (rdF a b c).c) := by
 have ia : LB a 26 := ⟨ha⟩
 have ib : LB b 26 := ⟨hb⟩
 have ic : LB c 26 := ⟨hc⟩
 refine callM_of (np := 0) Tryz.func121 (by kernel_rfl) rfl rfl (Nat.le_of_ble_eq_true rfl) (fun m h => absurd rfl h) (fun m h => absurd rfl h) rfl ?_
 refine AWp_sr hP ?_
 refine RK.alc guard_none (op_box rfl rfl) ?_
 refine RK.alc guard_none (op_alloc hT rfl rfl) ?_
 refine RK.D ?_
 refine AWp_sr hP ?_
 refine RK.G6 hT rfl rfl rfl rfl rfl rfl ?_
 refine RK.V (Eff.call0 (q_Reduce _ _ _ lz lz lz)) ?_
 refine RK.V (op_move (rfl : _ = AV.t _)) ?_
 refine RK.V (op_extract rfl (v := .a _) rfl) ?_
 refine RK.V (op_extract rfl (v := .a _) rfl) ?_
 refine RK.V (op_extract rfl (v := .c _) rfl) ?_
 refine RK.alc guard_none (op_alloc hT rfl rfl) ?_
 refine RK.alc guard_none (op_alloc hT rfl rfl) ?_
 refine RK.S hT rfl rfl rfl rfl rfl rfl rfl ?_
 refine RK.S hT rfl rfl rfl rfl rfl rfl rfl ?_
 refine RK.As rfl ?_
 refine RK.D ?_
 refine AWp_sr hP ?_
 refine RK.G6 hT rfl rfl rfl rfl rfl rfl ?_
 refine RK.S hT rfl rfl rfl rfl rfl rfl rfl ?_
 refine RK.D ?_
 refine AWp_ret ?_
 refine ends_one rfl (.inr rfl) (res_cell_agg hT rfl rfl rfl rfl (cs := [_, _, _, _, _, _]) rfl rfl) ?_ O_ends
 exact .refl _
theorem co_principal (a b c : Int) (ha : L 20 a) (hb : L 20 b) (hc : L 20 c) :
  Call0 Tryz.prog 114 [FA a b c] (FA (prF (dsc a b c)).a (prF (dsc a b c)).b (prF (dsc a b c)).c) := by
 have ia : LB a 20 := ⟨ha⟩
 have ib : LB b 20 := ⟨hb⟩
 have ic : LB c 20 := ⟨hc⟩
 refine callM_of (np := 0) Tryz.func114 (by kernel_rfl) rfl rfl (Nat.le_of_ble_eq_true rfl) (fun m h => absurd rfl h) (fun m h => absurd rfl h) rfl ?_
 refine AWp_sr hP ?_
 refine RK.alc guard_none (op_box rfl rfl) ?_
 refine RK.alc guard_none (op_alloc hT rfl rfl) ?_
 refine RK.D ?_
 refine AWp_sr hP ?_
 refine RK.G6 hT rfl rfl rfl rfl rfl rfl ?_
 refine RK.V (Eff.call0 (q_Disc _ _ _ lz lz lz)) ?_
 refine RK.V (Eff.call0 (q_Principal _ lz)) ?_
 refine RK.V (op_move (rfl : _ = AV.t _)) ?_
 refine RK.V (op_extract rfl (v := .a _) rfl) ?_
 refine RK.V (op_extract rfl (v := .c _) rfl) ?_
 refine RK.alc guard_none (op_alloc hT rfl rfl) ?_
 refine RK.S hT rfl rfl rfl rfl rfl rfl rfl ?_
 refine RK.As rfl ?_
 refine RK.D ?_
 refine AWp_sr hP ?_
 refine RK.G6 hT rfl rfl rfl rfl rfl rfl ?_
 refine RK.S hT rfl rfl rfl rfl rfl rfl rfl ?_
 refine RK.D ?_
 refine AWp_ret ?_
 refine ends_one rfl (.inr rfl) (res_cell_agg hT rfl rfl rfl rfl (cs := [_, _, _, _, _, _]) rfl rfl) ?_ O_ends
 exact .refl _
set_option maxHeartbeats 8000000 in
theorem co_coprime (f : Fm) (w : Int) (hfa : L 6 f.a) (hfb : L 6 f.b) (hfc : L 6 f.c) (hw : L 6 w) (h0 : w ≠ 0) (pf : prim f.a f.b f.c = true) :
  Call0 Tryz.prog 172 [FA f.a f.b f.c, I w] (FA (cpF f w).a (cpF f w).b (cpF f w).c) := by
 have ifa : LB f.a 6 := ⟨hfa⟩
 have ifb : LB f.b 6 := ⟨hfb⟩
 have ifc : LB f.c 6 := ⟨hfc⟩
 have iw : LB w 6 := ⟨hw⟩
 obtain ⟨hR, hN1, hN2⟩ := cp_ex pf h0 hw
 refine callM_of (np := 0) Tryz.func172 (by kernel_rfl) rfl rfl (Nat.le_of_ble_eq_true rfl) (fun m h => absurd rfl h) (fun m h => absurd rfl h) rfl ?_
 refine AWp_sr hP ?_
 refine RK.alc guard_none (op_box rfl rfl) ?_
 refine RK.alc guard_none (op_box rfl rfl) ?_
 refine RK.alc guard_none (op_alloc hT rfl rfl) ?_
 refine RK.D ?_
 refine AWp_sr hP ?_
 refine RK.As rfl ?_
 refine RK.D ?_
 refine AWp_block ?_
 refine AWp_loop (ι := Nat) (fun k => stL [(2, .loc 2 0), (3, .loc 3 0), (4, .loc 4 0), (5, Z (k : Int))] [(2, ⟨false, 1, 53, FL f.a f.b f.c⟩), (3, ⟨false, 1, 36, [zn (w), zm (w)]⟩), (4, ⟨false, 1, 53, FL 0 0 0⟩)]) (fun k => CpI f w k) (fun k => 9100000000000000000 - k) 1 (CpI.start hN1) (le_stL ⟨.refl _, .refl _, .refl _, .refl _, trivial⟩ ⟨rfl, rfl, rfl, trivial⟩) ?_
 intro k i
 have kb := i.nb
 have k1 := i.n1
 refine AWp_seq ?_
 refine AWp_block ?_
 refine AWp_sr hP ?_
 refine RK.M rfl ?_
 refine RK.V (op_add rfl rfl (by first | exact IntWalk.i64_in _ (by omega) | rfl)) ?_
 refine RK.M rfl ?_
 refine RK.D ?_
 refine AWp_block ?_
 refine AWp_loop (ι := Nat) (fun x => stL [(2, .loc 2 0), (3, .loc 3 0), (4, .loc 4 0), (5, Z (k : Int)), (14, Z ((k : Int) + 1)), (15, Z (x : Int))] [(2, ⟨false, 1, 53, FL f.a f.b f.c⟩), (3, ⟨false, 1, 36, [zn (w), zm (w)]⟩), (4, ⟨false, 1, 53, FL 0 0 0⟩)]) (fun x => x ≤ k + 1 ∧ ∀ y, y < x → cpG f w k y = false) (fun x => k + 1 - x) 0 ⟨by omega, fun y hy => by omega⟩ (le_stL ⟨.refl _, .refl _, .refl _, .refl _, Sub.int (by omega), .refl _, trivial⟩ ⟨rfl, rfl, rfl, trivial⟩) ?_
 rintro x ⟨hx, hno⟩
 refine AWp_sr hP ?_
 refine RK.V (op_lss rfl rfl) ?_
 refine RK.D ?_
 refine AWp_seq ?_
 refine AWp_cond rfl (fun hb1 => ?_) (fun hb1 => ?_)
 ·have hb1_ := of_decide_eq_true hb1
  have jx : InI64 (x : Int) := by unfold InI64; omega
  have jy : InI64 ((k : Int) - x) := by unfold InI64; omega
  have ix : LB (x : Int) 6 := ⟨L6_of (by omega)⟩
  have iy : LB ((k : Int) - x) 6 := ⟨L6_of (by omega)⟩
  obtain ⟨iu, iv⟩ := bz_L6 (x := (x : Int)) (y := (k : Int) - x) (by omega) (by omega)
  refine AWp_skip ?_
  refine AWp_seq ?_
  refine AWp_block ?_
  refine AWp_sr hP ?_
  refine RK.M rfl ?_
  refine RK.As rfl ?_
  refine RK.D ?_
  refine AWp_sr hP ?_
  refine RK.M rfl ?_
  refine RK.M rfl ?_
  refine RK.V (op_sub rfl rfl (by first | exact IntWalk.i64_in _ (by omega) | rfl)) ?_
  refine RK.As rfl ?_
  refine RK.D ?_
  refine AWp_sr hP ?_
  refine RK.M rfl ?_
  refine RK.V (Eff.call0 (co_of _ jx)) ?_
  refine RK.M rfl ?_
  refine RK.V (Eff.call0 (co_of _ jy)) ?_
  refine RK.V (Eff.call0 (int_Bezout _ _ lz lz)) ?_
  refine RK.V (op_move (rfl : _ = AV.t _)) ?_
  refine RK.V (op_extract rfl (v := .a _) rfl) ?_
  refine RK.V (op_extract rfl (v := .a _) rfl) ?_
  refine RK.V (op_extract rfl (v := .a _) rfl) ?_
  refine RK.alc guard_none (op_alloc hT rfl rfl) ?_
  refine RK.alc guard_none (op_alloc hT rfl rfl) ?_
  refine RK.alc guard_none (op_alloc hT rfl rfl) ?_
  refine RK.S hT rfl rfl rfl rfl rfl rfl rfl ?_
  refine RK.S hT rfl rfl rfl rfl rfl rfl rfl ?_
  refine RK.S hT rfl rfl rfl rfl rfl rfl rfl ?_
  refine RK.D ?_
  refine AWp_sr hP ?_
  refine RK.G2 hT rfl rfl rfl rfl rfl rfl ?_
  refine RK.V (Eff.call0 (co_isOne _)) ?_
  refine RK.M rfl ?_
  refine RK.split (t := 32) rfl (fun hg2 => ?_) (fun hg2 => ?_)
  ·refine RK.val (guard_yes rfl rfl hg2) (op_load_agg hT rfl rfl rfl rfl (cs := [_, _, _, _, _, _]) rfl rfl) ?_
   refine RK.val (guard_yes rfl rfl hg2) (op_move (rfl : _ = AV.p (.c _))) ?_
   refine RK.val (guard_yes rfl rfl hg2) (Eff.call0 (co_of _ jx)) ?_
   refine RK.val (guard_yes rfl rfl hg2) (op_move (rfl : _ = AV.p (.c _))) ?_
   refine RK.val (guard_yes rfl rfl hg2) (Eff.call0 (co_of _ jy)) ?_
   refine RK.val (guard_yes rfl rfl hg2) (Eff.call0 (q_Value _ _ _ _ _ lz lz lz lz lz)) ?_
   refine RK.val (guard_yes rfl rfl hg2) (op_load_agg hT rfl rfl rfl rfl (cs := [_, _]) rfl rfl) ?_
   refine RK.val (guard_yes rfl rfl hg2) (Eff.call0 (int_Gcd _ _ lz lz)) ?_
   refine RK.val (guard_yes rfl rfl hg2) (Eff.call0 (co_isOne _)) ?_
   refine RK.V (op_pick_t rfl hg2 (rfl : _ = AV.p (.c _))) ?_
   refine RK.D ?_
   refine AWp_cond rfl (fun hb3 => ?_) (fun hb3 => ?_)
   ·refine AWp_sr hP ?_
    refine RK.G6 hT rfl rfl rfl rfl rfl rfl ?_
    refine RK.M rfl ?_
    refine RK.V (Eff.call0 (co_of _ jx)) ?_
    refine RK.G2 hT rfl rfl rfl rfl rfl rfl ?_
    refine RK.V (Eff.call0 (int_Neg _)) ?_
    refine RK.M rfl ?_
    refine RK.V (Eff.call0 (co_of _ jy)) ?_
    refine RK.G2 hT rfl rfl rfl rfl rfl rfl ?_
    refine RK.V (op_build_st hT rfl rfl rfl (es := [_, _, _, _, _, _, _, _]) rfl) ?_
    refine RK.V (Eff.call0 (q_Apply _ _ _ _ _ _ _ lz lz lz lz lz lz lz)) ?_
    refine RK.S hT rfl rfl rfl rfl rfl rfl rfl ?_
    refine RK.D ?_
    refine AWp_ret ?_
    refine ends_one rfl (.inr rfl) (res_cell_agg hT rfl rfl rfl rfl (cs := [_, _, _, _, _, _]) rfl rfl) ?_ O_ends
    obtain ⟨q1, q2⟩ := i.found hN2 (by omega) hno (cpG_yes hg2 hb3)
    exact Sub.of_eq (cp_found q1 q2)
   ·refine AWp_skip ?_
    refine AWp_region hP ?_
    refine RK.V (op_add rfl rfl (by first | exact IntWalk.i64_in _ (by omega) | rfl)) ?_
    refine RK.M rfl ?_
    refine RK.D ?_
    refine ⟨x + 1, ⟨by omega, ext_no hno (cpG_no2 hb3)⟩, by omega, le_stL ⟨.refl _, .refl _, .refl _, .refl _, .refl _, Sub.int (by omega), trivial⟩ ⟨rfl, rfl, rfl, trivial⟩⟩
  ·refine RK.skip (guard_no rfl rfl hg2) ?_
   refine RK.skip (guard_no rfl rfl hg2) ?_
   refine RK.skip (guard_no rfl rfl hg2) ?_
   refine RK.skip (guard_no rfl rfl hg2) ?_
   refine RK.skip (guard_no rfl rfl hg2) ?_
   refine RK.skip (guard_no rfl rfl hg2) ?_
   refine RK.skip (guard_no rfl rfl hg2) ?_
   refine RK.skip (guard_no rfl rfl hg2) ?_
   refine RK.skip (guard_no rfl rfl hg2) ?_
   refine RK.V (op_pick_f rfl hg2 (rfl : _ = AV.p (.c _))) ?_
   refine RK.D ?_
   refine AWp_cond_false rfl rfl ?_
   refine AWp_skip ?_
   refine AWp_region hP ?_
   refine RK.V (op_add rfl rfl (by first | exact IntWalk.i64_in _ (by omega) | rfl)) ?_
   refine RK.M rfl ?_
   refine RK.D ?_
   refine ⟨x + 1, ⟨by omega, ext_no hno (cpG_no1 hg2)⟩, by omega, le_stL ⟨.refl _, .refl _, .refl _, .refl _, .refl _, Sub.int (by omega), trivial⟩ ⟨rfl, rfl, rfl, trivial⟩⟩
 ·have hb1_ := of_decide_eq_false hb1
  refine AWp_exit ?_
  refine AWp_region hP ?_
  refine RK.M rfl ?_
  refine RK.V (op_add rfl rfl (by first | exact IntWalk.i64_in _ (by omega) | rfl)) ?_
  refine RK.As rfl ?_
  refine RK.D ?_
  refine ⟨k + 1, i.next hN2 (fun y hy => hno y (by omega)), by omega, le_stL ⟨.refl _, .refl _, .refl _, Sub.int (by omega), trivial⟩ ⟨rfl, rfl, rfl, trivial⟩⟩
set_option maxHeartbeats 8000000 in
theorem co_product (f g : Fm) (hf : Cl (dsc f.a f.b f.c) f) (hg : Cl (dsc f.a f.b f.c) g) (hfa : L 6 f.a) (hfb : L 6 f.b) (hfc : L 6 f.c) (hga : L 6 g.a) (hgb : L 6 g.b) (hgc : L 6 g.c) :
  Call0 Tryz.prog 123 [FA f.a f.b f.c, FA g.a g.b g.c] (FA (mlt f g).a (mlt f g).b (mlt f g).c) := by
 have ifa : LB f.a 6 := ⟨hfa⟩
 have ifb : LB f.b 6 := ⟨hfb⟩
 have ifc : LB f.c 6 := ⟨hfc⟩
 have iga : LB g.a 6 := ⟨hga⟩
 have igb : LB g.b 6 := ⟨hgb⟩
 have igc : LB g.c 6 := ⟨hgc⟩
 have hfa0 : f.a ≠ 0 := by have := hf.pos.1; omega
 obtain ⟨hG, eG, hGc⟩ := cpF_cl hg hfa0 hfa
 obtain ⟨gLa, gLb, gLc⟩ := cpF_L hg.prim hfa0 hfa hga hgb hgc
 have cC := co_coprime g f.a hga hgb hgc hfa hfa0 hg.prim
 have hfin := prod_mlt hf hg hG eG hGc
 generalize cpF g f.a = G at hG eG hGc gLa gLb gLc cC hfin
 have hGa0 : 0 < G.a := hG.pos.1
 have iu : LB (bzU (f.a % G.a) G.a % G.a) 14 := ⟨L.of_le gLa.le (by have := Int.emod_nonneg (bzU (f.a % G.a) G.a) (show G.a ≠ 0 by omega); have := Int.emod_lt_of_pos (bzU (f.a % G.a) G.a) hGa0; omega)⟩
 have hA4 : 4 * (f.a * G.a) ≠ 0 := by have := Int.mul_pos hf.pos.1 hGa0; omega
 have cI := m_Inv f.a G.a lz lz hGa0 (by rw [Int.gcd_comm]; exact hGc)
 generalize bzU (f.a % G.a) G.a % G.a = i at iu cI hfin
 refine callM_of (np := 0) Tryz.func123 (by kernel_rfl) rfl rfl (Nat.le_of_ble_eq_true rfl) (fun m h => absurd rfl h) (fun m h => absurd rfl h) rfl ?_
 refine AWp_sr hP ?_
 refine RK.alc guard_none (op_box rfl rfl) ?_
 refine RK.alc guard_none (op_box rfl rfl) ?_
 refine RK.alc guard_none (op_alloc hT rfl rfl) ?_
 refine RK.D ?_
 refine AWp_sr hP ?_
 refine RK.G6 hT rfl rfl rfl rfl rfl rfl ?_
 refine RK.F hT rfl rfl rfl rfl rfl rfl ?_
 refine RK.G2 hT rfl rfl rfl rfl rfl rfl ?_
 refine RK.V (Eff.call0 cC) ?_
 refine RK.S hT rfl rfl rfl rfl rfl rfl rfl ?_
 refine RK.D ?_
 refine AWp_sr hP ?_
 refine RK.G6 hT rfl rfl rfl rfl rfl rfl ?_
 refine RK.V (Eff.call0 (q_Disc _ _ _ lz lz lz)) ?_
 refine RK.alc guard_none (op_alloc hT rfl rfl) ?_
 refine RK.S hT rfl rfl rfl rfl rfl rfl rfl ?_
 refine RK.D ?_
 refine AWp_sr hP ?_
 refine RK.F hT rfl rfl rfl rfl rfl rfl ?_
 refine RK.G2 hT rfl rfl rfl rfl rfl rfl ?_
 refine RK.F hT rfl rfl rfl rfl rfl rfl ?_
 refine RK.G2 hT rfl rfl rfl rfl rfl rfl ?_
 refine RK.V (Eff.call0 (int_Sub _ _ lz lz)) ?_
 refine RK.V (Eff.call0 (co_of 2 (by decide))) ?_
 refine RK.V (Eff.call0 (int_DivMod _ _ lz lz (by decide))) ?_
 refine RK.V (op_move (rfl : _ = AV.t _)) ?_
 refine RK.V (op_extract rfl (v := .a _) rfl) ?_
 refine RK.V (op_extract rfl (v := .a _) rfl) ?_
 refine RK.V (op_extract rfl (v := .c _) rfl) ?_
 refine RK.alc guard_none (op_alloc hT rfl rfl) ?_
 refine RK.alc guard_none (op_alloc hT rfl rfl) ?_
 refine RK.S hT rfl rfl rfl rfl rfl rfl rfl ?_
 refine RK.S hT rfl rfl rfl rfl rfl rfl rfl ?_
 refine RK.As rfl ?_
 refine RK.D ?_
 refine AWp_sr hP ?_
 refine RK.F hT rfl rfl rfl rfl rfl rfl ?_
 refine RK.G2 hT rfl rfl rfl rfl rfl rfl ?_
 refine RK.F hT rfl rfl rfl rfl rfl rfl ?_
 refine RK.G2 hT rfl rfl rfl rfl rfl rfl ?_
 refine RK.V (Eff.call0 cI) ?_
 refine RK.V (op_move (rfl : _ = AV.t _)) ?_
 refine RK.V (op_extract rfl (v := .a _) rfl) ?_
 refine RK.V (op_extract rfl (v := .c _) rfl) ?_
 refine RK.alc guard_none (op_alloc hT rfl rfl) ?_
 refine RK.S hT rfl rfl rfl rfl rfl rfl rfl ?_
 refine RK.As rfl ?_
 refine RK.D ?_
 refine AWp_sr hP ?_
 refine RK.G2 hT rfl rfl rfl rfl rfl rfl ?_
 refine RK.G2 hT rfl rfl rfl rfl rfl rfl ?_
 refine RK.V (Eff.call0 (int_Mul _ _ lz lz)) ?_
 refine RK.F hT rfl rfl rfl rfl rfl rfl ?_
 refine RK.G2 hT rfl rfl rfl rfl rfl rfl ?_
 refine RK.V (Eff.call0 (m_Mod _ _ lz lz hGa0)) ?_
 refine RK.V (op_move (rfl : _ = AV.t _)) ?_
 refine RK.V (op_extract rfl (v := .a _) rfl) ?_
 refine RK.V (op_extract rfl (v := .c _) rfl) ?_
 refine RK.alc guard_none (op_alloc hT rfl rfl) ?_
 refine RK.S hT rfl rfl rfl rfl rfl rfl rfl ?_
 refine RK.As rfl ?_
 refine RK.D ?_
 refine AWp_sr hP ?_
 refine RK.F hT rfl rfl rfl rfl rfl rfl ?_
 refine RK.G2 hT rfl rfl rfl rfl rfl rfl ?_
 refine RK.F hT rfl rfl rfl rfl rfl rfl ?_
 refine RK.G2 hT rfl rfl rfl rfl rfl rfl ?_
 refine RK.V (Eff.call0 (int_Mul _ _ lz lz)) ?_
 refine RK.alc guard_none (op_alloc hT rfl rfl) ?_
 refine RK.S hT rfl rfl rfl rfl rfl rfl rfl ?_
 refine RK.D ?_
 refine AWp_sr hP ?_
 refine RK.F hT rfl rfl rfl rfl rfl rfl ?_
 refine RK.G2 hT rfl rfl rfl rfl rfl rfl ?_
 refine RK.V (Eff.call0 (co_of 2 (by decide))) ?_
 refine RK.F hT rfl rfl rfl rfl rfl rfl ?_
 refine RK.G2 hT rfl rfl rfl rfl rfl rfl ?_
 refine RK.G2 hT rfl rfl rfl rfl rfl rfl ?_
 refine RK.V (Eff.call0 (int_Mul _ _ lz lz)) ?_
 refine RK.V (Eff.call0 (int_Mul _ _ lz lz)) ?_
 refine RK.V (Eff.call0 (int_Add _ _ lz lz)) ?_
 refine RK.alc guard_none (op_alloc hT rfl rfl) ?_
 refine RK.S hT rfl rfl rfl rfl rfl rfl rfl ?_
 refine RK.D ?_
 refine AWp_sr hP ?_
 refine RK.G2 hT rfl rfl rfl rfl rfl rfl ?_
 refine RK.G2 hT rfl rfl rfl rfl rfl rfl ?_
 refine RK.V (Eff.call0 (int_Mul _ _ lz lz)) ?_
 refine RK.G2 hT rfl rfl rfl rfl rfl rfl ?_
 refine RK.V (Eff.call0 (int_Sub _ _ lz lz)) ?_
 refine RK.V (Eff.call0 (co_of 4 (by decide))) ?_
 refine RK.G2 hT rfl rfl rfl rfl rfl rfl ?_
 refine RK.V (Eff.call0 (int_Mul _ _ lz lz)) ?_
 refine RK.V (Eff.call0 (int_DivMod _ _ lz lz hA4)) ?_
 refine RK.V (op_move (rfl : _ = AV.t _)) ?_
 refine RK.V (op_extract rfl (v := .a _) rfl) ?_
 refine RK.V (op_extract rfl (v := .a _) rfl) ?_
 refine RK.V (op_extract rfl (v := .c _) rfl) ?_
 refine RK.alc guard_none (op_alloc hT rfl rfl) ?_
 refine RK.alc guard_none (op_alloc hT rfl rfl) ?_
 refine RK.S hT rfl rfl rfl rfl rfl rfl rfl ?_
 refine RK.S hT rfl rfl rfl rfl rfl rfl rfl ?_
 refine RK.As rfl ?_
 refine RK.D ?_
 refine AWp_sr hP ?_
 refine RK.G2 hT rfl rfl rfl rfl rfl rfl ?_
 refine RK.G2 hT rfl rfl rfl rfl rfl rfl ?_
 refine RK.G2 hT rfl rfl rfl rfl rfl rfl ?_
 refine RK.V (op_build_st hT rfl rfl rfl (es := [_, _, _, _, _, _]) rfl) ?_
 refine RK.V (Eff.call0 (co_reduced _ _ _ lz lz lz)) ?_
 refine RK.S hT rfl rfl rfl rfl rfl rfl rfl ?_
 refine RK.D ?_
 refine AWp_ret ?_
 refine ends_one rfl (.inr rfl) (res_cell_agg hT rfl rfl rfl rfl (cs := [_, _, _, _, _, _]) rfl rfl) ?_ O_ends
 exact Sub.of_eq (by rw [← hfin])
set_option maxHeartbeats 8000000 in
theorem co_Compose (f g : Fm) (hfa : L 6 f.a) (hfb : L 6 f.b) (hfc : L 6 f.c) (hga : L 6 g.a) (hgb : L 6 g.b) (hgc : L 6 g.c) :
  Call0 Tryz.prog 68 [FA f.a f.b f.c, FA g.a g.b g.c] (.t [PF (cmV f g), PE (cmE f g)]) := by
 have ifa : LB f.a 6 := ⟨hfa⟩
 have ifb : LB f.b 6 := ⟨hfb⟩
 have ifc : LB f.c 6 := ⟨hfc⟩
 have iga : LB g.a 6 := ⟨hga⟩
 have igb : LB g.b 6 := ⟨hgb⟩
 have igc : LB g.c 6 := ⟨hgc⟩
 refine callM_of (np := 0) Tryz.func68 (by kernel_rfl) rfl rfl (Nat.le_of_ble_eq_true rfl) (fun m h => absurd rfl h) (fun m h => absurd rfl h) rfl ?_
 refine AWp_sr hP ?_
 refine RK.alc guard_none (op_box rfl rfl) ?_
 refine RK.alc guard_none (op_box rfl rfl) ?_
 refine RK.alc guard_none (op_alloc hT rfl rfl) ?_
 refine RK.As rfl ?_
 refine RK.D ?_
 refine AWp_seq ?_
 refine AWp_sr hP ?_
 refine RK.G6 hT rfl rfl rfl rfl rfl rfl ?_
 refine RK.G6 hT rfl rfl rfl rfl rfl rfl ?_
 refine RK.V (op_bslice hT rfl rfl rfl (es := [_, _, _, _, _, _, _, _, _, _, _, _]) rfl rfl rfl) ?_
 refine RK.V (op_len hT rfl rfl rfl (by rfl)) ?_
 refine RK.M rfl ?_
 refine RK.D ?_
 refine AWp_block ?_
 refine AWp_loop (ι := Nat) (fun k => stL [(2, .loc 2 0), (3, .loc 3 0), (4, .loc 4 0), (11, .p (.c (FS [f, g]))), (12, Z 2), (13, Z (k : Int))] [(2, ⟨false, 1, 53, FL f.a f.b f.c⟩), (3, ⟨false, 1, 53, FL g.a g.b g.c⟩), (4, ⟨false, 1, 53, FL 0 0 0⟩)]) (fun k => k ≤ 2 ∧ ∀ j, j < k → rfE ([f, g].getD j ⟨0, 0, 0⟩) = 0) (fun k => 2 - k) 0 ⟨by omega, fun j hj => by omega⟩ (le_stL ⟨.refl _, .refl _, .refl _, .refl _, .refl _, .refl _, trivial⟩ ⟨rfl, rfl, rfl, trivial⟩) ?_
 rintro k ⟨hk, hno⟩
 refine AWp_sr hP ?_
 refine RK.V (op_lss rfl rfl) ?_
 refine RK.D ?_
 refine AWp_seq ?_
 refine AWp_cond rfl (fun hb1 => ?_) (fun hb1 => ?_)
 ·have hb1_ := of_decide_eq_true hb1
  have hk2 : (k : Int) < 2 := hb1_
  obtain ⟨q1, q2, q3⟩ : L 20 ([f, g].getD k ⟨0, 0, 0⟩).a ∧ L 20 ([f, g].getD k ⟨0, 0, 0⟩).b ∧ L 20 ([f, g].getD k ⟨0, 0, 0⟩).c := by
   rcases two_get (f := f) (g := g) hk2 with ⟨_, e⟩ | ⟨_, e⟩ <;> rw [e] <;> exact ⟨lz, lz, lz⟩
  refine AWp_skip ?_
  refine AWp_seq ?_
  refine AWp_block ?_
  refine AWp_sr hP ?_
  refine RK.V (op_indexF hT rfl rfl rfl rfl rfl rfl (by simp; omega)) ?_
  refine RK.V (op_load_ip_agg hT rfl rfl rfl (cs := FC ([f, g].getD k ⟨0, 0, 0⟩)) rfl rfl) ?_
  refine RK.alc guard_none (op_alloc hT rfl rfl) ?_
  refine RK.S hT rfl rfl rfl rfl rfl rfl rfl ?_
  refine RK.D ?_
  refine AWp_sr hP ?_
  refine RK.G6 hT rfl rfl rfl rfl rfl rfl ?_
  refine RK.V (Eff.call0 (co_refused _ _ _ q1 q2 q3)) ?_
  refine RK.As rfl ?_
  refine RK.D ?_
  refine AWp_sr hP ?_
  refine RK.M rfl ?_
  refine RK.V (op_neq rfl rfl) ?_
  refine RK.D ?_
  refine AWp_cond rfl (fun hb2 => ?_) (fun hb2 => ?_)
  ·have hb2_ := bneT hb2
   refine AWp_sr hP ?_
   refine RK.V (op_build_st hT rfl rfl rfl (es := [_, _, _, _, _, _]) rfl) ?_
   refine RK.M rfl ?_
   refine RK.S hT rfl rfl rfl rfl rfl rfl rfl ?_
   refine RK.As rfl ?_
   refine RK.D ?_
   refine AWp_ret ?_
   refine ends_two rfl (.inr rfl) (res_cell_agg hT rfl rfl rfl rfl (cs := [_, _, _, _, _, _]) rfl rfl) (res_tmp rfl) ?_ O_ends
   exact Sub.of_eq (cm_res (cm_loop hk2 hno hb2_) hb2_)
  ·have hb2_ := bneF hb2
   refine AWp_skip ?_
   refine AWp_region hP ?_
   refine RK.V (op_add rfl rfl (by first | exact IntWalk.i64_in _ (by omega) | rfl)) ?_
   refine RK.M rfl ?_
   refine RK.D ?_
   refine ⟨k + 1, ⟨by omega, ext_0 hno hb2_⟩, by omega, le_stL ⟨.refl _, .refl _, .refl _, .refl _, .refl _, Sub.int (by omega), trivial⟩ ⟨rfl, rfl, rfl, trivial⟩⟩
 ·have hb1_ := of_decide_eq_false hb1
  have r0 : rfE f = 0 := hno 0 (by omega)
  have r1 : rfE g = 0 := hno 1 (by omega)
  refine AWp_exit ?_
  refine AWp_seq ?_
  refine AWp_sr hP ?_
  refine RK.G6 hT rfl rfl rfl rfl rfl rfl ?_
  refine RK.V (Eff.call0 (q_Disc _ _ _ lz lz lz)) ?_
  refine RK.G6 hT rfl rfl rfl rfl rfl rfl ?_
  refine RK.V (Eff.call0 (q_Disc _ _ _ lz lz lz)) ?_
  refine RK.V (Eff.call0 (int_Cmp _ _)) ?_
  refine RK.V (op_neq rfl rfl) ?_
  refine RK.D ?_
  refine AWp_cond rfl (fun hb3 => ?_) (fun hb3 => ?_)
  ·have hb3_ := bneT hb3
   refine AWp_sr hP ?_
   refine RK.V (op_build_st hT rfl rfl rfl (es := [_, _, _, _, _, _]) rfl) ?_
   refine RK.S hT rfl rfl rfl rfl rfl rfl rfl ?_
   refine RK.As rfl ?_
   refine RK.D ?_
   refine AWp_ret ?_
   refine ends_two rfl (.inr rfl) (res_cell_agg hT rfl rfl rfl rfl (cs := [_, _, _, _, _, _]) rfl rfl) (res_tmp rfl) ?_ O_ends
   exact Sub.of_eq (cm_res (cm_e3 r0 r1 (fun e => hb3_ (cmpI_eq_zero.2 e))) (by decide))
  ·have hb3_ := bneF hb3
   have hdd : dsc f.a f.b f.c = dsc g.a g.b g.c := cmpI_eq_zero.1 hb3_
   have hcm := cm_e4 r0 r1 hdd
   obtain ⟨cl1, cl2⟩ := cmE_cl hcm
   refine AWp_skip ?_
   refine AWp_sr hP ?_
   refine RK.G6 hT rfl rfl rfl rfl rfl rfl ?_
   refine RK.G6 hT rfl rfl rfl rfl rfl rfl ?_
   refine RK.V (Eff.call0 (co_product f g cl1 cl2 hfa hfb hfc hga hgb hgc)) ?_
   refine RK.S hT rfl rfl rfl rfl rfl rfl rfl ?_
   refine RK.As rfl ?_
   refine RK.D ?_
   refine AWp_ret ?_
   refine ends_two rfl (.inr rfl) (res_cell_agg hT rfl rfl rfl rfl (cs := [_, _, _, _, _, _]) rfl rfl) (res_tmp rfl) ?_ O_ends
   exact Sub.of_eq (cm_ok hcm)
end Go.Proofs.YtpaifigafaijpaaGreatDoor
end

section
/- chapter 9: powers; the reference -/
namespace Go.Proofs.YtpaifigafaijpaaGreatDoor
open Go Go.AM
set_option maxRecDepth 100000
set_option maxHeartbeats 1000000
theorem co_productD (D : Int) (f g : Fm) (hf : Cl D f) (hg : Cl D g) (hfa : L 6 f.a) (hfb : L 6 f.b) (hfc : L 6 f.c) (hga : L 6 g.a) (hgb : L 6 g.b) (hgc : L 6 g.c) : Call0 Tryz.prog 123 [FA f.a f.b f.c, FA g.a g.b g.c] (FA (mlt f g).a (mlt f g).b (mlt f g).c) := by
 have e := hf.disc
 subst e
 exact co_product f g hf hg hfa hfb hfc hga hgb hgc
theorem r9_Reduced (a b c : Int) (ha : L 25 a) (hb : L 25 b) (hc : L 25 c) :
  Call0 Tryz.prog 126 [FA a b c] (FA (rdF a b c).a (rdF a b c).b (rdF a b c).c) := by
 have ia : LB a 25 := ⟨ha⟩
 have ib : LB b 25 := ⟨hb⟩
 have ic : LB c 25 := ⟨hc⟩
 refine callM_of (np := 0) Tryz.func126 (by kernel_rfl) rfl rfl (Nat.le_of_ble_eq_true rfl) (fun m h => absurd rfl h) (fun m h => absurd rfl h) rfl ?_
 refine AWp_sr hP ?_
 refine RK.alc guard_none (op_box rfl rfl) ?_
 refine RK.alc guard_none (op_alloc hT rfl rfl) ?_
 refine RK.D ?_
 refine AWp_sr hP ?_
 refine RK.G6 hT rfl rfl rfl rfl rfl rfl ?_
 refine RK.V (Eff.call0 (r8_Reduce _ _ _ lz lz lz)) ?_
 refine RK.V (op_move (rfl : _ = AV.t _)) ?_
 refine RK.V (op_extract rfl (v := .a _) rfl) ?_
 refine RK.V (op_extract rfl (v := .a _) rfl) ?_
 refine RK.V (op_extract rfl (v := .c _) rfl) ?_
 refine RK.alc guard_none (op_alloc hT rfl rfl) ?_
 refine RK.alc guard_none (op_alloc hT rfl rfl) ?_
 refine RK.S hT rfl rfl rfl rfl rfl rfl rfl ?_
 refine RK.S hT rfl rfl rfl rfl rfl rfl rfl ?_
 refine RK.As rfl ?_
 refine RK.D ?_
 refine AWp_sr hP ?_
 refine RK.G6 hT rfl rfl rfl rfl rfl rfl ?_
 refine RK.S hT rfl rfl rfl rfl rfl rfl rfl ?_
 refine RK.D ?_
 refine AWp_ret ?_
 refine ends_one rfl (.inr rfl) (res_cell_agg hT rfl rfl rfl rfl (cs := [_, _, _, _, _, _]) rfl rfl) ?_ O_ends
 exact .refl _
theorem r8_Principal (d : Int) (hd : L 40 d) :
  Call0 Tryz.prog 139 [I d] (.t [PF (prF d), PE (prE d)]) := by
 have id_ : LB d 40 := ⟨hd⟩
 refine callM_of (np := 0) Tryz.func139 (by kernel_rfl) rfl rfl (Nat.le_of_ble_eq_true rfl) (fun m h => absurd rfl h) (fun m h => absurd rfl h) rfl ?_
 refine AWp_sr hP ?_
 refine RK.alc guard_none (op_box rfl rfl) ?_
 refine RK.alc guard_none (op_alloc hT rfl rfl) ?_
 refine RK.As rfl ?_
 refine RK.D ?_
 refine AWp_sr hP ?_
 refine RK.G2 hT rfl rfl rfl rfl rfl rfl ?_
 refine RK.V (Eff.call0 (r_Of _ (by first | assumption | decide))) ?_
 refine RK.V (Eff.call0 (r_Mod _ _ lz lz (by decide))) ?_
 refine RK.alc guard_none (op_alloc hT rfl rfl) ?_
 refine RK.S hT rfl rfl rfl rfl rfl rfl rfl ?_
 refine RK.D ?_
 refine AWp_seq ?_
 refine AWp_sr hP ?_
 refine RK.G2 hT rfl rfl rfl rfl rfl rfl ?_
 refine RK.V (Eff.call0 (r_Of _ (by first | assumption | decide))) ?_
 refine RK.V (Eff.call0 (r_Cmp _ _)) ?_
 refine RK.V (op_gtr rfl rfl) ?_
 refine RK.M rfl ?_
 refine RK.split (t := 12) rfl (fun hg1 => ?_) (fun hg1 => ?_)
 ·have hg1_ := of_decide_eq_true hg1
  refine RK.skip (guard_no rfl rfl hg1) ?_
  refine RK.skip (guard_no rfl rfl hg1) ?_
  refine RK.V (op_pick_t rfl hg1 (rfl : _ = AV.p (.c _))) ?_
  refine RK.D ?_
  refine AWp_cond_true rfl rfl ?_
  refine AWp_sr hP ?_
  refine RK.V (op_build_st hT rfl rfl rfl (es := [_, _, _, _, _, _]) rfl) ?_
  refine RK.S hT rfl rfl rfl rfl rfl rfl rfl ?_
  refine RK.As rfl ?_
  refine RK.D ?_
  refine AWp_ret ?_
  refine ends_two rfl (.inr rfl) (res_cell_agg hT rfl rfl rfl rfl (cs := [_, _, _, _, _, _]) rfl rfl) (res_tmp rfl) ?_ O_ends
  exact Sub.of_eq (pr_no (.inl (cmpI_gt_zero.1 hg1_)))
 ·have hg1_ := of_decide_eq_false hg1
  refine RK.val (guard_yes rfl rfl hg1) (op_load_agg hT rfl rfl rfl rfl (cs := [_, _]) rfl rfl) ?_
  refine RK.val (guard_yes rfl rfl hg1) (Eff.call0 (r8_Square _ lz)) ?_
  refine RK.V (op_pick_f rfl hg1 (rfl : _ = AV.p (.c _))) ?_
  refine RK.D ?_
  refine AWp_cond rfl (fun hb2 => ?_) (fun hb2 => ?_)
  ·refine AWp_sr hP ?_
   refine RK.V (op_build_st hT rfl rfl rfl (es := [_, _, _, _, _, _]) rfl) ?_
   refine RK.S hT rfl rfl rfl rfl rfl rfl rfl ?_
   refine RK.As rfl ?_
   refine RK.D ?_
   refine AWp_ret ?_
   refine ends_two rfl (.inr rfl) (res_cell_agg hT rfl rfl rfl rfl (cs := [_, _, _, _, _, _]) rfl rfl) (res_tmp rfl) ?_ O_ends
   exact Sub.of_eq (pr_no (.inr hb2))
  ·refine AWp_skip ?_
   refine AWp_sr hP ?_
   refine RK.V (Eff.call0 (r_Of _ (by first | assumption | decide))) ?_
   refine RK.G2 hT rfl rfl rfl rfl rfl rfl ?_
   refine RK.G2 hT rfl rfl rfl rfl rfl rfl ?_
   refine RK.G2 hT rfl rfl rfl rfl rfl rfl ?_
   refine RK.V (Eff.call0 (r_Sub _ _ lz lz)) ?_
   refine RK.V (Eff.call0 (r_Of _ (by first | assumption | decide))) ?_
   refine RK.V (Eff.call0 (r_Div _ _ lz lz (by decide))) ?_
   refine RK.V (op_build_st hT rfl rfl rfl (es := [_, _, _, _, _, _]) rfl) ?_
   refine RK.S hT rfl rfl rfl rfl rfl rfl rfl ?_
   refine RK.As rfl ?_
   refine RK.D ?_
   refine AWp_ret ?_
   refine ends_two rfl (.inr rfl) (res_cell_agg hT rfl rfl rfl rfl (cs := [_, _, _, _, _, _]) rfl rfl) (res_tmp rfl) ?_ O_ends
   exact Sub.of_eq (by rw [pr_c]; exact pr_yes (fun x => hg1_ (cmpI_gt_zero.2 x)) hb2)
end Go.Proofs.YtpaifigafaijpaaGreatDoor
end

section
/- chapter 9: powers -/
namespace Go.Proofs.YtpaifigafaijpaaGreatDoor
open Go Go.AM
set_option maxRecDepth 100000
set_option maxHeartbeats 1000000
set_option maxHeartbeats 8000000 in
theorem co_raise (D : Int) (f o x : Fm) (n : Int) (hf : Cl D f) (ho : o = prP D) (hx : x = f.rd) (_h0 : 0 ≤ n) (hn : L 30 n) (hD : n = 0 ∨ -1000000000000000000 ≤ D) :
  Call0 Tryz.prog 171 [FA o.a o.b o.c, FA x.a x.b x.c, I n, .p (.c (.v (.func (.func 123) #[] #[])))] (FA (pw D f n.natAbs).a (pw D f n.natAbs).b (pw D f n.natAbs).c) := by
 subst ho hx
 have hbl := blen_gen hn
 refine callM_of (np := 0) Tryz.func171 (by kernel_rfl) rfl rfl (Nat.le_of_ble_eq_true rfl) (fun m h => absurd rfl h) (fun m h => absurd rfl h) rfl ?_
 refine AWp_sr hP ?_
 refine RK.alc guard_none (op_box rfl rfl) ?_
 refine RK.alc guard_none (op_box rfl rfl) ?_
 refine RK.alc guard_none (op_box rfl rfl) ?_
 refine RK.alc guard_none (op_alloc hT rfl rfl) ?_
 refine RK.D ?_
 refine AWp_seq ?_
 refine AWp_sr hP ?_
 refine RK.G2 hT rfl rfl rfl rfl rfl rfl ?_
 refine RK.V (Eff.call0 (int_Bits _)) ?_
 refine RK.M rfl ?_
 refine RK.D ?_
 refine AWp_block ?_
 refine AWp_loop (ι := Nat) (fun i => stL [(3, .p (.c (.v (.func (.func 123) #[] #[])))), (4, .loc 4 0), (5, .loc 5 0), (6, .loc 6 0), (8, .loc 8 0), (11, Z (blen n.natAbs : Nat)), (12, Z (i : Int))] [(4, ⟨false, 1, 53, FL (pw D f (n.natAbs % 2 ^ i)).a (pw D f (n.natAbs % 2 ^ i)).b (pw D f (n.natAbs % 2 ^ i)).c⟩), (5, ⟨false, 1, 53, FL (pw D f (2 ^ i)).a (pw D f (2 ^ i)).b (pw D f (2 ^ i)).c⟩), (6, ⟨false, 1, 36, [zn (n), zm (n)]⟩), (8, ⟨false, 1, 53, FL 0 0 0⟩)]) (fun i => i ≤ blen n.natAbs) (fun i => blen n.natAbs - i) 0 (Nat.zero_le _) (le_stL ⟨.refl _, .refl _, .refl _, .refl _, .refl _, .refl _, .refl _, trivial⟩ ⟨Eq.trans rfl (congrArg (fun x : Fm => some (⟨false, 1, 53, FL x.a x.b x.c⟩ : Blk)) (up_start.symm)), Eq.trans rfl (congrArg (fun x : Fm => some (⟨false, 1, 53, FL x.a x.b x.c⟩ : Blk)) ((pw_one hf).symm)), rfl, rfl, trivial⟩) ?_
 intro i hib
 refine AWp_sr hP ?_
 refine RK.V (op_lss rfl rfl) ?_
 refine RK.D ?_
 refine AWp_seq ?_
 refine AWp_cond rfl (fun hb1 => ?_) (fun hb1 => ?_)
 ·have hb1_ := of_decide_eq_true hb1
  have hi : i < blen n.natAbs := by omega
  have hlen := wl_len_bit hi
  have hD1 : -1000000000000000000 ≤ D := hD.resolve_left (fun e => by rw [e] at hi; exact absurd hi (by simp [blen]))
  obtain ⟨a1, a2, a3⟩ := red_L6 (pw_cl hf (n.natAbs % 2 ^ i)).1 (pw_cl hf (n.natAbs % 2 ^ i)).2 hD1
  obtain ⟨b1, b2, b3⟩ := red_L6 (pw_cl hf (2 ^ i)).1 (pw_cl hf (2 ^ i)).2 hD1
  refine AWp_skip ?_
  refine AWp_seq ?_
  refine AWp_block ?_
  refine AWp_sr hP ?_
  refine RK.M rfl ?_
  refine RK.As rfl ?_
  refine RK.D ?_
  refine AWp_seq_cut (ι := Unit) (fun _ => stL [(3, .p (.c (.v (.func (.func 123) #[] #[])))), (4, .loc 4 0), (5, .loc 5 0), (6, .loc 6 0), (8, .loc 8 0), (11, Z (blen n.natAbs : Nat)), (12, Z (i : Int))] [(4, ⟨false, 1, 53, FL (pw D f (n.natAbs % 2 ^ (i + 1))).a (pw D f (n.natAbs % 2 ^ (i + 1))).b (pw D f (n.natAbs % 2 ^ (i + 1))).c⟩), (5, ⟨false, 1, 53, FL (pw D f (2 ^ i)).a (pw D f (2 ^ i)).b (pw D f (2 ^ i)).c⟩), (6, ⟨false, 1, 36, [zn (n), zm (n)]⟩), (8, ⟨false, 1, 53, FL 0 0 0⟩)]) (fun _ => True) ?_ ?_
  ·refine AWp_sr hP ?_
   refine RK.F hT rfl rfl rfl rfl rfl rfl ?_
   refine RK.V (op_load_one hT rfl rfl rfl rfl (by first | rfl | exact vget (by omega))) ?_
   refine RK.M rfl ?_
   refine RK.V (op_quo rfl rfl (by decide) (c := ((i / 32 : Nat) : Int)) (by rw [Int.tdiv_eq_ediv_of_nonneg (by omega), IntWalk.i64_in _ (by omega)]; omega)) ?_
   refine RK.V (op_index_WN (n := i / 32) hT rfl rfl rfl rfl rfl rfl hlen) ?_
   refine RK.V (op_load_ip_one hT rfl rfl rfl (wget hlen)) ?_
   refine RK.M rfl ?_
   refine RK.V (op_rem rfl rfl (by decide) (c := ((i % 32 : Nat) : Int)) (by rw [Int.tmod_eq_emod_of_nonneg (by omega)]; omega)) ?_
   refine RK.V (op_shrN (j := i % 32) (m := (wl n.natAbs).getD (i / 32) 0) rfl rfl (by have := Nat.mod_lt i (show 32 > 0 by decide); show _ ≤ 32; omega)) ?_
   refine RK.V (op_andN (m := (wl n.natAbs).getD (i / 32) 0 / 2 ^ (i % 32)) (n := 1) rfl rfl rfl (lt32 (dig_lt _ _ _)) (by decide)) ?_
   refine RK.V (op_eql rfl rfl) ?_
   refine RK.D ?_
   refine AWp_cond rfl (fun hb2 => ?_) (fun hb2 => ?_)
   ·have hb2_ := bT hb2
    refine AWp_region hP ?_
    refine RK.M rfl ?_
    refine RK.G6 hT rfl rfl rfl rfl rfl rfl ?_
    refine RK.G6 hT rfl rfl rfl rfl rfl rfl ?_
    refine RK.V (Eff.callF rfl (co_productD D _ _ (pw_cl hf _).1 (pw_cl hf _).1 a1 a2 a3 b1 b2 b3)) ?_
    refine RK.S hT rfl rfl rfl rfl rfl rfl rfl ?_
    refine RK.D ?_
    refine ⟨(), trivial, le_stL ⟨.refl _, .refl _, .refl _, .refl _, .refl _, .refl _, .refl _, trivial⟩ ⟨Eq.trans rfl (congrArg (fun x : Fm => some (⟨false, 1, 53, FL x.a x.b x.c⟩ : Blk)) (up_yes hf (bit_yes hb2))), rfl, rfl, rfl, trivial⟩⟩
   ·have hb2_ := bF hb2
    refine AWp_skip ?_
    refine ⟨(), trivial, le_stL ⟨.refl _, .refl _, .refl _, .refl _, .refl _, .refl _, .refl _, trivial⟩ ⟨Eq.trans rfl (congrArg (fun x : Fm => some (⟨false, 1, 53, FL x.a x.b x.c⟩ : Blk)) (up_no (bit_no hb2))), rfl, rfl, rfl, trivial⟩⟩
  intro _ _
  refine AWp_region hP ?_
  refine RK.M rfl ?_
  refine RK.G6 hT rfl rfl rfl rfl rfl rfl ?_
  refine RK.G6 hT rfl rfl rfl rfl rfl rfl ?_
  refine RK.V (Eff.callF rfl (co_productD D _ _ (pw_cl hf _).1 (pw_cl hf _).1 b1 b2 b3 b1 b2 b3)) ?_
  refine RK.S hT rfl rfl rfl rfl rfl rfl rfl ?_
  refine RK.D ?_
  refine AWp_region hP ?_
  refine RK.V (op_add rfl rfl (by first | exact IntWalk.i64_in _ (by omega) | rfl)) ?_
  refine RK.M rfl ?_
  refine RK.D ?_
  refine ⟨i + 1, by omega, by omega, le_stL ⟨.refl _, .refl _, .refl _, .refl _, .refl _, .refl _, Sub.int (by omega), trivial⟩ ⟨rfl, Eq.trans rfl (congrArg (fun x : Fm => some (⟨false, 1, 53, FL x.a x.b x.c⟩ : Blk)) (up_sq hf i)), rfl, rfl, trivial⟩⟩
 ·have hb1_ := of_decide_eq_false hb1
  refine AWp_exit ?_
  refine AWp_sr hP ?_
  refine RK.G6 hT rfl rfl rfl rfl rfl rfl ?_
  refine RK.S hT rfl rfl rfl rfl rfl rfl rfl ?_
  refine RK.D ?_
  refine AWp_ret ?_
  refine ends_one rfl (.inr rfl) (res_cell_agg hT rfl rfl rfl rfl (cs := [_, _, _, _, _, _]) rfl rfl) ?_ O_ends
  exact Sub.of_eq (by rw [show i = blen n.natAbs by omega, up_end])
set_option maxHeartbeats 4000000 in
theorem co_power (f : Fm) (n : Int) (hf : Cl (dsc f.a f.b f.c) f) (hfa : L 6 f.a) (hfb : L 6 f.b) (hfc : L 6 f.c) (hn : L 20 n) (hD : n = 0 ∨ -1000000000000000000 ≤ (dsc f.a f.b f.c)) :
  Call0 Tryz.prog 117 [FA f.a f.b f.c, I n] (FA (zpw (dsc f.a f.b f.c) f n).a (zpw (dsc f.a f.b f.c) f n).b (zpw (dsc f.a f.b f.c) f n).c) := by
 have ifa : LB f.a 6 := ⟨hfa⟩
 have ifb : LB f.b 6 := ⟨hfb⟩
 have ifc : LB f.c 6 := ⟨hfc⟩
 have in_ : LB n 20 := ⟨hn⟩
 refine callM_of (np := 0) Tryz.func117 (by kernel_rfl) rfl rfl (Nat.le_of_ble_eq_true rfl) (fun m h => absurd rfl h) (fun m h => absurd rfl h) rfl ?_
 refine AWp_sr hP ?_
 refine RK.alc guard_none (op_box rfl rfl) ?_
 refine RK.alc guard_none (op_box rfl rfl) ?_
 refine RK.alc guard_none (op_alloc hT rfl rfl) ?_
 refine RK.D ?_
 refine AWp_seq_cut (ι := Fm × Int) (fun p => stL [(2, .loc 2 0), (3, .loc 3 0), (4, .loc 4 0)] [(2, ⟨false, 1, 53, FL p.1.a p.1.b p.1.c⟩), (3, ⟨false, 1, 36, [zn (p.2), zm (p.2)]⟩), (4, ⟨false, 1, 53, FL 0 0 0⟩)]) (fun p => SgI f n p) ?_ ?_
 ·refine AWp_sr hP ?_
  refine RK.F hT rfl rfl rfl rfl rfl rfl ?_
  refine RK.V (op_load_one hT rfl rfl rfl rfl (by first | rfl | exact vget (by omega))) ?_
  refine RK.D ?_
  refine AWp_cond rfl (fun hb1 => ?_) (fun hb1 => ?_)
  ·refine AWp_region hP ?_
   refine RK.F hT rfl rfl rfl rfl rfl rfl ?_
   refine RK.G2 hT rfl rfl rfl rfl rfl rfl ?_
   refine RK.V (Eff.call0 (int_Neg _)) ?_
   refine RK.G2 hT rfl rfl rfl rfl rfl rfl ?_
   refine RK.V (Eff.call0 (int_Neg _)) ?_
   refine RK.F hT rfl rfl rfl rfl rfl rfl ?_
   refine RK.S hT rfl rfl rfl rfl rfl rfl rfl ?_
   refine RK.S hT rfl rfl rfl rfl rfl rfl rfl ?_
   refine RK.D ?_
   refine ⟨(f.mi, -n), .inl ⟨of_decide_eq_true hb1, rfl, rfl⟩, le_stL ⟨.refl _, .refl _, .refl _, trivial⟩ ⟨rfl, rfl, rfl, trivial⟩⟩
  ·refine AWp_skip ?_
   refine ⟨(f, n), .inr ⟨of_decide_eq_false hb1, rfl, rfl⟩, le_stL ⟨.refl _, .refl _, .refl _, trivial⟩ ⟨rfl, rfl, rfl, trivial⟩⟩
 rintro p hS
 obtain ⟨hcl, hz, hp0, hpn⟩ := hS.cl hf
 obtain ⟨l1, l2, l3⟩ := hS.L hfa hfb hfc
 have j1 : LB p.1.a 6 := ⟨l1⟩
 have j2 : LB p.1.b 6 := ⟨l2⟩
 have j3 : LB p.1.c 6 := ⟨l3⟩
 have j4 : L 30 p.2 := L.of_le (hn.mono (by decide)) (by omega)
 have j5 : LB p.2 30 := ⟨j4⟩
 have hbl := blen_gen j4
 have ho : prF (dsc p.1.a p.1.b p.1.c) = prP (dsc f.a f.b f.c) := by rw [hcl.disc]; exact (prF_prP hf).1
 have hD2 : p.2 = 0 ∨ -1000000000000000000 ≤ (dsc f.a f.b f.c) := hD.imp (fun e => by omega) (fun e => e)
 refine AWp_sr hP ?_
 refine RK.G6 hT rfl rfl rfl rfl rfl rfl ?_
 refine RK.V (Eff.call0 (co_principal _ _ _ lz lz lz)) ?_
 refine RK.G6 hT rfl rfl rfl rfl rfl rfl ?_
 refine RK.V (Eff.call0 (co_reduced _ _ _ lz lz lz)) ?_
 refine RK.G2 hT rfl rfl rfl rfl rfl rfl ?_
 refine RK.V (Eff.call0 (co_raise (dsc f.a f.b f.c) p.1 _ _ p.2 hcl ho rfl hp0 j4 hD2)) ?_
 refine RK.S hT rfl rfl rfl rfl rfl rfl rfl ?_
 refine RK.D ?_
 refine AWp_ret ?_
 refine ends_one rfl (.inr rfl) (res_cell_agg hT rfl rfl rfl rfl (cs := [_, _, _, _, _, _]) rfl rfl) ?_ O_ends
 exact Sub.of_eq (by rw [hz])
theorem co_Power (f : Fm) (n : Int) (hfa : L 6 f.a) (hfb : L 6 f.b) (hfc : L 6 f.c) (hn : L 20 n) (hD : rfE f = 0 → n = 0 ∨ -1000000000000000000 ≤ (dsc f.a f.b f.c)) :
  Call0 Tryz.prog 112 [FA f.a f.b f.c, I n] (.t [PF (pwV f n), PE (rfE f)]) := by
 have ifa : LB f.a 6 := ⟨hfa⟩
 have ifb : LB f.b 6 := ⟨hfb⟩
 have ifc : LB f.c 6 := ⟨hfc⟩
 have in_ : LB n 20 := ⟨hn⟩
 refine callM_of (np := 0) Tryz.func112 (by kernel_rfl) rfl rfl (Nat.le_of_ble_eq_true rfl) (fun m h => absurd rfl h) (fun m h => absurd rfl h) rfl ?_
 refine AWp_sr hP ?_
 refine RK.alc guard_none (op_box rfl rfl) ?_
 refine RK.alc guard_none (op_box rfl rfl) ?_
 refine RK.alc guard_none (op_alloc hT rfl rfl) ?_
 refine RK.As rfl ?_
 refine RK.D ?_
 refine AWp_seq ?_
 refine AWp_sr hP ?_
 refine RK.G6 hT rfl rfl rfl rfl rfl rfl ?_
 refine RK.V (Eff.call0 (co_refused _ _ _ lz lz lz)) ?_
 refine RK.As rfl ?_
 refine RK.D ?_
 refine AWp_sr hP ?_
 refine RK.M rfl ?_
 refine RK.V (op_neq rfl rfl) ?_
 refine RK.D ?_
 refine AWp_cond rfl (fun hb1 => ?_) (fun hb1 => ?_)
 ·have hb1_ := bneT hb1
  refine AWp_sr hP ?_
  refine RK.V (op_build_st hT rfl rfl rfl (es := [_, _, _, _, _, _]) rfl) ?_
  refine RK.M rfl ?_
  refine RK.S hT rfl rfl rfl rfl rfl rfl rfl ?_
  refine RK.As rfl ?_
  refine RK.D ?_
  refine AWp_ret ?_
  refine ends_two rfl (.inr rfl) (res_cell_agg hT rfl rfl rfl rfl (cs := [_, _, _, _, _, _]) rfl rfl) (res_tmp rfl) ?_ O_ends
  exact Sub.of_eq (pw_err hb1_)
 ·have hb1_ := bneF hb1
  have h0 : rfE f = 0 := hb1_
  refine AWp_skip ?_
  refine AWp_sr hP ?_
  refine RK.G6 hT rfl rfl rfl rfl rfl rfl ?_
  refine RK.G2 hT rfl rfl rfl rfl rfl rfl ?_
  refine RK.V (Eff.call0 (co_power f n (rfE_cl h0) hfa hfb hfc hn (hD h0))) ?_
  refine RK.S hT rfl rfl rfl rfl rfl rfl rfl ?_
  refine RK.As rfl ?_
  refine RK.D ?_
  refine AWp_ret ?_
  refine ends_two rfl (.inr rfl) (res_cell_agg hT rfl rfl rfl rfl (cs := [_, _, _, _, _, _]) rfl rfl) (res_tmp rfl) ?_ O_ends
  exact Sub.of_eq (pw_ok h0)
end Go.Proofs.YtpaifigafaijpaaGreatDoor
end

section
/- chapter 9: orders -/
namespace Go.Proofs.YtpaifigafaijpaaGreatDoor
open Go Go.AM
set_option maxRecDepth 100000
set_option maxHeartbeats 1000000
theorem co_ends (f o : Fm) (k : Int) (hf : Cl (dsc f.a f.b f.c) f) (hfa : L 6 f.a) (hfb : L 6 f.b) (hfc : L 6 f.c) (ho : o = prP (dsc f.a f.b f.c)) (hk : InI64 k) (hD : -1000000000000000000 ≤ (dsc f.a f.b f.c)) :
  Call0 Tryz.prog 115 [Z k, .ip (FL f.a f.b f.c), .ip (FL o.a o.b o.c)] (B (decide (zpw (dsc f.a f.b f.c) f k = prP (dsc f.a f.b f.c)))) := by
 subst ho
 have ik : L 20 k := (show L 6 k by unfold L; unfold InI64 at hk; omega).mono (by decide)
 refine callM_of (np := 0) Tryz.func115 (by kernel_rfl) rfl rfl (Nat.le_of_ble_eq_true rfl) (fun m h => absurd rfl h) (fun m h => absurd rfl h) rfl ?_
 refine AWp_sr hP ?_
 refine RK.As rfl ?_
 refine RK.D ?_
 refine AWp_sr hP ?_
 refine RK.V (op_load_ip_agg hT rfl rfl rfl (cs := [_, _, _, _, _, _]) rfl rfl) ?_
 refine RK.M rfl ?_
 refine RK.V (Eff.call0 (co_of _ hk)) ?_
 refine RK.V (Eff.call0 (co_power f k hf hfa hfb hfc ik (.inr hD))) ?_
 refine RK.V (op_load_ip_agg hT rfl rfl rfl (cs := [_, _, _, _, _, _]) rfl rfl) ?_
 refine RK.V (Eff.call0 (co_equal _ _ _ _ _ _)) ?_
 refine RK.As rfl ?_
 refine RK.D ?_
 refine AWp_ret ?_
 refine ends_one rfl (.inr rfl) (res_tmp rfl) ?_ O_ends
 exact Sub.bool (by rw [Bool.eq_iff_iff, decide_eq_true_iff, decide_eq_true_iff]; exact fm_eq)
set_option maxHeartbeats 8000000 in
theorem co_Order (f : Fm) (h : Int) (hfa : L 6 f.a) (hfb : L 6 f.b) (hfc : L 6 f.c) (hh : -1000000000 ≤ h ∧ h ≤ 1000000000) (hDr : rfE f = 0 → -1000000000000000000 ≤ (dsc f.a f.b f.c)) :
  Call0 Tryz.prog 48 [FA f.a f.b f.c, Z h] (.t [PE (orV f h), PE (orE f h)]) := by
 have ifa : LB f.a 6 := ⟨hfa⟩
 have ifb : LB f.b 6 := ⟨hfb⟩
 have ifc : LB f.c 6 := ⟨hfc⟩
 have jh : InI64 h := by unfold InI64; omega
 refine callM_of (np := 0) Tryz.func48 (by kernel_rfl) rfl rfl (Nat.le_of_ble_eq_true rfl) (fun m h => absurd rfl h) (fun m h => absurd rfl h) rfl ?_
 refine AWp_sr hP ?_
 refine RK.alc guard_none (op_box rfl rfl) ?_
 refine RK.As rfl ?_
 refine RK.As rfl ?_
 refine RK.D ?_
 refine AWp_seq ?_
 refine AWp_sr hP ?_
 refine RK.G6 hT rfl rfl rfl rfl rfl rfl ?_
 refine RK.V (Eff.call0 (co_refused _ _ _ lz lz lz)) ?_
 refine RK.As rfl ?_
 refine RK.D ?_
 refine AWp_sr hP ?_
 refine RK.M rfl ?_
 refine RK.V (op_neq rfl rfl) ?_
 refine RK.D ?_
 refine AWp_cond rfl (fun hb1 => ?_) (fun hb1 => ?_)
 ·have hb1_ := bneT hb1
  refine AWp_sr hP ?_
  refine RK.M rfl ?_
  refine RK.As rfl ?_
  refine RK.As rfl ?_
  refine RK.D ?_
  refine AWp_ret ?_
  refine ends_two rfl (.inr rfl) (res_tmp rfl) (res_tmp rfl) ?_ O_ends
  exact Sub.of_eq (or_err hb1_)
 ·have hb1_ := bneF hb1
  have h0 : rfE f = 0 := hb1_
  have cl := rfE_cl h0
  have hD1 := hDr h0
  have hpr : prF (dsc f.a f.b f.c) = prP (dsc f.a f.b f.c) := (prF_prP cl).1
  refine AWp_skip ?_
  refine AWp_sr hP ?_
  refine RK.G6 hT rfl rfl rfl rfl rfl rfl ?_
  refine RK.V (Eff.call0 (co_principal _ _ _ lz lz lz)) ?_
  refine RK.alc guard_none (op_alloc hT rfl rfl) ?_
  refine RK.S hT rfl rfl rfl rfl rfl rfl rfl ?_
  refine RK.D ?_
  refine AWp_freezeBox (t := 2) rfl rfl ?_
  refine AWp_freezeBox (t := 7) rfl rfl ?_
  refine AWp_sr hP ?_
  refine RK.V (op_makeFunc2 rfl rfl) ?_
  refine RK.V (op_assign (rfl : _ = AV.fn _ _)) ?_
  refine RK.D ?_
  refine AWp_seq ?_
  refine AWp_sr hP ?_
  refine RK.M rfl ?_
  refine RK.V (op_lss rfl rfl) ?_
  refine RK.M rfl ?_
  refine RK.split (t := 21) rfl (fun hg2 => ?_) (fun hg2 => ?_)
  ·have hg2_ := of_decide_eq_true hg2
   refine RK.skip (guard_no rfl rfl hg2) ?_
   refine RK.skip (guard_no rfl rfl hg2) ?_
   refine RK.skip (guard_no rfl rfl hg2) ?_
   refine RK.skip (guard_no rfl rfl hg2) ?_
   refine RK.V (op_pick_t rfl hg2 (rfl : _ = AV.p (.c _))) ?_
   refine RK.D ?_
   refine AWp_cond_true rfl rfl ?_
   refine AWp_sr hP ?_
   refine RK.As rfl ?_
   refine RK.As rfl ?_
   refine RK.D ?_
   refine AWp_ret ?_
   refine ends_two rfl (.inr rfl) (res_tmp rfl) (res_tmp rfl) ?_ O_ends
   exact Sub.of_eq (or_no h0 (orB_lt hg2))
  ·have hg2_ := of_decide_eq_false hg2
   refine RK.val (guard_yes rfl rfl hg2) (op_move (rfl : _ = AV.fn _ _)) ?_
   refine RK.val (guard_yes rfl rfl hg2) (op_move (rfl : _ = AV.p (.c _))) ?_
   refine RK.val (guard_yes rfl rfl hg2) (Eff.callC rfl (co_ends f _ h cl hfa hfb hfc hpr jh hD1)) ?_
   refine RK.val (guard_yes rfl rfl hg2) (op_unot rfl) ?_
   refine RK.V (op_pick_f rfl hg2 (rfl : _ = AV.p (.c _))) ?_
   refine RK.D ?_
   refine AWp_cond rfl (fun hb3 => ?_) (fun hb3 => ?_)
   ·have hb3_ := (notT hb3)
    refine AWp_sr hP ?_
    refine RK.As rfl ?_
    refine RK.As rfl ?_
    refine RK.D ?_
    refine AWp_ret ?_
    refine ends_two rfl (.inr rfl) (res_tmp rfl) (res_tmp rfl) ?_ O_ends
    exact Sub.of_eq (or_no h0 (orB_ne hb3))
   ·have hb3_ := (notF hb3)
    have hB := orB_mk hg2 hb3
    have g1 := (orB_ord hB).1
    have g2 := (orB_ord hB).2
    refine (Ord.ex (n := h.toNat) (by omega) g2).elim (fun o hoo => ?_)
    have hO := hoo.1
    have hle := hoo.2
    have hdv := (hO.iff cl h.toNat).1 g2
    refine AWp_skip ?_
    refine AWp_seq ?_
    refine AWp_sr hP ?_
    refine RK.M rfl ?_
    refine RK.As rfl ?_
    refine RK.As rfl ?_
    refine RK.D ?_
    refine AWp_block ?_
    refine AWp_loop (ι := Nat × Nat × Nat) (fun p => stL [(1, Z (p.1 : Int)), (8, .fn 115 [FL f.a f.b f.c, FL (prF (dsc f.a f.b f.c)).a (prF (dsc f.a f.b f.c)).b (prF (dsc f.a f.b f.c)).c]), (9, Z (p.2.2 : Int)), (10, Z (p.2.1 : Int))] []) (fun p => OrI o p.1 p.2.1 p.2.2 ∧ (p.2.1 = 1 ∨ p.2.2 ≤ p.2.1) ∧ p.1 ≤ 1000000000 ∧ p.2.1 ≤ 1000000000) (fun p => orM p.2.1 p.2.2) (h.toNat, h.toNat, 2) ⟨OrI.start (by omega) hdv, by simp only; omega, by simp only; omega, by simp only; omega⟩ (le_stL ⟨Sub.int (by simp only; omega), .refl _, .refl _, Sub.int (by simp only; omega), trivial⟩ trivial) ?_
    rintro p ⟨i, hdm0, hb1p, hb2p⟩
    have d22 := i.d2
    refine AWp_seq ?_
    refine AWp_sr hP ?_
    refine RK.M rfl ?_
    refine RK.V (op_gtr rfl rfl) ?_
    refine RK.D ?_
    refine AWp_cond rfl (fun hb4 => ?_) (fun hb4 => ?_)
    ·have hb4_ := of_decide_eq_true hb4
     have hm1 : 1 < p.2.1 := by omega
     have hdm : p.2.2 ≤ p.2.1 := by omega
     refine AWp_skip ?_
     refine AWp_seq ?_
     refine AWp_block ?_
     refine AWp_seq_cut (ι := Nat) (fun d1 => stL [(1, Z (p.1 : Int)), (8, .fn 115 [FL f.a f.b f.c, FL (prF (dsc f.a f.b f.c)).a (prF (dsc f.a f.b f.c)).b (prF (dsc f.a f.b f.c)).c]), (9, Z (d1 : Int)), (10, Z (p.2.1 : Int))] []) (fun d1 => OrI o p.1 p.2.1 d1 ∧ d1 ≤ p.2.1 ∧ p.2.2 ≤ d1) ?_ ?_
     ·refine AWp_sr hP ?_
      refine RK.M rfl ?_
      refine RK.M rfl ?_
      refine RK.M rfl ?_
      refine RK.V (op_quo rfl rfl (by omega) (c := ((p.2.1 / p.2.2 : Nat) : Int)) (quoN (by omega) (by omega))) ?_
      refine RK.V (op_gtr rfl rfl) ?_
      refine RK.D ?_
      refine AWp_cond rfl (fun hb5 => ?_) (fun hb5 => ?_)
      ·have hb5_ := of_decide_eq_true hb5
       refine AWp_region hP ?_
       refine RK.M rfl ?_
       refine RK.As rfl ?_
       refine RK.D ?_
       refine ⟨p.2.1, ⟨i.jump (lt_sq (by have := i.d2; omega) hb5_) hm1, Nat.le_refl _, hdm⟩, le_stL ⟨.refl _, .refl _, .refl _, .refl _, trivial⟩ trivial⟩
      ·have hb5_ := of_decide_eq_false hb5
       refine AWp_skip ?_
       refine ⟨p.2.2, ⟨i, hdm, Nat.le_refl _⟩, le_stL ⟨.refl _, .refl _, .refl _, .refl _, trivial⟩ trivial⟩
     rintro d1 ⟨i1, hd1, hd2⟩
     have d12 := i1.d2
     refine AWp_block ?_
     refine AWp_loop (ι := Nat × Nat) (fun r => stL [(1, Z (r.1 : Int)), (8, .fn 115 [FL f.a f.b f.c, FL (prF (dsc f.a f.b f.c)).a (prF (dsc f.a f.b f.c)).b (prF (dsc f.a f.b f.c)).c]), (9, Z (d1 : Int)), (10, Z (r.2 : Int))] []) (fun r => OrI o r.1 r.2 d1 ∧ r.2 ≤ p.2.1 ∧ r.1 ≤ 1000000000) (fun r => r.2) (p.1, p.2.1) ⟨i1, Nat.le_refl _, hb1p⟩ (le_stL ⟨.refl _, .refl _, .refl _, .refl _, trivial⟩ trivial) ?_
     rintro r ⟨j, hr2, hr1⟩
     refine AWp_seq ?_
     refine AWp_sr hP ?_
     refine RK.M rfl ?_
     refine RK.M rfl ?_
     refine RK.V (op_rem rfl rfl (by omega) (c := ((r.2 % d1 : Nat) : Int)) remN) ?_
     refine RK.V (op_eql rfl rfl) ?_
     refine RK.D ?_
     refine AWp_cond rfl (fun hb6 => ?_) (fun hb6 => ?_)
     ·have hb6_ := bT hb6
      have hdvd := dvd_of_rem hb6_
      have q1 := Nat.div_le_self r.1 d1
      have v1 := (j.div hdvd).1
      have v2 := (j.div hdvd).2.1
      have v4 := (j.div hdvd).2.2.2
      have jq : InI64 ((r.1 / d1 : Nat) : Int) := natI64 (Nat.le_trans q1 hr1)
      refine AWp_skip ?_
      refine AWp_block ?_
      refine AWp_sr hP ?_
      refine RK.M rfl ?_
      refine RK.M rfl ?_
      refine RK.V (op_quo rfl rfl (by omega) (c := ((r.2 / d1 : Nat) : Int)) (quoN (by omega) (by omega))) ?_
      refine RK.As rfl ?_
      refine RK.D ?_
      refine AWp_sr hP ?_
      refine RK.V (op_move (rfl : _ = AV.fn _ _)) ?_
      refine RK.M rfl ?_
      refine RK.M rfl ?_
      refine RK.V (op_quo rfl rfl (by omega) (c := ((r.1 / d1 : Nat) : Int)) (quoN (by omega) (by omega))) ?_
      refine RK.V (Eff.callC rfl (co_ends f _ _ cl hfa hfb hfc hpr jq hD1)) ?_
      refine RK.D ?_
      refine AWp_cond rfl (fun hb7 => ?_) (fun hb7 => ?_)
      ·refine AWp_region hP ?_
       refine RK.M rfl ?_
       refine RK.M rfl ?_
       refine RK.V (op_quo rfl rfl (by omega) (c := ((r.1 / d1 : Nat) : Int)) (quoN (by omega) (by omega))) ?_
       refine RK.As rfl ?_
       refine RK.D ?_
       refine ⟨(r.1 / d1, r.2 / d1), ⟨v1 (ord_dvd hO cl hb7), by simp only; omega, by simp only; omega⟩, v4, le_stL ⟨.refl _, .refl _, .refl _, .refl _, trivial⟩ trivial⟩
      ·refine AWp_skip ?_
       refine ⟨(r.1, r.2 / d1), ⟨v2 (ord_ndvd hO cl hb7), by simp only; omega, hr1⟩, v4, le_stL ⟨.refl _, .refl _, .refl _, .refl _, trivial⟩ trivial⟩
     ·have hb6_ := bF hb6
      have hnd := j.next (ndvd_of_rem hb6_)
      refine AWp_exit ?_
      refine AWp_region hP ?_
      refine RK.M rfl ?_
      refine RK.V (op_add rfl rfl (by first | exact IntWalk.i64_in _ (by omega) | rfl)) ?_
      refine RK.As rfl ?_
      refine RK.D ?_
      refine ⟨(r.1, r.2, d1 + 1), ⟨hnd.1, hnd.2, by simp only; omega, by simp only; omega⟩, orM_lt hm1 hdm hd2 hr2 hnd.2, le_stL ⟨.refl _, .refl _, Sub.int (by simp only; omega), .refl _, trivial⟩ trivial⟩
    ·have hb4_ := of_decide_eq_false hb4
     refine AWp_exit ?_
     refine AWp_sr hP ?_
     refine RK.M rfl ?_
     refine RK.As rfl ?_
     refine RK.As rfl ?_
     refine RK.D ?_
     refine AWp_ret ?_
     refine ends_two rfl (.inr rfl) (res_tmp rfl) (res_tmp rfl) ?_ O_ends
     have hfin := i.fin (by omega)
     exact Sub.of_eq (by rw [hfin]; exact or_yes h0 hB hO)
end Go.Proofs.YtpaifigafaijpaaGreatDoor
end

section
/- chapter 9: roots -/
namespace Go.Proofs.YtpaifigafaijpaaGreatDoor
open Go Go.AM
set_option maxRecDepth 100000
set_option maxHeartbeats 1000000
theorem r9_SameList (l m : List Fm) (hl : (l.length : Int) ≤ 1000000000) :
  Call0 Tryz.prog 52 [.p (.c (FS l)), .p (.c (FS m))] (B (decide (l = m))) := by
 refine callM_of (np := 0) Tryz.func52 (by kernel_rfl) rfl rfl (Nat.le_of_ble_eq_true rfl) (fun m h => absurd rfl h) (fun m h => absurd rfl h) rfl ?_
 refine AWp_sr hP ?_
 refine RK.As rfl ?_
 refine RK.D ?_
 refine AWp_seq ?_
 refine AWp_sr hP ?_
 refine RK.M rfl ?_
 refine RK.V (op_len hT rfl rfl rfl (by rfl)) ?_
 refine RK.M rfl ?_
 refine RK.V (op_len hT rfl rfl rfl (by rfl)) ?_
 refine RK.V (op_neq rfl rfl) ?_
 refine RK.D ?_
 refine AWp_cond rfl (fun hb1 => ?_) (fun hb1 => ?_)
 ·have hb1_ := bneT hb1
  refine AWp_sr hP ?_
  refine RK.As rfl ?_
  refine RK.D ?_
  refine AWp_ret ?_
  refine ends_one rfl (.inr rfl) (res_tmp rfl) ?_ O_ends
  exact Sub.bool (len_ne hb1_)
 ·have hb1_ := bneF hb1
  refine AWp_skip ?_
  refine AWp_seq ?_
  refine AWp_sr hP ?_
  refine RK.As rfl ?_
  refine RK.D ?_
  refine AWp_block ?_
  refine AWp_loop (ι := Nat) (fun k => stL [(0, .p (.c (FS l))), (1, .p (.c (FS m))), (5, Z (k : Int))] []) (fun k => SmI l m k) (fun k => l.length - k) 0 (SmI.start l m) (le_stL ⟨.refl _, .refl _, .refl _, trivial⟩ trivial) ?_
  intro k hI
  have hk := hI.k1
  refine AWp_seq ?_
  refine AWp_sr hP ?_
  refine RK.M rfl ?_
  refine RK.M rfl ?_
  refine RK.V (op_len hT rfl rfl rfl (by rfl)) ?_
  refine RK.V (op_lss rfl rfl) ?_
  refine RK.D ?_
  refine AWp_cond rfl (fun hb2 => ?_) (fun hb2 => ?_)
  ·have hb2_ := of_decide_eq_true hb2
   refine AWp_skip ?_
   refine AWp_seq ?_
   refine AWp_block ?_
   refine AWp_sr hP ?_
   refine RK.M rfl ?_
   refine RK.M rfl ?_
   refine RK.V (op_indexF hT rfl rfl rfl rfl rfl rfl (by omega)) ?_
   refine RK.V (op_load_ip_agg hT rfl rfl rfl (cs := FC (l.getD k ⟨0, 0, 0⟩)) rfl rfl) ?_
   refine RK.M rfl ?_
   refine RK.M rfl ?_
   refine RK.V (op_indexF hT rfl rfl rfl rfl rfl rfl (by omega)) ?_
   refine RK.V (op_load_ip_agg hT rfl rfl rfl (cs := FC (m.getD k ⟨0, 0, 0⟩)) rfl rfl) ?_
   refine RK.V (Eff.call0 (r8_Equal ((l.getD k ⟨0, 0, 0⟩)).a ((l.getD k ⟨0, 0, 0⟩)).b ((l.getD k ⟨0, 0, 0⟩)).c (m.getD k ⟨0, 0, 0⟩).a (m.getD k ⟨0, 0, 0⟩).b (m.getD k ⟨0, 0, 0⟩).c)) ?_
   refine RK.V (op_unot rfl) ?_
   refine RK.D ?_
   refine AWp_cond rfl (fun hb3 => ?_) (fun hb3 => ?_)
   ·have hb3_ := (notT hb3)
    refine AWp_sr hP ?_
    refine RK.As rfl ?_
    refine RK.D ?_
    refine AWp_ret ?_
    refine ends_one rfl (.inr rfl) (res_tmp rfl) ?_ O_ends
    exact Sub.bool (SmI.no (l := l) (m := m) (k := k) (notT hb3))
   ·have hb3_ := (notF hb3)
    refine AWp_skip ?_
    refine AWp_region hP ?_
    refine RK.M rfl ?_
    refine RK.V (op_add rfl rfl (by first | exact IntWalk.i64_in _ (by omega) | rfl)) ?_
    refine RK.As rfl ?_
    refine RK.D ?_
    refine ⟨k + 1, hI.next (by omega) (notF hb3), by omega, le_stL ⟨.refl _, .refl _, Sub.int (by omega), trivial⟩ trivial⟩
  ·have hb2_ := of_decide_eq_false hb2
   refine AWp_exit ?_
   refine AWp_sr hP ?_
   refine RK.As rfl ?_
   refine RK.D ?_
   refine AWp_ret ?_
   refine ends_one rfl (.inr rfl) (res_tmp rfl) ?_ O_ends
   exact Sub.bool (hI.yes hb1_ hb2_)
theorem l_product (f g : Fm) (hfa : L 6 f.a) (hfb : L 6 f.b) (hfc : L 6 f.c) (hga : L 6 g.a) (hgb : L 6 g.b) (hgc : L 6 g.c) :
  Call0 Tryz.prog 46 [FA f.a f.b f.c, FA g.a g.b g.c] (.p (.a (FL (cmV f g).a (cmV f g).b (cmV f g).c ++ [.v (.int .i64 (cmE f g))]))) := by
 refine callM_of (np := 0) Tryz.func46 (by kernel_rfl) rfl rfl (Nat.le_of_ble_eq_true rfl) (fun m h => absurd rfl h) (fun m h => absurd rfl h) rfl ?_
 refine AWp_sr hP ?_
 refine RK.alc guard_none (op_box rfl rfl) ?_
 refine RK.alc guard_none (op_box rfl rfl) ?_
 refine RK.alc guard_none (op_alloc hT rfl rfl) ?_
 refine RK.D ?_
 refine AWp_sr hP ?_
 refine RK.G6 hT rfl rfl rfl rfl rfl rfl ?_
 refine RK.G6 hT rfl rfl rfl rfl rfl rfl ?_
 refine RK.V (Eff.call0 (co_Compose _ _ hfa hfb hfc hga hgb hgc)) ?_
 refine RK.V (op_move (rfl : _ = AV.t _)) ?_
 refine RK.V (op_extract rfl (v := .a _) rfl) ?_
 refine RK.V (op_extract rfl (v := .c _) rfl) ?_
 refine RK.alc guard_none (op_alloc hT rfl rfl) ?_
 refine RK.S hT rfl rfl rfl rfl rfl rfl rfl ?_
 refine RK.As rfl ?_
 refine RK.D ?_
 refine AWp_sr hP ?_
 refine RK.G6 hT rfl rfl rfl rfl rfl rfl ?_
 refine RK.M rfl ?_
 refine RK.V (op_build_st hT rfl rfl rfl (es := [_, _, _, _, _, _, _]) rfl) ?_
 refine RK.S hT rfl rfl rfl rfl rfl rfl rfl ?_
 refine RK.D ?_
 refine AWp_ret ?_
 refine ends_one rfl (.inr rfl) (res_cell_agg hT rfl rfl rfl rfl (cs := [_, _, _, _, _, _, _]) rfl rfl) ?_ O_ends
 exact .refl _
theorem l_power (f : Fm) (n : Int) (hfa : L 6 f.a) (hfb : L 6 f.b) (hfc : L 6 f.c) (hn : L 20 n) (hD : rfE f = 0 → n = 0 ∨ -1000000000000000000 ≤ (dsc f.a f.b f.c)) :
  Call0 Tryz.prog 47 [FA f.a f.b f.c, I n] (.p (.a (FL (pwV f n).a (pwV f n).b (pwV f n).c ++ [.v (.int .i64 (rfE f))]))) := by
 refine callM_of (np := 0) Tryz.func47 (by kernel_rfl) rfl rfl (Nat.le_of_ble_eq_true rfl) (fun m h => absurd rfl h) (fun m h => absurd rfl h) rfl ?_
 refine AWp_sr hP ?_
 refine RK.alc guard_none (op_box rfl rfl) ?_
 refine RK.alc guard_none (op_box rfl rfl) ?_
 refine RK.alc guard_none (op_alloc hT rfl rfl) ?_
 refine RK.D ?_
 refine AWp_sr hP ?_
 refine RK.G6 hT rfl rfl rfl rfl rfl rfl ?_
 refine RK.G2 hT rfl rfl rfl rfl rfl rfl ?_
 refine RK.V (Eff.call0 (co_Power _ _ hfa hfb hfc hn hD)) ?_
 refine RK.V (op_move (rfl : _ = AV.t _)) ?_
 refine RK.V (op_extract rfl (v := .a _) rfl) ?_
 refine RK.V (op_extract rfl (v := .c _) rfl) ?_
 refine RK.alc guard_none (op_alloc hT rfl rfl) ?_
 refine RK.S hT rfl rfl rfl rfl rfl rfl rfl ?_
 refine RK.As rfl ?_
 refine RK.D ?_
 refine AWp_sr hP ?_
 refine RK.G6 hT rfl rfl rfl rfl rfl rfl ?_
 refine RK.M rfl ?_
 refine RK.V (op_build_st hT rfl rfl rfl (es := [_, _, _, _, _, _, _]) rfl) ?_
 refine RK.S hT rfl rfl rfl rfl rfl rfl rfl ?_
 refine RK.D ?_
 refine AWp_ret ?_
 refine ends_one rfl (.inr rfl) (res_cell_agg hT rfl rfl rfl rfl (cs := [_, _, _, _, _, _, _]) rfl rfl) ?_ O_ends
 exact .refl _
end Go.Proofs.YtpaifigafaijpaaGreatDoor
end

section
/- chapter 9: roots -/
namespace Go.Proofs.YtpaifigafaijpaaGreatDoor
open Go Go.AM
set_option maxRecDepth 100000
set_option maxHeartbeats 1000000
theorem sl_IndexFunc0 (F : FuncId) (caps : List (List DV)) (p : Fm → Bool) (l : List Fm) (hl : (l.length : Int) ≤ 1000000) (hc : ∀ g, g ∈ l → Call0 Tryz.prog F (.p (.a (FC g)) :: caps.map .ip) (B (p g))) :
  CallM Tryz.prog 175 [.vec 0, .fn F caps] (upd O 0 (some (FB 53 l))) (Z (fiV p l)) (upd O 0 (some (FB 53 l))) := by
 refine callM_of (np := 1) Tryz.func175 (by kernel_rfl) rfl rfl (Nat.le_of_ble_eq_true rfl) upd1_lt upd1_dom rfl ?_
 refine AWp_sr hP ?_
 refine RK.As rfl ?_
 refine RK.D ?_
 refine AWp_seq ?_
 refine AWp_sr hP ?_
 refine RK.V (op_move (rfl : _ = AV.vec _)) ?_
 refine RK.V (op_len_vecF hT rfl rfl rfl rfl) ?_
 refine RK.M rfl ?_
 refine RK.D ?_
 refine AWp_block ?_
 refine AWp_loop (ι := Nat) (fun k => stL [(0, .vec 0), (1, .fn F caps), (7, Z (l.length : Int)), (8, Z (k : Int))] [(0, FB 53 l)]) (fun k => k ≤ l.length ∧ k ≤ l.findIdx p) (fun k => l.length - k) 0 ⟨Nat.zero_le _, Nat.zero_le _⟩ (le_stL ⟨.refl _, .refl _, .refl _, .refl _, trivial⟩ ⟨rfl, trivial⟩) ?_
 rintro k ⟨hk1, hk2⟩
 refine AWp_sr hP ?_
 refine RK.V (op_lss rfl rfl) ?_
 refine RK.D ?_
 refine AWp_seq ?_
 refine AWp_cond rfl (fun hb1 => ?_) (fun hb1 => ?_)
 ·have hb1_ := of_decide_eq_true hb1
  refine AWp_skip ?_
  refine AWp_seq ?_
  refine AWp_block ?_
  refine AWp_sr hP ?_
  refine RK.M rfl ?_
  refine RK.As rfl ?_
  refine RK.D ?_
  refine AWp_sr hP ?_
  refine RK.V (op_move (rfl : _ = AV.fn _ _)) ?_
  refine RK.V (op_move (rfl : _ = AV.vec _)) ?_
  refine RK.M rfl ?_
  refine RK.V (op_index_vecF hT (n := k) rfl rfl rfl rfl rfl rfl rfl (by omega)) ?_
  refine RK.V (op_load_vecF hT (n := k) rfl rfl rfl rfl rfl (by omega)) ?_
  refine RK.V (Eff.callC rfl (hc (l.getD k ⟨0, 0, 0⟩) (getD_mem (by omega)))) ?_
  refine RK.D ?_
  refine AWp_cond rfl (fun hb2 => ?_) (fun hb2 => ?_)
  ·refine AWp_sr hP ?_
   refine RK.M rfl ?_
   refine RK.As rfl ?_
   refine RK.D ?_
   refine AWp_ret ?_
   refine ends_one rfl (.inr rfl) (res_tmp rfl) ?_ (own_end1 ?_)
   exact Sub.int (fi_yes hk2 hb1_ hb2).symm
   exact rfl
  ·refine AWp_skip ?_
   refine AWp_region hP ?_
   refine RK.V (op_add rfl rfl (by first | exact IntWalk.i64_in _ (by omega) | rfl)) ?_
   refine RK.M rfl ?_
   refine RK.D ?_
   have hn2 := fi_no hk2 hb1_ hb2
   refine ⟨k + 1, ⟨by omega, hn2⟩, by omega, le_stL ⟨.refl _, .refl _, .refl _, Sub.int (by omega), trivial⟩ ⟨rfl, trivial⟩⟩
 ·have hb1_ := of_decide_eq_false hb1
  refine AWp_exit ?_
  refine AWp_sr hP ?_
  refine RK.As rfl ?_
  refine RK.D ?_
  refine AWp_ret ?_
  refine ends_one rfl (.inr rfl) (res_tmp rfl) ?_ (own_end1 ?_)
  exact Sub.int (fi_end hk2 hb1_).symm
  exact rfl
set_option maxHeartbeats 4000000 in
theorem sl_DeleteFunc0 (F : FuncId) (caps : List (List DV)) (p : Fm → Bool) (l : List Fm) (hl : (l.length : Int) ≤ 1000000) (hc : ∀ g, g ∈ l → Call0 Tryz.prog F (.p (.a (FC g)) :: caps.map .ip) (B (p g))) :
  CallM Tryz.prog 124 [.vec 0, .fn F caps] (upd O 0 (some (FB 53 l))) (.p (.c (FS (l.filter fun g => !p g)))) (O) := by
 refine callM_of (np := 1) Tryz.func124 (by kernel_rfl) rfl rfl (Nat.le_of_ble_eq_true rfl) upd1_lt (fun m h => absurd rfl h) rfl ?_
 refine AWp_sr hP ?_
 refine RK.As rfl ?_
 refine RK.D ?_
 refine AWp_sr hP ?_
 refine RK.V (op_move (rfl : _ = AV.vec _)) ?_
 refine RK.V (op_move (rfl : _ = AV.fn _ _)) ?_
 refine RK.mut guard_none (Eff.call (rd := [0]) (sl_IndexFunc0 F caps p l hl hc) (own1 rfl) upd1_mem) ?_
 refine RK.As rfl ?_
 refine RK.D ?_
 refine AWp_seq ?_
 refine AWp_sr hP ?_
 refine RK.M rfl ?_
 refine RK.V (op_eql rfl rfl) ?_
 refine RK.D ?_
 refine AWp_cond rfl (fun hb1 => ?_) (fun hb1 => ?_)
 ·have hb1_ := bT hb1
  refine AWp_freezeF (t := 0) rfl rfl ?_
  refine AWp_sr hP ?_
  refine RK.M rfl ?_
  refine RK.As rfl ?_
  refine RK.D ?_
  refine AWp_ret ?_
  refine ends_one rfl (.inr rfl) (res_tmp rfl) ?_ O_ends
  exact Sub.of_eq (by rw [fi_none hb1_])
 ·have hb1_ := bF hb1
  refine (fi_some hb1_).elim (fun i0 hh => ?_)
  have e1 := hh.1
  have e2 := hh.2.1
  refine AWp_skip ?_
  refine AWp_seq ?_
  refine AWp_sr hP ?_
  refine RK.M rfl ?_
  refine RK.V (op_add rfl rfl (by first | exact IntWalk.i64_in _ (by omega) | rfl)) ?_
  refine RK.As rfl ?_
  refine RK.D ?_
  refine AWp_block ?_
  refine AWp_loop (ι := Nat × Nat × List Fm) (fun q => stL [(0, .vec 0), (1, .fn F caps), (5, Z (q.1 : Int)), (6, Z (q.2.1 : Int))] [(0, FB 53 q.2.2)]) (fun q => DlI p l q.1 q.2.1 q.2.2) (fun q => l.length - q.2.1) (i0, i0 + 1, l) (DlI.start e2 hh.2.2.1 hh.2.2.2) (le_stL ⟨.refl _, .refl _, Sub.int e1, Sub.int (by rw [e1]; simp only; omega), trivial⟩ ⟨rfl, trivial⟩) ?_
  rintro q hI
  refine AWp_seq ?_
  refine AWp_sr hP ?_
  refine RK.M rfl ?_
  refine RK.V (op_move (rfl : _ = AV.vec _)) ?_
  refine RK.V (op_len_vecF hT rfl rfl rfl rfl) ?_
  refine RK.V (op_lss rfl rfl) ?_
  refine RK.D ?_
  refine AWp_cond rfl (fun hb2 => ?_) (fun hb2 => ?_)
  ·have hb2_ := of_decide_eq_true hb2
   have hsl := hI.sl
   have hjl : (q.2.1 : Int) < l.length := by omega
   have hij := hI.ij
   refine AWp_skip ?_
   refine AWp_seq ?_
   refine AWp_block ?_
   refine AWp_sr hP ?_
   refine RK.V (op_move (rfl : _ = AV.vec _)) ?_
   refine RK.M rfl ?_
   refine RK.V (op_index_vecF hT (n := q.2.1) rfl rfl rfl rfl rfl rfl rfl (by omega)) ?_
   refine RK.V (op_load_vecF hT (n := q.2.1) rfl rfl rfl rfl rfl (by omega)) ?_
   refine RK.alc guard_none (op_alloc hT rfl rfl) ?_
   refine RK.S hT rfl rfl rfl rfl rfl rfl rfl ?_
   refine RK.D ?_
   refine AWp_sr hP ?_
   refine RK.V (op_move (rfl : _ = AV.fn _ _)) ?_
   refine RK.G6 hT rfl rfl rfl rfl rfl rfl ?_
   refine RK.V (Eff.callC rfl (hc (q.2.2.getD q.2.1 ⟨0, 0, 0⟩) (by rw [hI.get]; exact getD_mem hjl))) ?_
   refine RK.V (op_unot rfl) ?_
   refine RK.D ?_
   refine AWp_cond rfl (fun hb3 => ?_) (fun hb3 => ?_)
   ·have hb3_ := (notT hb3)
    refine AWp_sr hP ?_
    refine RK.V (op_move (rfl : _ = AV.vec _)) ?_
    refine RK.M rfl ?_
    refine RK.G6 hT rfl rfl rfl rfl rfl rfl ?_
    refine RK.V (op_index_vecF hT (n := q.1) rfl rfl rfl rfl rfl rfl rfl (by omega)) ?_
    refine RK.sto guard_none (op_store_vecF hT (n := q.1) (g := (q.2.2.getD q.2.1 ⟨0, 0, 0⟩)) rfl rfl rfl rfl rfl (by omega)) ?_
    refine RK.D ?_
    refine AWp_region hP ?_
    refine RK.M rfl ?_
    refine RK.V (op_add rfl rfl (by first | exact IntWalk.i64_in _ (by omega) | rfl)) ?_
    refine RK.As rfl ?_
    refine RK.D ?_
    refine AWp_region hP ?_
    refine RK.M rfl ?_
    refine RK.V (op_add rfl rfl (by first | exact IntWalk.i64_in _ (by omega) | rfl)) ?_
    refine RK.As rfl ?_
    refine RK.D ?_
    have hy := hI.yes hjl (by rw [← hI.get]; exact notT hb3)
    refine ⟨(q.1 + 1, q.2.1 + 1, q.2.2.set q.1 (l.getD q.2.1 ⟨0, 0, 0⟩)), hy, by simp only; omega, le_stL ⟨.refl _, .refl _, Sub.int (by simp only; omega), Sub.int (by simp only; omega), trivial⟩ ⟨Eq.trans rfl (congrArg (fun x => some (FB 53 (q.2.2.set q.1 x))) hI.get), trivial⟩⟩
   ·have hb3_ := (notF hb3)
    refine AWp_skip ?_
    refine AWp_region hP ?_
    refine RK.M rfl ?_
    refine RK.V (op_add rfl rfl (by first | exact IntWalk.i64_in _ (by omega) | rfl)) ?_
    refine RK.As rfl ?_
    refine RK.D ?_
    have hy := hI.no hjl (by rw [← hI.get]; exact notF hb3)
    refine ⟨(q.1, q.2.1 + 1, q.2.2), hy, by simp only; omega, le_stL ⟨.refl _, .refl _, .refl _, Sub.int (by simp only; omega), trivial⟩ ⟨rfl, trivial⟩⟩
  ·have hb2_ := of_decide_eq_false hb2
   have hsl := hI.sl
   have fin1 := (hI.fin (by omega)).1
   have fin2 := (hI.fin (by omega)).2
   refine AWp_exit ?_
   refine AWp_seq ?_
   refine AWp_clearF hT (m := 0) rfl rfl rfl rfl rfl rfl rfl fin2 rfl rfl rfl (fun zs hz => ?_)
   refine AWp_freeze (t := 0) (n := q.2.2.length) rfl rfl rfl (zs_len hz fin2) (Nat.zero_lt_succ 5) ?_
   refine AWp_sr hP ?_
   refine RK.M rfl ?_
   refine RK.M rfl ?_
   refine RK.V (op_slice_h hT rfl rfl rfl rfl (by rfl) rfl (zs_len hz fin2).symm ⟨by omega, by omega⟩ (zs_take fin2)) ?_
   refine RK.As rfl ?_
   refine RK.D ?_
   refine AWp_ret ?_
   refine ends_one rfl (.inr rfl) (res_tmp rfl) ?_ O_ends
   exact Sub.of_eq (dl_end fin2 fin1)
theorem sl_DeleteFunc (m : Nat) (F : FuncId) (caps : List (List DV)) (p : Fm → Bool) (l : List Fm) (hl : (l.length : Int) ≤ 1000000) (hc : ∀ g, g ∈ l → Call0 Tryz.prog F (.p (.a (FC g)) :: caps.map .ip) (B (p g))) : CallM Tryz.prog 124 [.vec m, .fn F caps] (upd O m (some (FB 53 l))) (.p (.c (FS (l.filter fun g => !p g)))) O := CallM.ren1O m (sl_DeleteFunc0 F caps p l hl hc) rfl rfl
theorem sl_Clone (l : List Fm) (hl : (l.length : Int) ≤ 1000000) (h0 : 0 < l.length) :
  CallV Tryz.prog 125 [.p (.c (FS l))] (FB 53 l) := by
 refine callV_of Tryz.func125 (by kernel_rfl) rfl rfl (Nat.le_of_ble_eq_true rfl) ?_
 refine AWp_sr hP ?_
 refine RK.As rfl ?_
 refine RK.D ?_
 refine AWp_seq ?_
 refine AWp_sr hP ?_
 refine RK.M rfl ?_
 refine RK.V (op_eqnilF hT rfl rfl rfl h0) ?_
 refine RK.D ?_
 refine AWp_cond_false rfl rfl ?_
 refine AWp_skip ?_
 refine AWp_sr hP ?_
 refine RK.alc guard_none (op_bslice_vec hT rfl rfl rfl (es := []) rfl rfl rfl) ?_
 refine RK.M rfl ?_
 refine RK.app guard_none (op_appendFS hT rfl rfl rfl rfl rfl rfl rfl rfl (by omega) (by decide)) ?_
 refine RK.V (op_assign (rfl : _ = AV.vec _)) ?_
 refine RK.D ?_
 refine AWp_ret ?_
 refine ⟨.inr rfl, _, _, rfl, rfl, ?_⟩
 exact rfl
set_option maxHeartbeats 4000000 in
theorem co_Roots1 (f g : Fm) (d : Int) (w : Fm) (hd : d = dsc f.a f.b f.c) (hw : w = f.rd) (hdl : L 40 d) (hga : L 6 g.a) (hgb : L 6 g.b) (hgc : L 6 g.c) :
  Call0 Tryz.prog 122 [FA g.a g.b g.c, .ip [zn d, zm d], .ip (FL w.a w.b w.c)] (B (!rtB f g)) := by
 have iga : LB g.a 6 := ⟨hga⟩
 have igb : LB g.b 6 := ⟨hgb⟩
 have igc : LB g.c 6 := ⟨hgc⟩
 have idl : LB d 40 := ⟨hdl⟩
 refine callM_of (np := 0) Tryz.func122 (by kernel_rfl) rfl rfl (Nat.le_of_ble_eq_true rfl) (fun m h => absurd rfl h) (fun m h => absurd rfl h) rfl ?_
 refine AWp_sr hP ?_
 refine RK.alc guard_none (op_box rfl rfl) ?_
 refine RK.As rfl ?_
 refine RK.D ?_
 refine AWp_sr hP ?_
 refine RK.G6 hT rfl rfl rfl rfl rfl rfl ?_
 refine RK.V (Eff.call0 (co_refused _ _ _ lz lz lz)) ?_
 refine RK.V (op_neq rfl rfl) ?_
 refine RK.M rfl ?_
 refine RK.split (t := 8) rfl (fun hg1 => ?_) (fun hg1 => ?_)
 ·have hg1_ := bneT hg1
  refine RK.skip (guard_no rfl rfl hg1) ?_
  refine RK.skip (guard_no rfl rfl hg1) ?_
  refine RK.skip (guard_no rfl rfl hg1) ?_
  refine RK.skip (guard_no rfl rfl hg1) ?_
  refine RK.skip (guard_no rfl rfl hg1) ?_
  refine RK.V (op_pick_t rfl hg1 (rfl : _ = AV.p (.c _))) ?_
  refine RK.M rfl ?_
  refine RK.skip (guard_no rfl rfl rfl) ?_
  refine RK.skip (guard_no rfl rfl rfl) ?_
  refine RK.skip (guard_no rfl rfl rfl) ?_
  refine RK.skip (guard_no rfl rfl rfl) ?_
  refine RK.skip (guard_no rfl rfl rfl) ?_
  refine RK.skip (guard_no rfl rfl rfl) ?_
  refine RK.V (op_pick_t rfl rfl (rfl : _ = AV.p (.c _))) ?_
  refine RK.As rfl ?_
  refine RK.D ?_
  refine AWp_ret ?_
  refine ends_one rfl (.inr rfl) (res_tmp rfl) ?_ O_ends
  exact Sub.bool (rtN_1 hg1_)
 ·have hg1_ := bneF hg1
  refine RK.val (guard_yes rfl rfl hg1) (op_load_agg hT rfl rfl rfl rfl (cs := [_, _, _, _, _, _]) rfl rfl) ?_
  refine RK.val (guard_yes rfl rfl hg1) (Eff.call0 (q_Disc _ _ _ lz lz lz)) ?_
  refine RK.val (guard_yes rfl rfl hg1) (op_load_ip_agg hT rfl rfl rfl (cs := [_, _]) rfl rfl) ?_
  refine RK.val (guard_yes rfl rfl hg1) (Eff.call0 (int_Cmp _ _)) ?_
  refine RK.val (guard_yes rfl rfl hg1) (op_neq rfl rfl) ?_
  refine RK.V (op_pick_f rfl hg1 (rfl : _ = AV.p (.c _))) ?_
  refine RK.M rfl ?_
  refine RK.split (t := 15) rfl (fun hg2 => ?_) (fun hg2 => ?_)
  ·have hg2_ := bneT hg2
   refine RK.skip (guard_no rfl rfl hg2) ?_
   refine RK.skip (guard_no rfl rfl hg2) ?_
   refine RK.skip (guard_no rfl rfl hg2) ?_
   refine RK.skip (guard_no rfl rfl hg2) ?_
   refine RK.skip (guard_no rfl rfl hg2) ?_
   refine RK.skip (guard_no rfl rfl hg2) ?_
   refine RK.V (op_pick_t rfl hg2 (rfl : _ = AV.p (.c _))) ?_
   refine RK.As rfl ?_
   refine RK.D ?_
   refine AWp_ret ?_
   refine ends_one rfl (.inr rfl) (res_tmp rfl) ?_ O_ends
   exact Sub.bool (rtN_2 hd hg2_)
  ·have hg2_ := bneF hg2
   refine RK.val (guard_yes rfl rfl hg2) (op_load_agg hT rfl rfl rfl rfl (cs := [_, _, _, _, _, _]) rfl rfl) ?_
   refine RK.val (guard_yes rfl rfl hg2) (op_load_agg hT rfl rfl rfl rfl (cs := [_, _, _, _, _, _]) rfl rfl) ?_
   refine RK.val (guard_yes rfl rfl hg2) (Eff.call0 (co_product g g (rfE_cl hg1_) (rfE_cl hg1_) hga hgb hgc hga hgb hgc)) ?_
   refine RK.val (guard_yes rfl rfl hg2) (op_load_ip_agg hT rfl rfl rfl (cs := [_, _, _, _, _, _]) rfl rfl) ?_
   refine RK.val (guard_yes rfl rfl hg2) (Eff.call0 (co_equal _ _ _ _ _ _)) ?_
   refine RK.val (guard_yes rfl rfl hg2) (op_unot rfl) ?_
   refine RK.V (op_pick_f rfl hg2 (rfl : _ = AV.p (.c _))) ?_
   refine RK.As rfl ?_
   refine RK.D ?_
   refine AWp_ret ?_
   refine ends_one rfl (.inr rfl) (res_tmp rfl) ?_ O_ends
   exact Sub.bool (rtN_3 hd hw hg1_ hg2_)
set_option maxHeartbeats 4000000 in
theorem co_Roots (f : Fm) (l : List Fm) (hfa : L 6 f.a) (hfb : L 6 f.b) (hfc : L 6 f.c) (hl : ∀ g ∈ l, L 6 g.a ∧ L 6 g.b ∧ L 6 g.c) (hl2 : (l.length : Int) ≤ 1000000) (hl0 : 0 < l.length) :
  Call0 Tryz.prog 50 [FA f.a f.b f.c, .p (.c (FS l))] (.t [.c (FS (rtsL f l)), PE (rtsE f l)]) := by
 have ifa : LB f.a 6 := ⟨hfa⟩
 have ifb : LB f.b 6 := ⟨hfb⟩
 have ifc : LB f.c 6 := ⟨hfc⟩
 refine callM_of (np := 0) Tryz.func50 (by kernel_rfl) rfl rfl (Nat.le_of_ble_eq_true rfl) (fun m h => absurd rfl h) (fun m h => absurd rfl h) rfl ?_
 refine AWp_sr hP ?_
 refine RK.alc guard_none (op_box rfl rfl) ?_
 refine RK.As rfl ?_
 refine RK.As rfl ?_
 refine RK.D ?_
 refine AWp_seq ?_
 refine AWp_sr hP ?_
 refine RK.G6 hT rfl rfl rfl rfl rfl rfl ?_
 refine RK.V (Eff.call0 (co_refused _ _ _ lz lz lz)) ?_
 refine RK.As rfl ?_
 refine RK.D ?_
 refine AWp_sr hP ?_
 refine RK.M rfl ?_
 refine RK.V (op_neq rfl rfl) ?_
 refine RK.D ?_
 refine AWp_cond rfl (fun hb1 => ?_) (fun hb1 => ?_)
 ·have hb1_ := bneT hb1
  refine AWp_sr hP ?_
  refine RK.M rfl ?_
  refine RK.As rfl ?_
  refine RK.As rfl ?_
  refine RK.D ?_
  refine AWp_ret ?_
  refine ends_two rfl (.inr rfl) (res_tmp rfl) (res_tmp rfl) ?_ O_ends
  exact rts_sub (rts_1 hb1_)
 ·have hb1_ := bneF hb1
  have h0 : rfE f = 0 := hb1_
  refine AWp_skip ?_
  refine AWp_seq ?_
  refine AWp_sr hP ?_
  refine RK.M rfl ?_
  refine RK.V (op_len hT rfl rfl rfl (by rfl)) ?_
  refine RK.V (op_gtr rfl rfl) ?_
  refine RK.D ?_
  refine AWp_cond rfl (fun hb2 => ?_) (fun hb2 => ?_)
  ·have hb2_ := of_decide_eq_true hb2
   refine AWp_sr hP ?_
   refine RK.As rfl ?_
   refine RK.As rfl ?_
   refine RK.D ?_
   refine AWp_ret ?_
   refine ends_two rfl (.inr rfl) (res_tmp rfl) (res_tmp rfl) ?_ O_ends
   exact rts_sub (rts_2 h0 hb2_)
  ·have hb2_ := of_decide_eq_false hb2
   refine AWp_skip ?_
   refine AWp_sr hP ?_
   refine RK.G6 hT rfl rfl rfl rfl rfl rfl ?_
   refine RK.V (Eff.call0 (co_reduced _ _ _ lz lz lz)) ?_
   refine RK.G6 hT rfl rfl rfl rfl rfl rfl ?_
   refine RK.V (Eff.call0 (q_Disc _ _ _ lz lz lz)) ?_
   refine RK.alc guard_none (op_alloc hT rfl rfl) ?_
   refine RK.alc guard_none (op_alloc hT rfl rfl) ?_
   refine RK.S hT rfl rfl rfl rfl rfl rfl rfl ?_
   refine RK.S hT rfl rfl rfl rfl rfl rfl rfl ?_
   refine RK.D ?_
   refine AWp_freezeBox (t := 7) rfl rfl ?_
   refine AWp_freezeBox (t := 8) rfl rfl ?_
   refine AWp_sr hP ?_
   refine RK.V (op_makeFunc2 rfl rfl) ?_
   refine RK.V (op_assign (rfl : _ = AV.fn _ _)) ?_
   refine RK.D ?_
   refine AWp_sr hP ?_
   refine RK.M rfl ?_
   refine RK.alc guard_none (Eff.callV (sl_Clone l hl2 hl0)) ?_
   refine RK.V (op_move (rfl : _ = AV.fn _ _)) ?_
   refine RK.mut guard_none (Eff.call (rd := [24]) (sl_DeleteFunc 24 122 _ (fun g => !rtB f g) l hl2 (fun g hg => co_Roots1 f g (dsc f.a f.b f.c) (rdF f.a f.b f.c) rfl rfl lz (hl g hg).1 (hl g hg).2.1 (hl g hg).2.2)) (own1 rfl) upd1_mem) ?_
   refine RK.As rfl ?_
   refine RK.As rfl ?_
   refine RK.D ?_
   refine AWp_ret ?_
   refine ends_two rfl (.inr rfl) (res_tmp rfl) (res_tmp rfl) ?_ O_ends
   exact Sub.of_eq (rts_fin (rts_3 h0 hb2_))
end Go.Proofs.YtpaifigafaijpaaGreatDoor
end

section
/- square roots to a prime -/
namespace Go.Proofs.YtpaifigafaijpaaGreatDoor
open Go Go.AM
set_option maxRecDepth 100000
set_option maxHeartbeats 1000000
theorem m_half1 (a b c d w p : Int) (h0 : 0 < p) (ha : L 10 a) (hb : L 10 b) (hc : L 10 c) (hd : L 10 d) (hw : L 10 w) (hp : L 10 p) :
  Call0 Tryz.prog 248 [I a, I b, I c, I d, .ip [zn w, zm w], .ip [zn p, zm p]] (.t [PI (hmM w p (a, b) (c, d)).1, PI (hmM w p (a, b) (c, d)).2]) := by
 have ia : LB a 10 := ⟨ha⟩
 have ib : LB b 10 := ⟨hb⟩
 have ic : LB c 10 := ⟨hc⟩
 have id : LB d 10 := ⟨hd⟩
 have iw : LB w 10 := ⟨hw⟩
 have ip : LB p 10 := ⟨hp⟩
 refine callM_of (np := 0) Tryz.func248 (by kernel_rfl) rfl rfl (Nat.le_of_ble_eq_true rfl) (fun m h => absurd rfl h) (fun m h => absurd rfl h) rfl ?_
 refine AWp_sr hP ?_
 refine RK.alc guard_none (op_box rfl rfl) ?_
 refine RK.alc guard_none (op_box rfl rfl) ?_
 refine RK.alc guard_none (op_box rfl rfl) ?_
 refine RK.alc guard_none (op_box rfl rfl) ?_
 refine RK.alc guard_none (op_alloc hT rfl rfl) ?_
 refine RK.alc guard_none (op_alloc hT rfl rfl) ?_
 refine RK.D ?_
 refine AWp_sr hP ?_
 refine RK.G2 hT rfl rfl rfl rfl rfl rfl ?_
 refine RK.G2 hT rfl rfl rfl rfl rfl rfl ?_
 refine RK.V (Eff.call0 (int_Mul _ _ lz lz)) ?_
 refine RK.V (op_load_ip_agg hT rfl rfl rfl (cs := [_, _]) rfl rfl) ?_
 refine RK.G2 hT rfl rfl rfl rfl rfl rfl ?_
 refine RK.G2 hT rfl rfl rfl rfl rfl rfl ?_
 refine RK.V (Eff.call0 (int_Mul _ _ lz lz)) ?_
 refine RK.V (Eff.call0 (int_Mul _ _ lz lz)) ?_
 refine RK.V (Eff.call0 (int_Add _ _ lz lz)) ?_
 refine RK.V (op_load_ip_agg hT rfl rfl rfl (cs := [_, _]) rfl rfl) ?_
 refine RK.V (Eff.call0 (m_mod _ _ lz lz (by omega))) ?_
 refine RK.G2 hT rfl rfl rfl rfl rfl rfl ?_
 refine RK.G2 hT rfl rfl rfl rfl rfl rfl ?_
 refine RK.V (Eff.call0 (int_Mul _ _ lz lz)) ?_
 refine RK.G2 hT rfl rfl rfl rfl rfl rfl ?_
 refine RK.G2 hT rfl rfl rfl rfl rfl rfl ?_
 refine RK.V (Eff.call0 (int_Mul _ _ lz lz)) ?_
 refine RK.V (Eff.call0 (int_Add _ _ lz lz)) ?_
 refine RK.V (op_load_ip_agg hT rfl rfl rfl (cs := [_, _]) rfl rfl) ?_
 refine RK.V (Eff.call0 (m_mod _ _ lz lz (by omega))) ?_
 refine RK.S hT rfl rfl rfl rfl rfl rfl rfl ?_
 refine RK.S hT rfl rfl rfl rfl rfl rfl rfl ?_
 refine RK.D ?_
 refine AWp_ret ?_
 refine ends_two rfl (.inr rfl) (res_cell_agg hT rfl rfl rfl rfl (cs := [_, _]) rfl rfl) (res_cell_agg hT rfl rfl rfl rfl (cs := [_, _]) rfl rfl) ?_ O_ends
 exact .refl _
set_option maxHeartbeats 4000000 in
theorem m_half (t w p : Int) (h0 : 0 < p) (ht : L 10 t) (hw : L 10 w) (hp : L 10 p) :
  Call0 Tryz.prog 244 [I t, I w, I p] (I (hfV t w p)) := by
 have it : LB t 10 := ⟨ht⟩
 have iw : LB w 10 := ⟨hw⟩
 have ip : LB p 10 := ⟨hp⟩
 have iN : LB ((p + 1) / 2) 10 := ⟨L.of_le hp (by omega)⟩
 have hbl := blen_gen iN.le
 refine callM_of (np := 0) Tryz.func244 (by kernel_rfl) rfl rfl (Nat.le_of_ble_eq_true rfl) (fun m h => absurd rfl h) (fun m h => absurd rfl h) rfl ?_
 refine AWp_sr hP ?_
 refine RK.alc guard_none (op_box rfl rfl) ?_
 refine RK.alc guard_none (op_box rfl rfl) ?_
 refine RK.alc guard_none (op_box rfl rfl) ?_
 refine RK.alc guard_none (op_alloc hT rfl rfl) ?_
 refine RK.D ?_
 refine AWp_sr hP ?_
 refine RK.G2 hT rfl rfl rfl rfl rfl rfl ?_
 refine RK.V (Eff.call0 (m_of _ (by first | assumption | decide))) ?_
 refine RK.V (Eff.call0 (int_Add _ _ lz lz)) ?_
 refine RK.V (Eff.call0 (m_of _ (by first | assumption | decide))) ?_
 refine RK.V (Eff.call0 (m_div _ _ lz lz (by first | assumption | decide))) ?_
 refine RK.alc guard_none (op_alloc hT rfl rfl) ?_
 refine RK.S hT rfl rfl rfl rfl rfl rfl rfl ?_
 refine RK.D ?_
 refine AWp_sr hP ?_
 refine RK.V (Eff.call0 (m_of _ (by first | assumption | decide))) ?_
 refine RK.V (op_build_st hT rfl rfl rfl (es := [_, _]) rfl) ?_
 refine RK.alc guard_none (op_alloc hT rfl rfl) ?_
 refine RK.alc guard_none (op_alloc hT rfl rfl) ?_
 refine RK.S hT rfl rfl rfl rfl rfl rfl rfl ?_
 refine RK.S hT rfl rfl rfl rfl rfl rfl rfl ?_
 refine RK.D ?_
 refine AWp_sr hP ?_
 refine RK.G2 hT rfl rfl rfl rfl rfl rfl ?_
 refine RK.V (Eff.call0 (m_of _ (by first | assumption | decide))) ?_
 refine RK.alc guard_none (op_alloc hT rfl rfl) ?_
 refine RK.alc guard_none (op_alloc hT rfl rfl) ?_
 refine RK.S hT rfl rfl rfl rfl rfl rfl rfl ?_
 refine RK.S hT rfl rfl rfl rfl rfl rfl rfl ?_
 refine RK.D ?_
 refine AWp_freezeBox (t := 4) rfl rfl ?_
 refine AWp_freezeBox (t := 5) rfl rfl ?_
 refine AWp_sr hP ?_
 refine RK.V (op_makeFunc2 rfl rfl) ?_
 refine RK.V (op_assign (rfl : _ = AV.fn _ _)) ?_
 refine RK.D ?_
 refine AWp_seq ?_
 refine AWp_sr hP ?_
 refine RK.G2 hT rfl rfl rfl rfl rfl rfl ?_
 refine RK.V (Eff.call0 (int_Bits _)) ?_
 refine RK.M rfl ?_
 refine RK.D ?_
 refine AWp_block ?_
 refine AWp_loop (ι := Nat) (fun i => stL [(6, .loc 6 0), (7, .loc 7 0), (8, .loc 8 0), (9, .loc 9 0), (10, .loc 10 0), (11, .loc 11 0), (12, .fn 248 [[zn w, zm w], [zn p, zm p]]), (25, Z (blen ((p + 1) / 2).natAbs : Nat)), (26, Z (i : Int))] [(6, ⟨false, 1, 36, [zn (0), zm (0)]⟩), (7, ⟨false, 1, 36, [zn (((p + 1) / 2)), zm (((p + 1) / 2))]⟩), (8, ⟨false, 1, 36, [zn ((hfS w p ((p + 1) / 2).natAbs t (i)).1.1), zm ((hfS w p ((p + 1) / 2).natAbs t (i)).1.1)]⟩), (9, ⟨false, 1, 36, [zn ((hfS w p ((p + 1) / 2).natAbs t (i)).1.2), zm ((hfS w p ((p + 1) / 2).natAbs t (i)).1.2)]⟩), (10, ⟨false, 1, 36, [zn ((hfS w p ((p + 1) / 2).natAbs t (i)).2.1), zm ((hfS w p ((p + 1) / 2).natAbs t (i)).2.1)]⟩), (11, ⟨false, 1, 36, [zn ((hfS w p ((p + 1) / 2).natAbs t (i)).2.2), zm ((hfS w p ((p + 1) / 2).natAbs t (i)).2.2)]⟩)]) (fun i => i ≤ blen ((p + 1) / 2).natAbs) (fun i => blen ((p + 1) / 2).natAbs - i) 0 (Nat.zero_le _) (le_stL ⟨.refl _, .refl _, .refl _, .refl _, .refl _, .refl _, .refl _, .refl _, .refl _, trivial⟩ ⟨rfl, rfl, rfl, rfl, rfl, rfl, trivial⟩) ?_
 intro i hib
 have hL := hfS_L (w := w) (n := ((p + 1) / 2).natAbs) hp h0 ht i
 have q1 := hL.1.1
 have q2 := hL.1.2
 have q3 := hL.2.1
 have q4 := hL.2.2
 refine AWp_sr hP ?_
 refine RK.V (op_lss rfl rfl) ?_
 refine RK.D ?_
 refine AWp_seq ?_
 refine AWp_cond rfl (fun hb1 => ?_) (fun hb1 => ?_)
 ·have hb1_ := of_decide_eq_true hb1
  have hi : i < blen ((p + 1) / 2).natAbs := by omega
  have hlen := wl_len_bit hi
  refine AWp_skip ?_
  refine AWp_seq ?_
  refine AWp_block ?_
  refine AWp_sr hP ?_
  refine RK.M rfl ?_
  refine RK.As rfl ?_
  refine RK.D ?_
  refine AWp_seq_cut (ι := Unit) (fun _ => stL [(6, .loc 6 0), (7, .loc 7 0), (8, .loc 8 0), (9, .loc 9 0), (10, .loc 10 0), (11, .loc 11 0), (12, .fn 248 [[zn w, zm w], [zn p, zm p]]), (25, Z (blen ((p + 1) / 2).natAbs : Nat)), (26, Z (i : Int))] [(6, ⟨false, 1, 36, [zn (0), zm (0)]⟩), (7, ⟨false, 1, 36, [zn (((p + 1) / 2)), zm (((p + 1) / 2))]⟩), (8, ⟨false, 1, 36, [zn ((hfS w p ((p + 1) / 2).natAbs t (i + 1)).1.1), zm ((hfS w p ((p + 1) / 2).natAbs t (i + 1)).1.1)]⟩), (9, ⟨false, 1, 36, [zn ((hfS w p ((p + 1) / 2).natAbs t (i + 1)).1.2), zm ((hfS w p ((p + 1) / 2).natAbs t (i + 1)).1.2)]⟩), (10, ⟨false, 1, 36, [zn ((hfS w p ((p + 1) / 2).natAbs t (i)).2.1), zm ((hfS w p ((p + 1) / 2).natAbs t (i)).2.1)]⟩), (11, ⟨false, 1, 36, [zn ((hfS w p ((p + 1) / 2).natAbs t (i)).2.2), zm ((hfS w p ((p + 1) / 2).natAbs t (i)).2.2)]⟩)]) (fun _ => True) ?_ ?_
  ·refine AWp_sr hP ?_
   refine RK.F hT rfl rfl rfl rfl rfl rfl ?_
   refine RK.V (op_load_one hT rfl rfl rfl rfl (by first | rfl | exact vget (by omega))) ?_
   refine RK.M rfl ?_
   refine RK.V (op_quo rfl rfl (by decide) (c := ((i / 32 : Nat) : Int)) (by rw [Int.tdiv_eq_ediv_of_nonneg (by omega), IntWalk.i64_in _ (by omega)]; omega)) ?_
   refine RK.V (op_index_WN (n := i / 32) hT rfl rfl rfl rfl rfl rfl hlen) ?_
   refine RK.V (op_load_ip_one hT rfl rfl rfl (wget hlen)) ?_
   refine RK.M rfl ?_
   refine RK.V (op_rem rfl rfl (by decide) (c := ((i % 32 : Nat) : Int)) (by rw [Int.tmod_eq_emod_of_nonneg (by omega)]; omega)) ?_
   refine RK.V (op_shrN (j := i % 32) (m := (wl ((p + 1) / 2).natAbs).getD (i / 32) 0) rfl rfl (by have := Nat.mod_lt i (show 32 > 0 by decide); show _ ≤ 32; omega)) ?_
   refine RK.V (op_andN (m := (wl ((p + 1) / 2).natAbs).getD (i / 32) 0 / 2 ^ (i % 32)) (n := 1) rfl rfl rfl (lt32 (dig_lt _ _ _)) (by decide)) ?_
   refine RK.V (op_eql rfl rfl) ?_
   refine RK.D ?_
   refine AWp_cond rfl (fun hb2 => ?_) (fun hb2 => ?_)
   ·have hb2_ := bT hb2
    refine AWp_region hP ?_
    refine RK.V (op_move (rfl : _ = AV.fn _ _)) ?_
    refine RK.G2 hT rfl rfl rfl rfl rfl rfl ?_
    refine RK.G2 hT rfl rfl rfl rfl rfl rfl ?_
    refine RK.G2 hT rfl rfl rfl rfl rfl rfl ?_
    refine RK.G2 hT rfl rfl rfl rfl rfl rfl ?_
    refine RK.V (Eff.callC rfl (m_half1 _ _ _ _ w p h0 q1 q2 q3 q4 hw hp)) ?_
    refine RK.V (op_move (rfl : _ = AV.t _)) ?_
    refine RK.V (op_extract rfl (v := .a _) rfl) ?_
    refine RK.V (op_extract rfl (v := .a _) rfl) ?_
    refine RK.S hT rfl rfl rfl rfl rfl rfl rfl ?_
    refine RK.S hT rfl rfl rfl rfl rfl rfl rfl ?_
    refine RK.D ?_
    refine ⟨(), trivial, le_stL ⟨.refl _, .refl _, .refl _, .refl _, .refl _, .refl _, .refl _, .refl _, .refl _, trivial⟩ ⟨rfl, rfl, Eq.trans rfl (congrArg (fun x : Int => some (⟨false, 1, 36, [zn x, zm x]⟩ : Blk)) (congrArg Prod.fst (hf_yes (bit_yes hb2)))), Eq.trans rfl (congrArg (fun x : Int => some (⟨false, 1, 36, [zn x, zm x]⟩ : Blk)) (congrArg Prod.snd (hf_yes (bit_yes hb2)))), rfl, rfl, trivial⟩⟩
   ·have hb2_ := bF hb2
    refine AWp_skip ?_
    refine ⟨(), trivial, le_stL ⟨.refl _, .refl _, .refl _, .refl _, .refl _, .refl _, .refl _, .refl _, .refl _, trivial⟩ ⟨rfl, rfl, Eq.trans rfl (congrArg (fun x : Int => some (⟨false, 1, 36, [zn x, zm x]⟩ : Blk)) (congrArg Prod.fst (hf_no (bit_no hb2)))), Eq.trans rfl (congrArg (fun x : Int => some (⟨false, 1, 36, [zn x, zm x]⟩ : Blk)) (congrArg Prod.snd (hf_no (bit_no hb2)))), rfl, rfl, trivial⟩⟩
  intro _ _
  refine AWp_region hP ?_
  refine RK.V (op_move (rfl : _ = AV.fn _ _)) ?_
  refine RK.G2 hT rfl rfl rfl rfl rfl rfl ?_
  refine RK.G2 hT rfl rfl rfl rfl rfl rfl ?_
  refine RK.G2 hT rfl rfl rfl rfl rfl rfl ?_
  refine RK.G2 hT rfl rfl rfl rfl rfl rfl ?_
  refine RK.V (Eff.callC rfl (m_half1 _ _ _ _ w p h0 q3 q4 q3 q4 hw hp)) ?_
  refine RK.V (op_move (rfl : _ = AV.t _)) ?_
  refine RK.V (op_extract rfl (v := .a _) rfl) ?_
  refine RK.V (op_extract rfl (v := .a _) rfl) ?_
  refine RK.S hT rfl rfl rfl rfl rfl rfl rfl ?_
  refine RK.S hT rfl rfl rfl rfl rfl rfl rfl ?_
  refine RK.D ?_
  refine AWp_region hP ?_
  refine RK.V (op_add rfl rfl (by first | exact IntWalk.i64_in _ (by omega) | rfl)) ?_
  refine RK.M rfl ?_
  refine RK.D ?_
  refine ⟨i + 1, by omega, by omega, le_stL ⟨.refl _, .refl _, .refl _, .refl _, .refl _, .refl _, .refl _, .refl _, Sub.int (by omega), trivial⟩ ⟨rfl, rfl, rfl, rfl, rfl, rfl, trivial⟩⟩
 ·have hb1_ := of_decide_eq_false hb1
  refine AWp_exit ?_
  refine AWp_sr hP ?_
  refine RK.G2 hT rfl rfl rfl rfl rfl rfl ?_
  refine RK.S hT rfl rfl rfl rfl rfl rfl rfl ?_
  refine RK.D ?_
  refine AWp_ret ?_
  refine ends_one rfl (.inr rfl) (res_cell_agg hT rfl rfl rfl rfl (cs := [_, _]) rfl rfl) ?_ O_ends
  exact Sub.of_eq (by unfold hfV; rw [show i = blen ((p + 1) / 2).natAbs by omega])
set_option maxHeartbeats 8000000 in
theorem m_Sqrt (a p : Int) (h2 : 2 ≤ p) (ha : L 10 a) (hp : L 10 p) (hst : oddB p = true → a % p ≠ 0 → kr (a % p) p = 1 → sqStop (a % p) p (sqT (a % p) p) = true) :
  Call0 Tryz.prog 223 [I a, I p] (.t [PI (sqV (a % p) p), PE (sqE (a % p) p)]) := by
 have ia : LB a 10 := ⟨ha⟩
 have ip : LB p 10 := ⟨hp⟩
 have h0 : 0 < p := by omega
 have iam : LB (a % p) 10 := ⟨hp.of_le (by have := Int.emod_nonneg a (show p ≠ 0 by omega); have := Int.emod_lt_of_pos a h0; omega)⟩
 refine callM_of (np := 0) Tryz.func223 (by kernel_rfl) rfl rfl (Nat.le_of_ble_eq_true rfl) (fun m h => absurd rfl h) (fun m h => absurd rfl h) rfl ?_
 refine AWp_sr hP ?_
 refine RK.alc guard_none (op_box rfl rfl) ?_
 refine RK.alc guard_none (op_box rfl rfl) ?_
 refine RK.alc guard_none (op_alloc hT rfl rfl) ?_
 refine RK.As rfl ?_
 refine RK.D ?_
 refine AWp_scope ?_
 refine AWp_seq ?_
 refine AWp_sr hP ?_
 refine RK.G2 hT rfl rfl rfl rfl rfl rfl ?_
 refine RK.V (Eff.call0 (m_of _ (by first | assumption | decide))) ?_
 refine RK.V (Eff.call0 (int_Cmp _ _)) ?_
 refine RK.V (op_lss rfl rfl) ?_
 refine RK.D ?_
 refine AWp_cond_false rfl (decide_eq_false (fun e => by have := cmpI_lt_zero.1 e; omega)) ?_
 refine AWp_skip ?_
 refine AWp_sr hP ?_
 refine RK.G2 hT rfl rfl rfl rfl rfl rfl ?_
 refine RK.G2 hT rfl rfl rfl rfl rfl rfl ?_
 refine RK.V (Eff.call0 (m_mod _ _ lz lz (by omega))) ?_
 refine RK.S hT rfl rfl rfl rfl rfl rfl rfl ?_
 refine RK.D ?_
 refine AWp_seq ?_
 refine AWp_sr hP ?_
 refine RK.G2 hT rfl rfl rfl rfl rfl rfl ?_
 refine RK.V (Eff.call0 (m_odd _)) ?_
 refine RK.V (op_unot rfl) ?_
 refine RK.M rfl ?_
 refine RK.split (t := 21) rfl (fun hg1 => ?_) (fun hg1 => ?_)
 ·have hg1_ := (notT hg1)
  refine RK.skip (guard_no rfl rfl hg1) ?_
  refine RK.skip (guard_no rfl rfl hg1) ?_
  refine RK.skip (guard_no rfl rfl hg1) ?_
  refine RK.V (op_pick_t rfl hg1 (rfl : _ = AV.p (.c _))) ?_
  refine RK.D ?_
  refine AWp_cond_true rfl rfl ?_
  refine AWp_sr hP ?_
  refine RK.G2 hT rfl rfl rfl rfl rfl rfl ?_
  refine RK.S hT rfl rfl rfl rfl rfl rfl rfl ?_
  refine RK.As rfl ?_
  refine RK.D ?_
  refine AWp_ret ?_
  refine ends_two rfl (.inr rfl) (res_cell_agg hT rfl rfl rfl rfl (cs := [_, _]) rfl rfl) (res_tmp rfl) ?_ O_ends
  exact Sub.of_eq (sq_e1 (.inl hg1_))
 ·have hg1_ := (notF hg1)
  refine RK.val (guard_yes rfl rfl hg1) (op_load_agg hT rfl rfl rfl rfl (cs := [_, _]) rfl rfl) ?_
  refine RK.val (guard_yes rfl rfl hg1) (Eff.call0 (int_Sign _)) ?_
  refine RK.val (guard_yes rfl rfl hg1) (op_eql rfl rfl) ?_
  refine RK.V (op_pick_f rfl hg1 (rfl : _ = AV.p (.c _))) ?_
  refine RK.D ?_
  refine AWp_cond rfl (fun hb2 => ?_) (fun hb2 => ?_)
  ·have hb2_ := bT hb2
   refine AWp_sr hP ?_
   refine RK.G2 hT rfl rfl rfl rfl rfl rfl ?_
   refine RK.S hT rfl rfl rfl rfl rfl rfl rfl ?_
   refine RK.As rfl ?_
   refine RK.D ?_
   refine AWp_ret ?_
   refine ends_two rfl (.inr rfl) (res_cell_agg hT rfl rfl rfl rfl (cs := [_, _]) rfl rfl) (res_tmp rfl) ?_ O_ends
   exact Sub.of_eq (sq_e1 (.inr (sgn_zero_iff.1 hb2_)))
  ·have hb2_ := bF hb2
   have hOd : ¬ oddB p = false := by rw [hg1_]; decide
   have hAz : (a % p) ≠ 0 := fun e => hb2_ (sgn_zero_iff.2 e)
   refine AWp_skip ?_
   refine AWp_seq ?_
   refine AWp_sr hP ?_
   refine RK.G2 hT rfl rfl rfl rfl rfl rfl ?_
   refine RK.G2 hT rfl rfl rfl rfl rfl rfl ?_
   refine RK.V (Eff.call0 (m_Kronecker _ _ lz lz)) ?_
   refine RK.V (op_neq rfl rfl) ?_
   refine RK.D ?_
   refine AWp_cond rfl (fun hb3 => ?_) (fun hb3 => ?_)
   ·have hb3_ := bneT hb3
    refine AWp_sr hP ?_
    refine RK.V (op_build_st hT rfl rfl rfl (es := [_, _]) rfl) ?_
    refine RK.S hT rfl rfl rfl rfl rfl rfl rfl ?_
    refine RK.As rfl ?_
    refine RK.D ?_
    refine AWp_ret ?_
    refine ends_two rfl (.inr rfl) (res_cell_agg hT rfl rfl rfl rfl (cs := [_, _]) rfl rfl) (res_tmp rfl) ?_ O_ends
    exact Sub.of_eq (sq_e2 hOd hAz hb3_)
   ·have hb3_ := bneF hb3
    have hTs := hst hg1_ hAz hb3_
    refine AWp_skip ?_
    refine AWp_sr hP ?_
    refine RK.V (op_build_st hT rfl rfl rfl (es := [_, _]) rfl) ?_
    refine RK.alc guard_none (op_alloc hT rfl rfl) ?_
    refine RK.S hT rfl rfl rfl rfl rfl rfl rfl ?_
    refine RK.D ?_
    refine AWp_sr hP ?_
    refine RK.G2 hT rfl rfl rfl rfl rfl rfl ?_
    refine RK.V (Eff.call0 (int_Neg _)) ?_
    refine RK.G2 hT rfl rfl rfl rfl rfl rfl ?_
    refine RK.V (Eff.call0 (m_mod _ _ lz lz (by omega))) ?_
    refine RK.alc guard_none (op_alloc hT rfl rfl) ?_
    refine RK.S hT rfl rfl rfl rfl rfl rfl rfl ?_
    refine RK.D ?_
    refine AWp_seq ?_
    refine AWp_label ?_
    refine AWp_seq_cut (ι := Unit) (fun _ => stL [(2, .loc 2 0), (3, .loc 3 0), (4, .loc 4 0), (6, .loc 6 0), (7, .loc 7 0)] [(2, ⟨false, 1, 36, [zn ((a % p)), zm ((a % p))]⟩), (3, ⟨false, 1, 36, [zn (p), zm (p)]⟩), (4, ⟨false, 1, 36, [zn (0), zm (0)]⟩), (6, ⟨false, 1, 36, [zn (((sqT (a % p) p) : Nat)), zm (((sqT (a % p) p) : Nat))]⟩), (7, ⟨false, 1, 36, [zn (sqW (a % p) p (sqT (a % p) p)), zm (sqW (a % p) p (sqT (a % p) p))]⟩)]) (fun _ => True) ?_ ?_
    ·refine AWp_block ?_
     refine AWp_loop (ι := Nat) (fun t => stL [(2, .loc 2 0), (3, .loc 3 0), (4, .loc 4 0), (6, .loc 6 0), (7, .loc 7 0)] [(2, ⟨false, 1, 36, [zn ((a % p)), zm ((a % p))]⟩), (3, ⟨false, 1, 36, [zn (p), zm (p)]⟩), (4, ⟨false, 1, 36, [zn (0), zm (0)]⟩), (6, ⟨false, 1, 36, [zn ((t : Nat)), zm ((t : Nat))]⟩), (7, ⟨false, 1, 36, [zn (sqW (a % p) p t), zm (sqW (a % p) p t)]⟩)]) (fun t => SqI (a % p) p t) (fun t => 2000 - t) 0 SqI.start (le_stL ⟨.refl _, .refl _, .refl _, .refl _, .refl _, trivial⟩ ⟨rfl, rfl, rfl, rfl, Eq.trans rfl (congrArg (fun x : Int => some (⟨false, 1, 36, [zn x, zm x]⟩ : Blk)) (sqW0)), trivial⟩) ?_
     intro t hI
     have hle := hI.le
     have iT : LB ((t : Nat) : Int) 10 := ⟨(show L 6 _ by unfold L; omega).mono (by decide)⟩
     have iW : LB (sqW (a % p) p t) 10 := ⟨sqW_L hp h0⟩
     refine AWp_block ?_
     refine AWp_seq ?_
     refine AWp_block ?_
     refine AWp_sr hP ?_
     refine RK.G2 hT rfl rfl rfl rfl rfl rfl ?_
     refine RK.V (Eff.call0 (int_Sign _)) ?_
     refine RK.V (op_eql rfl rfl) ?_
     refine RK.As rfl ?_
     refine RK.D ?_
     refine AWp_cond rfl (fun hb4 => ?_) (fun hb4 => ?_)
     ·have hb4_ := bT hb4
      refine AWp_exit ?_
      have et := hI.stop (sqStop_z hb4_)
      refine ⟨(), trivial, le_stL ⟨.refl _, .refl _, .refl _, .refl _, .refl _, trivial⟩ ⟨rfl, rfl, rfl, Eq.trans rfl (congrArg (fun x : Int => some (⟨false, 1, 36, [zn x, zm x]⟩ : Blk)) (congrArg (fun t : Nat => (t : Int)) et)), Eq.trans rfl (congrArg (fun x : Int => some (⟨false, 1, 36, [zn x, zm x]⟩ : Blk)) (congrArg (sqW (a % p) p) et)), trivial⟩⟩
     ·have hb4_ := bF hb4
      refine AWp_sr hP ?_
      refine RK.G2 hT rfl rfl rfl rfl rfl rfl ?_
      refine RK.G2 hT rfl rfl rfl rfl rfl rfl ?_
      refine RK.V (Eff.call0 (m_Kronecker _ _ lz lz)) ?_
      refine RK.V (op_eql rfl rfl) ?_
      refine RK.As rfl ?_
      refine RK.D ?_
      refine AWp_cond rfl (fun hb5 => ?_) (fun hb5 => ?_)
      ·have hb5_ := bT hb5
       refine AWp_exit ?_
       have et := hI.stop (sqStop_k hb5_)
       refine ⟨(), trivial, le_stL ⟨.refl _, .refl _, .refl _, .refl _, .refl _, trivial⟩ ⟨rfl, rfl, rfl, Eq.trans rfl (congrArg (fun x : Int => some (⟨false, 1, 36, [zn x, zm x]⟩ : Blk)) (congrArg (fun t : Nat => (t : Int)) et)), Eq.trans rfl (congrArg (fun x : Int => some (⟨false, 1, 36, [zn x, zm x]⟩ : Blk)) (congrArg (sqW (a % p) p) et)), trivial⟩⟩
      ·have hb5_ := bF hb5
       refine AWp_skip ?_
       refine AWp_sr hP ?_
       refine RK.G2 hT rfl rfl rfl rfl rfl rfl ?_
       refine RK.V (Eff.call0 (m_of _ (by first | assumption | decide))) ?_
       refine RK.V (Eff.call0 (int_Add _ _ lz lz)) ?_
       refine RK.S hT rfl rfl rfl rfl rfl rfl rfl ?_
       refine RK.D ?_
       refine AWp_region hP ?_
       refine RK.G2 hT rfl rfl rfl rfl rfl rfl ?_
       refine RK.G2 hT rfl rfl rfl rfl rfl rfl ?_
       refine RK.V (Eff.call0 (int_Mul _ _ lz lz)) ?_
       refine RK.G2 hT rfl rfl rfl rfl rfl rfl ?_
       refine RK.V (Eff.call0 (int_Sub _ _ lz lz)) ?_
       refine RK.G2 hT rfl rfl rfl rfl rfl rfl ?_
       refine RK.V (Eff.call0 (m_mod _ _ lz lz (by omega))) ?_
       refine RK.S hT rfl rfl rfl rfl rfl rfl rfl ?_
       refine RK.D ?_
       have hn := hI.next (sqStop_n hb4_ hb5_) hTs
       refine ⟨t + 1, hn.1, by omega, le_stL ⟨.refl _, .refl _, .refl _, .refl _, .refl _, trivial⟩ ⟨rfl, rfl, rfl, Eq.trans rfl (congrArg (fun x : Int => some (⟨false, 1, 36, [zn x, zm x]⟩ : Blk)) ((Int.natCast_add t 1).symm)), Eq.trans rfl (congrArg (fun x : Int => some (⟨false, 1, 36, [zn x, zm x]⟩ : Blk)) (sqW_succ)), trivial⟩⟩
    intro _ _
    have iT : LB (((sqT (a % p) p) : Nat) : Int) 10 := ⟨sqT_L⟩
    have iW : LB (sqW (a % p) p (sqT (a % p) p)) 10 := ⟨sqW_L hp h0⟩
    have iR : LB (sqR0 (a % p) p) 10 := ⟨sqR0_L hp h0⟩
    refine AWp_sr hP ?_
    refine RK.G2 hT rfl rfl rfl rfl rfl rfl ?_
    refine RK.alc guard_none (op_alloc hT rfl rfl) ?_
    refine RK.S hT rfl rfl rfl rfl rfl rfl rfl ?_
    refine RK.D ?_
    refine AWp_seq_cut (ι := Unit) (fun _ => stL [(3, .loc 3 0), (4, .loc 4 0), (8, .loc 8 0)] [(3, ⟨false, 1, 36, [zn (p), zm (p)]⟩), (4, ⟨false, 1, 36, [zn (0), zm (0)]⟩), (8, ⟨false, 1, 36, [zn (sqR0 (a % p) p), zm (sqR0 (a % p) p)]⟩)]) (fun _ => True) ?_ ?_
    ·refine AWp_sr hP ?_
     refine RK.G2 hT rfl rfl rfl rfl rfl rfl ?_
     refine RK.V (Eff.call0 (int_Sign _)) ?_
     refine RK.V (op_neq rfl rfl) ?_
     refine RK.D ?_
     refine AWp_cond rfl (fun hb6 => ?_) (fun hb6 => ?_)
     ·have hb6_ := bneT hb6
      refine AWp_region hP ?_
      refine RK.G2 hT rfl rfl rfl rfl rfl rfl ?_
      refine RK.G2 hT rfl rfl rfl rfl rfl rfl ?_
      refine RK.G2 hT rfl rfl rfl rfl rfl rfl ?_
      refine RK.V (Eff.call0 (m_half _ _ _ h0 lz lz lz)) ?_
      refine RK.S hT rfl rfl rfl rfl rfl rfl rfl ?_
      refine RK.D ?_
      refine ⟨(), trivial, le_stL ⟨.refl _, .refl _, .refl _, trivial⟩ ⟨rfl, rfl, Eq.trans rfl (congrArg (fun x : Int => some (⟨false, 1, 36, [zn x, zm x]⟩ : Blk)) (sqR0_n hb6_)), trivial⟩⟩
     ·have hb6_ := bneF hb6
      refine AWp_skip ?_
      refine ⟨(), trivial, le_stL ⟨.refl _, .refl _, .refl _, trivial⟩ ⟨rfl, rfl, Eq.trans rfl (congrArg (fun x : Int => some (⟨false, 1, 36, [zn x, zm x]⟩ : Blk)) (sqR0_z hb6_)), trivial⟩⟩
    intro _ _
    refine AWp_seq ?_
    refine AWp_sr hP ?_
    refine RK.G2 hT rfl rfl rfl rfl rfl rfl ?_
    refine RK.V (Eff.call0 (int_Neg _)) ?_
    refine RK.G2 hT rfl rfl rfl rfl rfl rfl ?_
    refine RK.V (Eff.call0 (m_mod _ _ lz lz (by omega))) ?_
    refine RK.alc guard_none (op_alloc hT rfl rfl) ?_
    refine RK.S hT rfl rfl rfl rfl rfl rfl rfl ?_
    refine RK.D ?_
    refine AWp_sr hP ?_
    refine RK.G2 hT rfl rfl rfl rfl rfl rfl ?_
    refine RK.G2 hT rfl rfl rfl rfl rfl rfl ?_
    refine RK.V (Eff.call0 (int_Cmp _ _)) ?_
    refine RK.V (op_lss rfl rfl) ?_
    refine RK.D ?_
    refine AWp_cond rfl (fun hb7 => ?_) (fun hb7 => ?_)
    ·have hb7_ := of_decide_eq_true hb7
     refine AWp_region hP ?_
     refine RK.G2 hT rfl rfl rfl rfl rfl rfl ?_
     refine RK.S hT rfl rfl rfl rfl rfl rfl rfl ?_
     refine RK.D ?_
     refine AWp_sr hP ?_
     refine RK.G2 hT rfl rfl rfl rfl rfl rfl ?_
     refine RK.S hT rfl rfl rfl rfl rfl rfl rfl ?_
     refine RK.As rfl ?_
     refine RK.D ?_
     refine AWp_ret ?_
     refine ends_two rfl (.inr rfl) (res_cell_agg hT rfl rfl rfl rfl (cs := [_, _]) rfl rfl) (res_tmp rfl) ?_ O_ends
     exact Sub.of_eq (sq_e3 hOd hAz hb3_ (sqR1_y hb7_))
    ·have hb7_ := of_decide_eq_false hb7
     refine AWp_skip ?_
     refine AWp_sr hP ?_
     refine RK.G2 hT rfl rfl rfl rfl rfl rfl ?_
     refine RK.S hT rfl rfl rfl rfl rfl rfl rfl ?_
     refine RK.As rfl ?_
     refine RK.D ?_
     refine AWp_ret ?_
     refine ends_two rfl (.inr rfl) (res_cell_agg hT rfl rfl rfl rfl (cs := [_, _]) rfl rfl) (res_tmp rfl) ?_ O_ends
     exact Sub.of_eq (sq_e3 hOd hAz hb3_ (sqR1_n hb7_))
end Go.Proofs.YtpaifigafaijpaaGreatDoor
end

section
/- sorting -/
namespace Go.Proofs.YtpaifigafaijpaaGreatDoor
open Go Go.AM
set_option maxRecDepth 100000
set_option maxHeartbeats 1000000
theorem cmp_isNaN (x : Int) :
  Call0 Tryz.prog 177 [Z x] (B false) := by
 refine callM_of (np := 0) Tryz.func177 (by kernel_rfl) rfl rfl (Nat.le_of_ble_eq_true rfl) (fun m h => absurd rfl h) (fun m h => absurd rfl h) rfl ?_
 refine AWp_sr hP ?_
 refine RK.As rfl ?_
 refine RK.D ?_
 refine AWp_sr hP ?_
 refine RK.M rfl ?_
 refine RK.M rfl ?_
 refine RK.V (op_neq rfl rfl) ?_
 refine RK.As rfl ?_
 refine RK.D ?_
 refine AWp_ret ?_
 refine ends_one rfl (.inr rfl) (res_tmp rfl) ?_ O_ends
 exact Sub.bool (by simp)
theorem cmp_Less (x y : Int) :
  Call0 Tryz.prog 255 [Z x, Z y] (B (decide (x < y))) := by
 refine callM_of (np := 0) Tryz.func255 (by kernel_rfl) rfl rfl (Nat.le_of_ble_eq_true rfl) (fun m h => absurd rfl h) (fun m h => absurd rfl h) rfl ?_
 refine AWp_sr hP ?_
 refine RK.As rfl ?_
 refine RK.D ?_
 refine AWp_sr hP ?_
 refine RK.M rfl ?_
 refine RK.V (Eff.call0 (cmp_isNaN _)) ?_
 refine RK.M rfl ?_
 refine RK.skip (guard_no rfl rfl rfl) ?_
 refine RK.skip (guard_no rfl rfl rfl) ?_
 refine RK.skip (guard_no rfl rfl rfl) ?_
 refine RK.V (op_pick_f rfl rfl (rfl : _ = AV.p (.c _))) ?_
 refine RK.M rfl ?_
 refine RK.val (guard_yes rfl rfl rfl) (op_move (rfl : _ = AV.p (.c _))) ?_
 refine RK.val (guard_yes rfl rfl rfl) (op_move (rfl : _ = AV.p (.c _))) ?_
 refine RK.val (guard_yes rfl rfl rfl) (op_lss rfl rfl) ?_
 refine RK.V (op_pick_f rfl rfl (rfl : _ = AV.p (.c _))) ?_
 refine RK.As rfl ?_
 refine RK.D ?_
 refine AWp_ret ?_
 refine ends_one rfl (.inr rfl) (res_tmp rfl) ?_ O_ends
 exact .refl _
theorem co_isPrime (x : Int) (h1 : 2 ≤ x) (h2 : x ≤ 1000000) :
  Call0 Tryz.prog 189 [Z x] (B (primeB x)) := by
 refine callM_of (np := 0) Tryz.func189 (by kernel_rfl) rfl rfl (Nat.le_of_ble_eq_true rfl) (fun m h => absurd rfl h) (fun m h => absurd rfl h) rfl ?_
 refine AWp_sr hP ?_
 refine RK.As rfl ?_
 refine RK.D ?_
 refine AWp_seq ?_
 refine AWp_sr hP ?_
 refine RK.As rfl ?_
 refine RK.D ?_
 refine AWp_block ?_
 refine AWp_loop (ι := Int) (fun d => stL [(0, Z x), (3, Z d)] []) (fun d => 2 ≤ d ∧ d ≤ 1001 ∧ primeGo x (1002 - d).toNat d = primeB x) (fun d => (1002 - d).toNat) 2 ⟨by decide, by decide, rfl⟩ (le_stL ⟨.refl _, .refl _, trivial⟩ trivial) ?_
 rintro d ⟨hd1, hd2, hd3⟩
 have qs := sq_b (x := d) (m := 1001) (by omega)
 refine AWp_seq ?_
 refine AWp_sr hP ?_
 refine RK.M rfl ?_
 refine RK.M rfl ?_
 refine RK.V (op_mul rfl rfl (by first | exact IntWalk.i64_in _ (by omega) | rfl)) ?_
 refine RK.M rfl ?_
 refine RK.V (op_leq rfl rfl) ?_
 refine RK.D ?_
 refine AWp_cond rfl (fun hb1 => ?_) (fun hb1 => ?_)
 ·have hb1_ := of_decide_eq_true hb1
  refine AWp_skip ?_
  refine AWp_seq ?_
  refine AWp_block ?_
  refine AWp_sr hP ?_
  refine RK.M rfl ?_
  refine RK.M rfl ?_
  refine RK.V (op_rem rfl rfl (by omega) (c := x % d) (Int.tmod_eq_emod_of_nonneg (by omega))) ?_
  refine RK.V (op_eql rfl rfl) ?_
  refine RK.D ?_
  refine AWp_cond rfl (fun hb2 => ?_) (fun hb2 => ?_)
  ·have hb2_ := bT hb2
   refine AWp_sr hP ?_
   refine RK.As rfl ?_
   refine RK.D ?_
   refine AWp_ret ?_
   refine ends_one rfl (.inr rfl) (res_tmp rfl) ?_ O_ends
   exact Sub.bool (prm_no hd3 (by omega) hb1_ hb2_)
  ·have hb2_ := bF hb2
   refine AWp_skip ?_
   refine AWp_region hP ?_
   refine RK.M rfl ?_
   refine RK.V (op_add rfl rfl (by first | exact IntWalk.i64_in _ (by omega) | rfl)) ?_
   refine RK.As rfl ?_
   refine RK.D ?_
   have := pr_le hd1 hb1_ h2
   refine ⟨d + 1, ⟨by omega, by omega, pr_go hd3 (by omega) hb1_ hb2_⟩, by omega, le_stL ⟨.refl _, .refl _, trivial⟩ trivial⟩
 ·have hb1_ := of_decide_eq_false hb1
  refine AWp_exit ?_
  refine AWp_sr hP ?_
  refine RK.M rfl ?_
  refine RK.V (op_gtr rfl rfl) ?_
  refine RK.As rfl ?_
  refine RK.D ?_
  refine AWp_ret ?_
  refine ends_one rfl (.inr rfl) (res_tmp rfl) ?_ O_ends
  exact Sub.bool (prm_yes hd3 (by omega) hb1_ h1)
theorem len64 (x : Nat) (hx : x < 256) :
  Call0 Tryz.prog 206 [.p (.c (.v (.int .u64 ((x : Nat) : Int))))] (Z (blen x)) := by
 have h8 := blen8_le (m := x) (by omega)
 refine callM_of (np := 0) Tryz.func206 (by kernel_rfl) rfl rfl (Nat.le_of_ble_eq_true rfl) (fun m h => absurd rfl h) (fun m h => absurd rfl h) rfl ?_
 refine AWp_sr hP ?_
 refine RK.As rfl ?_
 refine RK.D ?_
 refine AWp_seq ?_
 refine AWp_sr hP ?_
 refine RK.M rfl ?_
 refine RK.V (op_geq rfl rfl) ?_
 refine RK.D ?_
 refine AWp_cond_false rfl (decide_eq_false (by omega)) ?_
 refine AWp_skip ?_
 refine AWp_seq ?_
 refine AWp_sr hP ?_
 refine RK.M rfl ?_
 refine RK.V (op_geq rfl rfl) ?_
 refine RK.D ?_
 refine AWp_cond_false rfl (decide_eq_false (by omega)) ?_
 refine AWp_skip ?_
 refine AWp_seq ?_
 refine AWp_sr hP ?_
 refine RK.M rfl ?_
 refine RK.V (op_geq rfl rfl) ?_
 refine RK.D ?_
 refine AWp_cond_false rfl (decide_eq_false (by omega)) ?_
 refine AWp_skip ?_
 refine AWp_sr hP ?_
 refine RK.M rfl ?_
 refine RK.M rfl ?_
 refine RK.V (op_conv hT rfl rfl rfl rfl (IntWalk.u8_in _ (by omega))) ?_
 refine RK.V (op_len8 rfl rfl (by omega)) ?_
 refine RK.V (op_conv hT rfl rfl rfl rfl (IntWalk.i64_in _ (by omega))) ?_
 refine RK.V (op_add rfl rfl (IntWalk.i64_in _ (by omega))) ?_
 refine RK.As rfl ?_
 refine RK.D ?_
 refine AWp_ret ?_
 refine ends_one rfl (.inr rfl) (res_tmp rfl) ?_ O_ends
 exact Sub.int (by omega)
theorem bits_Len (x : Nat) (hx : x < 256) :
  Call0 Tryz.prog 152 [.p (.c (.v (.int .u64 ((x : Nat) : Int))))] (Z (blen x)) := by
 refine callM_of (np := 0) Tryz.func152 (by kernel_rfl) rfl rfl (Nat.le_of_ble_eq_true rfl) (fun m h => absurd rfl h) (fun m h => absurd rfl h) rfl ?_
 refine AWp_sr hP ?_
 refine RK.As rfl ?_
 refine RK.D ?_
 refine AWp_seq ?_
 refine AWp_cond_false rfl rfl ?_
 refine AWp_skip ?_
 refine AWp_sr hP ?_
 refine RK.M rfl ?_
 refine RK.V (Eff.call0 (len64 _ (by omega))) ?_
 refine RK.As rfl ?_
 refine RK.D ?_
 refine AWp_ret ?_
 refine ends_one rfl (.inr rfl) (res_tmp rfl) ?_ O_ends
 exact .refl _
theorem sl_insertion3 (x y z : Int) (h1 : x ≤ y) (h2 : y ≤ z) :
  Call0 Tryz.prog 249 [.p (.c (.sl 3 [.v (.int .i64 x), .v (.int .i64 y), .v (.int .i64 z)])), Z 0, Z 3] (.t []) := by
 refine callM_of (np := 0) Tryz.func249 (by kernel_rfl) rfl rfl (Nat.le_of_ble_eq_true rfl) (fun m h => absurd rfl h) (fun m h => absurd rfl h) rfl ?_
 refine AWp_sr hP ?_
 refine RK.M rfl ?_
 refine RK.V (op_add rfl rfl (by first | exact IntWalk.i64_in _ (by omega) | rfl)) ?_
 refine RK.As rfl ?_
 refine RK.D ?_
 refine AWp_block ?_
 refine AWp_unroll 3 ?_
 refine AWp_seq ?_
 refine AWp_sr hP ?_
 refine RK.M rfl ?_
 refine RK.M rfl ?_
 refine RK.V (op_lss rfl rfl) ?_
 refine RK.D ?_
 refine AWp_cond_true rfl (by decide) ?_
 refine AWp_skip ?_
 refine AWp_seq ?_
 refine AWp_block ?_
 refine AWp_sr hP ?_
 refine RK.M rfl ?_
 refine RK.As rfl ?_
 refine RK.D ?_
 refine AWp_block ?_
 refine AWp_unroll 1 ?_
 refine AWp_seq ?_
 refine AWp_sr hP ?_
 refine RK.M rfl ?_
 refine RK.M rfl ?_
 refine RK.V (op_gtr rfl rfl) ?_
 refine RK.M rfl ?_
 refine RK.val (guard_yes rfl rfl (by decide)) (op_move (rfl : _ = AV.p (.c _))) ?_
 refine RK.val (guard_yes rfl rfl (by decide)) (op_move (rfl : _ = AV.p (.c _))) ?_
 refine RK.val (guard_yes rfl rfl (by decide)) (op_index_sl hT rfl rfl rfl rfl (by rfl) rfl (by omega) (by simp)) ?_
 refine RK.val (guard_yes rfl rfl (by decide)) (op_load_ip_one hT rfl rfl rfl rfl) ?_
 refine RK.val (guard_yes rfl rfl (by decide)) (op_move (rfl : _ = AV.p (.c _))) ?_
 refine RK.val (guard_yes rfl rfl (by decide)) (op_move (rfl : _ = AV.p (.c _))) ?_
 refine RK.val (guard_yes rfl rfl (by decide)) (op_sub rfl rfl (by first | exact IntWalk.i64_in _ (by omega) | rfl)) ?_
 refine RK.val (guard_yes rfl rfl (by decide)) (op_index_sl hT rfl rfl rfl rfl (by rfl) rfl (by omega) (by simp)) ?_
 refine RK.val (guard_yes rfl rfl (by decide)) (op_load_ip_one hT rfl rfl rfl rfl) ?_
 refine RK.val (guard_yes rfl rfl (by decide)) (Eff.call0 (cmp_Less _ _)) ?_
 refine RK.V (op_pick_t rfl (by decide) (rfl : _ = AV.p (.c _))) ?_
 refine RK.D ?_
 refine AWp_cond_false rfl (decide_eq_false (by omega)) ?_
 refine AWp_exit ?_
 refine AWp_region hP ?_
 refine RK.M rfl ?_
 refine RK.V (op_add rfl rfl (by first | exact IntWalk.i64_in _ (by omega) | rfl)) ?_
 refine RK.As rfl ?_
 refine RK.D ?_
 refine AWp_seq ?_
 refine AWp_sr hP ?_
 refine RK.M rfl ?_
 refine RK.M rfl ?_
 refine RK.V (op_lss rfl rfl) ?_
 refine RK.D ?_
 refine AWp_cond_true rfl (by decide) ?_
 refine AWp_skip ?_
 refine AWp_seq ?_
 refine AWp_block ?_
 refine AWp_sr hP ?_
 refine RK.M rfl ?_
 refine RK.As rfl ?_
 refine RK.D ?_
 refine AWp_block ?_
 refine AWp_unroll 1 ?_
 refine AWp_seq ?_
 refine AWp_sr hP ?_
 refine RK.M rfl ?_
 refine RK.M rfl ?_
 refine RK.V (op_gtr rfl rfl) ?_
 refine RK.M rfl ?_
 refine RK.val (guard_yes rfl rfl (by decide)) (op_move (rfl : _ = AV.p (.c _))) ?_
 refine RK.val (guard_yes rfl rfl (by decide)) (op_move (rfl : _ = AV.p (.c _))) ?_
 refine RK.val (guard_yes rfl rfl (by decide)) (op_index_sl hT rfl rfl rfl rfl (by rfl) rfl (by omega) (by simp)) ?_
 refine RK.val (guard_yes rfl rfl (by decide)) (op_load_ip_one hT rfl rfl rfl rfl) ?_
 refine RK.val (guard_yes rfl rfl (by decide)) (op_move (rfl : _ = AV.p (.c _))) ?_
 refine RK.val (guard_yes rfl rfl (by decide)) (op_move (rfl : _ = AV.p (.c _))) ?_
 refine RK.val (guard_yes rfl rfl (by decide)) (op_sub rfl rfl (by first | exact IntWalk.i64_in _ (by omega) | rfl)) ?_
 refine RK.val (guard_yes rfl rfl (by decide)) (op_index_sl hT rfl rfl rfl rfl (by rfl) rfl (by omega) (by simp)) ?_
 refine RK.val (guard_yes rfl rfl (by decide)) (op_load_ip_one hT rfl rfl rfl rfl) ?_
 refine RK.val (guard_yes rfl rfl (by decide)) (Eff.call0 (cmp_Less _ _)) ?_
 refine RK.V (op_pick_t rfl (by decide) (rfl : _ = AV.p (.c _))) ?_
 refine RK.D ?_
 refine AWp_cond_false rfl (decide_eq_false (by omega)) ?_
 refine AWp_exit ?_
 refine AWp_region hP ?_
 refine RK.M rfl ?_
 refine RK.V (op_add rfl rfl (by first | exact IntWalk.i64_in _ (by omega) | rfl)) ?_
 refine RK.As rfl ?_
 refine RK.D ?_
 refine AWp_seq ?_
 refine AWp_sr hP ?_
 refine RK.M rfl ?_
 refine RK.M rfl ?_
 refine RK.V (op_lss rfl rfl) ?_
 refine RK.D ?_
 refine AWp_cond_false rfl (by decide) ?_
 refine AWp_exit ?_
 refine ends_none rfl (.inl rfl)  ?_ O_ends
 exact .refl _
theorem sl_pdq3 (x y z l : Int) (h1 : x ≤ y) (h2 : y ≤ z) :
  Call0 Tryz.prog 245 [.p (.c (.sl 3 [.v (.int .i64 x), .v (.int .i64 y), .v (.int .i64 z)])), Z 0, Z 3, Z l] (.t []) := by
 refine callM_of (np := 0) Tryz.func245 (by kernel_rfl) rfl rfl (Nat.le_of_ble_eq_true rfl) (fun m h => absurd rfl h) (fun m h => absurd rfl h) rfl ?_
 refine AWp_sr hP ?_
 refine RK.As rfl ?_
 refine RK.D ?_
 refine AWp_sr hP ?_
 refine RK.As rfl ?_
 refine RK.D ?_
 refine AWp_block ?_
 refine AWp_unroll 1 ?_
 refine AWp_block ?_
 refine AWp_sr hP ?_
 refine RK.M rfl ?_
 refine RK.M rfl ?_
 refine RK.V (op_sub rfl rfl (by first | exact IntWalk.i64_in _ (by omega) | rfl)) ?_
 refine RK.As rfl ?_
 refine RK.D ?_
 refine AWp_seq ?_
 refine AWp_sr hP ?_
 refine RK.M rfl ?_
 refine RK.V (op_leq rfl rfl) ?_
 refine RK.D ?_
 refine AWp_cond_true rfl (by decide) ?_
 refine AWp_sr hP ?_
 refine RK.M rfl ?_
 refine RK.M rfl ?_
 refine RK.M rfl ?_
 refine RK.V (Eff.call0 (sl_insertion3 x y z h1 h2)) ?_
 refine RK.D ?_
 refine AWp_ret ?_
 refine ends_none rfl (.inr rfl)  ?_ O_ends
 exact .refl _
theorem sl_Sort3 (x y z : Int) (h1 : x ≤ y) (h2 : y ≤ z) :
  Call0 Tryz.prog 224 [.p (.c (.sl 3 [.v (.int .i64 x), .v (.int .i64 y), .v (.int .i64 z)]))] (.t []) := by
 refine callM_of (np := 0) Tryz.func224 (by kernel_rfl) rfl rfl (Nat.le_of_ble_eq_true rfl) (fun m h => absurd rfl h) (fun m h => absurd rfl h) rfl ?_
 refine AWp_sr hP ?_
 refine RK.M rfl ?_
 refine RK.V (op_len hT rfl rfl rfl (by rfl)) ?_
 refine RK.As rfl ?_
 refine RK.D ?_
 refine AWp_region hP ?_
 refine RK.M rfl ?_
 refine RK.M rfl ?_
 refine RK.M rfl ?_
 refine RK.V (op_conv hT rfl rfl rfl rfl (c := ((3 : Nat) : Int)) rfl) ?_
 refine RK.V (Eff.call0 (bits_Len 3 (by decide))) ?_
 refine RK.V (Eff.call0 (sl_pdq3 x y z _ h1 h2)) ?_
 refine RK.D ?_
 refine ends_none rfl (.inl rfl)  ?_ O_ends
 exact .refl _
theorem sl_Index3 (F : FuncId) (caps : List (List DV)) (p : Int → Bool) (x y z : Int) (hx : Call0 Tryz.prog F (Z x :: caps.map .ip) (B (p x))) (hy : Call0 Tryz.prog F (Z y :: caps.map .ip) (B (p y))) (hp : p x = false → p y = true) :
  Call0 Tryz.prog 225 [.p (.c (.sl 3 [.v (.int .i64 x), .v (.int .i64 y), .v (.int .i64 z)])), .fn F caps] (Z (if p x then 0 else 1)) := by
 refine callM_of (np := 0) Tryz.func225 (by kernel_rfl) rfl rfl (Nat.le_of_ble_eq_true rfl) (fun m h => absurd rfl h) (fun m h => absurd rfl h) rfl ?_
 refine AWp_sr hP ?_
 refine RK.As rfl ?_
 refine RK.D ?_
 refine AWp_seq ?_
 refine AWp_sr hP ?_
 refine RK.M rfl ?_
 refine RK.V (op_len hT rfl rfl rfl (by rfl)) ?_
 refine RK.M rfl ?_
 refine RK.D ?_
 refine AWp_block ?_
 refine AWp_unroll 2 ?_
 refine AWp_sr hP ?_
 refine RK.V (op_lss rfl rfl) ?_
 refine RK.D ?_
 refine AWp_seq ?_
 refine AWp_cond_true rfl (by decide) ?_
 refine AWp_skip ?_
 refine AWp_seq ?_
 refine AWp_block ?_
 refine AWp_sr hP ?_
 refine RK.M rfl ?_
 refine RK.As rfl ?_
 refine RK.D ?_
 refine AWp_sr hP ?_
 refine RK.V (op_move (rfl : _ = AV.fn _ _)) ?_
 refine RK.M rfl ?_
 refine RK.M rfl ?_
 refine RK.V (op_index_sl hT rfl rfl rfl rfl (by rfl) rfl (by omega) (by simp)) ?_
 refine RK.V (op_load_ip_one hT rfl rfl rfl rfl) ?_
 refine RK.V (Eff.callC rfl hx) ?_
 refine RK.D ?_
 refine AWp_cond rfl (fun hb1 => ?_) (fun hb1 => ?_)
 ·refine AWp_sr hP ?_
  refine RK.M rfl ?_
  refine RK.As rfl ?_
  refine RK.D ?_
  refine AWp_ret ?_
  refine ends_one rfl (.inr rfl) (res_tmp rfl) ?_ O_ends
  exact Sub.int (by rw [if_pos hb1])
 ·refine AWp_skip ?_
  refine AWp_region hP ?_
  refine RK.V (op_add rfl rfl (by first | exact IntWalk.i64_in _ (by omega) | rfl)) ?_
  refine RK.M rfl ?_
  refine RK.D ?_
  refine AWp_sr hP ?_
  refine RK.V (op_lss rfl rfl) ?_
  refine RK.D ?_
  refine AWp_seq ?_
  refine AWp_cond_true rfl (by decide) ?_
  refine AWp_skip ?_
  refine AWp_seq ?_
  refine AWp_block ?_
  refine AWp_sr hP ?_
  refine RK.M rfl ?_
  refine RK.As rfl ?_
  refine RK.D ?_
  refine AWp_sr hP ?_
  refine RK.V (op_move (rfl : _ = AV.fn _ _)) ?_
  refine RK.M rfl ?_
  refine RK.M rfl ?_
  refine RK.V (op_index_sl hT rfl rfl rfl rfl (by rfl) rfl (by omega) (by simp)) ?_
  refine RK.V (op_load_ip_one hT rfl rfl rfl rfl) ?_
  refine RK.V (Eff.callC rfl hy) ?_
  refine RK.D ?_
  refine AWp_cond_true rfl (hp hb1) ?_
  refine AWp_sr hP ?_
  refine RK.M rfl ?_
  refine RK.As rfl ?_
  refine RK.D ?_
  refine AWp_ret ?_
  refine ends_one rfl (.inr rfl) (res_tmp rfl) ?_ O_ends
  exact Sub.int (by rw [if_neg (by rw [hb1]; decide)]; decide)
theorem co_middle1 (v m : Int) (h0 : 0 ≤ v) :
  Call0 Tryz.prog 226 [Z v, .ip [.v (.int .i64 m)]] (B (decide (v % 2 = m))) := by
 refine callM_of (np := 0) Tryz.func226 (by kernel_rfl) rfl rfl (Nat.le_of_ble_eq_true rfl) (fun m h => absurd rfl h) (fun m h => absurd rfl h) rfl ?_
 refine AWp_sr hP ?_
 refine RK.As rfl ?_
 refine RK.D ?_
 refine AWp_sr hP ?_
 refine RK.M rfl ?_
 refine RK.V (op_rem rfl rfl (by decide) (c := v % 2) (Int.tmod_eq_emod_of_nonneg (by omega))) ?_
 refine RK.V (op_load_ip_one hT rfl rfl rfl rfl) ?_
 refine RK.V (op_eql rfl rfl) ?_
 refine RK.As rfl ?_
 refine RK.D ?_
 refine AWp_ret ?_
 refine ends_one rfl (.inr rfl) (res_tmp rfl) ?_ O_ends
 exact Sub.bool (by rw [Bool.eq_iff_iff]; simp)
end Go.Proofs.YtpaifigafaijpaaGreatDoor
end

section
/- the middle coefficient -/
namespace Go.Proofs.YtpaifigafaijpaaGreatDoor
open Go Go.AM
set_option maxRecDepth 100000
set_option maxHeartbeats 1000000
set_option maxHeartbeats 4000000 in
theorem co_middle (d p : Int) (h3 : 3 ≤ p) (hp6 : p ≤ 1048576) (ho : p % 2 = 1) (hd : L 10 d) (hst : oddB p = true → d % p ≠ 0 → kr (d % p) p = 1 → sqStop (d % p) p (sqT (d % p) p) = true) (hr : 0 ≤ sqV (d % p) p ∧ 2 * sqV (d % p) p ≤ p) :
  Call0 Tryz.prog 190 [I d, Z p] (.t [.c (.v (.int .i64 (mdV d p))), PB (decide (sqE (d % p) p = 0))]) := by
 have id : LB d 10 := ⟨hd⟩
 have ip : LB p 10 := ⟨(show L 6 p by unfold L; omega).mono (by decide)⟩
 have jp : InI64 p := by unfold InI64; omega
 have hr1 := hr.1
 have hr2 := hr.2
 refine callM_of (np := 0) Tryz.func190 (by kernel_rfl) rfl rfl (Nat.le_of_ble_eq_true rfl) (fun m h => absurd rfl h) (fun m h => absurd rfl h) rfl ?_
 refine AWp_sr hP ?_
 refine RK.alc guard_none (op_box rfl rfl) ?_
 refine RK.As rfl ?_
 refine RK.As rfl ?_
 refine RK.D ?_
 refine AWp_sr hP ?_
 refine RK.alc guard_none (op_alloc hT rfl rfl) ?_
 refine RK.S hT rfl rfl rfl rfl rfl rfl rfl ?_
 refine RK.D ?_
 refine AWp_seq_cut (ι := Unit) (fun _ => stL [(1, Z p), (2, .loc 2 0), (6, .loc 6 0)] [(2, ⟨false, 1, 36, [zn (d), zm (d)]⟩), (6, ⟨false, 1, 3, [.v (.int .i64 (mdP d))]⟩)]) (fun _ => True) ?_ ?_
 ·refine AWp_sr hP ?_
  refine RK.F hT rfl rfl rfl rfl rfl rfl ?_
  refine RK.V (op_load_one hT rfl rfl rfl rfl (by first | rfl | exact vget (by omega))) ?_
  refine RK.V (op_len hT rfl rfl rfl rfl) ?_
  refine RK.V (op_gtr rfl rfl) ?_
  refine RK.M rfl ?_
  refine RK.split (t := 19) rfl (fun hg1 => ?_) (fun hg1 => ?_)
  ·have hg1_ := of_decide_eq_true hg1
   refine RK.val (guard_yes rfl rfl hg1) (op_field_loc hT rfl rfl rfl rfl rfl rfl) ?_
   refine RK.val (guard_yes rfl rfl hg1) (op_load_one hT rfl rfl rfl rfl (by first | rfl | exact vget (by omega))) ?_
   refine RK.val (guard_yes rfl rfl hg1) (by first | exact op_index_WN hT rfl rfl rfl rfl rfl rfl (by omega) | exact op_index_sl hT rfl rfl rfl rfl rfl rfl (by omega) (by first | exact W_ne (by omega) | simp)) ?_
   refine RK.val (guard_yes rfl rfl hg1) (op_load_ip_one hT rfl rfl rfl (by first | rfl | exact wget (by omega))) ?_
   refine RK.val (guard_yes rfl rfl hg1) (op_andN (m := (wl d.natAbs).getD 0 0) (n := 1) rfl rfl rfl (lt32 ((wl_ok d.natAbs).getD 0)) (by decide)) ?_
   refine RK.val (guard_yes rfl rfl hg1) (op_eql rfl rfl) ?_
   refine RK.V (op_pick_t rfl hg1 (rfl : _ = AV.p (.c _))) ?_
   refine RK.D ?_
   refine AWp_cond rfl (fun hb2 => ?_) (fun hb2 => ?_)
   ·have hb2_ := bT hb2
    refine AWp_region hP ?_
    refine RK.S hT rfl rfl rfl rfl rfl rfl rfl ?_
    refine RK.D ?_
    refine ⟨(), trivial, le_stL ⟨.refl _, .refl _, .refl _, trivial⟩ ⟨rfl, Eq.trans rfl (congrArg (fun x : Int => some (⟨false, 1, 3, [.v (.int .i64 x)]⟩ : Blk)) (mdP_odd ((odd_yes hg1_).symm.trans hb2))), trivial⟩⟩
   ·have hb2_ := bF hb2
    refine AWp_skip ?_
    refine ⟨(), trivial, le_stL ⟨.refl _, .refl _, .refl _, trivial⟩ ⟨rfl, Eq.trans rfl (congrArg (fun x : Int => some (⟨false, 1, 3, [.v (.int .i64 x)]⟩ : Blk)) (mdP_even ((odd_yes hg1_).symm.trans hb2))), trivial⟩⟩
  ·have hg1_ := of_decide_eq_false hg1
   refine RK.skip (guard_no rfl rfl hg1) ?_
   refine RK.skip (guard_no rfl rfl hg1) ?_
   refine RK.skip (guard_no rfl rfl hg1) ?_
   refine RK.skip (guard_no rfl rfl hg1) ?_
   refine RK.skip (guard_no rfl rfl hg1) ?_
   refine RK.skip (guard_no rfl rfl hg1) ?_
   refine RK.V (op_pick_f rfl hg1 (rfl : _ = AV.p (.c _))) ?_
   refine RK.D ?_
   refine AWp_cond_false rfl rfl ?_
   refine AWp_skip ?_
   refine ⟨(), trivial, le_stL ⟨.refl _, .refl _, .refl _, trivial⟩ ⟨rfl, Eq.trans rfl (congrArg (fun x : Int => some (⟨false, 1, 3, [.v (.int .i64 x)]⟩ : Blk)) (mdP_even (odd_no hg1_).symm)), trivial⟩⟩
 intro _ _
 refine AWp_seq ?_
 refine AWp_sr hP ?_
 refine RK.M rfl ?_
 refine RK.V (op_eql rfl rfl) ?_
 refine RK.D ?_
 refine AWp_cond_false rfl (decide_eq_false (by omega)) ?_
 refine AWp_skip ?_
 refine AWp_sr hP ?_
 refine RK.G2 hT rfl rfl rfl rfl rfl rfl ?_
 refine RK.M rfl ?_
 refine RK.V (Eff.call0 (co_of _ (by first | assumption | decide))) ?_
 refine RK.V (Eff.call0 (m_Sqrt d p (by omega) lz lz hst)) ?_
 refine RK.V (op_move (rfl : _ = AV.t _)) ?_
 refine RK.V (op_extract rfl (v := .a _) rfl) ?_
 refine RK.V (op_extract rfl (v := .c _) rfl) ?_
 refine RK.alc guard_none (op_alloc hT rfl rfl) ?_
 refine RK.S hT rfl rfl rfl rfl rfl rfl rfl ?_
 refine RK.As rfl ?_
 refine RK.D ?_
 refine AWp_seq ?_
 refine AWp_sr hP ?_
 refine RK.M rfl ?_
 refine RK.V (op_neq rfl rfl) ?_
 refine RK.D ?_
 refine AWp_cond rfl (fun hb3 => ?_) (fun hb3 => ?_)
 ·have hb3_ := bneT hb3
  refine AWp_sr hP ?_
  refine RK.As rfl ?_
  refine RK.As rfl ?_
  refine RK.D ?_
  refine AWp_ret ?_
  refine ends_two rfl (.inr rfl) (res_tmp rfl) (res_tmp rfl) ?_ O_ends
  exact Sub.of_eq (md_no hb3_)
 ·have hb3_ := bneF hb3
  refine AWp_skip ?_
  refine AWp_sr hP ?_
  refine RK.G2 hT rfl rfl rfl rfl rfl rfl ?_
  refine RK.V (Eff.call0 (int_Low _ (by omega) (by omega))) ?_
  refine RK.V (op_move (rfl : _ = AV.t _)) ?_
  refine RK.V (op_extract rfl (v := .c _) rfl) ?_
  refine RK.V (op_extract rfl (v := .c _) rfl) ?_
  refine RK.As rfl ?_
  refine RK.As rfl ?_
  refine RK.D ?_
  refine AWp_sr hP ?_
  refine RK.M rfl ?_
  refine RK.M rfl ?_
  refine RK.M rfl ?_
  refine RK.V (op_sub rfl rfl (by first | exact IntWalk.i64_in _ (by omega) | rfl)) ?_
  refine RK.M rfl ?_
  refine RK.M rfl ?_
  refine RK.V (op_add rfl rfl (by first | exact IntWalk.i64_in _ (by omega) | rfl)) ?_
  refine RK.V (op_bslice hT rfl rfl rfl (es := [_, _, _]) rfl rfl rfl) ?_
  refine RK.As rfl ?_
  refine RK.D ?_
  refine AWp_sr hP ?_
  refine RK.M rfl ?_
  refine RK.V (Eff.call0 (sl_Sort3 _ _ _ (by omega) (by omega))) ?_
  refine RK.D ?_
  refine AWp_freezeBox (t := 6) rfl rfl ?_
  refine AWp_sr hP ?_
  refine RK.M rfl ?_
  refine RK.M rfl ?_
  refine RK.V (op_makeFunc rfl) ?_
  refine RK.V (Eff.call0 (sl_Index3 226 [[.v (.int .i64 (mdP d))]] (fun v : Int => decide (v % 2 = mdP d)) _ _ _ (co_middle1 _ _ (by omega)) (co_middle1 _ _ (by omega)) (md_other ho))) ?_
  refine RK.V (op_index_sl hT rfl rfl rfl rfl (by rfl) rfl (ix3b _) (by simp)) ?_
  refine RK.V (op_load_ip_one hT rfl rfl rfl ix3) ?_
  refine RK.As rfl ?_
  refine RK.As rfl ?_
  refine RK.D ?_
  refine AWp_ret ?_
  refine ends_two rfl (.inr rfl) (res_tmp rfl) (res_tmp rfl) ?_ O_ends
  exact Sub.of_eq (md_yes hb3_)
end Go.Proofs.YtpaifigafaijpaaGreatDoor
end

section
/- compose.Prime over odd primes -/
namespace Go.Proofs.YtpaifigafaijpaaGreatDoor
open Go Go.AM
set_option maxRecDepth 100000
set_option maxHeartbeats 1000000
set_option maxHeartbeats 4000000 in
theorem co_Prime (d p : Int) (h3 : 3 ≤ p) (hp6 : p < 1048576) (ho : p % 2 = 1) (hd : L 10 d) (hst : oddB p = true → d % p ≠ 0 → kr (d % p) p = 1 → sqStop (d % p) p (sqT (d % p) p) = true) (hr : 0 ≤ sqV (d % p) p ∧ 2 * sqV (d % p) p ≤ p) (hp1 : p ≤ 1000000) :
  Call0 Tryz.prog 145 [I d, Z p] (.t [PF (pmV d p), PE (pmE d p)]) := by
 have id : LB d 10 := ⟨hd⟩
 have ip : LB p 10 := ⟨(show L 6 p by unfold L; omega).mono (by decide)⟩
 have jp : InI64 p := by unfold InI64; omega
 have hm := mdV_b hr
 have hm1 := hm.1
 have hm2 := hm.2
 have hs := sq_bp hm (by omega)
 have im : LB (mdV d p) 10 := ⟨(show L 6 _ by unfold L; omega).mono (by decide)⟩
 have jm : InI64 (mdV d p) := by unfold InI64; omega
 have js : InI64 (mdV d p * mdV d p) := by unfold InI64; omega
 have j4 : InI64 (4 * p) := by unfold InI64; omega
 have iq : LB ((mdV d p * mdV d p - d) / (4 * p)) 20 := ⟨L.of_le (show L 20 (mdV d p * mdV d p - d) from lz) (by have := Int.natAbs_ediv_le_natAbs (mdV d p * mdV d p - d) (4 * p); omega)⟩
 refine callM_of (np := 0) Tryz.func145 (by kernel_rfl) rfl rfl (Nat.le_of_ble_eq_true rfl) (fun m h => absurd rfl h) (fun m h => absurd rfl h) rfl ?_
 refine AWp_sr hP ?_
 refine RK.alc guard_none (op_box rfl rfl) ?_
 refine RK.alc guard_none (op_alloc hT rfl rfl) ?_
 refine RK.As rfl ?_
 refine RK.D ?_
 refine AWp_seq ?_
 refine AWp_sr hP ?_
 refine RK.G2 hT rfl rfl rfl rfl rfl rfl ?_
 refine RK.V (Eff.call0 (q_Principal _ lz)) ?_
 refine RK.V (op_move (rfl : _ = AV.t _)) ?_
 refine RK.V (op_extract rfl (v := .a _) rfl) ?_
 refine RK.V (op_extract rfl (v := .c _) rfl) ?_
 refine RK.alc guard_none (op_alloc hT rfl rfl) ?_
 refine RK.S hT rfl rfl rfl rfl rfl rfl rfl ?_
 refine RK.As rfl ?_
 refine RK.D ?_
 refine AWp_sr hP ?_
 refine RK.M rfl ?_
 refine RK.V (op_neq rfl rfl) ?_
 refine RK.M rfl ?_
 refine RK.split (t := 21) rfl (fun hg1 => ?_) (fun hg1 => ?_)
 ·have hg1_ := bneT hg1
  refine RK.skip (guard_no rfl rfl hg1) ?_
  refine RK.skip (guard_no rfl rfl hg1) ?_
  refine RK.skip (guard_no rfl rfl hg1) ?_
  refine RK.V (op_pick_t rfl hg1 (rfl : _ = AV.p (.c _))) ?_
  refine RK.D ?_
  refine AWp_cond_true rfl rfl ?_
  refine AWp_sr hP ?_
  refine RK.V (op_build_st hT rfl rfl rfl (es := [_, _, _, _, _, _]) rfl) ?_
  refine RK.S hT rfl rfl rfl rfl rfl rfl rfl ?_
  refine RK.As rfl ?_
  refine RK.D ?_
  refine AWp_ret ?_
  refine ends_two rfl (.inr rfl) (res_cell_agg hT rfl rfl rfl rfl (cs := [_, _, _, _, _, _]) rfl rfl) (res_tmp rfl) ?_ O_ends
  exact Sub.of_eq (pm_err (pm_5a hg1_) (by decide))
 ·have hg1_ := bneF hg1
  refine RK.val (guard_yes rfl rfl hg1) (op_field_loc hT rfl rfl rfl rfl rfl rfl) ?_
  refine RK.val (guard_yes rfl rfl hg1) (op_load_one hT rfl rfl rfl rfl (by first | rfl | exact vget (by omega))) ?_
  refine RK.val (guard_yes rfl rfl hg1) (op_unot rfl) ?_
  refine RK.V (op_pick_f rfl hg1 (rfl : _ = AV.p (.c _))) ?_
  refine RK.D ?_
  refine AWp_cond rfl (fun hb2 => ?_) (fun hb2 => ?_)
  ·have hb2_ := (notT hb2)
   refine AWp_sr hP ?_
   refine RK.V (op_build_st hT rfl rfl rfl (es := [_, _, _, _, _, _]) rfl) ?_
   refine RK.S hT rfl rfl rfl rfl rfl rfl rfl ?_
   refine RK.As rfl ?_
   refine RK.D ?_
   refine AWp_ret ?_
   refine ends_two rfl (.inr rfl) (res_cell_agg hT rfl rfl rfl rfl (cs := [_, _, _, _, _, _]) rfl rfl) (res_tmp rfl) ?_ O_ends
   exact Sub.of_eq (pm_err (pm_5b (of_decide_eq_false hb2_)) (by decide))
  ·have hb2_ := (notF hb2)
   refine AWp_skip ?_
   refine AWp_seq ?_
   refine AWp_sr hP ?_
   refine RK.M rfl ?_
   refine RK.V (op_geq rfl rfl) ?_
   refine RK.M rfl ?_
   refine RK.val (guard_yes rfl rfl (decide_eq_false (by omega))) (op_move (rfl : _ = AV.p (.c _))) ?_
   refine RK.val (guard_yes rfl rfl (decide_eq_false (by omega))) (Eff.call0 (co_isPrime _ (by omega) (by omega))) ?_
   refine RK.val (guard_yes rfl rfl (decide_eq_false (by omega))) (op_unot rfl) ?_
   refine RK.V (op_pick_f rfl (decide_eq_false (by omega)) (rfl : _ = AV.p (.c _))) ?_
   refine RK.D ?_
   refine AWp_cond rfl (fun hb4 => ?_) (fun hb4 => ?_)
   ·have hb4_ := (notT hb4)
    refine AWp_sr hP ?_
    refine RK.V (op_build_st hT rfl rfl rfl (es := [_, _, _, _, _, _]) rfl) ?_
    refine RK.S hT rfl rfl rfl rfl rfl rfl rfl ?_
    refine RK.As rfl ?_
    refine RK.D ?_
    refine AWp_ret ?_
    refine ends_two rfl (.inr rfl) (res_cell_agg hT rfl rfl rfl rfl (cs := [_, _, _, _, _, _]) rfl rfl) (res_tmp rfl) ?_ O_ends
    exact Sub.of_eq (pm_err (pm_7 hg1_ (of_decide_eq_true hb2_) hb4_) (by decide))
   ·have hb4_ := (notF hb4)
    refine AWp_skip ?_
    refine AWp_sr hP ?_
    refine RK.G2 hT rfl rfl rfl rfl rfl rfl ?_
    refine RK.M rfl ?_
    refine RK.V (Eff.call0 (co_middle d p h3 (by omega) ho hd hst hr)) ?_
    refine RK.V (op_move (rfl : _ = AV.t _)) ?_
    refine RK.V (op_extract rfl (v := .c _) rfl) ?_
    refine RK.V (op_extract rfl (v := .c _) rfl) ?_
    refine RK.As rfl ?_
    refine RK.As rfl ?_
    refine RK.D ?_
    refine AWp_seq ?_
    refine AWp_sr hP ?_
    refine RK.M rfl ?_
    refine RK.V (op_unot rfl) ?_
    refine RK.D ?_
    refine AWp_cond rfl (fun hb5 => ?_) (fun hb5 => ?_)
    ·have hb5_ := (notT hb5)
     refine AWp_sr hP ?_
     refine RK.V (op_build_st hT rfl rfl rfl (es := [_, _, _, _, _, _]) rfl) ?_
     refine RK.S hT rfl rfl rfl rfl rfl rfl rfl ?_
     refine RK.As rfl ?_
     refine RK.D ?_
     refine AWp_ret ?_
     refine ends_two rfl (.inr rfl) (res_cell_agg hT rfl rfl rfl rfl (cs := [_, _, _, _, _, _]) rfl rfl) (res_tmp rfl) ?_ O_ends
     exact Sub.of_eq (pm_err (pm_6a hg1_ (of_decide_eq_true hb2_) hb4_ (of_decide_eq_false hb5_)) (by decide))
    ·have hb5_ := (notF hb5)
     refine AWp_skip ?_
     refine AWp_sr hP ?_
     refine RK.M rfl ?_
     refine RK.M rfl ?_
     refine RK.V (op_mul rfl rfl (by first | exact IntWalk.i64_in _ (by omega) | rfl)) ?_
     refine RK.V (Eff.call0 (co_of _ (by first | assumption | decide))) ?_
     refine RK.G2 hT rfl rfl rfl rfl rfl rfl ?_
     refine RK.V (Eff.call0 (int_Sub _ _ lz lz)) ?_
     refine RK.M rfl ?_
     refine RK.V (op_mul rfl rfl (by first | exact IntWalk.i64_in _ (by omega) | rfl)) ?_
     refine RK.V (Eff.call0 (co_of _ (by first | assumption | decide))) ?_
     refine RK.V (Eff.call0 (int_DivMod _ _ lz lz (by omega))) ?_
     refine RK.V (op_move (rfl : _ = AV.t _)) ?_
     refine RK.V (op_extract rfl (v := .a _) rfl) ?_
     refine RK.V (op_extract rfl (v := .a _) rfl) ?_
     refine RK.V (op_extract rfl (v := .c _) rfl) ?_
     refine RK.alc guard_none (op_alloc hT rfl rfl) ?_
     refine RK.alc guard_none (op_alloc hT rfl rfl) ?_
     refine RK.S hT rfl rfl rfl rfl rfl rfl rfl ?_
     refine RK.S hT rfl rfl rfl rfl rfl rfl rfl ?_
     refine RK.As rfl ?_
     refine RK.D ?_
     refine AWp_sr hP ?_
     refine RK.M rfl ?_
     refine RK.V (Eff.call0 (co_of _ (by first | assumption | decide))) ?_
     refine RK.M rfl ?_
     refine RK.V (Eff.call0 (co_of _ (by first | assumption | decide))) ?_
     refine RK.G2 hT rfl rfl rfl rfl rfl rfl ?_
     refine RK.V (op_build_st hT rfl rfl rfl (es := [_, _, _, _, _, _]) rfl) ?_
     refine RK.alc guard_none (op_alloc hT rfl rfl) ?_
     refine RK.S hT rfl rfl rfl rfl rfl rfl rfl ?_
     refine RK.D ?_
     refine AWp_seq ?_
     refine AWp_sr hP ?_
     refine RK.G6 hT rfl rfl rfl rfl rfl rfl ?_
     refine RK.V (Eff.call0 (q_Primitive _ _ _ lz lz lz)) ?_
     refine RK.V (op_unot rfl) ?_
     refine RK.D ?_
     refine AWp_cond rfl (fun hb6 => ?_) (fun hb6 => ?_)
     ·have hb6_ := (notT hb6)
      refine AWp_sr hP ?_
      refine RK.V (op_build_st hT rfl rfl rfl (es := [_, _, _, _, _, _]) rfl) ?_
      refine RK.S hT rfl rfl rfl rfl rfl rfl rfl ?_
      refine RK.As rfl ?_
      refine RK.D ?_
      refine AWp_ret ?_
      refine ends_two rfl (.inr rfl) (res_cell_agg hT rfl rfl rfl rfl (cs := [_, _, _, _, _, _]) rfl rfl) (res_tmp rfl) ?_ O_ends
      exact Sub.of_eq (pm_err (pm_6b hg1_ (of_decide_eq_true hb2_) hb4_ (of_decide_eq_true hb5_) hb6_) (by decide))
     ·have hb6_ := (notF hb6)
      refine AWp_skip ?_
      refine AWp_sr hP ?_
      refine RK.G6 hT rfl rfl rfl rfl rfl rfl ?_
      refine RK.V (Eff.call0 (co_reduced _ _ _ lz lz lz)) ?_
      refine RK.S hT rfl rfl rfl rfl rfl rfl rfl ?_
      refine RK.As rfl ?_
      refine RK.D ?_
      refine AWp_ret ?_
      refine ends_two rfl (.inr rfl) (res_cell_agg hT rfl rfl rfl rfl (cs := [_, _, _, _, _, _]) rfl rfl) (res_tmp rfl) ?_ O_ends
      exact Sub.of_eq (pm_0 hg1_ (of_decide_eq_true hb2_) hb4_ (of_decide_eq_true hb5_) hb6_)
end Go.Proofs.YtpaifigafaijpaaGreatDoor
end

section
/- chapter 9: prime, is, same -/
namespace Go.Proofs.YtpaifigafaijpaaGreatDoor
open Go Go.AM
set_option maxRecDepth 100000
set_option maxHeartbeats 1000000
theorem l_prime (d p : Int) (h3 : 3 ≤ p) (hp6 : p < 1048576) (ho : p % 2 = 1) (hd : L 10 d) (hst : oddB p = true → d % p ≠ 0 → kr (d % p) p = 1 → sqStop (d % p) p (sqT (d % p) p) = true) (hr : 0 ≤ sqV (d % p) p ∧ 2 * sqV (d % p) p ≤ p) (hp1 : p ≤ 1000000) :
  Call0 Tryz.prog 65 [I d, Z p] (.p (.a (FL (pmV d p).a (pmV d p).b (pmV d p).c ++ [.v (.int .i64 (pmE d p))]))) := by
 refine callM_of (np := 0) Tryz.func65 (by kernel_rfl) rfl rfl (Nat.le_of_ble_eq_true rfl) (fun m h => absurd rfl h) (fun m h => absurd rfl h) rfl ?_
 refine AWp_sr hP ?_
 refine RK.alc guard_none (op_box rfl rfl) ?_
 refine RK.alc guard_none (op_alloc hT rfl rfl) ?_
 refine RK.D ?_
 refine AWp_sr hP ?_
 refine RK.G2 hT rfl rfl rfl rfl rfl rfl ?_
 refine RK.M rfl ?_
 refine RK.V (Eff.call0 (co_Prime d p h3 hp6 ho hd hst hr hp1)) ?_
 refine RK.V (op_move (rfl : _ = AV.t _)) ?_
 refine RK.V (op_extract rfl (v := .a _) rfl) ?_
 refine RK.V (op_extract rfl (v := .c _) rfl) ?_
 refine RK.alc guard_none (op_alloc hT rfl rfl) ?_
 refine RK.S hT rfl rfl rfl rfl rfl rfl rfl ?_
 refine RK.As rfl ?_
 refine RK.D ?_
 refine AWp_sr hP ?_
 refine RK.G6 hT rfl rfl rfl rfl rfl rfl ?_
 refine RK.M rfl ?_
 refine RK.V (op_build_st hT rfl rfl rfl (es := [_, _, _, _, _, _, _]) rfl) ?_
 refine RK.S hT rfl rfl rfl rfl rfl rfl rfl ?_
 refine RK.D ?_
 refine AWp_ret ?_
 refine ends_one rfl (.inr rfl) (res_cell_agg hT rfl rfl rfl rfl (cs := [_, _, _, _, _, _, _]) rfl rfl) ?_ O_ends
 exact .refl _
theorem l_is (f g : Fm) (e : Int) :
  Call0 Tryz.prog 58 [.p (.a (FL f.a f.b f.c ++ [.v (.int .i64 e)])), FA g.a g.b g.c] (B (decide (e = 0) && decide (f = g))) := by
 refine callM_of (np := 0) Tryz.func58 (by kernel_rfl) rfl rfl (Nat.le_of_ble_eq_true rfl) (fun m h => absurd rfl h) (fun m h => absurd rfl h) rfl ?_
 refine AWp_sr hP ?_
 refine RK.alc guard_none (op_box rfl rfl) ?_
 refine RK.alc guard_none (op_box rfl rfl) ?_
 refine RK.As rfl ?_
 refine RK.D ?_
 refine AWp_sr hP ?_
 refine RK.F hT rfl rfl rfl rfl rfl rfl ?_
 refine RK.V (op_load_one hT rfl rfl rfl rfl (by first | rfl | exact vget (by omega))) ?_
 refine RK.V (op_eql rfl rfl) ?_
 refine RK.M rfl ?_
 refine RK.split (t := 8) rfl (fun hg1 => ?_) (fun hg1 => ?_)
 ·have hg1_ := bT hg1
  refine RK.val (guard_yes rfl rfl hg1) (op_field_loc hT rfl rfl rfl rfl rfl rfl) ?_
  refine RK.val (guard_yes rfl rfl hg1) (op_load_agg hT rfl rfl rfl rfl (cs := [_, _, _, _, _, _]) rfl rfl) ?_
  refine RK.val (guard_yes rfl rfl hg1) (op_load_agg hT rfl rfl rfl rfl (cs := [_, _, _, _, _, _]) rfl rfl) ?_
  refine RK.val (guard_yes rfl rfl hg1) (Eff.call0 (r8_Equal _ _ _ _ _ _)) ?_
  refine RK.V (op_pick_t rfl hg1 (rfl : _ = AV.p (.c _))) ?_
  refine RK.As rfl ?_
  refine RK.D ?_
  refine AWp_ret ?_
  refine ends_one rfl (.inr rfl) (res_tmp rfl) ?_ O_ends
  exact Sub.bool (is_1 hg1_)
 ·have hg1_ := bF hg1
  refine RK.skip (guard_no rfl rfl hg1) ?_
  refine RK.skip (guard_no rfl rfl hg1) ?_
  refine RK.skip (guard_no rfl rfl hg1) ?_
  refine RK.skip (guard_no rfl rfl hg1) ?_
  refine RK.V (op_pick_f rfl hg1 (rfl : _ = AV.p (.c _))) ?_
  refine RK.As rfl ?_
  refine RK.D ?_
  refine AWp_ret ?_
  refine ends_one rfl (.inr rfl) (res_tmp rfl) ?_ O_ends
  exact Sub.bool (is_2 hg1_)
theorem l_same (f g : Fm) (e k : Int) :
  Call0 Tryz.prog 45 [.p (.a (FL f.a f.b f.c ++ [.v (.int .i64 e)])), FA g.a g.b g.c, Z k] (B (decide (e = k) && decide (f = g))) := by
 refine callM_of (np := 0) Tryz.func45 (by kernel_rfl) rfl rfl (Nat.le_of_ble_eq_true rfl) (fun m h => absurd rfl h) (fun m h => absurd rfl h) rfl ?_
 refine AWp_sr hP ?_
 refine RK.alc guard_none (op_box rfl rfl) ?_
 refine RK.alc guard_none (op_box rfl rfl) ?_
 refine RK.As rfl ?_
 refine RK.D ?_
 refine AWp_sr hP ?_
 refine RK.F hT rfl rfl rfl rfl rfl rfl ?_
 refine RK.V (op_load_one hT rfl rfl rfl rfl (by first | rfl | exact vget (by omega))) ?_
 refine RK.M rfl ?_
 refine RK.V (op_eql rfl rfl) ?_
 refine RK.M rfl ?_
 refine RK.split (t := 11) rfl (fun hg1 => ?_) (fun hg1 => ?_)
 ·have hg1_ := bT hg1
  refine RK.val (guard_yes rfl rfl hg1) (op_field_loc hT rfl rfl rfl rfl rfl rfl) ?_
  refine RK.val (guard_yes rfl rfl hg1) (op_load_agg hT rfl rfl rfl rfl (cs := [_, _, _, _, _, _]) rfl rfl) ?_
  refine RK.val (guard_yes rfl rfl hg1) (op_load_agg hT rfl rfl rfl rfl (cs := [_, _, _, _, _, _]) rfl rfl) ?_
  refine RK.val (guard_yes rfl rfl hg1) (Eff.call0 (r8_Equal _ _ _ _ _ _)) ?_
  refine RK.V (op_pick_t rfl hg1 (rfl : _ = AV.p (.c _))) ?_
  refine RK.As rfl ?_
  refine RK.D ?_
  refine AWp_ret ?_
  refine ends_one rfl (.inr rfl) (res_tmp rfl) ?_ O_ends
  exact Sub.bool (is_1 hg1_)
 ·have hg1_ := bF hg1
  refine RK.skip (guard_no rfl rfl hg1) ?_
  refine RK.skip (guard_no rfl rfl hg1) ?_
  refine RK.skip (guard_no rfl rfl hg1) ?_
  refine RK.skip (guard_no rfl rfl hg1) ?_
  refine RK.V (op_pick_f rfl hg1 (rfl : _ = AV.p (.c _))) ?_
  refine RK.As rfl ?_
  refine RK.D ?_
  refine AWp_ret ?_
  refine ends_one rfl (.inr rfl) (res_tmp rfl) ?_ O_ends
  exact Sub.bool (is_2 hg1_)
theorem l_prime3 : Call0 Tryz.prog 65 [I (-23), Z 3] (.p (.a (FL 2 (-1) 3 ++ [.v (.int .i64 0)]))) := by
 have h := l_prime (-23) 3 (by decide) (by decide) (by decide) ((show L 6 (-23) by unfold L; decide).mono (by decide)) (fun _ _ _ => by decide +kernel) (by decide +kernel) (by decide)
 have e1 : pmV (-23) 3 = ⟨2, -1, 3⟩ := by decide +kernel
 have e2 : pmE (-23) 3 = 0 := by decide +kernel
 rw [e1, e2] at h
 exact h
theorem l_prime5 : Call0 Tryz.prog 65 [I (-23), Z 5] (.p (.a (FL 0 0 0 ++ [.v (.int .i64 6)]))) := by
 have h := l_prime (-23) 5 (by decide) (by decide) (by decide) ((show L 6 (-23) by unfold L; decide).mono (by decide)) (fun _ _ _ => by decide +kernel) (by decide +kernel) (by decide)
 have e1 : pmV (-23) 5 = ⟨0, 0, 0⟩ := by decide +kernel
 have e2 : pmE (-23) 5 = 6 := by decide +kernel
 rw [e1, e2] at h
 exact h
end Go.Proofs.YtpaifigafaijpaaGreatDoor
end

section
/- chapter 9: the examples -/
namespace Go.Proofs.YtpaifigafaijpaaGreatDoor
open Go Go.AM
set_option maxRecDepth 100000
set_option maxHeartbeats 1000000
set_option maxHeartbeats 8000000 in
theorem l_examples  :
  Call0 Tryz.prog 42 [] (B true) := by
 refine callM_of (np := 0) Tryz.func42 (by kernel_rfl) rfl rfl (Nat.le_of_ble_eq_true rfl) (fun m h => absurd rfl h) (fun m h => absurd rfl h) rfl ?_
 refine AWp_sr hP ?_
 refine RK.As rfl ?_
 refine RK.D ?_
 refine AWp_sr hP ?_
 refine RK.V (Eff.call0 (r8_Of _ _ _ (by first | assumption | decide) (by first | assumption | decide) (by first | assumption | decide))) ?_
 refine RK.V (Eff.call0 (r8_Of _ _ _ (by first | assumption | decide) (by first | assumption | decide) (by first | assumption | decide))) ?_
 refine RK.V (Eff.call0 (r8_Of _ _ _ (by first | assumption | decide) (by first | assumption | decide) (by first | assumption | decide))) ?_
 refine RK.alc guard_none (op_alloc hT rfl rfl) ?_
 refine RK.alc guard_none (op_alloc hT rfl rfl) ?_
 refine RK.alc guard_none (op_alloc hT rfl rfl) ?_
 refine RK.S hT rfl rfl rfl rfl rfl rfl rfl ?_
 refine RK.S hT rfl rfl rfl rfl rfl rfl rfl ?_
 refine RK.S hT rfl rfl rfl rfl rfl rfl rfl ?_
 refine RK.D ?_
 refine AWp_sr hP ?_
 refine RK.G6 hT rfl rfl rfl rfl rfl rfl ?_
 refine RK.V (Eff.call0 (co_Order ⟨2, 1, 3⟩ 6 (by unfold L; decide) (by unfold L; decide) (by unfold L; decide)  (by decide) (fun _ => by decide))) ?_
 refine RK.V (op_move (rfl : _ = AV.t _)) ?_
 refine RK.V (op_extract rfl (v := .c _) rfl) ?_
 refine RK.V (op_extract rfl (v := .c _) rfl) ?_
 refine RK.As rfl ?_
 refine RK.As rfl ?_
 refine RK.D ?_
 refine AWp_sr hP ?_
 refine RK.G6 hT rfl rfl rfl rfl rfl rfl ?_
 refine RK.V (Eff.call0 (co_Order ⟨2, 1, 3⟩ 4 (by unfold L; decide) (by unfold L; decide) (by unfold L; decide)  (by decide) (fun _ => by decide))) ?_
 refine RK.V (op_move (rfl : _ = AV.t _)) ?_
 refine RK.V (op_extract rfl (v := .c _) rfl) ?_
 refine RK.V (op_extract rfl (v := .c _) rfl) ?_
 refine RK.As rfl ?_
 refine RK.As rfl ?_
 refine RK.D ?_
 refine AWp_sr hP ?_
 refine RK.G6 hT rfl rfl rfl rfl rfl rfl ?_
 refine RK.G6 hT rfl rfl rfl rfl rfl rfl ?_
 refine RK.G6 hT rfl rfl rfl rfl rfl rfl ?_
 refine RK.G6 hT rfl rfl rfl rfl rfl rfl ?_
 refine RK.V (op_bslice hT rfl rfl rfl (es := [_, _, _, _, _, _, _, _, _, _, _, _, _, _, _, _, _, _]) rfl rfl rfl) ?_
 refine RK.V (Eff.call0 (co_Roots ⟨2, 1, 3⟩ [⟨1, 1, 6⟩, ⟨2, 1, 3⟩, ⟨2, -1, 3⟩] (by unfold L; decide) (by unfold L; decide) (by unfold L; decide)  (by unfold L; decide) (by decide) (by decide))) ?_
 refine RK.V (op_move (rfl : _ = AV.t _)) ?_
 refine RK.V (op_extract rfl (v := .c _) rfl) ?_
 refine RK.V (op_extract rfl (v := .c _) rfl) ?_
 refine RK.As rfl ?_
 refine RK.As rfl ?_
 refine RK.D ?_
 refine AWp_sr hP ?_
 refine RK.V (Eff.call0 (r_Of _ (by first | assumption | decide))) ?_
 refine RK.V (Eff.call0 l_prime5) ?_
 refine RK.alc guard_none (op_alloc hT rfl rfl) ?_
 refine RK.S hT rfl rfl rfl rfl rfl rfl rfl ?_
 refine RK.D ?_
 refine AWp_sr hP ?_
 refine RK.G6 hT rfl rfl rfl rfl rfl rfl ?_
 refine RK.V (Eff.call0 (r8_Of _ _ _ (by first | assumption | decide) (by first | assumption | decide) (by first | assumption | decide))) ?_
 refine RK.V (Eff.call0 (l_product ⟨2, 1, 3⟩ ⟨1, 0, 1⟩ (by unfold L; decide) (by unfold L; decide) (by unfold L; decide)  (by unfold L; decide) (by unfold L; decide) (by unfold L; decide) )) ?_
 refine RK.alc guard_none (op_alloc hT rfl rfl) ?_
 refine RK.S hT rfl rfl rfl rfl rfl rfl rfl ?_
 refine RK.D ?_
 refine AWp_seq ?_
 refine AWp_sr hP ?_
 refine RK.M rfl ?_
 refine RK.V (op_neq rfl rfl) ?_
 refine RK.M rfl ?_
 refine RK.val (guard_yes rfl rfl (by decide +kernel)) (op_move (rfl : _ = AV.p (.c _))) ?_
 refine RK.val (guard_yes rfl rfl (by decide +kernel)) (op_neq rfl rfl) ?_
 refine RK.V (op_pick_f rfl (by decide +kernel) (rfl : _ = AV.p (.c _))) ?_
 refine RK.M rfl ?_
 refine RK.val (guard_yes rfl rfl (by decide +kernel)) (op_move (rfl : _ = AV.p (.c _))) ?_
 refine RK.val (guard_yes rfl rfl (by decide +kernel)) (op_neq rfl rfl) ?_
 refine RK.V (op_pick_f rfl (by decide +kernel) (rfl : _ = AV.p (.c _))) ?_
 refine RK.M rfl ?_
 refine RK.val (guard_yes rfl rfl (by decide +kernel)) (op_move (rfl : _ = AV.p (.c _))) ?_
 refine RK.val (guard_yes rfl rfl (by decide +kernel)) (op_neq rfl rfl) ?_
 refine RK.V (op_pick_f rfl (by decide +kernel) (rfl : _ = AV.p (.c _))) ?_
 refine RK.M rfl ?_
 refine RK.val (guard_yes rfl rfl (by decide +kernel)) (op_field_loc hT rfl rfl rfl rfl rfl rfl) ?_
 refine RK.val (guard_yes rfl rfl (by decide +kernel)) (op_load_one hT rfl rfl rfl rfl (by first | rfl | exact vget (by omega))) ?_
 refine RK.val (guard_yes rfl rfl (by decide +kernel)) (op_neq rfl rfl) ?_
 refine RK.V (op_pick_f rfl (by decide +kernel) (rfl : _ = AV.p (.c _))) ?_
 refine RK.M rfl ?_
 refine RK.val (guard_yes rfl rfl (by decide +kernel)) (op_field_loc hT rfl rfl rfl rfl rfl rfl) ?_
 refine RK.val (guard_yes rfl rfl (by decide +kernel)) (op_load_one hT rfl rfl rfl rfl (by first | rfl | exact vget (by omega))) ?_
 refine RK.val (guard_yes rfl rfl (by decide +kernel)) (op_neq rfl rfl) ?_
 refine RK.V (op_pick_f rfl (by decide +kernel) (rfl : _ = AV.p (.c _))) ?_
 refine RK.M rfl ?_
 refine RK.val (guard_yes rfl rfl (by decide +kernel)) (Eff.call0 (r8_Of _ _ _ (by first | assumption | decide) (by first | assumption | decide) (by first | assumption | decide))) ?_
 refine RK.val (guard_yes rfl rfl (by decide +kernel)) (op_load_agg hT rfl rfl rfl rfl (cs := [_, _, _, _, _, _]) rfl rfl) ?_
 refine RK.val (guard_yes rfl rfl (by decide +kernel)) (Eff.call0 (l_product ⟨2, 0, 2⟩ ⟨2, 1, 3⟩ (by unfold L; decide) (by unfold L; decide) (by unfold L; decide)  (by unfold L; decide) (by unfold L; decide) (by unfold L; decide) )) ?_
 refine RK.val (guard_yes rfl rfl (by decide +kernel)) (op_field_one hT rfl rfl rfl rfl rfl rfl rfl) ?_
 refine RK.val (guard_yes rfl rfl (by decide +kernel)) (op_neq rfl rfl) ?_
 refine RK.V (op_pick_f rfl (by decide +kernel) (rfl : _ = AV.p (.c _))) ?_
 refine RK.D ?_
 refine AWp_cond_false rfl (by decide +kernel) ?_
 refine AWp_skip ?_
 refine AWp_sr hP ?_
 refine RK.G6 hT rfl rfl rfl rfl rfl rfl ?_
 refine RK.G6 hT rfl rfl rfl rfl rfl rfl ?_
 refine RK.V (Eff.call0 (l_product ⟨2, 1, 3⟩ ⟨2, 1, 3⟩ (by unfold L; decide) (by unfold L; decide) (by unfold L; decide)  (by unfold L; decide) (by unfold L; decide) (by unfold L; decide) )) ?_
 refine RK.G6 hT rfl rfl rfl rfl rfl rfl ?_
 refine RK.V (Eff.call0 (l_is (cmV ⟨2, 1, 3⟩ ⟨2, 1, 3⟩) ⟨2, -1, 3⟩ (cmE ⟨2, 1, 3⟩ ⟨2, 1, 3⟩))) ?_
 refine RK.M rfl ?_
 refine RK.val (guard_yes rfl rfl (by decide +kernel)) (op_load_agg hT rfl rfl rfl rfl (cs := [_, _, _, _, _, _]) rfl rfl) ?_
 refine RK.val (guard_yes rfl rfl (by decide +kernel)) (op_load_agg hT rfl rfl rfl rfl (cs := [_, _, _, _, _, _]) rfl rfl) ?_
 refine RK.val (guard_yes rfl rfl (by decide +kernel)) (Eff.call0 (l_product ⟨2, 1, 3⟩ ⟨2, -1, 3⟩ (by unfold L; decide) (by unfold L; decide) (by unfold L; decide)  (by unfold L; decide) (by unfold L; decide) (by unfold L; decide) )) ?_
 refine RK.val (guard_yes rfl rfl (by decide +kernel)) (op_load_agg hT rfl rfl rfl rfl (cs := [_, _, _, _, _, _]) rfl rfl) ?_
 refine RK.val (guard_yes rfl rfl (by decide +kernel)) (Eff.call0 (l_is (cmV ⟨2, 1, 3⟩ ⟨2, -1, 3⟩) ⟨1, 1, 6⟩ (cmE ⟨2, 1, 3⟩ ⟨2, -1, 3⟩))) ?_
 refine RK.V (op_pick_t rfl (by decide +kernel) (rfl : _ = AV.p (.c _))) ?_
 refine RK.M rfl ?_
 refine RK.val (guard_yes rfl rfl (by decide +kernel)) (op_load_agg hT rfl rfl rfl rfl (cs := [_, _, _, _, _, _]) rfl rfl) ?_
 refine RK.val (guard_yes rfl rfl (by decide +kernel)) (Eff.call0 (r_Of _ (by first | assumption | decide))) ?_
 refine RK.val (guard_yes rfl rfl (by decide +kernel)) (Eff.call0 (l_power ⟨2, 1, 3⟩ (-1) (by unfold L; decide) (by unfold L; decide) (by unfold L; decide)  ((show L 6 (-1) by unfold L; decide).mono (by decide)) (fun _ => .inr (by decide)))) ?_
 refine RK.val (guard_yes rfl rfl (by decide +kernel)) (op_load_agg hT rfl rfl rfl rfl (cs := [_, _, _, _, _, _]) rfl rfl) ?_
 refine RK.val (guard_yes rfl rfl (by decide +kernel)) (Eff.call0 (l_is (pwV ⟨2, 1, 3⟩ (-1)) ⟨2, -1, 3⟩ (rfE ⟨2, 1, 3⟩))) ?_
 refine RK.V (op_pick_t rfl (by decide +kernel) (rfl : _ = AV.p (.c _))) ?_
 refine RK.M rfl ?_
 refine RK.val (guard_yes rfl rfl (by decide +kernel)) (Eff.call0 (r_Of _ (by first | assumption | decide))) ?_
 refine RK.val (guard_yes rfl rfl (by decide +kernel)) (Eff.call0 l_prime3) ?_
 refine RK.val (guard_yes rfl rfl (by decide +kernel)) (op_load_agg hT rfl rfl rfl rfl (cs := [_, _, _, _, _, _]) rfl rfl) ?_
 refine RK.val (guard_yes rfl rfl (by decide +kernel)) (Eff.call0 (l_is ⟨2, -1, 3⟩ ⟨2, -1, 3⟩ 0)) ?_
 refine RK.V (op_pick_t rfl (by decide +kernel) (rfl : _ = AV.p (.c _))) ?_
 refine RK.M rfl ?_
 refine RK.val (guard_yes rfl rfl (by decide +kernel)) (op_move (rfl : _ = AV.p (.c _))) ?_
 refine RK.val (guard_yes rfl rfl (by decide +kernel)) (op_load_agg hT rfl rfl rfl rfl (cs := [_, _, _, _, _, _]) rfl rfl) ?_
 refine RK.val (guard_yes rfl rfl (by decide +kernel)) (op_bslice hT rfl rfl rfl (es := [_, _, _, _, _, _]) rfl rfl rfl) ?_
 refine RK.val (guard_yes rfl rfl (by decide +kernel)) (Eff.call0 (r9_SameList (rtsL ⟨2, 1, 3⟩ [⟨1, 1, 6⟩, ⟨2, 1, 3⟩, ⟨2, -1, 3⟩]) [⟨2, -1, 3⟩] (by decide +kernel))) ?_
 refine RK.V (op_pick_t rfl (by decide +kernel) (rfl : _ = AV.p (.c _))) ?_
 refine RK.As rfl ?_
 refine RK.D ?_
 refine AWp_ret ?_
 refine ends_one rfl (.inr rfl) (res_tmp rfl) ?_ O_ends
 exact Sub.bool (by decide +kernel)
end Go.Proofs.YtpaifigafaijpaaGreatDoor
end

section
/- (nothing here) -/
end

section
/- the list of reduced forms -/
namespace Go.Proofs.YtpaifigafaijpaaGreatDoor
open Go Go.AM
set_option maxRecDepth 100000
set_option maxHeartbeats 1000000
theorem r8_Size (D i0 i1 i2 i3 m0 m1 m2 m3 : Nat) (_hD : D < 65536) (_g0 : i0 < 65536) (_g1 : i1 < 65536) (_g2 : i2 < 65536) (_g3 : i3 < 65536) (_k0 : m0 < 256) (_k1 : m1 < 256) (_k2 : m2 < 256) (_k3 : m3 < 256) :
  Call0 Tryz.prog 18 [.p (.a [.v (.int .u16 (D : Int)), .v (.int .u16 (i0 : Int)), .v (.int .u16 (i1 : Int)), .v (.int .u16 (i2 : Int)), .v (.int .u16 (i3 : Int)), .v (.int .u8 (m0 : Int)), .v (.int .u8 (m1 : Int)), .v (.int .u8 (m2 : Int)), .v (.int .u8 (m3 : Int))])] (Z (szz D)) := by
 obtain ⟨s1, s2, s3, s4, s5⟩ := szz_spec D
 have d1 := Int.emod_nonneg (D : Int) (show (2000 : Int) ≠ 0 by omega)
 have d2 := Int.emod_lt_of_pos (D : Int) (show (0 : Int) < 2000 by omega)
 refine callM_of (np := 0) Tryz.func18 (by kernel_rfl) rfl rfl (Nat.le_of_ble_eq_true rfl) (fun m h => absurd rfl h) (fun m h => absurd rfl h) rfl ?_
 refine AWp_sr hP ?_
 refine RK.alc guard_none (op_box rfl rfl) ?_
 refine RK.As rfl ?_
 refine RK.D ?_
 refine AWp_sr hP ?_
 refine RK.F hT rfl rfl rfl rfl rfl rfl ?_
 refine RK.V (op_load_one hT rfl rfl rfl rfl (by first | rfl | exact vget (by omega))) ?_
 refine RK.V (op_rem rfl rfl (by decide) (c := (D : Int) % 2000) (Int.tmod_eq_emod_of_nonneg (by omega))) ?_
 refine RK.V (op_conv hT rfl rfl rfl rfl (IntWalk.i64_in _ (by omega))) ?_
 refine RK.V (op_add rfl rfl (by first | exact IntWalk.i64_in _ (by omega) | rfl)) ?_
 refine RK.As rfl ?_
 refine RK.D ?_
 refine AWp_seq ?_
 refine AWp_block ?_
 refine AWp_loop (ι := Int) (fun n => stL [(3, Z n)] []) (fun n => 3 + (D : Int) % 2000 ≤ n ∧ n ≤ szz D) (fun n => (szz D - n).toNat) (3 + (D : Int) % 2000) ⟨Int.le_refl _, s1⟩ (le_stL ⟨.refl _, trivial⟩ trivial) ?_
 rintro n ⟨hn1, hn2⟩
 refine AWp_seq ?_
 refine AWp_sr hP ?_
 refine RK.M rfl ?_
 refine RK.V (op_rem rfl rfl (by decide) (c := n % 4) (Int.tmod_eq_emod_of_nonneg (by omega))) ?_
 refine RK.V (op_neq rfl rfl) ?_
 refine RK.M rfl ?_
 refine RK.split (t := 12) rfl (fun hg1 => ?_) (fun hg1 => ?_)
 ·have hg1_ := bneT hg1
  refine RK.val (guard_yes rfl rfl hg1) (op_move (rfl : _ = AV.p (.c _))) ?_
  refine RK.val (guard_yes rfl rfl hg1) (op_rem rfl rfl (by decide) (c := n % 4) (Int.tmod_eq_emod_of_nonneg (by omega))) ?_
  refine RK.val (guard_yes rfl rfl hg1) (op_neq rfl rfl) ?_
  refine RK.V (op_pick_t rfl hg1 (rfl : _ = AV.p (.c _))) ?_
  refine RK.D ?_
  refine AWp_cond rfl (fun hb2 => ?_) (fun hb2 => ?_)
  ·have hb2_ := bneT hb2
   refine AWp_skip ?_
   refine AWp_block ?_
   refine AWp_region hP ?_
   refine RK.M rfl ?_
   refine RK.V (op_add rfl rfl (by first | exact IntWalk.i64_in _ (by omega) | rfl)) ?_
   refine RK.As rfl ?_
   refine RK.D ?_
   have hne : n ≠ szz D := by
    rintro rfl
    have := bneT hg1
    have := bneT hb2
    omega
   refine ⟨n + 1, ⟨by omega, by omega⟩, by omega, le_stL ⟨.refl _, trivial⟩ trivial⟩
  ·have hb2_ := bneF hb2
   refine AWp_exit ?_
   refine AWp_sr hP ?_
   refine RK.M rfl ?_
   refine RK.As rfl ?_
   refine RK.D ?_
   refine AWp_ret ?_
   refine ends_one rfl (.inr rfl) (res_tmp rfl) ?_ O_ends
   exact Sub.int (s5 n hn1 hn2 (.inr (bneF hb2)))
 ·have hg1_ := bneF hg1
  refine RK.skip (guard_no rfl rfl hg1) ?_
  refine RK.skip (guard_no rfl rfl hg1) ?_
  refine RK.skip (guard_no rfl rfl hg1) ?_
  refine RK.V (op_pick_f rfl hg1 (rfl : _ = AV.p (.c _))) ?_
  refine RK.D ?_
  refine AWp_cond_false rfl rfl ?_
  refine AWp_exit ?_
  refine AWp_sr hP ?_
  refine RK.M rfl ?_
  refine RK.As rfl ?_
  refine RK.D ?_
  refine AWp_ret ?_
  refine ends_one rfl (.inr rfl) (res_tmp rfl) ?_ O_ends
  exact Sub.int (s5 n hn1 hn2 (.inl (bneF hg1)))
end Go.Proofs.YtpaifigafaijpaaGreatDoor
end

section
/- chapter 9: ComposeGroup -/
namespace Go.Proofs.YtpaifigafaijpaaGreatDoor
open Go Go.AM
end Go.Proofs.YtpaifigafaijpaaGreatDoor
end

section
/- chapter 9: ComposeRoots, ComposeValues -/
namespace Go.Proofs.YtpaifigafaijpaaGreatDoor
open Go Go.AM
end Go.Proofs.YtpaifigafaijpaaGreatDoor
end

section
/- chapter 9: ComposePowers -/
namespace Go.Proofs.YtpaifigafaijpaaGreatDoor
open Go Go.AM
end Go.Proofs.YtpaifigafaijpaaGreatDoor
end

section
/- chapter 9: ComposeMatchesReference -/
namespace Go.Proofs.YtpaifigafaijpaaGreatDoor
open Go Go.AM
end Go.Proofs.YtpaifigafaijpaaGreatDoor
end

section
/- chapter 9: Prime for any number -/
namespace Go.Proofs.YtpaifigafaijpaaGreatDoor
open Go Go.AM
set_option maxRecDepth 100000
set_option maxHeartbeats 1000000
theorem co_IsPrimeN (x : Int) (h1 : x < 2) :
  Call0 Tryz.prog 189 [Z x] (B false) := by
 refine callM_of (np := 0) Tryz.func189 (by kernel_rfl) rfl rfl (Nat.le_of_ble_eq_true rfl) (fun m h => absurd rfl h) (fun m h => absurd rfl h) rfl ?_
 refine AWp_sr hP ?_
 refine RK.As rfl ?_
 refine RK.D ?_
 refine AWp_seq ?_
 refine AWp_sr hP ?_
 refine RK.As rfl ?_
 refine RK.D ?_
 refine AWp_block ?_
 refine AWp_loop (ι := Unit) (fun _ => stL [(0, Z x), (3, Z 2)] []) (fun _ => True) (fun _ => 0) () trivial (le_stL ⟨.refl _, .refl _, trivial⟩ trivial) ?_
 intro _ _
 refine AWp_seq ?_
 refine AWp_sr hP ?_
 refine RK.M rfl ?_
 refine RK.M rfl ?_
 refine RK.V (op_mul rfl rfl (by first | exact IntWalk.i64_in _ (by omega) | rfl)) ?_
 refine RK.M rfl ?_
 refine RK.V (op_leq rfl rfl) ?_
 refine RK.D ?_
 refine AWp_cond_false rfl (decide_eq_false (by omega)) ?_
 refine AWp_exit ?_
 refine AWp_sr hP ?_
 refine RK.M rfl ?_
 refine RK.V (op_gtr rfl rfl) ?_
 refine RK.As rfl ?_
 refine RK.D ?_
 refine AWp_ret ?_
 refine ends_one rfl (.inr rfl) (res_tmp rfl) ?_ O_ends
 exact Sub.bool (decide_eq_false (by omega))
theorem co_IsPrimeQ (x : Int) (h2 : x ≤ 1000000) : Call0 Tryz.prog 189 [Z x] (B (prQ x)) := by
 by_cases h : x < 2
 ·rw [prQ_no h]; exact co_IsPrimeN x h
 ·rw [prQ_yes h]; exact co_isPrime x (by omega) h2
theorem r3_IsPrimeN (x : Int) (h1 : x < 2) :
  Call0 Tryz.prog 141 [Z x] (B false) := by
 refine callM_of (np := 0) Tryz.func141 (by kernel_rfl) rfl rfl (Nat.le_of_ble_eq_true rfl) (fun m h => absurd rfl h) (fun m h => absurd rfl h) rfl ?_
 refine AWp_sr hP ?_
 refine RK.As rfl ?_
 refine RK.D ?_
 refine AWp_seq ?_
 refine AWp_sr hP ?_
 refine RK.As rfl ?_
 refine RK.D ?_
 refine AWp_block ?_
 refine AWp_loop (ι := Unit) (fun _ => stL [(0, Z x), (3, Z 2)] []) (fun _ => True) (fun _ => 0) () trivial (le_stL ⟨.refl _, .refl _, trivial⟩ trivial) ?_
 intro _ _
 refine AWp_seq ?_
 refine AWp_sr hP ?_
 refine RK.M rfl ?_
 refine RK.M rfl ?_
 refine RK.V (op_mul rfl rfl (by first | exact IntWalk.i64_in _ (by omega) | rfl)) ?_
 refine RK.M rfl ?_
 refine RK.V (op_leq rfl rfl) ?_
 refine RK.D ?_
 refine AWp_cond_false rfl (decide_eq_false (by omega)) ?_
 refine AWp_exit ?_
 refine AWp_sr hP ?_
 refine RK.M rfl ?_
 refine RK.V (op_gtr rfl rfl) ?_
 refine RK.As rfl ?_
 refine RK.D ?_
 refine AWp_ret ?_
 refine ends_one rfl (.inr rfl) (res_tmp rfl) ?_ O_ends
 exact Sub.bool (decide_eq_false (by omega))
theorem r3_IsPrimeQ (x : Int) (h2 : x ≤ 1000000) : Call0 Tryz.prog 141 [Z x] (B (prQ x)) := by
 by_cases h : x < 2
 ·rw [prQ_no h]; exact r3_IsPrimeN x h
 ·rw [prQ_yes h]; exact r3_IsPrime x (by omega) h2
theorem r3_Prime (m : Nat) (h : m ≤ 1023) :
  Call0 Tryz.prog 66 [.p (.c (.v (.int .u16 (m : Int))))] (Z (nxP m : Int)) := by
 refine callM_of (np := 0) Tryz.func66 (by kernel_rfl) rfl rfl (Nat.le_of_ble_eq_true rfl) (fun m h => absurd rfl h) (fun m h => absurd rfl h) rfl ?_
 refine AWp_sr hP ?_
 refine RK.As rfl ?_
 refine RK.D ?_
 refine AWp_sr hP ?_
 refine RK.M rfl ?_
 refine RK.V (op_conv hT rfl rfl rfl rfl (IntWalk.i64_in _ (by omega))) ?_
 refine RK.As rfl ?_
 refine RK.D ?_
 refine AWp_seq ?_
 refine AWp_block ?_
 refine AWp_loop (ι := Nat) (fun p => stL [(3, Z (p : Int))] []) (fun p => NxI m p) (fun p => nxP m - p) m (NxI.start h) (le_stL ⟨.refl _, trivial⟩ trivial) ?_
 intro p i
 have i2 := i.p1
 have i3 := (nx_ok h).2.2
 refine AWp_seq ?_
 refine AWp_sr hP ?_
 refine RK.M rfl ?_
 refine RK.V (Eff.call0 (r3_IsPrimeQ _ (by omega))) ?_
 refine RK.V (op_unot rfl) ?_
 refine RK.D ?_
 refine AWp_cond rfl (fun hb1 => ?_) (fun hb1 => ?_)
 ·have hb1_ := (notT hb1)
  refine AWp_skip ?_
  refine AWp_block ?_
  refine AWp_region hP ?_
  refine RK.M rfl ?_
  refine RK.V (op_add rfl rfl (by first | exact IntWalk.i64_in _ (by omega) | rfl)) ?_
  refine RK.As rfl ?_
  refine RK.D ?_
  have inx := i.next h (notT hb1)
  have i4 := inx.p1
  refine ⟨p + 1, inx, by omega, le_stL ⟨Sub.int (by omega), trivial⟩ trivial⟩
 ·have hb1_ := (notF hb1)
  refine AWp_exit ?_
  refine AWp_sr hP ?_
  refine RK.M rfl ?_
  refine RK.As rfl ?_
  refine RK.D ?_
  refine AWp_ret ?_
  refine ends_one rfl (.inr rfl) (res_tmp rfl) ?_ O_ends
  exact Sub.int (by rw [i.stop h (notF hb1)])
set_option maxHeartbeats 4000000 in
theorem co_middle2 (d : Int) (hd : L 10 d) (t : Bool) (b : Int) (k0 : MidOk d 2 t b) (kb : t = false → b = 0) :
  Call0 Tryz.prog 190 [I d, Z 2] (.t [.c (.v (.int .i64 b)), PB t]) := by
 have id : LB d 10 := ⟨hd⟩
 refine callM_of (np := 0) Tryz.func190 (by kernel_rfl) rfl rfl (Nat.le_of_ble_eq_true rfl) (fun m h => absurd rfl h) (fun m h => absurd rfl h) rfl ?_
 refine AWp_sr hP ?_
 refine RK.alc guard_none (op_box rfl rfl) ?_
 refine RK.As rfl ?_
 refine RK.As rfl ?_
 refine RK.D ?_
 refine AWp_sr hP ?_
 refine RK.alc guard_none (op_alloc hT rfl rfl) ?_
 refine RK.S hT rfl rfl rfl rfl rfl rfl rfl ?_
 refine RK.D ?_
 refine AWp_seq_cut (ι := Unit) (fun _ => stL [(1, Z 2), (2, .loc 2 0)] [(2, ⟨false, 1, 36, [zn (d), zm (d)]⟩)]) (fun _ => True) ?_ ?_
 ·refine AWp_sr hP ?_
  refine RK.F hT rfl rfl rfl rfl rfl rfl ?_
  refine RK.V (op_load_one hT rfl rfl rfl rfl (by first | rfl | exact vget (by omega))) ?_
  refine RK.V (op_len hT rfl rfl rfl rfl) ?_
  refine RK.V (op_gtr rfl rfl) ?_
  refine RK.M rfl ?_
  refine RK.split (t := 19) rfl (fun hg1 => ?_) (fun hg1 => ?_)
  ·have hg1_ := of_decide_eq_true hg1
   refine RK.val (guard_yes rfl rfl hg1) (op_field_loc hT rfl rfl rfl rfl rfl rfl) ?_
   refine RK.val (guard_yes rfl rfl hg1) (op_load_one hT rfl rfl rfl rfl (by first | rfl | exact vget (by omega))) ?_
   refine RK.val (guard_yes rfl rfl hg1) (by first | exact op_index_WN hT rfl rfl rfl rfl rfl rfl (by omega) | exact op_index_sl hT rfl rfl rfl rfl rfl rfl (by omega) (by first | exact W_ne (by omega) | simp)) ?_
   refine RK.val (guard_yes rfl rfl hg1) (op_load_ip_one hT rfl rfl rfl (by first | rfl | exact wget (by omega))) ?_
   refine RK.val (guard_yes rfl rfl hg1) (op_andN (m := (wl d.natAbs).getD 0 0) (n := 1) rfl rfl rfl (lt32 ((wl_ok d.natAbs).getD 0)) (by decide)) ?_
   refine RK.val (guard_yes rfl rfl hg1) (op_eql rfl rfl) ?_
   refine RK.V (op_pick_t rfl hg1 (rfl : _ = AV.p (.c _))) ?_
   refine RK.D ?_
   refine AWp_cond rfl (fun hb2 => ?_) (fun hb2 => ?_)
   ·have hb2_ := bT hb2
    refine AWp_region hP ?_
    refine RK.S hT rfl rfl rfl rfl rfl rfl rfl ?_
    refine RK.D ?_
    refine ⟨(), trivial, le_stL ⟨.refl _, .refl _, trivial⟩ ⟨rfl, trivial⟩⟩
   ·have hb2_ := bF hb2
    refine AWp_skip ?_
    refine ⟨(), trivial, le_stL ⟨.refl _, .refl _, trivial⟩ ⟨rfl, trivial⟩⟩
  ·have hg1_ := of_decide_eq_false hg1
   refine RK.skip (guard_no rfl rfl hg1) ?_
   refine RK.skip (guard_no rfl rfl hg1) ?_
   refine RK.skip (guard_no rfl rfl hg1) ?_
   refine RK.skip (guard_no rfl rfl hg1) ?_
   refine RK.skip (guard_no rfl rfl hg1) ?_
   refine RK.skip (guard_no rfl rfl hg1) ?_
   refine RK.V (op_pick_f rfl hg1 (rfl : _ = AV.p (.c _))) ?_
   refine RK.D ?_
   refine AWp_cond_false rfl rfl ?_
   refine AWp_skip ?_
   refine ⟨(), trivial, le_stL ⟨.refl _, .refl _, trivial⟩ ⟨rfl, trivial⟩⟩
 intro _ _
 refine AWp_seq ?_
 refine AWp_sr hP ?_
 refine RK.M rfl ?_
 refine RK.V (op_eql rfl rfl) ?_
 refine RK.D ?_
 refine AWp_cond_true rfl rfl ?_
 refine AWp_seq ?_
 refine AWp_sr hP ?_
 refine RK.M rfl ?_
 refine RK.D ?_
 refine AWp_block ?_
 refine AWp_loop (ι := Nat) (fun k => stL [(2, .loc 2 0), (29, Z (k : Int))] [(2, ⟨false, 1, 36, [zn (d), zm (d)]⟩)]) (fun k => k ≤ 4 ∧ ∀ y : Int, 0 ≤ y → y < k → (y * y - d) % (4 * 2) ≠ 0) (fun k => 4 - k) 0 ⟨by omega, fun y h1 h2 => by omega⟩ (le_stL ⟨.refl _, .refl _, trivial⟩ ⟨rfl, trivial⟩) ?_
 rintro k ⟨hk, hno⟩
 refine AWp_sr hP ?_
 refine RK.V (op_lss rfl rfl) ?_
 refine RK.D ?_
 refine AWp_seq ?_
 refine AWp_cond rfl (fun hb3 => ?_) (fun hb3 => ?_)
 ·have hb3_ := of_decide_eq_true hb3
  have hk4 : k < 4 := by omega
  have hkk := sq_b (x := (k : Int)) (m := 4) (by omega)
  have jk : InI64 ((k : Int) * k) := by unfold InI64; omega
  have ik : LB ((k : Int) * k) 6 := ⟨by have := sq_b (x := (k : Int)) (m := 4) (by omega); unfold L; omega⟩
  refine AWp_skip ?_
  refine AWp_seq ?_
  refine AWp_block ?_
  refine AWp_sr hP ?_
  refine RK.M rfl ?_
  refine RK.As rfl ?_
  refine RK.D ?_
  refine AWp_sr hP ?_
  refine RK.M rfl ?_
  refine RK.M rfl ?_
  refine RK.V (op_mul rfl rfl (by first | exact IntWalk.i64_in _ (by omega) | rfl)) ?_
  refine RK.V (Eff.call0 (co_of _ jk)) ?_
  refine RK.G2 hT rfl rfl rfl rfl rfl rfl ?_
  refine RK.V (Eff.call0 (int_Sub _ _ lz lz)) ?_
  refine RK.V (Eff.call0 (co_of 8 (by decide))) ?_
  refine RK.V (Eff.call0 (m_Mod _ _ lz lz (by decide))) ?_
  refine RK.V (op_move (rfl : _ = AV.t _)) ?_
  refine RK.V (op_extract rfl (v := .a _) rfl) ?_
  refine RK.V (op_extract rfl (v := .c _) rfl) ?_
  refine RK.alc guard_none (op_alloc hT rfl rfl) ?_
  refine RK.S hT rfl rfl rfl rfl rfl rfl rfl ?_
  refine RK.As rfl ?_
  refine RK.D ?_
  refine AWp_sr hP ?_
  refine RK.G2 hT rfl rfl rfl rfl rfl rfl ?_
  refine RK.V (Eff.call0 (int_Sign _)) ?_
  refine RK.V (op_eql rfl rfl) ?_
  refine RK.D ?_
  refine AWp_cond rfl (fun hb4 => ?_) (fun hb4 => ?_)
  ·have hb4_ := bT hb4
   refine AWp_sr hP ?_
   refine RK.M rfl ?_
   refine RK.As rfl ?_
   refine RK.As rfl ?_
   refine RK.D ?_
   refine AWp_ret ?_
   refine ends_two rfl (.inr rfl) (res_tmp rfl) (res_tmp rfl) ?_ O_ends
   obtain ⟨e1, e2⟩ := k0.found (x := (k : Int)) (by omega) (by omega) (sgn0.1 hb4_) hno
   exact Sub.of_eq (by rw [e1, e2])
  ·have hb4_ := bF hb4
   refine AWp_skip ?_
   refine AWp_region hP ?_
   refine RK.V (op_add rfl rfl (by first | exact IntWalk.i64_in _ (by omega) | rfl)) ?_
   refine RK.M rfl ?_
   refine RK.D ?_
   refine ⟨k + 1, ⟨by omega, ls_ext hno (fun e => hb4_ (sgn0.2 e))⟩, by omega, le_stL ⟨.refl _, Sub.int (by omega), trivial⟩ ⟨rfl, trivial⟩⟩
 ·have hb3_ := of_decide_eq_false hb3
  refine AWp_exit ?_
  refine AWp_sr hP ?_
  refine RK.As rfl ?_
  refine RK.As rfl ?_
  refine RK.D ?_
  refine AWp_ret ?_
  refine ends_two rfl (.inr rfl) (res_tmp rfl) (res_tmp rfl) ?_ O_ends
  have e1 := k0.none (fun y h1 h2 => hno y h1 (by omega))
  exact Sub.of_eq (by rw [e1, kb e1])
set_option maxHeartbeats 4000000 in
theorem co_PrimeG (d p b : Int) (t pr : Bool) (jp : InI64 p) (hd : L 10 d) (cPr : p < 1048576 → Call0 Tryz.prog 189 [Z p] (B pr)) (cMd : pr = true → p < 1048576 → prE d = 0 → Call0 Tryz.prog 190 [I d, Z p] (.t [.c (.v (.int .i64 b)), PB t])) (hpp : pr = true → 2 ≤ p) (hbb : pr = true → p < 1048576 → 0 ≤ b ∧ b ≤ 2 * p) :
  Call0 Tryz.prog 145 [I d, Z p] (.t [PF (pxV d p pr t b), PE (pxE d p pr t b)]) := by
 have id : LB d 10 := ⟨hd⟩
 have ip : LB p 10 := ⟨(show L 6 p by unfold L; unfold InI64 at jp; omega).mono (by decide)⟩
 refine callM_of (np := 0) Tryz.func145 (by kernel_rfl) rfl rfl (Nat.le_of_ble_eq_true rfl) (fun m h => absurd rfl h) (fun m h => absurd rfl h) rfl ?_
 refine AWp_sr hP ?_
 refine RK.alc guard_none (op_box rfl rfl) ?_
 refine RK.alc guard_none (op_alloc hT rfl rfl) ?_
 refine RK.As rfl ?_
 refine RK.D ?_
 refine AWp_seq ?_
 refine AWp_sr hP ?_
 refine RK.G2 hT rfl rfl rfl rfl rfl rfl ?_
 refine RK.V (Eff.call0 (q_Principal _ lz)) ?_
 refine RK.V (op_move (rfl : _ = AV.t _)) ?_
 refine RK.V (op_extract rfl (v := .a _) rfl) ?_
 refine RK.V (op_extract rfl (v := .c _) rfl) ?_
 refine RK.alc guard_none (op_alloc hT rfl rfl) ?_
 refine RK.S hT rfl rfl rfl rfl rfl rfl rfl ?_
 refine RK.As rfl ?_
 refine RK.D ?_
 refine AWp_sr hP ?_
 refine RK.M rfl ?_
 refine RK.V (op_neq rfl rfl) ?_
 refine RK.M rfl ?_
 refine RK.split (t := 21) rfl (fun hg1 => ?_) (fun hg1 => ?_)
 ·have hg1_ := bneT hg1
  refine RK.skip (guard_no rfl rfl hg1) ?_
  refine RK.skip (guard_no rfl rfl hg1) ?_
  refine RK.skip (guard_no rfl rfl hg1) ?_
  refine RK.V (op_pick_t rfl hg1 (rfl : _ = AV.p (.c _))) ?_
  refine RK.D ?_
  refine AWp_cond_true rfl rfl ?_
  refine AWp_sr hP ?_
  refine RK.V (op_build_st hT rfl rfl rfl (es := [_, _, _, _, _, _]) rfl) ?_
  refine RK.S hT rfl rfl rfl rfl rfl rfl rfl ?_
  refine RK.As rfl ?_
  refine RK.D ?_
  refine AWp_ret ?_
  refine ends_two rfl (.inr rfl) (res_cell_agg hT rfl rfl rfl rfl (cs := [_, _, _, _, _, _]) rfl rfl) (res_tmp rfl) ?_ O_ends
  exact Sub.of_eq (px_err (px_5a hg1_) (by decide))
 ·have hg1_ := bneF hg1
  refine RK.val (guard_yes rfl rfl hg1) (op_field_loc hT rfl rfl rfl rfl rfl rfl) ?_
  refine RK.val (guard_yes rfl rfl hg1) (op_load_one hT rfl rfl rfl rfl (by first | rfl | exact vget (by omega))) ?_
  refine RK.val (guard_yes rfl rfl hg1) (op_unot rfl) ?_
  refine RK.V (op_pick_f rfl hg1 (rfl : _ = AV.p (.c _))) ?_
  refine RK.D ?_
  refine AWp_cond rfl (fun hb2 => ?_) (fun hb2 => ?_)
  ·have hb2_ := (notT hb2)
   refine AWp_sr hP ?_
   refine RK.V (op_build_st hT rfl rfl rfl (es := [_, _, _, _, _, _]) rfl) ?_
   refine RK.S hT rfl rfl rfl rfl rfl rfl rfl ?_
   refine RK.As rfl ?_
   refine RK.D ?_
   refine AWp_ret ?_
   refine ends_two rfl (.inr rfl) (res_cell_agg hT rfl rfl rfl rfl (cs := [_, _, _, _, _, _]) rfl rfl) (res_tmp rfl) ?_ O_ends
   exact Sub.of_eq (px_err (px_5b (of_decide_eq_false hb2_)) (by decide))
  ·have hb2_ := (notF hb2)
   refine AWp_skip ?_
   refine AWp_seq ?_
   refine AWp_sr hP ?_
   refine RK.M rfl ?_
   refine RK.V (op_geq rfl rfl) ?_
   refine RK.M rfl ?_
   refine RK.split (t := 29) rfl (fun hg3 => ?_) (fun hg3 => ?_)
   ·have hg3_ := of_decide_eq_true hg3
    refine RK.skip (guard_no rfl rfl hg3) ?_
    refine RK.skip (guard_no rfl rfl hg3) ?_
    refine RK.skip (guard_no rfl rfl hg3) ?_
    refine RK.V (op_pick_t rfl hg3 (rfl : _ = AV.p (.c _))) ?_
    refine RK.D ?_
    refine AWp_cond_true rfl rfl ?_
    refine AWp_sr hP ?_
    refine RK.V (op_build_st hT rfl rfl rfl (es := [_, _, _, _, _, _]) rfl) ?_
    refine RK.S hT rfl rfl rfl rfl rfl rfl rfl ?_
    refine RK.As rfl ?_
    refine RK.D ?_
    refine AWp_ret ?_
    refine ends_two rfl (.inr rfl) (res_cell_agg hT rfl rfl rfl rfl (cs := [_, _, _, _, _, _]) rfl rfl) (res_tmp rfl) ?_ O_ends
    exact Sub.of_eq (px_err (px_7a hg1_ (of_decide_eq_true hb2_) hg3_) (by decide))
   ·have hg3_ := of_decide_eq_false hg3
    have hlt := cPr (by omega)
    refine RK.val (guard_yes rfl rfl hg3) (op_move (rfl : _ = AV.p (.c _))) ?_
    refine RK.val (guard_yes rfl rfl hg3) (Eff.call0 hlt) ?_
    refine RK.val (guard_yes rfl rfl hg3) (op_unot rfl) ?_
    refine RK.V (op_pick_f rfl hg3 (rfl : _ = AV.p (.c _))) ?_
    refine RK.D ?_
    refine AWp_cond rfl (fun hb4 => ?_) (fun hb4 => ?_)
    ·have hb4_ := (notT hb4)
     refine AWp_sr hP ?_
     refine RK.V (op_build_st hT rfl rfl rfl (es := [_, _, _, _, _, _]) rfl) ?_
     refine RK.S hT rfl rfl rfl rfl rfl rfl rfl ?_
     refine RK.As rfl ?_
     refine RK.D ?_
     refine AWp_ret ?_
     refine ends_two rfl (.inr rfl) (res_cell_agg hT rfl rfl rfl rfl (cs := [_, _, _, _, _, _]) rfl rfl) (res_tmp rfl) ?_ O_ends
     exact Sub.of_eq (px_err (px_7b hg1_ (of_decide_eq_true hb2_) hb4_) (by decide))
    ·have hb4_ := (notF hb4)
     have hp2 := hpp hb4_
     have hm := hbb hb4_ (by omega)
     have hs := sqB2 (b := b) (p := p) (by omega) (by omega)
     have jm : InI64 b := by unfold InI64; omega
     have im : LB b 10 := ⟨(show L 6 _ by unfold L; omega).mono (by decide)⟩
     have js : InI64 (b * b) := by unfold InI64; omega
     have j4 : InI64 (4 * p) := by unfold InI64; omega
     have iq : LB (pxC d p b) 20 := ⟨L.of_le (show L 20 (b * b - d) from lz) (by have := Int.natAbs_ediv_le_natAbs (b * b - d) (4 * p); unfold pxC; omega)⟩
     have cmd := cMd hb4_ (by omega) hg1_
     refine AWp_skip ?_
     refine AWp_sr hP ?_
     refine RK.G2 hT rfl rfl rfl rfl rfl rfl ?_
     refine RK.M rfl ?_
     refine RK.V (Eff.call0 cmd) ?_
     refine RK.V (op_move (rfl : _ = AV.t _)) ?_
     refine RK.V (op_extract rfl (v := .c _) rfl) ?_
     refine RK.V (op_extract rfl (v := .c _) rfl) ?_
     refine RK.As rfl ?_
     refine RK.As rfl ?_
     refine RK.D ?_
     refine AWp_seq ?_
     refine AWp_sr hP ?_
     refine RK.M rfl ?_
     refine RK.V (op_unot rfl) ?_
     refine RK.D ?_
     refine AWp_cond rfl (fun hb5 => ?_) (fun hb5 => ?_)
     ·have hb5_ := (notT hb5)
      refine AWp_sr hP ?_
      refine RK.V (op_build_st hT rfl rfl rfl (es := [_, _, _, _, _, _]) rfl) ?_
      refine RK.S hT rfl rfl rfl rfl rfl rfl rfl ?_
      refine RK.As rfl ?_
      refine RK.D ?_
      refine AWp_ret ?_
      refine ends_two rfl (.inr rfl) (res_cell_agg hT rfl rfl rfl rfl (cs := [_, _, _, _, _, _]) rfl rfl) (res_tmp rfl) ?_ O_ends
      exact Sub.of_eq (px_err (px_6a hg1_ (of_decide_eq_true hb2_) hg3_ hb4_ hb5_) (by decide))
     ·have hb5_ := (notF hb5)
      refine AWp_skip ?_
      refine AWp_sr hP ?_
      refine RK.M rfl ?_
      refine RK.M rfl ?_
      refine RK.V (op_mul rfl rfl (by first | exact IntWalk.i64_in _ (by omega) | rfl)) ?_
      refine RK.V (Eff.call0 (co_of _ (by first | assumption | decide))) ?_
      refine RK.G2 hT rfl rfl rfl rfl rfl rfl ?_
      refine RK.V (Eff.call0 (int_Sub _ _ lz lz)) ?_
      refine RK.M rfl ?_
      refine RK.V (op_mul rfl rfl (by first | exact IntWalk.i64_in _ (by omega) | rfl)) ?_
      refine RK.V (Eff.call0 (co_of _ (by first | assumption | decide))) ?_
      refine RK.V (Eff.call0 (int_DivMod _ _ lz lz (by omega))) ?_
      refine RK.V (op_move (rfl : _ = AV.t _)) ?_
      refine RK.V (op_extract rfl (v := .a _) rfl) ?_
      refine RK.V (op_extract rfl (v := .a _) rfl) ?_
      refine RK.V (op_extract rfl (v := .c _) rfl) ?_
      refine RK.alc guard_none (op_alloc hT rfl rfl) ?_
      refine RK.alc guard_none (op_alloc hT rfl rfl) ?_
      refine RK.S hT rfl rfl rfl rfl rfl rfl rfl ?_
      refine RK.S hT rfl rfl rfl rfl rfl rfl rfl ?_
      refine RK.As rfl ?_
      refine RK.D ?_
      refine AWp_sr hP ?_
      refine RK.M rfl ?_
      refine RK.V (Eff.call0 (co_of _ (by first | assumption | decide))) ?_
      refine RK.M rfl ?_
      refine RK.V (Eff.call0 (co_of _ (by first | assumption | decide))) ?_
      refine RK.G2 hT rfl rfl rfl rfl rfl rfl ?_
      refine RK.V (op_build_st hT rfl rfl rfl (es := [_, _, _, _, _, _]) rfl) ?_
      refine RK.alc guard_none (op_alloc hT rfl rfl) ?_
      refine RK.S hT rfl rfl rfl rfl rfl rfl rfl ?_
      refine RK.D ?_
      refine AWp_seq ?_
      refine AWp_sr hP ?_
      refine RK.G6 hT rfl rfl rfl rfl rfl rfl ?_
      refine RK.V (Eff.call0 (q_Primitive _ _ _ lz lz lz)) ?_
      refine RK.V (op_unot rfl) ?_
      refine RK.D ?_
      refine AWp_cond rfl (fun hb6 => ?_) (fun hb6 => ?_)
      ·have hb6_ := (notT hb6)
       refine AWp_sr hP ?_
       refine RK.V (op_build_st hT rfl rfl rfl (es := [_, _, _, _, _, _]) rfl) ?_
       refine RK.S hT rfl rfl rfl rfl rfl rfl rfl ?_
       refine RK.As rfl ?_
       refine RK.D ?_
       refine AWp_ret ?_
       refine ends_two rfl (.inr rfl) (res_cell_agg hT rfl rfl rfl rfl (cs := [_, _, _, _, _, _]) rfl rfl) (res_tmp rfl) ?_ O_ends
       exact Sub.of_eq (px_err (px_6b hg1_ (of_decide_eq_true hb2_) hg3_ hb4_ hb5_ hb6_) (by decide))
      ·have hb6_ := (notF hb6)
       refine AWp_skip ?_
       refine AWp_sr hP ?_
       refine RK.G6 hT rfl rfl rfl rfl rfl rfl ?_
       refine RK.V (Eff.call0 (co_reduced _ _ _ lz lz lz)) ?_
       refine RK.S hT rfl rfl rfl rfl rfl rfl rfl ?_
       refine RK.As rfl ?_
       refine RK.D ?_
       refine AWp_ret ?_
       refine ends_two rfl (.inr rfl) (res_cell_agg hT rfl rfl rfl rfl (cs := [_, _, _, _, _, _]) rfl rfl) (res_tmp rfl) ?_ O_ends
       exact Sub.of_eq (px_0 hg1_ (of_decide_eq_true hb2_) hg3_ hb4_ hb5_ hb6_)
set_option maxHeartbeats 4000000 in
theorem r9_PrimeG (d p b : Int) (t pr : Bool) (jp : InI64 p) (hd : L 10 d) (cPr : p < 1048576 → Call0 Tryz.prog 141 [Z p] (B pr)) (k0 : pr = true → p < 1048576 → MidOk d p t b) (hpp : pr = true → 2 ≤ p) :
  Call0 Tryz.prog 64 [I d, Z p] (.t [PF (pxV d p pr t b), PE (pxE d p pr t b)]) := by
 have id : LB d 10 := ⟨hd⟩
 have ip : LB p 10 := ⟨(show L 6 p by unfold L; unfold InI64 at jp; omega).mono (by decide)⟩
 refine callM_of (np := 0) Tryz.func64 (by kernel_rfl) rfl rfl (Nat.le_of_ble_eq_true rfl) (fun m h => absurd rfl h) (fun m h => absurd rfl h) rfl ?_
 refine AWp_sr hP ?_
 refine RK.alc guard_none (op_box rfl rfl) ?_
 refine RK.alc guard_none (op_alloc hT rfl rfl) ?_
 refine RK.As rfl ?_
 refine RK.D ?_
 refine AWp_sr hP ?_
 refine RK.G2 hT rfl rfl rfl rfl rfl rfl ?_
 refine RK.V (Eff.call0 (r8_Principal _ lz)) ?_
 refine RK.V (op_move (rfl : _ = AV.t _)) ?_
 refine RK.V (op_extract rfl (v := .a _) rfl) ?_
 refine RK.V (op_extract rfl (v := .c _) rfl) ?_
 refine RK.alc guard_none (op_alloc hT rfl rfl) ?_
 refine RK.S hT rfl rfl rfl rfl rfl rfl rfl ?_
 refine RK.As rfl ?_
 refine RK.D ?_
 refine AWp_seq ?_
 refine AWp_sr hP ?_
 refine RK.M rfl ?_
 refine RK.V (op_neq rfl rfl) ?_
 refine RK.M rfl ?_
 refine RK.split (t := 19) rfl (fun hg1 => ?_) (fun hg1 => ?_)
 ·have hg1_ := bneT hg1
  refine RK.skip (guard_no rfl rfl hg1) ?_
  refine RK.skip (guard_no rfl rfl hg1) ?_
  refine RK.skip (guard_no rfl rfl hg1) ?_
  refine RK.V (op_pick_t rfl hg1 (rfl : _ = AV.p (.c _))) ?_
  refine RK.D ?_
  refine AWp_cond_true rfl rfl ?_
  refine AWp_sr hP ?_
  refine RK.V (op_build_st hT rfl rfl rfl (es := [_, _, _, _, _, _]) rfl) ?_
  refine RK.S hT rfl rfl rfl rfl rfl rfl rfl ?_
  refine RK.As rfl ?_
  refine RK.D ?_
  refine AWp_ret ?_
  refine ends_two rfl (.inr rfl) (res_cell_agg hT rfl rfl rfl rfl (cs := [_, _, _, _, _, _]) rfl rfl) (res_tmp rfl) ?_ O_ends
  exact Sub.of_eq (px_err (px_5a hg1_) (by decide))
 ·have hg1_ := bneF hg1
  refine RK.val (guard_yes rfl rfl hg1) (op_load_agg hT rfl rfl rfl rfl (cs := [_, _]) rfl rfl) ?_
  refine RK.val (guard_yes rfl rfl hg1) (Eff.call0 (r_Sign _)) ?_
  refine RK.val (guard_yes rfl rfl hg1) (op_gtr rfl rfl) ?_
  refine RK.V (op_pick_f rfl hg1 (rfl : _ = AV.p (.c _))) ?_
  refine RK.D ?_
  refine AWp_cond rfl (fun hb2 => ?_) (fun hb2 => ?_)
  ·have hb2_ := of_decide_eq_true hb2
   refine AWp_sr hP ?_
   refine RK.V (op_build_st hT rfl rfl rfl (es := [_, _, _, _, _, _]) rfl) ?_
   refine RK.S hT rfl rfl rfl rfl rfl rfl rfl ?_
   refine RK.As rfl ?_
   refine RK.D ?_
   refine AWp_ret ?_
   refine ends_two rfl (.inr rfl) (res_cell_agg hT rfl rfl rfl rfl (cs := [_, _, _, _, _, _]) rfl rfl) (res_tmp rfl) ?_ O_ends
   exact Sub.of_eq (px_err (px_5b (by have := sgn_gt_iff.1 hb2_; omega)) (by decide))
  ·have hb2_ := of_decide_eq_false hb2
   refine AWp_skip ?_
   refine AWp_seq ?_
   refine AWp_sr hP ?_
   refine RK.M rfl ?_
   refine RK.V (op_geq rfl rfl) ?_
   refine RK.M rfl ?_
   refine RK.split (t := 27) rfl (fun hg3 => ?_) (fun hg3 => ?_)
   ·have hg3_ := of_decide_eq_true hg3
    refine RK.skip (guard_no rfl rfl hg3) ?_
    refine RK.skip (guard_no rfl rfl hg3) ?_
    refine RK.skip (guard_no rfl rfl hg3) ?_
    refine RK.V (op_pick_t rfl hg3 (rfl : _ = AV.p (.c _))) ?_
    refine RK.D ?_
    refine AWp_cond_true rfl rfl ?_
    refine AWp_sr hP ?_
    refine RK.V (op_build_st hT rfl rfl rfl (es := [_, _, _, _, _, _]) rfl) ?_
    refine RK.S hT rfl rfl rfl rfl rfl rfl rfl ?_
    refine RK.As rfl ?_
    refine RK.D ?_
    refine AWp_ret ?_
    refine ends_two rfl (.inr rfl) (res_cell_agg hT rfl rfl rfl rfl (cs := [_, _, _, _, _, _]) rfl rfl) (res_tmp rfl) ?_ O_ends
    exact Sub.of_eq (px_err (px_7a hg1_ (prE_neg hg1_ hb2_) hg3_) (by decide))
   ·have hg3_ := of_decide_eq_false hg3
    have hlt := cPr (by omega)
    refine RK.val (guard_yes rfl rfl hg3) (op_move (rfl : _ = AV.p (.c _))) ?_
    refine RK.val (guard_yes rfl rfl hg3) (Eff.call0 hlt) ?_
    refine RK.val (guard_yes rfl rfl hg3) (op_unot rfl) ?_
    refine RK.V (op_pick_f rfl hg3 (rfl : _ = AV.p (.c _))) ?_
    refine RK.D ?_
    refine AWp_cond rfl (fun hb4 => ?_) (fun hb4 => ?_)
    ·have hb4_ := (notT hb4)
     refine AWp_sr hP ?_
     refine RK.V (op_build_st hT rfl rfl rfl (es := [_, _, _, _, _, _]) rfl) ?_
     refine RK.S hT rfl rfl rfl rfl rfl rfl rfl ?_
     refine RK.As rfl ?_
     refine RK.D ?_
     refine AWp_ret ?_
     refine ends_two rfl (.inr rfl) (res_cell_agg hT rfl rfl rfl rfl (cs := [_, _, _, _, _, _]) rfl rfl) (res_tmp rfl) ?_ O_ends
     exact Sub.of_eq (px_err (px_7b hg1_ (prE_neg hg1_ hb2_) hb4_) (by decide))
    ·have hb4_ := (notF hb4)
     have hp2 := hpp hb4_
     have j4 : InI64 (4 * p) := by unfold InI64; omega
     have i4 : LB (4 * p) 10 := ⟨(show L 6 _ by unfold L; omega).mono (by decide)⟩
     have i4n : (4 * p : Int) ≠ 0 := by omega
     have mk := k0 hb4_ (by omega)
     refine AWp_skip ?_
     refine AWp_sr hP ?_
     refine RK.M rfl ?_
     refine RK.V (op_mul rfl rfl (by first | exact IntWalk.i64_in _ (by omega) | rfl)) ?_
     refine RK.V (Eff.call0 (r_Of _ j4)) ?_
     refine RK.alc guard_none (op_alloc hT rfl rfl) ?_
     refine RK.S hT rfl rfl rfl rfl rfl rfl rfl ?_
     refine RK.D ?_
     refine AWp_seq ?_
     refine AWp_sr hP ?_
     refine RK.As rfl ?_
     refine RK.D ?_
     refine AWp_block ?_
     refine AWp_loop (ι := Nat) (fun k => stL [(1, Z p), (2, .loc 2 0), (4, .loc 4 0), (8, .loc 8 0), (9, Z (k : Int))] [(2, ⟨false, 1, 36, [zn (d), zm (d)]⟩), (4, ⟨false, 1, 53, FL 0 0 0⟩), (8, ⟨false, 1, 36, [zn (4 * p), zm (4 * p)]⟩)]) (fun k => (k : Int) ≤ 2 * p ∧ ∀ y : Int, 0 ≤ y → y < k → (y * y - d) % (4 * p) ≠ 0) (fun k => (2 * p).toNat - k) 0 ⟨by omega, fun y h1 h2 => by omega⟩ (le_stL ⟨.refl _, .refl _, .refl _, .refl _, .refl _, trivial⟩ ⟨rfl, rfl, rfl, trivial⟩) ?_
     rintro k ⟨hk, hno⟩
     refine AWp_seq ?_
     refine AWp_sr hP ?_
     refine RK.M rfl ?_
     refine RK.M rfl ?_
     refine RK.V (op_mul rfl rfl (by first | exact IntWalk.i64_in _ (by omega) | rfl)) ?_
     refine RK.V (op_lss rfl rfl) ?_
     refine RK.D ?_
     refine AWp_cond rfl (fun hb5 => ?_) (fun hb5 => ?_)
     ·have hb5_ := of_decide_eq_true hb5
      have hs := sqB2 (b := (k : Int)) (p := p) (by omega) (by omega)
      have jk : InI64 (k : Int) := by unfold InI64; omega
      have jkk : InI64 ((k : Int) * k) := by unfold InI64; omega
      have ik : LB (k : Int) 10 := ⟨(show L 6 _ by unfold L; omega).mono (by decide)⟩
      have ikk : LB ((k : Int) * k) 10 := ⟨(show L 6 _ by unfold L; omega).mono (by decide)⟩
      have iq : LB (((k : Int) * k - d) / (4 * p)) 20 := ⟨L.of_le (show L 20 ((k : Int) * k - d) from lz) (by have := Int.natAbs_ediv_le_natAbs ((k : Int) * k - d) (4 * p); omega)⟩
      refine AWp_skip ?_
      refine AWp_seq ?_
      refine AWp_block ?_
      refine AWp_sr hP ?_
      refine RK.M rfl ?_
      refine RK.M rfl ?_
      refine RK.V (op_mul rfl rfl (by first | exact IntWalk.i64_in _ (by omega) | rfl)) ?_
      refine RK.V (Eff.call0 (r_Of _ jkk)) ?_
      refine RK.G2 hT rfl rfl rfl rfl rfl rfl ?_
      refine RK.V (Eff.call0 (r_Sub _ _ lz lz)) ?_
      refine RK.alc guard_none (op_alloc hT rfl rfl) ?_
      refine RK.S hT rfl rfl rfl rfl rfl rfl rfl ?_
      refine RK.D ?_
      refine AWp_seq ?_
      refine AWp_sr hP ?_
      refine RK.G2 hT rfl rfl rfl rfl rfl rfl ?_
      refine RK.G2 hT rfl rfl rfl rfl rfl rfl ?_
      refine RK.V (Eff.call0 (r_Mod _ _ lz lz i4n)) ?_
      refine RK.V (Eff.call0 (r_Sign _)) ?_
      refine RK.V (op_neq rfl rfl) ?_
      refine RK.D ?_
      refine AWp_cond rfl (fun hb6 => ?_) (fun hb6 => ?_)
      ·have hb6_ := bneT hb6
       refine AWp_exit ?_
       refine AWp_region hP ?_
       refine RK.M rfl ?_
       refine RK.V (op_add rfl rfl (by first | exact IntWalk.i64_in _ (by omega) | rfl)) ?_
       refine RK.As rfl ?_
       refine RK.D ?_
       refine ⟨k + 1, ⟨by omega, ls_ext hno (fun e => hb6_ (sgn0.2 e))⟩, by omega, le_stL ⟨.refl _, .refl _, .refl _, .refl _, Sub.int (by omega), trivial⟩ ⟨rfl, rfl, rfl, trivial⟩⟩
      ·have hb6_ := bneF hb6
       refine AWp_skip ?_
       refine AWp_sr hP ?_
       refine RK.M rfl ?_
       refine RK.V (Eff.call0 (r_Of _ jp)) ?_
       refine RK.M rfl ?_
       refine RK.V (Eff.call0 (r_Of _ jk)) ?_
       refine RK.G2 hT rfl rfl rfl rfl rfl rfl ?_
       refine RK.G2 hT rfl rfl rfl rfl rfl rfl ?_
       refine RK.V (Eff.call0 (r_Div _ _ lz lz i4n)) ?_
       refine RK.V (op_build_st hT rfl rfl rfl (es := [_, _, _, _, _, _]) rfl) ?_
       refine RK.alc guard_none (op_alloc hT rfl rfl) ?_
       refine RK.S hT rfl rfl rfl rfl rfl rfl rfl ?_
       refine RK.D ?_
       refine AWp_seq ?_
       refine AWp_sr hP ?_
       refine RK.G6 hT rfl rfl rfl rfl rfl rfl ?_
       refine RK.V (Eff.call0 (r8_Primitive _ _ _ lz lz lz)) ?_
       refine RK.V (op_unot rfl) ?_
       refine RK.D ?_
       refine AWp_cond rfl (fun hb7 => ?_) (fun hb7 => ?_)
       ·have hb7_ := (notT hb7)
        refine AWp_sr hP ?_
        refine RK.V (op_build_st hT rfl rfl rfl (es := [_, _, _, _, _, _]) rfl) ?_
        refine RK.S hT rfl rfl rfl rfl rfl rfl rfl ?_
        refine RK.As rfl ?_
        refine RK.D ?_
        refine AWp_ret ?_
        refine ends_two rfl (.inr rfl) (res_cell_agg hT rfl rfl rfl rfl (cs := [_, _, _, _, _, _]) rfl rfl) (res_tmp rfl) ?_ O_ends
        obtain ⟨e1, e2⟩ := mk.found (x := (k : Int)) (by omega) (by omega) (sgn0.1 hb6_) hno
        subst e2
        exact Sub.of_eq (px_err (px_6b hg1_ (prE_neg hg1_ hb2_) hg3_ hb4_ e1 hb7_) (by decide))
       ·have hb7_ := (notF hb7)
        refine AWp_skip ?_
        refine AWp_sr hP ?_
        refine RK.G6 hT rfl rfl rfl rfl rfl rfl ?_
        refine RK.V (Eff.call0 (r9_Reduced _ _ _ lz lz lz)) ?_
        refine RK.S hT rfl rfl rfl rfl rfl rfl rfl ?_
        refine RK.As rfl ?_
        refine RK.D ?_
        refine AWp_ret ?_
        refine ends_two rfl (.inr rfl) (res_cell_agg hT rfl rfl rfl rfl (cs := [_, _, _, _, _, _]) rfl rfl) (res_tmp rfl) ?_ O_ends
        obtain ⟨e1, e2⟩ := mk.found (x := (k : Int)) (by omega) (by omega) (sgn0.1 hb6_) hno
        subst e2
        exact Sub.of_eq (px_0 hg1_ (prE_neg hg1_ hb2_) hg3_ hb4_ e1 hb7_)
     ·have hb5_ := of_decide_eq_false hb5
      refine AWp_exit ?_
      refine AWp_sr hP ?_
      refine RK.V (op_build_st hT rfl rfl rfl (es := [_, _, _, _, _, _]) rfl) ?_
      refine RK.S hT rfl rfl rfl rfl rfl rfl rfl ?_
      refine RK.As rfl ?_
      refine RK.D ?_
      refine AWp_ret ?_
      refine ends_two rfl (.inr rfl) (res_cell_agg hT rfl rfl rfl rfl (cs := [_, _, _, _, _, _]) rfl rfl) (res_tmp rfl) ?_ O_ends
      have e1 := mk.none (fun y h1 h2 => hno y h1 (by omega))
      exact Sub.of_eq (px_err (px_6a hg1_ (prE_neg hg1_ hb2_) hg3_ hb4_ e1) (by decide))
theorem prime_both (d p : Int) (hd : L 6 d) (jp : InI64 p) (hp : p ≤ 1031 ∨ 1048576 ≤ p) : ∃ (f : Fm) (e : Int),
  Call0 Tryz.prog 145 [I d, Z p] (.t [PF f, PE e]) ∧ Call0 Tryz.prog 64 [I d, Z p] (.t [PF f, PE e]) ∧ (prQ p = true → prE d = 0 → d < 0 → p < 1048576 → e = 0 ∨ e = 6) ∧ (prQ p = true → e = 0 → ∃ g, Cl d g ∧ g.a = p ∧ f = g.rd) := by
 have hd10 : L 10 d := hd.mono (by decide)
 have h2 : prQ p = true → 2 ≤ p := fun h => by
  rcases Int.lt_or_le p 2 with g | g
  ·rw [prQ_no g] at h; cases h
  ·exact g
 have key : ∃ t b, (prQ p = true → p < 1048576 → MidOk d p t b ∧ (prE d = 0 → Call0 Tryz.prog 190 [I d, Z p] (.t [.c (.v (.int .i64 b)), PB t]))) := by
  by_cases h : prQ p = true ∧ p < 1048576
  ·have hp2 := h2 h.1
   have hpb : primeB p = true := by rw [← prQ_yes (by omega)]; exact h.1
   rcases Int.lt_or_eq_of_le hp2 with g | g
   ·by_cases hE : prE d = 0
    ·have hs := sqOk_pr (p := p) (by omega) (by omega) hpb d
     have hpr := primeB_pr hp2 (by omega) hpb
     exact ⟨_, _, fun _ _ => ⟨mid_odd (by omega) hs.1 hpr hE hs.2, fun _ => co_middle d p (by omega) (by omega) hs.1 hd10 (fun _ _ x => hs.2.st x) hs.2.b⟩⟩
    ·obtain ⟨t, b, h3, h4⟩ := mid_ex (d := d) (p := p) (by omega)
     exact ⟨t, b, fun _ _ => ⟨h3, fun x => absurd x hE⟩⟩
   ·obtain ⟨t, b, h3, h4⟩ := mid_ex (d := d) (p := p) (by omega)
    refine ⟨t, b, fun _ _ => ⟨h3, fun _ => ?_⟩⟩
    rw [← g] at h3 ⊢
    exact co_middle2 d hd10 t b h3 h4
  ·exact ⟨false, 0, fun h1 h3 => absurd ⟨h1, h3⟩ h⟩
 obtain ⟨t, b, hk⟩ := key
 have hs1 : p < 1048576 → p ≤ 1000000 := fun h => by omega
 have c1 := co_PrimeG d p b t (prQ p) jp hd10 (fun h => co_IsPrimeQ p (hs1 h)) (fun h1 h3 h4 => (hk h1 h3).2 h4) h2 (fun h1 h3 => ⟨(hk h1 h3).1.b0, by have := (hk h1 h3).1.b2; omega⟩)
 have c2 := r9_PrimeG d p b t (prQ p) jp hd10 (fun h => r3_IsPrimeQ p (hs1 h)) (fun h1 h3 => (hk h1 h3).1) h2
 exact ⟨_, _, c1, c2, fun h1 h3 h4 h5 => px_67 h3 h4 h5 h1, fun h1 h3 => by
  have hlt : p < 1048576 := px_lt h3
  have := px_cl (N := -d) (by omega) (h2 h1) (hk h1 hlt).1 h3
  exact ⟨_, this.1, rfl, this.2⟩⟩
end Go.Proofs.YtpaifigafaijpaaGreatDoor
end

section
/- chapter 9: ComposePrimes -/
namespace Go.Proofs.YtpaifigafaijpaaGreatDoor
open Go Go.AM
set_option maxRecDepth 100000
set_option maxHeartbeats 1000000
theorem l_primeG (d p : Int) (f : Fm) (e : Int) (h : Call0 Tryz.prog 145 [I d, Z p] (.t [PF f, PE e])) :
  Call0 Tryz.prog 65 [I d, Z p] (.p (.a (FL f.a f.b f.c ++ [.v (.int .i64 (e))]))) := by
 refine callM_of (np := 0) Tryz.func65 (by kernel_rfl) rfl rfl (Nat.le_of_ble_eq_true rfl) (fun m h => absurd rfl h) (fun m h => absurd rfl h) rfl ?_
 refine AWp_sr hP ?_
 refine RK.alc guard_none (op_box rfl rfl) ?_
 refine RK.alc guard_none (op_alloc hT rfl rfl) ?_
 refine RK.D ?_
 refine AWp_sr hP ?_
 refine RK.G2 hT rfl rfl rfl rfl rfl rfl ?_
 refine RK.M rfl ?_
 refine RK.V (Eff.call0 h) ?_
 refine RK.V (op_move (rfl : _ = AV.t _)) ?_
 refine RK.V (op_extract rfl (v := .a _) rfl) ?_
 refine RK.V (op_extract rfl (v := .c _) rfl) ?_
 refine RK.alc guard_none (op_alloc hT rfl rfl) ?_
 refine RK.S hT rfl rfl rfl rfl rfl rfl rfl ?_
 refine RK.As rfl ?_
 refine RK.D ?_
 refine AWp_sr hP ?_
 refine RK.G6 hT rfl rfl rfl rfl rfl rfl ?_
 refine RK.M rfl ?_
 refine RK.V (op_build_st hT rfl rfl rfl (es := [_, _, _, _, _, _, _]) rfl) ?_
 refine RK.S hT rfl rfl rfl rfl rfl rfl rfl ?_
 refine RK.D ?_
 refine AWp_ret ?_
 refine ends_one rfl (.inr rfl) (res_cell_agg hT rfl rfl rfl rfl (cs := [_, _, _, _, _, _, _]) rfl rfl) ?_ O_ends
 exact .refl _
set_option maxHeartbeats 4000000 in
theorem l_represents (c : Fm) (N : Int) (jN : InI64 N) (ha : L 6 c.a) (hb : L 6 c.b) (hc : L 6 c.c) (hR : Rep c N) :
  Call0 Tryz.prog 67 [FA c.a c.b c.c, Z N] (B true) := by
 have jca : LB c.a 6 := ⟨ha⟩
 have jcb : LB c.b 6 := ⟨hb⟩
 have jcc : LB c.c 6 := ⟨hc⟩
 refine callM_of (np := 0) Tryz.func67 (by kernel_rfl) rfl rfl (Nat.le_of_ble_eq_true rfl) (fun m h => absurd rfl h) (fun m h => absurd rfl h) rfl ?_
 refine AWp_sr hP ?_
 refine RK.alc guard_none (op_box rfl rfl) ?_
 refine RK.As rfl ?_
 refine RK.D ?_
 refine AWp_seq ?_
 refine AWp_sr hP ?_
 refine RK.As rfl ?_
 refine RK.D ?_
 refine AWp_block ?_
 refine AWp_loop (ι := Int) (fun a => stL [(1, Z N), (2, .loc 2 0), (5, Z a)] [(2, ⟨false, 1, 53, FL c.a c.b c.c⟩)]) (fun a => (0 ≤ a ∧ a ≤ 41) ∧ NoA c N a) (fun a => (41 - a).toNat) 0 ⟨by omega, .start⟩ (le_stL ⟨.refl _, .refl _, .refl _, trivial⟩ ⟨rfl, trivial⟩) ?_
 rintro a ⟨hxa, hno⟩
 refine AWp_seq ?_
 refine AWp_sr hP ?_
 refine RK.M rfl ?_
 refine RK.V (op_leq rfl rfl) ?_
 refine RK.D ?_
 refine AWp_cond rfl (fun hb1 => ?_) (fun hb1 => ?_)
 ·have hb1_ := of_decide_eq_true hb1
  have ja : InI64 a := by unfold InI64; omega
  have ia : LB a 6 := ⟨by unfold L; omega⟩
  refine AWp_skip ?_
  refine AWp_seq ?_
  refine AWp_block ?_
  refine AWp_sr hP ?_
  refine RK.As rfl ?_
  refine RK.D ?_
  refine AWp_block ?_
  refine AWp_loop (ι := Int) (fun b => stL [(1, Z N), (2, .loc 2 0), (5, Z a), (6, Z b)] [(2, ⟨false, 1, 53, FL c.a c.b c.c⟩)]) (fun b => (-40 ≤ b ∧ b ≤ 41) ∧ NoB c N a b) (fun b => (41 - b).toNat) (-40) ⟨by omega, .start⟩ (le_stL ⟨.refl _, .refl _, .refl _, .refl _, trivial⟩ ⟨rfl, trivial⟩) ?_
  rintro b ⟨hxb, hr⟩
  refine AWp_seq ?_
  refine AWp_sr hP ?_
  refine RK.M rfl ?_
  refine RK.V (op_leq rfl rfl) ?_
  refine RK.D ?_
  refine AWp_cond rfl (fun hb2 => ?_) (fun hb2 => ?_)
  ·have hb2_ := of_decide_eq_true hb2
   have jb : InI64 b := by unfold InI64; omega
   have ib : LB b 6 := ⟨by unfold L; omega⟩
   refine AWp_skip ?_
   refine AWp_seq ?_
   refine AWp_block ?_
   refine AWp_sr hP ?_
   refine RK.G6 hT rfl rfl rfl rfl rfl rfl ?_
   refine RK.M rfl ?_
   refine RK.V (Eff.call0 (r_Of b jb)) ?_
   refine RK.M rfl ?_
   refine RK.V (Eff.call0 (r_Of a ja)) ?_
   refine RK.V (Eff.call0 (q_Value c.a c.b c.c b a lz lz lz lz lz)) ?_
   refine RK.M rfl ?_
   refine RK.V (Eff.call0 (r_Of N jN)) ?_
   refine RK.V (Eff.call0 (int_Cmp _ _)) ?_
   refine RK.V (op_eql rfl rfl) ?_
   refine RK.D ?_
   refine AWp_cond rfl (fun hb3 => ?_) (fun hb3 => ?_)
   ·have hb3_ := bT hb3
    refine AWp_sr hP ?_
    refine RK.As rfl ?_
    refine RK.D ?_
    refine AWp_ret ?_
    refine ends_one rfl (.inr rfl) (res_tmp rfl) ?_ O_ends
    exact .refl _
   ·have hb3_ := bF hb3
    refine AWp_skip ?_
    refine AWp_region hP ?_
    refine RK.M rfl ?_
    refine RK.V (op_add rfl rfl (by first | exact IntWalk.i64_in _ (by omega) | rfl)) ?_
    refine RK.As rfl ?_
    refine RK.D ?_
    refine ⟨b + 1, ⟨by omega, hr.next (fun e => hb3_ (cmpI_eq_zero.2 e))⟩, by omega, le_stL ⟨.refl _, .refl _, .refl _, .refl _, trivial⟩ ⟨rfl, trivial⟩⟩
  ·have hb2_ := of_decide_eq_false hb2
   refine AWp_exit ?_
   refine AWp_region hP ?_
   refine RK.M rfl ?_
   refine RK.V (op_add rfl rfl (by first | exact IntWalk.i64_in _ (by omega) | rfl)) ?_
   refine RK.As rfl ?_
   refine RK.D ?_
   refine ⟨a + 1, ⟨by omega, hno.next hr hb2_⟩, by omega, le_stL ⟨.refl _, .refl _, .refl _, trivial⟩ ⟨rfl, trivial⟩⟩
 ·have hb1_ := of_decide_eq_false hb1
  refine AWp_exit ?_
  refine AWp_sr hP ?_
  refine RK.As rfl ?_
  refine RK.D ?_
  refine AWp_ret ?_
  refine ends_one rfl (.inr rfl) (res_tmp rfl) ?_ O_ends
  exact (hno.fin hb1_ hR).elim
set_option maxHeartbeats 16000000 in
theorem l_ComposePrimes (D i0 i1 i2 i3 m0 m1 m2 m3 : Nat) (hD : D < 65536) (g0 : i0 < 65536) (g1 : i1 < 65536) (g2 : i2 < 65536) (g3 : i3 < 65536) (k0 : m0 < 256) (k1 : m1 < 256) (k2 : m2 < 256) (k3 : m3 < 256) (s : Bool) (ws : List Nat) (hw : okW ws) (p : Int) (jp : InI64 p) :
  Call0 Tryz.prog 12 [.p (.a [.v (.int .u16 (D : Int)), .v (.int .u16 (i0 : Int)), .v (.int .u16 (i1 : Int)), .v (.int .u16 (i2 : Int)), .v (.int .u16 (i3 : Int)), .v (.int .u8 (m0 : Int)), .v (.int .u8 (m1 : Int)), .v (.int .u8 (m2 : Int)), .v (.int .u8 (m3 : Int))]), .p (.a [.v (.bool s), W ws]), Z p] (B true) := by
 have cZ := r8_Size _ _ _ _ _ _ _ _ _ hD g0 g1 g2 g3 k0 k1 k2 k3
 have hE := prE_sz D
 obtain ⟨s1, s2, s3, s4, s5⟩ := szz_spec D
 generalize szz D = N at cZ hE s1 s2 s3 s4 s5
 have hL := md_L (n := s) hw
 have cM : Call0 Tryz.prog 16 [.p (.a [.v (.bool s), W ws]), Z 2] (I (md s ws)) := r_Made s ws 2 hw (by decide)
 generalize md s ws = e at cM hL
 have jN : InI64 (-N) := by unfold InI64; omega
 have hN6 : L 6 (-N) := by unfold L; omega
 have cO : Call0 Tryz.prog 17 [Z (0 - N)] (I (-N)) := by
  have h := r_Of (0 - N) (by rw [Int.zero_sub]; exact jN)
  rw [Int.zero_sub] at h ⊢
  exact h
 refine callM_of (np := 0) Tryz.func12 (by kernel_rfl) rfl rfl (Nat.le_of_ble_eq_true rfl) (fun m h => absurd rfl h) (fun m h => absurd rfl h) rfl ?_
 refine AWp_sr hP ?_
 refine RK.alc guard_none (op_box rfl rfl) ?_
 refine RK.alc guard_none (op_box rfl rfl) ?_
 refine RK.As rfl ?_
 refine RK.D ?_
 refine AWp_sr hP ?_
 refine RK.V (Eff.call0 l_examples) ?_
 refine RK.As rfl ?_
 refine RK.D ?_
 refine AWp_seq ?_
 refine AWp_sr hP ?_
 refine RK.M rfl ?_
 refine RK.V (op_unot rfl) ?_
 refine RK.D ?_
 refine AWp_cond_false rfl rfl ?_
 refine AWp_skip ?_
 refine AWp_seq_cut (ι := Int) (fun q => stL [(2, Z q), (3, .loc 3 0), (4, .loc 4 0), (7, .p (.c (.v (.bool true))))] [(3, ⟨false, 1, 26, [.v (.int .u16 (D : Int)), .v (.int .u16 (i0 : Int)), .v (.int .u16 (i1 : Int)), .v (.int .u16 (i2 : Int)), .v (.int .u16 (i3 : Int)), .v (.int .u8 (m0 : Int)), .v (.int .u8 (m1 : Int)), .v (.int .u8 (m2 : Int)), .v (.int .u8 (m3 : Int))]⟩), (4, ⟨false, 1, 29, [.v (.bool s), W ws]⟩)]) (fun q => InI64 q ∧ (q ≤ 1031 ∨ 1048576 ≤ q)) ?_ ?_
 ·refine AWp_sr hP ?_
  refine RK.M rfl ?_
  refine RK.V (op_gtr rfl rfl) ?_
  refine RK.M rfl ?_
  refine RK.split (t := 22) rfl (fun hg1 => ?_) (fun hg1 => ?_)
  ·have hg1_ := of_decide_eq_true hg1
   refine RK.val (guard_yes rfl rfl hg1) (op_move (rfl : _ = AV.p (.c _))) ?_
   refine RK.val (guard_yes rfl rfl hg1) (op_lss rfl rfl) ?_
   refine RK.V (op_pick_t rfl hg1 (rfl : _ = AV.p (.c _))) ?_
   refine RK.D ?_
   refine AWp_cond rfl (fun hb2 => ?_) (fun hb2 => ?_)
   ·have hb2_ := of_decide_eq_true hb2
    refine AWp_region hP ?_
    refine RK.M rfl ?_
    refine RK.V (op_rem rfl rfl (by decide) (c := p % 1024) (Int.tmod_eq_emod_of_nonneg (by omega))) ?_
    refine RK.As rfl ?_
    refine RK.D ?_
    refine ⟨p % 1024, ⟨by unfold InI64; omega, .inl (by omega)⟩, le_stL ⟨.refl _, .refl _, .refl _, .refl _, trivial⟩ ⟨rfl, rfl, trivial⟩⟩
   ·have hb2_ := of_decide_eq_false hb2
    refine AWp_skip ?_
    refine ⟨p, ⟨jp, .inr (by omega)⟩, le_stL ⟨.refl _, .refl _, .refl _, .refl _, trivial⟩ ⟨rfl, rfl, trivial⟩⟩
  ·have hg1_ := of_decide_eq_false hg1
   refine RK.skip (guard_no rfl rfl hg1) ?_
   refine RK.skip (guard_no rfl rfl hg1) ?_
   refine RK.V (op_pick_f rfl hg1 (rfl : _ = AV.p (.c _))) ?_
   refine RK.D ?_
   refine AWp_cond_false rfl rfl ?_
   refine AWp_skip ?_
   refine ⟨p, ⟨jp, .inl (by omega)⟩, le_stL ⟨.refl _, .refl _, .refl _, .refl _, trivial⟩ ⟨rfl, rfl, trivial⟩⟩
 rintro q ⟨jq, hq⟩
 refine AWp_sr hP ?_
 refine RK.V (op_load_agg hT rfl rfl rfl rfl (cs := [_, _, _, _, _, _, _, _, _]) rfl rfl) ?_
 refine RK.V (Eff.call0 cZ) ?_
 refine RK.V (op_uneg rfl (IntWalk.i64_in _ (by omega))) ?_
 refine RK.V (Eff.call0 cO) ?_
 refine RK.G2 hT rfl rfl rfl rfl rfl rfl ?_
 refine RK.V (Eff.call0 cM) ?_
 refine RK.V (op_bslice hT rfl rfl rfl (es := [_, _, _, _]) rfl rfl rfl) ?_
 refine RK.As rfl ?_
 refine RK.D ?_
 refine AWp_seq ?_
 refine AWp_sr hP ?_
 refine RK.As rfl ?_
 refine RK.D ?_
 refine AWp_block ?_
 refine AWp_loop (ι := Nat) (fun k => stL [(2, Z q), (7, .p (.c (.v (.bool true)))), (8, .p (.c (.sl 2 [zn (-N), zm (-N), zn e, zm e]))), (9, Z (k : Int))] []) (fun k => k ≤ 2) (fun k => 2 - k) 0 (by decide) (le_stL ⟨.refl _, .refl _, .refl _, .refl _, trivial⟩ trivial) ?_
 intro k hk
 refine AWp_seq ?_
 refine AWp_sr hP ?_
 refine RK.M rfl ?_
 refine RK.V (op_lss rfl rfl) ?_
 refine RK.D ?_
 refine AWp_cond rfl (fun hb3 => ?_) (fun hb3 => ?_)
 ·have hb3_ := of_decide_eq_true hb3
  have hk2 : (k : Int) < 2 := hb3_
  have hdL : L 6 (dw (-N) e k) := by unfold dw; split; exact hN6; exact hL
  generalize hdk : dw (-N) e k = d at hdL
  refine (prime_both d q hdL jq hq).elim fun f h => h.elim fun e1 h => ?_
  have cP := h.1
  have cR := h.2.1
  refine AWp_skip ?_
  refine AWp_seq ?_
  refine AWp_block ?_
  refine AWp_sr hP ?_
  refine RK.M rfl ?_
  refine RK.M rfl ?_
  refine RK.V (by first | exact op_index_WN hT rfl rfl rfl rfl rfl rfl (by omega) | exact op_index_sl hT rfl rfl rfl rfl rfl rfl (by omega) (by first | exact W_ne (by omega) | simp)) ?_
  refine RK.V (op_load_ip_agg hT rfl rfl rfl (cs := [zn d, zm d]) (dw_get hb3_ hdk) rfl) ?_
  refine RK.M rfl ?_
  refine RK.V (Eff.call0 cR) ?_
  refine RK.V (op_move (rfl : _ = AV.t _)) ?_
  refine RK.V (op_extract rfl (v := .a _) rfl) ?_
  refine RK.V (op_extract rfl (v := .c _) rfl) ?_
  refine RK.alc guard_none (op_alloc hT rfl rfl) ?_
  refine RK.S hT rfl rfl rfl rfl rfl rfl rfl ?_
  refine RK.As rfl ?_
  refine RK.D ?_
  refine AWp_sr hP ?_
  refine RK.M rfl ?_
  refine RK.M rfl ?_
  refine RK.V (by first | exact op_index_WN hT rfl rfl rfl rfl rfl rfl (by omega) | exact op_index_sl hT rfl rfl rfl rfl rfl rfl (by omega) (by first | exact W_ne (by omega) | simp)) ?_
  refine RK.V (op_load_ip_agg hT rfl rfl rfl (cs := [zn d, zm d]) (dw_get hb3_ hdk) rfl) ?_
  refine RK.M rfl ?_
  refine RK.V (Eff.call0 (l_primeG d q f e1 cP)) ?_
  refine RK.alc guard_none (op_alloc hT rfl rfl) ?_
  refine RK.S hT rfl rfl rfl rfl rfl rfl rfl ?_
  refine RK.D ?_
  refine AWp_sr hP ?_
  refine RK.V (op_load_agg hT rfl rfl rfl rfl (cs := [_, _, _, _, _, _, _]) rfl rfl) ?_
  refine RK.G6 hT rfl rfl rfl rfl rfl rfl ?_
  refine RK.M rfl ?_
  refine RK.V (Eff.call0 (l_same _ _ _ _)) ?_
  refine RK.V (op_unot rfl) ?_
  refine RK.D ?_
  refine AWp_cond_false rfl (congrArg not (same_t f e1)) ?_
  refine AWp_skip ?_
  refine AWp_region hP ?_
  refine RK.M rfl ?_
  refine RK.V (op_add rfl rfl (by first | exact IntWalk.i64_in _ (by omega) | rfl)) ?_
  refine RK.As rfl ?_
  refine RK.D ?_
  refine ⟨k + 1, by omega, by omega, le_stL ⟨.refl _, .refl _, .refl _, Sub.int (by omega), trivial⟩ trivial⟩
 ·have hb3_ := of_decide_eq_false hb3
  have hm0 : 0 ≤ q % 1024 ∧ q % 1024 ≤ 1023 := by omega
  obtain ⟨mN, hmN⟩ : ∃ m : Nat, q % 1024 = (m : Int) := ⟨(q % 1024).toNat, by omega⟩
  have hm : mN ≤ 1023 := by omega
  have hmu := IntWalk.u16_in (mN : Int) (by omega)
  have cQ := r3_Prime mN hm
  refine AWp_exit ?_
  have hnx := nx_ok hm
  have jx : InI64 (nxP mN : Int) := by unfold InI64; omega
  generalize hQe : (nxP mN : Int) = Qn at cQ jx
  have hQ : Qn ≤ 1031 := by omega
  have hQp : prQ Qn = true := by rw [← hQe]; exact hnx.1
  refine AWp_sr hP ?_
  refine RK.M rfl ?_
  refine RK.V (op_and rfl rfl (c := (mN : Int)) (by rw [bits_1023]; exact hmN)) ?_
  refine RK.V (op_conv hT rfl rfl rfl rfl hmu) ?_
  refine RK.V (Eff.call0 cQ) ?_
  refine RK.As rfl ?_
  refine RK.D ?_
  refine (prime_both (-N) Qn hN6 jx (.inl hQ)).elim fun f2 h => h.elim fun e2 h => ?_
  have cP2 := h.1
  have h06 := h.2.2.1 hQp hE (by omega) (by omega)
  have hgf := h.2.2.2 hQp
  refine AWp_sr hP ?_
  refine RK.M rfl ?_
  refine RK.V (by first | exact op_index_WN hT rfl rfl rfl rfl rfl rfl (by omega) | exact op_index_sl hT rfl rfl rfl rfl rfl rfl (by omega) (by first | exact W_ne (by omega) | simp)) ?_
  refine RK.V (op_load_ip_agg hT rfl rfl rfl (cs := [_, _]) rfl rfl) ?_
  refine RK.M rfl ?_
  refine RK.V (Eff.call0 (l_primeG (-N) Qn f2 e2 cP2)) ?_
  refine RK.alc guard_none (op_alloc hT rfl rfl) ?_
  refine RK.S hT rfl rfl rfl rfl rfl rfl rfl ?_
  refine RK.D ?_
  refine AWp_seq ?_
  refine AWp_sr hP ?_
  refine RK.F hT rfl rfl rfl rfl rfl rfl ?_
  refine RK.V (op_load_one hT rfl rfl rfl rfl (by first | rfl | exact vget (by omega))) ?_
  refine RK.V (op_neq rfl rfl) ?_
  refine RK.D ?_
  refine AWp_cond rfl (fun hb4 => ?_) (fun hb4 => ?_)
  ·have hb4_ := bneT hb4
   refine AWp_sr hP ?_
   refine RK.F hT rfl rfl rfl rfl rfl rfl ?_
   refine RK.V (op_load_one hT rfl rfl rfl rfl (by first | rfl | exact vget (by omega))) ?_
   refine RK.V (op_eql rfl rfl) ?_
   refine RK.M rfl ?_
   refine RK.val (guard_yes rfl rfl (eqI (h06.resolve_left hb4_))) (op_move (rfl : _ = AV.p (.c _))) ?_
   refine RK.V (op_pick_t rfl (eqI (h06.resolve_left hb4_)) (rfl : _ = AV.p (.c _))) ?_
   refine RK.As rfl ?_
   refine RK.D ?_
   refine AWp_ret ?_
   refine ends_one rfl (.inr rfl) (res_tmp rfl) ?_ O_ends
   exact .refl _
  ·have hb4_ := bneF hb4
   have he0 : e2 = 0 := hb4_
   subst he0
   refine (hgf rfl).elim fun g hg => ?_
   obtain ⟨hg1, hg2, hg3⟩ := hg
   have hf2 : Cl (-N) f2 := hg3 ▸ hg1.rd
   obtain ⟨fa, fb, fc⟩ := red_L6 hf2 (hg3 ▸ hg1.rd_rd) (by omega)
   have jfa : LB f2.a 6 := ⟨fa⟩
   have jfb : LB f2.b 6 := ⟨fb⟩
   have jfc : LB f2.c 6 := ⟨fc⟩
   have cI : Call0 Tryz.prog 40 [FA f2.a f2.b f2.c] (.t [PF f2.mi.rd, PE (rdE f2.a f2.b f2.c)]) := q_Inverse f2.a f2.b f2.c lz lz lz
   rw [pos_rdE hf2.pos] at cI
   have r1 : Rep f2 Qn := by rw [hg3]; exact rep_rd hg1 hg2 (by omega)
   have r2 : Rep f2.mi.rd Qn := by rw [hg3, rd_mi hg1.pos]; exact rep_rd (mi_cl hg1) hg2 (by omega)
   have hi := (mi_cl hf2).rd
   obtain ⟨v1, v2, v3⟩ := red_L6 hi (mi_cl hf2).rd_rd (by omega)
   have cw1 := l_represents f2 Qn jx fa fb fc r1
   have cw2 := l_represents f2.mi.rd Qn jx v1 v2 v3 r2
   generalize f2.mi.rd = IV at *
   refine AWp_skip ?_
   refine AWp_sr hP ?_
   refine RK.F hT rfl rfl rfl rfl rfl rfl ?_
   refine RK.G6 hT rfl rfl rfl rfl rfl rfl ?_
   refine RK.V (Eff.call0 cI) ?_
   refine RK.V (op_move (rfl : _ = AV.t _)) ?_
   refine RK.V (op_extract rfl (v := .a _) rfl) ?_
   refine RK.V (op_extract rfl (v := .c _) rfl) ?_
   refine RK.alc guard_none (op_alloc hT rfl rfl) ?_
   refine RK.S hT rfl rfl rfl rfl rfl rfl rfl ?_
   refine RK.As rfl ?_
   refine RK.D ?_
   refine AWp_sr hP ?_
   refine RK.M rfl ?_
   refine RK.V (op_eql rfl rfl) ?_
   refine RK.M rfl ?_
   refine RK.val (guard_yes rfl rfl rfl) (op_field_loc hT rfl rfl rfl rfl rfl rfl) ?_
   refine RK.val (guard_yes rfl rfl rfl) (op_load_agg hT rfl rfl rfl rfl (cs := [_, _, _, _, _, _]) rfl rfl) ?_
   refine RK.val (guard_yes rfl rfl rfl) (op_move (rfl : _ = AV.p (.c _))) ?_
   refine RK.val (guard_yes rfl rfl rfl) (Eff.call0 cw1) ?_
   refine RK.V (op_pick_t rfl rfl (rfl : _ = AV.p (.c _))) ?_
   refine RK.M rfl ?_
   refine RK.val (guard_yes rfl rfl rfl) (op_load_agg hT rfl rfl rfl rfl (cs := [_, _, _, _, _, _]) rfl rfl) ?_
   refine RK.val (guard_yes rfl rfl rfl) (op_move (rfl : _ = AV.p (.c _))) ?_
   refine RK.val (guard_yes rfl rfl rfl) (Eff.call0 cw2) ?_
   refine RK.V (op_pick_t rfl rfl (rfl : _ = AV.p (.c _))) ?_
   refine RK.M rfl ?_
   refine RK.val (guard_yes rfl rfl rfl) (op_move (rfl : _ = AV.p (.c _))) ?_
   refine RK.V (op_pick_t rfl rfl (rfl : _ = AV.p (.c _))) ?_
   refine RK.As rfl ?_
   refine RK.D ?_
   refine AWp_ret ?_
   refine ends_one rfl (.inr rfl) (res_tmp rfl) ?_ O_ends
   exact .refl _
end Go.Proofs.YtpaifigafaijpaaGreatDoor
end
