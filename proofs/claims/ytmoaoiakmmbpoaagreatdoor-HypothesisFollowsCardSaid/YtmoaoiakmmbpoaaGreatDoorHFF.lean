/- Texts merged by program, in build order. -/
import Derived.Test.YtmoaoiakmmbpoaaGreatDoorHFE
import Derived.Test.YtmoaoiakmmbpoaaGreatDoorHFC
import Derived.Shelf.SortM.Plain
import Derived.Shelf.SortM.SortNone
import Derived.Shelf.SlSortCmp.NoneTotal
section
/- chapter 30: the reference: comparisons, right books -/
namespace Go.Proofs.YtmoaoiakmmbpoaaGreatDoor
open Go Go.AM
/- algorist/algoristref30.cmp -/
set_option maxHeartbeats 1000000 in
set_option maxRecDepth 100000 in
theorem p_rcmp (a b : Int) :
  Call0 Tryz.prog 72 [Z a, Z b] (Z (cmZ a b)) := by
 refine callM_of (np := 0) Tryz.func72 (by kernel_rfl) rfl rfl (Nat.le_of_ble_eq_true rfl) (fun m h => absurd rfl h) (fun m h => absurd rfl h) rfl ?_
 refine AWp_sr hP ?_
 refine RK.As rfl ?_
 refine RK.D ?_
 refine AWp_seq ?_
 refine AWp_sr hP ?_
 refine RK.M rfl ?_
 refine RK.M rfl ?_
 refine RK.V (op_lss rfl rfl) ?_
 refine RK.D ?_
 refine AWp_cond rfl (fun hb1 => ?_) (fun hb1 => ?_)
 ·have hb1_ := of_decide_eq_true hb1
  refine AWp_sr hP ?_
  refine RK.As rfl ?_
  refine RK.D ?_
  refine AWp_ret ?_
  refine ends_one rfl (.inr rfl) (res_tmp rfl) ?_ O_ends
  exact Sub.int (cmZ_l hb1).symm
 ·have hb1_ := of_decide_eq_false hb1
  refine AWp_skip ?_
  refine AWp_seq ?_
  refine AWp_sr hP ?_
  refine RK.M rfl ?_
  refine RK.M rfl ?_
  refine RK.V (op_gtr rfl rfl) ?_
  refine RK.D ?_
  refine AWp_cond rfl (fun hb2 => ?_) (fun hb2 => ?_)
  ·have hb2_ := of_decide_eq_true hb2
   refine AWp_sr hP ?_
   refine RK.As rfl ?_
   refine RK.D ?_
   refine AWp_ret ?_
   refine ends_one rfl (.inr rfl) (res_tmp rfl) ?_ O_ends
   exact Sub.int (cmZ_g hb1 hb2).symm
  ·have hb2_ := of_decide_eq_false hb2
   refine AWp_skip ?_
   refine AWp_sr hP ?_
   refine RK.As rfl ?_
   refine RK.D ?_
   refine AWp_ret ?_
   refine ends_one rfl (.inr rfl) (res_tmp rfl) ?_ O_ends
   exact Sub.int (cmZ_e hb1 hb2).symm
/- algorist/algoristref30.CmpText -/
set_option maxHeartbeats 1000000 in
set_option maxRecDepth 100000 in
theorem p_rcmpS (a b : Str) :
  Call0 Tryz.prog 99 [AS a, AS b] (Z (cmS a b)) := by
 refine callM_of (np := 0) Tryz.func99 (by kernel_rfl) rfl rfl (Nat.le_of_ble_eq_true rfl) (fun m h => absurd rfl h) (fun m h => absurd rfl h) rfl ?_
 refine AWp_sr hP ?_
 refine RK.As rfl ?_
 refine RK.D ?_
 refine AWp_seq ?_
 refine AWp_sr hP ?_
 refine RK.M rfl ?_
 refine RK.M rfl ?_
 refine RK.V (op_slss rfl rfl) ?_
 refine RK.D ?_
 refine AWp_cond rfl (fun hb1 => ?_) (fun hb1 => ?_)
 ·refine AWp_sr hP ?_
  refine RK.As rfl ?_
  refine RK.D ?_
  refine AWp_ret ?_
  refine ends_one rfl (.inr rfl) (res_tmp rfl) ?_ O_ends
  exact Sub.int (cmS_l hb1).symm
 ·refine AWp_skip ?_
  refine AWp_seq ?_
  refine AWp_sr hP ?_
  refine RK.M rfl ?_
  refine RK.M rfl ?_
  refine RK.V (op_sgtr rfl rfl) ?_
  refine RK.D ?_
  refine AWp_cond rfl (fun hb2 => ?_) (fun hb2 => ?_)
  ·refine AWp_sr hP ?_
   refine RK.As rfl ?_
   refine RK.D ?_
   refine AWp_ret ?_
   refine ends_one rfl (.inr rfl) (res_tmp rfl) ?_ O_ends
   exact Sub.int (cmS_g hb1 hb2).symm
  ·refine AWp_skip ?_
   refine AWp_sr hP ?_
   refine RK.As rfl ?_
   refine RK.D ?_
   refine AWp_ret ?_
   refine ends_one rfl (.inr rfl) (res_tmp rfl) ?_ O_ends
   exact Sub.int (cmS_e hb1 hb2).symm
/- algorist/algoristref30.CmpList -/
set_option maxHeartbeats 1000000 in
set_option maxRecDepth 100000 in
theorem p_rcmpL (a b : List Int) :
  Call0 Tryz.prog 39 [.p (.c (SL enZ a)), .p (.c (SL enZ b))] (Z (cmL cmZ a b)) := by
 refine callM_of (np := 0) Tryz.func39 (by kernel_rfl) rfl rfl (Nat.le_of_ble_eq_true rfl) (fun m h => absurd rfl h) (fun m h => absurd rfl h) rfl ?_
 refine AWp_len (t := 0) rfl rfl (fun hla => ?_)
 refine AWp_len (t := 1) rfl rfl (fun hlb => ?_)
 refine AWp_sr hP ?_
 refine RK.As rfl ?_
 refine RK.D ?_
 refine AWp_seq ?_
 refine AWp_sr hP ?_
 refine RK.As rfl ?_
 refine RK.D ?_
 refine AWp_block ?_
 refine AWp_loop (ι := Nat) (fun k => stL [(0, .p (.c (SL enZ a))), (1, .p (.c (SL enZ b))), (5, Z (k : Int))] []) (fun k => k ≤ a.length ∧ ∀ i, i < k → i < a.length ∧ i < b.length ∧ cmZ (a.getD i 0) (b.getD i 0) = 0) (fun k => a.length - k) 0 ⟨Nat.zero_le _, fun i h => by omega⟩ (le_stL ⟨.refl _, .refl _, .refl _, trivial⟩ trivial) ?_
 rintro k ⟨hk, hI⟩
 refine AWp_seq ?_
 refine AWp_sr hP ?_
 refine RK.M rfl ?_
 refine RK.M rfl ?_
 refine RK.V (op_len hT rfl rfl rfl (by rfl)) ?_
 refine RK.V (op_lss rfl rfl) ?_
 refine RK.M rfl ?_
 refine RK.split (t := 10) rfl (fun hg1 => ?_) (fun hg1 => ?_)
 ·have hg1_ := of_decide_eq_true hg1
  refine RK.val (guard_yes rfl rfl hg1) (op_move (rfl : _ = AV.p (.c _))) ?_
  refine RK.val (guard_yes rfl rfl hg1) (op_move (rfl : _ = AV.p (.c _))) ?_
  refine RK.val (guard_yes rfl rfl hg1) (op_len hT rfl rfl rfl (by rfl)) ?_
  refine RK.val (guard_yes rfl rfl hg1) (op_lss rfl rfl) ?_
  refine RK.V (op_pick_t rfl hg1 (rfl : _ = AV.p (.c _))) ?_
  refine RK.D ?_
  refine AWp_cond rfl (fun hb2 => ?_) (fun hb2 => ?_)
  ·have hb2_ := of_decide_eq_true hb2
   refine AWp_skip ?_
   refine AWp_seq ?_
   refine AWp_block ?_
   refine AWp_sr hP ?_
   refine RK.M rfl ?_
   refine RK.M rfl ?_
   refine RK.V (op_indexG hT enZ_len (by decide) 0 (n := (k : Int)) (l := a) rfl rfl rfl rfl rfl rfl (by omega)) ?_
   refine RK.V (op_load_ip_one hT rfl rfl rfl rfl) ?_
   refine RK.M rfl ?_
   refine RK.M rfl ?_
   refine RK.V (op_indexG hT enZ_len (by decide) 0 (n := (k : Int)) (l := b) rfl rfl rfl rfl rfl rfl (by omega)) ?_
   refine RK.V (op_load_ip_one hT rfl rfl rfl rfl) ?_
   refine RK.V (op_neq rfl rfl) ?_
   refine RK.D ?_
   refine AWp_cond rfl (fun hb3 => ?_) (fun hb3 => ?_)
   ·have hb3_ := bneT hb3
    have hne : cmZ (a.getD k 0) (b.getD k 0) ≠ 0 := fun e => bneT hb3 (cmZ_0.1 e)
    refine AWp_sr hP ?_
    refine RK.M rfl ?_
    refine RK.M rfl ?_
    refine RK.V (op_indexG hT enZ_len (by decide) 0 (n := (k : Int)) (l := a) rfl rfl rfl rfl rfl rfl (by omega)) ?_
    refine RK.V (op_load_ip_one hT rfl rfl rfl rfl) ?_
    refine RK.M rfl ?_
    refine RK.M rfl ?_
    refine RK.V (op_indexG hT enZ_len (by decide) 0 (n := (k : Int)) (l := b) rfl rfl rfl rfl rfl rfl (by omega)) ?_
    refine RK.V (op_load_ip_one hT rfl rfl rfl rfl) ?_
    refine RK.V (Eff.call0 (p_rcmp _ _)) ?_
    refine RK.As rfl ?_
    refine RK.D ?_
    refine AWp_ret ?_
    refine ends_one rfl (.inr rfl) (res_tmp rfl) ?_ O_ends
    first | exact Sub.int (cmL_at hI (by omega) (by omega) hne).symm | exact Sub.int (cmL_end hI (by omega))
   ·have hb3_ := bneF hb3
    have heq : cmZ (a.getD k 0) (b.getD k 0) = 0 := cmZ_0.2 (bneF hb3)
    refine AWp_skip ?_
    refine AWp_region hP ?_
    refine RK.M rfl ?_
    refine RK.V (op_add rfl rfl (by first | exact IntWalk.i64_in _ (by omega) | rfl)) ?_
    refine RK.As rfl ?_
    refine RK.D ?_
    refine ⟨k + 1, ⟨by omega, fun i h1 => by
      by_cases e : i = k
      ·subst e; exact ⟨by omega, by omega, heq⟩
      ·exact hI i (by omega)⟩, by omega, le_stL ⟨.refl _, .refl _, Sub.int (by omega), trivial⟩ trivial⟩
  ·have hb2_ := of_decide_eq_false hb2
   refine AWp_exit ?_
   refine AWp_sr hP ?_
   refine RK.M rfl ?_
   refine RK.V (op_len hT rfl rfl rfl (by rfl)) ?_
   refine RK.M rfl ?_
   refine RK.V (op_len hT rfl rfl rfl (by rfl)) ?_
   refine RK.V (Eff.call0 (p_rcmp _ _)) ?_
   refine RK.As rfl ?_
   refine RK.D ?_
   refine AWp_ret ?_
   refine ends_one rfl (.inr rfl) (res_tmp rfl) ?_ O_ends
   first | exact Sub.int (cmL_at hI (by omega) (by omega) hne).symm | exact Sub.int (cmL_end hI (by omega))
 ·have hg1_ := of_decide_eq_false hg1
  refine RK.skip (guard_no rfl rfl hg1) ?_
  refine RK.skip (guard_no rfl rfl hg1) ?_
  refine RK.skip (guard_no rfl rfl hg1) ?_
  refine RK.skip (guard_no rfl rfl hg1) ?_
  refine RK.V (op_pick_f rfl hg1 (rfl : _ = AV.p (.c _))) ?_
  refine RK.D ?_
  refine AWp_cond_false rfl rfl ?_
  refine AWp_exit ?_
  refine AWp_sr hP ?_
  refine RK.M rfl ?_
  refine RK.V (op_len hT rfl rfl rfl (by rfl)) ?_
  refine RK.M rfl ?_
  refine RK.V (op_len hT rfl rfl rfl (by rfl)) ?_
  refine RK.V (Eff.call0 (p_rcmp _ _)) ?_
  refine RK.As rfl ?_
  refine RK.D ?_
  refine AWp_ret ?_
  refine ends_one rfl (.inr rfl) (res_tmp rfl) ?_ O_ends
  first | exact Sub.int (cmL_at hI (by omega) (by omega) hne).symm | exact Sub.int (cmL_end hI (by omega))
/- algorist/algoristref30.Cmp -/
set_option maxHeartbeats 1000000 in
set_option maxRecDepth 100000 in
theorem p_rcmpD (a b : Drv) :
  Call0 Tryz.prog 64 [.p (.a (enD a)), .p (.a (enD b))] (Z (cmD a b)) := by
 refine callM_of (np := 0) Tryz.func64 (by kernel_rfl) rfl rfl (Nat.le_of_ble_eq_true rfl) (fun m h => absurd rfl h) (fun m h => absurd rfl h) rfl ?_
 refine AWp_lenA 0 1 (n := a.2.1.length) rfl rfl (fun hla => ?_)
 refine AWp_lenA 1 1 (n := b.2.1.length) rfl rfl (fun hlb => ?_)
 refine AWp_sr hP ?_
 refine RK.alc guard_none (op_box rfl rfl) ?_
 refine RK.alc guard_none (op_box rfl rfl) ?_
 refine RK.As rfl ?_
 refine RK.D ?_
 refine AWp_seq ?_
 refine AWp_sr hP ?_
 refine RK.F hT rfl rfl rfl rfl rfl rfl ?_
 refine RK.V (op_load_one hT rfl rfl rfl rfl (by first | rfl | exact vget (by omega))) ?_
 refine RK.F hT rfl rfl rfl rfl rfl rfl ?_
 refine RK.V (op_load_one hT rfl rfl rfl rfl (by first | rfl | exact vget (by omega))) ?_
 refine RK.V (op_sneq rfl rfl) ?_
 refine RK.D ?_
 refine AWp_cond rfl (fun hb1 => ?_) (fun hb1 => ?_)
 ·have hne := of_decide_eq_false (notT hb1)
  refine AWp_sr hP ?_
  refine RK.F hT rfl rfl rfl rfl rfl rfl ?_
  refine RK.V (op_load_one hT rfl rfl rfl rfl (by first | rfl | exact vget (by omega))) ?_
  refine RK.F hT rfl rfl rfl rfl rfl rfl ?_
  refine RK.V (op_load_one hT rfl rfl rfl rfl (by first | rfl | exact vget (by omega))) ?_
  refine RK.V (Eff.call0 (p_rcmpS _ _)) ?_
  refine RK.As rfl ?_
  refine RK.D ?_
  refine AWp_ret ?_
  refine ends_one rfl (.inr rfl) (res_tmp rfl) ?_ O_ends
  first | exact Sub.int (cD_1 hne) | exact Sub.int (cD_2 h0 hI (by omega) (by omega) hnk) | exact Sub.int (cD_3 h0 hI (by omega) (by omega)) | exact Sub.int (cD_4 h0 hI (by omega) (by omega))
 ·have h0 := of_decide_eq_true (notF hb1)
  refine AWp_skip ?_
  refine AWp_seq ?_
  refine AWp_sr hP ?_
  refine RK.As rfl ?_
  refine RK.D ?_
  refine AWp_block ?_
  refine AWp_loop (ι := Nat) (fun k => stL [(2, .loc 2 0), (3, .loc 3 0), (5, Z (k : Int))] [(2, ⟨false, 1, 45, enD a⟩), (3, ⟨false, 1, 45, enD b⟩)]) (fun k => k ≤ a.2.1.length ∧ ∀ i, i < k → i < a.2.1.length ∧ i < b.2.1.length ∧ cmS (a.2.1.getD i []) (b.2.1.getD i []) = 0) (fun k => a.2.1.length - k) 0 ⟨Nat.zero_le _, fun i h => by omega⟩ (le_stL ⟨.refl _, .refl _, .refl _, trivial⟩ ⟨rfl, rfl, trivial⟩) ?_
  rintro k ⟨hk, hI⟩
  refine AWp_seq ?_
  refine AWp_sr hP ?_
  refine RK.M rfl ?_
  refine RK.F hT rfl rfl rfl rfl rfl rfl ?_
  refine RK.V (op_load_one hT rfl rfl rfl rfl (by first | rfl | exact vget (by omega))) ?_
  refine RK.V (op_len hT rfl rfl rfl (by rfl)) ?_
  refine RK.V (op_lss rfl rfl) ?_
  refine RK.M rfl ?_
  refine RK.split (t := 21) rfl (fun hg2 => ?_) (fun hg2 => ?_)
  ·have hg2_ := of_decide_eq_true hg2
   refine RK.val (guard_yes rfl rfl hg2) (op_move (rfl : _ = AV.p (.c _))) ?_
   refine RK.val (guard_yes rfl rfl hg2) (op_field_loc hT rfl rfl rfl rfl rfl rfl) ?_
   refine RK.val (guard_yes rfl rfl hg2) (op_load_one hT rfl rfl rfl rfl (by first | rfl | exact vget (by omega))) ?_
   refine RK.val (guard_yes rfl rfl hg2) (op_len hT rfl rfl rfl (by rfl)) ?_
   refine RK.val (guard_yes rfl rfl hg2) (op_lss rfl rfl) ?_
   refine RK.V (op_pick_t rfl hg2 (rfl : _ = AV.p (.c _))) ?_
   refine RK.D ?_
   refine AWp_cond rfl (fun hb3 => ?_) (fun hb3 => ?_)
   ·have hb3_ := of_decide_eq_true hb3
    refine AWp_skip ?_
    refine AWp_seq ?_
    refine AWp_block ?_
    refine AWp_sr hP ?_
    refine RK.F hT rfl rfl rfl rfl rfl rfl ?_
    refine RK.V (op_load_one hT rfl rfl rfl rfl (by first | rfl | exact vget (by omega))) ?_
    refine RK.M rfl ?_
    refine RK.V (op_indexG hT enS_len (by decide) [] (n := (k : Int)) (l := a.2.1) rfl rfl rfl rfl rfl rfl (by omega)) ?_
    refine RK.V (op_load_ip_one hT rfl rfl rfl rfl) ?_
    refine RK.F hT rfl rfl rfl rfl rfl rfl ?_
    refine RK.V (op_load_one hT rfl rfl rfl rfl (by first | rfl | exact vget (by omega))) ?_
    refine RK.M rfl ?_
    refine RK.V (op_indexG hT enS_len (by decide) [] (n := (k : Int)) (l := b.2.1) rfl rfl rfl rfl rfl rfl (by omega)) ?_
    refine RK.V (op_load_ip_one hT rfl rfl rfl rfl) ?_
    refine RK.V (op_sneq rfl rfl) ?_
    refine RK.D ?_
    refine AWp_cond rfl (fun hb4 => ?_) (fun hb4 => ?_)
    ·have hnk := of_decide_eq_false (notT hb4)
     refine AWp_sr hP ?_
     refine RK.F hT rfl rfl rfl rfl rfl rfl ?_
     refine RK.V (op_load_one hT rfl rfl rfl rfl (by first | rfl | exact vget (by omega))) ?_
     refine RK.M rfl ?_
     refine RK.V (op_indexG hT enS_len (by decide) [] (n := (k : Int)) (l := a.2.1) rfl rfl rfl rfl rfl rfl (by omega)) ?_
     refine RK.V (op_load_ip_one hT rfl rfl rfl rfl) ?_
     refine RK.F hT rfl rfl rfl rfl rfl rfl ?_
     refine RK.V (op_load_one hT rfl rfl rfl rfl (by first | rfl | exact vget (by omega))) ?_
     refine RK.M rfl ?_
     refine RK.V (op_indexG hT enS_len (by decide) [] (n := (k : Int)) (l := b.2.1) rfl rfl rfl rfl rfl rfl (by omega)) ?_
     refine RK.V (op_load_ip_one hT rfl rfl rfl rfl) ?_
     refine RK.V (Eff.call0 (p_rcmpS _ _)) ?_
     refine RK.As rfl ?_
     refine RK.D ?_
     refine AWp_ret ?_
     refine ends_one rfl (.inr rfl) (res_tmp rfl) ?_ O_ends
     first | exact Sub.int (cD_1 hne) | exact Sub.int (cD_2 h0 hI (by omega) (by omega) hnk) | exact Sub.int (cD_3 h0 hI (by omega) (by omega)) | exact Sub.int (cD_4 h0 hI (by omega) (by omega))
    ·have heq := cmS_0.2 (of_decide_eq_true (notF hb4))
     refine AWp_skip ?_
     refine AWp_region hP ?_
     refine RK.M rfl ?_
     refine RK.V (op_add rfl rfl (by first | exact IntWalk.i64_in _ (by omega) | rfl)) ?_
     refine RK.As rfl ?_
     refine RK.D ?_
     refine ⟨k + 1, ⟨by omega, fun i h1 => by
       by_cases e : i = k
       ·subst e; exact ⟨by omega, by omega, heq⟩
       ·exact hI i (by omega)⟩, by omega, le_stL ⟨.refl _, .refl _, Sub.int (by omega), trivial⟩ ⟨rfl, rfl, trivial⟩⟩
   ·have hb3_ := of_decide_eq_false hb3
    refine AWp_exit ?_
    refine AWp_seq ?_
    refine AWp_sr hP ?_
    refine RK.F hT rfl rfl rfl rfl rfl rfl ?_
    refine RK.V (op_load_one hT rfl rfl rfl rfl (by first | rfl | exact vget (by omega))) ?_
    refine RK.V (op_len hT rfl rfl rfl (by rfl)) ?_
    refine RK.F hT rfl rfl rfl rfl rfl rfl ?_
    refine RK.V (op_load_one hT rfl rfl rfl rfl (by first | rfl | exact vget (by omega))) ?_
    refine RK.V (op_len hT rfl rfl rfl (by rfl)) ?_
    refine RK.V (op_neq rfl rfl) ?_
    refine RK.D ?_
    refine AWp_cond rfl (fun hb5 => ?_) (fun hb5 => ?_)
    ·have hb5_ := bneT hb5
     refine AWp_sr hP ?_
     refine RK.F hT rfl rfl rfl rfl rfl rfl ?_
     refine RK.V (op_load_one hT rfl rfl rfl rfl (by first | rfl | exact vget (by omega))) ?_
     refine RK.V (op_len hT rfl rfl rfl (by rfl)) ?_
     refine RK.F hT rfl rfl rfl rfl rfl rfl ?_
     refine RK.V (op_load_one hT rfl rfl rfl rfl (by first | rfl | exact vget (by omega))) ?_
     refine RK.V (op_len hT rfl rfl rfl (by rfl)) ?_
     refine RK.V (Eff.call0 (p_rcmp _ _)) ?_
     refine RK.As rfl ?_
     refine RK.D ?_
     refine AWp_ret ?_
     refine ends_one rfl (.inr rfl) (res_tmp rfl) ?_ O_ends
     first | exact Sub.int (cD_1 hne) | exact Sub.int (cD_2 h0 hI (by omega) (by omega) hnk) | exact Sub.int (cD_3 h0 hI (by omega) (by omega)) | exact Sub.int (cD_4 h0 hI (by omega) (by omega))
    ·have hb5_ := bneF hb5
     refine AWp_skip ?_
     refine AWp_sr hP ?_
     refine RK.F hT rfl rfl rfl rfl rfl rfl ?_
     refine RK.V (op_load_one hT rfl rfl rfl rfl (by first | rfl | exact vget (by omega))) ?_
     refine RK.F hT rfl rfl rfl rfl rfl rfl ?_
     refine RK.V (op_load_one hT rfl rfl rfl rfl (by first | rfl | exact vget (by omega))) ?_
     refine RK.V (Eff.call0 (p_rcmpL _ _)) ?_
     refine RK.As rfl ?_
     refine RK.D ?_
     refine AWp_ret ?_
     refine ends_one rfl (.inr rfl) (res_tmp rfl) ?_ O_ends
     first | exact Sub.int (cD_1 hne) | exact Sub.int (cD_2 h0 hI (by omega) (by omega) hnk) | exact Sub.int (cD_3 h0 hI (by omega) (by omega)) | exact Sub.int (cD_4 h0 hI (by omega) (by omega))
  ·have hg2_ := of_decide_eq_false hg2
   refine RK.skip (guard_no rfl rfl hg2) ?_
   refine RK.skip (guard_no rfl rfl hg2) ?_
   refine RK.skip (guard_no rfl rfl hg2) ?_
   refine RK.skip (guard_no rfl rfl hg2) ?_
   refine RK.skip (guard_no rfl rfl hg2) ?_
   refine RK.V (op_pick_f rfl hg2 (rfl : _ = AV.p (.c _))) ?_
   refine RK.D ?_
   refine AWp_cond_false rfl rfl ?_
   refine AWp_exit ?_
   refine AWp_seq ?_
   refine AWp_sr hP ?_
   refine RK.F hT rfl rfl rfl rfl rfl rfl ?_
   refine RK.V (op_load_one hT rfl rfl rfl rfl (by first | rfl | exact vget (by omega))) ?_
   refine RK.V (op_len hT rfl rfl rfl (by rfl)) ?_
   refine RK.F hT rfl rfl rfl rfl rfl rfl ?_
   refine RK.V (op_load_one hT rfl rfl rfl rfl (by first | rfl | exact vget (by omega))) ?_
   refine RK.V (op_len hT rfl rfl rfl (by rfl)) ?_
   refine RK.V (op_neq rfl rfl) ?_
   refine RK.D ?_
   refine AWp_cond rfl (fun hb6 => ?_) (fun hb6 => ?_)
   ·have hb6_ := bneT hb6
    refine AWp_sr hP ?_
    refine RK.F hT rfl rfl rfl rfl rfl rfl ?_
    refine RK.V (op_load_one hT rfl rfl rfl rfl (by first | rfl | exact vget (by omega))) ?_
    refine RK.V (op_len hT rfl rfl rfl (by rfl)) ?_
    refine RK.F hT rfl rfl rfl rfl rfl rfl ?_
    refine RK.V (op_load_one hT rfl rfl rfl rfl (by first | rfl | exact vget (by omega))) ?_
    refine RK.V (op_len hT rfl rfl rfl (by rfl)) ?_
    refine RK.V (Eff.call0 (p_rcmp _ _)) ?_
    refine RK.As rfl ?_
    refine RK.D ?_
    refine AWp_ret ?_
    refine ends_one rfl (.inr rfl) (res_tmp rfl) ?_ O_ends
    first | exact Sub.int (cD_1 hne) | exact Sub.int (cD_2 h0 hI (by omega) (by omega) hnk) | exact Sub.int (cD_3 h0 hI (by omega) (by omega)) | exact Sub.int (cD_4 h0 hI (by omega) (by omega))
   ·have hb6_ := bneF hb6
    refine AWp_skip ?_
    refine AWp_sr hP ?_
    refine RK.F hT rfl rfl rfl rfl rfl rfl ?_
    refine RK.V (op_load_one hT rfl rfl rfl rfl (by first | rfl | exact vget (by omega))) ?_
    refine RK.F hT rfl rfl rfl rfl rfl rfl ?_
    refine RK.V (op_load_one hT rfl rfl rfl rfl (by first | rfl | exact vget (by omega))) ?_
    refine RK.V (Eff.call0 (p_rcmpL _ _)) ?_
    refine RK.As rfl ?_
    refine RK.D ?_
    refine AWp_ret ?_
    refine ends_one rfl (.inr rfl) (res_tmp rfl) ?_ O_ends
    first | exact Sub.int (cD_1 hne) | exact Sub.int (cD_2 h0 hI (by omega) (by omega) hnk) | exact Sub.int (cD_3 h0 hI (by omega) (by omega)) | exact Sub.int (cD_4 h0 hI (by omega) (by omega))
/- algorist/algoristref30.Claim -/
set_option maxHeartbeats 4000000 in
set_option maxRecDepth 100000 in
theorem p_rclaim (s : Str) :
  Call0 Tryz.prog 98 [AS s] (B (okS s)) := by
 refine callM_of (np := 0) Tryz.func98 (by kernel_rfl) rfl rfl (Nat.le_of_ble_eq_true rfl) (fun m h => absurd rfl h) (fun m h => absurd rfl h) rfl ?_
 refine AWp_sr hP ?_
 refine RK.As rfl ?_
 refine RK.D ?_
 refine AWp_seq ?_
 refine AWp_sr hP ?_
 refine RK.M rfl ?_
 refine RK.V (op_slen hT rfl rfl rfl rfl) ?_
 refine RK.V (op_lss rfl rfl) ?_
 refine RK.M rfl ?_
 refine RK.split (t := 9) rfl (fun hg1 => ?_) (fun hg1 => ?_)
 ·have hg1_ := of_decide_eq_true hg1
  refine RK.skip (guard_no rfl rfl hg1) ?_
  refine RK.skip (guard_no rfl rfl hg1) ?_
  refine RK.skip (guard_no rfl rfl hg1) ?_
  refine RK.V (op_pick_t rfl hg1 (rfl : _ = AV.p (.c _))) ?_
  refine RK.D ?_
  refine AWp_cond_true rfl rfl ?_
  refine AWp_sr hP ?_
  refine RK.As rfl ?_
  refine RK.D ?_
  refine AWp_ret ?_
  refine ends_one rfl (.inr rfl) (res_tmp rfl) ?_ O_ends
  first | exact Sub.bool (okS_n (by omega)) | exact Sub.bool (cl_yes hL.1 hL.2 (fun i hi => hI i (by omega))) | exact Sub.bool (cl_no (k := k) (by omega) (show ¬ okP ((s.getD ((k : Int)).toNat 0).toNat : Int) by unfold okP; omega))
 ·have hg1_ := of_decide_eq_false hg1
  refine RK.val (guard_yes rfl rfl hg1) (op_move (rfl : _ = AV.p (.c _))) ?_
  refine RK.val (guard_yes rfl rfl hg1) (op_slen hT rfl rfl rfl rfl) ?_
  refine RK.val (guard_yes rfl rfl hg1) (op_gtr rfl rfl) ?_
  refine RK.V (op_pick_f rfl hg1 (rfl : _ = AV.p (.c _))) ?_
  refine RK.D ?_
  refine AWp_cond rfl (fun hb2 => ?_) (fun hb2 => ?_)
  ·have hb2_ := of_decide_eq_true hb2
   refine AWp_sr hP ?_
   refine RK.As rfl ?_
   refine RK.D ?_
   refine AWp_ret ?_
   refine ends_one rfl (.inr rfl) (res_tmp rfl) ?_ O_ends
   first | exact Sub.bool (okS_n (by omega)) | exact Sub.bool (cl_yes hL.1 hL.2 (fun i hi => hI i (by omega))) | exact Sub.bool (cl_no (k := k) (by omega) (show ¬ okP ((s.getD ((k : Int)).toNat 0).toNat : Int) by unfold okP; omega))
  ·have hb2_ := of_decide_eq_false hb2
   refine AWp_skip ?_
   refine AWp_seq ?_
   refine AWp_sr hP ?_
   refine RK.As rfl ?_
   refine RK.D ?_
   refine AWp_block ?_
   refine AWp_loop (ι := Nat) (fun k => stL [(0, AS s), (3, Z (k : Int))] []) (fun k => k ≤ s.length ∧ (1 ≤ s.length ∧ s.length ≤ 40) ∧ ∀ i, i < k → okP ((s.getD i 0).toNat : Int)) (fun k => s.length - k) 0 ⟨Nat.zero_le _, ⟨by omega, by omega⟩, fun i h => by omega⟩ (le_stL ⟨.refl _, .refl _, trivial⟩ trivial) ?_
   rintro k ⟨hk, hL, hI⟩
   refine AWp_seq ?_
   refine AWp_sr hP ?_
   refine RK.M rfl ?_
   refine RK.M rfl ?_
   refine RK.V (op_slen hT rfl rfl rfl rfl) ?_
   refine RK.V (op_lss rfl rfl) ?_
   refine RK.D ?_
   refine AWp_cond rfl (fun hb3 => ?_) (fun hb3 => ?_)
   ·have hb3_ := of_decide_eq_true hb3
    refine AWp_skip ?_
    refine AWp_seq ?_
    refine AWp_block ?_
    refine AWp_sr hP ?_
    refine RK.M rfl ?_
    refine RK.M rfl ?_
    refine RK.V (op_sidx hT rfl rfl rfl rfl ⟨by omega, by omega⟩ rfl) ?_
    refine RK.As rfl ?_
    refine RK.D ?_
    refine AWp_sr hP ?_
    refine RK.M rfl ?_
    refine RK.V (op_geq rfl rfl) ?_
    refine RK.M rfl ?_
    refine RK.split (t := 25) rfl (fun hg4 => ?_) (fun hg4 => ?_)
    ·have hg4_ := of_decide_eq_true hg4
     refine RK.val (guard_yes rfl rfl hg4) (op_move (rfl : _ = AV.p (.c _))) ?_
     refine RK.val (guard_yes rfl rfl hg4) (op_leq rfl rfl) ?_
     refine RK.V (op_pick_t rfl hg4 (rfl : _ = AV.p (.c _))) ?_
     refine RK.M rfl ?_
     refine RK.split (t := 29) rfl (fun hg5 => ?_) (fun hg5 => ?_)
     ·have hg5_ := of_decide_eq_true hg5
      refine RK.skip (guard_no rfl rfl hg5) ?_
      refine RK.skip (guard_no rfl rfl hg5) ?_
      refine RK.skip (guard_no rfl rfl hg5) ?_
      refine RK.skip (guard_sk rfl rfl) ?_
      refine RK.skip (guard_sk rfl rfl) ?_
      refine RK.skip (guard_no rfl rfl hg5) ?_
      refine RK.V (op_pick_t rfl hg5 (rfl : _ = AV.p (.c _))) ?_
      refine RK.M rfl ?_
      refine RK.skip (guard_no rfl rfl rfl) ?_
      refine RK.skip (guard_no rfl rfl rfl) ?_
      refine RK.skip (guard_no rfl rfl rfl) ?_
      refine RK.skip (guard_sk rfl rfl) ?_
      refine RK.skip (guard_sk rfl rfl) ?_
      refine RK.skip (guard_no rfl rfl rfl) ?_
      refine RK.V (op_pick_t rfl rfl (rfl : _ = AV.p (.c _))) ?_
      refine RK.As rfl ?_
      refine RK.D ?_
      refine AWp_sr hP ?_
      refine RK.M rfl ?_
      refine RK.V (op_unot rfl) ?_
      refine RK.M rfl ?_
      refine RK.skip (guard_no rfl rfl (congrArg not rfl)) ?_
      refine RK.skip (guard_no rfl rfl (congrArg not rfl)) ?_
      refine RK.V (op_pick_f rfl (congrArg not rfl) (rfl : _ = AV.p (.c _))) ?_
      refine RK.M rfl ?_
      refine RK.skip (guard_no rfl rfl rfl) ?_
      refine RK.skip (guard_no rfl rfl rfl) ?_
      refine RK.V (op_pick_f rfl rfl (rfl : _ = AV.p (.c _))) ?_
      refine RK.D ?_
      refine AWp_cond_false rfl rfl ?_
      refine AWp_skip ?_
      refine AWp_region hP ?_
      refine RK.M rfl ?_
      refine RK.V (op_add rfl rfl (by first | exact IntWalk.i64_in _ (by omega) | rfl)) ?_
      refine RK.As rfl ?_
      refine RK.D ?_
      refine ⟨k + 1, ⟨by omega, hL, fun i h1 => by
        by_cases e : i = k
        ·subst e; exact (show okP ((s.getD ((i : Int)).toNat 0).toNat : Int) by unfold okP; omega)
        ·exact hI i (by omega)⟩, by omega, le_stL ⟨.refl _, Sub.int (by omega), trivial⟩ trivial⟩
     ·have hg5_ := of_decide_eq_false hg5
      refine RK.val (guard_yes rfl rfl hg5) (op_move (rfl : _ = AV.p (.c _))) ?_
      refine RK.val (guard_yes rfl rfl hg5) (op_geq rfl rfl) ?_
      refine RK.val (guard_yes rfl rfl hg5) (op_move (rfl : _ = AV.p (.c _))) ?_
      refine RK.split (t := 32) rfl (fun hg6 => ?_) (fun hg6 => ?_)
      ·have hg6_ := of_decide_eq_true hg6
       refine RK.val (guard_yes rfl rfl hg6) (op_move (rfl : _ = AV.p (.c _))) ?_
       refine RK.val (guard_yes rfl rfl hg6) (op_leq rfl rfl) ?_
       refine RK.val (guard_yes rfl rfl hg5) (op_pick_t rfl hg6 (rfl : _ = AV.p (.c _))) ?_
       refine RK.V (op_pick_f rfl hg5 (rfl : _ = AV.p (.c _))) ?_
       refine RK.M rfl ?_
       refine RK.split (t := 37) rfl (fun hg7 => ?_) (fun hg7 => ?_)
       ·have hg7_ := of_decide_eq_true hg7
        refine RK.skip (guard_no rfl rfl hg7) ?_
        refine RK.skip (guard_no rfl rfl hg7) ?_
        refine RK.skip (guard_no rfl rfl hg7) ?_
        refine RK.skip (guard_sk rfl rfl) ?_
        refine RK.skip (guard_sk rfl rfl) ?_
        refine RK.skip (guard_no rfl rfl hg7) ?_
        refine RK.V (op_pick_t rfl hg7 (rfl : _ = AV.p (.c _))) ?_
        refine RK.As rfl ?_
        refine RK.D ?_
        refine AWp_sr hP ?_
        refine RK.M rfl ?_
        refine RK.V (op_unot rfl) ?_
        refine RK.M rfl ?_
        refine RK.skip (guard_no rfl rfl (congrArg not rfl)) ?_
        refine RK.skip (guard_no rfl rfl (congrArg not rfl)) ?_
        refine RK.V (op_pick_f rfl (congrArg not rfl) (rfl : _ = AV.p (.c _))) ?_
        refine RK.M rfl ?_
        refine RK.skip (guard_no rfl rfl rfl) ?_
        refine RK.skip (guard_no rfl rfl rfl) ?_
        refine RK.V (op_pick_f rfl rfl (rfl : _ = AV.p (.c _))) ?_
        refine RK.D ?_
        refine AWp_cond_false rfl rfl ?_
        refine AWp_skip ?_
        refine AWp_region hP ?_
        refine RK.M rfl ?_
        refine RK.V (op_add rfl rfl (by first | exact IntWalk.i64_in _ (by omega) | rfl)) ?_
        refine RK.As rfl ?_
        refine RK.D ?_
        refine ⟨k + 1, ⟨by omega, hL, fun i h1 => by
          by_cases e : i = k
          ·subst e; exact (show okP ((s.getD ((i : Int)).toNat 0).toNat : Int) by unfold okP; omega)
          ·exact hI i (by omega)⟩, by omega, le_stL ⟨.refl _, Sub.int (by omega), trivial⟩ trivial⟩
       ·have hg7_ := of_decide_eq_false hg7
        refine RK.val (guard_yes rfl rfl hg7) (op_move (rfl : _ = AV.p (.c _))) ?_
        refine RK.val (guard_yes rfl rfl hg7) (op_geq rfl rfl) ?_
        refine RK.val (guard_yes rfl rfl hg7) (op_move (rfl : _ = AV.p (.c _))) ?_
        refine RK.split (t := 40) rfl (fun hg8 => ?_) (fun hg8 => ?_)
        ·have hg8_ := of_decide_eq_true hg8
         refine RK.val (guard_yes rfl rfl hg8) (op_move (rfl : _ = AV.p (.c _))) ?_
         refine RK.val (guard_yes rfl rfl hg8) (op_leq rfl rfl) ?_
         refine RK.val (guard_yes rfl rfl hg7) (op_pick_t rfl hg8 (rfl : _ = AV.p (.c _))) ?_
         refine RK.V (op_pick_f rfl hg7 (rfl : _ = AV.p (.c _))) ?_
         refine RK.As rfl ?_
         refine RK.D ?_
         refine AWp_sr hP ?_
         refine RK.M rfl ?_
         refine RK.V (op_unot rfl) ?_
         refine RK.M rfl ?_
         refine RK.split (t := 47) rfl (fun hg9 => ?_) (fun hg9 => ?_)
         ·have hg9_ := of_decide_eq_false (notT hg9)
          refine RK.val (guard_yes rfl rfl hg9) (op_move (rfl : _ = AV.p (.c _))) ?_
          refine RK.val (guard_yes rfl rfl hg9) (op_neq rfl rfl) ?_
          refine RK.V (op_pick_t rfl hg9 (rfl : _ = AV.p (.c _))) ?_
          refine RK.M rfl ?_
          refine RK.split (t := 51) rfl (fun hg10 => ?_) (fun hg10 => ?_)
          ·have hg10_ := bneT hg10
           refine RK.val (guard_yes rfl rfl hg10) (op_move (rfl : _ = AV.p (.c _))) ?_
           refine RK.val (guard_yes rfl rfl hg10) (op_neq rfl rfl) ?_
           refine RK.V (op_pick_t rfl hg10 (rfl : _ = AV.p (.c _))) ?_
           refine RK.D ?_
           refine AWp_cond rfl (fun hb11 => ?_) (fun hb11 => ?_)
           ·have hb11_ := bneT hb11
            refine AWp_sr hP ?_
            refine RK.As rfl ?_
            refine RK.D ?_
            refine AWp_ret ?_
            refine ends_one rfl (.inr rfl) (res_tmp rfl) ?_ O_ends
            first | exact Sub.bool (okS_n (by omega)) | exact Sub.bool (cl_yes hL.1 hL.2 (fun i hi => hI i (by omega))) | exact Sub.bool (cl_no (k := k) (by omega) (show ¬ okP ((s.getD ((k : Int)).toNat 0).toNat : Int) by unfold okP; omega))
           ·have hb11_ := bneF hb11
            refine AWp_skip ?_
            refine AWp_region hP ?_
            refine RK.M rfl ?_
            refine RK.V (op_add rfl rfl (by first | exact IntWalk.i64_in _ (by omega) | rfl)) ?_
            refine RK.As rfl ?_
            refine RK.D ?_
            refine ⟨k + 1, ⟨by omega, hL, fun i h1 => by
              by_cases e : i = k
              ·subst e; exact (show okP ((s.getD ((i : Int)).toNat 0).toNat : Int) by unfold okP; omega)
              ·exact hI i (by omega)⟩, by omega, le_stL ⟨.refl _, Sub.int (by omega), trivial⟩ trivial⟩
          ·have hg10_ := bneF hg10
           refine RK.skip (guard_no rfl rfl hg10) ?_
           refine RK.skip (guard_no rfl rfl hg10) ?_
           refine RK.V (op_pick_f rfl hg10 (rfl : _ = AV.p (.c _))) ?_
           refine RK.D ?_
           refine AWp_cond_false rfl rfl ?_
           refine AWp_skip ?_
           refine AWp_region hP ?_
           refine RK.M rfl ?_
           refine RK.V (op_add rfl rfl (by first | exact IntWalk.i64_in _ (by omega) | rfl)) ?_
           refine RK.As rfl ?_
           refine RK.D ?_
           refine ⟨k + 1, ⟨by omega, hL, fun i h1 => by
             by_cases e : i = k
             ·subst e; exact (show okP ((s.getD ((i : Int)).toNat 0).toNat : Int) by unfold okP; omega)
             ·exact hI i (by omega)⟩, by omega, le_stL ⟨.refl _, Sub.int (by omega), trivial⟩ trivial⟩
         ·have hg9_ := of_decide_eq_true (notF hg9)
          refine RK.skip (guard_no rfl rfl hg9) ?_
          refine RK.skip (guard_no rfl rfl hg9) ?_
          refine RK.V (op_pick_f rfl hg9 (rfl : _ = AV.p (.c _))) ?_
          refine RK.M rfl ?_
          refine RK.skip (guard_no rfl rfl rfl) ?_
          refine RK.skip (guard_no rfl rfl rfl) ?_
          refine RK.V (op_pick_f rfl rfl (rfl : _ = AV.p (.c _))) ?_
          refine RK.D ?_
          refine AWp_cond_false rfl rfl ?_
          refine AWp_skip ?_
          refine AWp_region hP ?_
          refine RK.M rfl ?_
          refine RK.V (op_add rfl rfl (by first | exact IntWalk.i64_in _ (by omega) | rfl)) ?_
          refine RK.As rfl ?_
          refine RK.D ?_
          refine ⟨k + 1, ⟨by omega, hL, fun i h1 => by
            by_cases e : i = k
            ·subst e; exact (show okP ((s.getD ((i : Int)).toNat 0).toNat : Int) by unfold okP; omega)
            ·exact hI i (by omega)⟩, by omega, le_stL ⟨.refl _, Sub.int (by omega), trivial⟩ trivial⟩
        ·have hg8_ := of_decide_eq_false hg8
         refine RK.skip (guard_no rfl rfl hg8) ?_
         refine RK.skip (guard_no rfl rfl hg8) ?_
         refine RK.val (guard_yes rfl rfl hg7) (op_pick_f rfl hg8 (rfl : _ = AV.p (.c _))) ?_
         refine RK.V (op_pick_f rfl hg7 (rfl : _ = AV.p (.c _))) ?_
         refine RK.As rfl ?_
         refine RK.D ?_
         refine AWp_sr hP ?_
         refine RK.M rfl ?_
         refine RK.V (op_unot rfl) ?_
         refine RK.M rfl ?_
         refine RK.val (guard_yes rfl rfl (congrArg not rfl)) (op_move (rfl : _ = AV.p (.c _))) ?_
         refine RK.val (guard_yes rfl rfl (congrArg not rfl)) (op_neq rfl rfl) ?_
         refine RK.V (op_pick_t rfl (congrArg not rfl) (rfl : _ = AV.p (.c _))) ?_
         refine RK.M rfl ?_
         refine RK.split (t := 51) rfl (fun hg12 => ?_) (fun hg12 => ?_)
         ·have hg12_ := bneT hg12
          refine RK.val (guard_yes rfl rfl hg12) (op_move (rfl : _ = AV.p (.c _))) ?_
          refine RK.val (guard_yes rfl rfl hg12) (op_neq rfl rfl) ?_
          refine RK.V (op_pick_t rfl hg12 (rfl : _ = AV.p (.c _))) ?_
          refine RK.D ?_
          refine AWp_cond rfl (fun hb13 => ?_) (fun hb13 => ?_)
          ·have hb13_ := bneT hb13
           refine AWp_sr hP ?_
           refine RK.As rfl ?_
           refine RK.D ?_
           refine AWp_ret ?_
           refine ends_one rfl (.inr rfl) (res_tmp rfl) ?_ O_ends
           first | exact Sub.bool (okS_n (by omega)) | exact Sub.bool (cl_yes hL.1 hL.2 (fun i hi => hI i (by omega))) | exact Sub.bool (cl_no (k := k) (by omega) (show ¬ okP ((s.getD ((k : Int)).toNat 0).toNat : Int) by unfold okP; omega))
          ·have hb13_ := bneF hb13
           refine AWp_skip ?_
           refine AWp_region hP ?_
           refine RK.M rfl ?_
           refine RK.V (op_add rfl rfl (by first | exact IntWalk.i64_in _ (by omega) | rfl)) ?_
           refine RK.As rfl ?_
           refine RK.D ?_
           refine ⟨k + 1, ⟨by omega, hL, fun i h1 => by
             by_cases e : i = k
             ·subst e; exact (show okP ((s.getD ((i : Int)).toNat 0).toNat : Int) by unfold okP; omega)
             ·exact hI i (by omega)⟩, by omega, le_stL ⟨.refl _, Sub.int (by omega), trivial⟩ trivial⟩
         ·have hg12_ := bneF hg12
          refine RK.skip (guard_no rfl rfl hg12) ?_
          refine RK.skip (guard_no rfl rfl hg12) ?_
          refine RK.V (op_pick_f rfl hg12 (rfl : _ = AV.p (.c _))) ?_
          refine RK.D ?_
          refine AWp_cond_false rfl rfl ?_
          refine AWp_skip ?_
          refine AWp_region hP ?_
          refine RK.M rfl ?_
          refine RK.V (op_add rfl rfl (by first | exact IntWalk.i64_in _ (by omega) | rfl)) ?_
          refine RK.As rfl ?_
          refine RK.D ?_
          refine ⟨k + 1, ⟨by omega, hL, fun i h1 => by
            by_cases e : i = k
            ·subst e; exact (show okP ((s.getD ((i : Int)).toNat 0).toNat : Int) by unfold okP; omega)
            ·exact hI i (by omega)⟩, by omega, le_stL ⟨.refl _, Sub.int (by omega), trivial⟩ trivial⟩
      ·have hg6_ := of_decide_eq_false hg6
       refine RK.skip (guard_no rfl rfl hg6) ?_
       refine RK.skip (guard_no rfl rfl hg6) ?_
       refine RK.val (guard_yes rfl rfl hg5) (op_pick_f rfl hg6 (rfl : _ = AV.p (.c _))) ?_
       refine RK.V (op_pick_f rfl hg5 (rfl : _ = AV.p (.c _))) ?_
       refine RK.M rfl ?_
       refine RK.val (guard_yes rfl rfl rfl) (op_move (rfl : _ = AV.p (.c _))) ?_
       refine RK.val (guard_yes rfl rfl rfl) (op_geq rfl rfl) ?_
       refine RK.val (guard_yes rfl rfl rfl) (op_move (rfl : _ = AV.p (.c _))) ?_
       refine RK.split (t := 40) rfl (fun hg14 => ?_) (fun hg14 => ?_)
       ·have hg14_ := of_decide_eq_true hg14
        refine RK.val (guard_yes rfl rfl hg14) (op_move (rfl : _ = AV.p (.c _))) ?_
        refine RK.val (guard_yes rfl rfl hg14) (op_leq rfl rfl) ?_
        refine RK.val (guard_yes rfl rfl rfl) (op_pick_t rfl hg14 (rfl : _ = AV.p (.c _))) ?_
        refine RK.V (op_pick_f rfl rfl (rfl : _ = AV.p (.c _))) ?_
        refine RK.As rfl ?_
        refine RK.D ?_
        refine AWp_sr hP ?_
        refine RK.M rfl ?_
        refine RK.V (op_unot rfl) ?_
        refine RK.M rfl ?_
        refine RK.split (t := 47) rfl (fun hg15 => ?_) (fun hg15 => ?_)
        ·have hg15_ := of_decide_eq_false (notT hg15)
         refine RK.val (guard_yes rfl rfl hg15) (op_move (rfl : _ = AV.p (.c _))) ?_
         refine RK.val (guard_yes rfl rfl hg15) (op_neq rfl rfl) ?_
         refine RK.V (op_pick_t rfl hg15 (rfl : _ = AV.p (.c _))) ?_
         refine RK.M rfl ?_
         refine RK.split (t := 51) rfl (fun hg16 => ?_) (fun hg16 => ?_)
         ·have hg16_ := bneT hg16
          refine RK.val (guard_yes rfl rfl hg16) (op_move (rfl : _ = AV.p (.c _))) ?_
          refine RK.val (guard_yes rfl rfl hg16) (op_neq rfl rfl) ?_
          refine RK.V (op_pick_t rfl hg16 (rfl : _ = AV.p (.c _))) ?_
          refine RK.D ?_
          refine AWp_cond rfl (fun hb17 => ?_) (fun hb17 => ?_)
          ·have hb17_ := bneT hb17
           refine AWp_sr hP ?_
           refine RK.As rfl ?_
           refine RK.D ?_
           refine AWp_ret ?_
           refine ends_one rfl (.inr rfl) (res_tmp rfl) ?_ O_ends
           first | exact Sub.bool (okS_n (by omega)) | exact Sub.bool (cl_yes hL.1 hL.2 (fun i hi => hI i (by omega))) | exact Sub.bool (cl_no (k := k) (by omega) (show ¬ okP ((s.getD ((k : Int)).toNat 0).toNat : Int) by unfold okP; omega))
          ·have hb17_ := bneF hb17
           refine AWp_skip ?_
           refine AWp_region hP ?_
           refine RK.M rfl ?_
           refine RK.V (op_add rfl rfl (by first | exact IntWalk.i64_in _ (by omega) | rfl)) ?_
           refine RK.As rfl ?_
           refine RK.D ?_
           refine ⟨k + 1, ⟨by omega, hL, fun i h1 => by
             by_cases e : i = k
             ·subst e; exact (show okP ((s.getD ((i : Int)).toNat 0).toNat : Int) by unfold okP; omega)
             ·exact hI i (by omega)⟩, by omega, le_stL ⟨.refl _, Sub.int (by omega), trivial⟩ trivial⟩
         ·have hg16_ := bneF hg16
          refine RK.skip (guard_no rfl rfl hg16) ?_
          refine RK.skip (guard_no rfl rfl hg16) ?_
          refine RK.V (op_pick_f rfl hg16 (rfl : _ = AV.p (.c _))) ?_
          refine RK.D ?_
          refine AWp_cond_false rfl rfl ?_
          refine AWp_skip ?_
          refine AWp_region hP ?_
          refine RK.M rfl ?_
          refine RK.V (op_add rfl rfl (by first | exact IntWalk.i64_in _ (by omega) | rfl)) ?_
          refine RK.As rfl ?_
          refine RK.D ?_
          refine ⟨k + 1, ⟨by omega, hL, fun i h1 => by
            by_cases e : i = k
            ·subst e; exact (show okP ((s.getD ((i : Int)).toNat 0).toNat : Int) by unfold okP; omega)
            ·exact hI i (by omega)⟩, by omega, le_stL ⟨.refl _, Sub.int (by omega), trivial⟩ trivial⟩
        ·have hg15_ := of_decide_eq_true (notF hg15)
         refine RK.skip (guard_no rfl rfl hg15) ?_
         refine RK.skip (guard_no rfl rfl hg15) ?_
         refine RK.V (op_pick_f rfl hg15 (rfl : _ = AV.p (.c _))) ?_
         refine RK.M rfl ?_
         refine RK.skip (guard_no rfl rfl rfl) ?_
         refine RK.skip (guard_no rfl rfl rfl) ?_
         refine RK.V (op_pick_f rfl rfl (rfl : _ = AV.p (.c _))) ?_
         refine RK.D ?_
         refine AWp_cond_false rfl rfl ?_
         refine AWp_skip ?_
         refine AWp_region hP ?_
         refine RK.M rfl ?_
         refine RK.V (op_add rfl rfl (by first | exact IntWalk.i64_in _ (by omega) | rfl)) ?_
         refine RK.As rfl ?_
         refine RK.D ?_
         refine ⟨k + 1, ⟨by omega, hL, fun i h1 => by
           by_cases e : i = k
           ·subst e; exact (show okP ((s.getD ((i : Int)).toNat 0).toNat : Int) by unfold okP; omega)
           ·exact hI i (by omega)⟩, by omega, le_stL ⟨.refl _, Sub.int (by omega), trivial⟩ trivial⟩
       ·have hg14_ := of_decide_eq_false hg14
        refine RK.skip (guard_no rfl rfl hg14) ?_
        refine RK.skip (guard_no rfl rfl hg14) ?_
        refine RK.val (guard_yes rfl rfl rfl) (op_pick_f rfl hg14 (rfl : _ = AV.p (.c _))) ?_
        refine RK.V (op_pick_f rfl rfl (rfl : _ = AV.p (.c _))) ?_
        refine RK.As rfl ?_
        refine RK.D ?_
        refine AWp_sr hP ?_
        refine RK.M rfl ?_
        refine RK.V (op_unot rfl) ?_
        refine RK.M rfl ?_
        refine RK.val (guard_yes rfl rfl (congrArg not rfl)) (op_move (rfl : _ = AV.p (.c _))) ?_
        refine RK.val (guard_yes rfl rfl (congrArg not rfl)) (op_neq rfl rfl) ?_
        refine RK.V (op_pick_t rfl (congrArg not rfl) (rfl : _ = AV.p (.c _))) ?_
        refine RK.M rfl ?_
        refine RK.split (t := 51) rfl (fun hg18 => ?_) (fun hg18 => ?_)
        ·have hg18_ := bneT hg18
         refine RK.val (guard_yes rfl rfl hg18) (op_move (rfl : _ = AV.p (.c _))) ?_
         refine RK.val (guard_yes rfl rfl hg18) (op_neq rfl rfl) ?_
         refine RK.V (op_pick_t rfl hg18 (rfl : _ = AV.p (.c _))) ?_
         refine RK.D ?_
         refine AWp_cond rfl (fun hb19 => ?_) (fun hb19 => ?_)
         ·have hb19_ := bneT hb19
          refine AWp_sr hP ?_
          refine RK.As rfl ?_
          refine RK.D ?_
          refine AWp_ret ?_
          refine ends_one rfl (.inr rfl) (res_tmp rfl) ?_ O_ends
          first | exact Sub.bool (okS_n (by omega)) | exact Sub.bool (cl_yes hL.1 hL.2 (fun i hi => hI i (by omega))) | exact Sub.bool (cl_no (k := k) (by omega) (show ¬ okP ((s.getD ((k : Int)).toNat 0).toNat : Int) by unfold okP; omega))
         ·have hb19_ := bneF hb19
          refine AWp_skip ?_
          refine AWp_region hP ?_
          refine RK.M rfl ?_
          refine RK.V (op_add rfl rfl (by first | exact IntWalk.i64_in _ (by omega) | rfl)) ?_
          refine RK.As rfl ?_
          refine RK.D ?_
          refine ⟨k + 1, ⟨by omega, hL, fun i h1 => by
            by_cases e : i = k
            ·subst e; exact (show okP ((s.getD ((i : Int)).toNat 0).toNat : Int) by unfold okP; omega)
            ·exact hI i (by omega)⟩, by omega, le_stL ⟨.refl _, Sub.int (by omega), trivial⟩ trivial⟩
        ·have hg18_ := bneF hg18
         refine RK.skip (guard_no rfl rfl hg18) ?_
         refine RK.skip (guard_no rfl rfl hg18) ?_
         refine RK.V (op_pick_f rfl hg18 (rfl : _ = AV.p (.c _))) ?_
         refine RK.D ?_
         refine AWp_cond_false rfl rfl ?_
         refine AWp_skip ?_
         refine AWp_region hP ?_
         refine RK.M rfl ?_
         refine RK.V (op_add rfl rfl (by first | exact IntWalk.i64_in _ (by omega) | rfl)) ?_
         refine RK.As rfl ?_
         refine RK.D ?_
         refine ⟨k + 1, ⟨by omega, hL, fun i h1 => by
           by_cases e : i = k
           ·subst e; exact (show okP ((s.getD ((i : Int)).toNat 0).toNat : Int) by unfold okP; omega)
           ·exact hI i (by omega)⟩, by omega, le_stL ⟨.refl _, Sub.int (by omega), trivial⟩ trivial⟩
    ·have hg4_ := of_decide_eq_false hg4
     refine RK.skip (guard_no rfl rfl hg4) ?_
     refine RK.skip (guard_no rfl rfl hg4) ?_
     refine RK.V (op_pick_f rfl hg4 (rfl : _ = AV.p (.c _))) ?_
     refine RK.M rfl ?_
     refine RK.val (guard_yes rfl rfl rfl) (op_move (rfl : _ = AV.p (.c _))) ?_
     refine RK.val (guard_yes rfl rfl rfl) (op_geq rfl rfl) ?_
     refine RK.val (guard_yes rfl rfl rfl) (op_move (rfl : _ = AV.p (.c _))) ?_
     refine RK.split (t := 32) rfl (fun hg20 => ?_) (fun hg20 => ?_)
     ·have hg20_ := of_decide_eq_true hg20
      refine RK.val (guard_yes rfl rfl hg20) (op_move (rfl : _ = AV.p (.c _))) ?_
      refine RK.val (guard_yes rfl rfl hg20) (op_leq rfl rfl) ?_
      refine RK.val (guard_yes rfl rfl rfl) (op_pick_t rfl hg20 (rfl : _ = AV.p (.c _))) ?_
      refine RK.V (op_pick_f rfl rfl (rfl : _ = AV.p (.c _))) ?_
      refine RK.M rfl ?_
      refine RK.split (t := 37) rfl (fun hg21 => ?_) (fun hg21 => ?_)
      ·have hg21_ := of_decide_eq_true hg21
       refine RK.skip (guard_no rfl rfl hg21) ?_
       refine RK.skip (guard_no rfl rfl hg21) ?_
       refine RK.skip (guard_no rfl rfl hg21) ?_
       refine RK.skip (guard_sk rfl rfl) ?_
       refine RK.skip (guard_sk rfl rfl) ?_
       refine RK.skip (guard_no rfl rfl hg21) ?_
       refine RK.V (op_pick_t rfl hg21 (rfl : _ = AV.p (.c _))) ?_
       refine RK.As rfl ?_
       refine RK.D ?_
       refine AWp_sr hP ?_
       refine RK.M rfl ?_
       refine RK.V (op_unot rfl) ?_
       refine RK.M rfl ?_
       refine RK.skip (guard_no rfl rfl (congrArg not rfl)) ?_
       refine RK.skip (guard_no rfl rfl (congrArg not rfl)) ?_
       refine RK.V (op_pick_f rfl (congrArg not rfl) (rfl : _ = AV.p (.c _))) ?_
       refine RK.M rfl ?_
       refine RK.skip (guard_no rfl rfl rfl) ?_
       refine RK.skip (guard_no rfl rfl rfl) ?_
       refine RK.V (op_pick_f rfl rfl (rfl : _ = AV.p (.c _))) ?_
       refine RK.D ?_
       refine AWp_cond_false rfl rfl ?_
       refine AWp_skip ?_
       refine AWp_region hP ?_
       refine RK.M rfl ?_
       refine RK.V (op_add rfl rfl (by first | exact IntWalk.i64_in _ (by omega) | rfl)) ?_
       refine RK.As rfl ?_
       refine RK.D ?_
       refine ⟨k + 1, ⟨by omega, hL, fun i h1 => by
         by_cases e : i = k
         ·subst e; exact (show okP ((s.getD ((i : Int)).toNat 0).toNat : Int) by unfold okP; omega)
         ·exact hI i (by omega)⟩, by omega, le_stL ⟨.refl _, Sub.int (by omega), trivial⟩ trivial⟩
      ·have hg21_ := of_decide_eq_false hg21
       refine RK.val (guard_yes rfl rfl hg21) (op_move (rfl : _ = AV.p (.c _))) ?_
       refine RK.val (guard_yes rfl rfl hg21) (op_geq rfl rfl) ?_
       refine RK.val (guard_yes rfl rfl hg21) (op_move (rfl : _ = AV.p (.c _))) ?_
       refine RK.split (t := 40) rfl (fun hg22 => ?_) (fun hg22 => ?_)
       ·have hg22_ := of_decide_eq_true hg22
        refine RK.val (guard_yes rfl rfl hg22) (op_move (rfl : _ = AV.p (.c _))) ?_
        refine RK.val (guard_yes rfl rfl hg22) (op_leq rfl rfl) ?_
        refine RK.val (guard_yes rfl rfl hg21) (op_pick_t rfl hg22 (rfl : _ = AV.p (.c _))) ?_
        refine RK.V (op_pick_f rfl hg21 (rfl : _ = AV.p (.c _))) ?_
        refine RK.As rfl ?_
        refine RK.D ?_
        refine AWp_sr hP ?_
        refine RK.M rfl ?_
        refine RK.V (op_unot rfl) ?_
        refine RK.M rfl ?_
        refine RK.split (t := 47) rfl (fun hg23 => ?_) (fun hg23 => ?_)
        ·have hg23_ := of_decide_eq_false (notT hg23)
         refine RK.val (guard_yes rfl rfl hg23) (op_move (rfl : _ = AV.p (.c _))) ?_
         refine RK.val (guard_yes rfl rfl hg23) (op_neq rfl rfl) ?_
         refine RK.V (op_pick_t rfl hg23 (rfl : _ = AV.p (.c _))) ?_
         refine RK.M rfl ?_
         refine RK.split (t := 51) rfl (fun hg24 => ?_) (fun hg24 => ?_)
         ·have hg24_ := bneT hg24
          refine RK.val (guard_yes rfl rfl hg24) (op_move (rfl : _ = AV.p (.c _))) ?_
          refine RK.val (guard_yes rfl rfl hg24) (op_neq rfl rfl) ?_
          refine RK.V (op_pick_t rfl hg24 (rfl : _ = AV.p (.c _))) ?_
          refine RK.D ?_
          refine AWp_cond rfl (fun hb25 => ?_) (fun hb25 => ?_)
          ·have hb25_ := bneT hb25
           refine AWp_sr hP ?_
           refine RK.As rfl ?_
           refine RK.D ?_
           refine AWp_ret ?_
           refine ends_one rfl (.inr rfl) (res_tmp rfl) ?_ O_ends
           first | exact Sub.bool (okS_n (by omega)) | exact Sub.bool (cl_yes hL.1 hL.2 (fun i hi => hI i (by omega))) | exact Sub.bool (cl_no (k := k) (by omega) (show ¬ okP ((s.getD ((k : Int)).toNat 0).toNat : Int) by unfold okP; omega))
          ·have hb25_ := bneF hb25
           refine AWp_skip ?_
           refine AWp_region hP ?_
           refine RK.M rfl ?_
           refine RK.V (op_add rfl rfl (by first | exact IntWalk.i64_in _ (by omega) | rfl)) ?_
           refine RK.As rfl ?_
           refine RK.D ?_
           refine ⟨k + 1, ⟨by omega, hL, fun i h1 => by
             by_cases e : i = k
             ·subst e; exact (show okP ((s.getD ((i : Int)).toNat 0).toNat : Int) by unfold okP; omega)
             ·exact hI i (by omega)⟩, by omega, le_stL ⟨.refl _, Sub.int (by omega), trivial⟩ trivial⟩
         ·have hg24_ := bneF hg24
          refine RK.skip (guard_no rfl rfl hg24) ?_
          refine RK.skip (guard_no rfl rfl hg24) ?_
          refine RK.V (op_pick_f rfl hg24 (rfl : _ = AV.p (.c _))) ?_
          refine RK.D ?_
          refine AWp_cond_false rfl rfl ?_
          refine AWp_skip ?_
          refine AWp_region hP ?_
          refine RK.M rfl ?_
          refine RK.V (op_add rfl rfl (by first | exact IntWalk.i64_in _ (by omega) | rfl)) ?_
          refine RK.As rfl ?_
          refine RK.D ?_
          refine ⟨k + 1, ⟨by omega, hL, fun i h1 => by
            by_cases e : i = k
            ·subst e; exact (show okP ((s.getD ((i : Int)).toNat 0).toNat : Int) by unfold okP; omega)
            ·exact hI i (by omega)⟩, by omega, le_stL ⟨.refl _, Sub.int (by omega), trivial⟩ trivial⟩
        ·have hg23_ := of_decide_eq_true (notF hg23)
         refine RK.skip (guard_no rfl rfl hg23) ?_
         refine RK.skip (guard_no rfl rfl hg23) ?_
         refine RK.V (op_pick_f rfl hg23 (rfl : _ = AV.p (.c _))) ?_
         refine RK.M rfl ?_
         refine RK.skip (guard_no rfl rfl rfl) ?_
         refine RK.skip (guard_no rfl rfl rfl) ?_
         refine RK.V (op_pick_f rfl rfl (rfl : _ = AV.p (.c _))) ?_
         refine RK.D ?_
         refine AWp_cond_false rfl rfl ?_
         refine AWp_skip ?_
         refine AWp_region hP ?_
         refine RK.M rfl ?_
         refine RK.V (op_add rfl rfl (by first | exact IntWalk.i64_in _ (by omega) | rfl)) ?_
         refine RK.As rfl ?_
         refine RK.D ?_
         refine ⟨k + 1, ⟨by omega, hL, fun i h1 => by
           by_cases e : i = k
           ·subst e; exact (show okP ((s.getD ((i : Int)).toNat 0).toNat : Int) by unfold okP; omega)
           ·exact hI i (by omega)⟩, by omega, le_stL ⟨.refl _, Sub.int (by omega), trivial⟩ trivial⟩
       ·have hg22_ := of_decide_eq_false hg22
        refine RK.skip (guard_no rfl rfl hg22) ?_
        refine RK.skip (guard_no rfl rfl hg22) ?_
        refine RK.val (guard_yes rfl rfl hg21) (op_pick_f rfl hg22 (rfl : _ = AV.p (.c _))) ?_
        refine RK.V (op_pick_f rfl hg21 (rfl : _ = AV.p (.c _))) ?_
        refine RK.As rfl ?_
        refine RK.D ?_
        refine AWp_sr hP ?_
        refine RK.M rfl ?_
        refine RK.V (op_unot rfl) ?_
        refine RK.M rfl ?_
        refine RK.val (guard_yes rfl rfl (congrArg not rfl)) (op_move (rfl : _ = AV.p (.c _))) ?_
        refine RK.val (guard_yes rfl rfl (congrArg not rfl)) (op_neq rfl rfl) ?_
        refine RK.V (op_pick_t rfl (congrArg not rfl) (rfl : _ = AV.p (.c _))) ?_
        refine RK.M rfl ?_
        refine RK.split (t := 51) rfl (fun hg26 => ?_) (fun hg26 => ?_)
        ·have hg26_ := bneT hg26
         refine RK.val (guard_yes rfl rfl hg26) (op_move (rfl : _ = AV.p (.c _))) ?_
         refine RK.val (guard_yes rfl rfl hg26) (op_neq rfl rfl) ?_
         refine RK.V (op_pick_t rfl hg26 (rfl : _ = AV.p (.c _))) ?_
         refine RK.D ?_
         refine AWp_cond rfl (fun hb27 => ?_) (fun hb27 => ?_)
         ·have hb27_ := bneT hb27
          refine AWp_sr hP ?_
          refine RK.As rfl ?_
          refine RK.D ?_
          refine AWp_ret ?_
          refine ends_one rfl (.inr rfl) (res_tmp rfl) ?_ O_ends
          first | exact Sub.bool (okS_n (by omega)) | exact Sub.bool (cl_yes hL.1 hL.2 (fun i hi => hI i (by omega))) | exact Sub.bool (cl_no (k := k) (by omega) (show ¬ okP ((s.getD ((k : Int)).toNat 0).toNat : Int) by unfold okP; omega))
         ·have hb27_ := bneF hb27
          refine AWp_skip ?_
          refine AWp_region hP ?_
          refine RK.M rfl ?_
          refine RK.V (op_add rfl rfl (by first | exact IntWalk.i64_in _ (by omega) | rfl)) ?_
          refine RK.As rfl ?_
          refine RK.D ?_
          refine ⟨k + 1, ⟨by omega, hL, fun i h1 => by
            by_cases e : i = k
            ·subst e; exact (show okP ((s.getD ((i : Int)).toNat 0).toNat : Int) by unfold okP; omega)
            ·exact hI i (by omega)⟩, by omega, le_stL ⟨.refl _, Sub.int (by omega), trivial⟩ trivial⟩
        ·have hg26_ := bneF hg26
         refine RK.skip (guard_no rfl rfl hg26) ?_
         refine RK.skip (guard_no rfl rfl hg26) ?_
         refine RK.V (op_pick_f rfl hg26 (rfl : _ = AV.p (.c _))) ?_
         refine RK.D ?_
         refine AWp_cond_false rfl rfl ?_
         refine AWp_skip ?_
         refine AWp_region hP ?_
         refine RK.M rfl ?_
         refine RK.V (op_add rfl rfl (by first | exact IntWalk.i64_in _ (by omega) | rfl)) ?_
         refine RK.As rfl ?_
         refine RK.D ?_
         refine ⟨k + 1, ⟨by omega, hL, fun i h1 => by
           by_cases e : i = k
           ·subst e; exact (show okP ((s.getD ((i : Int)).toNat 0).toNat : Int) by unfold okP; omega)
           ·exact hI i (by omega)⟩, by omega, le_stL ⟨.refl _, Sub.int (by omega), trivial⟩ trivial⟩
     ·have hg20_ := of_decide_eq_false hg20
      refine RK.skip (guard_no rfl rfl hg20) ?_
      refine RK.skip (guard_no rfl rfl hg20) ?_
      refine RK.val (guard_yes rfl rfl rfl) (op_pick_f rfl hg20 (rfl : _ = AV.p (.c _))) ?_
      refine RK.V (op_pick_f rfl rfl (rfl : _ = AV.p (.c _))) ?_
      refine RK.M rfl ?_
      refine RK.val (guard_yes rfl rfl rfl) (op_move (rfl : _ = AV.p (.c _))) ?_
      refine RK.val (guard_yes rfl rfl rfl) (op_geq rfl rfl) ?_
      refine RK.val (guard_yes rfl rfl rfl) (op_move (rfl : _ = AV.p (.c _))) ?_
      refine RK.split (t := 40) rfl (fun hg28 => ?_) (fun hg28 => ?_)
      ·have hg28_ := of_decide_eq_true hg28
       refine RK.val (guard_yes rfl rfl hg28) (op_move (rfl : _ = AV.p (.c _))) ?_
       refine RK.val (guard_yes rfl rfl hg28) (op_leq rfl rfl) ?_
       refine RK.val (guard_yes rfl rfl rfl) (op_pick_t rfl hg28 (rfl : _ = AV.p (.c _))) ?_
       refine RK.V (op_pick_f rfl rfl (rfl : _ = AV.p (.c _))) ?_
       refine RK.As rfl ?_
       refine RK.D ?_
       refine AWp_sr hP ?_
       refine RK.M rfl ?_
       refine RK.V (op_unot rfl) ?_
       refine RK.M rfl ?_
       refine RK.split (t := 47) rfl (fun hg29 => ?_) (fun hg29 => ?_)
       ·have hg29_ := of_decide_eq_false (notT hg29)
        refine RK.val (guard_yes rfl rfl hg29) (op_move (rfl : _ = AV.p (.c _))) ?_
        refine RK.val (guard_yes rfl rfl hg29) (op_neq rfl rfl) ?_
        refine RK.V (op_pick_t rfl hg29 (rfl : _ = AV.p (.c _))) ?_
        refine RK.M rfl ?_
        refine RK.split (t := 51) rfl (fun hg30 => ?_) (fun hg30 => ?_)
        ·have hg30_ := bneT hg30
         refine RK.val (guard_yes rfl rfl hg30) (op_move (rfl : _ = AV.p (.c _))) ?_
         refine RK.val (guard_yes rfl rfl hg30) (op_neq rfl rfl) ?_
         refine RK.V (op_pick_t rfl hg30 (rfl : _ = AV.p (.c _))) ?_
         refine RK.D ?_
         refine AWp_cond rfl (fun hb31 => ?_) (fun hb31 => ?_)
         ·have hb31_ := bneT hb31
          refine AWp_sr hP ?_
          refine RK.As rfl ?_
          refine RK.D ?_
          refine AWp_ret ?_
          refine ends_one rfl (.inr rfl) (res_tmp rfl) ?_ O_ends
          first | exact Sub.bool (okS_n (by omega)) | exact Sub.bool (cl_yes hL.1 hL.2 (fun i hi => hI i (by omega))) | exact Sub.bool (cl_no (k := k) (by omega) (show ¬ okP ((s.getD ((k : Int)).toNat 0).toNat : Int) by unfold okP; omega))
         ·have hb31_ := bneF hb31
          refine AWp_skip ?_
          refine AWp_region hP ?_
          refine RK.M rfl ?_
          refine RK.V (op_add rfl rfl (by first | exact IntWalk.i64_in _ (by omega) | rfl)) ?_
          refine RK.As rfl ?_
          refine RK.D ?_
          refine ⟨k + 1, ⟨by omega, hL, fun i h1 => by
            by_cases e : i = k
            ·subst e; exact (show okP ((s.getD ((i : Int)).toNat 0).toNat : Int) by unfold okP; omega)
            ·exact hI i (by omega)⟩, by omega, le_stL ⟨.refl _, Sub.int (by omega), trivial⟩ trivial⟩
        ·have hg30_ := bneF hg30
         refine RK.skip (guard_no rfl rfl hg30) ?_
         refine RK.skip (guard_no rfl rfl hg30) ?_
         refine RK.V (op_pick_f rfl hg30 (rfl : _ = AV.p (.c _))) ?_
         refine RK.D ?_
         refine AWp_cond_false rfl rfl ?_
         refine AWp_skip ?_
         refine AWp_region hP ?_
         refine RK.M rfl ?_
         refine RK.V (op_add rfl rfl (by first | exact IntWalk.i64_in _ (by omega) | rfl)) ?_
         refine RK.As rfl ?_
         refine RK.D ?_
         refine ⟨k + 1, ⟨by omega, hL, fun i h1 => by
           by_cases e : i = k
           ·subst e; exact (show okP ((s.getD ((i : Int)).toNat 0).toNat : Int) by unfold okP; omega)
           ·exact hI i (by omega)⟩, by omega, le_stL ⟨.refl _, Sub.int (by omega), trivial⟩ trivial⟩
       ·have hg29_ := of_decide_eq_true (notF hg29)
        refine RK.skip (guard_no rfl rfl hg29) ?_
        refine RK.skip (guard_no rfl rfl hg29) ?_
        refine RK.V (op_pick_f rfl hg29 (rfl : _ = AV.p (.c _))) ?_
        refine RK.M rfl ?_
        refine RK.skip (guard_no rfl rfl rfl) ?_
        refine RK.skip (guard_no rfl rfl rfl) ?_
        refine RK.V (op_pick_f rfl rfl (rfl : _ = AV.p (.c _))) ?_
        refine RK.D ?_
        refine AWp_cond_false rfl rfl ?_
        refine AWp_skip ?_
        refine AWp_region hP ?_
        refine RK.M rfl ?_
        refine RK.V (op_add rfl rfl (by first | exact IntWalk.i64_in _ (by omega) | rfl)) ?_
        refine RK.As rfl ?_
        refine RK.D ?_
        refine ⟨k + 1, ⟨by omega, hL, fun i h1 => by
          by_cases e : i = k
          ·subst e; exact (show okP ((s.getD ((i : Int)).toNat 0).toNat : Int) by unfold okP; omega)
          ·exact hI i (by omega)⟩, by omega, le_stL ⟨.refl _, Sub.int (by omega), trivial⟩ trivial⟩
      ·have hg28_ := of_decide_eq_false hg28
       refine RK.skip (guard_no rfl rfl hg28) ?_
       refine RK.skip (guard_no rfl rfl hg28) ?_
       refine RK.val (guard_yes rfl rfl rfl) (op_pick_f rfl hg28 (rfl : _ = AV.p (.c _))) ?_
       refine RK.V (op_pick_f rfl rfl (rfl : _ = AV.p (.c _))) ?_
       refine RK.As rfl ?_
       refine RK.D ?_
       refine AWp_sr hP ?_
       refine RK.M rfl ?_
       refine RK.V (op_unot rfl) ?_
       refine RK.M rfl ?_
       refine RK.val (guard_yes rfl rfl (congrArg not rfl)) (op_move (rfl : _ = AV.p (.c _))) ?_
       refine RK.val (guard_yes rfl rfl (congrArg not rfl)) (op_neq rfl rfl) ?_
       refine RK.V (op_pick_t rfl (congrArg not rfl) (rfl : _ = AV.p (.c _))) ?_
       refine RK.M rfl ?_
       refine RK.split (t := 51) rfl (fun hg32 => ?_) (fun hg32 => ?_)
       ·have hg32_ := bneT hg32
        refine RK.val (guard_yes rfl rfl hg32) (op_move (rfl : _ = AV.p (.c _))) ?_
        refine RK.val (guard_yes rfl rfl hg32) (op_neq rfl rfl) ?_
        refine RK.V (op_pick_t rfl hg32 (rfl : _ = AV.p (.c _))) ?_
        refine RK.D ?_
        refine AWp_cond rfl (fun hb33 => ?_) (fun hb33 => ?_)
        ·have hb33_ := bneT hb33
         refine AWp_sr hP ?_
         refine RK.As rfl ?_
         refine RK.D ?_
         refine AWp_ret ?_
         refine ends_one rfl (.inr rfl) (res_tmp rfl) ?_ O_ends
         first | exact Sub.bool (okS_n (by omega)) | exact Sub.bool (cl_yes hL.1 hL.2 (fun i hi => hI i (by omega))) | exact Sub.bool (cl_no (k := k) (by omega) (show ¬ okP ((s.getD ((k : Int)).toNat 0).toNat : Int) by unfold okP; omega))
        ·have hb33_ := bneF hb33
         refine AWp_skip ?_
         refine AWp_region hP ?_
         refine RK.M rfl ?_
         refine RK.V (op_add rfl rfl (by first | exact IntWalk.i64_in _ (by omega) | rfl)) ?_
         refine RK.As rfl ?_
         refine RK.D ?_
         refine ⟨k + 1, ⟨by omega, hL, fun i h1 => by
           by_cases e : i = k
           ·subst e; exact (show okP ((s.getD ((i : Int)).toNat 0).toNat : Int) by unfold okP; omega)
           ·exact hI i (by omega)⟩, by omega, le_stL ⟨.refl _, Sub.int (by omega), trivial⟩ trivial⟩
       ·have hg32_ := bneF hg32
        refine RK.skip (guard_no rfl rfl hg32) ?_
        refine RK.skip (guard_no rfl rfl hg32) ?_
        refine RK.V (op_pick_f rfl hg32 (rfl : _ = AV.p (.c _))) ?_
        refine RK.D ?_
        refine AWp_cond_false rfl rfl ?_
        refine AWp_skip ?_
        refine AWp_region hP ?_
        refine RK.M rfl ?_
        refine RK.V (op_add rfl rfl (by first | exact IntWalk.i64_in _ (by omega) | rfl)) ?_
        refine RK.As rfl ?_
        refine RK.D ?_
        refine ⟨k + 1, ⟨by omega, hL, fun i h1 => by
          by_cases e : i = k
          ·subst e; exact (show okP ((s.getD ((i : Int)).toNat 0).toNat : Int) by unfold okP; omega)
          ·exact hI i (by omega)⟩, by omega, le_stL ⟨.refl _, Sub.int (by omega), trivial⟩ trivial⟩
   ·have hb3_ := of_decide_eq_false hb3
    refine AWp_exit ?_
    refine AWp_sr hP ?_
    refine RK.As rfl ?_
    refine RK.D ?_
    refine AWp_ret ?_
    refine ends_one rfl (.inr rfl) (res_tmp rfl) ?_ O_ends
    first | exact Sub.bool (okS_n (by omega)) | exact Sub.bool (cl_yes hL.1 hL.2 (fun i hi => hI i (by omega))) | exact Sub.bool (cl_no (k := k) (by omega) (show ¬ okP ((s.getD ((k : Int)).toNat 0).toNat : Int) by unfold okP; omega))
/- algorist/algoristref30.set -/
set_option maxHeartbeats 1000000 in
set_option maxRecDepth 100000 in
theorem p_rset (l : List Int) :
  Call0 Tryz.prog 62 [.p (.c (SL enZ l))] (B (hypsB l)) := by
 refine callM_of (np := 0) Tryz.func62 (by kernel_rfl) rfl rfl (Nat.le_of_ble_eq_true rfl) (fun m h => absurd rfl h) (fun m h => absurd rfl h) rfl ?_
 refine AWp_len (t := 0) rfl rfl (fun hlen => ?_)
 refine AWp_sr hP ?_
 refine RK.As rfl ?_
 refine RK.D ?_
 refine AWp_seq ?_
 refine AWp_sr hP ?_
 refine RK.As rfl ?_
 refine RK.D ?_
 refine AWp_block ?_
 refine AWp_loop (ι := Nat) (fun k => stL [(0, .p (.c (SL enZ l))), (3, Z (k : Int))] []) (fun k => k ≤ l.length ∧ ∀ i, i < k → (1 ≤ l.getD i 0 ∧ l.getD i 0 ≤ 16) ∧ (1 ≤ i → l.getD (i - 1) 0 < l.getD i 0)) (fun k => l.length - k) 0 ⟨Nat.zero_le _, fun i h => by omega⟩ (le_stL ⟨.refl _, .refl _, trivial⟩ trivial) ?_
 rintro k ⟨hk, hI⟩
 have hsub : ((k : Int) - 1).toNat = k - 1 := by omega
 refine AWp_seq ?_
 refine AWp_sr hP ?_
 refine RK.M rfl ?_
 refine RK.M rfl ?_
 refine RK.V (op_len hT rfl rfl rfl (by rfl)) ?_
 refine RK.V (op_lss rfl rfl) ?_
 refine RK.D ?_
 refine AWp_cond rfl (fun hb1 => ?_) (fun hb1 => ?_)
 ·have hb1_ := of_decide_eq_true hb1
  refine AWp_skip ?_
  refine AWp_seq ?_
  refine AWp_block ?_
  refine AWp_sr hP ?_
  refine RK.M rfl ?_
  refine RK.M rfl ?_
  refine RK.V (op_indexG hT enZ_len (by decide) 0 (n := (k : Int)) (l := l) rfl rfl rfl rfl rfl rfl (by omega)) ?_
  refine RK.V (op_load_ip_one hT rfl rfl rfl rfl) ?_
  refine RK.V (op_lss rfl rfl) ?_
  refine RK.M rfl ?_
  refine RK.split (t := 15) rfl (fun hg2 => ?_) (fun hg2 => ?_)
  ·have hg2_ := of_decide_eq_true hg2
   refine RK.skip (guard_no rfl rfl hg2) ?_
   refine RK.skip (guard_no rfl rfl hg2) ?_
   refine RK.skip (guard_no rfl rfl hg2) ?_
   refine RK.skip (guard_no rfl rfl hg2) ?_
   refine RK.skip (guard_no rfl rfl hg2) ?_
   refine RK.V (op_pick_t rfl hg2 (rfl : _ = AV.p (.c _))) ?_
   refine RK.M rfl ?_
   refine RK.skip (guard_no rfl rfl rfl) ?_
   refine RK.skip (guard_no rfl rfl rfl) ?_
   refine RK.skip (guard_no rfl rfl rfl) ?_
   refine RK.skip (guard_sk rfl rfl) ?_
   refine RK.skip (guard_sk rfl rfl) ?_
   refine RK.skip (guard_sk rfl rfl) ?_
   refine RK.skip (guard_sk rfl rfl) ?_
   refine RK.skip (guard_sk rfl rfl) ?_
   refine RK.skip (guard_sk rfl rfl) ?_
   refine RK.skip (guard_sk rfl rfl) ?_
   refine RK.skip (guard_sk rfl rfl) ?_
   refine RK.skip (guard_sk rfl rfl) ?_
   refine RK.skip (guard_sk rfl rfl) ?_
   refine RK.skip (guard_no rfl rfl rfl) ?_
   refine RK.V (op_pick_t rfl rfl (rfl : _ = AV.p (.c _))) ?_
   refine RK.D ?_
   refine AWp_cond_true rfl rfl ?_
   refine AWp_sr hP ?_
   refine RK.As rfl ?_
   refine RK.D ?_
   refine AWp_ret ?_
   refine ends_one rfl (.inr rfl) (res_tmp rfl) ?_ O_ends
   first | exact Sub.bool (set_yes (fun i hi => hI i (by omega))) | exact Sub.bool (set_no1 (k := k) (by omega) (show ¬ (1 ≤ l.getD ((k : Int)).toNat 0 ∧ l.getD ((k : Int)).toNat 0 ≤ 16) by omega)) | exact Sub.bool (set_no2 (k := k) (by omega) (by omega) hsub (show ¬ l.getD ((k : Int) - 1).toNat 0 < l.getD ((k : Int)).toNat 0 by omega))
  ·have hg2_ := of_decide_eq_false hg2
   refine RK.val (guard_yes rfl rfl hg2) (op_move (rfl : _ = AV.p (.c _))) ?_
   refine RK.val (guard_yes rfl rfl hg2) (op_move (rfl : _ = AV.p (.c _))) ?_
   refine RK.val (guard_yes rfl rfl hg2) (op_indexG hT enZ_len (by decide) 0 (n := (k : Int)) (l := l) rfl rfl rfl rfl rfl rfl (by omega)) ?_
   refine RK.val (guard_yes rfl rfl hg2) (op_load_ip_one hT rfl rfl rfl rfl) ?_
   refine RK.val (guard_yes rfl rfl hg2) (op_gtr rfl rfl) ?_
   refine RK.V (op_pick_f rfl hg2 (rfl : _ = AV.p (.c _))) ?_
   refine RK.M rfl ?_
   refine RK.split (t := 22) rfl (fun hg3 => ?_) (fun hg3 => ?_)
   ·have hg3_ := of_decide_eq_true hg3
    refine RK.skip (guard_no rfl rfl hg3) ?_
    refine RK.skip (guard_no rfl rfl hg3) ?_
    refine RK.skip (guard_no rfl rfl hg3) ?_
    refine RK.skip (guard_sk rfl rfl) ?_
    refine RK.skip (guard_sk rfl rfl) ?_
    refine RK.skip (guard_sk rfl rfl) ?_
    refine RK.skip (guard_sk rfl rfl) ?_
    refine RK.skip (guard_sk rfl rfl) ?_
    refine RK.skip (guard_sk rfl rfl) ?_
    refine RK.skip (guard_sk rfl rfl) ?_
    refine RK.skip (guard_sk rfl rfl) ?_
    refine RK.skip (guard_sk rfl rfl) ?_
    refine RK.skip (guard_sk rfl rfl) ?_
    refine RK.skip (guard_no rfl rfl hg3) ?_
    refine RK.V (op_pick_t rfl hg3 (rfl : _ = AV.p (.c _))) ?_
    refine RK.D ?_
    refine AWp_cond_true rfl rfl ?_
    refine AWp_sr hP ?_
    refine RK.As rfl ?_
    refine RK.D ?_
    refine AWp_ret ?_
    refine ends_one rfl (.inr rfl) (res_tmp rfl) ?_ O_ends
    first | exact Sub.bool (set_yes (fun i hi => hI i (by omega))) | exact Sub.bool (set_no1 (k := k) (by omega) (show ¬ (1 ≤ l.getD ((k : Int)).toNat 0 ∧ l.getD ((k : Int)).toNat 0 ≤ 16) by omega)) | exact Sub.bool (set_no2 (k := k) (by omega) (by omega) hsub (show ¬ l.getD ((k : Int) - 1).toNat 0 < l.getD ((k : Int)).toNat 0 by omega))
   ·have hg3_ := of_decide_eq_false hg3
    refine RK.val (guard_yes rfl rfl hg3) (op_move (rfl : _ = AV.p (.c _))) ?_
    refine RK.val (guard_yes rfl rfl hg3) (op_gtr rfl rfl) ?_
    refine RK.val (guard_yes rfl rfl hg3) (op_move (rfl : _ = AV.p (.c _))) ?_
    refine RK.split (t := 25) rfl (fun hg4 => ?_) (fun hg4 => ?_)
    ·have hg4_ := of_decide_eq_true hg4
     refine RK.val (guard_yes rfl rfl hg4) (op_move (rfl : _ = AV.p (.c _))) ?_
     refine RK.val (guard_yes rfl rfl hg4) (op_move (rfl : _ = AV.p (.c _))) ?_
     refine RK.val (guard_yes rfl rfl hg4) (op_sub rfl rfl (by first | exact IntWalk.i64_in _ (by omega) | rfl)) ?_
     refine RK.val (guard_yes rfl rfl hg4) (op_indexG hT enZ_len (by decide) 0 (n := ((k : Int) - 1)) (l := l) rfl rfl rfl rfl rfl rfl (by omega)) ?_
     refine RK.val (guard_yes rfl rfl hg4) (op_load_ip_one hT rfl rfl rfl rfl) ?_
     refine RK.val (guard_yes rfl rfl hg4) (op_move (rfl : _ = AV.p (.c _))) ?_
     refine RK.val (guard_yes rfl rfl hg4) (op_move (rfl : _ = AV.p (.c _))) ?_
     refine RK.val (guard_yes rfl rfl hg4) (op_indexG hT enZ_len (by decide) 0 (n := (k : Int)) (l := l) rfl rfl rfl rfl rfl rfl (by omega)) ?_
     refine RK.val (guard_yes rfl rfl hg4) (op_load_ip_one hT rfl rfl rfl rfl) ?_
     refine RK.val (guard_yes rfl rfl hg4) (op_geq rfl rfl) ?_
     refine RK.val (guard_yes rfl rfl hg3) (op_pick_t rfl hg4 (rfl : _ = AV.p (.c _))) ?_
     refine RK.V (op_pick_f rfl hg3 (rfl : _ = AV.p (.c _))) ?_
     refine RK.D ?_
     refine AWp_cond rfl (fun hb5 => ?_) (fun hb5 => ?_)
     ·have hb5_ := of_decide_eq_true hb5
      refine AWp_sr hP ?_
      refine RK.As rfl ?_
      refine RK.D ?_
      refine AWp_ret ?_
      refine ends_one rfl (.inr rfl) (res_tmp rfl) ?_ O_ends
      first | exact Sub.bool (set_yes (fun i hi => hI i (by omega))) | exact Sub.bool (set_no1 (k := k) (by omega) (show ¬ (1 ≤ l.getD ((k : Int)).toNat 0 ∧ l.getD ((k : Int)).toNat 0 ≤ 16) by omega)) | exact Sub.bool (set_no2 (k := k) (by omega) (by omega) hsub (show ¬ l.getD ((k : Int) - 1).toNat 0 < l.getD ((k : Int)).toNat 0 by omega))
     ·have hb5_ := of_decide_eq_false hb5
      refine AWp_skip ?_
      refine AWp_region hP ?_
      refine RK.M rfl ?_
      refine RK.V (op_add rfl rfl (by first | exact IntWalk.i64_in _ (by omega) | rfl)) ?_
      refine RK.As rfl ?_
      refine RK.D ?_
      refine ⟨k + 1, ⟨by omega, fun i h1 => by
        by_cases e : i = k
        ·subst e; exact ⟨(show 1 ≤ l.getD ((i : Int)).toNat 0 ∧ l.getD ((i : Int)).toNat 0 ≤ 16 by omega), fun q => by rw [← hsub]; exact (show l.getD ((i : Int) - 1).toNat 0 < l.getD ((i : Int)).toNat 0 by omega)⟩
        ·exact hI i (by omega)⟩, by omega, le_stL ⟨.refl _, Sub.int (by omega), trivial⟩ trivial⟩
    ·have hg4_ := of_decide_eq_false hg4
     refine RK.skip (guard_no rfl rfl hg4) ?_
     refine RK.skip (guard_no rfl rfl hg4) ?_
     refine RK.skip (guard_no rfl rfl hg4) ?_
     refine RK.skip (guard_no rfl rfl hg4) ?_
     refine RK.skip (guard_no rfl rfl hg4) ?_
     refine RK.skip (guard_no rfl rfl hg4) ?_
     refine RK.skip (guard_no rfl rfl hg4) ?_
     refine RK.skip (guard_no rfl rfl hg4) ?_
     refine RK.skip (guard_no rfl rfl hg4) ?_
     refine RK.skip (guard_no rfl rfl hg4) ?_
     refine RK.val (guard_yes rfl rfl hg3) (op_pick_f rfl hg4 (rfl : _ = AV.p (.c _))) ?_
     refine RK.V (op_pick_f rfl hg3 (rfl : _ = AV.p (.c _))) ?_
     refine RK.D ?_
     refine AWp_cond_false rfl rfl ?_
     refine AWp_skip ?_
     refine AWp_region hP ?_
     refine RK.M rfl ?_
     refine RK.V (op_add rfl rfl (by first | exact IntWalk.i64_in _ (by omega) | rfl)) ?_
     refine RK.As rfl ?_
     refine RK.D ?_
     refine ⟨k + 1, ⟨by omega, fun i h1 => by
       by_cases e : i = k
       ·subst e; exact ⟨(show 1 ≤ l.getD ((i : Int)).toNat 0 ∧ l.getD ((i : Int)).toNat 0 ≤ 16 by omega), fun q => by rw [← hsub]; exact (show l.getD ((i : Int) - 1).toNat 0 < l.getD ((i : Int)).toNat 0 by omega)⟩
       ·exact hI i (by omega)⟩, by omega, le_stL ⟨.refl _, Sub.int (by omega), trivial⟩ trivial⟩
 ·have hb1_ := of_decide_eq_false hb1
  refine AWp_exit ?_
  refine AWp_sr hP ?_
  refine RK.As rfl ?_
  refine RK.D ?_
  refine AWp_ret ?_
  refine ends_one rfl (.inr rfl) (res_tmp rfl) ?_ O_ends
  first | exact Sub.bool (set_yes (fun i hi => hI i (by omega))) | exact Sub.bool (set_no1 (k := k) (by omega) (show ¬ (1 ≤ l.getD ((k : Int)).toNat 0 ∧ l.getD ((k : Int)).toNat 0 ≤ 16) by omega)) | exact Sub.bool (set_no2 (k := k) (by omega) (by omega) hsub (show ¬ l.getD ((k : Int) - 1).toNat 0 < l.getD ((k : Int)).toNat 0 by omega))
/- algorist/algoristref30.RightOne -/
set_option maxHeartbeats 2000000 in
set_option maxRecDepth 100000 in
theorem p_rright (d : Drv) :
  Call0 Tryz.prog 63 [.p (.a (enD d))] (B (rightD d)) := by
 refine callM_of (np := 0) Tryz.func63 (by kernel_rfl) rfl rfl (Nat.le_of_ble_eq_true rfl) (fun m h => absurd rfl h) (fun m h => absurd rfl h) rfl ?_
 refine AWp_lenA 0 1 (n := d.2.1.length) rfl rfl (fun hlen => ?_)
 refine AWp_sr hP ?_
 refine RK.alc guard_none (op_box rfl rfl) ?_
 refine RK.As rfl ?_
 refine RK.D ?_
 refine AWp_seq ?_
 refine AWp_sr hP ?_
 refine RK.F hT rfl rfl rfl rfl rfl rfl ?_
 refine RK.V (op_load_one hT rfl rfl rfl rfl (by first | rfl | exact vget (by omega))) ?_
 refine RK.V (Eff.call0 (p_rclaim _)) ?_
 refine RK.V (op_unot rfl) ?_
 refine RK.M rfl ?_
 refine RK.split (t := 8) rfl (fun hg1 => ?_) (fun hg1 => ?_)
 ·have hg1_ := (notT hg1)
  have hc := notT hg1
  refine RK.skip (guard_no rfl rfl hg1) ?_
  refine RK.skip (guard_no rfl rfl hg1) ?_
  refine RK.skip (guard_no rfl rfl hg1) ?_
  refine RK.skip (guard_no rfl rfl hg1) ?_
  refine RK.V (op_pick_t rfl hg1 (rfl : _ = AV.p (.c _))) ?_
  refine RK.M rfl ?_
  refine RK.skip (guard_no rfl rfl rfl) ?_
  refine RK.skip (guard_no rfl rfl rfl) ?_
  refine RK.skip (guard_no rfl rfl rfl) ?_
  refine RK.skip (guard_no rfl rfl rfl) ?_
  refine RK.V (op_pick_t rfl rfl (rfl : _ = AV.p (.c _))) ?_
  refine RK.D ?_
  refine AWp_cond_true rfl rfl ?_
  refine AWp_sr hP ?_
  refine RK.As rfl ?_
  refine RK.D ?_
  refine AWp_ret ?_
  refine ends_one rfl (.inr rfl) (res_tmp rfl) ?_ O_ends
  first | exact Sub.bool (right_1 hc) | exact Sub.bool (right_2 (by omega)) | exact Sub.bool (ro_y hL.1 hL.2.1 hL.2.2 (fun i hi => hI i (by omega))) | exact Sub.bool (ro_5 (k := k) (by omega) (by omega) hsub (notT (by assumption))) | exact Sub.bool (ro_4 (k := k) (by omega) (notT (by assumption))) | exact Sub.bool (ro_3 (notT (by assumption)))
 ·have hg1_ := (notF hg1)
  have hc := notF hg1
  refine RK.val (guard_yes rfl rfl hg1) (op_field_loc hT rfl rfl rfl rfl rfl rfl) ?_
  refine RK.val (guard_yes rfl rfl hg1) (op_load_one hT rfl rfl rfl rfl (by first | rfl | exact vget (by omega))) ?_
  refine RK.val (guard_yes rfl rfl hg1) (op_len hT rfl rfl rfl (by rfl)) ?_
  refine RK.val (guard_yes rfl rfl hg1) (op_gtr rfl rfl) ?_
  refine RK.V (op_pick_f rfl hg1 (rfl : _ = AV.p (.c _))) ?_
  refine RK.M rfl ?_
  refine RK.split (t := 14) rfl (fun hg2 => ?_) (fun hg2 => ?_)
  ·have hg2_ := of_decide_eq_true hg2
   refine RK.skip (guard_no rfl rfl hg2) ?_
   refine RK.skip (guard_no rfl rfl hg2) ?_
   refine RK.skip (guard_no rfl rfl hg2) ?_
   refine RK.skip (guard_no rfl rfl hg2) ?_
   refine RK.V (op_pick_t rfl hg2 (rfl : _ = AV.p (.c _))) ?_
   refine RK.D ?_
   refine AWp_cond_true rfl rfl ?_
   refine AWp_sr hP ?_
   refine RK.As rfl ?_
   refine RK.D ?_
   refine AWp_ret ?_
   refine ends_one rfl (.inr rfl) (res_tmp rfl) ?_ O_ends
   first | exact Sub.bool (right_1 hc) | exact Sub.bool (right_2 (by omega)) | exact Sub.bool (ro_y hL.1 hL.2.1 hL.2.2 (fun i hi => hI i (by omega))) | exact Sub.bool (ro_5 (k := k) (by omega) (by omega) hsub (notT (by assumption))) | exact Sub.bool (ro_4 (k := k) (by omega) (notT (by assumption))) | exact Sub.bool (ro_3 (notT (by assumption)))
  ·have hg2_ := of_decide_eq_false hg2
   refine RK.val (guard_yes rfl rfl hg2) (op_field_loc hT rfl rfl rfl rfl rfl rfl) ?_
   refine RK.val (guard_yes rfl rfl hg2) (op_load_one hT rfl rfl rfl rfl (by first | rfl | exact vget (by omega))) ?_
   refine RK.val (guard_yes rfl rfl hg2) (Eff.call0 (p_rset _)) ?_
   refine RK.val (guard_yes rfl rfl hg2) (op_unot rfl) ?_
   refine RK.V (op_pick_f rfl hg2 (rfl : _ = AV.p (.c _))) ?_
   refine RK.D ?_
   refine AWp_cond rfl (fun hb3 => ?_) (fun hb3 => ?_)
   ·have hb3_ := (notT hb3)
    have hq := hb3
    refine AWp_sr hP ?_
    refine RK.As rfl ?_
    refine RK.D ?_
    refine AWp_ret ?_
    refine ends_one rfl (.inr rfl) (res_tmp rfl) ?_ O_ends
    first | exact Sub.bool (right_1 hc) | exact Sub.bool (right_2 (by omega)) | exact Sub.bool (ro_y hL.1 hL.2.1 hL.2.2 (fun i hi => hI i (by omega))) | exact Sub.bool (ro_5 (k := k) (by omega) (by omega) hsub (notT (by assumption))) | exact Sub.bool (ro_4 (k := k) (by omega) (notT (by assumption))) | exact Sub.bool (ro_3 (notT (by assumption)))
   ·have hb3_ := (notF hb3)
    have hq := hb3
    refine AWp_skip ?_
    refine AWp_seq ?_
    refine AWp_sr hP ?_
    refine RK.As rfl ?_
    refine RK.D ?_
    refine AWp_block ?_
    refine AWp_loop (ι := Nat) (fun k => stL [(1, .loc 1 0), (3, Z (k : Int))] [(1, ⟨false, 1, 45, enD d⟩)]) (fun k => k ≤ d.2.1.length ∧ (okS d.1 = true ∧ d.2.1.length ≤ 10 ∧ hypsB d.2.2 = true) ∧ ∀ i, i < k → okS (d.2.1.getD i []) = true ∧ (1 ≤ i → ltS (d.2.1.getD (i - 1) []) (d.2.1.getD i []) = true)) (fun k => d.2.1.length - k) 0 ⟨Nat.zero_le _, ⟨hc, by omega, notF (by assumption)⟩, fun i h => by omega⟩ (le_stL ⟨.refl _, .refl _, trivial⟩ ⟨rfl, trivial⟩) ?_
    rintro k ⟨hk, hL, hI⟩
    have hsub : ((k : Int) - 1).toNat = k - 1 := by omega
    refine AWp_seq ?_
    refine AWp_sr hP ?_
    refine RK.M rfl ?_
    refine RK.F hT rfl rfl rfl rfl rfl rfl ?_
    refine RK.V (op_load_one hT rfl rfl rfl rfl (by first | rfl | exact vget (by omega))) ?_
    refine RK.V (op_len hT rfl rfl rfl (by rfl)) ?_
    refine RK.V (op_lss rfl rfl) ?_
    refine RK.D ?_
    refine AWp_cond rfl (fun hb4 => ?_) (fun hb4 => ?_)
    ·have hb4_ := of_decide_eq_true hb4
     refine AWp_skip ?_
     refine AWp_seq ?_
     refine AWp_block ?_
     refine AWp_sr hP ?_
     refine RK.F hT rfl rfl rfl rfl rfl rfl ?_
     refine RK.V (op_load_one hT rfl rfl rfl rfl (by first | rfl | exact vget (by omega))) ?_
     refine RK.M rfl ?_
     refine RK.V (op_indexG hT enS_len (by decide) [] (n := (k : Int)) (l := d.2.1) rfl rfl rfl rfl rfl rfl (by omega)) ?_
     refine RK.V (op_load_ip_one hT rfl rfl rfl rfl) ?_
     refine RK.V (Eff.call0 (p_rclaim _)) ?_
     refine RK.V (op_unot rfl) ?_
     refine RK.M rfl ?_
     refine RK.split (t := 34) rfl (fun hg5 => ?_) (fun hg5 => ?_)
     ·have hg5_ := (notT hg5)
      refine RK.skip (guard_no rfl rfl hg5) ?_
      refine RK.skip (guard_no rfl rfl hg5) ?_
      refine RK.skip (guard_no rfl rfl hg5) ?_
      refine RK.skip (guard_sk rfl rfl) ?_
      refine RK.skip (guard_sk rfl rfl) ?_
      refine RK.skip (guard_sk rfl rfl) ?_
      refine RK.skip (guard_sk rfl rfl) ?_
      refine RK.skip (guard_sk rfl rfl) ?_
      refine RK.skip (guard_sk rfl rfl) ?_
      refine RK.skip (guard_sk rfl rfl) ?_
      refine RK.skip (guard_sk rfl rfl) ?_
      refine RK.skip (guard_sk rfl rfl) ?_
      refine RK.skip (guard_sk rfl rfl) ?_
      refine RK.skip (guard_sk rfl rfl) ?_
      refine RK.skip (guard_sk rfl rfl) ?_
      refine RK.skip (guard_no rfl rfl hg5) ?_
      refine RK.V (op_pick_t rfl hg5 (rfl : _ = AV.p (.c _))) ?_
      refine RK.D ?_
      refine AWp_cond_true rfl rfl ?_
      refine AWp_sr hP ?_
      refine RK.As rfl ?_
      refine RK.D ?_
      refine AWp_ret ?_
      refine ends_one rfl (.inr rfl) (res_tmp rfl) ?_ O_ends
      first | exact Sub.bool (right_1 hc) | exact Sub.bool (right_2 (by omega)) | exact Sub.bool (ro_y hL.1 hL.2.1 hL.2.2 (fun i hi => hI i (by omega))) | exact Sub.bool (ro_5 (k := k) (by omega) (by omega) hsub (notT (by assumption))) | exact Sub.bool (ro_4 (k := k) (by omega) (notT (by assumption))) | exact Sub.bool (ro_3 (notT (by assumption)))
     ·have hg5_ := (notF hg5)
      refine RK.val (guard_yes rfl rfl hg5) (op_move (rfl : _ = AV.p (.c _))) ?_
      refine RK.val (guard_yes rfl rfl hg5) (op_gtr rfl rfl) ?_
      refine RK.val (guard_yes rfl rfl hg5) (op_move (rfl : _ = AV.p (.c _))) ?_
      refine RK.split (t := 37) rfl (fun hg6 => ?_) (fun hg6 => ?_)
      ·have hg6_ := of_decide_eq_true hg6
       refine RK.val (guard_yes rfl rfl hg6) (op_field_loc hT rfl rfl rfl rfl rfl rfl) ?_
       refine RK.val (guard_yes rfl rfl hg6) (op_load_one hT rfl rfl rfl rfl (by first | rfl | exact vget (by omega))) ?_
       refine RK.val (guard_yes rfl rfl hg6) (op_move (rfl : _ = AV.p (.c _))) ?_
       refine RK.val (guard_yes rfl rfl hg6) (op_sub rfl rfl (by first | exact IntWalk.i64_in _ (by omega) | rfl)) ?_
       refine RK.val (guard_yes rfl rfl hg6) (op_indexG hT enS_len (by decide) [] (n := ((k : Int) - 1)) (l := d.2.1) rfl rfl rfl rfl rfl rfl (by omega)) ?_
       refine RK.val (guard_yes rfl rfl hg6) (op_load_ip_one hT rfl rfl rfl rfl) ?_
       refine RK.val (guard_yes rfl rfl hg6) (op_field_loc hT rfl rfl rfl rfl rfl rfl) ?_
       refine RK.val (guard_yes rfl rfl hg6) (op_load_one hT rfl rfl rfl rfl (by first | rfl | exact vget (by omega))) ?_
       refine RK.val (guard_yes rfl rfl hg6) (op_move (rfl : _ = AV.p (.c _))) ?_
       refine RK.val (guard_yes rfl rfl hg6) (op_indexG hT enS_len (by decide) [] (n := (k : Int)) (l := d.2.1) rfl rfl rfl rfl rfl rfl (by omega)) ?_
       refine RK.val (guard_yes rfl rfl hg6) (op_load_ip_one hT rfl rfl rfl rfl) ?_
       refine RK.val (guard_yes rfl rfl hg6) (op_sgeq rfl rfl) ?_
       refine RK.val (guard_yes rfl rfl hg5) (op_pick_t rfl hg6 (rfl : _ = AV.p (.c _))) ?_
       refine RK.V (op_pick_f rfl hg5 (rfl : _ = AV.p (.c _))) ?_
       refine RK.D ?_
       refine AWp_cond rfl (fun hb7 => ?_) (fun hb7 => ?_)
       ·have hbad := hb7
        refine AWp_sr hP ?_
        refine RK.As rfl ?_
        refine RK.D ?_
        refine AWp_ret ?_
        refine ends_one rfl (.inr rfl) (res_tmp rfl) ?_ O_ends
        first | exact Sub.bool (right_1 hc) | exact Sub.bool (right_2 (by omega)) | exact Sub.bool (ro_y hL.1 hL.2.1 hL.2.2 (fun i hi => hI i (by omega))) | exact Sub.bool (ro_5 (k := k) (by omega) (by omega) hsub (notT (by assumption))) | exact Sub.bool (ro_4 (k := k) (by omega) (notT (by assumption))) | exact Sub.bool (ro_3 (notT (by assumption)))
       ·have hgood := hb7
        refine AWp_skip ?_
        refine AWp_region hP ?_
        refine RK.M rfl ?_
        refine RK.V (op_add rfl rfl (by first | exact IntWalk.i64_in _ (by omega) | rfl)) ?_
        refine RK.As rfl ?_
        refine RK.D ?_
        refine ⟨k + 1, ⟨by omega, hL, fun i h1 => by
          by_cases e : i = k
          ·subst e; exact ⟨notF (by assumption), fun q => by rw [← hsub]; first | exact notF (by assumption) | omega⟩
          ·exact hI i (by omega)⟩, by omega, le_stL ⟨.refl _, Sub.int (by omega), trivial⟩ ⟨rfl, trivial⟩⟩
      ·have hg6_ := of_decide_eq_false hg6
       refine RK.skip (guard_no rfl rfl hg6) ?_
       refine RK.skip (guard_no rfl rfl hg6) ?_
       refine RK.skip (guard_no rfl rfl hg6) ?_
       refine RK.skip (guard_no rfl rfl hg6) ?_
       refine RK.skip (guard_no rfl rfl hg6) ?_
       refine RK.skip (guard_no rfl rfl hg6) ?_
       refine RK.skip (guard_no rfl rfl hg6) ?_
       refine RK.skip (guard_no rfl rfl hg6) ?_
       refine RK.skip (guard_no rfl rfl hg6) ?_
       refine RK.skip (guard_no rfl rfl hg6) ?_
       refine RK.skip (guard_no rfl rfl hg6) ?_
       refine RK.skip (guard_no rfl rfl hg6) ?_
       refine RK.val (guard_yes rfl rfl hg5) (op_pick_f rfl hg6 (rfl : _ = AV.p (.c _))) ?_
       refine RK.V (op_pick_f rfl hg5 (rfl : _ = AV.p (.c _))) ?_
       refine RK.D ?_
       refine AWp_cond_false rfl rfl ?_
       refine AWp_skip ?_
       refine AWp_region hP ?_
       refine RK.M rfl ?_
       refine RK.V (op_add rfl rfl (by first | exact IntWalk.i64_in _ (by omega) | rfl)) ?_
       refine RK.As rfl ?_
       refine RK.D ?_
       refine ⟨k + 1, ⟨by omega, hL, fun i h1 => by
         by_cases e : i = k
         ·subst e; exact ⟨notF (by assumption), fun q => by rw [← hsub]; first | exact notF (by assumption) | omega⟩
         ·exact hI i (by omega)⟩, by omega, le_stL ⟨.refl _, Sub.int (by omega), trivial⟩ ⟨rfl, trivial⟩⟩
    ·have hb4_ := of_decide_eq_false hb4
     refine AWp_exit ?_
     refine AWp_sr hP ?_
     refine RK.As rfl ?_
     refine RK.D ?_
     refine AWp_ret ?_
     refine ends_one rfl (.inr rfl) (res_tmp rfl) ?_ O_ends
     first | exact Sub.bool (right_1 hc) | exact Sub.bool (right_2 (by omega)) | exact Sub.bool (ro_y hL.1 hL.2.1 hL.2.2 (fun i hi => hI i (by omega))) | exact Sub.bool (ro_5 (k := k) (by omega) (by omega) hsub (notT (by assumption))) | exact Sub.bool (ro_4 (k := k) (by omega) (notT (by assumption))) | exact Sub.bool (ro_3 (notT (by assumption)))
end Go.Proofs.YtmoaoiakmmbpoaaGreatDoor
end

section
/- chapter 30: the reference: right books, searches; the law: its helpers -/
namespace Go.Proofs.YtmoaoiakmmbpoaaGreatDoor
open Go Go.AM
/- algorist/algoristref30.find -/
set_option maxHeartbeats 2000000 in
set_option maxRecDepth 100000 in
theorem p_rfind (l : List Drv) (g : DV) (d : Drv) (hs : SrtD l) :
  Call0 Tryz.prog 65 [.p (.a [SL enD l, g]), .p (.a (enD d))] (.t [.c (.v (.int .i64 (lessN l d : Int))), .c (.v (.bool (cutB (fun x => cmD x d) l (lessN l d))))]) := by
 refine callM_of (np := 0) Tryz.func65 (by kernel_rfl) rfl rfl (Nat.le_of_ble_eq_true rfl) (fun m h => absurd rfl h) (fun m h => absurd rfl h) rfl ?_
 refine AWp_lenA 0 0 (n := l.length) rfl rfl (fun hlen => ?_)
 refine AWp_sr hP ?_
 refine RK.alc guard_none (op_box rfl rfl) ?_
 refine RK.alc guard_none (op_box rfl rfl) ?_
 refine RK.As rfl ?_
 refine RK.As rfl ?_
 refine RK.D ?_
 refine AWp_sr hP ?_
 refine RK.As rfl ?_
 refine RK.D ?_
 refine AWp_seq ?_
 refine AWp_block ?_
 refine AWp_loop (ι := Nat) (fun k => stL [(2, .loc 2 0), (3, .loc 3 0), (6, Z (k : Int))] [(2, ⟨false, 1, 27, [SL enD l, g]⟩), (3, ⟨false, 1, 45, enD d⟩)]) (fun k => k ≤ l.length ∧ ∀ i, i < k → cmD (l.getD i zD) d < 0) (fun k => l.length - k) 0 ⟨Nat.zero_le _, fun i h => by omega⟩ (le_stL ⟨.refl _, .refl _, .refl _, trivial⟩ ⟨rfl, rfl, trivial⟩) ?_
 rintro k ⟨hk, hI⟩
 refine AWp_seq ?_
 refine AWp_sr hP ?_
 refine RK.M rfl ?_
 refine RK.F hT rfl rfl rfl rfl rfl rfl ?_
 refine RK.V (op_load_one hT rfl rfl rfl rfl (by first | rfl | exact vget (by omega))) ?_
 refine RK.V (op_len hT rfl rfl rfl (by rfl)) ?_
 refine RK.V (op_lss rfl rfl) ?_
 refine RK.M rfl ?_
 refine RK.split (t := 12) rfl (fun hg1 => ?_) (fun hg1 => ?_)
 ·have hg1_ := of_decide_eq_true hg1
  refine RK.val (guard_yes rfl rfl hg1) (op_field_loc hT rfl rfl rfl rfl rfl rfl) ?_
  refine RK.val (guard_yes rfl rfl hg1) (op_load_one hT rfl rfl rfl rfl (by first | rfl | exact vget (by omega))) ?_
  refine RK.val (guard_yes rfl rfl hg1) (op_move (rfl : _ = AV.p (.c _))) ?_
  refine RK.val (guard_yes rfl rfl hg1) (op_indexG hT enD_len (by decide) zD (n := (k : Int)) (l := l) rfl rfl rfl rfl rfl rfl (by omega)) ?_
  refine RK.val (guard_yes rfl rfl hg1) (op_load_ip_agg hT rfl rfl rfl (cs := enD (l.getD k zD)) rfl rfl) ?_
  refine RK.val (guard_yes rfl rfl hg1) (op_load_agg hT rfl rfl rfl rfl (cs := enD d) rfl rfl) ?_
  refine RK.val (guard_yes rfl rfl hg1) (Eff.call0 (p_rcmpD (l.getD k zD) d)) ?_
  refine RK.val (guard_yes rfl rfl hg1) (op_lss rfl rfl) ?_
  refine RK.V (op_pick_t rfl hg1 (rfl : _ = AV.p (.c _))) ?_
  refine RK.D ?_
  refine AWp_cond rfl (fun hb2 => ?_) (fun hb2 => ?_)
  ·have hb2_ := of_decide_eq_true hb2
   refine AWp_skip ?_
   refine AWp_block ?_
   refine AWp_region hP ?_
   refine RK.M rfl ?_
   refine RK.V (op_add rfl rfl (by first | exact IntWalk.i64_in _ (by omega) | rfl)) ?_
   refine RK.As rfl ?_
   refine RK.D ?_
   refine ⟨k + 1, ⟨by omega, fun i h1 => by
     by_cases e : i = k
     ·subst e; exact (show cmD (l.getD i zD) d < 0 by omega)
     ·exact hI i (by omega)⟩, by omega, le_stL ⟨.refl _, .refl _, Sub.int (by omega), trivial⟩ ⟨rfl, rfl, trivial⟩⟩
  ·have hb2_ := of_decide_eq_false hb2
   refine AWp_exit ?_
   refine AWp_sr hP ?_
   refine RK.M rfl ?_
   refine RK.M rfl ?_
   refine RK.F hT rfl rfl rfl rfl rfl rfl ?_
   refine RK.V (op_load_one hT rfl rfl rfl rfl (by first | rfl | exact vget (by omega))) ?_
   refine RK.V (op_len hT rfl rfl rfl (by rfl)) ?_
   refine RK.V (op_lss rfl rfl) ?_
   refine RK.M rfl ?_
   refine RK.split (t := 30) rfl (fun hg3 => ?_) (fun hg3 => ?_)
   ·have hg3_ := of_decide_eq_true hg3
    have hkl : k < l.length := by have := of_decide_eq_true hg3; omega
    refine RK.val (guard_yes rfl rfl hg3) (op_field_loc hT rfl rfl rfl rfl rfl rfl) ?_
    refine RK.val (guard_yes rfl rfl hg3) (op_load_one hT rfl rfl rfl rfl (by first | rfl | exact vget (by omega))) ?_
    refine RK.val (guard_yes rfl rfl hg3) (op_move (rfl : _ = AV.p (.c _))) ?_
    refine RK.val (guard_yes rfl rfl hg3) (op_indexG hT enD_len (by decide) zD (n := (k : Int)) (l := l) rfl rfl rfl rfl rfl rfl (by omega)) ?_
    refine RK.val (guard_yes rfl rfl hg3) (op_load_ip_agg hT rfl rfl rfl (cs := enD (l.getD k zD)) rfl rfl) ?_
    refine RK.val (guard_yes rfl rfl hg3) (op_load_agg hT rfl rfl rfl rfl (cs := enD d) rfl rfl) ?_
    refine RK.val (guard_yes rfl rfl hg3) (Eff.call0 (p_rcmpD (l.getD k zD) d)) ?_
    refine RK.val (guard_yes rfl rfl hg3) (op_eql rfl rfl) ?_
    refine RK.V (op_pick_t rfl hg3 (rfl : _ = AV.p (.c _))) ?_
    refine RK.As rfl ?_
    refine RK.As rfl ?_
    refine RK.D ?_
    refine AWp_ret ?_
    refine ends_two rfl (.inr rfl) (res_tmp rfl) (res_tmp rfl) ?_ O_ends
    exact Sub.of_eq (by rw [← find_at hs hk hI (fun q => by omega)]; unfold cutB; first | rw [decide_eq_true hkl]; rfl | rw [decide_eq_false hkl]; rfl)
   ·have hg3_ := of_decide_eq_false hg3
    have hkl : ¬ k < l.length := by have := of_decide_eq_false hg3; omega
    refine RK.skip (guard_no rfl rfl hg3) ?_
    refine RK.skip (guard_no rfl rfl hg3) ?_
    refine RK.skip (guard_no rfl rfl hg3) ?_
    refine RK.skip (guard_no rfl rfl hg3) ?_
    refine RK.skip (guard_no rfl rfl hg3) ?_
    refine RK.skip (guard_no rfl rfl hg3) ?_
    refine RK.skip (guard_no rfl rfl hg3) ?_
    refine RK.skip (guard_no rfl rfl hg3) ?_
    refine RK.V (op_pick_f rfl hg3 (rfl : _ = AV.p (.c _))) ?_
    refine RK.As rfl ?_
    refine RK.As rfl ?_
    refine RK.D ?_
    refine AWp_ret ?_
    refine ends_two rfl (.inr rfl) (res_tmp rfl) (res_tmp rfl) ?_ O_ends
    exact Sub.of_eq (by rw [← find_at hs hk hI (fun q => by omega)]; unfold cutB; first | rw [decide_eq_true hkl]; rfl | rw [decide_eq_false hkl]; rfl)
 ·have hg1_ := of_decide_eq_false hg1
  refine RK.skip (guard_no rfl rfl hg1) ?_
  refine RK.skip (guard_no rfl rfl hg1) ?_
  refine RK.skip (guard_no rfl rfl hg1) ?_
  refine RK.skip (guard_no rfl rfl hg1) ?_
  refine RK.skip (guard_no rfl rfl hg1) ?_
  refine RK.skip (guard_no rfl rfl hg1) ?_
  refine RK.skip (guard_no rfl rfl hg1) ?_
  refine RK.skip (guard_no rfl rfl hg1) ?_
  refine RK.V (op_pick_f rfl hg1 (rfl : _ = AV.p (.c _))) ?_
  refine RK.D ?_
  refine AWp_cond_false rfl rfl ?_
  refine AWp_exit ?_
  refine AWp_sr hP ?_
  refine RK.M rfl ?_
  refine RK.M rfl ?_
  refine RK.F hT rfl rfl rfl rfl rfl rfl ?_
  refine RK.V (op_load_one hT rfl rfl rfl rfl (by first | rfl | exact vget (by omega))) ?_
  refine RK.V (op_len hT rfl rfl rfl (by rfl)) ?_
  refine RK.V (op_lss rfl rfl) ?_
  refine RK.M rfl ?_
  refine RK.split (t := 30) rfl (fun hg4 => ?_) (fun hg4 => ?_)
  ·have hg4_ := of_decide_eq_true hg4
   have hkl : k < l.length := by have := of_decide_eq_true hg4; omega
   refine RK.val (guard_yes rfl rfl hg4) (op_field_loc hT rfl rfl rfl rfl rfl rfl) ?_
   refine RK.val (guard_yes rfl rfl hg4) (op_load_one hT rfl rfl rfl rfl (by first | rfl | exact vget (by omega))) ?_
   refine RK.val (guard_yes rfl rfl hg4) (op_move (rfl : _ = AV.p (.c _))) ?_
   refine RK.val (guard_yes rfl rfl hg4) (op_indexG hT enD_len (by decide) zD (n := (k : Int)) (l := l) rfl rfl rfl rfl rfl rfl (by omega)) ?_
   refine RK.val (guard_yes rfl rfl hg4) (op_load_ip_agg hT rfl rfl rfl (cs := enD (l.getD k zD)) rfl rfl) ?_
   refine RK.val (guard_yes rfl rfl hg4) (op_load_agg hT rfl rfl rfl rfl (cs := enD d) rfl rfl) ?_
   refine RK.val (guard_yes rfl rfl hg4) (Eff.call0 (p_rcmpD (l.getD k zD) d)) ?_
   refine RK.val (guard_yes rfl rfl hg4) (op_eql rfl rfl) ?_
   refine RK.V (op_pick_t rfl hg4 (rfl : _ = AV.p (.c _))) ?_
   refine RK.As rfl ?_
   refine RK.As rfl ?_
   refine RK.D ?_
   refine AWp_ret ?_
   refine ends_two rfl (.inr rfl) (res_tmp rfl) (res_tmp rfl) ?_ O_ends
   exact Sub.of_eq (by rw [← find_at hs hk hI (fun q => by omega)]; unfold cutB; first | rw [decide_eq_true hkl]; rfl | rw [decide_eq_false hkl]; rfl)
  ·have hg4_ := of_decide_eq_false hg4
   have hkl : ¬ k < l.length := by have := of_decide_eq_false hg4; omega
   refine RK.skip (guard_no rfl rfl hg4) ?_
   refine RK.skip (guard_no rfl rfl hg4) ?_
   refine RK.skip (guard_no rfl rfl hg4) ?_
   refine RK.skip (guard_no rfl rfl hg4) ?_
   refine RK.skip (guard_no rfl rfl hg4) ?_
   refine RK.skip (guard_no rfl rfl hg4) ?_
   refine RK.skip (guard_no rfl rfl hg4) ?_
   refine RK.skip (guard_no rfl rfl hg4) ?_
   refine RK.V (op_pick_f rfl hg4 (rfl : _ = AV.p (.c _))) ?_
   refine RK.As rfl ?_
   refine RK.As rfl ?_
   refine RK.D ?_
   refine AWp_ret ?_
   refine ends_two rfl (.inr rfl) (res_tmp rfl) (res_tmp rfl) ?_ O_ends
   exact Sub.of_eq (by rw [← find_at hs hk hI (fun q => by omega)]; unfold cutB; first | rw [decide_eq_true hkl]; rfl | rw [decide_eq_false hkl]; rfl)
/- algorist/algoristref30.Has -/
set_option maxHeartbeats 1000000 in
set_option maxRecDepth 100000 in
theorem p_rHas (l : List Int) (n : Int) :
  Call0 Tryz.prog 24 [.p (.c (SL enZ l)), Z n] (B (decide (n ∈ l))) := by
 refine callM_of (np := 0) Tryz.func24 (by kernel_rfl) rfl rfl (Nat.le_of_ble_eq_true rfl) (fun m h => absurd rfl h) (fun m h => absurd rfl h) rfl ?_
 refine AWp_len (t := 0) rfl rfl (fun hlen => ?_)
 refine AWp_sr hP ?_
 refine RK.As rfl ?_
 refine RK.D ?_
 refine AWp_seq ?_
 refine AWp_sr hP ?_
 refine RK.As rfl ?_
 refine RK.D ?_
 refine AWp_block ?_
 refine AWp_loop (ι := Nat) (fun k => stL [(0, .p (.c (SL enZ l))), (1, Z n), (5, Z (k : Int))] []) (fun k => k ≤ l.length ∧ ∀ i, i < k → ¬ l.getD i 0 = n) (fun k => l.length - k) 0 ⟨Nat.zero_le _, fun i h => by omega⟩ (le_stL ⟨.refl _, .refl _, .refl _, trivial⟩ trivial) ?_
 rintro k ⟨hk, hI⟩
 refine AWp_seq ?_
 refine AWp_sr hP ?_
 refine RK.M rfl ?_
 refine RK.M rfl ?_
 refine RK.V (op_len hT rfl rfl rfl (by rfl)) ?_
 refine RK.V (op_lss rfl rfl) ?_
 refine RK.D ?_
 refine AWp_cond rfl (fun hb1 => ?_) (fun hb1 => ?_)
 ·have hb1_ := of_decide_eq_true hb1
  refine AWp_skip ?_
  refine AWp_seq ?_
  refine AWp_block ?_
  refine AWp_sr hP ?_
  refine RK.M rfl ?_
  refine RK.M rfl ?_
  refine RK.V (op_indexG hT enZ_len (by decide) 0 (n := (k : Int)) (l := l) rfl rfl rfl rfl rfl rfl (by omega)) ?_
  refine RK.V (op_load_ip_one hT rfl rfl rfl rfl) ?_
  refine RK.M rfl ?_
  refine RK.V (op_eql rfl rfl) ?_
  refine RK.D ?_
  refine AWp_cond rfl (fun hb2 => ?_) (fun hb2 => ?_)
  ·have hb2_ := bT hb2
   have hy : l.getD k 0 = n := bT hb2
   refine AWp_sr hP ?_
   refine RK.As rfl ?_
   refine RK.D ?_
   refine AWp_ret ?_
   refine ends_one rfl (.inr rfl) (res_tmp rfl) ?_ O_ends
   first | exact Sub.bool (hasZ_y (k := k) (by omega) hy) | exact Sub.bool (hasZ_n (fun i hi => hI i (by omega)))
  ·have hb2_ := bF hb2
   have hn : ¬ l.getD k 0 = n := bF hb2
   refine AWp_skip ?_
   refine AWp_region hP ?_
   refine RK.M rfl ?_
   refine RK.V (op_add rfl rfl (by first | exact IntWalk.i64_in _ (by omega) | rfl)) ?_
   refine RK.As rfl ?_
   refine RK.D ?_
   refine ⟨k + 1, ⟨by omega, fun i h1 => by
     by_cases e : i = k
     ·subst e; exact hn
     ·exact hI i (by omega)⟩, by omega, le_stL ⟨.refl _, .refl _, Sub.int (by omega), trivial⟩ trivial⟩
 ·have hb1_ := of_decide_eq_false hb1
  refine AWp_exit ?_
  refine AWp_sr hP ?_
  refine RK.As rfl ?_
  refine RK.D ?_
  refine AWp_ret ?_
  refine ends_one rfl (.inr rfl) (res_tmp rfl) ?_ O_ends
  first | exact Sub.bool (hasZ_y (k := k) (by omega) hy) | exact Sub.bool (hasZ_n (fun i hi => hI i (by omega)))
/- algorist/algoristref30.SameSets -/
set_option maxHeartbeats 1000000 in
set_option maxRecDepth 100000 in
theorem p_rsets (a b : List (List Int)) :
  Call0 Tryz.prog 14 [.p (.c (SL enL a)), .p (.c (SL enL b))] (B (decide (a = b))) := by
 refine callM_of (np := 0) Tryz.func14 (by kernel_rfl) rfl rfl (Nat.le_of_ble_eq_true rfl) (fun m h => absurd rfl h) (fun m h => absurd rfl h) rfl ?_
 refine AWp_len (t := 0) rfl rfl (fun hla => ?_)
 refine AWp_len (t := 1) rfl rfl (fun hlb => ?_)
 refine AWp_sr hP ?_
 refine RK.As rfl ?_
 refine RK.D ?_
 refine AWp_seq ?_
 refine AWp_sr hP ?_
 refine RK.M rfl ?_
 refine RK.V (op_len hT rfl rfl rfl (by rfl)) ?_
 refine RK.M rfl ?_
 refine RK.V (op_len hT rfl rfl rfl (by rfl)) ?_
 refine RK.V (op_neq rfl rfl) ?_
 refine RK.D ?_
 refine AWp_cond rfl (fun hb1 => ?_) (fun hb1 => ?_)
 ·have hb1_ := bneT hb1
  have hln := bneT hb1
  refine AWp_sr hP ?_
  refine RK.As rfl ?_
  refine RK.D ?_
  refine AWp_ret ?_
  refine ends_one rfl (.inr rfl) (res_tmp rfl) ?_ O_ends
  first | exact Sub.bool (same_len hln) | exact Sub.bool (same_at [] (k := k) hne) | exact Sub.bool (same_all [] hle (fun i hi => hI i (by omega)))
 ·have hb1_ := bneF hb1
  have hle := bneF hb1
  refine AWp_skip ?_
  refine AWp_seq ?_
  refine AWp_sr hP ?_
  refine RK.As rfl ?_
  refine RK.D ?_
  refine AWp_block ?_
  refine AWp_loop (ι := Nat) (fun k => stL [(0, .p (.c (SL enL a))), (1, .p (.c (SL enL b))), (5, Z (k : Int))] []) (fun k => k ≤ a.length ∧ ∀ i, i < k → a.getD i [] = b.getD i []) (fun k => a.length - k) 0 ⟨Nat.zero_le _, fun i h => by omega⟩ (le_stL ⟨.refl _, .refl _, .refl _, trivial⟩ trivial) ?_
  rintro k ⟨hk, hI⟩
  refine AWp_seq ?_
  refine AWp_sr hP ?_
  refine RK.M rfl ?_
  refine RK.M rfl ?_
  refine RK.V (op_len hT rfl rfl rfl (by rfl)) ?_
  refine RK.V (op_lss rfl rfl) ?_
  refine RK.D ?_
  refine AWp_cond rfl (fun hb2 => ?_) (fun hb2 => ?_)
  ·have hb2_ := of_decide_eq_true hb2
   refine AWp_skip ?_
   refine AWp_seq ?_
   refine AWp_block ?_
   refine AWp_sr hP ?_
   refine RK.M rfl ?_
   refine RK.M rfl ?_
   refine RK.V (op_indexG hT enL_len (by decide) [] (n := (k : Int)) (l := a) rfl rfl rfl rfl rfl rfl (by omega)) ?_
   refine RK.V (op_load_ip_one hT rfl rfl rfl rfl) ?_
   refine RK.M rfl ?_
   refine RK.M rfl ?_
   refine RK.V (op_indexG hT enL_len (by decide) [] (n := (k : Int)) (l := b) rfl rfl rfl rfl rfl rfl (by omega)) ?_
   refine RK.V (op_load_ip_one hT rfl rfl rfl rfl) ?_
   refine RK.V (Eff.call0 (p_rcmpL _ _)) ?_
   refine RK.V (op_neq rfl rfl) ?_
   refine RK.D ?_
   refine AWp_cond rfl (fun hb3 => ?_) (fun hb3 => ?_)
   ·have hb3_ := bneT hb3
    have hne : ¬ a.getD k [] = b.getD k [] := fun e => bneT hb3 (cmLZ.zero.2 e)
    refine AWp_sr hP ?_
    refine RK.As rfl ?_
    refine RK.D ?_
    refine AWp_ret ?_
    refine ends_one rfl (.inr rfl) (res_tmp rfl) ?_ O_ends
    first | exact Sub.bool (same_len hln) | exact Sub.bool (same_at [] (k := k) hne) | exact Sub.bool (same_all [] hle (fun i hi => hI i (by omega)))
   ·have hb3_ := bneF hb3
    have heq : a.getD k [] = b.getD k [] := cmLZ.zero.1 (bneF hb3)
    refine AWp_skip ?_
    refine AWp_region hP ?_
    refine RK.M rfl ?_
    refine RK.V (op_add rfl rfl (by first | exact IntWalk.i64_in _ (by omega) | rfl)) ?_
    refine RK.As rfl ?_
    refine RK.D ?_
    refine ⟨k + 1, ⟨by omega, fun i h1 => by
      by_cases e : i = k
      ·subst e; exact heq
      ·exact hI i (by omega)⟩, by omega, le_stL ⟨.refl _, .refl _, Sub.int (by omega), trivial⟩ trivial⟩
  ·have hb2_ := of_decide_eq_false hb2
   refine AWp_exit ?_
   refine AWp_sr hP ?_
   refine RK.As rfl ?_
   refine RK.D ?_
   refine AWp_ret ?_
   refine ends_one rfl (.inr rfl) (res_tmp rfl) ?_ O_ends
   first | exact Sub.bool (same_len hln) | exact Sub.bool (same_at [] (k := k) hne) | exact Sub.bool (same_all [] hle (fun i hi => hI i (by omega)))
/- algorist/algoristref30.SameTexts -/
set_option maxHeartbeats 1000000 in
set_option maxRecDepth 100000 in
theorem p_rtexts (a b : List (Str)) :
  Call0 Tryz.prog 17 [.p (.c (SL enS a)), .p (.c (SL enS b))] (B (decide (a = b))) := by
 refine callM_of (np := 0) Tryz.func17 (by kernel_rfl) rfl rfl (Nat.le_of_ble_eq_true rfl) (fun m h => absurd rfl h) (fun m h => absurd rfl h) rfl ?_
 refine AWp_len (t := 0) rfl rfl (fun hla => ?_)
 refine AWp_len (t := 1) rfl rfl (fun hlb => ?_)
 refine AWp_sr hP ?_
 refine RK.As rfl ?_
 refine RK.D ?_
 refine AWp_seq ?_
 refine AWp_sr hP ?_
 refine RK.M rfl ?_
 refine RK.V (op_len hT rfl rfl rfl (by rfl)) ?_
 refine RK.M rfl ?_
 refine RK.V (op_len hT rfl rfl rfl (by rfl)) ?_
 refine RK.V (op_neq rfl rfl) ?_
 refine RK.D ?_
 refine AWp_cond rfl (fun hb1 => ?_) (fun hb1 => ?_)
 ·have hb1_ := bneT hb1
  have hln := bneT hb1
  refine AWp_sr hP ?_
  refine RK.As rfl ?_
  refine RK.D ?_
  refine AWp_ret ?_
  refine ends_one rfl (.inr rfl) (res_tmp rfl) ?_ O_ends
  first | exact Sub.bool (same_len hln) | exact Sub.bool (same_at [] (k := k) hne) | exact Sub.bool (same_all [] hle (fun i hi => hI i (by omega)))
 ·have hb1_ := bneF hb1
  have hle := bneF hb1
  refine AWp_skip ?_
  refine AWp_seq ?_
  refine AWp_sr hP ?_
  refine RK.As rfl ?_
  refine RK.D ?_
  refine AWp_block ?_
  refine AWp_loop (ι := Nat) (fun k => stL [(0, .p (.c (SL enS a))), (1, .p (.c (SL enS b))), (5, Z (k : Int))] []) (fun k => k ≤ a.length ∧ ∀ i, i < k → a.getD i [] = b.getD i []) (fun k => a.length - k) 0 ⟨Nat.zero_le _, fun i h => by omega⟩ (le_stL ⟨.refl _, .refl _, .refl _, trivial⟩ trivial) ?_
  rintro k ⟨hk, hI⟩
  refine AWp_seq ?_
  refine AWp_sr hP ?_
  refine RK.M rfl ?_
  refine RK.M rfl ?_
  refine RK.V (op_len hT rfl rfl rfl (by rfl)) ?_
  refine RK.V (op_lss rfl rfl) ?_
  refine RK.D ?_
  refine AWp_cond rfl (fun hb2 => ?_) (fun hb2 => ?_)
  ·have hb2_ := of_decide_eq_true hb2
   refine AWp_skip ?_
   refine AWp_seq ?_
   refine AWp_block ?_
   refine AWp_sr hP ?_
   refine RK.M rfl ?_
   refine RK.M rfl ?_
   refine RK.V (op_indexG hT enS_len (by decide) [] (n := (k : Int)) (l := a) rfl rfl rfl rfl rfl rfl (by omega)) ?_
   refine RK.V (op_load_ip_one hT rfl rfl rfl rfl) ?_
   refine RK.M rfl ?_
   refine RK.M rfl ?_
   refine RK.V (op_indexG hT enS_len (by decide) [] (n := (k : Int)) (l := b) rfl rfl rfl rfl rfl rfl (by omega)) ?_
   refine RK.V (op_load_ip_one hT rfl rfl rfl rfl) ?_
   refine RK.V (op_sneq rfl rfl) ?_
   refine RK.D ?_
   refine AWp_cond rfl (fun hb3 => ?_) (fun hb3 => ?_)
   ·have hne : ¬ a.getD k [] = b.getD k [] := of_decide_eq_false (notT hb3)
    refine AWp_sr hP ?_
    refine RK.As rfl ?_
    refine RK.D ?_
    refine AWp_ret ?_
    refine ends_one rfl (.inr rfl) (res_tmp rfl) ?_ O_ends
    first | exact Sub.bool (same_len hln) | exact Sub.bool (same_at [] (k := k) hne) | exact Sub.bool (same_all [] hle (fun i hi => hI i (by omega)))
   ·have heq : a.getD k [] = b.getD k [] := of_decide_eq_true (notF hb3)
    refine AWp_skip ?_
    refine AWp_region hP ?_
    refine RK.M rfl ?_
    refine RK.V (op_add rfl rfl (by first | exact IntWalk.i64_in _ (by omega) | rfl)) ?_
    refine RK.As rfl ?_
    refine RK.D ?_
    refine ⟨k + 1, ⟨by omega, fun i h1 => by
      by_cases e : i = k
      ·subst e; exact heq
      ·exact hI i (by omega)⟩, by omega, le_stL ⟨.refl _, .refl _, Sub.int (by omega), trivial⟩ trivial⟩
  ·have hb2_ := of_decide_eq_false hb2
   refine AWp_exit ?_
   refine AWp_sr hP ?_
   refine RK.As rfl ?_
   refine RK.D ?_
   refine AWp_ret ?_
   refine ends_one rfl (.inr rfl) (res_tmp rfl) ?_ O_ends
   first | exact Sub.bool (same_len hln) | exact Sub.bool (same_at [] (k := k) hne) | exact Sub.bool (same_all [] hle (fun i hi => hI i (by omega)))
/- algorist/algoristlaw30.add -/
set_option maxHeartbeats 1000000 in
set_option maxRecDepth 100000 in
theorem p_ladd (b : Book) (d : Drv) (hs : SrtD b.1) (hl : b.1.length ≤ 1000000) :
  Call0 Tryz.prog 20 [.p (.a (enBk b)), .p (.a (enD d))] (.p (.a [SL enD (addB b d).1, SL enZ (addB b d).2, .v (.int .i64 (addE b d))])) := by
 refine callM_of (np := 0) Tryz.func20 (by kernel_rfl) rfl rfl (Nat.le_of_ble_eq_true rfl) (fun m h => absurd rfl h) (fun m h => absurd rfl h) rfl ?_
 refine AWp_sr hP ?_
 refine RK.alc guard_none (op_box rfl rfl) ?_
 refine RK.alc guard_none (op_box rfl rfl) ?_
 refine RK.alc guard_none (op_alloc hT rfl rfl) ?_
 refine RK.D ?_
 refine AWp_sr hP ?_
 refine RK.G2 hT rfl rfl rfl rfl rfl rfl ?_
 refine RK.V (op_load_agg hT rfl rfl rfl rfl (cs := [_, _, _]) rfl rfl) ?_
 refine RK.V (Eff.call0 (p_AddB b d hs hl)) ?_
 refine RK.V (op_move (rfl : _ = AV.t _)) ?_
 refine RK.V (op_extract rfl (v := .a _) rfl) ?_
 refine RK.V (op_extract rfl (v := .c _) rfl) ?_
 refine RK.alc guard_none (op_alloc hT rfl rfl) ?_
 refine RK.S hT rfl rfl rfl rfl rfl rfl rfl ?_
 refine RK.As rfl ?_
 refine RK.D ?_
 refine AWp_sr hP ?_
 refine RK.G2 hT rfl rfl rfl rfl rfl rfl ?_
 refine RK.M rfl ?_
 refine RK.V (op_build_st hT rfl rfl rfl (es := [_, _, _]) rfl) ?_
 refine RK.S hT rfl rfl rfl rfl rfl rfl rfl ?_
 refine RK.D ?_
 refine AWp_ret ?_
 refine ends_one rfl (.inr rfl) (res_cell_agg hT rfl rfl rfl rfl (cs := [_, _, _]) rfl rfl) ?_ O_ends
 exact .refl _
/- algorist/algoristlaw30.grant -/
set_option maxHeartbeats 1000000 in
set_option maxRecDepth 100000 in
theorem p_lgrant (b : Book) (n : Int) (ho : hok b.2) :
  Call0 Tryz.prog 22 [.p (.a (enBk b)), Z n] (.p (.a [SL enD (grantB b n).1, SL enZ (grantB b n).2, .v (.int .i64 (grantE n))])) := by
 refine callM_of (np := 0) Tryz.func22 (by kernel_rfl) rfl rfl (Nat.le_of_ble_eq_true rfl) (fun m h => absurd rfl h) (fun m h => absurd rfl h) rfl ?_
 refine AWp_sr hP ?_
 refine RK.alc guard_none (op_box rfl rfl) ?_
 refine RK.alc guard_none (op_alloc hT rfl rfl) ?_
 refine RK.D ?_
 refine AWp_sr hP ?_
 refine RK.G2 hT rfl rfl rfl rfl rfl rfl ?_
 refine RK.M rfl ?_
 refine RK.V (Eff.call0 (p_Grant b n ho)) ?_
 refine RK.V (op_move (rfl : _ = AV.t _)) ?_
 refine RK.V (op_extract rfl (v := .a _) rfl) ?_
 refine RK.V (op_extract rfl (v := .c _) rfl) ?_
 refine RK.alc guard_none (op_alloc hT rfl rfl) ?_
 refine RK.S hT rfl rfl rfl rfl rfl rfl rfl ?_
 refine RK.As rfl ?_
 refine RK.D ?_
 refine AWp_sr hP ?_
 refine RK.G2 hT rfl rfl rfl rfl rfl rfl ?_
 refine RK.M rfl ?_
 refine RK.V (op_build_st hT rfl rfl rfl (es := [_, _, _]) rfl) ?_
 refine RK.S hT rfl rfl rfl rfl rfl rfl rfl ?_
 refine RK.D ?_
 refine AWp_ret ?_
 refine ends_one rfl (.inr rfl) (res_cell_agg hT rfl rfl rfl rfl (cs := [_, _, _]) rfl rfl) ?_ O_ends
 exact .refl _
/- algorist/algoristlaw30.withdraw -/
set_option maxHeartbeats 1000000 in
set_option maxRecDepth 100000 in
theorem p_lwithdraw (b : Book) (n : Int) (ho : hok b.2) :
  Call0 Tryz.prog 23 [.p (.a (enBk b)), Z n] (.p (.a [SL enD (withdrawB b n).1, SL enZ (withdrawB b n).2, .v (.int .i64 (grantE n))])) := by
 refine callM_of (np := 0) Tryz.func23 (by kernel_rfl) rfl rfl (Nat.le_of_ble_eq_true rfl) (fun m h => absurd rfl h) (fun m h => absurd rfl h) rfl ?_
 refine AWp_sr hP ?_
 refine RK.alc guard_none (op_box rfl rfl) ?_
 refine RK.alc guard_none (op_alloc hT rfl rfl) ?_
 refine RK.D ?_
 refine AWp_sr hP ?_
 refine RK.G2 hT rfl rfl rfl rfl rfl rfl ?_
 refine RK.M rfl ?_
 refine RK.V (Eff.call0 (p_Withdraw b n ho)) ?_
 refine RK.V (op_move (rfl : _ = AV.t _)) ?_
 refine RK.V (op_extract rfl (v := .a _) rfl) ?_
 refine RK.V (op_extract rfl (v := .c _) rfl) ?_
 refine RK.alc guard_none (op_alloc hT rfl rfl) ?_
 refine RK.S hT rfl rfl rfl rfl rfl rfl rfl ?_
 refine RK.As rfl ?_
 refine RK.D ?_
 refine AWp_sr hP ?_
 refine RK.G2 hT rfl rfl rfl rfl rfl rfl ?_
 refine RK.M rfl ?_
 refine RK.V (op_build_st hT rfl rfl rfl (es := [_, _, _]) rfl) ?_
 refine RK.S hT rfl rfl rfl rfl rfl rfl rfl ?_
 refine RK.D ?_
 refine AWp_ret ?_
 refine ends_one rfl (.inr rfl) (res_cell_agg hT rfl rfl rfl rfl (cs := [_, _, _]) rfl rfl) ?_ O_ends
 exact .refl _
end Go.Proofs.YtmoaoiakmmbpoaaGreatDoor
end

section
/- chapter 30: the reference: names, derivations, Add, Made -/
namespace Go.Proofs.YtmoaoiakmmbpoaaGreatDoor
open Go Go.AM
/-- types with their zero values said exactly -/
def ty45s : TyI := ⟨.st [(0, 9), (1, 35), (2, 25)], 3, 64, [.v (.string ⟨#[]⟩), .v (.slice none 0 0), .v (.slice none 0 0)]⟩
theorem ty45s_ok : TyOK Tryz.prog 45 ty45s := TyOK.mk' (z := .agg #[.string ⟨#[]⟩, .slice none 0 0, .slice none 0 0]) (by kernel_rfl) Tryz.underlying45 rfl rfl ⟨z_v _ rfl, z_v _ rfl, z_v _ rfl, trivial⟩
def ty27s : TyI := ⟨.st [(0, 24), (1, 25)], 2, 48, [.sl 0 [], .v (.slice none 0 0)]⟩
theorem ty27s_ok : TyOK Tryz.prog 27 ty27s := TyOK.mk' (z := .agg #[.slice none 0 0, .slice none 0 0]) (by kernel_rfl) Tryz.underlying27 rfl rfl ⟨z_sl, z_v _ rfl, trivial⟩
def tts : TT := fun T => bif Nat.beq T 45 then some ty45s else bif Nat.beq T 27 then some ty27s else tt T
theorem hTs : TTok Tryz.prog tts := fun T i h => by
 unfold tts at h
 cases e : Nat.beq T 45 with
 | true => rw [e] at h; cases h; rw [Nat.eq_of_beq_eq_true e]; exact ty45s_ok
 | false =>
  rw [e] at h
  cases e2 : Nat.beq T 27 with
  | true => rw [e2] at h; cases h; rw [Nat.eq_of_beq_eq_true e2]; exact ty27s_ok
  | false => rw [e2] at h; exact hT T i h
/- algorist/algoristref30.Name -/
set_option maxHeartbeats 1000000 in
set_option maxRecDepth 100000 in
theorem p_Name (n : Nat) :
  Call0 Tryz.prog 11 [.p (.c (.v (.int .u8 (n : Int))))] (AS (nameS n)) := by
 refine callM_of (np := 0) Tryz.func11 (by kernel_rfl) rfl rfl (Nat.le_of_ble_eq_true rfl) (fun m h => absurd rfl h) (fun m h => absurd rfl h) rfl ?_
 refine AWp_sr hP ?_
 refine RK.As rfl ?_
 refine RK.D ?_
 refine AWp_sr hP ?_
 refine RK.V (op_bslice hT rfl rfl rfl (es := nameL.map st) rfl rfl rfl) ?_
 refine RK.M rfl ?_
 refine RK.V (op_rem (c := ((n % 8 : Nat) : Int)) rfl rfl (by decide) (by rw [Int.tmod_eq_emod_of_nonneg (by omega)]; omega)) ?_
 refine RK.V (op_indexG hT enS_len (by decide) [] (n := ((n % 8 : Nat) : Int)) (l := nameL) rfl rfl rfl rfl rfl rfl ⟨by omega, by show _ < (8 : Int); omega⟩) ?_
 refine RK.V (op_load_ip_one hT rfl rfl rfl rfl) ?_
 refine RK.As rfl ?_
 refine RK.D ?_
 refine AWp_ret ?_
 refine ends_one rfl (.inr rfl) (res_tmp rfl) ?_ O_ends
 exact .refl _
/- algorist/algoristref30.One -/
set_option maxHeartbeats 2000000 in
set_option maxRecDepth 100000 in
theorem p_One (x : Raw) :
  Call0 Tryz.prog 21 [.p (.a (enR x))] (.p (.a (enD (oneD x)))) := by
 refine callM_of (np := 0) Tryz.func21 (by kernel_rfl) rfl rfl (Nat.le_of_ble_eq_true rfl) (fun m h => absurd rfl h) (fun m h => absurd rfl h) rfl ?_
 refine AWp_sr hP ?_
 refine RK.alc guard_none (op_box rfl rfl) ?_
 refine RK.alc guard_none (op_alloc hT rfl rfl) ?_
 refine RK.D ?_
 refine AWp_sr hP ?_
 refine RK.F hT rfl rfl rfl rfl rfl rfl ?_
 refine RK.V (op_load_one hT rfl rfl rfl rfl (by first | rfl | exact vget (by omega))) ?_
 refine RK.V (Eff.call0 (p_Name x.1.toNat)) ?_
 refine RK.V (op_build_st hTs rfl rfl rfl (es := [_, _, _]) rfl) ?_
 refine RK.alc guard_none (op_alloc hT rfl rfl) ?_
 refine RK.S hT rfl rfl rfl rfl rfl rfl rfl ?_
 refine RK.D ?_
 refine AWp_seq ?_
 refine AWp_sr hP ?_
 refine RK.As rfl ?_
 refine RK.D ?_
 refine AWp_block ?_
 refine AWp_lkF 3 1000 1 1 9 rfl rfl rfl rfl rfl rfl rfl rfl ?_
 refine AWp_loop (ι := Nat) (fun k => stL [(1, .loc 1 0), (2, .loc 2 0), (3, .loc 3 0), (4, .p (.c (.v (.int .u8 (k : Int)))))] [(1, ⟨false, 1, 39, enR x⟩), (2, ⟨false, 1, 45, [.v (.string ⟨#[]⟩), .sl 0 [], .sl 0 []]⟩), (3, ⟨false, 1002, 45, [st (nameS x.1.toNat), .any, .v (.slice none 0 0)]⟩), (1000, VB 1 9 enS (frF x.2.1.toNat k))]) (fun k => k ≤ 8) (fun k => 8 - k) 0 (Nat.zero_le _) (le_stL ⟨.refl _, .refl _, .refl _, .refl _, trivial⟩ ⟨rfl, rfl, rfl, rfl, trivial⟩) ?_
 rintro k hk
 refine AWp_seq ?_
 refine AWp_sr hP ?_
 refine RK.M rfl ?_
 refine RK.V (op_lss rfl rfl) ?_
 refine RK.D ?_
 refine AWp_cond rfl (fun hb1 => ?_) (fun hb1 => ?_)
 ·have hb1_ := of_decide_eq_true hb1
  refine AWp_skip ?_
  refine AWp_seq ?_
  refine AWp_block ?_
  refine AWp_sr hP ?_
  refine RK.F hT rfl rfl rfl rfl rfl rfl ?_
  refine RK.V (op_load_one hT rfl rfl rfl rfl (by first | rfl | exact vget (by omega))) ?_
  refine RK.M rfl ?_
  refine RK.V (op_shrN (m := x.2.1.toNat) (j := k) rfl rfl (show _ ≤ 8 by omega)) ?_
  refine RK.V (op_andN (m := (x.2.1.toNat / 2 ^ k)) (n := 1) rfl rfl rfl (Nat.lt_of_le_of_lt (Nat.div_le_self _ _) (UInt8.toNat_lt _)) (by decide)) ?_
  refine RK.V (op_eql rfl rfl) ?_
  refine RK.D ?_
  refine AWp_cond rfl (fun hb2 => ?_) (fun hb2 => ?_)
  ·have hb2_ := bT hb2
   have hq := bT hb2
   refine AWp_region hP ?_
   refine RK.F hT rfl rfl rfl rfl rfl rfl ?_
   refine RK.V (op_loadF hT rfl rfl rfl rfl rfl rfl rfl) ?_
   refine RK.M rfl ?_
   refine RK.V (Eff.call0 (p_Name k)) ?_
   refine RK.V (op_bslice hT rfl rfl rfl (es := [_]) rfl rfl rfl) ?_
   refine RK.app guard_none (op_appendG (encD := enS) hT enS_len (by decide) rfl rfl rfl rfl rfl rfl rfl (b := nameS k) rfl (Nat.le_trans (frF_len _ _) (by omega)) (by decide) (by decide)) ?_
   refine RK.F hT rfl rfl rfl rfl rfl rfl ?_
   refine RK.sto guard_none (op_storeF hT rfl rfl rfl rfl rfl rfl rfl (flat_len enS_len _).symm (Nat.zero_lt_succ 0) rfl rfl rfl rfl) ?_
   refine RK.D ?_
   refine AWp_rnF 3 25 1000 rfl rfl rfl rfl rfl rfl rfl ?_
   refine AWp_region hP ?_
   refine RK.M rfl ?_
   refine RK.V (op_add rfl rfl (by first | exact IntWalk.u8_in _ (by omega) | rfl)) ?_
   refine RK.As rfl ?_
   refine RK.D ?_
   refine ⟨k + 1, by omega, by omega, le_stL ⟨.refl _, .refl _, .refl _, Sub.of_eq (by congr 4), trivial⟩ ⟨rfl, rfl, rfl, Eq.trans rfl (congrArg (fun l => some (VB 1 9 enS l)) (frF_y hq)), trivial⟩⟩
  ·have hb2_ := bF hb2
   have hq := bF hb2
   refine AWp_skip ?_
   refine AWp_region hP ?_
   refine RK.M rfl ?_
   refine RK.V (op_add rfl rfl (by first | exact IntWalk.u8_in _ (by omega) | rfl)) ?_
   refine RK.As rfl ?_
   refine RK.D ?_
   refine ⟨k + 1, by omega, by omega, le_stL ⟨.refl _, .refl _, .refl _, Sub.of_eq (by congr 4), trivial⟩ ⟨rfl, rfl, rfl, Eq.trans rfl (congrArg (fun l => some (VB 1 9 enS l)) (frF_n hq)), trivial⟩⟩
 ·have hb1_ := of_decide_eq_false hb1
  have hk8 : k = 8 := by omega
  subst hk8
  refine AWp_exit ?_
  refine AWp_unF 3 1000 1 enS_len rfl rfl rfl rfl rfl rfl rfl rfl ?_
  refine AWp_seq ?_
  refine AWp_sr hP ?_
  refine RK.As rfl ?_
  refine RK.D ?_
  refine AWp_block ?_
  refine AWp_lkF 3 1001 2 1 3 rfl rfl rfl rfl rfl rfl rfl rfl ?_
  refine AWp_loop (ι := Nat) (fun k => stL [(1, .loc 1 0), (2, .loc 2 0), (3, .loc 3 0), (5, Z (k : Int))] [(1, ⟨false, 1, 39, enR x⟩), (2, ⟨false, 1, 45, [.v (.string ⟨#[]⟩), .sl 0 [], .sl 0 []]⟩), (3, ⟨false, 1003, 45, [st (nameS x.1.toNat), SL enS (frF x.2.1.toNat 8), .any]⟩), (1001, VB 1 3 enZ (hyF x.2.2.toNat k))]) (fun k => k ≤ 4) (fun k => 4 - k) 0 (Nat.zero_le _) (le_stL ⟨.refl _, .refl _, .refl _, .refl _, trivial⟩ ⟨rfl, rfl, rfl, rfl, trivial⟩) ?_
  rintro k hk
  refine AWp_seq ?_
  refine AWp_sr hP ?_
  refine RK.M rfl ?_
  refine RK.V (op_lss rfl rfl) ?_
  refine RK.D ?_
  refine AWp_cond rfl (fun hb3 => ?_) (fun hb3 => ?_)
  ·have hb3_ := of_decide_eq_true hb3
   refine AWp_skip ?_
   refine AWp_seq ?_
   refine AWp_block ?_
   refine AWp_sr hP ?_
   refine RK.F hT rfl rfl rfl rfl rfl rfl ?_
   refine RK.V (op_load_one hT rfl rfl rfl rfl (by first | rfl | exact vget (by omega))) ?_
   refine RK.M rfl ?_
   refine RK.V (op_conv hT rfl rfl rfl rfl (by first | exact IntWalk.u64_in _ (by omega) | rfl)) ?_
   refine RK.V (op_shrN (m := x.2.2.toNat) (j := k) rfl rfl (show _ ≤ 8 by omega)) ?_
   refine RK.V (op_andN (m := (x.2.2.toNat / 2 ^ k)) (n := 1) rfl rfl rfl (Nat.lt_of_le_of_lt (Nat.div_le_self _ _) (UInt8.toNat_lt _)) (by decide)) ?_
   refine RK.V (op_eql rfl rfl) ?_
   refine RK.D ?_
   refine AWp_cond rfl (fun hb4 => ?_) (fun hb4 => ?_)
   ·have hb4_ := bT hb4
    have hq := bT hb4
    refine AWp_region hP ?_
    refine RK.F hT rfl rfl rfl rfl rfl rfl ?_
    refine RK.V (op_loadF hT rfl rfl rfl rfl rfl rfl rfl) ?_
    refine RK.M rfl ?_
    refine RK.V (op_add rfl rfl (by first | exact IntWalk.i64_in _ (by omega) | rfl)) ?_
    refine RK.V (op_bslice hT rfl rfl rfl (es := [_]) rfl rfl rfl) ?_
    refine RK.app guard_none (op_appendG (encD := enZ) hT enZ_len (by decide) rfl rfl rfl rfl rfl rfl rfl (b := (k : Int) + 1) rfl (Nat.le_trans (hyF_len _ _) (by omega)) (by decide) (by decide)) ?_
    refine RK.F hT rfl rfl rfl rfl rfl rfl ?_
    refine RK.sto guard_none (op_storeF hT rfl rfl rfl rfl rfl rfl rfl (flat_len enZ_len _).symm (Nat.zero_lt_succ 0) rfl rfl rfl rfl) ?_
    refine RK.D ?_
    refine AWp_rnF 3 43 1001 rfl rfl rfl rfl rfl rfl rfl ?_
    refine AWp_region hP ?_
    refine RK.M rfl ?_
    refine RK.V (op_add rfl rfl (by first | exact IntWalk.i64_in _ (by omega) | rfl)) ?_
    refine RK.As rfl ?_
    refine RK.D ?_
    refine ⟨k + 1, by omega, by omega, le_stL ⟨.refl _, .refl _, .refl _, Sub.int (by omega), trivial⟩ ⟨rfl, rfl, rfl, Eq.trans rfl (congrArg (fun l => some (VB 1 3 enZ l)) (hyF_y hq)), trivial⟩⟩
   ·have hb4_ := bF hb4
    have hq := bF hb4
    refine AWp_skip ?_
    refine AWp_region hP ?_
    refine RK.M rfl ?_
    refine RK.V (op_add rfl rfl (by first | exact IntWalk.i64_in _ (by omega) | rfl)) ?_
    refine RK.As rfl ?_
    refine RK.D ?_
    refine ⟨k + 1, by omega, by omega, le_stL ⟨.refl _, .refl _, .refl _, Sub.int (by omega), trivial⟩ ⟨rfl, rfl, rfl, Eq.trans rfl (congrArg (fun l => some (VB 1 3 enZ l)) (hyF_n hq)), trivial⟩⟩
  ·have hb3_ := of_decide_eq_false hb3
   have hk4 : k = 4 := by omega
   subst hk4
   refine AWp_exit ?_
   refine AWp_unF 3 1001 2 enZ_len rfl rfl rfl rfl rfl rfl rfl rfl ?_
   refine AWp_sr hP ?_
   refine RK.V (op_load_agg hT rfl rfl rfl rfl (cs := [_, _, _]) rfl rfl) ?_
   refine RK.S hT rfl rfl rfl rfl rfl rfl rfl ?_
   refine RK.D ?_
   refine AWp_ret ?_
   refine ends_one rfl (.inr rfl) (res_cell_agg hT rfl rfl rfl rfl (cs := [_, _, _]) rfl rfl) ?_ O_ends
   exact .refl _
/- algorist/algoristref30.Add -/
set_option maxHeartbeats 2000000 in
set_option maxRecDepth 100000 in
theorem p_rAdd (D : List Drv) (g : DV) (d : Drv) (hs : SrtD D) (hl : D.length ≤ 1000000) :
  Call0 Tryz.prog 29 [.p (.a [SL enD D, g]), .p (.a (enD d))] (.t [.a [addC0 D d, addC1 D g d], .c (.v (.int .i64 (addE (D, []) d)))]) := by
 refine callM_of (np := 0) Tryz.func29 (by kernel_rfl) rfl rfl (Nat.le_of_ble_eq_true rfl) (fun m h => absurd rfl h) (fun m h => absurd rfl h) rfl ?_
 refine AWp_sr hP ?_
 refine RK.alc guard_none (op_box rfl rfl) ?_
 refine RK.alc guard_none (op_box rfl rfl) ?_
 refine RK.alc guard_none (op_alloc hT rfl rfl) ?_
 refine RK.As rfl ?_
 refine RK.D ?_
 refine AWp_seq ?_
 refine AWp_sr hP ?_
 refine RK.V (op_load_agg hT rfl rfl rfl rfl (cs := enD d) rfl rfl) ?_
 refine RK.V (Eff.call0 (p_rright d)) ?_
 refine RK.V (op_unot rfl) ?_
 refine RK.D ?_
 refine AWp_cond rfl (fun hb1 => ?_) (fun hb1 => ?_)
 ·have hb1_ := (notT hb1)
  have hr : rightD d = false := notT hb1
  refine AWp_sr hP ?_
  refine RK.V (op_build_st hT rfl rfl rfl (es := [_, _]) rfl) ?_
  refine RK.S hT rfl rfl rfl rfl rfl rfl rfl ?_
  refine RK.As rfl ?_
  refine RK.D ?_
  refine AWp_ret ?_
  refine ends_two rfl (.inr rfl) (res_cell_agg hT rfl rfl rfl rfl (cs := [_, _]) rfl rfl) (res_tmp rfl) ?_ O_ends
  exact Sub.of_eq (by rw [addE_1 (b := (D, [])) hr]; exact congrArg (fun l => AV.t [.a l, _]) (addC_n (addE_1 (b := (D, [])) hr) (by decide)).symm)
 ·have hb1_ := (notF hb1)
  have hr : rightD d = true := notF hb1
  have hC := lessN_cut (d := d) hs
  refine AWp_skip ?_
  refine AWp_sr hP ?_
  refine RK.G2 hT rfl rfl rfl rfl rfl rfl ?_
  refine RK.V (op_load_agg hT rfl rfl rfl rfl (cs := enD d) rfl rfl) ?_
  refine RK.V (Eff.call0 (p_rfind D g d hs)) ?_
  refine RK.V (op_move (rfl : _ = AV.t _)) ?_
  refine RK.V (op_extract rfl (v := .c _) rfl) ?_
  refine RK.V (op_extract rfl (v := .c _) rfl) ?_
  refine RK.As rfl ?_
  refine RK.As rfl ?_
  refine RK.D ?_
  refine AWp_seq ?_
  refine AWp_sr hP ?_
  refine RK.M rfl ?_
  refine RK.D ?_
  refine AWp_cond rfl (fun hb2 => ?_) (fun hb2 => ?_)
  ·have hh : cutB (fun x => cmD x d) D (lessN D d) = true := hb2
   refine AWp_sr hP ?_
   refine RK.V (op_build_st hT rfl rfl rfl (es := [_, _]) rfl) ?_
   refine RK.S hT rfl rfl rfl rfl rfl rfl rfl ?_
   refine RK.As rfl ?_
   refine RK.D ?_
   refine AWp_ret ?_
   refine ends_two rfl (.inr rfl) (res_cell_agg hT rfl rfl rfl rfl (cs := [_, _]) rfl rfl) (res_tmp rfl) ?_ O_ends
   exact Sub.of_eq (by rw [addE_2 (b := (D, [])) hr hh]; exact congrArg (fun l => AV.t [.a l, _]) (addC_n (addE_2 (b := (D, [])) hr hh) (by decide)).symm)
  ·have hh : cutB (fun x => cmD x d) D (lessN D d) = false := hb2
   refine AWp_skip ?_
   refine AWp_seq ?_
   refine AWp_sr hP ?_
   refine RK.F hT rfl rfl rfl rfl rfl rfl ?_
   refine RK.V (op_load_one hT rfl rfl rfl rfl (by first | rfl | exact vget (by omega))) ?_
   refine RK.V (op_len hT rfl rfl rfl (by rfl)) ?_
   refine RK.V (op_eql rfl rfl) ?_
   refine RK.D ?_
   refine AWp_cond rfl (fun hb3 => ?_) (fun hb3 => ?_)
   ·have hb3_ := bT hb3
    have h60 : D.length = 60 := by have := bT hb3; omega
    refine AWp_sr hP ?_
    refine RK.V (op_build_st hT rfl rfl rfl (es := [_, _]) rfl) ?_
    refine RK.S hT rfl rfl rfl rfl rfl rfl rfl ?_
    refine RK.As rfl ?_
    refine RK.D ?_
    refine AWp_ret ?_
    refine ends_two rfl (.inr rfl) (res_cell_agg hT rfl rfl rfl rfl (cs := [_, _]) rfl rfl) (res_tmp rfl) ?_ O_ends
    exact Sub.of_eq (by rw [addE_3 (b := (D, [])) hr hh h60]; exact congrArg (fun l => AV.t [.a l, _]) (addC_n (addE_3 (b := (D, [])) hr hh h60) (by decide)).symm)
   ·have hb3_ := bF hb3
    have h60 : ¬ D.length = 60 := fun z => bF hb3 (by omega)
    refine AWp_skip ?_
    refine AWp_sr hP ?_
    refine RK.alc guard_none (op_bslice_vec hT rfl rfl rfl (es := []) rfl rfl rfl) ?_
    refine RK.F hT rfl rfl rfl rfl rfl rfl ?_
    refine RK.V (op_load_one hT rfl rfl rfl rfl (by first | rfl | exact vget (by omega))) ?_
    refine RK.M rfl ?_
    refine RK.V (op_slice_hG hT enD_len rfl rfl rfl rfl rfl rfl hC.le) ?_
    refine RK.app guard_none (op_appendL hT enD_len (by decide) (l := []) (l' := D.take (lessN D d)) rfl rfl rfl rfl rfl rfl rfl rfl (by rw [List.length_take, List.length_nil]; omega) (by decide) (by decide)) ?_
    refine RK.V (op_load_agg hT rfl rfl rfl rfl (cs := enD d) rfl rfl) ?_
    refine RK.V (op_bslice hT rfl rfl rfl (es := [_, _, _]) rfl rfl rfl) ?_
    refine RK.app guard_none (op_appendG (encD := enD) hT enD_len (by decide) rfl rfl rfl rfl rfl rfl rfl (b := d) rfl (by rw [List.nil_append, List.length_take]; omega) (by decide) (by decide)) ?_
    refine RK.V (op_assign (rfl : _ = AV.vec _)) ?_
    refine RK.D ?_
    refine AWp_sr hP ?_
    refine RK.V (op_move (rfl : _ = AV.vec _)) ?_
    refine RK.F hT rfl rfl rfl rfl rfl rfl ?_
    refine RK.V (op_load_one hT rfl rfl rfl rfl (by first | rfl | exact vget (by omega))) ?_
    refine RK.M rfl ?_
    refine RK.V (op_slice_lG hT enD_len rfl rfl rfl rfl rfl rfl hC.le) ?_
    refine RK.app guard_none (op_appendL hT enD_len (by decide) (l := [] ++ D.take (lessN D d) ++ [d]) (l' := D.drop (lessN D d)) rfl rfl rfl rfl rfl rfl rfl rfl (by simp only [List.length_append, List.length_take, List.length_drop, List.length_cons, List.length_nil]; omega) (by decide) (by decide)) ?_
    refine RK.F hT rfl rfl rfl rfl rfl rfl ?_
    refine RK.V (op_load_one hT rfl rfl rfl rfl (by first | rfl | exact vget (by omega))) ?_
    refine RK.mut guard_none (Eff.frzT enD_len rfl 40 40 rfl rfl (fun _ => op_build_st hT rfl rfl rfl (es := [_, _]) rfl)) ?_
    refine RK.S hT rfl rfl rfl rfl rfl rfl rfl ?_
    refine RK.As rfl ?_
    refine RK.D ?_
    refine AWp_ret ?_
    refine ends_two rfl (.inr rfl) (res_cell_agg hT rfl rfl rfl rfl (cs := [_, _]) rfl rfl) (res_tmp rfl) ?_ O_ends
    exact Sub.of_eq (by rw [addE_4 (b := (D, [])) hr hh h60]; exact congrArg (fun l => AV.t [.a l, _]) (addC_y (addE_4 (b := (D, [])) hr hh h60)).symm)
/- algorist/algoristref30.Made -/
set_option maxHeartbeats 2000000 in
set_option maxRecDepth 100000 in
theorem p_Made (R : List Raw) (g : UInt8) :
  Call0 Tryz.prog 10 [.p (.c (SL enR R)), Z 8, .p (.c (.v (.int .u8 (g.toNat : Int))))] (.p (.a (enBk (madeB R g)))) := by
 refine callM_of (np := 0) Tryz.func10 (by kernel_rfl) rfl rfl (Nat.le_of_ble_eq_true rfl) (fun m h => absurd rfl h) (fun m h => absurd rfl h) rfl ?_
 refine AWp_len (t := 0) rfl rfl (fun hlen => ?_)
 refine AWp_sr hP ?_
 refine RK.alc guard_none (op_alloc hT rfl rfl) ?_
 refine RK.D ?_
 refine AWp_sr hP ?_
 refine RK.V (op_build_st hTs rfl rfl rfl (es := [_, _]) rfl) ?_
 refine RK.alc guard_none (op_alloc hT rfl rfl) ?_
 refine RK.S hT rfl rfl rfl rfl rfl rfl rfl ?_
 refine RK.D ?_
 refine AWp_seq ?_
 refine AWp_sr hP ?_
 refine RK.As rfl ?_
 refine RK.D ?_
 refine AWp_block ?_
 refine AWp_loop (ι := Nat) (fun k => stL [(0, .p (.c (SL enR R))), (1, Z 8), (2, .p (.c (.v (.int .u8 (g.toNat : Int))))), (6, .loc 6 0), (7, .loc 7 0), (8, Z (k : Int))] [(6, ⟨false, 1, 27, [.sl 0 [], .sl 0 []]⟩), (7, ⟨false, 1, 27, [SL enD (mkD R k), .v (.slice none 0 0)]⟩)]) (fun k => k ≤ R.length ∧ k ≤ 8) (fun k => 8 - k) 0 ⟨Nat.zero_le _, Nat.zero_le _⟩ (le_stL ⟨.refl _, .refl _, .refl _, .refl _, .refl _, .refl _, trivial⟩ ⟨rfl, rfl, trivial⟩) ?_
 rintro k hk
 refine AWp_seq ?_
 refine AWp_sr hP ?_
 refine RK.M rfl ?_
 refine RK.M rfl ?_
 refine RK.V (op_len hT rfl rfl rfl (by rfl)) ?_
 refine RK.V (op_lss rfl rfl) ?_
 refine RK.M rfl ?_
 refine RK.split (t := 17) rfl (fun hg1 => ?_) (fun hg1 => ?_)
 ·have hg1_ := of_decide_eq_true hg1
  refine RK.val (guard_yes rfl rfl hg1) (op_move (rfl : _ = AV.p (.c _))) ?_
  refine RK.val (guard_yes rfl rfl hg1) (op_move (rfl : _ = AV.p (.c _))) ?_
  refine RK.val (guard_yes rfl rfl hg1) (op_lss rfl rfl) ?_
  refine RK.V (op_pick_t rfl hg1 (rfl : _ = AV.p (.c _))) ?_
  refine RK.D ?_
  refine AWp_cond rfl (fun hb2 => ?_) (fun hb2 => ?_)
  ·have hb2_ := of_decide_eq_true hb2
   refine AWp_skip ?_
   refine AWp_seq ?_
   refine AWp_block ?_
   refine AWp_sr hP ?_
   refine RK.G2 hT rfl rfl rfl rfl rfl rfl ?_
   refine RK.M rfl ?_
   refine RK.M rfl ?_
   refine RK.V (op_indexG hT enR_len (by decide) zR (n := (k : Int)) (l := R) rfl rfl rfl rfl rfl rfl (by omega)) ?_
   refine RK.V (op_load_ip_agg hT rfl rfl rfl (cs := enR (R.getD k zR)) rfl rfl) ?_
   refine RK.V (Eff.call0 (p_One (R.getD k zR))) ?_
   refine RK.V (Eff.call0 (p_rAdd (mkD R k) (.v (.slice none 0 0)) (oneD (R.getD k zR)) (mkD_srt R k) (Nat.le_trans (mkD_len R k) (by omega)))) ?_
   refine RK.V (op_move (rfl : _ = AV.t _)) ?_
   refine RK.V (op_extract rfl (v := .a _) rfl) ?_
   refine RK.V (op_extract rfl (v := .c _) rfl) ?_
   refine RK.alc guard_none (op_alloc hT rfl rfl) ?_
   refine RK.S hT rfl rfl rfl rfl rfl rfl rfl ?_
   refine RK.As rfl ?_
   refine RK.D ?_
   refine AWp_sr hP ?_
   refine RK.M rfl ?_
   refine RK.V (op_eql rfl rfl) ?_
   refine RK.D ?_
   refine AWp_cond rfl (fun hb3 => ?_) (fun hb3 => ?_)
   ·have hb3_ := bT hb3
    have he := bT hb3
    refine AWp_region hP ?_
    refine RK.G2 hT rfl rfl rfl rfl rfl rfl ?_
    refine RK.S hT rfl rfl rfl rfl rfl rfl rfl ?_
    refine RK.D ?_
    refine AWp_region hP ?_
    refine RK.M rfl ?_
    refine RK.V (op_add rfl rfl (by first | exact IntWalk.i64_in _ (by omega) | rfl)) ?_
    refine RK.As rfl ?_
    refine RK.D ?_
    refine ⟨k + 1, ⟨by omega, by omega⟩, by omega, le_stL ⟨.refl _, .refl _, .refl _, .refl _, .refl _, Sub.int (by omega), trivial⟩ ⟨rfl, Eq.trans (congrArg (fun v => some (⟨false, 1, 27, [addC0 (mkD R k) (oneD (R.getD k zR)), v]⟩ : Blk)) (if_pos he)) (congrArg (fun l => some (⟨false, 1, 27, [SL enD l, .v (.slice none 0 0)]⟩ : Blk)) (mkD_y he)), trivial⟩⟩
   ·have hb3_ := bF hb3
    have he := bF hb3
    refine AWp_skip ?_
    refine AWp_region hP ?_
    refine RK.M rfl ?_
    refine RK.V (op_add rfl rfl (by first | exact IntWalk.i64_in _ (by omega) | rfl)) ?_
    refine RK.As rfl ?_
    refine RK.D ?_
    refine ⟨k + 1, ⟨by omega, by omega⟩, by omega, le_stL ⟨.refl _, .refl _, .refl _, .refl _, .refl _, Sub.int (by omega), trivial⟩ ⟨rfl, Eq.trans rfl (congrArg (fun l => some (⟨false, 1, 27, [SL enD l, .v (.slice none 0 0)]⟩ : Blk)) (mkD_n he)), trivial⟩⟩
  ·have hb2_ := of_decide_eq_false hb2
   have hke := made_end hk (by omega)
   subst hke
   refine AWp_exit ?_
   refine AWp_seq ?_
   refine AWp_sr hP ?_
   refine RK.As rfl ?_
   refine RK.D ?_
   refine AWp_block ?_
   refine AWp_lkF 7 1000 1 1 3 rfl rfl rfl rfl rfl rfl rfl rfl ?_
   refine AWp_loop (ι := Nat) (fun k => stL [(2, .p (.c (.v (.int .u8 (g.toNat : Int))))), (6, .loc 6 0), (7, .loc 7 0), (11, Z (k : Int))] [(6, ⟨false, 1, 27, [.sl 0 [], .sl 0 []]⟩), (7, ⟨false, 1002, 27, [SL enD (mkD R (min R.length 8)), .any]⟩), (1000, VB 1 3 enZ (hyF g.toNat k))]) (fun k => k ≤ 8) (fun k => 8 - k) 0 (Nat.zero_le _) (le_stL ⟨.refl _, .refl _, .refl _, .refl _, trivial⟩ ⟨rfl, rfl, rfl, trivial⟩) ?_
   rintro k hk
   refine AWp_seq ?_
   refine AWp_sr hP ?_
   refine RK.M rfl ?_
   refine RK.V (op_lss rfl rfl) ?_
   refine RK.D ?_
   refine AWp_cond rfl (fun hb4 => ?_) (fun hb4 => ?_)
   ·have hb4_ := of_decide_eq_true hb4
    refine AWp_skip ?_
    refine AWp_seq ?_
    refine AWp_block ?_
    refine AWp_sr hP ?_
    refine RK.M rfl ?_
    refine RK.M rfl ?_
    refine RK.V (op_conv hT rfl rfl rfl rfl (by first | exact IntWalk.u64_in _ (by omega) | rfl)) ?_
    refine RK.V (op_shrN (m := g.toNat) (j := k) rfl rfl (show _ ≤ 8 by omega)) ?_
    refine RK.V (op_andN (m := (g.toNat / 2 ^ k)) (n := 1) rfl rfl rfl (Nat.lt_of_le_of_lt (Nat.div_le_self _ _) (UInt8.toNat_lt _)) (by decide)) ?_
    refine RK.V (op_eql rfl rfl) ?_
    refine RK.D ?_
    refine AWp_cond rfl (fun hb5 => ?_) (fun hb5 => ?_)
    ·have hb5_ := bT hb5
     have hq := bT hb5
     refine AWp_region hP ?_
     refine RK.F hT rfl rfl rfl rfl rfl rfl ?_
     refine RK.V (op_loadF hT rfl rfl rfl rfl rfl rfl rfl) ?_
     refine RK.M rfl ?_
     refine RK.V (op_add rfl rfl (by first | exact IntWalk.i64_in _ (by omega) | rfl)) ?_
     refine RK.V (op_bslice hT rfl rfl rfl (es := [_]) rfl rfl rfl) ?_
     refine RK.app guard_none (op_appendG (encD := enZ) hT enZ_len (by decide) rfl rfl rfl rfl rfl rfl rfl (b := (k : Int) + 1) rfl (Nat.le_trans (hyF_len _ _) (by omega)) (by decide) (by decide)) ?_
     refine RK.F hT rfl rfl rfl rfl rfl rfl ?_
     refine RK.sto guard_none (op_storeF hT rfl rfl rfl rfl rfl rfl rfl (flat_len enZ_len _).symm (Nat.zero_lt_succ 0) rfl rfl rfl rfl) ?_
     refine RK.D ?_
     refine AWp_rnF 7 52 1000 rfl rfl rfl rfl rfl rfl rfl ?_
     refine AWp_region hP ?_
     refine RK.M rfl ?_
     refine RK.V (op_add rfl rfl (by first | exact IntWalk.i64_in _ (by omega) | rfl)) ?_
     refine RK.As rfl ?_
     refine RK.D ?_
     refine ⟨k + 1, by omega, by omega, le_stL ⟨.refl _, .refl _, .refl _, Sub.int (by omega), trivial⟩ ⟨rfl, rfl, Eq.trans rfl (congrArg (fun l => some (VB 1 3 enZ l)) (hyF_y hq)), trivial⟩⟩
    ·have hb5_ := bF hb5
     have hq := bF hb5
     refine AWp_skip ?_
     refine AWp_region hP ?_
     refine RK.M rfl ?_
     refine RK.V (op_add rfl rfl (by first | exact IntWalk.i64_in _ (by omega) | rfl)) ?_
     refine RK.As rfl ?_
     refine RK.D ?_
     refine ⟨k + 1, by omega, by omega, le_stL ⟨.refl _, .refl _, .refl _, Sub.int (by omega), trivial⟩ ⟨rfl, rfl, Eq.trans rfl (congrArg (fun l => some (VB 1 3 enZ l)) (hyF_n hq)), trivial⟩⟩
   ·have hb4_ := of_decide_eq_false hb4
    have hk8 : k = 8 := by omega
    subst hk8
    refine AWp_exit ?_
    refine AWp_unF 7 1000 1 enZ_len rfl rfl rfl rfl rfl rfl rfl rfl ?_
    refine AWp_sr hP ?_
    refine RK.G2 hT rfl rfl rfl rfl rfl rfl ?_
    refine RK.S hT rfl rfl rfl rfl rfl rfl rfl ?_
    refine RK.D ?_
    refine AWp_ret ?_
    refine ends_one rfl (.inr rfl) (res_cell_agg hT rfl rfl rfl rfl (cs := [_, _]) rfl rfl) ?_ O_ends
    exact .refl _
 ·have hg1_ := of_decide_eq_false hg1
  have hke := made_end hk (by omega)
  subst hke
  refine RK.skip (guard_no rfl rfl hg1) ?_
  refine RK.skip (guard_no rfl rfl hg1) ?_
  refine RK.skip (guard_no rfl rfl hg1) ?_
  refine RK.V (op_pick_f rfl hg1 (rfl : _ = AV.p (.c _))) ?_
  refine RK.D ?_
  refine AWp_cond_false rfl rfl ?_
  refine AWp_exit ?_
  refine AWp_seq ?_
  refine AWp_sr hP ?_
  refine RK.As rfl ?_
  refine RK.D ?_
  refine AWp_block ?_
  refine AWp_lkF 7 1000 1 1 3 rfl rfl rfl rfl rfl rfl rfl rfl ?_
  refine AWp_loop (ι := Nat) (fun k => stL [(2, .p (.c (.v (.int .u8 (g.toNat : Int))))), (6, .loc 6 0), (7, .loc 7 0), (11, Z (k : Int))] [(6, ⟨false, 1, 27, [.sl 0 [], .sl 0 []]⟩), (7, ⟨false, 1002, 27, [SL enD (mkD R (min R.length 8)), .any]⟩), (1000, VB 1 3 enZ (hyF g.toNat k))]) (fun k => k ≤ 8) (fun k => 8 - k) 0 (Nat.zero_le _) (le_stL ⟨.refl _, .refl _, .refl _, .refl _, trivial⟩ ⟨rfl, rfl, rfl, trivial⟩) ?_
  rintro k hk
  refine AWp_seq ?_
  refine AWp_sr hP ?_
  refine RK.M rfl ?_
  refine RK.V (op_lss rfl rfl) ?_
  refine RK.D ?_
  refine AWp_cond rfl (fun hb6 => ?_) (fun hb6 => ?_)
  ·have hb6_ := of_decide_eq_true hb6
   refine AWp_skip ?_
   refine AWp_seq ?_
   refine AWp_block ?_
   refine AWp_sr hP ?_
   refine RK.M rfl ?_
   refine RK.M rfl ?_
   refine RK.V (op_conv hT rfl rfl rfl rfl (by first | exact IntWalk.u64_in _ (by omega) | rfl)) ?_
   refine RK.V (op_shrN (m := g.toNat) (j := k) rfl rfl (show _ ≤ 8 by omega)) ?_
   refine RK.V (op_andN (m := (g.toNat / 2 ^ k)) (n := 1) rfl rfl rfl (Nat.lt_of_le_of_lt (Nat.div_le_self _ _) (UInt8.toNat_lt _)) (by decide)) ?_
   refine RK.V (op_eql rfl rfl) ?_
   refine RK.D ?_
   refine AWp_cond rfl (fun hb7 => ?_) (fun hb7 => ?_)
   ·have hb7_ := bT hb7
    have hq := bT hb7
    refine AWp_region hP ?_
    refine RK.F hT rfl rfl rfl rfl rfl rfl ?_
    refine RK.V (op_loadF hT rfl rfl rfl rfl rfl rfl rfl) ?_
    refine RK.M rfl ?_
    refine RK.V (op_add rfl rfl (by first | exact IntWalk.i64_in _ (by omega) | rfl)) ?_
    refine RK.V (op_bslice hT rfl rfl rfl (es := [_]) rfl rfl rfl) ?_
    refine RK.app guard_none (op_appendG (encD := enZ) hT enZ_len (by decide) rfl rfl rfl rfl rfl rfl rfl (b := (k : Int) + 1) rfl (Nat.le_trans (hyF_len _ _) (by omega)) (by decide) (by decide)) ?_
    refine RK.F hT rfl rfl rfl rfl rfl rfl ?_
    refine RK.sto guard_none (op_storeF hT rfl rfl rfl rfl rfl rfl rfl (flat_len enZ_len _).symm (Nat.zero_lt_succ 0) rfl rfl rfl rfl) ?_
    refine RK.D ?_
    refine AWp_rnF 7 52 1000 rfl rfl rfl rfl rfl rfl rfl ?_
    refine AWp_region hP ?_
    refine RK.M rfl ?_
    refine RK.V (op_add rfl rfl (by first | exact IntWalk.i64_in _ (by omega) | rfl)) ?_
    refine RK.As rfl ?_
    refine RK.D ?_
    refine ⟨k + 1, by omega, by omega, le_stL ⟨.refl _, .refl _, .refl _, Sub.int (by omega), trivial⟩ ⟨rfl, rfl, Eq.trans rfl (congrArg (fun l => some (VB 1 3 enZ l)) (hyF_y hq)), trivial⟩⟩
   ·have hb7_ := bF hb7
    have hq := bF hb7
    refine AWp_skip ?_
    refine AWp_region hP ?_
    refine RK.M rfl ?_
    refine RK.V (op_add rfl rfl (by first | exact IntWalk.i64_in _ (by omega) | rfl)) ?_
    refine RK.As rfl ?_
    refine RK.D ?_
    refine ⟨k + 1, by omega, by omega, le_stL ⟨.refl _, .refl _, .refl _, Sub.int (by omega), trivial⟩ ⟨rfl, rfl, Eq.trans rfl (congrArg (fun l => some (VB 1 3 enZ l)) (hyF_n hq)), trivial⟩⟩
  ·have hb6_ := of_decide_eq_false hb6
   have hk8 : k = 8 := by omega
   subst hk8
   refine AWp_exit ?_
   refine AWp_unF 7 1000 1 enZ_len rfl rfl rfl rfl rfl rfl rfl rfl ?_
   refine AWp_sr hP ?_
   refine RK.G2 hT rfl rfl rfl rfl rfl rfl ?_
   refine RK.S hT rfl rfl rfl rfl rfl rfl rfl ?_
   refine RK.D ?_
   refine AWp_ret ?_
   refine ends_one rfl (.inr rfl) (res_cell_agg hT rfl rfl rfl rfl (cs := [_, _]) rfl rfl) ?_ O_ends
   exact .refl _
end Go.Proofs.YtmoaoiakmmbpoaaGreatDoor
end

section
/- chapter 30: reasons, Holds -/
namespace Go.Proofs.YtmoaoiakmmbpoaaGreatDoor
open Go Go.AM
/- slices.IndexFunc[[]string,string] -/
set_option maxHeartbeats 1000000 in
set_option maxRecDepth 100000 in
theorem p_IdxL {gf : FuncId} (dv : DV) (pd : Str → Bool) (l : List Str) (hc : ∀ x ∈ l, CallM Tryz.prog gf [AS x, .loc 0 0] (upd O 0 (some ⟨false, 1, 62, [dv]⟩)) (B (pd x)) (upd O 0 (some ⟨false, 1, 62, [dv]⟩))) :
  CallM Tryz.prog 102 [.p (.c (SL enS l)), .fnl gf 0] (upd O 0 (some ⟨false, 1, 62, [dv]⟩)) (Z (fiX pd l)) (upd O 0 (some ⟨false, 1, 62, [dv]⟩)) := by
 refine callM_of (np := 1) Tryz.func102 (by kernel_rfl) rfl rfl (Nat.le_of_ble_eq_true rfl) upd1_lt upd1_dom rfl ?_
 refine AWp_len (t := 0) rfl rfl (fun hlen => ?_)
 refine AWp_sr hP ?_
 refine RK.As rfl ?_
 refine RK.D ?_
 refine AWp_seq ?_
 refine AWp_sr hP ?_
 refine RK.M rfl ?_
 refine RK.V (op_len hT rfl rfl rfl (by rfl)) ?_
 refine RK.M rfl ?_
 refine RK.D ?_
 refine AWp_block ?_
 refine AWp_loop (ι := Nat) (fun k => stL [(0, .p (.c (SL enS l))), (1, .fnl gf 0), (6, .p (.c (SL enS l))), (7, Z (l.length : Int)), (8, Z (k : Int))] [(0, ⟨false, 1, 62, [dv]⟩)]) (fun k => k ≤ l.length ∧ k ≤ l.findIdx pd) (fun k => l.length - k) 0 ⟨Nat.zero_le _, Nat.zero_le _⟩ (le_stL ⟨.refl _, .refl _, .refl _, .refl _, .refl _, trivial⟩ ⟨rfl, trivial⟩) ?_
 rintro k ⟨hk, hI⟩
 refine AWp_sr hP ?_
 refine RK.V (op_lss rfl rfl) ?_
 refine RK.D ?_
 refine AWp_seq ?_
 refine AWp_cond rfl (fun hb1 => ?_) (fun hb1 => ?_)
 ·have hb1_ := of_decide_eq_true hb1
  refine AWp_skip ?_
  refine AWp_seq ?_
  refine AWp_block ?_
  refine AWp_sr hP ?_
  refine RK.M rfl ?_
  refine RK.As rfl ?_
  refine RK.D ?_
  refine AWp_sr hP ?_
  refine RK.V (op_move (rfl : _ = AV.fnl _ _)) ?_
  refine RK.M rfl ?_
  refine RK.M rfl ?_
  refine RK.V (op_indexG hT enS_len (by decide) [] (n := (k : Int)) (l := l) rfl rfl rfl rfl rfl rfl (by omega)) ?_
  refine RK.V (op_load_ip_one hT rfl rfl rfl rfl) ?_
  refine RK.mut guard_none (Eff.callFnL rfl rfl rfl (hc _ (getD_mem' [] (by omega))) rfl) ?_
  refine RK.D ?_
  refine AWp_cond rfl (fun hb2 => ?_) (fun hb2 => ?_)
  ·refine AWp_sr hP ?_
   refine RK.M rfl ?_
   refine RK.As rfl ?_
   refine RK.D ?_
   refine AWp_ret ?_
   refine ends_one rfl (.inr rfl) (res_tmp rfl) ?_ (own_end1 rfl)
   exact Sub.int (fiX_yes (d := []) hI (by omega) hb2).symm
  ·refine AWp_skip ?_
   refine AWp_region hP ?_
   refine RK.V (op_add rfl rfl (by first | exact IntWalk.i64_in _ (by omega) | rfl)) ?_
   refine RK.M rfl ?_
   refine RK.D ?_
   refine ⟨k + 1, ⟨by omega, fiX_no (d := []) hI (by omega) hb2⟩, by omega, le_stL ⟨.refl _, .refl _, .refl _, .refl _, Sub.int (by omega), trivial⟩ ⟨rfl, trivial⟩⟩
 ·have hb1_ := of_decide_eq_false hb1
  refine AWp_exit ?_
  refine AWp_sr hP ?_
  refine RK.As rfl ?_
  refine RK.D ?_
  refine AWp_ret ?_
  refine ends_one rfl (.inr rfl) (res_tmp rfl) ?_ (own_end1 rfl)
  exact Sub.int (fiX_end hI (by omega)).symm
/- slices.ContainsFunc[[]string,string] -/
set_option maxHeartbeats 1000000 in
set_option maxRecDepth 100000 in
theorem p_HasL0 {gf : FuncId} (dv : DV) (pd : Str → Bool) (l : List Str) (hc : ∀ x ∈ l, CallM Tryz.prog gf [AS x, .loc 0 0] (upd O 0 (some ⟨false, 1, 62, [dv]⟩)) (B (pd x)) (upd O 0 (some ⟨false, 1, 62, [dv]⟩))) :
  CallM Tryz.prog 70 [.p (.c (SL enS l)), .fnl gf 0] (upd O 0 (some ⟨false, 1, 62, [dv]⟩)) (B (l.any pd)) (upd O 0 (some ⟨false, 1, 62, [dv]⟩)) := by
 refine callM_of (np := 1) Tryz.func70 (by kernel_rfl) rfl rfl (Nat.le_of_ble_eq_true rfl) upd1_lt upd1_dom rfl ?_
 refine AWp_sr hP ?_
 refine RK.As rfl ?_
 refine RK.D ?_
 refine AWp_sr hP ?_
 refine RK.M rfl ?_
 refine RK.V (op_move (rfl : _ = AV.fnl _ _)) ?_
 refine RK.mutL guard_none (Eff.call (o := upd O 0 (some ⟨false, 1, 62, [dv]⟩)) (o' := upd O 0 (some ⟨false, 1, 62, [dv]⟩)) (rd := [0]) (p_IdxL dv pd l hc) (mem1 rfl) updO_mem rfl) ?_
 refine RK.V (op_geq rfl rfl) ?_
 refine RK.As rfl ?_
 refine RK.D ?_
 refine AWp_ret ?_
 refine ends_one rfl (.inr rfl) (res_tmp rfl) ?_ (own_end1 rfl)
 exact Sub.bool (fiX_any pd l)
theorem p_HasL (m : Nat) {gf : FuncId} (dv : DV) (pd : Str → Bool) (l : List Str) (hc : ∀ x ∈ l, CallM Tryz.prog gf [AS x, .loc 0 0] (upd O 0 (some ⟨false, 1, 62, [dv]⟩)) (B (pd x)) (upd O 0 (some ⟨false, 1, 62, [dv]⟩))) :
  CallM Tryz.prog 70 [.p (.c (SL enS l)), .fnl gf m] (upd O m (some ⟨false, 1, 62, [dv]⟩)) (B (l.any pd)) (upd O m (some ⟨false, 1, 62, [dv]⟩)) := CallM.ren1 m (p_HasL0 dv pd l hc) rfl rfl
/- algorist/hypothesis.reasons$1 -/
set_option maxHeartbeats 1000000 in
set_option maxRecDepth 100000 in
theorem p_reasons1 (f : Fnd) (s : Str) :
  CallM Tryz.prog 68 [AS s, .loc 0 0] (upd O 0 (some (bxM 62 f))) (B (!decide (s ∈ cls f))) (upd O 0 (some (bxM 62 f))) := by
 refine callM_of (np := 1) Tryz.func68 (by kernel_rfl) rfl rfl (Nat.le_of_ble_eq_true rfl) upd1_lt upd1_dom rfl ?_
 refine AWp_sr hP ?_
 refine RK.As rfl ?_
 refine RK.D ?_
 refine AWp_sr hP ?_
 refine RK.V (op_load_one hT rfl rfl rfl rfl (by first | rfl | exact vget (by omega))) ?_
 refine RK.M rfl ?_
 refine RK.V (op_look (a := some 3) (i := ty62) (j := ty9) (kv := kS) (M := MF f) (k := s) (zs := enD zD) (zv := .agg #[.string ⟨#[]⟩, .slice none 0 0, .slice none 0 0]) hT rfl rfl rfl rfl keyS (by kernel_rfl) rfl zD_rep rfl (.inr rfl) (ew_MF _) rfl (MF_look2 _ _)) ?_
 refine RK.V (op_move (rfl : _ = AV.t _)) ?_
 refine RK.V (op_extract rfl (v := .a _) rfl) ?_
 refine RK.V (op_extract rfl (v := .c _) rfl) ?_
 refine RK.alc guard_none (op_alloc hT rfl rfl) ?_
 refine RK.S hT rfl rfl rfl rfl rfl rfl rfl ?_
 refine RK.As rfl ?_
 refine RK.D ?_
 refine AWp_sr hP ?_
 refine RK.M rfl ?_
 refine RK.V (op_unot rfl) ?_
 refine RK.As rfl ?_
 refine RK.D ?_
 refine AWp_ret ?_
 refine ends_one rfl (.inr rfl) (res_tmp rfl) ?_ (own_end1 rfl)
 exact .refl _
/- maps.Clone[map[string]algorist/api.Derivation,string,algorist/api.Derivation] -/
set_option maxHeartbeats 1000000 in
set_option maxRecDepth 100000 in
theorem p_CloneM (f : Fnd) :
  CallV Tryz.prog 67 [.p (.c (MP (some 3) (enE kS (MF f))))] (MB (some 3) (enE kS (MF f))) := by
 refine callV_of Tryz.func67 (by kernel_rfl) rfl rfl (Nat.le_of_ble_eq_true rfl) ?_
 refine AWp_sr hP ?_
 refine RK.As rfl ?_
 refine RK.D ?_
 refine AWp_seq ?_
 refine AWp_sr hP ?_
 refine RK.M rfl ?_
 refine RK.V (op_eql_mapnil hT rfl rfl rfl (ew_MF _) rfl) ?_
 refine RK.D ?_
 refine AWp_cond_false rfl rfl ?_
 refine AWp_skip ?_
 refine AWp_seq ?_
 refine AWp_clone hT Tryz.func101 (by kernel_rfl) (by kernel_rfl) (by kernel_rfl) (by kernel_rfl) rfl rfl rfl (ew_MF _) rfl rfl ?_
 refine AWp_ret ?_
 refine ⟨.inr rfl, _, _, rfl, rfl, ?_⟩
 exact rfl
/- algorist/hypothesis.reasons -/
set_option maxHeartbeats 4000000 in
set_option maxRecDepth 100000 in
theorem p_reasons (b : Book) (ho : hok b.2) (hD : hokD b.1) :
  Call0 Tryz.prog 37 [.p (.a (enBk b))] (.p (.c (MD (rFin b)))) := by
 refine callM_of (np := 0) Tryz.func37 (by kernel_rfl) rfl rfl (Nat.le_of_ble_eq_true rfl) (fun m h => absurd rfl h) (fun m h => absurd rfl h) rfl ?_
 refine AWp_lenA 0 0 (n := b.1.length) rfl rfl (fun hlen => ?_)
 refine AWp_sr hP ?_
 refine RK.alc guard_none (op_box rfl rfl) ?_
 refine RK.As rfl ?_
 refine RK.D ?_
 refine AWp_sr hP ?_
 refine RK.V (op_makeMapF (a := some 3)) ?_
 refine RK.alc guard_none (op_alloc hT rfl rfl) ?_
 refine RK.S hT rfl rfl rfl rfl rfl rfl rfl ?_
 refine RK.D ?_
 refine AWp_sr hP ?_
 refine RK.F hT rfl rfl rfl rfl rfl rfl ?_
 refine RK.V (op_load_one hT rfl rfl rfl rfl (by first | rfl | exact vget (by omega))) ?_
 refine RK.V (Eff.call0 (p_bitsOf b.2 ho)) ?_
 refine RK.As rfl ?_
 refine RK.D ?_
 refine AWp_block ?_
 refine AWp_loop (ι := Nat) (fun k => stL [(1, .loc 1 0), (3, .loc 3 0), (4, U (bm b.2))] [(1, ⟨false, 1, 27, enBk b⟩), (3, bxM 62 (rGo b k))]) (fun _ => True) (fun k => b.1.length - (rGo b k).length) 0 trivial (le_stL ⟨.refl _, .refl _, .refl _, trivial⟩ ⟨rfl, rfl, trivial⟩) ?_
 intro k _
 refine AWp_block ?_
 refine AWp_sr hP ?_
 refine RK.V (op_load_one hT rfl rfl rfl rfl (by first | rfl | exact vget (by omega))) ?_
 refine RK.alc guard_none (Eff.callV (p_CloneM _)) ?_
 refine RK.V (op_assign (rfl : _ = AV.vec _)) ?_
 refine RK.D ?_
 refine AWp_seq ?_
 refine AWp_sr hP ?_
 refine RK.F hT rfl rfl rfl rfl rfl rfl ?_
 refine RK.V (op_load_one hT rfl rfl rfl rfl (by first | rfl | exact vget (by omega))) ?_
 refine RK.V (op_len hT rfl rfl rfl (by rfl)) ?_
 refine RK.M rfl ?_
 refine RK.D ?_
 refine AWp_block ?_
 refine AWp_loop (ι := Nat) (fun j => stL [(1, .loc 1 0), (3, .loc 3 0), (4, U (bm b.2)), (5, .vec 16), (18, .p (.c (SL enD b.1))), (19, Z (b.1.length : Int)), (20, Z (j : Int))] [(1, ⟨false, 1, 27, enBk b⟩), (3, bxM 62 (rGo b k)), (16, MBF (rSt b k j))]) (fun j => j ≤ b.1.length) (fun j => b.1.length - j) 0 (Nat.zero_le _) (le_stL ⟨.refl _, .refl _, .refl _, .refl _, .refl _, .refl _, .refl _, trivial⟩ ⟨rfl, rfl, Eq.trans rfl (congrArg (fun f => some (MBF f)) ((rSt_0 b k).symm)), trivial⟩) ?_
 intro j hj
 refine AWp_sr hP ?_
 refine RK.V (op_lss rfl rfl) ?_
 refine RK.D ?_
 refine AWp_seq ?_
 refine AWp_cond rfl (fun hb1 => ?_) (fun hb1 => ?_)
 ·have hb1_ := of_decide_eq_true hb1
  have hjl : j < b.1.length := by omega
  refine AWp_skip ?_
  refine AWp_seq ?_
  refine AWp_block ?_
  refine AWp_sr hP ?_
  refine RK.V (op_indexG hT enD_len (by decide) zD (n := (j : Int)) (l := b.1) rfl rfl rfl rfl rfl rfl (by omega)) ?_
  refine RK.V (op_load_ip_agg hT rfl rfl rfl (cs := enD (b.1.getD j zD)) rfl rfl) ?_
  refine RK.alc guard_none (op_alloc hT rfl rfl) ?_
  refine RK.S hT rfl rfl rfl rfl rfl rfl rfl ?_
  refine RK.D ?_
  refine AWp_sr hP ?_
  refine RK.V (op_move (rfl : _ = AV.vec _)) ?_
  refine RK.F hT rfl rfl rfl rfl rfl rfl ?_
  refine RK.V (op_load_one hT rfl rfl rfl rfl (by first | rfl | exact vget (by omega))) ?_
  refine RK.V (op_look_own (a := some 3) (i := ty62) (j := ty9) (kv := kS) (M := MF (rSt b k j)) (k := (b.1.getD j zD).1) (zs := enD zD) (zv := .agg #[.string ⟨#[]⟩, .slice none 0 0, .slice none 0 0]) hT rfl rfl rfl rfl keyS (by kernel_rfl) rfl zD_rep rfl rfl (ew_MF _) rfl (MF_look2 _ _)) ?_
  refine RK.V (op_move (rfl : _ = AV.t _)) ?_
  refine RK.V (op_extract rfl (v := .a _) rfl) ?_
  refine RK.V (op_extract rfl (v := .c _) rfl) ?_
  refine RK.alc guard_none (op_alloc hT rfl rfl) ?_
  refine RK.S hT rfl rfl rfl rfl rfl rfl rfl ?_
  refine RK.As rfl ?_
  refine RK.D ?_
  refine AWp_sr hP ?_
  refine RK.V (op_makeFuncL rfl) ?_
  refine RK.V (op_assign (rfl : _ = AV.fnl _ _)) ?_
  refine RK.D ?_
  refine AWp_sr hP ?_
  refine RK.M rfl ?_
  refine RK.V (op_unot rfl) ?_
  refine RK.M rfl ?_
  refine RK.split (t := 34) rfl (fun hg2 => ?_) (fun hg2 => ?_)
  ·have hg2_ := (notT hg2)
   have hnc : (b.1.getD j zD).1 ∉ cls (rSt b k j) := of_decide_eq_false (notT hg2)
   refine RK.val (guard_yes rfl rfl hg2) (op_field_loc hT rfl rfl rfl rfl rfl rfl) ?_
   refine RK.val (guard_yes rfl rfl hg2) (op_load_one hT rfl rfl rfl rfl (by first | rfl | exact vget (by omega))) ?_
   refine RK.val (guard_yes rfl rfl hg2) (Eff.call0 (p_bitsOf _ (hokD_get hD hjl))) ?_
   refine RK.val (guard_yes rfl rfl hg2) (op_move (rfl : _ = AV.p (.c _))) ?_
   refine RK.val (guard_yes rfl rfl hg2) (Eff.call0 (p_in _ _ (lt17 (bm_lt (hokD_get hD hjl))))) ?_
   refine RK.V (op_pick_t rfl hg2 (rfl : _ = AV.p (.c _))) ?_
   refine RK.M rfl ?_
   refine RK.split (t := 41) rfl (fun hg3 => ?_) (fun hg3 => ?_)
   ·have h2 := okM_d hg3
    refine RK.val (guard_yes rfl rfl hg3) (op_field_loc hT rfl rfl rfl rfl rfl rfl) ?_
    refine RK.val (guard_yes rfl rfl hg3) (op_load_one hT rfl rfl rfl rfl (by first | rfl | exact vget (by omega))) ?_
    refine RK.val (guard_yes rfl rfl hg3) (op_move (rfl : _ = AV.fnl _ _)) ?_
    refine RK.mutL (guard_yes rfl rfl hg3) (Eff.call (o := upd O 3 (some (bxM 62 (rGo b k)))) (o' := upd O 3 (some (bxM 62 (rGo b k)))) (rd := [3]) (p_HasL 3 (MD (rGo b k)) (fun s => !decide (s ∈ cls (rGo b k))) (b.1.getD j zD).2.1 (fun s _ => p_reasons1 (rGo b k) s)) (mem1 rfl) updO_mem rfl) ?_
    refine RK.val (guard_yes rfl rfl hg3) (op_unot rfl) ?_
    refine RK.V (op_pick_t rfl hg3 (rfl : _ = AV.p (.c _))) ?_
    refine RK.D ?_
    refine AWp_cond rfl (fun hb4 => ?_) (fun hb4 => ?_)
    ·have hb4_ := (notT hb4)
     have h3 := not_any.symm.trans hb4
     refine AWp_region hP ?_
     refine RK.V (op_move (rfl : _ = AV.vec _)) ?_
     refine RK.F hT rfl rfl rfl rfl rfl rfl ?_
     refine RK.V (op_load_one hT rfl rfl rfl rfl (by first | rfl | exact vget (by omega))) ?_
     refine RK.V (op_load_agg hT rfl rfl rfl rfl (cs := enD (b.1.getD j zD)) rfl rfl) ?_
     refine RK.sto guard_none (op_mapUpdate (kv := kS) (k := (b.1.getD j zD).1) (v := .a (enD (b.1.getD j zD))) hT rfl rfl rfl rfl keyS rfl rfl (ew_MF _) rfl rfl rfl (MF_put (r := k + 1) hnc)) ?_
     refine RK.D ?_
     refine AWp_region hP ?_
     refine RK.V (op_add rfl rfl (by first | exact IntWalk.i64_in _ (by omega) | rfl)) ?_
     refine RK.M rfl ?_
     refine RK.D ?_
     refine ⟨j + 1, by omega, by omega, le_stL ⟨.refl _, .refl _, .refl _, .refl _, .refl _, .refl _, Sub.int (by omega), trivial⟩ ⟨rfl, rfl, Eq.trans rfl (congrArg (fun f => some (MBF f)) ((rSt_y hjl hnc h2 h3).symm)), trivial⟩⟩
    ·have hb4_ := (notF hb4)
     have hno := rSt_n3 hjl (not_any.symm.trans hb4)
     refine AWp_skip ?_
     refine AWp_region hP ?_
     refine RK.V (op_add rfl rfl (by first | exact IntWalk.i64_in _ (by omega) | rfl)) ?_
     refine RK.M rfl ?_
     refine RK.D ?_
     refine ⟨j + 1, by omega, by omega, le_stL ⟨.refl _, .refl _, .refl _, .refl _, .refl _, .refl _, Sub.int (by omega), trivial⟩ ⟨rfl, rfl, Eq.trans rfl (congrArg (fun f => some (MBF f)) (hno.symm)), trivial⟩⟩
   ·have hno := rSt_n2 (k := k) hjl (okM_n hg3)
    refine RK.skip (guard_no rfl rfl hg3) ?_
    refine RK.skip (guard_no rfl rfl hg3) ?_
    refine RK.skip (guard_no rfl rfl hg3) ?_
    refine RK.skip (guard_no rfl rfl hg3) ?_
    refine RK.skip (guard_no rfl rfl hg3) ?_
    refine RK.V (op_pick_f rfl hg3 (rfl : _ = AV.p (.c _))) ?_
    refine RK.D ?_
    refine AWp_cond_false rfl rfl ?_
    refine AWp_skip ?_
    refine AWp_region hP ?_
    refine RK.V (op_add rfl rfl (by first | exact IntWalk.i64_in _ (by omega) | rfl)) ?_
    refine RK.M rfl ?_
    refine RK.D ?_
    refine ⟨j + 1, by omega, by omega, le_stL ⟨.refl _, .refl _, .refl _, .refl _, .refl _, .refl _, Sub.int (by omega), trivial⟩ ⟨rfl, rfl, Eq.trans rfl (congrArg (fun f => some (MBF f)) (hno.symm)), trivial⟩⟩
  ·have hg2_ := (notF hg2)
   have hno := rSt_n1 hjl (fun z => z (of_decide_eq_true (notF hg2)))
   refine RK.skip (guard_no rfl rfl hg2) ?_
   refine RK.skip (guard_no rfl rfl hg2) ?_
   refine RK.skip (guard_no rfl rfl hg2) ?_
   refine RK.skip (guard_no rfl rfl hg2) ?_
   refine RK.skip (guard_no rfl rfl hg2) ?_
   refine RK.V (op_pick_f rfl hg2 (rfl : _ = AV.p (.c _))) ?_
   refine RK.M rfl ?_
   refine RK.skip (guard_no rfl rfl rfl) ?_
   refine RK.skip (guard_no rfl rfl rfl) ?_
   refine RK.skip (guard_no rfl rfl rfl) ?_
   refine RK.skip (guard_no rfl rfl rfl) ?_
   refine RK.skip (guard_no rfl rfl rfl) ?_
   refine RK.V (op_pick_f rfl rfl (rfl : _ = AV.p (.c _))) ?_
   refine RK.D ?_
   refine AWp_cond_false rfl rfl ?_
   refine AWp_skip ?_
   refine AWp_region hP ?_
   refine RK.V (op_add rfl rfl (by first | exact IntWalk.i64_in _ (by omega) | rfl)) ?_
   refine RK.M rfl ?_
   refine RK.D ?_
   refine ⟨j + 1, by omega, by omega, le_stL ⟨.refl _, .refl _, .refl _, .refl _, .refl _, .refl _, Sub.int (by omega), trivial⟩ ⟨rfl, rfl, Eq.trans rfl (congrArg (fun f => some (MBF f)) (hno.symm)), trivial⟩⟩
 ·have hb1_ := of_decide_eq_false hb1
  have hse := rSt_end b (k := k) (j := j) (by omega)
  refine AWp_exit ?_
  refine AWp_seq ?_
  refine AWp_sr hP ?_
  refine RK.V (op_move (rfl : _ = AV.vec _)) ?_
  refine RK.V (op_len_mapO (kv := kS) (M := MF (rSt b k j)) hT rfl rfl rfl rfl (ew_MF _) rfl) ?_
  refine RK.V (op_load_one hT rfl rfl rfl rfl (by first | rfl | exact vget (by omega))) ?_
  refine RK.V (op_len_map (kv := kS) (M := MF (rGo b k)) hT rfl rfl rfl (.inr rfl) (ew_MF _) rfl) ?_
  refine RK.V (op_eql rfl rfl) ?_
  refine RK.D ?_
  refine AWp_cond rfl (fun hb5 => ?_) (fun hb5 => ?_)
  ·have hb5_ := bT hb5
   have hfin := rGo_fin (b := b) (k := k) (by rw [← hse]; have := bT hb5; omega)
   refine AWp_sr hP ?_
   refine RK.V (op_load_one hT rfl rfl rfl rfl (by first | rfl | exact vget (by omega))) ?_
   refine RK.As rfl ?_
   refine RK.D ?_
   refine AWp_ret ?_
   refine ends_one rfl (.inr rfl) (res_tmp rfl) ?_ O_ends
   exact Sub.of_eq (by rw [hfin])
  ·have hb5_ := bF hb5
   have hlt := rGo_lt (b := b) (k := k) (by rw [← hse]; exact fun z => bF hb5 (by rw [z]))
   refine AWp_skip ?_
   refine AWp_freezeM (t := 5) rfl rfl (ew_MF _) ?_
   refine AWp_region hP ?_
   refine RK.M rfl ?_
   refine RK.S hT rfl rfl rfl rfl rfl rfl rfl ?_
   refine RK.D ?_
   refine ⟨k + 1, trivial, hlt, le_stL ⟨.refl _, .refl _, .refl _, trivial⟩ ⟨rfl, Eq.trans rfl (congrArg (fun f => some (bxM 62 f)) hse), trivial⟩⟩
/- algorist/hypothesis.Holds -/
set_option maxHeartbeats 1000000 in
set_option maxRecDepth 100000 in
theorem p_Holds (b : Book) (s : Str) (ho : hok b.2) (hD : hokD b.1) :
  Call0 Tryz.prog 12 [.p (.a (enBk b)), AS s] (B (decide (s ∈ cls (rFin b)))) := by
 refine callM_of (np := 0) Tryz.func12 (by kernel_rfl) rfl rfl (Nat.le_of_ble_eq_true rfl) (fun m h => absurd rfl h) (fun m h => absurd rfl h) rfl ?_
 refine AWp_sr hP ?_
 refine RK.alc guard_none (op_box rfl rfl) ?_
 refine RK.As rfl ?_
 refine RK.D ?_
 refine AWp_sr hP ?_
 refine RK.G2 hT rfl rfl rfl rfl rfl rfl ?_
 refine RK.V (Eff.call0 (p_reasons b ho hD)) ?_
 refine RK.M rfl ?_
 refine RK.V (op_look (a := some 3) (i := ty62) (j := ty9) (kv := kS) (M := MF (rFin b)) (k := s) (zs := enD zD) (zv := .agg #[.string ⟨#[]⟩, .slice none 0 0, .slice none 0 0]) hT rfl rfl rfl rfl keyS (by kernel_rfl) rfl zD_rep rfl (.inr rfl) (ew_MF _) rfl (MF_look2 _ _)) ?_
 refine RK.V (op_move (rfl : _ = AV.t _)) ?_
 refine RK.V (op_extract rfl (v := .a _) rfl) ?_
 refine RK.V (op_extract rfl (v := .c _) rfl) ?_
 refine RK.alc guard_none (op_alloc hT rfl rfl) ?_
 refine RK.S hT rfl rfl rfl rfl rfl rfl rfl ?_
 refine RK.As rfl ?_
 refine RK.D ?_
 refine AWp_sr hP ?_
 refine RK.M rfl ?_
 refine RK.As rfl ?_
 refine RK.D ?_
 refine AWp_ret ?_
 refine ends_one rfl (.inr rfl) (res_tmp rfl) ?_ O_ends
 exact .refl _
end Go.Proofs.YtmoaoiakmmbpoaaGreatDoor
end

section
/- chapter 30: Uses, from within -/
namespace Go.Proofs.YtmoaoiakmmbpoaaGreatDoor
open Go Go.AM
/- algorist/hypothesis.Uses$1 -/
set_option maxHeartbeats 2000000 in
set_option maxRecDepth 100000 in
theorem p_lookS (f : Fnd) (G : Str → List Str → List Str) (s : Str) (S0 : List Str) (hG : ∀ t ∈ frm f s, ∀ S, CallM Tryz.prog 50 [AS t, .ip [MD f], .axm SeenP 0, .axm (LkB 50 [MD f]) 0] (upd O 0 (some (FS' S))) (.t []) (upd O 0 (some (FS' (G t S))))) :
  CallM Tryz.prog 50 [AS s, .ip [MD f], .axm SeenP 0, .axm (LkB 50 [MD f]) 0] (upd O 0 (some (FS' S0))) (.t []) (upd O 0 (some (FS' (stepL G (frm f s) S0)))) := by
 refine callM_of (np := 1) Tryz.func50 (by kernel_rfl) rfl rfl (Nat.le_of_ble_eq_true rfl) upd1_lt upd1_dom rfl ?_
 refine AWp_sr hP ?_
 refine RK.V (op_load_ip_one hT rfl rfl rfl (by first | rfl | exact wget (by omega))) ?_
 refine RK.M rfl ?_
 refine RK.V (op_look (a := some 3) (i := ty62) (j := ty9) (kv := kS) (M := MF f) (k := s) (zs := enD zD) (zv := .agg #[.string ⟨#[]⟩, .slice none 0 0, .slice none 0 0]) hT rfl rfl rfl rfl keyS (by kernel_rfl) rfl zD_rep rfl (.inr rfl) (ew_MF _) rfl (MF_look1 _ _)) ?_
 refine RK.V (op_field_one hT rfl rfl rfl rfl rfl rfl rfl) ?_
 refine RK.V (op_len hT rfl rfl rfl (by rfl)) ?_
 refine RK.M rfl ?_
 refine RK.D ?_
 refine AWp_block ?_
 refine AWp_len (t := 10) (n := (whyA f s).2.1.length) rfl rfl (fun hlen => ?_)
 refine AWp_loop (ι := Nat) (fun k => stL [(2, .axm SeenP 0), (3, .axm (LkB 50 [MD f]) 0), (10, .p (.c (SL enS (whyA f s).2.1))), (11, Z ((whyA f s).2.1.length : Int)), (12, Z (k : Int))] [(0, FS' (stepL G ((whyA f s).2.1.take k) S0))]) (fun k => k ≤ (whyA f s).2.1.length) (fun k => (whyA f s).2.1.length - k) 0 (Nat.zero_le _) (le_stL ⟨.refl _, .refl _, .refl _, .refl _, .refl _, trivial⟩ ⟨rfl, trivial⟩) ?_
 intro k hk
 refine AWp_sr hP ?_
 refine RK.V (op_lss rfl rfl) ?_
 refine RK.D ?_
 refine AWp_seq ?_
 refine AWp_cond rfl (fun hb1 => ?_) (fun hb1 => ?_)
 ·have hb1_ := of_decide_eq_true hb1
  have hkl : k < (whyA f s).2.1.length := by omega
  have hin : ((whyA f s).2.1.getD k []) ∈ frm f s := by rw [← whyA_frm]; exact getD_mem' [] hkl
  generalize hS : (stepL G ((whyA f s).2.1.take k) S0) = S at *
  refine AWp_skip ?_
  refine AWp_seq ?_
  refine AWp_block ?_
  refine AWp_sr hP ?_
  refine RK.V (op_indexG hT enS_len (by decide) [] (n := (k : Int)) (l := (whyA f s).2.1) rfl rfl rfl rfl rfl rfl (by omega)) ?_
  refine RK.V (op_load_ip_one hT rfl rfl rfl rfl) ?_
  refine RK.As rfl ?_
  refine RK.D ?_
  refine AWp_sr hP ?_
  refine RK.V (op_loadSeen hT rfl rfl rfl) ?_
  refine RK.M rfl ?_
  refine RK.V (op_look_own (a := none) (i := ty78) (j := ty9) (kv := kS) (M := SE S) (k := ((whyA f s).2.1.getD k [])) (zs := [.v (.bool false)]) (zv := .bool false) hT rfl rfl rfl rfl keyS (by kernel_rfl) rfl fF_rep rfl rfl (ew_SE _) rfl (SE_look _ _)) ?_
  refine RK.V (op_unot rfl) ?_
  refine RK.D ?_
  refine AWp_cond rfl (fun hb2 => ?_) (fun hb2 => ?_)
  ·have hb2_ := (notT hb2)
   have hnot : ((whyA f s).2.1.getD k []) ∉ S := of_decide_eq_false (notT hb2)
   have hst := stepL_take (G := G) (S := S0) hkl
   rw [hS, if_neg hnot] at hst
   refine AWp_sr hP ?_
   refine RK.V (op_loadSeen hT rfl rfl rfl) ?_
   refine RK.M rfl ?_
   refine RK.sto guard_none (op_mapUpdate (kv := kS) (k := ((whyA f s).2.1.getD k [])) hT rfl rfl rfl rfl keyS rfl rfl (ew_SE _) rfl rfl rfl (SE_snoc hnot)) ?_
   refine RK.D ?_
   refine AWp_region hP ?_
   refine RK.V (op_loadLk hT rfl rfl rfl) ?_
   refine RK.M rfl ?_
   refine RK.mut guard_none (Eff.callLk rfl rfl (hG _ hin _) rfl) ?_
   refine RK.D ?_
   refine AWp_region hP ?_
   refine RK.V (op_add rfl rfl (by first | exact IntWalk.i64_in _ (by omega) | rfl)) ?_
   refine RK.M rfl ?_
   refine RK.D ?_
   refine ⟨k + 1, by omega, by omega, le_stL ⟨.refl _, .refl _, .refl _, .refl _, Sub.int (by omega), trivial⟩ ⟨Eq.trans rfl (congrArg (fun S => some (FS' S)) (hst.symm)), trivial⟩⟩
  ·have hb2_ := (notF hb2)
   have hyes : ((whyA f s).2.1.getD k []) ∈ S := of_decide_eq_true (notF hb2)
   have hst := stepL_take (G := G) (S := S0) hkl
   rw [hS, if_pos hyes] at hst
   refine AWp_skip ?_
   refine AWp_region hP ?_
   refine RK.V (op_add rfl rfl (by first | exact IntWalk.i64_in _ (by omega) | rfl)) ?_
   refine RK.M rfl ?_
   refine RK.D ?_
   refine ⟨k + 1, by omega, by omega, le_stL ⟨.refl _, .refl _, .refl _, .refl _, Sub.int (by omega), trivial⟩ ⟨Eq.trans rfl (congrArg (fun S => some (FS' S)) (hst.symm)), trivial⟩⟩
 ·have hb1_ := of_decide_eq_false hb1
  have hend : (stepL G ((whyA f s).2.1.take k) S0) = stepL G (whyA f s).2.1 S0 := by rw [List.take_of_length_le (by omega)]
  refine AWp_exit ?_
  refine ends_none rfl (.inl rfl)  ?_ (own_end1 (Eq.trans rfl (congrArg (fun S => some (FS' S)) (hend.trans (congrArg (fun l => stepL G l S0) (whyA_frm f s))))))
  exact .refl _
theorem p_look0 (f : Fnd) (hd : Down f) : ∀ (n : Nat) (s : Str) (S : List Str), rkD f s ≤ n → CallM Tryz.prog 50 [AS s, .ip [MD f], .axm SeenP 0, .axm (LkB 50 [MD f]) 0] (upd O 0 (some (FS' S))) (.t []) (upd O 0 (some (FS' (lkD f n s S))))
 | 0, s, S, h => by
  have e : frm f s = [] := List.eq_nil_iff_forall_not_mem.2 fun t ht => by have := hd s t ht; omega
  have := p_lookS f (fun _ S => S) s S (fun t ht => by rw [e] at ht; cases ht)
  rw [e] at this
  exact this
 | n + 1, s, S, h => p_lookS f (lkD f n) s S fun t ht S => p_look0 f hd n t S (by have := hd s t ht; omega)
theorem p_look (f : Fnd) (hd : Down f) (m n : Nat) (s : Str) (S : List Str) (h : rkD f s ≤ n) : CallM Tryz.prog 50 [AS s, .ip [MD f], .axm SeenP m, .axm (LkB 50 [MD f]) m] (upd O m (some (FS' S))) (.t []) (upd O m (some (FS' (lkD f n s S)))) := CallM.ren1 m (p_look0 f hd n s S h) rfl rfl
end Go.Proofs.YtmoaoiakmmbpoaaGreatDoor
end

section
/- slices.Sort of strings, by the contract of the kit's shelf. -/
namespace Go.Proofs.YtmoaoiakmmbpoaaGreatDoor
open Go Go.AM Go.RowKit Go.Lib
def sortSL_ren : Go.Shelf.Ren := ⟨fun | 6 => 82 | 8 => 78 | 9 => 115 | 19 => 111 | 20 => 112 | 21 => 128 | 22 => 129 | 23 => 130 | 24 => 131 | 25 => 132 | 26 => 133 | 27 => 134 | 28 => 135 | 29 => 136 | 36 => 140 | 31 => 124 | 32 => 125 | 37 => 141 | 38 => 142 | 39 => 121 | 41 => 144 | n => n, fun | 27 => 35 | 29 => 9 | 3 => 3 | 32 => 60 | 26 => 35 | 0 => 0 | 44 => 67 | 46 => 130 | 4 => 4 | 36 => 124 | 35 => 123 | 41 => 90 | 5 => 5 | 9 => 9 | 53 => 139 | 57 => 143 | 63 => 152 | 64 => 153 | n => n, fun | n => n⟩
theorem sortSL : Go.Proofs.SlLaysM.n6 Tryz.prog sortSL_ren := {
 mixed := by kernel_rfl
 f6 := ⟨Tryz.f82.name, by decide, Tryz.func82.trans (congrArg some (by kernel_rfl))⟩
 f8 := Tryz.func78.trans (congrArg some (by kernel_rfl))
 f9 := ⟨Tryz.f115.name, by decide, Tryz.func115.trans (congrArg some (by kernel_rfl))⟩
 f19 := Tryz.func111.trans (congrArg some (by kernel_rfl))
 f20 := Tryz.func112.trans (congrArg some (by kernel_rfl))
 f21 := ⟨Tryz.f128.name, by decide, Tryz.func128.trans (congrArg some (by kernel_rfl))⟩
 f22 := ⟨Tryz.f129.name, by decide, Tryz.func129.trans (congrArg some (by kernel_rfl))⟩
 f23 := ⟨Tryz.f130.name, by decide, Tryz.func130.trans (congrArg some (by kernel_rfl))⟩
 f24 := ⟨Tryz.f131.name, by decide, Tryz.func131.trans (congrArg some (by kernel_rfl))⟩
 f25 := ⟨Tryz.f132.name, by decide, Tryz.func132.trans (congrArg some (by kernel_rfl))⟩
 f26 := ⟨Tryz.f133.name, by decide, Tryz.func133.trans (congrArg some (by kernel_rfl))⟩
 f27 := ⟨Tryz.f134.name, by decide, Tryz.func134.trans (congrArg some (by kernel_rfl))⟩
 f28 := ⟨Tryz.f135.name, by decide, Tryz.func135.trans (congrArg some (by kernel_rfl))⟩
 f29 := ⟨Tryz.f136.name, by decide, Tryz.func136.trans (congrArg some (by kernel_rfl))⟩
 f31 := Tryz.func124.trans (congrArg some (by kernel_rfl))
 f32 := Tryz.func125.trans (congrArg some (by kernel_rfl))
 f36 := ⟨Tryz.f140.name, by decide, Tryz.func140.trans (congrArg some (by kernel_rfl))⟩
 f37 := ⟨Tryz.f141.name, by decide, Tryz.func141.trans (congrArg some (by kernel_rfl))⟩
 f38 := ⟨Tryz.f142.name, by decide, Tryz.func142.trans (congrArg some (by kernel_rfl))⟩
 f39 := ⟨Tryz.f121.name, by decide, Tryz.func121.trans (congrArg some (by kernel_rfl))⟩
 f41 := ⟨Tryz.f144.name, by decide, Tryz.func144.trans (congrArg some (by kernel_rfl))⟩
 t0 := Tryz.underlying0
 a0 := Tryz.isAgg0
 z0 := Tryz.sizeOf0
 v0 := Tryz.zeroValue0
 t3 := Tryz.underlying3
 a3 := Tryz.isAgg3
 z3 := Tryz.sizeOf3
 v3 := Tryz.zeroValue3
 t4 := Tryz.underlying4
 a4 := Tryz.isAgg4
 z4 := Tryz.sizeOf4
 v4 := Tryz.zeroValue4
 t5 := Tryz.underlying5
 a5 := Tryz.isAgg5
 z5 := Tryz.sizeOf5
 v5 := Tryz.zeroValue5
 t9 := Tryz.underlying9
 a9 := Tryz.isAgg9
 z9 := Tryz.sizeOf9
 v9 := Tryz.zeroValue9
 t26 := Tryz.underlying35
 a26 := Tryz.isAgg35
 z26 := Tryz.sizeOf35
 v26 := Tryz.zeroValue35
 t27 := Tryz.underlying35
 a27 := Tryz.isAgg35
 z27 := Tryz.sizeOf35
 v27 := Tryz.zeroValue35
 t29 := Tryz.underlying9
 a29 := Tryz.isAgg9
 z29 := Tryz.sizeOf9
 v29 := Tryz.zeroValue9
 t32 := Tryz.underlying60
 a32 := Tryz.isAgg60
 z32 := Tryz.sizeOf60
 v32 := Tryz.zeroValue60
 t35 := Tryz.underlying123
 a35 := Tryz.isAgg123
 z35 := Tryz.sizeOf123
 v35 := Tryz.zeroValue123
 t36 := Tryz.underlying124
 a36 := Tryz.isAgg124
 z36 := Tryz.sizeOf124
 v36 := Tryz.zeroValue124
 t41 := Tryz.underlying90
 a41 := Tryz.isAgg90
 z41 := Tryz.sizeOf90
 v41 := Tryz.zeroValue90
 t44 := Tryz.underlying67
 a44 := Tryz.isAgg67
 z44 := Tryz.sizeOf67
 v44 := Tryz.zeroValue67
 t46 := Tryz.underlying130
 a46 := Tryz.isAgg130
 z46 := Tryz.sizeOf130
 v46 := Tryz.zeroValue130
 t53 := Tryz.underlying139
 a53 := Tryz.isAgg139
 z53 := Tryz.sizeOf139
 v53 := Tryz.zeroValue139
 t57 := Tryz.underlying143
 a57 := Tryz.isAgg143
 z57 := Tryz.sizeOf143
 v57 := Tryz.zeroValue143
 t63 := Tryz.underlying152
 a63 := Tryz.isAgg152
 z63 := Tryz.sizeOf152
 v63 := Tryz.zeroValue152
 t64 := Tryz.underlying153
 a64 := Tryz.isAgg153
 z64 := Tryz.sizeOf153
 v64 := Tryz.zeroValue153 }
theorem leS_eq : leS = fun x y : List UInt8 => decide (x ≤ y) := by
 funext x y
 unfold leS ltS
 rw [bytesLess_eq, ← decide_not]
 rfl
theorem flatS : ∀ S : List Str, S.flatMap enS = S.map st
 | [] => rfl
 | x :: S => by simp [List.flatMap_cons, flatS S]
theorem kS_enc (x : Str) : encStr x = kS x := rfl
set_option maxHeartbeats 1000000 in
/-- slices.Sort, over strings of the call's own -/
theorem p_SortS (m : Nat) (S : List Str) : CallM Tryz.prog 82 [.vec m] (upd O m (some (VB 1 9 enS S))) (.t []) (upd O m (some (VB 1 9 enS (srtS S)))) where
 fn := ⟨_, Tryz.func82, by kernel_rfl, by kernel_rfl⟩
 go h r w cargs hrep hbef := by
  obtain ⟨cl⟩ := cargs
  match cl, hrep with
  | [a], hrep =>
  obtain ⟨ha1, _⟩ := hrep
  have ha : a = r m := ha1
  subst ha
  have hB := hbef.ow m _ (upd_same _ _ _)
  have hself : upd O m (some (VB 1 9 enS S)) m ≠ none := by rw [upd_same]; simp
  have hown' : ∀ q b, upd O m (some (VB 1 9 enS (srtS S))) q = some b → q = m ∧ b = VB 1 9 enS (srtS S) := fun q b hq => by
   by_cases hqm : q = m
   ·subst hqm; rw [upd_same] at hq; cases hq; exact ⟨rfl, rfl⟩
   ·rw [upd_ne _ _ _ _ hqm] at hq; cases hq
  have hdom : ∀ q, upd O m (some (VB 1 9 enS (srtS S))) q ≠ none → upd O m (some (VB 1 9 enS S)) q ≠ none := fun q hq => by
   by_cases hqm : q = m
   ·subst hqm; exact hself
   ·rw [upd_ne _ _ _ _ hqm] at hq; exact absurd rfl hq
  have hlen : (S.flatMap enS).length = S.length * 1 := flat_len enS_len S
  by_cases hS : S = []
  ·subst hS
   have hB2 := hB
   rw [BlkRep.slE rfl Nat.zero_lt_one] at hB2
   obtain ⟨aa, n, cap, hr, hn, _⟩ := hB2
   have hn0 : n = 0 := by simpa using hn
   subst hn0
   rw [hr]
   refine (AnyM.slices_Sort_string_none sortSL aa cap w).mono ?_
   rintro e' w' ⟨rfl, rfl⟩
   refine ⟨_, h, rfl, ⟨[], rfl, trivial⟩, ⟨fun q b hq => ?_, hdom, hbef.hi, fun q i hq => hbef.ho q i (hdom q hq), rfl, rfl, .refl _, Nat.le_refl _, fun _ _ _ => rfl, .refl _, fun _ hq => .inl hq⟩⟩
   obtain ⟨rfl, rfl⟩ := hown' q b hq
   have e : srtS [] = [] := List.eq_nil_of_length_eq_zero (srtS_len [])
   rw [e]; exact hB
  ·obtain ⟨b, n, c, cc, cs, e0, e1, e2, e3, e4, e5, e6, e7, e8, e9, e10⟩ := vec_cells Nat.zero_lt_one (fun q => hS (flat_nil enS_len Nat.zero_lt_one q)) hB
   rw [hlen, Nat.mul_one] at e1 e7
   rw [Nat.mul_one] at e1 e6
   subst e1
   have hk0 : hblk (r m) = some b := by rw [e0]; simp only [hblk]; rw [if_neg (by omega)]
   have hhb : h b = none := hbef.ho m b hself hk0
   have hbw : b < w.heap.size := (Array.getElem?_eq_some_iff.1 e5).1
   have hget : ∀ j (hj : j < S.length), cc[j]? = some (kS S[j]) := fun j hj => by
    obtain ⟨y, y1, y2⟩ := e10.get j (st S[j]) (by
     have : (S.flatMap enS)[j]? = some (st S[j]) := by
      rw [flatS, List.getElem?_map, List.getElem?_eq_getElem hj]; rfl
     exact this)
    simp only [DRep] at y2
    rw [y2.1] at y1
    exact e8 j _ y1
   have hH : Sort.Holds encStr w b 0 S.toArray := fun j hj => by
    rw [List.size_toArray] at hj
    have e1 : S.toArray[j]! = S[j] := by rw [getElem!_pos _ j (by simpa using hj)]; simp
    rw [e1, kS_enc]
    refine ⟨?_, by simp [World.frozen?, e5]⟩
    simp only [World.cell?, e5, Nat.zero_add]; exact hget j hj
   have hcon := AnyM.slices_Sort_string sortSL b 0 c S w hH hbw (by omega)
   change Calls Tryz.prog 82 #[.slice (some ⟨b, 0, none⟩) S.length c] w _ at hcon
   rw [e0]
   refine hcon.mono ?_
   rintro e' w' ⟨rfl, n, os, rfl⟩
   rw [← leS_eq]
   have hsl : (S.mergeSort leS).length = S.length := srtS_len S
   obtain ⟨c2, hc2⟩ : ∃ c2, c2 = Sort.putCells encStr 0 (S.mergeSort leS).toArray cc := ⟨_, rfl⟩
   have hs2 : c2.size = cc.size := by rw [hc2]; simp [Sort.putCells]
   have hheap : ∀ k, k < w.heap.size → (Sort.grow (Sort.putRow encStr (Sort.ahead w n) b 0 (S.mergeSort leS).toArray) os).heap[k]? = if k = b then some (.cells c2 9 (0, 0)) else w.heap[k]? := fun k hk => by
    rw [Sort.heap_grow_old _ _ (by rw [Sort.size_putRow]; exact hk)]
    show (w.heap.modify b _)[k]? = _
    rw [Array.getElem?_modify]
    by_cases e : b = k
    ·subst e; rw [if_pos rfl, if_pos rfl, e5, hc2]; rfl
    ·rw [if_neg e, if_neg (fun x => e x.symm)]
   have hget2 : ∀ j (hj : j < S.length), c2[j]? = some (kS ((S.mergeSort leS)[j]'(by omega))) := fun j hj => by
    rw [hc2]
    unfold Sort.putCells
    rw [Array.getElem?_mapIdx, Array.getElem?_eq_getElem (by omega)]
    simp only [Option.map_some]
    rw [if_pos ⟨Nat.zero_le _, by rw [List.size_toArray, hsl]; omega⟩, Nat.sub_zero, getElem!_pos _ j (by rw [List.size_toArray, hsl]; exact hj)]
    simp [kS_enc]
   have sizeG : w.heap.size ≤ (Sort.grow (Sort.putRow encStr (Sort.ahead w n) b 0 (S.mergeSort leS).toArray) os).heap.size := by
    show w.heap.size ≤ ((w.heap.modify b _) ++ os).size
    simp
   refine ⟨_, h, rfl, ⟨[], rfl, trivial⟩, ⟨fun q bb hq => ?_, hdom, fun k ob hk => ?_, fun q i hq => hbef.ho q i (hdom q hq), rfl, rfl, ⟨rfl, by show w.drawn ≤ w.drawn + n; omega⟩, sizeG, fun k hk hno => ?_, .refl _, fun _ hq => .inl hq⟩⟩
   ·obtain ⟨rfl, rfl⟩ := hown' q bb hq
    rw [BlkRep.slE rfl Nat.zero_lt_one]
    refine ⟨_, S.length, c, e0, by rw [flat_len enS_len, srtS_len], e2, e3, .inr ⟨b, c2, rfl, ?_, by rw [hs2, e6, Nat.mul_one], ?_⟩⟩
    ·rw [hheap b hbw, if_pos rfl]
    ·rw [DReps.iff]
     intro j dv hj
     have hjl : j < S.length := by
      have := (List.getElem?_eq_some_iff.1 hj).1
      rwa [flat_len enS_len, srtS_len, Nat.mul_one] at this
     rw [show (VB 1 9 enS (srtS S)).cs = (srtS S).flatMap enS from rfl, flatS, List.getElem?_map, List.getElem?_eq_getElem (by rw [srtS_len]; exact hjl)] at hj
     simp only [Option.map_some, Option.some.injEq] at hj
     subst hj
     exact ⟨_, hget2 j hjl, by simp only [DRep]; exact ⟨rfl, rfl⟩⟩
   ·have hkw := (Array.getElem?_eq_some_iff.1 (hbef.hi k ob hk)).1
    rw [hheap k hkw, if_neg (fun q => by rw [q, hhb] at hk; cases hk)]
    exact hbef.hi k ob hk
   ·rw [hheap k hk, if_neg (fun q => hno ⟨m, hself, by rw [q]; exact hk0⟩)]
end Go.Proofs.YtmoaoiakmmbpoaaGreatDoor
end

section
/- chapter 30: keys, collected and sorted; Uses -/
namespace Go.Proofs.YtmoaoiakmmbpoaaGreatDoor
open Go Go.AM
/- maps.Keys[map[string]bool,string,bool]$1 -/
set_option maxHeartbeats 1000000 in
set_option maxRecDepth 100000 in
theorem p_keys1 (S : List Str) (hn : S.Nodup) :
  IterR Tryz.prog 83 [[(MP none (enE kS (SE S)))]] (okKy S) (finKy S) := by
 refine iterR_of Tryz.func83 (by kernel_rfl) rfl rfl (Nat.le_of_ble_eq_true rfl) rfl ?_
 intro l n0 J hK
 refine AJR_seq ?_
 refine AJR_region hP ?_
 refine RK.V (op_load_ip_one hT rfl rfl rfl (by first | rfl | exact wget (by omega))) ?_
 refine RK.alc guard_none (op_range (kv := kS) (M := SE S) hT rfl rfl rfl (.inr rfl) (ew_SE _)) ?_
 refine RK.D ?_
 refine AJR_block ?_
 refine AJR_loop (ι := List En × List Str × Lk) (fun q => stL [(0, .p (.c (.v (.func (.yield l) #[] #[])))), (5, .it 5)] [(5, IB none q.1 (enE kS (SE q.2.1)))]) (fun q => q.2.2) (fun q => CurOK q.1 ∧ KyI S q.2.1 q.2.2) (fun q => q.2.1.length) ([], S, []) ⟨cur0, .start S⟩ rfl (le_stL ⟨.refl _, .refl _, trivial⟩ ⟨rfl, trivial⟩) ?_
 rintro q ⟨hq, hI⟩
 refine AJR_seq ?_
 refine AJR_lift (AWp_nextS (kv := kS) (S := q.2.1) rfl rfl hq.1 hq.2 rfl (fun hl => ?_) (fun t L hp => ?_))
 ·skip
  refine AJR_seq ?_
  refine AJR_cond_false rfl rfl ?_
  refine AJR_exit ?_
  refine ⟨.inl rfl, ?_⟩
  exact hI.fin hl
 ·skip
  refine AJR_seq ?_
  refine AJR_cond_true rfl rfl ?_
  refine AJR_skip ?_
  refine AJR_block ?_
  refine AJR_seq ?_
  refine AJR_region hP ?_
  refine RK.V (op_entry rfl rfl cur1w (ew_SE _) rfl) ?_
  refine RK.V (op_extract rfl (v := .c _) rfl) ?_
  refine RK.As rfl ?_
  refine RK.D ?_
  refine AJR_seq ?_
  refine AJR_regionY ?_
  refine RJR.val guard_none (op_move (rfl : _ = AV.p (.c _))) ?_
  refine RJR.val guard_none (op_move (rfl : _ = AV.p (.c _))) ?_
  refine RJR.yield hK guard_none rfl rfl (hI.ok hn hp) ?_
  refine RJR.val guard_none (op_unot rfl) ?_
  refine RJR.done ?_
  refine AJR_cond_false rfl rfl ?_
  refine AJR_skip ?_
  refine ⟨([(kS t, TT1)], L, q.2.2 ++ [pS t]), ⟨cur1, hI.next hp⟩, perm_len hp, rfl, le_stL ⟨.refl _, .refl _, trivial⟩ ⟨rfl, trivial⟩⟩
/- maps.Keys[map[string]bool,string,bool] -/
set_option maxHeartbeats 1000000 in
set_option maxRecDepth 100000 in
theorem p_Keys (S : List Str) :
  Call0 Tryz.prog 52 [.p (.c (MP none (enE kS (SE S))))] (.fn 83 [[(MP none (enE kS (SE S)))]]) := by
 refine callA_of Tryz.func52 (by kernel_rfl) rfl rfl (Nat.le_of_ble_eq_true rfl) rfl ?_
 refine AWp_sr hP ?_
 refine RK.alc guard_none (op_box rfl rfl) ?_
 refine RK.As rfl ?_
 refine RK.D ?_
 refine AWp_freezeBox (t := 1) rfl rfl ?_
 refine AWp_sr hP ?_
 refine RK.V (op_makeFunc rfl) ?_
 refine RK.V (op_assign (rfl : _ = AV.fn _ _)) ?_
 refine RK.D ?_
 refine AWp_ret ?_
 exact ⟨.inr rfl, 2, rfl, rfl⟩
/- slices.AppendSeq[[]string,string] -/
set_option maxHeartbeats 1000000 in
set_option maxRecDepth 100000 in
theorem p_AppendSeq (gf : FuncId) (caps : List (List DV)) (S : List Str) (hit : IterR Tryz.prog gf caps (okKy S) (finKy S)) (hl : S.length ≤ 1000000) :
  CallVE Tryz.prog 114 [.p (.c (.v (.slice none 0 0))), .fn gf caps] (fun d : List Str => d.Perm S) (fun d => VB 1 9 enS d) := by
 refine callVE_of Tryz.func114 (by kernel_rfl) rfl rfl (Nat.le_of_ble_eq_true rfl) ?_
 refine AWp_sr hP ?_
 refine RK.alc guard_none (op_box rfl rfl) ?_
 refine RK.As rfl ?_
 refine RK.D ?_
 refine AWp_seq ?_
 refine AWp_sr hP ?_
 refine RK.V (op_move (rfl : _ = AV.fn _ _)) ?_
 refine RK.D ?_
 refine AWp_block ?_
 refine AWp_mkLink 2 1000 1 9 rfl rfl rfl rfl ?_
 refine AWp_le (t := stL [(2, .loc 2 0), (6, .fn gf caps)] [(2, ⟨false, 1002, 35, [.sl (([] : List Str)).length []]⟩), (1000, VB 1 9 enS (([] : List Str)))]) (le_stL ⟨.refl _, .refl _, trivial⟩ ⟨rfl, rfl, trivial⟩) ?_
 refine AWp_rangeR 3 (fun k => lookO [(2, ⟨false, 1002, 35, [.sl (dek k).length []]⟩), (1000, VB 1 9 enS (dek k))]) rfl hit (fun k x h => okKy_one h) rfl rfl rfl (fun k x hx => ?_) (fun k hk => ?_)
 ·have hkl := okKy_len hx
  obtain ⟨p, rfl, _⟩ := hx
  refine AWp_region hP ?_
  refine RK.As rfl ?_
  refine RK.D ?_
  refine AWp_block ?_
  refine AWp_region hP ?_
  refine RK.V (op_loadNm hT rfl rfl rfl rfl rfl) ?_
  refine RK.M rfl ?_
  refine RK.V (op_bslice hT rfl rfl rfl (es := [_]) rfl rfl rfl) ?_
  refine RK.app guard_none (op_appendG (encD := enS) hT enS_len (by decide) rfl rfl rfl rfl rfl rfl rfl (b := p) rfl (Nat.le_trans hkl (Nat.le_trans hl (by decide))) (by decide) (by decide)) ?_
  refine RK.sto guard_none (op_storeNm hT rfl rfl rfl rfl rfl rfl rfl (flat_len enS_len _).symm (Nat.zero_lt_succ 0)) ?_
  refine RK.D ?_
  refine ⟨rfl, GW.rnL 2 11 1000 (dek k ++ [p]).length rfl rfl rfl (flat_len enS_len _).symm (Nat.zero_lt_succ 0) rfl rfl rfl rfl ?_⟩
  show ∀ m, lookO _ m = _ ∨ lookO _ m = none
  rw [dek_snoc]
  exact SubO.own ⟨rfl, rfl, trivial⟩
 refine AWp_sr hP ?_
 refine RK.V (op_loadNm hT rfl rfl rfl rfl rfl) ?_
 refine RK.V (op_assign (rfl : _ = AV.vec _)) ?_
 refine RK.D ?_
 refine AWp_ret ?_
 exact ⟨.inr rfl, dek k, hk, _, _, rfl, rfl, rfl⟩
/- slices.Collect[string] -/
set_option maxHeartbeats 1000000 in
set_option maxRecDepth 100000 in
theorem p_Collect (gf : FuncId) (caps : List (List DV)) (S : List Str) (hit : IterR Tryz.prog gf caps (okKy S) (finKy S)) (hl : S.length ≤ 1000000) :
  CallVE Tryz.prog 81 [.fn gf caps] (fun d : List Str => d.Perm S) (fun d => VB 1 9 enS d) := by
 refine callVE_of Tryz.func81 (by kernel_rfl) rfl rfl (Nat.le_of_ble_eq_true rfl) ?_
 refine AWp_sr hP ?_
 refine RK.As rfl ?_
 refine RK.D ?_
 refine AWp_seq ?_
 refine AWp_le (t := stL [(0, .fn gf caps)] []) (le_stL ⟨.refl _, trivial⟩ trivial) ?_
 refine AWp_callVE (t0 := 0) rfl (p_AppendSeq gf caps S hit hl) (fun _ => rfl) rfl (fun m c h => by cases h) (fun t => men_none rfl t _) rfl (fun d hd => ?_)
 refine AWp_ret ?_
 exact ⟨.inr rfl, d, hd, _, _, rfl, rfl, rfl⟩
/- slices.Sorted[string] -/
set_option maxHeartbeats 1000000 in
set_option maxRecDepth 100000 in
theorem p_Sorted (gf : FuncId) (caps : List (List DV)) (S : List Str) (hit : IterR Tryz.prog gf caps (okKy S) (finKy S)) (hl : S.length ≤ 1000000) (hn : S.Nodup) :
  Call0 Tryz.prog 51 [.fn gf caps] (.p (.c (SL enS (srtS S)))) := by
 refine callM_of (np := 0) Tryz.func51 (by kernel_rfl) rfl rfl (Nat.le_of_ble_eq_true rfl) (fun m h => absurd rfl h) (fun m h => absurd rfl h) rfl ?_
 refine AWp_sr hP ?_
 refine RK.As rfl ?_
 refine RK.D ?_
 refine AWp_seq ?_
 refine AWp_le (t := stL [(0, .fn gf caps)] []) (le_stL ⟨.refl _, trivial⟩ trivial) ?_
 refine AWp_callVE (t0 := 0) rfl (p_Collect gf caps S hit hl) (fun _ => rfl) rfl (fun m c h => by cases h) (fun t => men_none rfl t _) rfl (fun d hd => ?_)
 refine AWp_sr hP ?_
 refine RK.V (op_move (rfl : _ = AV.vec _)) ?_
 refine RK.mutL guard_none (Eff.call (o' := upd O 5 (some (VB 1 9 enS (srtS d)))) (rd := [5]) (p_SortS 5 d) (mem1 rfl) updO_mem rfl) ?_
 refine RK.D ?_
 refine AWp_freezeG (encD := enS) enS_len rfl (t := 3) rfl rfl ?_
 refine AWp_sr hP ?_
 refine RK.M rfl ?_
 refine RK.As rfl ?_
 refine RK.D ?_
 refine AWp_ret ?_
 refine ends_one rfl (.inr rfl) (res_tmp rfl) ?_ O_ends
 exact Sub.of_eq (by rw [srtS_perm hd hn])
/- algorist/hypothesis.Uses -/
set_option maxHeartbeats 2000000 in
set_option maxRecDepth 100000 in
theorem p_Uses (b : Book) (s : Str) (ho : hok b.2) (hD : hokD b.1) (hl : (lkD (rFin b) (rkD (rFin b) s) s []).length ≤ 1000000) :
  Call0 Tryz.prog 18 [.p (.a (enBk b)), AS s] (.p (.c (SL enS (srtS (lkD (rFin b) (rkD (rFin b) s) s []))))) := by
 have hd := down_rds b.1 (okM (bm b.2)) (b.1.length + 1)
 have hn := lkD_nodup (f := rFin b) hd (n := rkD (rFin b) s) (s := s) (Nat.le_refl _)
 refine callM_of (np := 0) Tryz.func18 (by kernel_rfl) rfl rfl (Nat.le_of_ble_eq_true rfl) (fun m h => absurd rfl h) (fun m h => absurd rfl h) rfl ?_
 refine AWp_sr hP ?_
 refine RK.alc guard_none (op_box rfl rfl) ?_
 refine RK.As rfl ?_
 refine RK.D ?_
 refine AWp_sr hP ?_
 refine RK.G2 hT rfl rfl rfl rfl rfl rfl ?_
 refine RK.V (Eff.call0 (p_reasons b ho hD)) ?_
 refine RK.alc guard_none (op_makeMap (a := none)) ?_
 refine RK.alc guard_none (op_alloc hT rfl rfl) ?_
 refine RK.alc guard_none (op_alloc hT rfl rfl) ?_
 refine RK.S hT rfl rfl rfl rfl rfl rfl rfl ?_
 refine RK.sto guard_none (op_storeMap hT rfl rfl rfl rfl rfl rfl rfl rfl) ?_
 refine RK.D ?_
 refine AWp_freezeBox (t := 5) rfl rfl ?_
 refine AWp_seen (t := 6) rfl rfl rfl ?_
 refine AWp_sr hP ?_
 refine RK.alc guard_none (op_alloc hT rfl rfl) ?_
 refine RK.D ?_
 refine AWp_seq ?_
 refine AWp_mkLook (t5 := 5) (t6 := 6) (t7 := 7) hT rfl rfl rfl rfl rfl rfl rfl ?_
 refine AWp_sr hP ?_
 refine RK.V (op_loadLk hT rfl rfl rfl) ?_
 refine RK.M rfl ?_
 refine RK.mut guard_none (Eff.callLk rfl (b := FS' []) (b' := FS' (lkD (rFin b) (rkD (rFin b) s) s [])) rfl (p_look (rFin b) hd 10 _ s [] (Nat.le_refl _)) rfl) ?_
 refine RK.D ?_
 refine AWp_unSeen (t := 6) rfl rfl (ew_SE _) ?_
 refine AWp_sr hP ?_
 refine RK.V (op_load_ip_one hT rfl rfl rfl (by first | rfl | exact wget (by omega))) ?_
 refine RK.V (Eff.call0 (p_Keys _)) ?_
 refine RK.V (Eff.call0 (p_Sorted _ _ _ (p_keys1 _ hn) hl hn)) ?_
 refine RK.As rfl ?_
 refine RK.D ?_
 refine AWp_ret ?_
 refine ends_one rfl (.inr rfl) (res_tmp rfl) ?_ O_ends
 exact .refl _
end Go.Proofs.YtmoaoiakmmbpoaaGreatDoor
end

section
/- chapter 30: Needs -/
namespace Go.Proofs.YtmoaoiakmmbpoaaGreatDoor
open Go Go.AM
def sortLL_ren : Go.Shelf.Ren := ⟨fun | 6 => 46 | 15 => 78 | 14 => 77 | 28 => 111 | 29 => 112 | 20 => 103 | 21 => 104 | 22 => 105 | 23 => 106 | 24 => 107 | 25 => 108 | 26 => 109 | 27 => 110 | 46 => 123 | 47 => 124 | 48 => 125 | 49 => 126 | 50 => 127 | 57 => 139 | n => n, fun | 22 => 32 | 24 => 25 | 25 => 65 | 3 => 3 | 39 => 60 | 0 => 0 | 53 => 67 | 55 => 130 | 4 => 4 | 46 => 124 | 45 => 123 | 50 => 90 | 5 => 5 | 9 => 9 | 66 => 139 | 70 => 143 | 76 => 152 | 77 => 153 | n => n, fun | n => n⟩
theorem sortLL : Go.Proofs.SlLaysF.n6 Tryz.prog sortLL_ren := {
 mixed := by kernel_rfl
 f6 := ⟨Tryz.f46.name, by decide, Tryz.func46.trans (congrArg some (by kernel_rfl))⟩
 f14 := ⟨Tryz.f77.name, by decide, Tryz.func77.trans (congrArg some (by kernel_rfl))⟩
 f15 := Tryz.func78.trans (congrArg some (by kernel_rfl))
 f20 := ⟨Tryz.f103.name, by decide, Tryz.func103.trans (congrArg some (by kernel_rfl))⟩
 f21 := ⟨Tryz.f104.name, by decide, Tryz.func104.trans (congrArg some (by kernel_rfl))⟩
 f22 := ⟨Tryz.f105.name, by decide, Tryz.func105.trans (congrArg some (by kernel_rfl))⟩
 f23 := ⟨Tryz.f106.name, by decide, Tryz.func106.trans (congrArg some (by kernel_rfl))⟩
 f24 := ⟨Tryz.f107.name, by decide, Tryz.func107.trans (congrArg some (by kernel_rfl))⟩
 f25 := ⟨Tryz.f108.name, by decide, Tryz.func108.trans (congrArg some (by kernel_rfl))⟩
 f26 := ⟨Tryz.f109.name, by decide, Tryz.func109.trans (congrArg some (by kernel_rfl))⟩
 f27 := ⟨Tryz.f110.name, by decide, Tryz.func110.trans (congrArg some (by kernel_rfl))⟩
 f28 := Tryz.func111.trans (congrArg some (by kernel_rfl))
 f29 := Tryz.func112.trans (congrArg some (by kernel_rfl))
 f46 := ⟨Tryz.f123.name, by decide, Tryz.func123.trans (congrArg some (by kernel_rfl))⟩
 f47 := Tryz.func124.trans (congrArg some (by kernel_rfl))
 f48 := Tryz.func125.trans (congrArg some (by kernel_rfl))
 f49 := ⟨Tryz.f126.name, by decide, Tryz.func126.trans (congrArg some (by kernel_rfl))⟩
 f50 := ⟨Tryz.f127.name, by decide, Tryz.func127.trans (congrArg some (by kernel_rfl))⟩
 f57 := ⟨Tryz.f139.name, by decide, Tryz.func139.trans (congrArg some (by kernel_rfl))⟩
 t0 := Tryz.underlying0
 a0 := Tryz.isAgg0
 z0 := Tryz.sizeOf0
 v0 := Tryz.zeroValue0
 t3 := Tryz.underlying3
 a3 := Tryz.isAgg3
 z3 := Tryz.sizeOf3
 v3 := Tryz.zeroValue3
 t4 := Tryz.underlying4
 a4 := Tryz.isAgg4
 z4 := Tryz.sizeOf4
 v4 := Tryz.zeroValue4
 t5 := Tryz.underlying5
 a5 := Tryz.isAgg5
 z5 := Tryz.sizeOf5
 v5 := Tryz.zeroValue5
 t9 := Tryz.underlying9
 a9 := Tryz.isAgg9
 z9 := Tryz.sizeOf9
 v9 := Tryz.zeroValue9
 t22 := Tryz.underlying32
 a22 := Tryz.isAgg32
 z22 := Tryz.sizeOf32
 v22 := Tryz.zeroValue32
 a24 := Tryz.isAgg25
 z24 := Tryz.sizeOf25
 t25 := Tryz.underlying65
 a25 := Tryz.isAgg65
 z25 := Tryz.sizeOf65
 v25 := Tryz.zeroValue65
 t39 := Tryz.underlying60
 a39 := Tryz.isAgg60
 z39 := Tryz.sizeOf60
 v39 := Tryz.zeroValue60
 t45 := Tryz.underlying123
 a45 := Tryz.isAgg123
 z45 := Tryz.sizeOf123
 v45 := Tryz.zeroValue123
 t46 := Tryz.underlying124
 a46 := Tryz.isAgg124
 z46 := Tryz.sizeOf124
 v46 := Tryz.zeroValue124
 t50 := Tryz.underlying90
 a50 := Tryz.isAgg90
 z50 := Tryz.sizeOf90
 v50 := Tryz.zeroValue90
 t53 := Tryz.underlying67
 a53 := Tryz.isAgg67
 z53 := Tryz.sizeOf67
 v53 := Tryz.zeroValue67
 t55 := Tryz.underlying130
 a55 := Tryz.isAgg130
 z55 := Tryz.sizeOf130
 v55 := Tryz.zeroValue130
 t66 := Tryz.underlying139
 a66 := Tryz.isAgg139
 z66 := Tryz.sizeOf139
 v66 := Tryz.zeroValue139
 t70 := Tryz.underlying143
 a70 := Tryz.isAgg143
 z70 := Tryz.sizeOf143
 v70 := Tryz.zeroValue143
 t76 := Tryz.underlying152
 a76 := Tryz.isAgg152
 z76 := Tryz.sizeOf152
 v76 := Tryz.zeroValue152
 t77 := Tryz.underlying153
 a77 := Tryz.isAgg153
 z77 := Tryz.sizeOf153
 v77 := Tryz.zeroValue153 }
theorem sortLL0 : Go.Proofs.SlLaysF0.n6 Tryz.prog sortLL_ren := {
 mixed := by kernel_rfl
 f6 := ⟨Tryz.f46.name, by decide, Tryz.func46.trans (congrArg some (by kernel_rfl))⟩
 f14 := ⟨Tryz.f77.name, by decide, Tryz.func77.trans (congrArg some (by kernel_rfl))⟩
 f15 := Tryz.func78.trans (congrArg some (by kernel_rfl))
 f20 := ⟨Tryz.f103.name, by decide, Tryz.func103.trans (congrArg some (by kernel_rfl))⟩
 f21 := ⟨Tryz.f104.name, by decide, Tryz.func104.trans (congrArg some (by kernel_rfl))⟩
 f22 := ⟨Tryz.f105.name, by decide, Tryz.func105.trans (congrArg some (by kernel_rfl))⟩
 f23 := ⟨Tryz.f106.name, by decide, Tryz.func106.trans (congrArg some (by kernel_rfl))⟩
 f24 := ⟨Tryz.f107.name, by decide, Tryz.func107.trans (congrArg some (by kernel_rfl))⟩
 f25 := ⟨Tryz.f108.name, by decide, Tryz.func108.trans (congrArg some (by kernel_rfl))⟩
 f26 := ⟨Tryz.f109.name, by decide, Tryz.func109.trans (congrArg some (by kernel_rfl))⟩
 f27 := ⟨Tryz.f110.name, by decide, Tryz.func110.trans (congrArg some (by kernel_rfl))⟩
 f28 := Tryz.func111.trans (congrArg some (by kernel_rfl))
 f29 := Tryz.func112.trans (congrArg some (by kernel_rfl))
 f46 := ⟨Tryz.f123.name, by decide, Tryz.func123.trans (congrArg some (by kernel_rfl))⟩
 f47 := Tryz.func124.trans (congrArg some (by kernel_rfl))
 f48 := Tryz.func125.trans (congrArg some (by kernel_rfl))
 f49 := ⟨Tryz.f126.name, by decide, Tryz.func126.trans (congrArg some (by kernel_rfl))⟩
 f50 := ⟨Tryz.f127.name, by decide, Tryz.func127.trans (congrArg some (by kernel_rfl))⟩
 f57 := ⟨Tryz.f139.name, by decide, Tryz.func139.trans (congrArg some (by kernel_rfl))⟩
 t0 := Tryz.underlying0
 a0 := Tryz.isAgg0
 z0 := Tryz.sizeOf0
 v0 := Tryz.zeroValue0
 t3 := Tryz.underlying3
 a3 := Tryz.isAgg3
 z3 := Tryz.sizeOf3
 v3 := Tryz.zeroValue3
 t4 := Tryz.underlying4
 a4 := Tryz.isAgg4
 z4 := Tryz.sizeOf4
 v4 := Tryz.zeroValue4
 t5 := Tryz.underlying5
 a5 := Tryz.isAgg5
 z5 := Tryz.sizeOf5
 v5 := Tryz.zeroValue5
 t9 := Tryz.underlying9
 a9 := Tryz.isAgg9
 z9 := Tryz.sizeOf9
 v9 := Tryz.zeroValue9
 t22 := Tryz.underlying32
 a22 := Tryz.isAgg32
 z22 := Tryz.sizeOf32
 v22 := Tryz.zeroValue32
 t25 := Tryz.underlying65
 a25 := Tryz.isAgg65
 z25 := Tryz.sizeOf65
 v25 := Tryz.zeroValue65
 t39 := Tryz.underlying60
 a39 := Tryz.isAgg60
 z39 := Tryz.sizeOf60
 v39 := Tryz.zeroValue60
 t45 := Tryz.underlying123
 a45 := Tryz.isAgg123
 z45 := Tryz.sizeOf123
 v45 := Tryz.zeroValue123
 t46 := Tryz.underlying124
 a46 := Tryz.isAgg124
 z46 := Tryz.sizeOf124
 v46 := Tryz.zeroValue124
 t50 := Tryz.underlying90
 a50 := Tryz.isAgg90
 z50 := Tryz.sizeOf90
 v50 := Tryz.zeroValue90
 t53 := Tryz.underlying67
 a53 := Tryz.isAgg67
 z53 := Tryz.sizeOf67
 v53 := Tryz.zeroValue67
 t55 := Tryz.underlying130
 a55 := Tryz.isAgg130
 z55 := Tryz.sizeOf130
 v55 := Tryz.zeroValue130
 t66 := Tryz.underlying139
 a66 := Tryz.isAgg139
 z66 := Tryz.sizeOf139
 v66 := Tryz.zeroValue139
 t70 := Tryz.underlying143
 a70 := Tryz.isAgg143
 z70 := Tryz.sizeOf143
 v70 := Tryz.zeroValue143
 t76 := Tryz.underlying152
 a76 := Tryz.isAgg152
 z76 := Tryz.sizeOf152
 v76 := Tryz.zeroValue152
 t77 := Tryz.underlying153
 a77 := Tryz.isAgg153
 z77 := Tryz.sizeOf153
 v77 := Tryz.zeroValue153 }
/- algorist/hypothesis.Needs -/
set_option maxHeartbeats 8000000 in
set_option maxRecDepth 100000 in
theorem p_Needs (b : Book) (c : Str) (ho : hok b.2) (hD : hokD b.1) :
  Call0 Tryz.prog 15 [.p (.a (enBk b)), AS c] (.p (.c (SL enL (ndL b.1 c)))) := by
 refine callM_of (np := 0) Tryz.func15 (by kernel_rfl) rfl rfl (Nat.le_of_ble_eq_true rfl) (fun m h => absurd rfl h) (fun m h => absurd rfl h) rfl ?_
 refine AWp_lenA 0 0 (n := b.1.length) rfl rfl (fun hlen => ?_)
 refine AWp_sr hP ?_
 refine RK.alc guard_none (op_box rfl rfl) ?_
 refine RK.As rfl ?_
 refine RK.D ?_
 refine AWp_again 0 (ι := MM Str × KN) (fun i => stL [(1, AS c), (2, .loc 2 0), (5, .vec 14)] [(2, ⟨false, 1, 27, enBk b⟩), (14, MB none (enE kS i.1))]) (fun i => KRel i.1 i.2 ∧ KOK b.1 i.2) (fun i => gapK b.1 i.2) rfl ?_ ?_
 ·refine AWp_region hP ?_
  refine RK.alc guard_none (op_makeMap (a := none)) ?_
  refine RK.V (op_assign (rfl : _ = AV.vec _)) ?_
  refine RK.D ?_
  exact ⟨rfl, ([], fun _ _ => False), ⟨.start, kok0 _⟩, le_stL ⟨.refl _, .refl _, .refl _, trivial⟩ ⟨rfl, rfl, trivial⟩⟩
 rintro i ⟨hR, hO⟩
 refine AWp_sr hP ?_
 refine RK.As rfl ?_
 refine RK.D ?_
 refine AWp_seq ?_
 refine AWp_sr hP ?_
 refine RK.F hT rfl rfl rfl rfl rfl rfl ?_
 refine RK.V (op_load_one hT rfl rfl rfl rfl (by first | rfl | exact vget (by omega))) ?_
 refine RK.V (op_len hT rfl rfl rfl (by rfl)) ?_
 refine RK.M rfl ?_
 refine RK.D ?_
 refine AWp_block ?_
 refine AWp_loop (ι := Nat × MM Str × KN × Bool) (fun z => stL [(1, AS c), (2, .loc 2 0), (5, .vec 14), (6, B z.2.2.2), (16, .p (.c (SL enD b.1))), (17, Z (b.1.length : Int)), (18, Z (z.1 : Int))] [(2, ⟨false, 1, 27, enBk b⟩), (14, MB none (enE kS z.2.1))]) (fun z => z.1 ≤ b.1.length ∧ PaI b.1 i.2 z.1 z.2.1 z.2.2.1 z.2.2.2) (fun z => b.1.length - z.1) (0, i.1, i.2, false) ⟨Nat.zero_le _, .start hR hO⟩ (le_stL ⟨.refl _, .refl _, .refl _, .refl _, .refl _, .refl _, .refl _, trivial⟩ ⟨rfl, rfl, trivial⟩) ?_
 rintro z hI
 refine AWp_sr hP ?_
 refine RK.V (op_lss rfl rfl) ?_
 refine RK.D ?_
 refine AWp_seq ?_
 refine AWp_cond rfl (fun hb1 => ?_) (fun hb1 => ?_)
 ·have hb1_ := of_decide_eq_true hb1
  have hjl : z.1 < b.1.length := by omega
  have hbl := bm_lt (hokD_get hD hjl)
  refine AWp_skip ?_
  refine AWp_seq ?_
  refine AWp_block ?_
  refine AWp_sr hP ?_
  refine RK.V (op_indexG hT enD_len (by decide) zD (n := (z.1 : Int)) (l := b.1) rfl rfl rfl rfl rfl rfl (by omega)) ?_
  refine RK.V (op_load_ip_agg hT rfl rfl rfl (cs := enD (b.1.getD z.1 zD)) rfl rfl) ?_
  refine RK.alc guard_none (op_alloc hT rfl rfl) ?_
  refine RK.S hT rfl rfl rfl rfl rfl rfl rfl ?_
  refine RK.D ?_
  refine AWp_sr hP ?_
  refine RK.alc guard_none (op_makeMap (a := none)) ?_
  refine RK.F hT rfl rfl rfl rfl rfl rfl ?_
  refine RK.V (op_load_one hT rfl rfl rfl rfl (by first | rfl | exact vget (by omega))) ?_
  refine RK.V (Eff.call0 (p_bitsOf _ (hokD_get hD hjl))) ?_
  refine RK.sto guard_none (op_insert (kv := kU) (M := []) (k := bm (b.1.getD z.1 zD).2.2) hT rfl rfl rfl rfl keyU rfl rfl (fun e he => by cases he) rfl rfl rfl (one_own hbl)) ?_
  refine RK.V (op_move (rfl : _ = AV.vec _)) ?_
  refine RK.V (op_assign (rfl : _ = AV.vec _)) ?_
  refine RK.D ?_
  refine AWp_rn 22 1000 rfl rfl rfl ?_
  refine AWp_seq ?_
  refine AWp_sr hP ?_
  refine RK.F hT rfl rfl rfl rfl rfl rfl ?_
  refine RK.V (op_load_one hT rfl rfl rfl rfl (by first | rfl | exact vget (by omega))) ?_
  refine RK.V (op_len hT rfl rfl rfl (by rfl)) ?_
  refine RK.M rfl ?_
  refine RK.D ?_
  refine AWp_block ?_
  refine AWp_len (t := 28) rfl rfl (fun hfl => ?_)
  refine AWp_loop (ι := Nat) (fun k => stL [(1, AS c), (2, .loc 2 0), (5, .vec 14), (6, B z.2.2.2), (16, .p (.c (SL enD b.1))), (17, Z (b.1.length : Int)), (18, Z (z.1 : Int)), (8, .loc 8 0), (9, .vec 1000), (28, .p (.c (SL enS (b.1.getD z.1 zD).2.1))), (29, Z ((b.1.getD z.1 zD).2.1.length : Int)), (30, Z (k : Int))] [(2, ⟨false, 1, 27, enBk b⟩), (14, MB none (enE kS z.2.1)), (8, ⟨false, 1, 45, enD (b.1.getD z.1 zD)⟩), (1000, FB' (jnF z.2.2.1 (fun m => m = bm (b.1.getD z.1 zD).2.2) ((b.1.getD z.1 zD).2.1.take k)))]) (fun k => k ≤ (b.1.getD z.1 zD).2.1.length) (fun k => (b.1.getD z.1 zD).2.1.length - k) 0 (Nat.zero_le _) (le_stL ⟨.refl _, .refl _, .refl _, .refl _, .refl _, .refl _, .refl _, .refl _, .refl _, .refl _, .refl _, .refl _, trivial⟩ ⟨rfl, rfl, rfl, rfl, trivial⟩) ?_
  rintro k hk
  refine AWp_sr hP ?_
  refine RK.V (op_lss rfl rfl) ?_
  refine RK.D ?_
  refine AWp_seq ?_
  refine AWp_cond rfl (fun hb2 => ?_) (fun hb2 => ?_)
  ·have hb2_ := of_decide_eq_true hb2
   refine AWp_skip ?_
   refine AWp_seq ?_
   refine AWp_block ?_
   refine AWp_sr hP ?_
   refine RK.V (op_indexG hT enS_len (by decide) [] (n := (k : Int)) (l := (b.1.getD z.1 zD).2.1) rfl rfl rfl rfl rfl rfl (by omega)) ?_
   refine RK.V (op_load_ip_one hT rfl rfl rfl rfl) ?_
   refine RK.As rfl ?_
   refine RK.D ?_
   refine AWp_freezeM (t := 9) rfl rfl (ew_SE _) ?_
   refine AWp_region hP ?_
   refine RK.M rfl ?_
   refine RK.V (op_move (rfl : _ = AV.vec _)) ?_
   refine RK.M rfl ?_
   refine RK.V (op_look_own (a := none) (i := ty66) (j := ty9) (kv := kS) (M := z.2.1) (k := (b.1.getD z.1 zD).2.1.getD k []) (zs := [.v (.map none)]) (zv := .map none) hT rfl rfl rfl rfl keyS (by kernel_rfl) rfl nilM_rep rfl rfl hI.2.rel.ew rfl (hI.2.rel.look _)) ?_
   refine RK.alc guard_none (Eff.callV (p_join _ _ _ _ (.inr rfl) (hI.2.rel.as_ _))) ?_
   refine RK.V (op_assign (rfl : _ = AV.vec _)) ?_
   refine RK.D ?_
   refine AWp_rn 38 1000 rfl rfl rfl ?_
   refine AWp_region hP ?_
   refine RK.V (op_add rfl rfl (by first | exact IntWalk.i64_in _ (by omega) | rfl)) ?_
   refine RK.M rfl ?_
   refine RK.D ?_
   refine ⟨k + 1, by omega, by omega, le_stL ⟨.refl _, .refl _, .refl _, .refl _, .refl _, .refl _, .refl _, .refl _, .refl _, .refl _, .refl _, Sub.int (by omega), trivial⟩ ⟨rfl, rfl, rfl, Eq.trans rfl (congrArg (fun p => some (FB' p)) (jnF_s (by omega)).symm), trivial⟩⟩
  ·have hb2_ := of_decide_eq_false hb2
   have hfe : (b.1.getD z.1 zD).2.1.take k = (b.1.getD z.1 zD).2.1 := List.take_of_length_le (by omega)
   rw [hfe]
   refine AWp_exit ?_
   refine AWp_sr hP ?_
   refine RK.V (op_move (rfl : _ = AV.vec _)) ?_
   refine RK.V (op_move (rfl : _ = AV.vec _)) ?_
   refine RK.F hT rfl rfl rfl rfl rfl rfl ?_
   refine RK.V (op_load_one hT rfl rfl rfl rfl (by first | rfl | exact vget (by omega))) ?_
   refine RK.V (op_look_own (a := none) (i := ty66) (j := ty9) (kv := kS) (M := z.2.1) (k := (b.1.getD z.1 zD).1) (zs := [.v (.map none)]) (zv := .map none) hT rfl rfl rfl rfl keyS (by kernel_rfl) rfl nilM_rep rfl rfl hI.2.rel.ew rfl (hI.2.rel.look _)) ?_
   refine RK.mutL guard_none (Eff.call (o := upd O 1000 (some (FB' (setsD z.2.2.1 (b.1.getD z.1 zD))))) (o' := upd O 1000 (some (FB' fun m => setsD z.2.2.1 (b.1.getD z.1 zD) m ∨ z.2.2.1 (b.1.getD z.1 zD).1 m))) (rd := [1000]) (p_CopyF 1000 _ _ _ (hI.2.rel.as_ _)) (mem1 rfl) updO_mem rfl) ?_
   refine RK.D ?_
   refine AWp_freezeM (t := 9) rfl rfl (ew_SE _) ?_
   refine AWp_sr hP ?_
   refine RK.M rfl ?_
   refine RK.alc guard_none (Eff.callV (p_least _)) ?_
   refine RK.V (op_assign (rfl : _ = AV.vec _)) ?_
   refine RK.D ?_
   refine AWp_freezeM (t := 9) rfl rfl (ew_SE _) ?_
   refine AWp_sr hP ?_
   refine RK.M rfl ?_
   refine RK.V (op_move (rfl : _ = AV.vec _)) ?_
   refine RK.F hT rfl rfl rfl rfl rfl rfl ?_
   refine RK.V (op_load_one hT rfl rfl rfl rfl (by first | rfl | exact vget (by omega))) ?_
   refine RK.V (op_look_own (a := none) (i := ty66) (j := ty9) (kv := kS) (M := z.2.1) (k := (b.1.getD z.1 zD).1) (zs := [.v (.map none)]) (zv := .map none) hT rfl rfl rfl rfl keyS (by kernel_rfl) rfl nilM_rep rfl rfl hI.2.rel.ew rfl (hI.2.rel.look _)) ?_
   refine RK.V (Eff.call0 (p_EqualF _ _ _ _ (.inr rfl) (hI.2.rel.as_ _))) ?_
   refine RK.V (op_unot rfl) ?_
   refine RK.D ?_
   refine AWp_cond rfl (fun hb3 => ?_) (fun hb3 => ?_)
   ·have hb3_ := (notT hb3)
    have hne := notT hb3
    refine AWp_sr hP ?_
    refine RK.V (op_move (rfl : _ = AV.vec _)) ?_
    refine RK.F hT rfl rfl rfl rfl rfl rfl ?_
    refine RK.V (op_load_one hT rfl rfl rfl rfl (by first | rfl | exact vget (by omega))) ?_
    refine RK.M rfl ?_
    refine RK.sto guard_none (op_mapUpdate (kv := kS) (k := (b.1.getD z.1 zD).1) (v := .c (FD (nextK z.2.2.1 (b.1.getD z.1 zD)))) hT rfl rfl rfl rfl keyS rfl rfl hI.2.rel.ew rfl rfl rfl (.refl _)) ?_
    refine RK.D ?_
    refine AWp_region hP ?_
    refine RK.As rfl ?_
    refine RK.D ?_
    refine AWp_region hP ?_
    refine RK.V (op_add rfl rfl (by first | exact IntWalk.i64_in _ (by omega) | rfl)) ?_
    refine RK.M rfl ?_
    refine RK.D ?_
    refine ⟨(z.1 + 1, putM z.2.1 (b.1.getD z.1 zD).1 [FD (nextK z.2.2.1 (b.1.getD z.1 zD))], KNupd z.2.2.1 (b.1.getD z.1 zD).1 (nextK z.2.2.1 (b.1.getD z.1 zD)), true), ⟨by omega, hI.2.chg hjl hD hne⟩, by omega, le_stL ⟨.refl _, .refl _, .refl _, .refl _, .refl _, .refl _, Sub.int (by omega), trivial⟩ ⟨rfl, rfl, trivial⟩⟩
   ·have hb3_ := (notF hb3)
    have heq := notF hb3
    refine AWp_skip ?_
    refine AWp_region hP ?_
    refine RK.V (op_add rfl rfl (by first | exact IntWalk.i64_in _ (by omega) | rfl)) ?_
    refine RK.M rfl ?_
    refine RK.D ?_
    refine ⟨(z.1 + 1, z.2.1, z.2.2.1, z.2.2.2), ⟨by omega, hI.2.same heq⟩, by omega, le_stL ⟨.refl _, .refl _, .refl _, .refl _, .refl _, .refl _, Sub.int (by omega), trivial⟩ ⟨rfl, rfl, trivial⟩⟩
 ·have hb1_ := of_decide_eq_false hb1
  have hjn : ¬ z.1 < b.1.length := by omega
  refine AWp_exit ?_
  refine AWp_seq ?_
  refine AWp_sr hP ?_
  refine RK.M rfl ?_
  refine RK.D ?_
  refine AWp_cond rfl (fun hb4 => ?_) (fun hb4 => ?_)
  ·have hI2 : PaI b.1 i.2 z.1 z.2.1 z.2.2.1 true := by have := hI.2; rw [hb4] at this; exact this
   refine AWp_goto ?_
   exact ⟨rfl, (z.2.1, z.2.2.1), ⟨hI.2.rel, hI.2.ok⟩, hI2.again, le_stL ⟨.refl _, .refl _, .refl _, trivial⟩ ⟨rfl, rfl, trivial⟩⟩
  ·have hI2 : PaI b.1 i.2 z.1 z.2.1 z.2.2.1 false := by have := hI.2; rw [hb4] at this; exact this
   obtain ⟨hKe, hfix⟩ := hI2.done hjn
   rw [← hKe] at hfix
   refine AWp_skip ?_
   refine AWp_sr hP ?_
   refine RK.As rfl ?_
   refine RK.D ?_
   refine AWp_seq ?_
   refine AWp_sr hP ?_
   refine RK.V (op_move (rfl : _ = AV.vec _)) ?_
   refine RK.M rfl ?_
   refine RK.V (op_look_own (a := none) (i := ty66) (j := ty9) (kv := kS) (M := z.2.1) (k := c) (zs := [.v (.map none)]) (zv := .map none) hT rfl rfl rfl rfl keyS (by kernel_rfl) rfl nilM_rep rfl rfl hI.2.rel.ew rfl (hI.2.rel.look _)) ?_
   refine RK.alc guard_none (op_range (kv := kU) (M := FM (z.2.2.1 c)) hT rfl rfl rfl (hI.2.rel.as_ c) (ew_SE _)) ?_
   refine RK.D ?_
   refine AWp_block ?_
   refine AWp_nilV 12 73 1 25 rfl rfl ?_
   refine AWp_loop (ι := List En × List Nat × List Nat) (fun y => stL [(12, .vec 73), (64, .it 64)] [(64, IB none y.1 (enE kU (SE y.2.1))), (73, VB 1 25 enL (y.2.2.map lsB))]) (fun y => CurOK y.1 ∧ LsI (lsM (z.2.2.1 c)) y.2.1 y.2.2) (fun y => y.2.1.length) ([], lsM (z.2.2.1 c), []) ⟨cur0, .start _⟩ (le_stL ⟨.refl _, .refl _, trivial⟩ ⟨rfl, rfl, trivial⟩) ?_
   rintro y hL
   refine AWp_seq ?_
   refine AWp_nextS (kv := kU) (S := y.2.1) rfl rfl hL.1.1 hL.1.2 rfl (fun hl => ?_) (fun t L hp => ?_)
   ·have hperm : (ndL b.1 c).Perm (y.2.2.map lsB) := hL.2.done hl hfix hI.2.ok hD
    refine AWp_seq ?_
    refine AWp_cond_false rfl rfl ?_
    refine AWp_exit ?_
    refine AWp_sr hP ?_
    refine RK.V (op_move (rfl : _ = AV.vec _)) ?_
    refine RK.mutL guard_none (Eff.call (o := upd O 73 (some (VB 1 25 enL (y.2.2.map lsB)))) (o' := upd O 73 (some (VB 1 25 enL (ndL b.1 c)))) (rd := [73]) (sort_callM1 sortLL sortLL0 (cmL cmZ) swoLL (fun x y => p_comZ x y) hperm (ndL_srt _ _) (fun _ hx _ hy => lsB_map_inj hx hy)) (mem1 rfl) updO_mem rfl) ?_
    refine RK.D ?_
    refine AWp_freezeG (encD := enL) enL_len rfl (t := 12) rfl rfl ?_
    refine AWp_sr hP ?_
    refine RK.M rfl ?_
    refine RK.As rfl ?_
    refine RK.D ?_
    refine AWp_ret ?_
    refine ends_one rfl (.inr rfl) (res_tmp rfl) ?_ O_ends
    exact .refl _
   ·refine AWp_rn 73 2000 rfl rfl rfl ?_
    refine AWp_seq ?_
    refine AWp_cond_true rfl rfl ?_
    refine AWp_skip ?_
    refine AWp_block ?_
    refine AWp_sr hP ?_
    refine RK.V (op_entry rfl rfl cur1w (ew_SE _) rfl) ?_
    refine RK.V (op_extract rfl (v := .c _) rfl) ?_
    refine RK.As rfl ?_
    refine RK.D ?_
    refine AWp_region hP ?_
    refine RK.V (op_move (rfl : _ = AV.vec _)) ?_
    refine RK.M rfl ?_
    refine RK.V (Eff.call0 (p_list _ (lt17 (hL.2.lt hp)))) ?_
    refine RK.V (op_bslice hT rfl rfl rfl (es := [_]) rfl rfl rfl) ?_
    refine RK.app guard_none (op_appendG (encD := enL) hT enL_len (by decide) rfl rfl rfl rfl rfl rfl rfl (b := lsB t) rfl (by rw [List.length_map]; exact Nat.le_trans hL.2.len (Nat.le_trans (lsM_len _) (by decide))) (by decide) (by decide)) ?_
    refine RK.V (op_assign (rfl : _ = AV.vec _)) ?_
    refine RK.D ?_
    refine ⟨([(kU t, TT1)], L, y.2.2 ++ [t]), ⟨cur1, hL.2.next hp⟩, perm_len hp, le_stL ⟨.refl _, .refl _, trivial⟩ ⟨rfl, Eq.trans rfl (congrArg (fun l => some (VB 1 25 enL l)) (List.map_append (f := lsB) (l₁ := y.2.2) (l₂ := [t])).symm), trivial⟩⟩
end Go.Proofs.YtmoaoiakmmbpoaaGreatDoor
end

section
/- chapter 30: the examples of the laws -/
namespace Go.Proofs.YtmoaoiakmmbpoaaGreatDoor
open Go Go.AM
/- algorist/algoristlaw30.example -/
set_option maxHeartbeats 1000000 in
set_option maxRecDepth 100000 in
theorem p_example  :
  Call0 Tryz.prog 36 [] (.p (.c (SL enD exL))) := by
 refine callM_of (np := 0) Tryz.func36 (by kernel_rfl) rfl rfl (Nat.le_of_ble_eq_true rfl) (fun m h => absurd rfl h) (fun m h => absurd rfl h) rfl ?_
 refine AWp_sr hP ?_
 refine RK.As rfl ?_
 refine RK.D ?_
 refine AWp_sr hP ?_
 refine RK.V (op_build_st hT rfl rfl rfl (es := enD (cA, [], [])) rfl) ?_
 refine RK.V (op_bslice hT rfl rfl rfl (es := [_]) rfl rfl rfl) ?_
 refine RK.V (op_bslice hT rfl rfl rfl (es := [_]) rfl rfl rfl) ?_
 refine RK.V (op_build_st hT rfl rfl rfl (es := enD (cB, [cA], [2])) rfl) ?_
 refine RK.V (op_bslice hT rfl rfl rfl (es := [_]) rfl rfl rfl) ?_
 refine RK.V (op_build_st hT rfl rfl rfl (es := enD (cC, [cB], [])) rfl) ?_
 refine RK.V (op_bslice hT rfl rfl rfl (es := [_, _]) rfl rfl rfl) ?_
 refine RK.V (op_build_st hT rfl rfl rfl (es := enD (cC, [], [1, 3])) rfl) ?_
 refine RK.V (op_bslice hT rfl rfl rfl (es := exL.flatMap enD) rfl rfl rfl) ?_
 refine RK.As rfl ?_
 refine RK.D ?_
 refine AWp_ret ?_
 refine ends_one rfl (.inr rfl) (res_tmp rfl) ?_ O_ends
 exact .refl _
/- algorist/algoristlaw30.examples -/
set_option maxHeartbeats 4000000 in
set_option maxRecDepth 100000 in
theorem p_examples  :
  Call0 Tryz.prog 9 [] (B true) := by
 refine callM_of (np := 0) Tryz.func9 (by kernel_rfl) rfl rfl (Nat.le_of_ble_eq_true rfl) (fun m h => absurd rfl h) (fun m h => absurd rfl h) rfl ?_
 refine AWp_sr hP ?_
 refine RK.As rfl ?_
 refine RK.D ?_
 refine AWp_sr hP ?_
 refine RK.V (op_build_st hT rfl rfl rfl (es := [_, _]) rfl) ?_
 refine RK.V (Eff.call0 (p_lgrant ([], []) 2 (fun n h => by cases h))) ?_
 refine RK.alc guard_none (op_alloc hT rfl rfl) ?_
 refine RK.S hT rfl rfl rfl rfl rfl rfl rfl ?_
 refine RK.D ?_
 refine AWp_sr hP ?_
 refine RK.V (Eff.call0 p_example) ?_
 refine RK.As rfl ?_
 refine RK.D ?_
 refine AWp_seq ?_
 refine AWp_sr hP ?_
 refine RK.As rfl ?_
 refine RK.D ?_
 refine AWp_block ?_
 refine AWp_loop (ι := Nat) (fun k => stL [(1, .loc 1 0), (2, .p (.c (SL enD exL))), (3, Z (k : Int))] [(1, ⟨false, 1, 42, [SL enD (exS k).1, SL enZ (exS k).2, .v (.int .i64 0)]⟩)]) (fun k => k ≤ 4) (fun k => 4 - k) 0 (Nat.zero_le _) (le_stL ⟨.refl _, .refl _, .refl _, trivial⟩ ⟨Eq.trans rfl (congrArg (fun b : Book => some (⟨false, 1, 42, [SL enD b.1, SL enZ b.2, .v (.int .i64 0)]⟩ : Blk)) ex_grant), trivial⟩) ?_
 rintro k hk
 refine AWp_seq ?_
 refine AWp_sr hP ?_
 refine RK.M rfl ?_
 refine RK.M rfl ?_
 refine RK.V (op_len hT rfl rfl rfl (by rfl)) ?_
 refine RK.V (op_lss rfl rfl) ?_
 refine RK.M rfl ?_
 refine RK.split (t := 13) rfl (fun hg1 => ?_) (fun hg1 => ?_)
 ·have hg1_ := of_decide_eq_true hg1
  have hk4 : k < 4 := by have := of_decide_eq_true hg1; show k < 4; have e : (exL.length : Int) = 4 := rfl; omega
  refine RK.val (guard_yes rfl rfl hg1) (op_field_loc hT rfl rfl rfl rfl rfl rfl) ?_
  refine RK.val (guard_yes rfl rfl hg1) (op_load_one hT rfl rfl rfl rfl (by first | rfl | exact vget (by omega))) ?_
  refine RK.val (guard_yes rfl rfl hg1) (op_eql rfl rfl) ?_
  refine RK.V (op_pick_t rfl hg1 (rfl : _ = AV.p (.c _))) ?_
  refine RK.D ?_
  refine AWp_cond_true rfl (by decide) ?_
  refine AWp_skip ?_
  refine AWp_seq ?_
  refine AWp_block ?_
  refine AWp_region hP ?_
  refine RK.F hT rfl rfl rfl rfl rfl rfl ?_
  refine RK.V (op_load_agg hT rfl rfl rfl rfl (cs := [SL enD (exS k).1, SL enZ (exS k).2]) rfl rfl) ?_
  refine RK.M rfl ?_
  refine RK.M rfl ?_
  refine RK.V (op_indexG hT enD_len (by decide) zD (n := (k : Int)) (l := exL) rfl rfl rfl rfl rfl rfl (by omega)) ?_
  refine RK.V (op_load_ip_agg hT rfl rfl rfl (cs := enD (exL.getD k zD)) rfl rfl) ?_
  refine RK.V (Eff.call0 (p_ladd (exS k) (exL.getD k zD) (ex_srt k (by omega)) (by rw [ex_len k (by omega)]; omega))) ?_
  refine RK.S hT rfl rfl rfl rfl rfl rfl rfl ?_
  refine RK.D ?_
  refine AWp_region hP ?_
  refine RK.M rfl ?_
  refine RK.V (op_add rfl rfl (by first | exact IntWalk.i64_in _ (by omega) | rfl)) ?_
  refine RK.As rfl ?_
  refine RK.D ?_
  refine ⟨k + 1, by omega, by omega, le_stL ⟨.refl _, .refl _, Sub.int (by omega), trivial⟩ ⟨Eq.trans (congrArg (fun e : Int => some (⟨false, 1, 42, [SL enD (addB (exS k) (exL.getD k zD)).1, SL enZ (addB (exS k) (exL.getD k zD)).2, .v (.int .i64 e)]⟩ : Blk)) (ex_step k hk4).1) (congrArg (fun b : Book => some (⟨false, 1, 42, [SL enD b.1, SL enZ b.2, .v (.int .i64 0)]⟩ : Blk)) (ex_step k hk4).2), trivial⟩⟩
 ·have hg1_ := of_decide_eq_false hg1
  have hk5 : k = 4 := by have := of_decide_eq_false hg1; have e : (exL.length : Int) = 4 := rfl; omega
  subst hk5
  refine RK.skip (guard_no rfl rfl hg1) ?_
  refine RK.skip (guard_no rfl rfl hg1) ?_
  refine RK.skip (guard_no rfl rfl hg1) ?_
  refine RK.V (op_pick_f rfl hg1 (rfl : _ = AV.p (.c _))) ?_
  refine RK.D ?_
  refine AWp_cond_false rfl rfl ?_
  refine AWp_exit ?_
  refine AWp_seq ?_
  refine AWp_sr hP ?_
  refine RK.F hT rfl rfl rfl rfl rfl rfl ?_
  refine RK.V (op_load_one hT rfl rfl rfl rfl (by first | rfl | exact vget (by omega))) ?_
  refine RK.V (op_neq rfl rfl) ?_
  refine RK.M rfl ?_
  refine RK.val (guard_yes rfl rfl (by decide +kernel)) (op_field_loc hT rfl rfl rfl rfl rfl rfl) ?_
  refine RK.val (guard_yes rfl rfl (by decide +kernel)) (op_field_loc hT rfl rfl rfl rfl rfl rfl) ?_
  refine RK.val (guard_yes rfl rfl (by decide +kernel)) (op_load_one hT rfl rfl rfl rfl (by first | rfl | exact vget (by omega))) ?_
  refine RK.val (guard_yes rfl rfl (by decide +kernel)) (op_len hT rfl rfl rfl (by rfl)) ?_
  refine RK.val (guard_yes rfl rfl (by decide +kernel)) (op_neq rfl rfl) ?_
  refine RK.V (op_pick_f rfl (by decide +kernel) (rfl : _ = AV.p (.c _))) ?_
  refine RK.M rfl ?_
  refine RK.val (guard_yes rfl rfl (by decide +kernel)) (op_field_loc hT rfl rfl rfl rfl rfl rfl) ?_
  refine RK.val (guard_yes rfl rfl (by decide +kernel)) (op_load_agg hT rfl rfl rfl rfl (cs := [SL enD (exS 4).1, SL enZ (exS 4).2]) rfl rfl) ?_
  refine RK.val (guard_yes rfl rfl (by decide +kernel)) (Eff.call0 (p_RightB (exS 4))) ?_
  refine RK.val (guard_yes rfl rfl (by decide +kernel)) (op_unot rfl) ?_
  refine RK.V (op_pick_f rfl (by decide +kernel) (rfl : _ = AV.p (.c _))) ?_
  refine RK.M rfl ?_
  refine RK.val (guard_yes rfl rfl (by decide +kernel)) (op_field_loc hT rfl rfl rfl rfl rfl rfl) ?_
  refine RK.val (guard_yes rfl rfl (by decide +kernel)) (op_load_agg hT rfl rfl rfl rfl (cs := [SL enD (exS 4).1, SL enZ (exS 4).2]) rfl rfl) ?_
  refine RK.val (guard_yes rfl rfl (by decide +kernel)) (Eff.call0 (p_Holds (exS 4) cC ex_hok ex_hokD)) ?_
  refine RK.val (guard_yes rfl rfl (by decide +kernel)) (op_unot rfl) ?_
  refine RK.V (op_pick_f rfl (by decide +kernel) (rfl : _ = AV.p (.c _))) ?_
  refine RK.D ?_
  refine AWp_cond_false rfl (by decide +kernel) ?_
  refine AWp_skip ?_
  refine AWp_sr hP ?_
  refine RK.F hT rfl rfl rfl rfl rfl rfl ?_
  refine RK.V (op_load_agg hT rfl rfl rfl rfl (cs := [SL enD (exS 4).1, SL enZ (exS 4).2]) rfl rfl) ?_
  refine RK.V (Eff.call0 (p_lwithdraw (exS 4) 2 ex_hok)) ?_
  refine RK.F hT rfl rfl rfl rfl rfl rfl ?_
  refine RK.V (op_load_agg hT rfl rfl rfl rfl (cs := [SL enD (exS 4).1, SL enZ (exS 4).2]) rfl rfl) ?_
  refine RK.V (op_build_st hT rfl rfl rfl (es := enD (cB, [], [])) rfl) ?_
  refine RK.V (Eff.call0 (p_ladd (exS 4) (cB, [], []) (ex_srt 4 (by decide)) (by decide))) ?_
  refine RK.alc guard_none (op_alloc hT rfl rfl) ?_
  refine RK.alc guard_none (op_alloc hT rfl rfl) ?_
  refine RK.S hT rfl rfl rfl rfl rfl rfl rfl ?_
  refine RK.S hT rfl rfl rfl rfl rfl rfl rfl ?_
  refine RK.D ?_
  refine AWp_seq ?_
  refine AWp_sr hP ?_
  refine RK.F hT rfl rfl rfl rfl rfl rfl ?_
  refine RK.V (op_load_one hT rfl rfl rfl rfl (by first | rfl | exact vget (by omega))) ?_
  refine RK.V (op_neq rfl rfl) ?_
  refine RK.M rfl ?_
  refine RK.val (guard_yes rfl rfl (by decide +kernel)) (op_field_loc hT rfl rfl rfl rfl rfl rfl) ?_
  refine RK.val (guard_yes rfl rfl (by decide +kernel)) (op_load_one hT rfl rfl rfl rfl (by first | rfl | exact vget (by omega))) ?_
  refine RK.val (guard_yes rfl rfl (by decide +kernel)) (op_neq rfl rfl) ?_
  refine RK.V (op_pick_f rfl (by decide +kernel) (rfl : _ = AV.p (.c _))) ?_
  refine RK.M rfl ?_
  refine RK.val (guard_yes rfl rfl (by decide +kernel)) (op_field_loc hT rfl rfl rfl rfl rfl rfl) ?_
  refine RK.val (guard_yes rfl rfl (by decide +kernel)) (op_load_agg hT rfl rfl rfl rfl (cs := [SL enD (withdrawB (exS 4) 2).1, SL enZ (withdrawB (exS 4) 2).2]) rfl rfl) ?_
  refine RK.val (guard_yes rfl rfl (by decide +kernel)) (Eff.call0 (p_Holds (withdrawB (exS 4) 2) cC (by rw [ex_y]; exact fun n h => by cases h) (by rw [ex_y]; exact ex_hokD))) ?_
  refine RK.V (op_pick_f rfl (by decide +kernel) (rfl : _ = AV.p (.c _))) ?_
  refine RK.M rfl ?_
  refine RK.val (guard_yes rfl rfl (by decide +kernel)) (op_field_loc hT rfl rfl rfl rfl rfl rfl) ?_
  refine RK.val (guard_yes rfl rfl (by decide +kernel)) (op_load_agg hT rfl rfl rfl rfl (cs := [SL enD (addB (exS 4) (cB, [], [])).1, SL enZ (addB (exS 4) (cB, [], [])).2]) rfl rfl) ?_
  refine RK.val (guard_yes rfl rfl (by decide +kernel)) (Eff.call0 (p_Holds (addB (exS 4) (cB, [], [])) cC (by rw [ex_z.1]; exact ex_hok) (by rw [ex_z.1]; exact exZ_hokD))) ?_
  refine RK.val (guard_yes rfl rfl (by decide +kernel)) (op_unot rfl) ?_
  refine RK.V (op_pick_f rfl (by decide +kernel) (rfl : _ = AV.p (.c _))) ?_
  refine RK.M rfl ?_
  refine RK.val (guard_yes rfl rfl (by decide +kernel)) (op_field_loc hT rfl rfl rfl rfl rfl rfl) ?_
  refine RK.val (guard_yes rfl rfl (by decide +kernel)) (op_load_agg hT rfl rfl rfl rfl (cs := [SL enD (exS 4).1, SL enZ (exS 4).2]) rfl rfl) ?_
  refine RK.val (guard_yes rfl rfl (by decide +kernel)) (op_move (rfl : _ = AV.p (.c _))) ?_
  refine RK.val (guard_yes rfl rfl (by decide +kernel)) (op_indexG hT enD_len (by decide) zD (n := 0) (l := exL) rfl rfl rfl rfl rfl rfl (by decide)) ?_
  refine RK.val (guard_yes rfl rfl (by decide +kernel)) (op_load_ip_agg hT rfl rfl rfl (cs := enD (exL.getD 0 zD)) rfl rfl) ?_
  refine RK.val (guard_yes rfl rfl (by decide +kernel)) (Eff.call0 (p_ladd (exS 4) (cA, [], []) (ex_srt 4 (by decide)) (by decide))) ?_
  refine RK.val (guard_yes rfl rfl (by decide +kernel)) (op_field_one hT rfl rfl rfl rfl rfl rfl rfl) ?_
  refine RK.val (guard_yes rfl rfl (by decide +kernel)) (op_neq rfl rfl) ?_
  refine RK.V (op_pick_f rfl (by decide +kernel) (rfl : _ = AV.p (.c _))) ?_
  refine RK.M rfl ?_
  refine RK.val (guard_yes rfl rfl (by decide +kernel)) (op_field_loc hT rfl rfl rfl rfl rfl rfl) ?_
  refine RK.val (guard_yes rfl rfl (by decide +kernel)) (op_load_agg hT rfl rfl rfl rfl (cs := [SL enD (exS 4).1, SL enZ (exS 4).2]) rfl rfl) ?_
  refine RK.val (guard_yes rfl rfl (by decide +kernel)) (Eff.call0 (p_lgrant (exS 4) 17 ex_hok)) ?_
  refine RK.val (guard_yes rfl rfl (by decide +kernel)) (op_field_one hT rfl rfl rfl rfl rfl rfl rfl) ?_
  refine RK.val (guard_yes rfl rfl (by decide +kernel)) (op_neq rfl rfl) ?_
  refine RK.V (op_pick_f rfl (by decide +kernel) (rfl : _ = AV.p (.c _))) ?_
  refine RK.D ?_
  refine AWp_cond_false rfl (by decide +kernel) ?_
  refine AWp_skip ?_
  refine AWp_sr hP ?_
  refine RK.F hT rfl rfl rfl rfl rfl rfl ?_
  refine RK.V (op_load_agg hT rfl rfl rfl rfl (cs := [SL enD (exS 4).1, SL enZ (exS 4).2]) rfl rfl) ?_
  refine RK.V (Eff.call0 (p_Needs (exS 4) cC ex_hok ex_hokD)) ?_
  refine RK.V (op_bslice hT rfl rfl rfl (es := enZ 1 ++ enZ 3) rfl rfl rfl) ?_
  refine RK.V (op_bslice hT rfl rfl rfl (es := enZ 2) rfl rfl rfl) ?_
  refine RK.V (op_bslice hT rfl rfl rfl (es := enL [1, 3] ++ enL [2]) rfl rfl rfl) ?_
  refine RK.V (Eff.call0 (p_rsets (ndL (exS 4).1 cC) [[1, 3], [2]])) ?_
  refine RK.M rfl ?_
  refine RK.val (guard_yes rfl rfl (decide_eq_true ex_nd)) (op_field_loc hT rfl rfl rfl rfl rfl rfl) ?_
  refine RK.val (guard_yes rfl rfl (decide_eq_true ex_nd)) (op_load_agg hT rfl rfl rfl rfl (cs := [SL enD (exS 4).1, SL enZ (exS 4).2]) rfl rfl) ?_
  refine RK.val (guard_yes rfl rfl (decide_eq_true ex_nd)) (Eff.call0 (p_Uses (exS 4) cC ex_hok ex_hokD (Nat.le_trans (us_len _ _) (by decide)))) ?_
  refine RK.val (guard_yes rfl rfl (decide_eq_true ex_nd)) (op_bslice hT rfl rfl rfl (es := enS cA ++ enS cB) rfl rfl rfl) ?_
  refine RK.val (guard_yes rfl rfl (decide_eq_true ex_nd)) (Eff.call0 (p_rtexts (usL (exS 4) cC) [cA, cB])) ?_
  refine RK.V (op_pick_t rfl (decide_eq_true ex_nd) (rfl : _ = AV.p (.c _))) ?_
  refine RK.M rfl ?_
  refine RK.val (guard_yes rfl rfl (decide_eq_true ex_us)) (op_field_loc hT rfl rfl rfl rfl rfl rfl) ?_
  refine RK.val (guard_yes rfl rfl (decide_eq_true ex_us)) (op_load_agg hT rfl rfl rfl rfl (cs := [SL enD (addB (exS 4) (cB, [], [])).1, SL enZ (addB (exS 4) (cB, [], [])).2]) rfl rfl) ?_
  refine RK.val (guard_yes rfl rfl (decide_eq_true ex_us)) (Eff.call0 (p_Needs (addB (exS 4) (cB, [], [])) cC (by rw [ex_z.1]; exact ex_hok) (by rw [ex_z.1]; exact exZ_hokD))) ?_
  refine RK.val (guard_yes rfl rfl (decide_eq_true ex_us)) (op_bslice hT rfl rfl rfl (es := []) rfl rfl rfl) ?_
  refine RK.val (guard_yes rfl rfl (decide_eq_true ex_us)) (op_bslice hT rfl rfl rfl (es := enL []) rfl rfl rfl) ?_
  refine RK.val (guard_yes rfl rfl (decide_eq_true ex_us)) (Eff.call0 (p_rsets (ndL (addB (exS 4) (cB, [], [])).1 cC) [[]])) ?_
  refine RK.V (op_pick_t rfl (decide_eq_true ex_us) (rfl : _ = AV.p (.c _))) ?_
  refine RK.M rfl ?_
  refine RK.val (guard_yes rfl rfl (decide_eq_true (by rw [ex_z.1]; exact ex_ndz))) (op_field_loc hT rfl rfl rfl rfl rfl rfl) ?_
  refine RK.val (guard_yes rfl rfl (decide_eq_true (by rw [ex_z.1]; exact ex_ndz))) (op_load_agg hT rfl rfl rfl rfl (cs := [SL enD (addB (exS 4) (cB, [], [])).1, SL enZ (addB (exS 4) (cB, [], [])).2]) rfl rfl) ?_
  refine RK.val (guard_yes rfl rfl (decide_eq_true (by rw [ex_z.1]; exact ex_ndz))) (Eff.call0 (p_Uses (addB (exS 4) (cB, [], [])) cC (by rw [ex_z.1]; exact ex_hok) (by rw [ex_z.1]; exact exZ_hokD) (Nat.le_trans (us_len _ _) (by rw [ex_z.1]; decide)))) ?_
  refine RK.val (guard_yes rfl rfl (decide_eq_true (by rw [ex_z.1]; exact ex_ndz))) (op_bslice hT rfl rfl rfl (es := enS cB) rfl rfl rfl) ?_
  refine RK.val (guard_yes rfl rfl (decide_eq_true (by rw [ex_z.1]; exact ex_ndz))) (Eff.call0 (p_rtexts (usL (addB (exS 4) (cB, [], [])) cC) [cB])) ?_
  refine RK.V (op_pick_t rfl (decide_eq_true (by rw [ex_z.1]; exact ex_ndz)) (rfl : _ = AV.p (.c _))) ?_
  refine RK.As rfl ?_
  refine RK.D ?_
  refine AWp_ret ?_
  refine ends_one rfl (.inr rfl) (res_tmp rfl) ?_ O_ends
  exact Sub.bool (decide_eq_true (by rw [ex_z.1]; exact ex_usz))
end Go.Proofs.YtmoaoiakmmbpoaaGreatDoor
end

section
/- chapter 30: the reference: Remove, Grant, Withdraw; equal results -/
namespace Go.Proofs.YtmoaoiakmmbpoaaGreatDoor
open Go Go.AM
end Go.Proofs.YtmoaoiakmmbpoaaGreatDoor
end

section
/- chapter 30: MatchesReference -/
namespace Go.Proofs.YtmoaoiakmmbpoaaGreatDoor
open Go Go.AM
end Go.Proofs.YtmoaoiakmmbpoaaGreatDoor
end

section
/- chapter 30: the reference: rounds -/
namespace Go.Proofs.YtmoaoiakmmbpoaaGreatDoor
open Go Go.AM
/- algorist/algoristref30.place -/
set_option maxHeartbeats 1000000 in
set_option maxRecDepth 100000 in
theorem p_place (l : List Str) (s : Str) :
  Call0 Tryz.prog 54 [.p (.c (SL enS l)), AS s] (Z (fiX (fun x : Str => decide (x = s)) l)) := by
 refine callM_of (np := 0) Tryz.func54 (by kernel_rfl) rfl rfl (Nat.le_of_ble_eq_true rfl) (fun m h => absurd rfl h) (fun m h => absurd rfl h) rfl ?_
 refine AWp_len (t := 0) rfl rfl (fun hlen => ?_)
 refine AWp_sr hP ?_
 refine RK.As rfl ?_
 refine RK.D ?_
 refine AWp_seq ?_
 refine AWp_sr hP ?_
 refine RK.As rfl ?_
 refine RK.D ?_
 refine AWp_block ?_
 refine AWp_loop (ι := Nat) (fun k => stL [(0, .p (.c (SL enS l))), (1, AS s), (5, Z (k : Int))] []) (fun k => k ≤ l.length ∧ k ≤ l.findIdx (fun x : Str => decide (x = s))) (fun k => l.length - k) 0 ⟨Nat.zero_le _, Nat.zero_le _⟩ (le_stL ⟨.refl _, .refl _, .refl _, trivial⟩ trivial) ?_
 rintro k ⟨hk, hI⟩
 refine AWp_seq ?_
 refine AWp_sr hP ?_
 refine RK.M rfl ?_
 refine RK.M rfl ?_
 refine RK.V (op_len hT rfl rfl rfl (by rfl)) ?_
 refine RK.V (op_lss rfl rfl) ?_
 refine RK.D ?_
 refine AWp_cond rfl (fun hb1 => ?_) (fun hb1 => ?_)
 ·have hb1_ := of_decide_eq_true hb1
  refine AWp_skip ?_
  refine AWp_seq ?_
  refine AWp_block ?_
  refine AWp_sr hP ?_
  refine RK.M rfl ?_
  refine RK.M rfl ?_
  refine RK.V (op_indexG hT enS_len (by decide) [] (n := (k : Int)) (l := l) rfl rfl rfl rfl rfl rfl (by omega)) ?_
  refine RK.V (op_load_ip_one hT rfl rfl rfl rfl) ?_
  refine RK.M rfl ?_
  refine RK.V (op_seql rfl rfl) ?_
  refine RK.D ?_
  refine AWp_cond rfl (fun hb2 => ?_) (fun hb2 => ?_)
  ·have hy : (fun x : Str => decide (x = s)) (l.getD k []) = true := hb2
   refine AWp_sr hP ?_
   refine RK.M rfl ?_
   refine RK.As rfl ?_
   refine RK.D ?_
   refine AWp_ret ?_
   refine ends_one rfl (.inr rfl) (res_tmp rfl) ?_ O_ends
   first | exact Sub.int (fiX_yes (d := []) hI (by omega) hy).symm | exact Sub.int (fiX_end hI (by omega)).symm
  ·have hn : (fun x : Str => decide (x = s)) (l.getD k []) = false := hb2
   refine AWp_skip ?_
   refine AWp_region hP ?_
   refine RK.M rfl ?_
   refine RK.V (op_add rfl rfl (by first | exact IntWalk.i64_in _ (by omega) | rfl)) ?_
   refine RK.As rfl ?_
   refine RK.D ?_
   refine ⟨k + 1, ⟨by omega, fiX_no (d := []) hI (by omega) hn⟩, by omega, le_stL ⟨.refl _, .refl _, Sub.int (by omega), trivial⟩ trivial⟩
 ·have hb1_ := of_decide_eq_false hb1
  refine AWp_exit ?_
  refine AWp_sr hP ?_
  refine RK.As rfl ?_
  refine RK.D ?_
  refine AWp_ret ?_
  refine ends_one rfl (.inr rfl) (res_tmp rfl) ?_ O_ends
  first | exact Sub.int (fiX_yes (d := []) hI (by omega) hy).symm | exact Sub.int (fiX_end hI (by omega)).symm
/- algorist/algoristref30.in -/
set_option maxHeartbeats 1000000 in
set_option maxRecDepth 100000 in
theorem p_rin (a l : List Int) :
  Call0 Tryz.prog 116 [.p (.c (SL enZ a)), .p (.c (SL enZ l))] (B (a.all fun n => decide (n ∈ l))) := by
 refine callM_of (np := 0) Tryz.func116 (by kernel_rfl) rfl rfl (Nat.le_of_ble_eq_true rfl) (fun m h => absurd rfl h) (fun m h => absurd rfl h) rfl ?_
 refine AWp_len (t := 0) rfl rfl (fun hlen => ?_)
 refine AWp_sr hP ?_
 refine RK.As rfl ?_
 refine RK.D ?_
 refine AWp_seq ?_
 refine AWp_sr hP ?_
 refine RK.As rfl ?_
 refine RK.D ?_
 refine AWp_block ?_
 refine AWp_loop (ι := Nat) (fun k => stL [(0, .p (.c (SL enZ a))), (1, .p (.c (SL enZ l))), (5, Z (k : Int))] []) (fun k => k ≤ a.length ∧ ∀ i, i < k → a.getD i 0 ∈ l) (fun k => a.length - k) 0 ⟨Nat.zero_le _, fun i h => by omega⟩ (le_stL ⟨.refl _, .refl _, .refl _, trivial⟩ trivial) ?_
 rintro k ⟨hk, hI⟩
 refine AWp_seq ?_
 refine AWp_sr hP ?_
 refine RK.M rfl ?_
 refine RK.M rfl ?_
 refine RK.V (op_len hT rfl rfl rfl (by rfl)) ?_
 refine RK.V (op_lss rfl rfl) ?_
 refine RK.D ?_
 refine AWp_cond rfl (fun hb1 => ?_) (fun hb1 => ?_)
 ·have hb1_ := of_decide_eq_true hb1
  refine AWp_skip ?_
  refine AWp_seq ?_
  refine AWp_block ?_
  refine AWp_sr hP ?_
  refine RK.M rfl ?_
  refine RK.M rfl ?_
  refine RK.M rfl ?_
  refine RK.V (op_indexG hT enZ_len (by decide) 0 (n := (k : Int)) (l := a) rfl rfl rfl rfl rfl rfl (by omega)) ?_
  refine RK.V (op_load_ip_one hT rfl rfl rfl rfl) ?_
  refine RK.V (Eff.call0 (p_rHas l (a.getD k 0))) ?_
  refine RK.V (op_unot rfl) ?_
  refine RK.D ?_
  refine AWp_cond rfl (fun hb2 => ?_) (fun hb2 => ?_)
  ·have hb2_ := (notT hb2)
   have hn := of_decide_eq_false (notT hb2)
   refine AWp_sr hP ?_
   refine RK.As rfl ?_
   refine RK.D ?_
   refine AWp_ret ?_
   refine ends_one rfl (.inr rfl) (res_tmp rfl) ?_ O_ends
   first | exact Sub.bool (inZ_n (k := k) (by omega) hn) | exact Sub.bool (inZ_y (fun i hi => hI i (by omega)))
  ·have hb2_ := (notF hb2)
   have hy := of_decide_eq_true (notF hb2)
   refine AWp_skip ?_
   refine AWp_region hP ?_
   refine RK.M rfl ?_
   refine RK.V (op_add rfl rfl (by first | exact IntWalk.i64_in _ (by omega) | rfl)) ?_
   refine RK.As rfl ?_
   refine RK.D ?_
   refine ⟨k + 1, ⟨by omega, fun i h1 => by
     by_cases e : i = k
     ·subst e; exact hy
     ·exact hI i (by omega)⟩, by omega, le_stL ⟨.refl _, .refl _, Sub.int (by omega), trivial⟩ trivial⟩
 ·have hb1_ := of_decide_eq_false hb1
  refine AWp_exit ?_
  refine AWp_sr hP ?_
  refine RK.As rfl ?_
  refine RK.D ?_
  refine AWp_ret ?_
  refine ends_one rfl (.inr rfl) (res_tmp rfl) ?_ O_ends
  first | exact Sub.bool (inZ_n (k := k) (by omega) hn) | exact Sub.bool (inZ_y (fun i hi => hI i (by omega)))
/- algorist/algoristref30.found -/
set_option maxHeartbeats 2000000 in
set_option maxRecDepth 100000 in
theorem p_found (S : List Str) (q : DV) (d : Drv) (hs : List Int) :
  Call0 Tryz.prog 84 [.p (.a [SL enS S, q]), .p (.a (enD d)), .p (.c (SL enZ hs))] (B (canU S (okL hs) d)) := by
 refine callM_of (np := 0) Tryz.func84 (by kernel_rfl) rfl rfl (Nat.le_of_ble_eq_true rfl) (fun m h => absurd rfl h) (fun m h => absurd rfl h) rfl ?_
 refine AWp_lenA 1 1 (n := d.2.1.length) rfl rfl (fun hlen => ?_)
 refine AWp_sr hP ?_
 refine RK.alc guard_none (op_box rfl rfl) ?_
 refine RK.alc guard_none (op_box rfl rfl) ?_
 refine RK.As rfl ?_
 refine RK.D ?_
 refine AWp_seq ?_
 refine AWp_sr hP ?_
 refine RK.As rfl ?_
 refine RK.D ?_
 refine AWp_block ?_
 refine AWp_loop (ι := Nat) (fun k => stL [(2, .p (.c (SL enZ hs))), (3, .loc 3 0), (4, .loc 4 0), (7, Z (k : Int))] [(3, ⟨false, 1, 97, [SL enS S, q]⟩), (4, ⟨false, 1, 45, enD d⟩)]) (fun k => k ≤ d.2.1.length ∧ ∀ i, i < k → d.2.1.getD i [] ∈ S) (fun k => d.2.1.length - k) 0 ⟨Nat.zero_le _, fun i h => by omega⟩ (le_stL ⟨.refl _, .refl _, .refl _, .refl _, trivial⟩ ⟨rfl, rfl, trivial⟩) ?_
 rintro k ⟨hk, hI⟩
 refine AWp_seq ?_
 refine AWp_sr hP ?_
 refine RK.M rfl ?_
 refine RK.F hT rfl rfl rfl rfl rfl rfl ?_
 refine RK.V (op_load_one hT rfl rfl rfl rfl (by first | rfl | exact vget (by omega))) ?_
 refine RK.V (op_len hT rfl rfl rfl (by rfl)) ?_
 refine RK.V (op_lss rfl rfl) ?_
 refine RK.D ?_
 refine AWp_cond rfl (fun hb1 => ?_) (fun hb1 => ?_)
 ·have hb1_ := of_decide_eq_true hb1
  refine AWp_skip ?_
  refine AWp_seq ?_
  refine AWp_block ?_
  refine AWp_sr hP ?_
  refine RK.F hT rfl rfl rfl rfl rfl rfl ?_
  refine RK.V (op_load_one hT rfl rfl rfl rfl (by first | rfl | exact vget (by omega))) ?_
  refine RK.F hT rfl rfl rfl rfl rfl rfl ?_
  refine RK.V (op_load_one hT rfl rfl rfl rfl (by first | rfl | exact vget (by omega))) ?_
  refine RK.M rfl ?_
  refine RK.V (op_indexG hT enS_len (by decide) [] (n := (k : Int)) (l := d.2.1) rfl rfl rfl rfl rfl rfl (by omega)) ?_
  refine RK.V (op_load_ip_one hT rfl rfl rfl rfl) ?_
  refine RK.V (Eff.call0 (p_place S (d.2.1.getD k []))) ?_
  refine RK.V (op_lss rfl rfl) ?_
  refine RK.D ?_
  refine AWp_cond rfl (fun hb2 => ?_) (fun hb2 => ?_)
  ·have hb2_ := of_decide_eq_true hb2
   have hn := pl_n hb2_
   refine AWp_sr hP ?_
   refine RK.As rfl ?_
   refine RK.D ?_
   refine AWp_ret ?_
   refine ends_one rfl (.inr rfl) (res_tmp rfl) ?_ O_ends
   first | exact Sub.bool (fnd_n1 (k := k) (by omega) hn) | exact Sub.bool (fnd_y (fun i hi => hI i (by omega)))
  ·have hb2_ := of_decide_eq_false hb2
   have hy := pl_y hb2_
   refine AWp_skip ?_
   refine AWp_region hP ?_
   refine RK.M rfl ?_
   refine RK.V (op_add rfl rfl (by first | exact IntWalk.i64_in _ (by omega) | rfl)) ?_
   refine RK.As rfl ?_
   refine RK.D ?_
   refine ⟨k + 1, ⟨by omega, fun i h1 => by
     by_cases e : i = k
     ·subst e; exact hy
     ·exact hI i (by omega)⟩, by omega, le_stL ⟨.refl _, .refl _, .refl _, Sub.int (by omega), trivial⟩ ⟨rfl, rfl, trivial⟩⟩
 ·have hb1_ := of_decide_eq_false hb1
  refine AWp_exit ?_
  refine AWp_sr hP ?_
  refine RK.F hT rfl rfl rfl rfl rfl rfl ?_
  refine RK.V (op_load_one hT rfl rfl rfl rfl (by first | rfl | exact vget (by omega))) ?_
  refine RK.M rfl ?_
  refine RK.V (Eff.call0 (p_rin d.2.2 hs)) ?_
  refine RK.As rfl ?_
  refine RK.D ?_
  refine AWp_ret ?_
  refine ends_one rfl (.inr rfl) (res_tmp rfl) ?_ O_ends
  first | exact Sub.bool (fnd_n1 (k := k) (by omega) hn) | exact Sub.bool (fnd_y (fun i hi => hI i (by omega)))
/- algorist/algoristref30.rounds -/
set_option maxHeartbeats 4000000 in
set_option maxRecDepth 100000 in
theorem p_rounds (b : Book) (hs : List Int) (hl : b.1.length ≤ 1000000) :
  Call0 Tryz.prog 71 [.p (.a (enBk b)), .p (.c (SL enZ hs))] (.p (.a [SL enS (cls (finD b.1 (okL hs))), SL enZ (rks (finD b.1 (okL hs)))])) := by
 refine callM_of (np := 0) Tryz.func71 (by kernel_rfl) rfl rfl (Nat.le_of_ble_eq_true rfl) (fun m h => absurd rfl h) (fun m h => absurd rfl h) rfl ?_
 refine AWp_sr hP ?_
 refine RK.alc guard_none (op_box rfl rfl) ?_
 refine RK.alc guard_none (op_alloc hT rfl rfl) ?_
 refine RK.D ?_
 refine AWp_sr hP ?_
 refine RK.V (op_build_st hT rfl rfl rfl (es := [_, _]) rfl) ?_
 refine RK.alc guard_none (op_alloc hT rfl rfl) ?_
 refine RK.S hT rfl rfl rfl rfl rfl rfl rfl ?_
 refine RK.D ?_
 refine AWp_seq ?_
 refine AWp_sr hP ?_
 refine RK.As rfl ?_
 refine RK.D ?_
 refine AWp_block ?_
 refine AWp_loop (ι := Nat) (fun k => stL [(1, .p (.c (SL enZ hs))), (2, .loc 2 0), (4, .loc 4 0), (5, .loc 5 0), (6, Z ((k : Int) + 1))] [(2, ⟨false, 1, 27, enBk b⟩), (4, ⟨false, 1, 97, [.sl 0 [], .sl 0 []]⟩), (5, ⟨false, 1, 97, [SL enS (cls (rds b.1 (okL hs) k)), SL enZ (rks (rds b.1 (okL hs) k))]⟩)]) (fun k => k ≤ b.1.length + 1) (fun k => b.1.length + 1 - k) 0 (Nat.zero_le _) (le_stL ⟨.refl _, .refl _, .refl _, .refl _, .refl _, trivial⟩ ⟨rfl, rfl, rfl, trivial⟩) ?_
 rintro k hk
 refine AWp_seq ?_
 refine AWp_sr hP ?_
 refine RK.M rfl ?_
 refine RK.F hT rfl rfl rfl rfl rfl rfl ?_
 refine RK.V (op_load_one hT rfl rfl rfl rfl (by first | rfl | exact vget (by omega))) ?_
 refine RK.V (op_len hT rfl rfl rfl (by rfl)) ?_
 refine RK.V (op_add rfl rfl (by first | exact IntWalk.i64_in _ (by omega) | rfl)) ?_
 refine RK.V (op_leq rfl rfl) ?_
 refine RK.D ?_
 refine AWp_cond rfl (fun hb1 => ?_) (fun hb1 => ?_)
 ·have hb1_ := of_decide_eq_true hb1
  refine AWp_skip ?_
  refine AWp_seq ?_
  refine AWp_block ?_
  refine AWp_sr hP ?_
  refine RK.G2 hT rfl rfl rfl rfl rfl rfl ?_
  refine RK.alc guard_none (op_alloc hT rfl rfl) ?_
  refine RK.S hT rfl rfl rfl rfl rfl rfl rfl ?_
  refine RK.D ?_
  refine AWp_seq ?_
  refine AWp_sr hP ?_
  refine RK.As rfl ?_
  refine RK.D ?_
  refine AWp_block ?_
  refine AWp_loop (ι := Nat) (fun j => stL [(1, .p (.c (SL enZ hs))), (2, .loc 2 0), (4, .loc 4 0), (5, .loc 5 0), (6, Z ((k : Int) + 1)), (7, .loc 7 0), (8, Z (j : Int))] [(2, ⟨false, 1, 27, enBk b⟩), (4, ⟨false, 1, 97, [.sl 0 [], .sl 0 []]⟩), (5, ⟨false, 1, 97, [SL enS (cls (rds b.1 (okL hs) k)), SL enZ (rks (rds b.1 (okL hs) k))]⟩), (7, ⟨false, 1, 97, [SL enS (cls (rndL (cls (rds b.1 (okL hs) k)) (okL hs) (k + 1) (b.1.take j) (rds b.1 (okL hs) k))), SL enZ (rks (rndL (cls (rds b.1 (okL hs) k)) (okL hs) (k + 1) (b.1.take j) (rds b.1 (okL hs) k)))]⟩)]) (fun j => j ≤ b.1.length) (fun j => b.1.length - j) 0 (Nat.zero_le _) (le_stL ⟨.refl _, .refl _, .refl _, .refl _, .refl _, .refl _, .refl _, trivial⟩ ⟨rfl, rfl, rfl, rfl, trivial⟩) ?_
  rintro j hj
  refine AWp_seq ?_
  refine AWp_sr hP ?_
  refine RK.M rfl ?_
  refine RK.F hT rfl rfl rfl rfl rfl rfl ?_
  refine RK.V (op_load_one hT rfl rfl rfl rfl (by first | rfl | exact vget (by omega))) ?_
  refine RK.V (op_len hT rfl rfl rfl (by rfl)) ?_
  refine RK.V (op_lss rfl rfl) ?_
  refine RK.D ?_
  refine AWp_cond rfl (fun hb2 => ?_) (fun hb2 => ?_)
  ·have hb2_ := of_decide_eq_true hb2
   have hjl : j < b.1.length := by omega
   have hnl : (rndL (cls (rds b.1 (okL hs) k)) (okL hs) (k + 1) (b.1.take j) (rds b.1 (okL hs) k)).length ≤ 2000000 := Nat.le_trans (rndL_grow _ _ _ _ _) (by have := rds_len (D := b.1) (ok := okL hs) k; rw [List.length_take]; omega)
   refine AWp_skip ?_
   refine AWp_seq ?_
   refine AWp_block ?_
   refine AWp_sr hP ?_
   refine RK.F hT rfl rfl rfl rfl rfl rfl ?_
   refine RK.V (op_load_one hT rfl rfl rfl rfl (by first | rfl | exact vget (by omega))) ?_
   refine RK.F hT rfl rfl rfl rfl rfl rfl ?_
   refine RK.V (op_load_one hT rfl rfl rfl rfl (by first | rfl | exact vget (by omega))) ?_
   refine RK.M rfl ?_
   refine RK.V (op_indexG hT enD_len (by decide) zD (n := (j : Int)) (l := b.1) rfl rfl rfl rfl rfl rfl (by omega)) ?_
   refine RK.V (op_field_ip hT rfl rfl rfl rfl rfl rfl) ?_
   refine RK.V (op_load_ip_one hT rfl rfl rfl rfl) ?_
   refine RK.V (Eff.call0 (p_place (cls (rndL (cls (rds b.1 (okL hs) k)) (okL hs) (k + 1) (b.1.take j) (rds b.1 (okL hs) k))) (b.1.getD j zD).1)) ?_
   refine RK.V (op_lss rfl rfl) ?_
   refine RK.M rfl ?_
   refine RK.split (t := 36) rfl (fun hg3 => ?_) (fun hg3 => ?_)
   ·have hg3_ := of_decide_eq_true hg3
    have hp := pl_n hg3_
    refine RK.val (guard_yes rfl rfl hg3) (op_load_agg hT rfl rfl rfl rfl (cs := [_, _]) rfl rfl) ?_
    refine RK.val (guard_yes rfl rfl hg3) (op_field_loc hT rfl rfl rfl rfl rfl rfl) ?_
    refine RK.val (guard_yes rfl rfl hg3) (op_load_one hT rfl rfl rfl rfl (by first | rfl | exact vget (by omega))) ?_
    refine RK.val (guard_yes rfl rfl hg3) (op_move (rfl : _ = AV.p (.c _))) ?_
    refine RK.val (guard_yes rfl rfl hg3) (op_indexG hT enD_len (by decide) zD (n := (j : Int)) (l := b.1) rfl rfl rfl rfl rfl rfl (by omega)) ?_
    refine RK.val (guard_yes rfl rfl hg3) (op_load_ip_agg hT rfl rfl rfl (cs := enD (b.1.getD j zD)) rfl rfl) ?_
    refine RK.val (guard_yes rfl rfl hg3) (op_move (rfl : _ = AV.p (.c _))) ?_
    refine RK.val (guard_yes rfl rfl hg3) (Eff.call0 (p_found (cls (rds b.1 (okL hs) k)) (SL enZ (rks (rds b.1 (okL hs) k))) (b.1.getD j zD) hs)) ?_
    refine RK.V (op_pick_t rfl hg3 (rfl : _ = AV.p (.c _))) ?_
    refine RK.D ?_
    refine AWp_cond rfl (fun hb4 => ?_) (fun hb4 => ?_)
    ·have hf := hb4
     refine AWp_region hP ?_
     refine RK.alc guard_none (op_bslice_vec hT rfl rfl rfl (es := []) rfl rfl rfl) ?_
     refine RK.F hT rfl rfl rfl rfl rfl rfl ?_
     refine RK.V (op_load_one hT rfl rfl rfl rfl (by first | rfl | exact vget (by omega))) ?_
     refine RK.app guard_none (op_appendL hT enS_len (by decide) (l := []) (l' := cls (rndL (cls (rds b.1 (okL hs) k)) (okL hs) (k + 1) (b.1.take j) (rds b.1 (okL hs) k))) rfl rfl rfl rfl rfl rfl rfl rfl (by rw [List.length_nil, cls_len]; omega) (by decide) (by decide)) ?_
     refine RK.F hT rfl rfl rfl rfl rfl rfl ?_
     refine RK.V (op_load_one hT rfl rfl rfl rfl (by first | rfl | exact vget (by omega))) ?_
     refine RK.M rfl ?_
     refine RK.V (op_indexG hT enD_len (by decide) zD (n := (j : Int)) (l := b.1) rfl rfl rfl rfl rfl rfl (by omega)) ?_
     refine RK.V (op_field_ip hT rfl rfl rfl rfl rfl rfl) ?_
     refine RK.V (op_load_ip_one hT rfl rfl rfl rfl) ?_
     refine RK.V (op_bslice hT rfl rfl rfl (es := [_]) rfl rfl rfl) ?_
     refine RK.app guard_none (op_appendG (encD := enS) hT enS_len (by decide) rfl rfl rfl rfl rfl rfl rfl (b := (b.1.getD j zD).1) rfl (by rw [List.nil_append, cls_len]; omega) (by decide) (by decide)) ?_
     refine RK.alc guard_none (op_bslice_vec hT rfl rfl rfl (es := []) rfl rfl rfl) ?_
     refine RK.F hT rfl rfl rfl rfl rfl rfl ?_
     refine RK.V (op_load_one hT rfl rfl rfl rfl (by first | rfl | exact vget (by omega))) ?_
     refine RK.app guard_none (op_appendL hT enZ_len (by decide) (l := []) (l' := rks (rndL (cls (rds b.1 (okL hs) k)) (okL hs) (k + 1) (b.1.take j) (rds b.1 (okL hs) k))) rfl rfl rfl rfl rfl rfl rfl rfl (by rw [List.length_nil, rks_len]; omega) (by decide) (by decide)) ?_
     refine RK.M rfl ?_
     refine RK.V (op_bslice hT rfl rfl rfl (es := [_]) rfl rfl rfl) ?_
     refine RK.app guard_none (op_appendG (encD := enZ) hT enZ_len (by decide) rfl rfl rfl rfl rfl rfl rfl (b := ((k + 1 : Nat) : Int)) rfl (by rw [List.nil_append, rks_len]; omega) (by decide) (by decide)) ?_
     refine RK.mutL guard_none (Eff.frzT2 enS_len enZ_len rfl rfl 57 57 64 64 rfl rfl rfl rfl rfl rfl (fun _ => op_build_st hT rfl rfl rfl (es := [_, _]) rfl)) ?_
     refine RK.S hT rfl rfl rfl rfl rfl rfl rfl ?_
     refine RK.D ?_
     refine AWp_region hP ?_
     refine RK.M rfl ?_
     refine RK.V (op_add rfl rfl (by first | exact IntWalk.i64_in _ (by omega) | rfl)) ?_
     refine RK.As rfl ?_
     refine RK.D ?_
     refine ⟨j + 1, by omega, by omega, le_stL ⟨.refl _, .refl _, .refl _, .refl _, .refl _, .refl _, Sub.int (by omega), trivial⟩ ⟨rfl, rfl, rfl, rd_own (rd_y hp hf).1 (rd_y hp hf).2 (rndL_take hjl), trivial⟩⟩
    ·have hf := hb4
     refine AWp_skip ?_
     refine AWp_region hP ?_
     refine RK.M rfl ?_
     refine RK.V (op_add rfl rfl (by first | exact IntWalk.i64_in _ (by omega) | rfl)) ?_
     refine RK.As rfl ?_
     refine RK.D ?_
     refine ⟨j + 1, by omega, by omega, le_stL ⟨.refl _, .refl _, .refl _, .refl _, .refl _, .refl _, Sub.int (by omega), trivial⟩ ⟨rfl, rfl, rfl, Eq.trans rfl (congrArg (fun f : Fnd => some (⟨false, 1, 97, [SL enS (cls f), SL enZ (rks f)]⟩ : Blk)) ((rd_n2 hf).symm.trans (rndL_take hjl).symm)), trivial⟩⟩
   ·have hg3_ := of_decide_eq_false hg3
    have hp := pl_y hg3_
    refine RK.skip (guard_no rfl rfl hg3) ?_
    refine RK.skip (guard_no rfl rfl hg3) ?_
    refine RK.skip (guard_no rfl rfl hg3) ?_
    refine RK.skip (guard_no rfl rfl hg3) ?_
    refine RK.skip (guard_no rfl rfl hg3) ?_
    refine RK.skip (guard_no rfl rfl hg3) ?_
    refine RK.skip (guard_no rfl rfl hg3) ?_
    refine RK.skip (guard_no rfl rfl hg3) ?_
    refine RK.V (op_pick_f rfl hg3 (rfl : _ = AV.p (.c _))) ?_
    refine RK.D ?_
    refine AWp_cond_false rfl rfl ?_
    refine AWp_skip ?_
    refine AWp_region hP ?_
    refine RK.M rfl ?_
    refine RK.V (op_add rfl rfl (by first | exact IntWalk.i64_in _ (by omega) | rfl)) ?_
    refine RK.As rfl ?_
    refine RK.D ?_
    refine ⟨j + 1, by omega, by omega, le_stL ⟨.refl _, .refl _, .refl _, .refl _, .refl _, .refl _, Sub.int (by omega), trivial⟩ ⟨rfl, rfl, rfl, Eq.trans rfl (congrArg (fun f : Fnd => some (⟨false, 1, 97, [SL enS (cls f), SL enZ (rks f)]⟩ : Blk)) ((rd_n1 hp).symm.trans (rndL_take hjl).symm)), trivial⟩⟩
  ·have hb2_ := of_decide_eq_false hb2
   have hje := rnd_end (b := b) (hs := hs) (k := k) (j := j) (by omega)
   rw [hje]
   refine AWp_exit ?_
   refine AWp_region hP ?_
   refine RK.G2 hT rfl rfl rfl rfl rfl rfl ?_
   refine RK.S hT rfl rfl rfl rfl rfl rfl rfl ?_
   refine RK.D ?_
   refine AWp_region hP ?_
   refine RK.M rfl ?_
   refine RK.V (op_add rfl rfl (by first | exact IntWalk.i64_in _ (by omega) | rfl)) ?_
   refine RK.As rfl ?_
   refine RK.D ?_
   refine ⟨k + 1, by omega, by omega, le_stL ⟨.refl _, .refl _, .refl _, .refl _, Sub.int (by omega), trivial⟩ ⟨rfl, rfl, rfl, trivial⟩⟩
 ·have hb1_ := of_decide_eq_false hb1
  have hke : k = b.1.length + 1 := by omega
  subst hke
  refine AWp_exit ?_
  refine AWp_sr hP ?_
  refine RK.G2 hT rfl rfl rfl rfl rfl rfl ?_
  refine RK.S hT rfl rfl rfl rfl rfl rfl rfl ?_
  refine RK.D ?_
  refine AWp_ret ?_
  refine ends_one rfl (.inr rfl) (res_cell_agg hT rfl rfl rfl rfl (cs := [_, _]) rfl rfl) ?_ O_ends
  exact .refl _
end Go.Proofs.YtmoaoiakmmbpoaaGreatDoor
end
