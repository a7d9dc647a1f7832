/- Texts merged by program, in build order. -/
import Derived.Test.YtpaifigafaijpaaGreatDoorMD
import Derived.Test.YtpaifigafaijpaaGreatDoorMB
import Derived.Test.YtpaifigafaijpaaGreatDoorMF
import Derived.Test.YtpaifigafaijpaaGreatDoorMC
section
/- the list of reduced forms -/
namespace Go.Proofs.YtpaifigafaijpaaGreatDoor
open Go Go.AM
set_option maxRecDepth 100000
set_option maxHeartbeats 1000000
theorem r8_List (N : Int) (h3 : 3 ≤ N) (h4 : N ≤ 2003) :
  Call0 Tryz.prog 39 [Z N] (.p (.c (FS (lst N)))) := by
 refine callM_of (np := 0) Tryz.func39 (by kernel_rfl) rfl rfl (Nat.le_of_ble_eq_true rfl) (fun m h => absurd rfl h) (fun m h => absurd rfl h) rfl ?_
 refine AWp_sr hP ?_
 refine RK.As rfl ?_
 refine RK.D ?_
 refine AWp_sr hP ?_
 refine RK.alc guard_none (op_bslice_vec hT rfl rfl rfl (es := []) rfl rfl rfl) ?_
 refine RK.V (op_assign (rfl : _ = AV.vec _)) ?_
 refine RK.D ?_
 refine AWp_rn 7 1000 rfl rfl rfl ?_
 refine AWp_seq ?_
 refine AWp_sr hP ?_
 refine RK.As rfl ?_
 refine RK.D ?_
 refine AWp_block ?_
 refine AWp_loop (ι := List Fm × Int) (fun p => stL [(0, Z N), (3, .vec 1000), (4, Z p.2)] [(1000, FB 53 p.1)]) (fun p => p.1 ++ lsAll N (101 - p.2).toNat p.2 = lst N ∧ 1 ≤ p.2 ∧ p.2 ≤ 26 ∧ (p.1.length : Int) ≤ 60 * p.2) (fun p => (100 - p.2).toNat) ([], 1) ⟨ls_start N, by decide, by decide, by decide⟩ (le_stL ⟨.refl _, .refl _, .refl _, trivial⟩ ⟨rfl, trivial⟩) ?_
 rintro p ⟨hI, ha1, ha2, hlen⟩
 have hsq := a_sq ⟨ha1, ha2⟩
 refine AWp_seq ?_
 refine AWp_sr hP ?_
 refine RK.M rfl ?_
 refine RK.V (op_mul rfl rfl (by first | exact IntWalk.i64_in _ (by omega) | rfl)) ?_
 refine RK.M rfl ?_
 refine RK.V (op_mul rfl rfl (by first | exact IntWalk.i64_in _ (by omega) | rfl)) ?_
 refine RK.M rfl ?_
 refine RK.V (op_leq rfl rfl) ?_
 refine RK.D ?_
 refine AWp_cond rfl (fun hb1 => ?_) (fun hb1 => ?_)
 ·have hb1_ := of_decide_eq_true hb1
  have ha3 := a_le ha1 hb1_ h4
  refine AWp_skip ?_
  refine AWp_seq ?_
  refine AWp_block ?_
  refine AWp_sr hP ?_
  refine RK.M rfl ?_
  refine RK.V (op_uneg rfl (by first | exact IntWalk.i64_in _ (by omega) | rfl)) ?_
  refine RK.As rfl ?_
  refine RK.D ?_
  refine AWp_block ?_
  refine AWp_loop (ι := List Fm × Int) (fun q => stL [(0, Z N), (3, .vec 1000), (4, Z p.2), (5, Z q.2)] [(1000, FB 53 q.1)]) (fun q => q.1 ++ (lsRow N p.2 (p.2 + 1 - q.2).toNat q.2 ++ lsAll N (100 - p.2).toNat (p.2 + 1)) = lst N ∧ -p.2 ≤ q.2 ∧ q.2 ≤ p.2 + 1 ∧ (q.1.length : Int) ≤ 60 * p.2 + (q.2 + p.2)) (fun q => (p.2 + 1 - q.2).toNat) (p.1, -p.2) ⟨ls_in hI ⟨ha1, by omega⟩ hb1_, by simp, by simp only; omega, by simp only; omega⟩ (le_stL ⟨.refl _, .refl _, .refl _, Sub.int (by omega), trivial⟩ ⟨rfl, trivial⟩) ?_
  rintro q ⟨hJ, hq1, hq2, hlen2⟩
  refine AWp_seq ?_
  refine AWp_sr hP ?_
  refine RK.M rfl ?_
  refine RK.M rfl ?_
  refine RK.V (op_leq rfl rfl) ?_
  refine RK.D ?_
  refine AWp_cond rfl (fun hb2 => ?_) (fun hb2 => ?_)
  ·have hb2_ := of_decide_eq_true hb2
   have qs := sq_b (x := q.2) (m := 25) (by omega)
   have qc := c_b (x := q.2 * q.2 + N) (y := 4 * p.2) (by omega) (by omega)
   have ja : InI64 p.2 := by unfold InI64; omega
   have jb : InI64 q.2 := by unfold InI64; omega
   have jc : InI64 ((q.2 * q.2 + N) / (4 * p.2)) := by unfold InI64; omega
   have ia : LB p.2 6 := ⟨by unfold L; omega⟩
   have ib : LB q.2 6 := ⟨by unfold L; omega⟩
   have ic : LB ((q.2 * q.2 + N) / (4 * p.2)) 6 := ⟨by unfold L; omega⟩
   refine AWp_skip ?_
   refine AWp_seq ?_
   refine AWp_block ?_
   refine AWp_seq ?_
   refine AWp_sr hP ?_
   refine RK.M rfl ?_
   refine RK.M rfl ?_
   refine RK.V (op_mul rfl rfl (by first | exact IntWalk.i64_in _ (by omega) | rfl)) ?_
   refine RK.M rfl ?_
   refine RK.V (op_add rfl rfl (by first | exact IntWalk.i64_in _ (by omega) | rfl)) ?_
   refine RK.M rfl ?_
   refine RK.V (op_mul rfl rfl (by first | exact IntWalk.i64_in _ (by omega) | rfl)) ?_
   refine RK.V (op_rem rfl rfl (by omega) (c := (q.2 * q.2 + N) % (4 * p.2)) (Int.tmod_eq_emod_of_nonneg (by omega))) ?_
   refine RK.V (op_neq rfl rfl) ?_
   refine RK.D ?_
   refine AWp_cond rfl (fun hb3 => ?_) (fun hb3 => ?_)
   ·have hb3_ := bneT hb3
    refine AWp_exit ?_
    refine AWp_region hP ?_
    refine RK.M rfl ?_
    refine RK.V (op_add rfl rfl (by first | exact IntWalk.i64_in _ (by omega) | rfl)) ?_
    refine RK.As rfl ?_
    refine RK.D ?_
    refine ⟨(q.1, q.2 + 1), ⟨ls_no hJ hb2_ (okF_no1 hb3_), by simp only; omega, by simp only; omega, by simp only; omega⟩, by simp only; omega, le_stL ⟨.refl _, .refl _, .refl _, .refl _, trivial⟩ ⟨rfl, trivial⟩⟩
   ·have hb3_ := bneF hb3
    have hz : (q.2 * q.2 + N) % (4 * p.2) = 0 := bneF hb3
    refine AWp_skip ?_
    refine AWp_sr hP ?_
    refine RK.M rfl ?_
    refine RK.M rfl ?_
    refine RK.M rfl ?_
    refine RK.M rfl ?_
    refine RK.V (op_mul rfl rfl (by first | exact IntWalk.i64_in _ (by omega) | rfl)) ?_
    refine RK.M rfl ?_
    refine RK.V (op_add rfl rfl (by first | exact IntWalk.i64_in _ (by omega) | rfl)) ?_
    refine RK.M rfl ?_
    refine RK.V (op_mul rfl rfl (by first | exact IntWalk.i64_in _ (by omega) | rfl)) ?_
    refine RK.V (op_quo rfl rfl (by omega) (c := ((q.2 * q.2 + N) / (4 * p.2))) (by rw [Int.tdiv_eq_ediv_of_nonneg (by omega), IntWalk.i64_in _ (by omega)])) ?_
    refine RK.V (Eff.call0 (r8_Of _ _ _ (by first | assumption | decide) (by first | assumption | decide) (by first | assumption | decide))) ?_
    refine RK.alc guard_none (op_alloc hT rfl rfl) ?_
    refine RK.S hT rfl rfl rfl rfl rfl rfl rfl ?_
    refine RK.D ?_
    refine AWp_sr hP ?_
    refine RK.G6 hT rfl rfl rfl rfl rfl rfl ?_
    refine RK.V (Eff.call0 (r8_Reduced _ _ _ lz lz lz)) ?_
    refine RK.M rfl ?_
    refine RK.split (t := 45) rfl (fun hg4 => ?_) (fun hg4 => ?_)
    ·refine RK.val (guard_yes rfl rfl hg4) (op_load_agg hT rfl rfl rfl rfl (cs := [_, _, _, _, _, _]) rfl rfl) ?_
     refine RK.val (guard_yes rfl rfl hg4) (Eff.call0 (r8_Primitive _ _ _ lz lz lz)) ?_
     refine RK.V (op_pick_t rfl hg4 (rfl : _ = AV.p (.c _))) ?_
     refine RK.D ?_
     refine AWp_cond rfl (fun hb5 => ?_) (fun hb5 => ?_)
     ·refine AWp_region hP ?_
      refine RK.V (op_move (rfl : _ = AV.vec _)) ?_
      refine RK.G6 hT rfl rfl rfl rfl rfl rfl ?_
      refine RK.V (op_bslice hT rfl rfl rfl (es := [_, _, _, _, _, _]) rfl rfl rfl) ?_
      refine RK.app guard_none (op_appendF hT rfl rfl rfl rfl rfl rfl rfl (f := ⟨p.2, q.2, ((q.2 * q.2 + N) / (4 * p.2))⟩) rfl (by omega) (by decide)) ?_
      refine RK.V (op_assign (rfl : _ = AV.vec _)) ?_
      refine RK.D ?_
      refine AWp_rn 52 1000 rfl rfl rfl ?_
      refine AWp_region hP ?_
      refine RK.M rfl ?_
      refine RK.V (op_add rfl rfl (by first | exact IntWalk.i64_in _ (by omega) | rfl)) ?_
      refine RK.As rfl ?_
      refine RK.D ?_
      refine ⟨(q.1 ++ [⟨p.2, q.2, ((q.2 * q.2 + N) / (4 * p.2))⟩], q.2 + 1), ⟨ls_yes hJ hb2_ (by rw [okF_of hz, hg4, hb5]; rfl), by simp only; omega, by simp only; omega, by simp only [List.length_append, List.length_singleton]; omega⟩, by simp only; omega, le_stL ⟨.refl _, .refl _, .refl _, .refl _, trivial⟩ ⟨rfl, trivial⟩⟩
     ·refine AWp_skip ?_
      refine AWp_region hP ?_
      refine RK.M rfl ?_
      refine RK.V (op_add rfl rfl (by first | exact IntWalk.i64_in _ (by omega) | rfl)) ?_
      refine RK.As rfl ?_
      refine RK.D ?_
      refine ⟨(q.1, q.2 + 1), ⟨ls_no hJ hb2_ (by rw [okF_of hz, hg4, hb5]; rfl), by simp only; omega, by simp only; omega, by simp only; omega⟩, by simp only; omega, le_stL ⟨.refl _, .refl _, .refl _, .refl _, trivial⟩ ⟨rfl, trivial⟩⟩
    ·refine RK.skip (guard_no rfl rfl hg4) ?_
     refine RK.skip (guard_no rfl rfl hg4) ?_
     refine RK.V (op_pick_f rfl hg4 (rfl : _ = AV.p (.c _))) ?_
     refine RK.D ?_
     refine AWp_cond_false rfl rfl ?_
     refine AWp_skip ?_
     refine AWp_region hP ?_
     refine RK.M rfl ?_
     refine RK.V (op_add rfl rfl (by first | exact IntWalk.i64_in _ (by omega) | rfl)) ?_
     refine RK.As rfl ?_
     refine RK.D ?_
     refine ⟨(q.1, q.2 + 1), ⟨ls_no hJ hb2_ (by rw [okF_of hz, hg4]; rfl), by simp only; omega, by simp only; omega, by simp only; omega⟩, by simp only; omega, le_stL ⟨.refl _, .refl _, .refl _, .refl _, trivial⟩ ⟨rfl, trivial⟩⟩
  ·have hb2_ := of_decide_eq_false hb2
   refine AWp_exit ?_
   refine AWp_region hP ?_
   refine RK.M rfl ?_
   refine RK.V (op_add rfl rfl (by first | exact IntWalk.i64_in _ (by omega) | rfl)) ?_
   refine RK.As rfl ?_
   refine RK.D ?_
   refine ⟨(q.1, p.2 + 1), ⟨ls_out hJ hb2_, by omega, by omega, by simp only; omega⟩, by simp only; omega, le_stL ⟨.refl _, .refl _, .refl _, trivial⟩ ⟨rfl, trivial⟩⟩
 ·have hb1_ := of_decide_eq_false hb1
  refine AWp_exit ?_
  refine AWp_sr hP ?_
  refine RK.V (op_move (rfl : _ = AV.vec _)) ?_
  refine RK.V (op_assign (rfl : _ = AV.vec _)) ?_
  refine RK.D ?_
  refine AWp_freezeF (t := 2) rfl rfl ?_
  refine AWp_ret ?_
  refine ends_one rfl (.inr rfl) (res_tmp rfl) ?_ O_ends
  exact Sub.of_eq (by rw [ls_end hI hb1_])
theorem r8_Size (D i0 i1 i2 i3 m0 m1 m2 m3 : Nat) (_hD : D < 65536) (_g0 : i0 < 65536) (_g1 : i1 < 65536) (_g2 : i2 < 65536) (_g3 : i3 < 65536) (_k0 : m0 < 256) (_k1 : m1 < 256) (_k2 : m2 < 256) (_k3 : m3 < 256) :
  Call0 Tryz.prog 18 [.p (.a [.v (.int .u16 (D : Int)), .v (.int .u16 (i0 : Int)), .v (.int .u16 (i1 : Int)), .v (.int .u16 (i2 : Int)), .v (.int .u16 (i3 : Int)), .v (.int .u8 (m0 : Int)), .v (.int .u8 (m1 : Int)), .v (.int .u8 (m2 : Int)), .v (.int .u8 (m3 : Int))])] (Z (szz D)) := by
 obtain ⟨s1, s2, s3, s4, s5⟩ := szz_spec D
 have d1 := Int.emod_nonneg (D : Int) (show (2000 : Int) ≠ 0 by omega)
 have d2 := Int.emod_lt_of_pos (D : Int) (show (0 : Int) < 2000 by omega)
 refine callM_of (np := 0) Tryz.func18 (by kernel_rfl) rfl rfl (Nat.le_of_ble_eq_true rfl) (fun m h => absurd rfl h) (fun m h => absurd rfl h) rfl ?_
 refine AWp_sr hP ?_
 refine RK.alc guard_none (op_box rfl rfl) ?_
 refine RK.As rfl ?_
 refine RK.D ?_
 refine AWp_sr hP ?_
 refine RK.F hT rfl rfl rfl rfl rfl rfl ?_
 refine RK.V (op_load_one hT rfl rfl rfl rfl (by first | rfl | exact vget (by omega))) ?_
 refine RK.V (op_rem rfl rfl (by decide) (c := (D : Int) % 2000) (Int.tmod_eq_emod_of_nonneg (by omega))) ?_
 refine RK.V (op_conv hT rfl rfl rfl rfl (IntWalk.i64_in _ (by omega))) ?_
 refine RK.V (op_add rfl rfl (by first | exact IntWalk.i64_in _ (by omega) | rfl)) ?_
 refine RK.As rfl ?_
 refine RK.D ?_
 refine AWp_seq ?_
 refine AWp_block ?_
 refine AWp_loop (ι := Int) (fun n => stL [(3, Z n)] []) (fun n => 3 + (D : Int) % 2000 ≤ n ∧ n ≤ szz D) (fun n => (szz D - n).toNat) (3 + (D : Int) % 2000) ⟨Int.le_refl _, s1⟩ (le_stL ⟨.refl _, trivial⟩ trivial) ?_
 rintro n ⟨hn1, hn2⟩
 refine AWp_seq ?_
 refine AWp_sr hP ?_
 refine RK.M rfl ?_
 refine RK.V (op_rem rfl rfl (by decide) (c := n % 4) (Int.tmod_eq_emod_of_nonneg (by omega))) ?_
 refine RK.V (op_neq rfl rfl) ?_
 refine RK.M rfl ?_
 refine RK.split (t := 12) rfl (fun hg1 => ?_) (fun hg1 => ?_)
 ·have hg1_ := bneT hg1
  refine RK.val (guard_yes rfl rfl hg1) (op_move (rfl : _ = AV.p (.c _))) ?_
  refine RK.val (guard_yes rfl rfl hg1) (op_rem rfl rfl (by decide) (c := n % 4) (Int.tmod_eq_emod_of_nonneg (by omega))) ?_
  refine RK.val (guard_yes rfl rfl hg1) (op_neq rfl rfl) ?_
  refine RK.V (op_pick_t rfl hg1 (rfl : _ = AV.p (.c _))) ?_
  refine RK.D ?_
  refine AWp_cond rfl (fun hb2 => ?_) (fun hb2 => ?_)
  ·have hb2_ := bneT hb2
   refine AWp_skip ?_
   refine AWp_block ?_
   refine AWp_region hP ?_
   refine RK.M rfl ?_
   refine RK.V (op_add rfl rfl (by first | exact IntWalk.i64_in _ (by omega) | rfl)) ?_
   refine RK.As rfl ?_
   refine RK.D ?_
   have hne : n ≠ szz D := by
    rintro rfl
    have := bneT hg1
    have := bneT hb2
    omega
   refine ⟨n + 1, ⟨by omega, by omega⟩, by omega, le_stL ⟨.refl _, trivial⟩ trivial⟩
  ·have hb2_ := bneF hb2
   refine AWp_exit ?_
   refine AWp_sr hP ?_
   refine RK.M rfl ?_
   refine RK.As rfl ?_
   refine RK.D ?_
   refine AWp_ret ?_
   refine ends_one rfl (.inr rfl) (res_tmp rfl) ?_ O_ends
   exact Sub.int (s5 n hn1 hn2 (.inr (bneF hb2)))
 ·have hg1_ := bneF hg1
  refine RK.skip (guard_no rfl rfl hg1) ?_
  refine RK.skip (guard_no rfl rfl hg1) ?_
  refine RK.skip (guard_no rfl rfl hg1) ?_
  refine RK.V (op_pick_f rfl hg1 (rfl : _ = AV.p (.c _))) ?_
  refine RK.D ?_
  refine AWp_cond_false rfl rfl ?_
  refine AWp_exit ?_
  refine AWp_sr hP ?_
  refine RK.M rfl ?_
  refine RK.As rfl ?_
  refine RK.D ?_
  refine AWp_ret ?_
  refine ends_one rfl (.inr rfl) (res_tmp rfl) ?_ O_ends
  exact Sub.int (s5 n hn1 hn2 (.inl (bneF hg1)))
theorem r8_Made0 (D i0 i1 i2 i3 m0 m1 m2 m3 : Nat) (hD : D < 65536) (g0 : i0 < 65536) (g1 : i1 < 65536) (g2 : i2 < 65536) (g3 : i3 < 65536) (k0 : m0 < 256) (k1 : m1 < 256) (k2 : m2 < 256) (k3 : m3 < 256) :
  Call0 Tryz.prog 27 [.p (.a [.v (.int .u16 (D : Int)), .v (.int .u16 (i0 : Int)), .v (.int .u16 (i1 : Int)), .v (.int .u16 (i2 : Int)), .v (.int .u16 (i3 : Int)), .v (.int .u8 (m0 : Int)), .v (.int .u8 (m1 : Int)), .v (.int .u8 (m2 : Int)), .v (.int .u8 (m3 : Int))]), Z 0] (FA (mkF D i0 m0).a (mkF D i0 m0).b (mkF D i0 m0).c) := by
 obtain ⟨_, s2, s3, s4, _⟩ := szz_spec D
 have hlp := lst_pos D
 obtain ⟨pa, pb, pc⟩ := pik_L D i0
 obtain ⟨ta, tb, tc, td⟩ := turn_L k0
 have e1 := Int.emod_nonneg (i0 : Int) (show (((lst (szz D)).length : Nat) : Int) ≠ 0 by omega)
 have e2 := Int.emod_lt_of_pos (i0 : Int) (show (0 : Int) < (((lst (szz D)).length : Nat) : Int) by omega)
 have cu := r8_Turn m0 k0
 refine callM_of (np := 0) Tryz.func27 (by kernel_rfl) rfl rfl (Nat.le_of_ble_eq_true rfl) (fun m h => absurd rfl h) (fun m h => absurd rfl h) rfl ?_
 refine AWp_sr hP ?_
 refine RK.alc guard_none (op_box rfl rfl) ?_
 refine RK.alc guard_none (op_alloc hT rfl rfl) ?_
 refine RK.D ?_
 refine AWp_sr hP ?_
 refine RK.V (op_load_agg hT rfl rfl rfl rfl (cs := [_, _, _, _, _, _, _, _, _]) rfl rfl) ?_
 refine RK.V (Eff.call0 (r8_Size _ _ _ _ _ _ _ _ _ hD g0 g1 g2 g3 k0 k1 k2 k3)) ?_
 refine RK.V (Eff.call0 (r8_List _ (by omega) (by omega))) ?_
 refine RK.As rfl ?_
 refine RK.D ?_
 refine AWp_sr hP ?_
 refine RK.M rfl ?_
 refine RK.M rfl ?_
 refine RK.V (op_rem rfl rfl (by decide) (c := 0) (by decide)) ?_
 refine RK.F hT rfl rfl rfl rfl rfl rfl ?_
 refine RK.V (op_index_arr hT rfl rfl rfl rfl rfl (by first | decide | omega)) ?_
 refine RK.V (op_load_one hT rfl rfl rfl rfl (by first | rfl | exact vget (by omega))) ?_
 refine RK.V (op_conv hT rfl rfl rfl rfl (IntWalk.i64_in _ (by omega))) ?_
 refine RK.M rfl ?_
 refine RK.V (op_len hT rfl rfl rfl (by rfl)) ?_
 refine RK.V (op_rem rfl rfl (by omega) (c := (i0 : Int) % ((lst (szz D)).length : Nat)) (Int.tmod_eq_emod_of_nonneg (by omega))) ?_
 refine RK.V (op_indexF hT rfl rfl rfl rfl rfl rfl (by omega)) ?_
 refine RK.V (op_load_ip_agg hT rfl rfl rfl (cs := FC (pik D i0)) rfl rfl) ?_
 refine RK.alc guard_none (op_alloc hT rfl rfl) ?_
 refine RK.S hT rfl rfl rfl rfl rfl rfl rfl ?_
 refine RK.D ?_
 refine AWp_seq ?_
 refine AWp_sr hP ?_
 refine RK.M rfl ?_
 refine RK.V (op_rem rfl rfl (by decide) (c := 0) (by decide)) ?_
 refine RK.F hT rfl rfl rfl rfl rfl rfl ?_
 refine RK.V (op_index_arr hT rfl rfl rfl rfl rfl (by first | decide | omega)) ?_
 refine RK.V (op_load_one hT rfl rfl rfl rfl (by first | rfl | exact vget (by omega))) ?_
 refine RK.V (op_rem rfl rfl (by decide) (c := (m0 : Int) % 4) (Int.tmod_eq_emod_of_nonneg (by omega))) ?_
 refine RK.V (op_eql rfl rfl) ?_
 refine RK.D ?_
 refine AWp_cond rfl (fun hb1 => ?_) (fun hb1 => ?_)
 ·have hb1_ := bT hb1
  refine AWp_sr hP ?_
  refine RK.G6 hT rfl rfl rfl rfl rfl rfl ?_
  refine RK.S hT rfl rfl rfl rfl rfl rfl rfl ?_
  refine RK.D ?_
  refine AWp_ret ?_
  refine ends_one rfl (.inr rfl) (res_cell_agg hT rfl rfl rfl rfl (cs := [_, _, _, _, _, _]) rfl rfl) ?_ O_ends
  exact Sub.of_eq (by rw [mkF, if_pos (by omega)])
 ·have hb1_ := bF hb1
  refine AWp_skip ?_
  refine AWp_sr hP ?_
  refine RK.G6 hT rfl rfl rfl rfl rfl rfl ?_
  refine RK.M rfl ?_
  refine RK.V (op_rem rfl rfl (by decide) (c := 0) (by decide)) ?_
  refine RK.F hT rfl rfl rfl rfl rfl rfl ?_
  refine RK.V (op_index_arr hT rfl rfl rfl rfl rfl (by first | decide | omega)) ?_
  refine RK.V (op_load_one hT rfl rfl rfl rfl (by first | rfl | exact vget (by omega))) ?_
  refine RK.V (Eff.call0 cu) ?_
  refine RK.V (Eff.call0 (r8_Apply _ _ _ _ _ _ _ lz lz lz lz lz lz lz)) ?_
  refine RK.S hT rfl rfl rfl rfl rfl rfl rfl ?_
  refine RK.D ?_
  refine AWp_ret ?_
  refine ends_one rfl (.inr rfl) (res_cell_agg hT rfl rfl rfl rfl (cs := [_, _, _, _, _, _]) rfl rfl) ?_ O_ends
  exact Sub.of_eq (by rw [mkF, if_neg (by omega)]; rfl)
theorem r8_Made1 (D i0 i1 i2 i3 m0 m1 m2 m3 : Nat) (hD : D < 65536) (g0 : i0 < 65536) (g1 : i1 < 65536) (g2 : i2 < 65536) (g3 : i3 < 65536) (k0 : m0 < 256) (k1 : m1 < 256) (k2 : m2 < 256) (k3 : m3 < 256) :
  Call0 Tryz.prog 27 [.p (.a [.v (.int .u16 (D : Int)), .v (.int .u16 (i0 : Int)), .v (.int .u16 (i1 : Int)), .v (.int .u16 (i2 : Int)), .v (.int .u16 (i3 : Int)), .v (.int .u8 (m0 : Int)), .v (.int .u8 (m1 : Int)), .v (.int .u8 (m2 : Int)), .v (.int .u8 (m3 : Int))]), Z 1] (FA (mkF D i1 m1).a (mkF D i1 m1).b (mkF D i1 m1).c) := by
 obtain ⟨_, s2, s3, s4, _⟩ := szz_spec D
 have hlp := lst_pos D
 obtain ⟨pa, pb, pc⟩ := pik_L D i1
 obtain ⟨ta, tb, tc, td⟩ := turn_L k1
 have e1 := Int.emod_nonneg (i1 : Int) (show (((lst (szz D)).length : Nat) : Int) ≠ 0 by omega)
 have e2 := Int.emod_lt_of_pos (i1 : Int) (show (0 : Int) < (((lst (szz D)).length : Nat) : Int) by omega)
 have cu := r8_Turn m1 k1
 refine callM_of (np := 0) Tryz.func27 (by kernel_rfl) rfl rfl (Nat.le_of_ble_eq_true rfl) (fun m h => absurd rfl h) (fun m h => absurd rfl h) rfl ?_
 refine AWp_sr hP ?_
 refine RK.alc guard_none (op_box rfl rfl) ?_
 refine RK.alc guard_none (op_alloc hT rfl rfl) ?_
 refine RK.D ?_
 refine AWp_sr hP ?_
 refine RK.V (op_load_agg hT rfl rfl rfl rfl (cs := [_, _, _, _, _, _, _, _, _]) rfl rfl) ?_
 refine RK.V (Eff.call0 (r8_Size _ _ _ _ _ _ _ _ _ hD g0 g1 g2 g3 k0 k1 k2 k3)) ?_
 refine RK.V (Eff.call0 (r8_List _ (by omega) (by omega))) ?_
 refine RK.As rfl ?_
 refine RK.D ?_
 refine AWp_sr hP ?_
 refine RK.M rfl ?_
 refine RK.M rfl ?_
 refine RK.V (op_rem rfl rfl (by decide) (c := 1) (by decide)) ?_
 refine RK.F hT rfl rfl rfl rfl rfl rfl ?_
 refine RK.V (op_index_arr hT rfl rfl rfl rfl rfl (by first | decide | omega)) ?_
 refine RK.V (op_load_one hT rfl rfl rfl rfl (by first | rfl | exact vget (by omega))) ?_
 refine RK.V (op_conv hT rfl rfl rfl rfl (IntWalk.i64_in _ (by omega))) ?_
 refine RK.M rfl ?_
 refine RK.V (op_len hT rfl rfl rfl (by rfl)) ?_
 refine RK.V (op_rem rfl rfl (by omega) (c := (i1 : Int) % ((lst (szz D)).length : Nat)) (Int.tmod_eq_emod_of_nonneg (by omega))) ?_
 refine RK.V (op_indexF hT rfl rfl rfl rfl rfl rfl (by omega)) ?_
 refine RK.V (op_load_ip_agg hT rfl rfl rfl (cs := FC (pik D i1)) rfl rfl) ?_
 refine RK.alc guard_none (op_alloc hT rfl rfl) ?_
 refine RK.S hT rfl rfl rfl rfl rfl rfl rfl ?_
 refine RK.D ?_
 refine AWp_seq ?_
 refine AWp_sr hP ?_
 refine RK.M rfl ?_
 refine RK.V (op_rem rfl rfl (by decide) (c := 1) (by decide)) ?_
 refine RK.F hT rfl rfl rfl rfl rfl rfl ?_
 refine RK.V (op_index_arr hT rfl rfl rfl rfl rfl (by first | decide | omega)) ?_
 refine RK.V (op_load_one hT rfl rfl rfl rfl (by first | rfl | exact vget (by omega))) ?_
 refine RK.V (op_rem rfl rfl (by decide) (c := (m1 : Int) % 4) (Int.tmod_eq_emod_of_nonneg (by omega))) ?_
 refine RK.V (op_eql rfl rfl) ?_
 refine RK.D ?_
 refine AWp_cond rfl (fun hb1 => ?_) (fun hb1 => ?_)
 ·have hb1_ := bT hb1
  refine AWp_sr hP ?_
  refine RK.G6 hT rfl rfl rfl rfl rfl rfl ?_
  refine RK.S hT rfl rfl rfl rfl rfl rfl rfl ?_
  refine RK.D ?_
  refine AWp_ret ?_
  refine ends_one rfl (.inr rfl) (res_cell_agg hT rfl rfl rfl rfl (cs := [_, _, _, _, _, _]) rfl rfl) ?_ O_ends
  exact Sub.of_eq (by rw [mkF, if_pos (by omega)])
 ·have hb1_ := bF hb1
  refine AWp_skip ?_
  refine AWp_sr hP ?_
  refine RK.G6 hT rfl rfl rfl rfl rfl rfl ?_
  refine RK.M rfl ?_
  refine RK.V (op_rem rfl rfl (by decide) (c := 1) (by decide)) ?_
  refine RK.F hT rfl rfl rfl rfl rfl rfl ?_
  refine RK.V (op_index_arr hT rfl rfl rfl rfl rfl (by first | decide | omega)) ?_
  refine RK.V (op_load_one hT rfl rfl rfl rfl (by first | rfl | exact vget (by omega))) ?_
  refine RK.V (Eff.call0 cu) ?_
  refine RK.V (Eff.call0 (r8_Apply _ _ _ _ _ _ _ lz lz lz lz lz lz lz)) ?_
  refine RK.S hT rfl rfl rfl rfl rfl rfl rfl ?_
  refine RK.D ?_
  refine AWp_ret ?_
  refine ends_one rfl (.inr rfl) (res_cell_agg hT rfl rfl rfl rfl (cs := [_, _, _, _, _, _]) rfl rfl) ?_ O_ends
  exact Sub.of_eq (by rw [mkF, if_neg (by omega)]; rfl)
end Go.Proofs.YtpaifigafaijpaaGreatDoor
end

section
/- chapter 9: ComposeGroup -/
namespace Go.Proofs.YtpaifigafaijpaaGreatDoor
open Go Go.AM
end Go.Proofs.YtpaifigafaijpaaGreatDoor
end

section
/- chapter 9: ComposeRoots, ComposeValues -/
namespace Go.Proofs.YtpaifigafaijpaaGreatDoor
open Go Go.AM
end Go.Proofs.YtpaifigafaijpaaGreatDoor
end

section
/- chapter 9: ComposePowers -/
namespace Go.Proofs.YtpaifigafaijpaaGreatDoor
open Go Go.AM
end Go.Proofs.YtpaifigafaijpaaGreatDoor
end

section
/- chapter 9: ComposeMatchesReference -/
namespace Go.Proofs.YtpaifigafaijpaaGreatDoor
open Go Go.AM
set_option maxRecDepth 100000
set_option maxHeartbeats 1000000
set_option maxHeartbeats 16000000 in
theorem l_ComposeMatchesReference (D i0 i1 i2 i3 m0 m1 m2 m3 : Nat) (hD : D < 65536) (g0 : i0 < 65536) (g1 : i1 < 65536) (g2 : i2 < 65536) (g3 : i3 < 65536) (k0 : m0 < 256) (k1 : m1 < 256) (k2 : m2 < 256) (k3 : m3 < 256) (p0 p1 p2 p3 p4 p5 p6 : Bool) (u0 u1 u2 u3 u4 u5 u6 : List Nat) (hu0 : okW u0) (hu1 : okW u1) (hu2 : okW u2) (hu3 : okW u3) (hu4 : okW u4) (hu5 : okW u5) (hu6 : okW u6) (s : Bool) (ws : List Nat) (hw : okW ws) :
  Call0 Tryz.prog 7 [.p (.a [.v (.int .u16 (D : Int)), .v (.int .u16 (i0 : Int)), .v (.int .u16 (i1 : Int)), .v (.int .u16 (i2 : Int)), .v (.int .u16 (i3 : Int)), .v (.int .u8 (m0 : Int)), .v (.int .u8 (m1 : Int)), .v (.int .u8 (m2 : Int)), .v (.int .u8 (m3 : Int))]), .p (.a [.v (.bool p0), W u0, .v (.bool p1), W u1, .v (.bool p2), W u2, .v (.bool p3), W u3, .v (.bool p4), W u4, .v (.bool p5), W u5, .v (.bool p6), W u6]), .p (.a [.v (.bool s), W ws])] (B true) := by
 have c0 := r8_Made0 _ _ _ _ _ _ _ _ _ hD g0 g1 g2 g3 k0 k1 k2 k3
 have hf := mkF_cl D i0 m0
 obtain ⟨fa, fb, fc⟩ := mkF_L6 (D := D) (i := i0) k0
 obtain ⟨hD1, hD2⟩ := szz_D D
 obtain ⟨s1, s2, s3, s4, s5⟩ := szz_spec D
 have c1 := r8_Made1 _ _ _ _ _ _ _ _ _ hD g0 g1 g2 g3 k0 k1 k2 k3
 have hg := mkF_cl D i1 m1
 obtain ⟨ga, gb, gc⟩ := mkF_L6 (D := D) (i := i1) k1
 generalize mkF D i0 m0 = f at *
 generalize mkF D i1 m1 = g at *
 generalize -szz D = d at *
 have cM : Call0 Tryz.prog 16 [.p (.a [.v (.bool s), W ws]), Z 2] (I (md s ws)) := r_Made s ws 2 hw (by decide)
 have hM := md_L (n := s) hw
 generalize md s ws = m at *
 have jm : LB m 6 := ⟨hM⟩
 have cA := r8_Any p0 p1 p2 p3 p4 p5 p6 u0 u1 u2 u3 u4 u5 u6 hu0 hu1 hu2 hu3 hu4 hu5 hu6
 obtain ⟨o, e1, e2, e3⟩ : ∃ o : Fm, md p0 u0 = o.a ∧ md p1 u1 = o.b ∧ md p2 u2 = o.c := ⟨⟨_, _, _⟩, rfl, rfl, rfl⟩
 have oa : L 6 o.a := e1 ▸ md_L (n := p0) hu0
 have ob : L 6 o.b := e2 ▸ md_L (n := p1) hu1
 have oc : L 6 o.c := e3 ▸ md_L (n := p2) hu2
 rw [e1, e2, e3] at cA
 have jfa : LB f.a 6 := ⟨fa⟩
 have jfb : LB f.b 6 := ⟨fb⟩
 have jfc : LB f.c 6 := ⟨fc⟩
 have jga : LB g.a 6 := ⟨ga⟩
 have jgb : LB g.b 6 := ⟨gb⟩
 have jgc : LB g.c 6 := ⟨gc⟩
 have joa : LB o.a 6 := ⟨oa⟩
 have job : LB o.b 6 := ⟨ob⟩
 have joc : LB o.c 6 := ⟨oc⟩
 have x1 := Int.emod_nonneg (i2 : Int) (show (60 : Int) ≠ 0 by omega)
 have x2 := Int.emod_lt_of_pos (i2 : Int) (show (0 : Int) < 60 by omega)
 have hDf : -1000000000000000000 ≤ dsc f.a f.b f.c := by rw [hf.disc]; exact hD1
 obtain ⟨y1, y2, y3⟩ := red_L6 (mlt_cl hf hg) (mlt_rd hf hg) hD1
 rw [← (cl_cm hf hg).2] at y1 y2 y3
 have q1 := r9_Compose f g fa fb fc ga gb gc
 have q2 := r9_Compose f o fa fb fc oa ob oc
 have q3 := r9_Compose o f oa ob oc fa fb fc
 have q4 := r9_Power f m fa fb fc (hM.mono (by decide)) (fun _ => .inr hDf)
 have p1' := l_product f g fa fb fc ga gb gc
 have p2' := l_product f o fa fb fc oa ob oc
 have p3' := l_product o f oa ob oc fa fb fc
 have p4' := l_power f m fa fb fc (hM.mono (by decide)) (fun _ => .inr hDf)
 have r1 := co_Order f ((i2 : Int) % 60) fa fb fc (by omega) (fun _ => hDf)
 have r2 := r9_Order f ((i2 : Int) % 60) fa fb fc (by omega) (fun _ => hDf)
 have q6 := r9_Power o 0 oa ob oc ((show L 6 0 by unfold L; decide).mono (by decide)) (fun _ => .inl rfl)
 have p6 := l_power o 0 oa ob oc ((show L 6 0 by unfold L; decide).mono (by decide)) (fun _ => .inl rfl)
 generalize cmV f g = a1 at *
 have h4 := four_L6 (f := f) (o := o) (g := g) (a := a1) ⟨fa, fb, fc⟩ ⟨oa, ob, oc⟩ ⟨ga, gb, gc⟩ ⟨y1, y2, y3⟩
 have q7 := co_Roots f [f, o, g, a1] fa fb fc h4 (by simp) (by simp)
 have p7 := r9_RootsIn f [f, o, g, a1] fa fb fc h4 (by simp)
 have hl7 := rtsL_len f [f, o, g, a1]
 have hl8 : ((rtsL f [f, o, g, a1]).length : Int) ≤ 1000000000 := by simp only [List.length_cons, List.length_nil] at hl7; omega
 have s7 := r9_SameList (rtsL f [f, o, g, a1]) (rtsL f [f, o, g, a1]) hl8
 generalize rtsL f [f, o, g, a1] = a7 at *
 generalize rtsE f [f, o, g, a1] = b7 at *
 generalize cmE f g = b1 at *
 generalize cmV f o = a2 at *
 generalize cmE f o = b2 at *
 generalize cmV o f = a3 at *
 generalize cmE o f = b3 at *
 generalize pwV f m = a4 at *
 generalize rfE f = b4 at *
 generalize pwV o 0 = a6 at *
 generalize rfE o = b6 at *
 generalize hmm : (i2 : Int) % 60 = mm at x1 x2 r1 r2
 generalize orV f mm = a5 at *
 generalize orE f mm = b5 at *
 refine callM_of (np := 0) Tryz.func7 (by kernel_rfl) rfl rfl (Nat.le_of_ble_eq_true rfl) (fun m h => absurd rfl h) (fun m h => absurd rfl h) rfl ?_
 refine AWp_sr hP ?_
 refine RK.alc guard_none (op_box rfl rfl) ?_
 refine RK.alc guard_none (op_box rfl rfl) ?_
 refine RK.alc guard_none (op_box rfl rfl) ?_
 refine RK.As rfl ?_
 refine RK.D ?_
 refine AWp_sr hP ?_
 refine RK.V (Eff.call0 l_examples) ?_
 refine RK.As rfl ?_
 refine RK.D ?_
 refine AWp_seq ?_
 refine AWp_sr hP ?_
 refine RK.M rfl ?_
 refine RK.V (op_unot rfl) ?_
 refine RK.D ?_
 refine AWp_cond_false rfl rfl ?_
 refine AWp_skip ?_
 refine AWp_sr hP ?_
 refine RK.V (op_load_agg hT rfl rfl rfl rfl (cs := [_, _, _, _, _, _, _, _, _]) rfl rfl) ?_
 refine RK.V (Eff.call0 c0) ?_
 refine RK.V (op_load_agg hT rfl rfl rfl rfl (cs := [_, _, _, _, _, _, _, _, _]) rfl rfl) ?_
 refine RK.V (Eff.call0 c1) ?_
 refine RK.V (op_load_agg hT rfl rfl rfl rfl (cs := [_, _, _, _, _, _, _, _, _, _, _, _, _, _]) rfl rfl) ?_
 refine RK.V (Eff.call0 cA) ?_
 refine RK.G2 hT rfl rfl rfl rfl rfl rfl ?_
 refine RK.V (Eff.call0 cM) ?_
 refine RK.alc guard_none (op_alloc hT rfl rfl) ?_
 refine RK.alc guard_none (op_alloc hT rfl rfl) ?_
 refine RK.alc guard_none (op_alloc hT rfl rfl) ?_
 refine RK.alc guard_none (op_alloc hT rfl rfl) ?_
 refine RK.S hT rfl rfl rfl rfl rfl rfl rfl ?_
 refine RK.S hT rfl rfl rfl rfl rfl rfl rfl ?_
 refine RK.S hT rfl rfl rfl rfl rfl rfl rfl ?_
 refine RK.S hT rfl rfl rfl rfl rfl rfl rfl ?_
 refine RK.D ?_
 refine AWp_sr hP ?_
 refine RK.G6 hT rfl rfl rfl rfl rfl rfl ?_
 refine RK.G6 hT rfl rfl rfl rfl rfl rfl ?_
 refine RK.V (Eff.call0 q1) ?_
 refine RK.V (op_move (rfl : _ = AV.t _)) ?_
 refine RK.V (op_extract rfl (v := .a _) rfl) ?_
 refine RK.V (op_extract rfl (v := .c _) rfl) ?_
 refine RK.alc guard_none (op_alloc hT rfl rfl) ?_
 refine RK.S hT rfl rfl rfl rfl rfl rfl rfl ?_
 refine RK.As rfl ?_
 refine RK.D ?_
 refine AWp_sr hP ?_
 refine RK.G6 hT rfl rfl rfl rfl rfl rfl ?_
 refine RK.G6 hT rfl rfl rfl rfl rfl rfl ?_
 refine RK.V (Eff.call0 q2) ?_
 refine RK.V (op_move (rfl : _ = AV.t _)) ?_
 refine RK.V (op_extract rfl (v := .a _) rfl) ?_
 refine RK.V (op_extract rfl (v := .c _) rfl) ?_
 refine RK.alc guard_none (op_alloc hT rfl rfl) ?_
 refine RK.S hT rfl rfl rfl rfl rfl rfl rfl ?_
 refine RK.As rfl ?_
 refine RK.D ?_
 refine AWp_sr hP ?_
 refine RK.G6 hT rfl rfl rfl rfl rfl rfl ?_
 refine RK.G6 hT rfl rfl rfl rfl rfl rfl ?_
 refine RK.V (Eff.call0 q3) ?_
 refine RK.V (op_move (rfl : _ = AV.t _)) ?_
 refine RK.V (op_extract rfl (v := .a _) rfl) ?_
 refine RK.V (op_extract rfl (v := .c _) rfl) ?_
 refine RK.alc guard_none (op_alloc hT rfl rfl) ?_
 refine RK.S hT rfl rfl rfl rfl rfl rfl rfl ?_
 refine RK.As rfl ?_
 refine RK.D ?_
 refine AWp_sr hP ?_
 refine RK.G6 hT rfl rfl rfl rfl rfl rfl ?_
 refine RK.G2 hT rfl rfl rfl rfl rfl rfl ?_
 refine RK.V (Eff.call0 q4) ?_
 refine RK.V (op_move (rfl : _ = AV.t _)) ?_
 refine RK.V (op_extract rfl (v := .a _) rfl) ?_
 refine RK.V (op_extract rfl (v := .c _) rfl) ?_
 refine RK.alc guard_none (op_alloc hT rfl rfl) ?_
 refine RK.S hT rfl rfl rfl rfl rfl rfl rfl ?_
 refine RK.As rfl ?_
 refine RK.D ?_
 refine AWp_le (t := stL [(3, .loc 3 0), (7, .p (.c (.v (.bool true)))), (8, .loc 8 0), (9, .loc 9 0), (10, .loc 10 0), (11, .loc 11 0), (12, .loc 12 0), (13, .p (PE b1)), (14, .loc 14 0), (15, .p (PE b2)), (16, .loc 16 0), (17, .p (PE b3)), (18, .loc 18 0), (19, .p (PE b4))] [(3, ⟨false, 1, 26, [.v (.int .u16 (D : Int)), .v (.int .u16 (i0 : Int)), .v (.int .u16 (i1 : Int)), .v (.int .u16 (i2 : Int)), .v (.int .u16 (i3 : Int)), .v (.int .u8 (m0 : Int)), .v (.int .u8 (m1 : Int)), .v (.int .u8 (m2 : Int)), .v (.int .u8 (m3 : Int))]⟩), (8, ⟨false, 1, 53, FL f.a f.b f.c⟩), (9, ⟨false, 1, 53, FL g.a g.b g.c⟩), (10, ⟨false, 1, 53, FL o.a o.b o.c⟩), (11, ⟨false, 1, 36, [zn (m), zm (m)]⟩), (12, ⟨false, 1, 53, FL a1.a a1.b a1.c⟩), (14, ⟨false, 1, 53, FL a2.a a2.b a2.c⟩), (16, ⟨false, 1, 53, FL a3.a a3.b a3.c⟩), (18, ⟨false, 1, 53, FL a4.a a4.b a4.c⟩)]) (le_stL ⟨.refl _, .refl _, .refl _, .refl _, .refl _, .refl _, .refl _, .refl _, .refl _, .refl _, .refl _, .refl _, .refl _, .refl _, trivial⟩ ⟨rfl, rfl, rfl, rfl, rfl, rfl, rfl, rfl, rfl, trivial⟩) ?_
 refine AWp_seq ?_
 refine AWp_sr hP ?_
 refine RK.G6 hT rfl rfl rfl rfl rfl rfl ?_
 refine RK.G6 hT rfl rfl rfl rfl rfl rfl ?_
 refine RK.V (Eff.call0 p1') ?_
 refine RK.G6 hT rfl rfl rfl rfl rfl rfl ?_
 refine RK.M rfl ?_
 refine RK.V (Eff.call0 (l_same _ _ _ _)) ?_
 refine RK.V (op_unot rfl) ?_
 refine RK.M rfl ?_
 refine RK.val (guard_yes rfl rfl (congrArg not (same_t a1 b1))) (op_load_agg hT rfl rfl rfl rfl (cs := [_, _, _, _, _, _]) rfl rfl) ?_
 refine RK.val (guard_yes rfl rfl (congrArg not (same_t a1 b1))) (op_load_agg hT rfl rfl rfl rfl (cs := [_, _, _, _, _, _]) rfl rfl) ?_
 refine RK.val (guard_yes rfl rfl (congrArg not (same_t a1 b1))) (Eff.call0 p2') ?_
 refine RK.val (guard_yes rfl rfl (congrArg not (same_t a1 b1))) (op_load_agg hT rfl rfl rfl rfl (cs := [_, _, _, _, _, _]) rfl rfl) ?_
 refine RK.val (guard_yes rfl rfl (congrArg not (same_t a1 b1))) (op_move (rfl : _ = AV.p (.c _))) ?_
 refine RK.val (guard_yes rfl rfl (congrArg not (same_t a1 b1))) (Eff.call0 (l_same _ _ _ _)) ?_
 refine RK.val (guard_yes rfl rfl (congrArg not (same_t a1 b1))) (op_unot rfl) ?_
 refine RK.V (op_pick_f rfl (congrArg not (same_t a1 b1)) (rfl : _ = AV.p (.c _))) ?_
 refine RK.M rfl ?_
 refine RK.val (guard_yes rfl rfl (congrArg not (same_t a2 b2))) (op_load_agg hT rfl rfl rfl rfl (cs := [_, _, _, _, _, _]) rfl rfl) ?_
 refine RK.val (guard_yes rfl rfl (congrArg not (same_t a2 b2))) (op_load_agg hT rfl rfl rfl rfl (cs := [_, _, _, _, _, _]) rfl rfl) ?_
 refine RK.val (guard_yes rfl rfl (congrArg not (same_t a2 b2))) (Eff.call0 p3') ?_
 refine RK.val (guard_yes rfl rfl (congrArg not (same_t a2 b2))) (op_load_agg hT rfl rfl rfl rfl (cs := [_, _, _, _, _, _]) rfl rfl) ?_
 refine RK.val (guard_yes rfl rfl (congrArg not (same_t a2 b2))) (op_move (rfl : _ = AV.p (.c _))) ?_
 refine RK.val (guard_yes rfl rfl (congrArg not (same_t a2 b2))) (Eff.call0 (l_same _ _ _ _)) ?_
 refine RK.val (guard_yes rfl rfl (congrArg not (same_t a2 b2))) (op_unot rfl) ?_
 refine RK.V (op_pick_f rfl (congrArg not (same_t a2 b2)) (rfl : _ = AV.p (.c _))) ?_
 refine RK.M rfl ?_
 refine RK.val (guard_yes rfl rfl (congrArg not (same_t a3 b3))) (op_load_agg hT rfl rfl rfl rfl (cs := [_, _, _, _, _, _]) rfl rfl) ?_
 refine RK.val (guard_yes rfl rfl (congrArg not (same_t a3 b3))) (op_load_agg hT rfl rfl rfl rfl (cs := [_, _]) rfl rfl) ?_
 refine RK.val (guard_yes rfl rfl (congrArg not (same_t a3 b3))) (Eff.call0 p4') ?_
 refine RK.val (guard_yes rfl rfl (congrArg not (same_t a3 b3))) (op_load_agg hT rfl rfl rfl rfl (cs := [_, _, _, _, _, _]) rfl rfl) ?_
 refine RK.val (guard_yes rfl rfl (congrArg not (same_t a3 b3))) (op_move (rfl : _ = AV.p (.c _))) ?_
 refine RK.val (guard_yes rfl rfl (congrArg not (same_t a3 b3))) (Eff.call0 (l_same _ _ _ _)) ?_
 refine RK.val (guard_yes rfl rfl (congrArg not (same_t a3 b3))) (op_unot rfl) ?_
 refine RK.V (op_pick_f rfl (congrArg not (same_t a3 b3)) (rfl : _ = AV.p (.c _))) ?_
 refine RK.D ?_
 refine AWp_cond_false rfl (congrArg not (same_t a4 b4)) ?_
 refine AWp_skip ?_
 refine AWp_le (t := stL [(3, .loc 3 0), (7, .p (.c (.v (.bool true)))), (8, .loc 8 0), (9, .loc 9 0), (10, .loc 10 0), (12, .loc 12 0)] [(3, ⟨false, 1, 26, [.v (.int .u16 (D : Int)), .v (.int .u16 (i0 : Int)), .v (.int .u16 (i1 : Int)), .v (.int .u16 (i2 : Int)), .v (.int .u16 (i3 : Int)), .v (.int .u8 (m0 : Int)), .v (.int .u8 (m1 : Int)), .v (.int .u8 (m2 : Int)), .v (.int .u8 (m3 : Int))]⟩), (8, ⟨false, 1, 53, FL f.a f.b f.c⟩), (9, ⟨false, 1, 53, FL g.a g.b g.c⟩), (10, ⟨false, 1, 53, FL o.a o.b o.c⟩), (12, ⟨false, 1, 53, FL a1.a a1.b a1.c⟩)]) (le_stL ⟨.refl _, .refl _, .refl _, .refl _, .refl _, .refl _, trivial⟩ ⟨rfl, rfl, rfl, rfl, rfl, trivial⟩) ?_
 refine AWp_sr hP ?_
 refine RK.F hT rfl rfl rfl rfl rfl rfl ?_
 refine RK.V (op_index_arr hT rfl rfl rfl rfl rfl (by first | decide | omega)) ?_
 refine RK.V (op_load_one hT rfl rfl rfl rfl (by first | rfl | exact vget (by omega))) ?_
 refine RK.V (op_rem rfl rfl (by decide) (c := mm) (by rw [Int.tmod_eq_emod_of_nonneg (by omega)]; exact hmm)) ?_
 refine RK.V (op_conv hT rfl rfl rfl rfl (IntWalk.i64_in _ (by omega))) ?_
 refine RK.As rfl ?_
 refine RK.D ?_
 refine AWp_sr hP ?_
 refine RK.G6 hT rfl rfl rfl rfl rfl rfl ?_
 refine RK.M rfl ?_
 refine RK.V (Eff.call0 r1) ?_
 refine RK.V (op_move (rfl : _ = AV.t _)) ?_
 refine RK.V (op_extract rfl (v := .c _) rfl) ?_
 refine RK.V (op_extract rfl (v := .c _) rfl) ?_
 refine RK.As rfl ?_
 refine RK.As rfl ?_
 refine RK.D ?_
 refine AWp_sr hP ?_
 refine RK.G6 hT rfl rfl rfl rfl rfl rfl ?_
 refine RK.M rfl ?_
 refine RK.V (Eff.call0 r2) ?_
 refine RK.V (op_move (rfl : _ = AV.t _)) ?_
 refine RK.V (op_extract rfl (v := .c _) rfl) ?_
 refine RK.V (op_extract rfl (v := .c _) rfl) ?_
 refine RK.As rfl ?_
 refine RK.As rfl ?_
 refine RK.D ?_
 refine AWp_le (t := stL [(7, .p (.c (.v (.bool true)))), (8, .loc 8 0), (9, .loc 9 0), (10, .loc 10 0), (12, .loc 12 0), (21, .p (PE a5)), (22, .p (PE b5)), (23, .p (PE a5)), (24, .p (PE b5))] [(8, ⟨false, 1, 53, FL f.a f.b f.c⟩), (9, ⟨false, 1, 53, FL g.a g.b g.c⟩), (10, ⟨false, 1, 53, FL o.a o.b o.c⟩), (12, ⟨false, 1, 53, FL a1.a a1.b a1.c⟩)]) (le_stL ⟨.refl _, .refl _, .refl _, .refl _, .refl _, .refl _, .refl _, .refl _, .refl _, trivial⟩ ⟨rfl, rfl, rfl, rfl, trivial⟩) ?_
 refine AWp_sr hP ?_
 refine RK.G6 hT rfl rfl rfl rfl rfl rfl ?_
 refine RK.V (Eff.call0 (r_Of 0 (by decide))) ?_
 refine RK.V (Eff.call0 q6) ?_
 refine RK.V (op_move (rfl : _ = AV.t _)) ?_
 refine RK.V (op_extract rfl (v := .a _) rfl) ?_
 refine RK.V (op_extract rfl (v := .c _) rfl) ?_
 refine RK.alc guard_none (op_alloc hT rfl rfl) ?_
 refine RK.S hT rfl rfl rfl rfl rfl rfl rfl ?_
 refine RK.As rfl ?_
 refine RK.D ?_
 refine AWp_sr hP ?_
 refine RK.G6 hT rfl rfl rfl rfl rfl rfl ?_
 refine RK.G6 hT rfl rfl rfl rfl rfl rfl ?_
 refine RK.G6 hT rfl rfl rfl rfl rfl rfl ?_
 refine RK.G6 hT rfl rfl rfl rfl rfl rfl ?_
 refine RK.V (op_bslice hT rfl rfl rfl (es := [_, _, _, _, _, _, _, _, _, _, _, _, _, _, _, _, _, _, _, _, _, _, _, _]) rfl rfl rfl) ?_
 refine RK.As rfl ?_
 refine RK.D ?_
 refine AWp_sr hP ?_
 refine RK.G6 hT rfl rfl rfl rfl rfl rfl ?_
 refine RK.M rfl ?_
 refine RK.V (Eff.call0 q7) ?_
 refine RK.V (op_move (rfl : _ = AV.t _)) ?_
 refine RK.V (op_extract rfl (v := .c _) rfl) ?_
 refine RK.V (op_extract rfl (v := .c _) rfl) ?_
 refine RK.As rfl ?_
 refine RK.As rfl ?_
 refine RK.D ?_
 refine AWp_sr hP ?_
 refine RK.G6 hT rfl rfl rfl rfl rfl rfl ?_
 refine RK.M rfl ?_
 refine RK.V (Eff.call0 p7) ?_
 refine RK.alc guard_none (op_alloc hT rfl rfl) ?_
 refine RK.S hT rfl rfl rfl rfl rfl rfl rfl ?_
 refine RK.D ?_
 refine AWp_le (t := stL [(7, .p (.c (.v (.bool true)))), (10, .loc 10 0), (21, .p (PE a5)), (22, .p (PE b5)), (23, .p (PE a5)), (24, .p (PE b5)), (25, .loc 25 0), (26, .p (PE b6)), (28, .p (.c (FS a7))), (29, .p (PE b7)), (30, .loc 30 0)] [(10, ⟨false, 1, 53, FL o.a o.b o.c⟩), (25, ⟨false, 1, 53, FL a6.a a6.b a6.c⟩), (30, ⟨false, 1, 86, [FS a7, .v (.int .i64 b7)]⟩)]) (le_stL ⟨.refl _, .refl _, .refl _, .refl _, .refl _, .refl _, .refl _, .refl _, .refl _, .refl _, .refl _, trivial⟩ ⟨rfl, rfl, rfl, trivial⟩) ?_
 refine AWp_sr hP ?_
 refine RK.M rfl ?_
 refine RK.M rfl ?_
 refine RK.V (op_eql rfl rfl) ?_
 refine RK.M rfl ?_
 refine RK.val (guard_yes rfl rfl (eqI rfl)) (op_move (rfl : _ = AV.p (.c _))) ?_
 refine RK.val (guard_yes rfl rfl (eqI rfl)) (op_move (rfl : _ = AV.p (.c _))) ?_
 refine RK.val (guard_yes rfl rfl (eqI rfl)) (op_eql rfl rfl) ?_
 refine RK.V (op_pick_t rfl (eqI rfl) (rfl : _ = AV.p (.c _))) ?_
 refine RK.M rfl ?_
 refine RK.val (guard_yes rfl rfl (eqI rfl)) (op_load_agg hT rfl rfl rfl rfl (cs := [_, _, _, _, _, _]) rfl rfl) ?_
 refine RK.val (guard_yes rfl rfl (eqI rfl)) (Eff.call0 (r_Of 0 (by decide))) ?_
 refine RK.val (guard_yes rfl rfl (eqI rfl)) (Eff.call0 p6) ?_
 refine RK.val (guard_yes rfl rfl (eqI rfl)) (op_load_agg hT rfl rfl rfl rfl (cs := [_, _, _, _, _, _]) rfl rfl) ?_
 refine RK.val (guard_yes rfl rfl (eqI rfl)) (op_move (rfl : _ = AV.p (.c _))) ?_
 refine RK.val (guard_yes rfl rfl (eqI rfl)) (Eff.call0 (l_same _ _ _ _)) ?_
 refine RK.V (op_pick_t rfl (eqI rfl) (rfl : _ = AV.p (.c _))) ?_
 refine RK.M rfl ?_
 refine RK.val (guard_yes rfl rfl (same_t a6 b6)) (op_move (rfl : _ = AV.p (.c _))) ?_
 refine RK.val (guard_yes rfl rfl (same_t a6 b6)) (op_field_loc hT rfl rfl rfl rfl rfl rfl) ?_
 refine RK.val (guard_yes rfl rfl (same_t a6 b6)) (op_load_one hT rfl rfl rfl rfl (by first | rfl | exact vget (by omega))) ?_
 refine RK.val (guard_yes rfl rfl (same_t a6 b6)) (op_eql rfl rfl) ?_
 refine RK.V (op_pick_t rfl (same_t a6 b6) (rfl : _ = AV.p (.c _))) ?_
 refine RK.M rfl ?_
 refine RK.val (guard_yes rfl rfl (eqI rfl)) (op_move (rfl : _ = AV.p (.c _))) ?_
 refine RK.val (guard_yes rfl rfl (eqI rfl)) (op_field_loc hT rfl rfl rfl rfl rfl rfl) ?_
 refine RK.val (guard_yes rfl rfl (eqI rfl)) (op_load_one hT rfl rfl rfl rfl (by first | rfl | exact vget (by omega))) ?_
 refine RK.val (guard_yes rfl rfl (eqI rfl)) (Eff.call0 s7) ?_
 refine RK.V (op_pick_t rfl (eqI rfl) (rfl : _ = AV.p (.c _))) ?_
 refine RK.M rfl ?_
 refine RK.val (guard_yes rfl rfl (decide_eq_true rfl)) (op_move (rfl : _ = AV.p (.c _))) ?_
 refine RK.V (op_pick_t rfl (decide_eq_true rfl) (rfl : _ = AV.p (.c _))) ?_
 refine RK.As rfl ?_
 refine RK.D ?_
 refine AWp_ret ?_
 refine ends_one rfl (.inr rfl) (res_tmp rfl) ?_ O_ends
 exact .refl _
end Go.Proofs.YtpaifigafaijpaaGreatDoor
end
