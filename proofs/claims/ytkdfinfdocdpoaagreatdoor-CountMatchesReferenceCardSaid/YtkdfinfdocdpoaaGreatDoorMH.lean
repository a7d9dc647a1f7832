/- Texts merged by program, in build order. -/
import Derived.Test.YtkdfinfdocdpoaaGreatDoorMT
import Derived.Test.YtkdfinfdocdpoaaGreatDoorMF
import Derived.Test.YtkdfinfdocdpoaaGreatDoorME
import Derived.Test.YtkdfinfdocdpoaaGreatDoorMG

section
/- the list of reduced forms -/
namespace Go.Proofs.YtkdfinfdocdpoaaGreatDoor
open Go Go.AM

/- algorist/algoristref08.Size -/
set_option maxHeartbeats 1000000 in
set_option maxRecDepth 100000 in
theorem r8_Size (D i0 i1 i2 i3 m0 m1 m2 m3 : Nat) (_hD : D < 65536) (_g0 : i0 < 65536) (_g1 : i1 < 65536) (_g2 : i2 < 65536) (_g3 : i3 < 65536) (_k0 : m0 < 256) (_k1 : m1 < 256) (_k2 : m2 < 256) (_k3 : m3 < 256) :
    Call0 Tryz.prog 34 [.p (.a [.v (.int .u16 (D : Int)), .v (.int .u16 (i0 : Int)), .v (.int .u16 (i1 : Int)), .v (.int .u16 (i2 : Int)), .v (.int .u16 (i3 : Int)), .v (.int .u8 (m0 : Int)), .v (.int .u8 (m1 : Int)), .v (.int .u8 (m2 : Int)), .v (.int .u8 (m3 : Int))])] (Z (szz D)) := by
  obtain ⟨s1, s2, s3, s4, s5⟩ := szz_spec D
  have d1 := Int.emod_nonneg (D : Int) (show (2000 : Int) ≠ 0 by omega)
  have d2 := Int.emod_lt_of_pos (D : Int) (show (0 : Int) < 2000 by omega)
  refine callM_of (np := 0) Tryz.func34 (by kernel_rfl) rfl rfl (Nat.le_of_ble_eq_true rfl) (fun m h => absurd rfl h) (fun m h => absurd rfl h) rfl ?_
  refine AWp_seq ?_
  refine AWp_region hP ?_
  refine RK.alc guard_none (op_box rfl rfl) ?_
  refine RK.val guard_none (op_assign (rfl : _ = AV.p (.c _))) ?_
  refine RK.done (by kernel_rfl) ?_
  refine AWp_seq ?_
  refine AWp_region hP ?_
  refine RK.val guard_none (op_field_loc hT rfl rfl rfl rfl rfl rfl) ?_
  refine RK.val guard_none (op_load_one hT rfl rfl rfl rfl (by first | rfl | exact vget (by omega))) ?_
  refine RK.val guard_none (op_rem rfl rfl (by decide) (c := (D : Int) % 2000) (Int.tmod_eq_emod_of_nonneg (by omega))) ?_
  refine RK.val guard_none (op_conv hT rfl rfl rfl rfl (IntWalk.i64_in _ (by omega))) ?_
  refine RK.val guard_none (op_add rfl rfl (by first | exact IntWalk.i64_in _ (by omega) | rfl)) ?_
  refine RK.val guard_none (op_assign (rfl : _ = AV.p (.c _))) ?_
  refine RK.done (by kernel_rfl) ?_
  refine AWp_seq ?_
  refine AWp_block ?_
  refine AWp_loop (ι := Int) (fun n => stL [(3, Z n)] []) (fun n => 3 + (D : Int) % 2000 ≤ n ∧ n ≤ szz D) (fun n => (szz D - n).toNat) (3 + (D : Int) % 2000) ⟨Int.le_refl _, s1⟩ (le_stL ⟨.refl _, trivial⟩ trivial) ?_
  rintro n ⟨hn1, hn2⟩
  refine AWp_seq ?_
  refine AWp_seq ?_
  refine AWp_region hP ?_
  refine RK.val guard_none (op_move (rfl : _ = AV.p (.c _))) ?_
  refine RK.val guard_none (op_rem rfl rfl (by decide) (c := n % 4) (Int.tmod_eq_emod_of_nonneg (by omega))) ?_
  refine RK.val guard_none (op_neq rfl rfl) ?_
  refine RK.val guard_none (op_move (rfl : _ = AV.p (.c _))) ?_
  refine RK.split (t := 12) rfl (fun hg1 => ?_) (fun hg1 => ?_)
  · have hg1_ := bneT hg1
    refine RK.val (guard_yes rfl rfl hg1) (op_move (rfl : _ = AV.p (.c _))) ?_
    refine RK.val (guard_yes rfl rfl hg1) (op_rem rfl rfl (by decide) (c := n % 4) (Int.tmod_eq_emod_of_nonneg (by omega))) ?_
    refine RK.val (guard_yes rfl rfl hg1) (op_neq rfl rfl) ?_
    refine RK.val guard_none (op_pick_t rfl hg1 (rfl : _ = AV.p (.c _))) ?_
    refine RK.done (by kernel_rfl) ?_
    refine AWp_cond rfl (fun hb2 => ?_) (fun hb2 => ?_)
    · have hb2_ := bneT hb2
      refine AWp_skip ?_
      refine AWp_block ?_
      refine AWp_region hP ?_
      refine RK.val guard_none (op_move (rfl : _ = AV.p (.c _))) ?_
      refine RK.val guard_none (op_add rfl rfl (by first | exact IntWalk.i64_in _ (by omega) | rfl)) ?_
      refine RK.val guard_none (op_assign (rfl : _ = AV.p (.c _))) ?_
      refine RK.done (by kernel_rfl) ?_
      have hne : n ≠ szz D := by
        rintro rfl
        have := bneT hg1
        have := bneT hb2
        omega
      refine ⟨n + 1, ⟨by omega, by omega⟩, by omega, le_stL ⟨.refl _, trivial⟩ trivial⟩
    · have hb2_ := bneF hb2
      refine AWp_exit ?_
      refine AWp_seq ?_
      refine AWp_region hP ?_
      refine RK.val guard_none (op_move (rfl : _ = AV.p (.c _))) ?_
      refine RK.val guard_none (op_assign (rfl : _ = AV.p (.c _))) ?_
      refine RK.done (by kernel_rfl) ?_
      refine AWp_ret ?_
      refine ends_one rfl (.inr rfl) (res_tmp rfl) ?_ O_ends
      exact Sub.int (s5 n hn1 hn2 (.inr (bneF hb2)))
  · have hg1_ := bneF hg1
    refine RK.skip (guard_no rfl rfl hg1) ?_
    refine RK.skip (guard_no rfl rfl hg1) ?_
    refine RK.skip (guard_no rfl rfl hg1) ?_
    refine RK.val guard_none (op_pick_f rfl hg1 (rfl : _ = AV.p (.c _))) ?_
    refine RK.done (by kernel_rfl) ?_
    refine AWp_cond_false rfl rfl ?_
    refine AWp_exit ?_
    refine AWp_seq ?_
    refine AWp_region hP ?_
    refine RK.val guard_none (op_move (rfl : _ = AV.p (.c _))) ?_
    refine RK.val guard_none (op_assign (rfl : _ = AV.p (.c _))) ?_
    refine RK.done (by kernel_rfl) ?_
    refine AWp_ret ?_
    refine ends_one rfl (.inr rfl) (res_tmp rfl) ?_ O_ends
    exact Sub.int (s5 n hn1 hn2 (.inl (bneF hg1)))

end Go.Proofs.YtkdfinfdocdpoaaGreatDoor
end

section
/- count: forms -/
namespace Go.Proofs.YtkdfinfdocdpoaaGreatDoor
open Go Go.AM

/- algorist/count.forms$1 -/
set_option maxHeartbeats 1000000 in
set_option maxRecDepth 100000 in
theorem count_forms1 (N : Int) (h1 : 0 ≤ N) (h2 : N ≤ 4194304) :
    Iter Tryz.prog 78 [[.v (.int .i64 N)]] (trI N) := by
  refine iter_of Tryz.func78 (by kernel_rfl) rfl rfl (Nat.le_of_ble_eq_true rfl) rfl ?_
  intro l n0 J hK
  refine AJ_seq ?_
  refine AJ_region hP ?_
  refine RK.val guard_none (op_assign (rfl : _ = AV.p (.c _))) ?_
  refine RK.done (by kernel_rfl) ?_
  refine AJ_block ?_
  refine AJ_loop (ι := Int × Nat) (fun p => stL [(0, .p (.c (.v (.func (.yield l) #[] #[])))), (1, .ip [.v (.int .i64 N)]), (3, Z p.1)] []) (fun p => p.2) (fun p => (trs N).drop p.2 = allT N (2001 - p.1).toNat p.1 ∧ 1 ≤ p.1 ∧ p.1 ≤ 1184 ∧ p.2 ≤ (trs N).length) (fun p => (2000 - p.1).toNat) (1, 0) ⟨tr_start N, by decide, by decide, by simp⟩ rfl (le_stL ⟨.refl _, .refl _, .refl _, trivial⟩ trivial) ?_
  rintro p ⟨hI, ha1, ha2, hpk⟩
  have hsq := aT_sq ⟨ha1, ha2⟩
  refine AJ_seq ?_
  refine AJ_seq ?_
  refine AJ_region hP ?_
  refine RK.val guard_none (op_move (rfl : _ = AV.p (.c _))) ?_
  refine RK.val guard_none (op_mul rfl rfl (by first | exact IntWalk.i64_in _ (by omega) | rfl)) ?_
  refine RK.val guard_none (op_move (rfl : _ = AV.p (.c _))) ?_
  refine RK.val guard_none (op_mul rfl rfl (by first | exact IntWalk.i64_in _ (by omega) | rfl)) ?_
  refine RK.val guard_none (op_load_ip_one hT rfl rfl rfl (by first | rfl | exact wget (by omega))) ?_
  refine RK.val guard_none (op_leq rfl rfl) ?_
  refine RK.done (by kernel_rfl) ?_
  refine AJ_cond rfl (fun hb1 => ?_) (fun hb1 => ?_)
  · have hb1_ := of_decide_eq_true hb1
    have ha3 := aT_le ha1 hb1_ h2
    refine AJ_skip ?_
    refine AJ_seq ?_
    refine AJ_block ?_
    refine AJ_seq ?_
    refine AJ_region hP ?_
    refine RK.val guard_none (op_move (rfl : _ = AV.p (.c _))) ?_
    refine RK.val guard_none (op_sub rfl rfl (by first | exact IntWalk.i64_in _ (by omega) | rfl)) ?_
    refine RK.val guard_none (op_assign (rfl : _ = AV.p (.c _))) ?_
    refine RK.done (by kernel_rfl) ?_
    refine AJ_block ?_
    refine AJ_loop (ι := Int × Nat) (fun q => stL [(0, .p (.c (.v (.func (.yield l) #[] #[])))), (1, .ip [.v (.int .i64 N)]), (3, Z p.1), (4, Z q.1)] []) (fun q => q.2) (fun q => (trs N).drop q.2 = rowT N p.1 (p.1 + 1 - q.1).toNat q.1 ++ allT N (2000 - p.1).toNat (p.1 + 1) ∧ 1 - p.1 ≤ q.1 ∧ q.1 ≤ p.1 + 1 ∧ q.2 ≤ (trs N).length) (fun q => (p.1 + 1 - q.1).toNat) (1 - p.1, p.2) ⟨tr_in hI ⟨ha1, ha2⟩ hb1_, by simp only; omega, by simp only; omega, hpk⟩ rfl (le_stL ⟨.refl _, .refl _, .refl _, .refl _, trivial⟩ trivial) ?_
    rintro q ⟨hJ, hq1, hq2, hqk⟩
    refine AJ_seq ?_
    refine AJ_seq ?_
    refine AJ_region hP ?_
    refine RK.val guard_none (op_move (rfl : _ = AV.p (.c _))) ?_
    refine RK.val guard_none (op_move (rfl : _ = AV.p (.c _))) ?_
    refine RK.val guard_none (op_leq rfl rfl) ?_
    refine RK.done (by kernel_rfl) ?_
    refine AJ_cond rfl (fun hb2 => ?_) (fun hb2 => ?_)
    · have hb2_ := of_decide_eq_true hb2
      have qs := sq_b (x := q.1) (m := 1184) (by omega)
      have qc := cT_b (x := q.1 * q.1 + N) (y := 4 * p.1) (by omega) (by omega)
      refine AJ_skip ?_
      refine AJ_seq ?_
      refine AJ_block ?_
      refine AJ_seq ?_
      refine AJ_region hP ?_
      refine RK.val guard_none (op_move (rfl : _ = AV.p (.c _))) ?_
      refine RK.val guard_none (op_move (rfl : _ = AV.p (.c _))) ?_
      refine RK.val guard_none (op_mul rfl rfl (by first | exact IntWalk.i64_in _ (by omega) | rfl)) ?_
      refine RK.val guard_none (op_load_ip_one hT rfl rfl rfl (by first | rfl | exact wget (by omega))) ?_
      refine RK.val guard_none (op_add rfl rfl (by first | exact IntWalk.i64_in _ (by omega) | rfl)) ?_
      refine RK.val guard_none (op_move (rfl : _ = AV.p (.c _))) ?_
      refine RK.val guard_none (op_mul rfl rfl (by first | exact IntWalk.i64_in _ (by omega) | rfl)) ?_
      refine RK.val guard_none (op_quo rfl rfl (by omega) (c := ((q.1 * q.1 + N) / (4 * p.1))) (by rw [Int.tdiv_eq_ediv_of_nonneg (by omega), IntWalk.i64_in _ (by omega)])) ?_
      refine RK.val guard_none (op_assign (rfl : _ = AV.p (.c _))) ?_
      refine RK.done (by kernel_rfl) ?_
      refine AJ_seq ?_
      refine AJ_seq ?_
      refine AJ_region hP ?_
      refine RK.val guard_none (op_move (rfl : _ = AV.p (.c _))) ?_
      refine RK.val guard_none (op_move (rfl : _ = AV.p (.c _))) ?_
      refine RK.val guard_none (op_mul rfl rfl (by first | exact IntWalk.i64_in _ (by omega) | rfl)) ?_
      refine RK.val guard_none (op_load_ip_one hT rfl rfl rfl (by first | rfl | exact wget (by omega))) ?_
      refine RK.val guard_none (op_add rfl rfl (by first | exact IntWalk.i64_in _ (by omega) | rfl)) ?_
      refine RK.val guard_none (op_move (rfl : _ = AV.p (.c _))) ?_
      refine RK.val guard_none (op_mul rfl rfl (by first | exact IntWalk.i64_in _ (by omega) | rfl)) ?_
      refine RK.val guard_none (op_rem rfl rfl (by omega) (c := ((q.1 * q.1 + N) % (4 * p.1))) (Int.tmod_eq_emod_of_nonneg (by omega))) ?_
      refine RK.val guard_none (op_neq rfl rfl) ?_
      refine RK.val guard_none (op_move (rfl : _ = AV.p (.c _))) ?_
      refine RK.split (t := 38) rfl (fun hg3 => ?_) (fun hg3 => ?_)
      · have hg3_ := bneT hg3
        refine RK.skip (guard_no rfl rfl hg3) ?_
        refine RK.skip (guard_no rfl rfl hg3) ?_
        refine RK.skip (guard_no rfl rfl hg3) ?_
        refine RK.val guard_none (op_pick_t rfl hg3 (rfl : _ = AV.p (.c _))) ?_
        refine RK.val guard_none (op_move (rfl : _ = AV.p (.c _))) ?_
        refine RK.skip (guard_no rfl rfl rfl) ?_
        refine RK.skip (guard_no rfl rfl rfl) ?_
        refine RK.skip (guard_no rfl rfl rfl) ?_
        refine RK.skip (guard_sk rfl rfl) ?_
        refine RK.skip (guard_sk rfl rfl) ?_
        refine RK.skip (guard_sk rfl rfl) ?_
        refine RK.skip (guard_no rfl rfl rfl) ?_
        refine RK.val guard_none (op_pick_t rfl rfl (rfl : _ = AV.p (.c _))) ?_
        refine RK.done (by kernel_rfl) ?_
        refine AJ_cond_true rfl rfl ?_
        refine AJ_exit ?_
        refine AJ_region hP ?_
        refine RK.val guard_none (op_move (rfl : _ = AV.p (.c _))) ?_
        refine RK.val guard_none (op_add rfl rfl (by first | exact IntWalk.i64_in _ (by omega) | rfl)) ?_
        refine RK.val guard_none (op_assign (rfl : _ = AV.p (.c _))) ?_
        refine RK.done (by kernel_rfl) ?_
        refine ⟨(q.1 + 1, q.2), ⟨tr_no hJ hb2_ (okT_1 hg3_), by simp only; omega, by simp only; omega, hqk⟩, by simp only; omega, rfl, le_stL ⟨.refl _, .refl _, .refl _, .refl _, trivial⟩ trivial⟩
      · have hg3_ := bneF hg3
        have hz : ((q.1 * q.1 + N) % (4 * p.1)) = 0 := hg3_
        refine RK.val (guard_yes rfl rfl hg3) (op_move (rfl : _ = AV.p (.c _))) ?_
        refine RK.val (guard_yes rfl rfl hg3) (op_move (rfl : _ = AV.p (.c _))) ?_
        refine RK.val (guard_yes rfl rfl hg3) (op_lss rfl rfl) ?_
        refine RK.val guard_none (op_pick_f rfl hg3 (rfl : _ = AV.p (.c _))) ?_
        refine RK.val guard_none (op_move (rfl : _ = AV.p (.c _))) ?_
        refine RK.split (t := 43) rfl (fun hg4 => ?_) (fun hg4 => ?_)
        · have hg4_ := of_decide_eq_true hg4
          refine RK.skip (guard_no rfl rfl hg4) ?_
          refine RK.skip (guard_no rfl rfl hg4) ?_
          refine RK.skip (guard_no rfl rfl hg4) ?_
          refine RK.skip (guard_sk rfl rfl) ?_
          refine RK.skip (guard_sk rfl rfl) ?_
          refine RK.skip (guard_sk rfl rfl) ?_
          refine RK.skip (guard_no rfl rfl hg4) ?_
          refine RK.val guard_none (op_pick_t rfl hg4 (rfl : _ = AV.p (.c _))) ?_
          refine RK.done (by kernel_rfl) ?_
          refine AJ_cond_true rfl rfl ?_
          refine AJ_exit ?_
          refine AJ_region hP ?_
          refine RK.val guard_none (op_move (rfl : _ = AV.p (.c _))) ?_
          refine RK.val guard_none (op_add rfl rfl (by first | exact IntWalk.i64_in _ (by omega) | rfl)) ?_
          refine RK.val guard_none (op_assign (rfl : _ = AV.p (.c _))) ?_
          refine RK.done (by kernel_rfl) ?_
          refine ⟨(q.1 + 1, q.2), ⟨tr_no hJ hb2_ (okT_2 hz hg4_), by simp only; omega, by simp only; omega, hqk⟩, by simp only; omega, rfl, le_stL ⟨.refl _, .refl _, .refl _, .refl _, trivial⟩ trivial⟩
        · have hg4_ := of_decide_eq_false hg4
          refine RK.val (guard_yes rfl rfl hg4) (op_move (rfl : _ = AV.p (.c _))) ?_
          refine RK.val (guard_yes rfl rfl hg4) (op_lss rfl rfl) ?_
          refine RK.val (guard_yes rfl rfl hg4) (op_move (rfl : _ = AV.p (.c _))) ?_
          refine RK.split (t := 46) rfl (fun hg5 => ?_) (fun hg5 => ?_)
          · have hg5_ := of_decide_eq_true hg5
            refine RK.val (guard_yes rfl rfl hg5) (op_move (rfl : _ = AV.p (.c _))) ?_
            refine RK.val (guard_yes rfl rfl hg5) (op_move (rfl : _ = AV.p (.c _))) ?_
            refine RK.val (guard_yes rfl rfl hg5) (op_eql rfl rfl) ?_
            refine RK.val (guard_yes rfl rfl hg4) (op_pick_t rfl hg5 (rfl : _ = AV.p (.c _))) ?_
            refine RK.val guard_none (op_pick_f rfl hg4 (rfl : _ = AV.p (.c _))) ?_
            refine RK.done (by kernel_rfl) ?_
            refine AJ_cond rfl (fun hb6 => ?_) (fun hb6 => ?_)
            · have hb6_ := bT hb6
              refine AJ_exit ?_
              refine AJ_region hP ?_
              refine RK.val guard_none (op_move (rfl : _ = AV.p (.c _))) ?_
              refine RK.val guard_none (op_add rfl rfl (by first | exact IntWalk.i64_in _ (by omega) | rfl)) ?_
              refine RK.val guard_none (op_assign (rfl : _ = AV.p (.c _))) ?_
              refine RK.done (by kernel_rfl) ?_
              refine ⟨(q.1 + 1, q.2), ⟨tr_no hJ hb2_ (okT_3 hz hg4_ hg5_ hb6_), by simp only; omega, by simp only; omega, hqk⟩, by simp only; omega, rfl, le_stL ⟨.refl _, .refl _, .refl _, .refl _, trivial⟩ trivial⟩
            · have hb6_ := bF hb6
              have hy := tr_yes hJ hb2_ (okT_4 hz hg4_ hb6_)
              refine AJ_skip ?_
              refine AJ_seq ?_
              refine AJ_regionY ?_
              refine RJ.val guard_none (op_move (rfl : _ = AV.p (.c _))) ?_
              refine RJ.val guard_none (op_move (rfl : _ = AV.p (.c _))) ?_
              refine RJ.val guard_none (op_move (rfl : _ = AV.p (.c _))) ?_
              refine RJ.val guard_none (op_move (rfl : _ = AV.p (.c _))) ?_
              refine RJ.val guard_none (op_build_st hT rfl rfl rfl (es := [_, _, _]) rfl) ?_
              refine RJ.yield hK guard_none rfl rfl (tr_get hy) ?_
              refine RJ.val guard_none (op_unot rfl) ?_
              refine RJ.done ?_
              refine AJ_cond_false rfl rfl ?_
              refine AJ_skip ?_
              refine AJ_region hP ?_
              refine RK.val guard_none (op_move (rfl : _ = AV.p (.c _))) ?_
              refine RK.val guard_none (op_add rfl rfl (by first | exact IntWalk.i64_in _ (by omega) | rfl)) ?_
              refine RK.val guard_none (op_assign (rfl : _ = AV.p (.c _))) ?_
              refine RK.done (by kernel_rfl) ?_
              refine ⟨(q.1 + 1, q.2 + 1), ⟨tr_next hy, by simp only; omega, by simp only; omega, tr_lt hy⟩, by simp only; omega, rfl, le_stL ⟨.refl _, .refl _, .refl _, .refl _, trivial⟩ trivial⟩
          · have hg5_ := of_decide_eq_false hg5
            have hy := tr_yes hJ hb2_ (okT_5 hz hg4_ hg5_)
            refine RK.skip (guard_no rfl rfl hg5) ?_
            refine RK.skip (guard_no rfl rfl hg5) ?_
            refine RK.skip (guard_no rfl rfl hg5) ?_
            refine RK.val (guard_yes rfl rfl hg4) (op_pick_f rfl hg5 (rfl : _ = AV.p (.c _))) ?_
            refine RK.val guard_none (op_pick_f rfl hg4 (rfl : _ = AV.p (.c _))) ?_
            refine RK.done (by kernel_rfl) ?_
            refine AJ_cond_false rfl rfl ?_
            refine AJ_skip ?_
            refine AJ_seq ?_
            refine AJ_regionY ?_
            refine RJ.val guard_none (op_move (rfl : _ = AV.p (.c _))) ?_
            refine RJ.val guard_none (op_move (rfl : _ = AV.p (.c _))) ?_
            refine RJ.val guard_none (op_move (rfl : _ = AV.p (.c _))) ?_
            refine RJ.val guard_none (op_move (rfl : _ = AV.p (.c _))) ?_
            refine RJ.val guard_none (op_build_st hT rfl rfl rfl (es := [_, _, _]) rfl) ?_
            refine RJ.yield hK guard_none rfl rfl (tr_get hy) ?_
            refine RJ.val guard_none (op_unot rfl) ?_
            refine RJ.done ?_
            refine AJ_cond_false rfl rfl ?_
            refine AJ_skip ?_
            refine AJ_region hP ?_
            refine RK.val guard_none (op_move (rfl : _ = AV.p (.c _))) ?_
            refine RK.val guard_none (op_add rfl rfl (by first | exact IntWalk.i64_in _ (by omega) | rfl)) ?_
            refine RK.val guard_none (op_assign (rfl : _ = AV.p (.c _))) ?_
            refine RK.done (by kernel_rfl) ?_
            refine ⟨(q.1 + 1, q.2 + 1), ⟨tr_next hy, by simp only; omega, by simp only; omega, tr_lt hy⟩, by simp only; omega, rfl, le_stL ⟨.refl _, .refl _, .refl _, .refl _, trivial⟩ trivial⟩
    · have hb2_ := of_decide_eq_false hb2
      refine AJ_exit ?_
      refine AJ_region hP ?_
      refine RK.val guard_none (op_move (rfl : _ = AV.p (.c _))) ?_
      refine RK.val guard_none (op_add rfl rfl (by first | exact IntWalk.i64_in _ (by omega) | rfl)) ?_
      refine RK.val guard_none (op_assign (rfl : _ = AV.p (.c _))) ?_
      refine RK.done (by kernel_rfl) ?_
      refine ⟨(p.1 + 1, q.2), ⟨tr_out hJ hb2_, by simp only; omega, by simp only; omega, hqk⟩, by simp only; omega, rfl, le_stL ⟨.refl _, .refl _, .refl _, trivial⟩ trivial⟩
  · have hb1_ := of_decide_eq_false hb1
    refine AJ_exit ?_
    refine ⟨.inl rfl, ?_⟩
    exact tr_end hI hb1_ hpk

end Go.Proofs.YtkdfinfdocdpoaaGreatDoor
end

section
/- chapter 11: small numbers -/
namespace Go.Proofs.YtkdfinfdocdpoaaGreatDoor
open Go Go.AM

/- algorist/count.number -/
set_option maxHeartbeats 1000000 in
set_option maxRecDepth 100000 in
theorem c_number (z : Int) (hz : InI64 z) :
    Call0 Tryz.prog 48 [Z z] (I z) := by
  refine callM_of (np := 0) Tryz.func48 (by kernel_rfl) rfl rfl (Nat.le_of_ble_eq_true rfl) (fun m h => absurd rfl h) (fun m h => absurd rfl h) rfl ?_
  refine AWp_seq ?_
  refine AWp_region hP ?_
  refine RK.alc guard_none (op_alloc hT rfl rfl) ?_
  refine RK.done (by kernel_rfl) ?_
  refine AWp_seq ?_
  refine AWp_region hP ?_
  refine RK.val guard_none (op_move (rfl : _ = AV.p (.c _))) ?_
  refine RK.val guard_none (Eff.call0 (int_Of _ (by first | assumption | decide))) ?_
  refine RK.sto guard_none (op_store hT rfl rfl rfl rfl rfl rfl (cs := [_, _]) rfl) ?_
  refine RK.done (by kernel_rfl) ?_
  refine AWp_ret ?_
  refine ends_one rfl (.inr rfl) (res_cell_agg hT rfl rfl rfl rfl (cs := [_, _]) rfl rfl) ?_ O_ends
  exact .refl _

/- algorist/modular.of -/
set_option maxHeartbeats 1000000 in
set_option maxRecDepth 100000 in
theorem m_of (z : Int) (hz : InI64 z) :
    Call0 Tryz.prog 124 [Z z] (I z) := by
  refine callM_of (np := 0) Tryz.func124 (by kernel_rfl) rfl rfl (Nat.le_of_ble_eq_true rfl) (fun m h => absurd rfl h) (fun m h => absurd rfl h) rfl ?_
  refine AWp_seq ?_
  refine AWp_region hP ?_
  refine RK.alc guard_none (op_alloc hT rfl rfl) ?_
  refine RK.done (by kernel_rfl) ?_
  refine AWp_seq ?_
  refine AWp_region hP ?_
  refine RK.val guard_none (op_move (rfl : _ = AV.p (.c _))) ?_
  refine RK.val guard_none (Eff.call0 (int_Of _ (by first | assumption | decide))) ?_
  refine RK.sto guard_none (op_store hT rfl rfl rfl rfl rfl rfl (cs := [_, _]) rfl) ?_
  refine RK.done (by kernel_rfl) ?_
  refine AWp_ret ?_
  refine ends_one rfl (.inr rfl) (res_cell_agg hT rfl rfl rfl rfl (cs := [_, _]) rfl rfl) ?_ O_ends
  exact .refl _

/- (algorist/count.triple).form -/
set_option maxHeartbeats 1000000 in
set_option maxRecDepth 100000 in
theorem c_form (a b c : Int) (ha : InI64 a) (hb : InI64 b) (hc : InI64 c) :
    Call0 Tryz.prog 72 [.p (.a [.v (.int .i64 a), .v (.int .i64 b), .v (.int .i64 c)])] (FA a b c) := by
  refine callM_of (np := 0) Tryz.func72 (by kernel_rfl) rfl rfl (Nat.le_of_ble_eq_true rfl) (fun m h => absurd rfl h) (fun m h => absurd rfl h) rfl ?_
  refine AWp_seq ?_
  refine AWp_region hP ?_
  refine RK.alc guard_none (op_box rfl rfl) ?_
  refine RK.alc guard_none (op_alloc hT rfl rfl) ?_
  refine RK.done (by kernel_rfl) ?_
  refine AWp_seq ?_
  refine AWp_region hP ?_
  refine RK.val guard_none (op_field_loc hT rfl rfl rfl rfl rfl rfl) ?_
  refine RK.val guard_none (op_load_one hT rfl rfl rfl rfl (by first | rfl | exact vget (by omega))) ?_
  refine RK.val guard_none (Eff.call0 (c_number _ (by first | assumption | decide))) ?_
  refine RK.val guard_none (op_field_loc hT rfl rfl rfl rfl rfl rfl) ?_
  refine RK.val guard_none (op_load_one hT rfl rfl rfl rfl (by first | rfl | exact vget (by omega))) ?_
  refine RK.val guard_none (Eff.call0 (c_number _ (by first | assumption | decide))) ?_
  refine RK.val guard_none (op_field_loc hT rfl rfl rfl rfl rfl rfl) ?_
  refine RK.val guard_none (op_load_one hT rfl rfl rfl rfl (by first | rfl | exact vget (by omega))) ?_
  refine RK.val guard_none (Eff.call0 (c_number _ (by first | assumption | decide))) ?_
  refine RK.val guard_none (op_build_st hT rfl rfl rfl (es := [_, _, _, _, _, _]) rfl) ?_
  refine RK.sto guard_none (op_store hT rfl rfl rfl rfl rfl rfl (cs := [_, _, _, _, _, _]) rfl) ?_
  refine RK.done (by kernel_rfl) ?_
  refine AWp_ret ?_
  refine ends_one rfl (.inr rfl) (res_cell_agg hT rfl rfl rfl rfl (cs := [_, _, _, _, _, _]) rfl rfl) ?_ O_ends
  exact .refl _

/- algorist/modular.one -/
set_option maxHeartbeats 1000000 in
set_option maxRecDepth 100000 in
theorem m_one (x : Int) :
    Call0 Tryz.prog 99 [I x] (B (decide (x = 1))) := by
  refine callM_of (np := 0) Tryz.func99 (by kernel_rfl) rfl rfl (Nat.le_of_ble_eq_true rfl) (fun m h => absurd rfl h) (fun m h => absurd rfl h) rfl ?_
  refine AWp_seq ?_
  refine AWp_region hP ?_
  refine RK.alc guard_none (op_box rfl rfl) ?_
  refine RK.val guard_none (op_assign (rfl : _ = AV.p (.c _))) ?_
  refine RK.done (by kernel_rfl) ?_
  refine AWp_seq ?_
  refine AWp_region hP ?_
  refine RK.val guard_none (op_load_agg hT rfl rfl rfl rfl (cs := [_, _]) rfl rfl) ?_
  refine RK.val guard_none (Eff.call0 (m_of _ (by first | assumption | decide))) ?_
  refine RK.val guard_none (Eff.call0 (int_Cmp _ _)) ?_
  refine RK.val guard_none (op_eql rfl rfl) ?_
  refine RK.val guard_none (op_assign (rfl : _ = AV.p (.c _))) ?_
  refine RK.done (by kernel_rfl) ?_
  refine AWp_ret ?_
  refine ends_one rfl (.inr rfl) (res_tmp rfl) ?_ O_ends
  exact Sub.bool (by rw [Bool.eq_iff_iff]; simp [cmpI_eq_zero])

/- algorist/modular.odd -/
set_option maxHeartbeats 1000000 in
set_option maxRecDepth 100000 in
theorem m_odd (x : Int) :
    Call0 Tryz.prog 100 [I x] (B (oddB x)) := by
  refine callM_of (np := 0) Tryz.func100 (by kernel_rfl) rfl rfl (Nat.le_of_ble_eq_true rfl) (fun m h => absurd rfl h) (fun m h => absurd rfl h) rfl ?_
  refine AWp_seq ?_
  refine AWp_region hP ?_
  refine RK.alc guard_none (op_box rfl rfl) ?_
  refine RK.val guard_none (op_assign (rfl : _ = AV.p (.c _))) ?_
  refine RK.done (by kernel_rfl) ?_
  refine AWp_seq ?_
  refine AWp_region hP ?_
  refine RK.val guard_none (op_field_loc hT rfl rfl rfl rfl rfl rfl) ?_
  refine RK.val guard_none (op_load_one hT rfl rfl rfl rfl (by first | rfl | exact vget (by omega))) ?_
  refine RK.val guard_none (op_len hT rfl rfl rfl rfl) ?_
  refine RK.val guard_none (op_gtr rfl rfl) ?_
  refine RK.val guard_none (op_move (rfl : _ = AV.p (.c _))) ?_
  refine RK.split (t := 7) rfl (fun hg1 => ?_) (fun hg1 => ?_)
  · have hg1_ := of_decide_eq_true hg1
    refine RK.val (guard_yes rfl rfl hg1) (op_field_loc hT rfl rfl rfl rfl rfl rfl) ?_
    refine RK.val (guard_yes rfl rfl hg1) (op_load_one hT rfl rfl rfl rfl (by first | rfl | exact vget (by omega))) ?_
    refine RK.val (guard_yes rfl rfl hg1) (by first | exact op_index_WN hT rfl rfl rfl rfl rfl rfl (by omega) | exact op_index_sl hT rfl rfl rfl rfl rfl rfl (by omega) (by first | exact W_ne (by omega) | simp)) ?_
    refine RK.val (guard_yes rfl rfl hg1) (op_load_ip_one hT rfl rfl rfl (by first | rfl | exact wget (by omega))) ?_
    refine RK.val (guard_yes rfl rfl hg1) (op_andN (m := (wl x.natAbs).getD 0 0) (n := 1) rfl rfl rfl (lt32 ((wl_ok x.natAbs).getD 0)) (by decide)) ?_
    refine RK.val (guard_yes rfl rfl hg1) (op_eql rfl rfl) ?_
    refine RK.val guard_none (op_pick_t rfl hg1 (rfl : _ = AV.p (.c _))) ?_
    refine RK.val guard_none (op_assign (rfl : _ = AV.p (.c _))) ?_
    refine RK.done (by kernel_rfl) ?_
    refine AWp_ret ?_
    refine ends_one rfl (.inr rfl) (res_tmp rfl) ?_ O_ends
    exact Sub.bool (odd_yes hg1_)
  · have hg1_ := of_decide_eq_false hg1
    refine RK.skip (guard_no rfl rfl hg1) ?_
    refine RK.skip (guard_no rfl rfl hg1) ?_
    refine RK.skip (guard_no rfl rfl hg1) ?_
    refine RK.skip (guard_no rfl rfl hg1) ?_
    refine RK.skip (guard_no rfl rfl hg1) ?_
    refine RK.skip (guard_no rfl rfl hg1) ?_
    refine RK.val guard_none (op_pick_f rfl hg1 (rfl : _ = AV.p (.c _))) ?_
    refine RK.val guard_none (op_assign (rfl : _ = AV.p (.c _))) ?_
    refine RK.done (by kernel_rfl) ?_
    refine AWp_ret ?_
    refine ends_one rfl (.inr rfl) (res_tmp rfl) ?_ O_ends
    exact Sub.bool (odd_no hg1_)

/- algorist/modular.mod -/
set_option maxHeartbeats 1000000 in
set_option maxRecDepth 100000 in
theorem m_mod (x y : Int) (hx : L 44 x) (hy : L 44 y) (h0 : y ≠ 0) :
    Call0 Tryz.prog 103 [I x, I y] (I (x % y)) := by
  have ix : LB x 44 := ⟨hx⟩
  have iy : LB y 44 := ⟨hy⟩
  refine callM_of (np := 0) Tryz.func103 (by kernel_rfl) rfl rfl (Nat.le_of_ble_eq_true rfl) (fun m h => absurd rfl h) (fun m h => absurd rfl h) rfl ?_
  refine AWp_seq ?_
  refine AWp_region hP ?_
  refine RK.alc guard_none (op_box rfl rfl) ?_
  refine RK.alc guard_none (op_box rfl rfl) ?_
  refine RK.alc guard_none (op_alloc hT rfl rfl) ?_
  refine RK.done (by kernel_rfl) ?_
  refine AWp_seq ?_
  refine AWp_region hP ?_
  refine RK.val guard_none (op_load_agg hT rfl rfl rfl rfl (cs := [_, _]) rfl rfl) ?_
  refine RK.val guard_none (op_load_agg hT rfl rfl rfl rfl (cs := [_, _]) rfl rfl) ?_
  refine RK.val guard_none (Eff.call0 (int_DivMod _ _ lz lz h0)) ?_
  refine RK.val guard_none (op_move (rfl : _ = AV.t _)) ?_
  refine RK.val guard_none (op_extract rfl (v := .a _) rfl) ?_
  refine RK.val guard_none (op_extract rfl (v := .a _) rfl) ?_
  refine RK.val guard_none (op_extract rfl (v := .c _) rfl) ?_
  refine RK.alc guard_none (op_alloc hT rfl rfl) ?_
  refine RK.alc guard_none (op_alloc hT rfl rfl) ?_
  refine RK.sto guard_none (op_store hT rfl rfl rfl rfl rfl rfl (cs := [_, _]) rfl) ?_
  refine RK.sto guard_none (op_store hT rfl rfl rfl rfl rfl rfl (cs := [_, _]) rfl) ?_
  refine RK.val guard_none (op_assign (rfl : _ = AV.p (.c _))) ?_
  refine RK.done (by kernel_rfl) ?_
  refine AWp_seq ?_
  refine AWp_region hP ?_
  refine RK.val guard_none (op_load_agg hT rfl rfl rfl rfl (cs := [_, _]) rfl rfl) ?_
  refine RK.sto guard_none (op_store hT rfl rfl rfl rfl rfl rfl (cs := [_, _]) rfl) ?_
  refine RK.done (by kernel_rfl) ?_
  refine AWp_ret ?_
  refine ends_one rfl (.inr rfl) (res_cell_agg hT rfl rfl rfl rfl (cs := [_, _]) rfl rfl) ?_ O_ends
  exact .refl _

/- algorist/modular.div -/
set_option maxHeartbeats 1000000 in
set_option maxRecDepth 100000 in
theorem m_div (x y : Int) (hx : L 44 x) (hy : L 44 y) (h0 : y ≠ 0) :
    Call0 Tryz.prog 125 [I x, I y] (I (x / y)) := by
  have ix : LB x 44 := ⟨hx⟩
  have iy : LB y 44 := ⟨hy⟩
  refine callM_of (np := 0) Tryz.func125 (by kernel_rfl) rfl rfl (Nat.le_of_ble_eq_true rfl) (fun m h => absurd rfl h) (fun m h => absurd rfl h) rfl ?_
  refine AWp_seq ?_
  refine AWp_region hP ?_
  refine RK.alc guard_none (op_box rfl rfl) ?_
  refine RK.alc guard_none (op_box rfl rfl) ?_
  refine RK.alc guard_none (op_alloc hT rfl rfl) ?_
  refine RK.done (by kernel_rfl) ?_
  refine AWp_seq ?_
  refine AWp_region hP ?_
  refine RK.val guard_none (op_load_agg hT rfl rfl rfl rfl (cs := [_, _]) rfl rfl) ?_
  refine RK.val guard_none (op_load_agg hT rfl rfl rfl rfl (cs := [_, _]) rfl rfl) ?_
  refine RK.val guard_none (Eff.call0 (int_DivMod _ _ lz lz h0)) ?_
  refine RK.val guard_none (op_move (rfl : _ = AV.t _)) ?_
  refine RK.val guard_none (op_extract rfl (v := .a _) rfl) ?_
  refine RK.val guard_none (op_extract rfl (v := .a _) rfl) ?_
  refine RK.val guard_none (op_extract rfl (v := .c _) rfl) ?_
  refine RK.alc guard_none (op_alloc hT rfl rfl) ?_
  refine RK.alc guard_none (op_alloc hT rfl rfl) ?_
  refine RK.sto guard_none (op_store hT rfl rfl rfl rfl rfl rfl (cs := [_, _]) rfl) ?_
  refine RK.sto guard_none (op_store hT rfl rfl rfl rfl rfl rfl (cs := [_, _]) rfl) ?_
  refine RK.val guard_none (op_assign (rfl : _ = AV.p (.c _))) ?_
  refine RK.done (by kernel_rfl) ?_
  refine AWp_seq ?_
  refine AWp_region hP ?_
  refine RK.val guard_none (op_load_agg hT rfl rfl rfl rfl (cs := [_, _]) rfl rfl) ?_
  refine RK.sto guard_none (op_store hT rfl rfl rfl rfl rfl rfl (cs := [_, _]) rfl) ?_
  refine RK.done (by kernel_rfl) ?_
  refine AWp_ret ?_
  refine ends_one rfl (.inr rfl) (res_cell_agg hT rfl rfl rfl rfl (cs := [_, _]) rfl rfl) ?_ O_ends
  exact .refl _

/- algorist/modular.low -/
set_option maxHeartbeats 1000000 in
set_option maxRecDepth 100000 in
theorem m_low (x m : Int) (hm : m = 4 ∨ m = 8) :
    Call0 Tryz.prog 102 [I x, .p (.c (.v (.int .u32 m)))] (.p (.c (.v (.int .u32 (x % m))))) := by
  have hm0 : 0 < m ∧ m < 10 := by omega
  have hb := Int.emod_nonneg (x.natAbs : Int) (show m ≠ 0 by omega)
  have hb2 := Int.emod_lt_of_pos (x.natAbs : Int) hm0.1
  refine callM_of (np := 0) Tryz.func102 (by kernel_rfl) rfl rfl (Nat.le_of_ble_eq_true rfl) (fun m h => absurd rfl h) (fun m h => absurd rfl h) rfl ?_
  refine AWp_seq ?_
  refine AWp_region hP ?_
  refine RK.alc guard_none (op_box rfl rfl) ?_
  refine RK.val guard_none (op_assign (rfl : _ = AV.p (.c _))) ?_
  refine RK.done (by kernel_rfl) ?_
  refine AWp_seq ?_
  refine AWp_seq ?_
  refine AWp_region hP ?_
  refine RK.val guard_none (op_field_loc hT rfl rfl rfl rfl rfl rfl) ?_
  refine RK.val guard_none (op_load_one hT rfl rfl rfl rfl (by first | rfl | exact vget (by omega))) ?_
  refine RK.val guard_none (op_len hT rfl rfl rfl rfl) ?_
  refine RK.val guard_none (op_eql rfl rfl) ?_
  refine RK.done (by kernel_rfl) ?_
  refine AWp_cond rfl (fun hb1 => ?_) (fun hb1 => ?_)
  · have hb1_ := bT hb1
    refine AWp_seq ?_
    refine AWp_region hP ?_
    refine RK.val guard_none (op_assign (rfl : _ = AV.p (.c _))) ?_
    refine RK.done (by kernel_rfl) ?_
    refine AWp_ret ?_
    refine ends_one rfl (.inr rfl) (res_tmp rfl) ?_ O_ends
    exact Sub.of_eq (by rw [low_zero hb1_])
  · have hb1_ := bF hb1
    refine AWp_skip ?_
    refine AWp_seq ?_
    refine AWp_region hP ?_
    refine RK.val guard_none (op_field_loc hT rfl rfl rfl rfl rfl rfl) ?_
    refine RK.val guard_none (op_load_one hT rfl rfl rfl rfl (by first | rfl | exact vget (by omega))) ?_
    refine RK.val guard_none (by first | exact op_index_WN hT rfl rfl rfl rfl rfl rfl (by omega) | exact op_index_sl hT rfl rfl rfl rfl rfl rfl (by omega) (by first | exact W_ne (by omega) | simp)) ?_
    refine RK.val guard_none (op_load_ip_one hT rfl rfl rfl (by first | rfl | exact wget (by omega))) ?_
    refine RK.val guard_none (op_move (rfl : _ = AV.p (.c _))) ?_
    refine RK.val guard_none (op_rem rfl rfl (by omega) (c := (x.natAbs : Int) % m) (by rw [Int.tmod_eq_emod_of_nonneg (by omega)]; exact low_get hm hb1_)) ?_
    refine RK.val guard_none (op_assign (rfl : _ = AV.p (.c _))) ?_
    refine RK.done (by kernel_rfl) ?_
    refine AWp_seq ?_
    refine AWp_seq ?_
    refine AWp_region hP ?_
    refine RK.val guard_none (op_field_loc hT rfl rfl rfl rfl rfl rfl) ?_
    refine RK.val guard_none (op_load_one hT rfl rfl rfl rfl (by first | rfl | exact vget (by omega))) ?_
    refine RK.val guard_none (op_move (rfl : _ = AV.p (.c _))) ?_
    refine RK.split (t := 18) rfl (fun hg2 => ?_) (fun hg2 => ?_)
    · refine RK.val (guard_yes rfl rfl hg2) (op_move (rfl : _ = AV.p (.c _))) ?_
      refine RK.val (guard_yes rfl rfl hg2) (op_gtr rfl rfl) ?_
      refine RK.val guard_none (op_pick_t rfl hg2 (rfl : _ = AV.p (.c _))) ?_
      refine RK.done (by kernel_rfl) ?_
      refine AWp_cond rfl (fun hb3 => ?_) (fun hb3 => ?_)
      · have hb3_ := of_decide_eq_true hb3
        refine AWp_region hP ?_
        refine RK.val guard_none (op_move (rfl : _ = AV.p (.c _))) ?_
        refine RK.val guard_none (op_move (rfl : _ = AV.p (.c _))) ?_
        refine RK.val guard_none (op_sub rfl rfl (by first | exact IntWalk.u32_in _ (by omega) | rfl)) ?_
        refine RK.val guard_none (op_assign (rfl : _ = AV.p (.c _))) ?_
        refine RK.done (by kernel_rfl) ?_
        refine AWp_seq ?_
        refine AWp_region hP ?_
        refine RK.val guard_none (op_move (rfl : _ = AV.p (.c _))) ?_
        refine RK.val guard_none (op_assign (rfl : _ = AV.p (.c _))) ?_
        refine RK.done (by kernel_rfl) ?_
        refine AWp_ret ?_
        refine ends_one rfl (.inr rfl) (res_tmp rfl) ?_ O_ends
        exact Sub.of_eq (by rw [low_neg hm (of_decide_eq_true hg2) hb3_])
      · have hb3_ := of_decide_eq_false hb3
        refine AWp_skip ?_
        refine AWp_seq ?_
        refine AWp_region hP ?_
        refine RK.val guard_none (op_move (rfl : _ = AV.p (.c _))) ?_
        refine RK.val guard_none (op_assign (rfl : _ = AV.p (.c _))) ?_
        refine RK.done (by kernel_rfl) ?_
        refine AWp_ret ?_
        refine ends_one rfl (.inr rfl) (res_tmp rfl) ?_ O_ends
        exact Sub.of_eq (by rw [low_neg0 hm (of_decide_eq_true hg2) hb3_])
    · refine RK.skip (guard_no rfl rfl hg2) ?_
      refine RK.skip (guard_no rfl rfl hg2) ?_
      refine RK.val guard_none (op_pick_f rfl hg2 (rfl : _ = AV.p (.c _))) ?_
      refine RK.done (by kernel_rfl) ?_
      refine AWp_cond_false rfl rfl ?_
      refine AWp_skip ?_
      refine AWp_seq ?_
      refine AWp_region hP ?_
      refine RK.val guard_none (op_move (rfl : _ = AV.p (.c _))) ?_
      refine RK.val guard_none (op_assign (rfl : _ = AV.p (.c _))) ?_
      refine RK.done (by kernel_rfl) ?_
      refine AWp_ret ?_
      refine ends_one rfl (.inr rfl) (res_tmp rfl) ?_ O_ends
      exact Sub.of_eq (by rw [low_pos (of_decide_eq_false hg2)])

/- algorist/count.gcd -/
set_option maxHeartbeats 1000000 in
set_option maxRecDepth 100000 in
theorem c_gcd (x y : Int) (hx : -9223372036854775807 ≤ x ∧ x ≤ 9223372036854775807) (hy : -9223372036854775807 ≤ y ∧ y ≤ 9223372036854775807) :
    Call0 Tryz.prog 75 [Z x, Z y] (Z (Int.gcd x y : Nat)) := by
  refine callM_of (np := 0) Tryz.func75 (by kernel_rfl) rfl rfl (Nat.le_of_ble_eq_true rfl) (fun m h => absurd rfl h) (fun m h => absurd rfl h) rfl ?_
  refine AWp_seq ?_
  refine AWp_region hP ?_
  refine RK.val guard_none (op_assign (rfl : _ = AV.p (.c _))) ?_
  refine RK.done (by kernel_rfl) ?_
  refine AWp_seq ?_
  refine AWp_block ?_
  refine AWp_loop (ι := Int × Int) (fun p => stL [(0, Z p.1), (1, Z p.2)] []) (fun p => Int.gcd p.1 p.2 = Int.gcd x y ∧ (-9223372036854775807 ≤ p.1 ∧ p.1 ≤ 9223372036854775807) ∧ (-9223372036854775807 ≤ p.2 ∧ p.2 ≤ 9223372036854775807)) (fun p => p.2.natAbs) (x, y) ⟨rfl, hx, hy⟩ (le_stL ⟨.refl _, .refl _, trivial⟩ trivial) ?_
  rintro p ⟨hG, hp1, hp2⟩
  refine AWp_seq ?_
  refine AWp_seq ?_
  refine AWp_region hP ?_
  refine RK.val guard_none (op_move (rfl : _ = AV.p (.c _))) ?_
  refine RK.val guard_none (op_neq rfl rfl) ?_
  refine RK.done (by kernel_rfl) ?_
  refine AWp_cond rfl (fun hb1 => ?_) (fun hb1 => ?_)
  · have hb1_ := bneT hb1
    refine AWp_skip ?_
    refine AWp_block ?_
    refine AWp_region hP ?_
    refine RK.val guard_none (op_move (rfl : _ = AV.p (.c _))) ?_
    refine RK.val guard_none (op_move (rfl : _ = AV.p (.c _))) ?_
    refine RK.val guard_none (op_move (rfl : _ = AV.p (.c _))) ?_
    refine RK.val guard_none (op_rem rfl rfl hb1_ (c := p.1.tmod p.2) rfl) ?_
    refine RK.val guard_none (op_assign (rfl : _ = AV.p (.c _))) ?_
    refine RK.val guard_none (op_assign (rfl : _ = AV.p (.c _))) ?_
    refine RK.done (by kernel_rfl) ?_
    obtain ⟨k1, k2, k3⟩ := gcd_tmod hb1_ hp1 hp2
    refine ⟨(p.2, p.1.tmod p.2), ⟨k1.trans hG, hp2, k2⟩, k3, le_stL ⟨.refl _, .refl _, trivial⟩ trivial⟩
  · have hb1_ := bneF hb1
    refine AWp_exit ?_
    refine AWp_seq ?_
    refine AWp_region hP ?_
    refine RK.val guard_none (op_move (rfl : _ = AV.p (.c _))) ?_
    refine RK.val guard_none (op_move (rfl : _ = AV.p (.c _))) ?_
    refine RK.val guard_none (op_uneg rfl (by first | exact IntWalk.i64_in _ (by omega) | rfl)) ?_
    refine RK.val guard_none (op_max rfl rfl) ?_
    refine RK.val guard_none (op_assign (rfl : _ = AV.p (.c _))) ?_
    refine RK.done (by kernel_rfl) ?_
    refine AWp_ret ?_
    refine ends_one rfl (.inr rfl) (res_tmp rfl) ?_ O_ends
    exact Sub.of_eq (by rw [gcd_end hb1_ hG])

/- algorist/algoristref11.Is -/
set_option maxHeartbeats 1000000 in
set_option maxRecDepth 100000 in
theorem r11_Is (x : Int) :
    Call0 Tryz.prog 79 [Z x] (B (isD x)) := by
  refine callM_of (np := 0) Tryz.func79 (by kernel_rfl) rfl rfl (Nat.le_of_ble_eq_true rfl) (fun m h => absurd rfl h) (fun m h => absurd rfl h) rfl ?_
  refine AWp_seq ?_
  refine AWp_region hP ?_
  refine RK.val guard_none (op_assign (rfl : _ = AV.p (.c _))) ?_
  refine RK.done (by kernel_rfl) ?_
  refine AWp_seq ?_
  refine AWp_region hP ?_
  refine RK.val guard_none (op_move (rfl : _ = AV.p (.c _))) ?_
  refine RK.val guard_none (op_gtr rfl rfl) ?_
  refine RK.val guard_none (op_move (rfl : _ = AV.p (.c _))) ?_
  refine RK.split (t := 5) rfl (fun hg1 => ?_) (fun hg1 => ?_)
  · have hg1_ := of_decide_eq_true hg1
    refine RK.val (guard_yes rfl rfl hg1) (op_move (rfl : _ = AV.p (.c _))) ?_
    refine RK.val (guard_yes rfl rfl hg1) (op_rem rfl rfl (by decide) (c := x % 4) (Int.tmod_eq_emod_of_nonneg (by omega))) ?_
    refine RK.val (guard_yes rfl rfl hg1) (op_eql rfl rfl) ?_
    refine RK.val (guard_yes rfl rfl hg1) (op_move (rfl : _ = AV.p (.c _))) ?_
    refine RK.split (t := 9) rfl (fun hg2 => ?_) (fun hg2 => ?_)
    · have hg2_ := bT hg2
      refine RK.skip (guard_no rfl rfl hg2) ?_
      refine RK.skip (guard_no rfl rfl hg2) ?_
      refine RK.skip (guard_no rfl rfl hg2) ?_
      refine RK.val (guard_yes rfl rfl hg1) (op_pick_t rfl hg2 (rfl : _ = AV.p (.c _))) ?_
      refine RK.val guard_none (op_pick_t rfl hg1 (rfl : _ = AV.p (.c _))) ?_
      refine RK.val guard_none (op_assign (rfl : _ = AV.p (.c _))) ?_
      refine RK.done (by kernel_rfl) ?_
      refine AWp_ret ?_
      refine ends_one rfl (.inr rfl) (res_tmp rfl) ?_ O_ends
      exact Sub.bool (isD_0 hg1_ (by simpa using hg2))
    · have hg2_ := bF hg2
      refine RK.val (guard_yes rfl rfl hg2) (op_move (rfl : _ = AV.p (.c _))) ?_
      refine RK.val (guard_yes rfl rfl hg2) (op_rem rfl rfl (by decide) (c := x % 4) (Int.tmod_eq_emod_of_nonneg (by omega))) ?_
      refine RK.val (guard_yes rfl rfl hg2) (op_eql rfl rfl) ?_
      refine RK.val (guard_yes rfl rfl hg1) (op_pick_f rfl hg2 (rfl : _ = AV.p (.c _))) ?_
      refine RK.val guard_none (op_pick_t rfl hg1 (rfl : _ = AV.p (.c _))) ?_
      refine RK.val guard_none (op_assign (rfl : _ = AV.p (.c _))) ?_
      refine RK.done (by kernel_rfl) ?_
      refine AWp_ret ?_
      refine ends_one rfl (.inr rfl) (res_tmp rfl) ?_ O_ends
      exact Sub.bool (isD_1 hg1_ (by simpa using hg2))
  · have hg1_ := of_decide_eq_false hg1
    refine RK.skip (guard_no rfl rfl hg1) ?_
    refine RK.skip (guard_no rfl rfl hg1) ?_
    refine RK.skip (guard_no rfl rfl hg1) ?_
    refine RK.skip (guard_no rfl rfl hg1) ?_
    refine RK.skip (guard_sk rfl rfl) ?_
    refine RK.skip (guard_sk rfl rfl) ?_
    refine RK.skip (guard_sk rfl rfl) ?_
    refine RK.skip (guard_no rfl rfl hg1) ?_
    refine RK.val guard_none (op_pick_f rfl hg1 (rfl : _ = AV.p (.c _))) ?_
    refine RK.val guard_none (op_assign (rfl : _ = AV.p (.c _))) ?_
    refine RK.done (by kernel_rfl) ?_
    refine AWp_ret ?_
    refine ends_one rfl (.inr rfl) (res_tmp rfl) ?_ O_ends
    exact Sub.bool (isD_2 hg1_)

/- algorist/algoristref11.Edge -/
set_option maxHeartbeats 1000000 in
set_option maxRecDepth 100000 in
theorem r11_Edge  :
    Call0 Tryz.prog 38 [] (Z 4194304) := by
  refine callM_of (np := 0) Tryz.func38 (by kernel_rfl) rfl rfl (Nat.le_of_ble_eq_true rfl) (fun m h => absurd rfl h) (fun m h => absurd rfl h) rfl ?_
  refine AWp_seq ?_
  refine AWp_region hP ?_
  refine RK.val guard_none (op_assign (rfl : _ = AV.p (.c _))) ?_
  refine RK.done (by kernel_rfl) ?_
  refine AWp_seq ?_
  refine AWp_region hP ?_
  refine RK.val guard_none (op_assign (rfl : _ = AV.p (.c _))) ?_
  refine RK.done (by kernel_rfl) ?_
  refine AWp_ret ?_
  refine ends_one rfl (.inr rfl) (res_tmp rfl) ?_ O_ends
  exact .refl _

end Go.Proofs.YtkdfinfdocdpoaaGreatDoor
end

section
/- chapter 11: the symbol -/
namespace Go.Proofs.YtkdfinfdocdpoaaGreatDoor
open Go Go.AM

/- algorist/modular.twos -/
set_option maxHeartbeats 1000000 in
set_option maxRecDepth 100000 in
theorem m_twos (x : Int) (hx : L 40 x) (h0 : x ≠ 0) :
    Call0 Tryz.prog 101 [I x] (.t [PI (tw x).1, PE (tw x).2]) := by
  refine callM_of (np := 0) Tryz.func101 (by kernel_rfl) rfl rfl (Nat.le_of_ble_eq_true rfl) (fun m h => absurd rfl h) (fun m h => absurd rfl h) rfl ?_
  refine AWp_seq ?_
  refine AWp_region hP ?_
  refine RK.alc guard_none (op_box rfl rfl) ?_
  refine RK.alc guard_none (op_alloc hT rfl rfl) ?_
  refine RK.val guard_none (op_assign (rfl : _ = AV.p (.c _))) ?_
  refine RK.done (by kernel_rfl) ?_
  refine AWp_seq ?_
  refine AWp_region hP ?_
  refine RK.val guard_none (op_assign (rfl : _ = AV.p (.c _))) ?_
  refine RK.done (by kernel_rfl) ?_
  refine AWp_seq ?_
  refine AWp_block ?_
  refine AWp_loop (ι := Int × Int) (fun p => stL [(1, .loc 1 0), (2, .loc 2 0), (4, Z p.2)] [(1, ⟨false, 1, 28, [zn (p.1), zm (p.1)]⟩), (2, ⟨false, 1, 28, [zn (0), zm (0)]⟩)]) (fun p => TwI x p.1 p.2) (fun p => p.1.natAbs) (x, 0) (TwI.start hx h0) (le_stL ⟨.refl _, .refl _, .refl _, trivial⟩ ⟨rfl, rfl, trivial⟩) ?_
  rintro p hI
  have hlt := hI.lt hx
  have hk0 := hI.k0
  have ib : LB p.1 40 := ⟨hI.lb⟩
  refine AWp_seq ?_
  refine AWp_seq ?_
  refine AWp_region hP ?_
  refine RK.val guard_none (op_load_agg hT rfl rfl rfl rfl (cs := [_, _]) rfl rfl) ?_
  refine RK.val guard_none (Eff.call0 (m_odd _)) ?_
  refine RK.val guard_none (op_unot rfl) ?_
  refine RK.done (by kernel_rfl) ?_
  refine AWp_cond rfl (fun hb1 => ?_) (fun hb1 => ?_)
  · have hb1_ := (notT hb1)
    refine AWp_skip ?_
    refine AWp_block ?_
    refine AWp_seq ?_
    refine AWp_region hP ?_
    refine RK.val guard_none (op_load_agg hT rfl rfl rfl rfl (cs := [_, _]) rfl rfl) ?_
    refine RK.val guard_none (Eff.call0 (m_of _ (by first | assumption | decide))) ?_
    refine RK.val guard_none (Eff.call0 (m_div _ _ lz lz (by first | assumption | decide))) ?_
    refine RK.sto guard_none (op_store hT rfl rfl rfl rfl rfl rfl (cs := [_, _]) rfl) ?_
    refine RK.done (by kernel_rfl) ?_
    refine AWp_region hP ?_
    refine RK.val guard_none (op_move (rfl : _ = AV.p (.c _))) ?_
    refine RK.val guard_none (op_add rfl rfl (by first | exact IntWalk.i64_in _ (by omega) | rfl)) ?_
    refine RK.val guard_none (op_assign (rfl : _ = AV.p (.c _))) ?_
    refine RK.done (by kernel_rfl) ?_
    refine ⟨(p.1 / 2, p.2 + 1), (hI.next (by simpa using hb1)).1, (hI.next (by simpa using hb1)).2, le_stL ⟨.refl _, .refl _, .refl _, trivial⟩ ⟨rfl, rfl, trivial⟩⟩
  · have hb1_ := (notF hb1)
    refine AWp_exit ?_
    refine AWp_seq ?_
    refine AWp_region hP ?_
    refine RK.val guard_none (op_load_agg hT rfl rfl rfl rfl (cs := [_, _]) rfl rfl) ?_
    refine RK.val guard_none (op_move (rfl : _ = AV.p (.c _))) ?_
    refine RK.sto guard_none (op_store hT rfl rfl rfl rfl rfl rfl (cs := [_, _]) rfl) ?_
    refine RK.val guard_none (op_assign (rfl : _ = AV.p (.c _))) ?_
    refine RK.done (by kernel_rfl) ?_
    refine AWp_ret ?_
    refine ends_two rfl (.inr rfl) (res_cell_agg hT rfl rfl rfl rfl (cs := [_, _]) rfl rfl) (res_tmp rfl) ?_ O_ends
    exact Sub.of_eq (by rw [tw_stop (by simpa using hb1) hI.tw])

/- algorist/modular.Kronecker -/
set_option maxHeartbeats 1000000 in
set_option maxRecDepth 100000 in
theorem m_Kronecker (a m : Int) (ha : L 40 a) (hm : L 40 m) :
    Call0 Tryz.prog 69 [I a, I m] (Z (kr a m)) := by
  have ia : LB a 40 := ⟨ha⟩
  have im : LB m 40 := ⟨hm⟩
  have hkb := k0K_b a m
  have hsg := k_sg (x := a) hkb
  have hsg0 := Int.emod_nonneg a (show (8 : Int) ≠ 0 by omega)
  have hsg1 := Int.emod_lt_of_pos a (show (0 : Int) < 8 by omega)
  refine callM_of (np := 0) Tryz.func69 (by kernel_rfl) rfl rfl (Nat.le_of_ble_eq_true rfl) (fun m h => absurd rfl h) (fun m h => absurd rfl h) rfl ?_
  refine AWp_seq ?_
  refine AWp_region hP ?_
  refine RK.alc guard_none (op_box rfl rfl) ?_
  refine RK.alc guard_none (op_box rfl rfl) ?_
  refine RK.val guard_none (op_assign (rfl : _ = AV.p (.c _))) ?_
  refine RK.done (by kernel_rfl) ?_
  refine AWp_seq ?_
  refine AWp_seq ?_
  refine AWp_region hP ?_
  refine RK.val guard_none (op_load_agg hT rfl rfl rfl rfl (cs := [_, _]) rfl rfl) ?_
  refine RK.val guard_none (Eff.call0 (int_Sign _)) ?_
  refine RK.val guard_none (op_eql rfl rfl) ?_
  refine RK.done (by kernel_rfl) ?_
  refine AWp_cond rfl (fun hb1 => ?_) (fun hb1 => ?_)
  · have hb1_ := bT hb1
    refine AWp_seq ?_
    refine AWp_seq ?_
    refine AWp_region hP ?_
    refine RK.val guard_none (op_load_agg hT rfl rfl rfl rfl (cs := [_, _]) rfl rfl) ?_
    refine RK.val guard_none (Eff.call0 (int_Abs _)) ?_
    refine RK.val guard_none (Eff.call0 (m_one _)) ?_
    refine RK.done (by kernel_rfl) ?_
    refine AWp_cond rfl (fun hb2 => ?_) (fun hb2 => ?_)
    · refine AWp_seq ?_
      refine AWp_region hP ?_
      refine RK.val guard_none (op_assign (rfl : _ = AV.p (.c _))) ?_
      refine RK.done (by kernel_rfl) ?_
      refine AWp_ret ?_
      refine ends_one rfl (.inr rfl) (res_tmp rfl) ?_ O_ends
      exact Sub.int (kr_0 (sgn_zero_iff.1 hb1_) (of_decide_eq_true hb2))
    · refine AWp_skip ?_
      refine AWp_seq ?_
      refine AWp_region hP ?_
      refine RK.val guard_none (op_assign (rfl : _ = AV.p (.c _))) ?_
      refine RK.done (by kernel_rfl) ?_
      refine AWp_ret ?_
      refine ends_one rfl (.inr rfl) (res_tmp rfl) ?_ O_ends
      exact Sub.int (kr_00 (sgn_zero_iff.1 hb1_) (of_decide_eq_false hb2))
  · have hb1_ := bF hb1
    refine AWp_skip ?_
    refine AWp_seq_cut (ι := Unit) (fun _ => stL [(2, .loc 2 0), (3, .loc 3 0)] [(2, ⟨false, 1, 28, [zn (a), zm (a)]⟩), (3, ⟨false, 1, 28, [zn (m), zm (m)]⟩)]) (fun _ => ¬ (oddB a = false ∧ oddB m = false)) ?_ ?_
    · refine AWp_seq ?_
      refine AWp_region hP ?_
      refine RK.val guard_none (op_load_agg hT rfl rfl rfl rfl (cs := [_, _]) rfl rfl) ?_
      refine RK.val guard_none (Eff.call0 (m_odd _)) ?_
      refine RK.val guard_none (op_unot rfl) ?_
      refine RK.val guard_none (op_move (rfl : _ = AV.p (.c _))) ?_
      refine RK.split (t := 16) rfl (fun hg3 => ?_) (fun hg3 => ?_)
      · have hg3_ := (notT hg3)
        refine RK.val (guard_yes rfl rfl hg3) (op_load_agg hT rfl rfl rfl rfl (cs := [_, _]) rfl rfl) ?_
        refine RK.val (guard_yes rfl rfl hg3) (Eff.call0 (m_odd _)) ?_
        refine RK.val (guard_yes rfl rfl hg3) (op_unot rfl) ?_
        refine RK.val guard_none (op_pick_t rfl hg3 (rfl : _ = AV.p (.c _))) ?_
        refine RK.done (by kernel_rfl) ?_
        refine AWp_cond rfl (fun hb4 => ?_) (fun hb4 => ?_)
        · have hb4_ := (notT hb4)
          refine AWp_seq ?_
          refine AWp_region hP ?_
          refine RK.val guard_none (op_assign (rfl : _ = AV.p (.c _))) ?_
          refine RK.done (by kernel_rfl) ?_
          refine AWp_ret ?_
          refine ends_one rfl (.inr rfl) (res_tmp rfl) ?_ O_ends
          exact Sub.int (kr_even (fun e => hb1_ (sgn_zero_iff.2 e)) hg3_ hb4_)
        · have hb4_ := (notF hb4)
          refine AWp_skip ?_
          refine ⟨(), fun x => (by rw [x.2] at hb4_; cases hb4_), le_stL ⟨.refl _, .refl _, trivial⟩ ⟨rfl, rfl, trivial⟩⟩
      · have hg3_ := (notF hg3)
        refine RK.skip (guard_no rfl rfl hg3) ?_
        refine RK.skip (guard_no rfl rfl hg3) ?_
        refine RK.skip (guard_no rfl rfl hg3) ?_
        refine RK.val guard_none (op_pick_f rfl hg3 (rfl : _ = AV.p (.c _))) ?_
        refine RK.done (by kernel_rfl) ?_
        refine AWp_cond_false rfl rfl ?_
        refine AWp_skip ?_
        refine ⟨(), fun x => (by rw [x.1] at hg3_; cases hg3_), le_stL ⟨.refl _, .refl _, trivial⟩ ⟨rfl, rfl, trivial⟩⟩
    intro _ hpar
    refine AWp_seq ?_
    refine AWp_region hP ?_
    refine RK.val guard_none (op_assign (rfl : _ = AV.p (.c _))) ?_
    refine RK.done (by kernel_rfl) ?_
    refine AWp_seq_cut (ι := Unit) (fun _ => stL [(2, .loc 2 0), (3, .loc 3 0), (5, Z (k0K a m))] [(2, ⟨false, 1, 28, [zn (a), zm (a)]⟩), (3, ⟨false, 1, 28, [zn ((m.natAbs : Int)), zm ((m.natAbs : Int))]⟩)]) (fun _ => True) ?_ ?_
    · refine AWp_seq ?_
      refine AWp_region hP ?_
      refine RK.val guard_none (op_field_loc hT rfl rfl rfl rfl rfl rfl) ?_
      refine RK.val guard_none (op_load_one hT rfl rfl rfl rfl (by first | rfl | exact vget (by omega))) ?_
      refine RK.done (by kernel_rfl) ?_
      refine AWp_cond rfl (fun hb5 => ?_) (fun hb5 => ?_)
      · refine AWp_seq ?_
        refine AWp_seq ?_
        refine AWp_region hP ?_
        refine RK.val guard_none (op_field_loc hT rfl rfl rfl rfl rfl rfl) ?_
        refine RK.val guard_none (op_load_one hT rfl rfl rfl rfl (by first | rfl | exact vget (by omega))) ?_
        refine RK.done (by kernel_rfl) ?_
        refine AWp_cond rfl (fun hb6 => ?_) (fun hb6 => ?_)
        · refine AWp_region hP ?_
          refine RK.val guard_none (op_assign (rfl : _ = AV.p (.c _))) ?_
          refine RK.done (by kernel_rfl) ?_
          refine AWp_region hP ?_
          refine RK.val guard_none (op_load_agg hT rfl rfl rfl rfl (cs := [_, _]) rfl rfl) ?_
          refine RK.val guard_none (Eff.call0 (int_Neg _)) ?_
          refine RK.sto guard_none (op_store hT rfl rfl rfl rfl rfl rfl (cs := [_, _]) rfl) ?_
          refine RK.done (by kernel_rfl) ?_
          refine ⟨(), trivial, le_stL ⟨.refl _, .refl _, Sub.int (by unfold k0K; rw [if_pos ⟨of_decide_eq_true hb5, of_decide_eq_true hb6⟩]), trivial⟩ ⟨rfl, by rw [neg_abs (of_decide_eq_true hb5)]; rfl, trivial⟩⟩
        · refine AWp_skip ?_
          refine AWp_region hP ?_
          refine RK.val guard_none (op_load_agg hT rfl rfl rfl rfl (cs := [_, _]) rfl rfl) ?_
          refine RK.val guard_none (Eff.call0 (int_Neg _)) ?_
          refine RK.sto guard_none (op_store hT rfl rfl rfl rfl rfl rfl (cs := [_, _]) rfl) ?_
          refine RK.done (by kernel_rfl) ?_
          refine ⟨(), trivial, le_stL ⟨.refl _, .refl _, Sub.int (by unfold k0K; rw [if_neg (fun x => of_decide_eq_false hb6 x.2)]), trivial⟩ ⟨rfl, by rw [neg_abs (of_decide_eq_true hb5)]; rfl, trivial⟩⟩
      · refine AWp_skip ?_
        refine ⟨(), trivial, le_stL ⟨.refl _, .refl _, Sub.int (by unfold k0K; rw [if_neg (fun x => of_decide_eq_false hb5 x.1)]), trivial⟩ ⟨rfl, by rw [pos_abs (of_decide_eq_false hb5)]; rfl, trivial⟩⟩
    intro _ _
    have hn0 : (m.natAbs : Int) ≠ 0 := fun e => hb1_ (sgn_zero_iff.2 (by omega))
    refine AWp_seq ?_
    refine AWp_region hP ?_
    refine RK.val guard_none (op_load_agg hT rfl rfl rfl rfl (cs := [_, _]) rfl rfl) ?_
    refine RK.val guard_none (Eff.call0 (m_twos _ lz hn0)) ?_
    refine RK.val guard_none (op_move (rfl : _ = AV.t _)) ?_
    refine RK.val guard_none (op_extract rfl (v := .a _) rfl) ?_
    refine RK.val guard_none (op_extract rfl (v := .c _) rfl) ?_
    refine RK.sto guard_none (op_store hT rfl rfl rfl rfl rfl rfl (cs := [_, _]) rfl) ?_
    refine RK.val guard_none (op_assign (rfl : _ = AV.p (.c _))) ?_
    refine RK.done (by kernel_rfl) ?_
    refine AWp_seq_cut (ι := Unit) (fun _ => stL [(2, .loc 2 0), (3, .loc 3 0), (5, Z (k1K a m))] [(2, ⟨false, 1, 28, [zn (a), zm (a)]⟩), (3, ⟨false, 1, 28, [zn ((tw (m.natAbs : Int)).1), zm ((tw (m.natAbs : Int)).1)]⟩)]) (fun _ => True) ?_ ?_
    · refine AWp_seq ?_
      refine AWp_region hP ?_
      refine RK.val guard_none (op_move (rfl : _ = AV.p (.c _))) ?_
      refine RK.val guard_none (op_rem rfl rfl (by decide) (c := (tw (m.natAbs : Int)).2 % 2) (Int.tmod_eq_emod_of_nonneg (by have := tw_c (x := (m.natAbs : Int)) lz hn0; omega))) ?_
      refine RK.val guard_none (op_eql rfl rfl) ?_
      refine RK.done (by kernel_rfl) ?_
      refine AWp_cond rfl (fun hb7 => ?_) (fun hb7 => ?_)
      · have hb7_ := bT hb7
        refine AWp_region hP ?_
        refine RK.val guard_none (op_move (rfl : _ = AV.p (.c _))) ?_
        refine RK.val guard_none (op_load_agg hT rfl rfl rfl rfl (cs := [_, _]) rfl rfl) ?_
        refine RK.val guard_none (Eff.call0 (m_low _ _ (by simp))) ?_
        refine RK.val guard_none (op_index_glob hT rfl rfl rfl rfl (.head _) rfl rfl (by omega)) ?_
        refine RK.val guard_none (op_load_ip_one hT rfl rfl rfl (sg8_get a)) ?_
        refine RK.val guard_none (op_mul rfl rfl (by first | exact IntWalk.i64_in _ (by omega) | rfl)) ?_
        refine RK.val guard_none (op_assign (rfl : _ = AV.p (.c _))) ?_
        refine RK.done (by kernel_rfl) ?_
        refine ⟨(), trivial, le_stL ⟨.refl _, .refl _, Sub.int (by unfold k1K; rw [if_pos hb7_]), trivial⟩ ⟨rfl, rfl, trivial⟩⟩
      · have hb7_ := bF hb7
        refine AWp_skip ?_
        refine ⟨(), trivial, le_stL ⟨.refl _, .refl _, Sub.int (by unfold k1K; rw [if_neg hb7_]), trivial⟩ ⟨rfl, rfl, trivial⟩⟩
    intro _ _
    have htw : LB (tw (m.natAbs : Int)).1 40 := tw_L lz hn0
    have ht0 : (tw (m.natAbs : Int)).1 ≠ 0 := (tw_abs _ _ (Nat.le_refl _) hn0).2.1
    refine AWp_seq ?_
    refine AWp_region hP ?_
    refine RK.val guard_none (op_load_agg hT rfl rfl rfl rfl (cs := [_, _]) rfl rfl) ?_
    refine RK.val guard_none (op_load_agg hT rfl rfl rfl rfl (cs := [_, _]) rfl rfl) ?_
    refine RK.val guard_none (Eff.call0 (m_mod _ _ lz lz ht0)) ?_
    refine RK.sto guard_none (op_store hT rfl rfl rfl rfl rfl rfl (cs := [_, _]) rfl) ?_
    refine RK.done (by kernel_rfl) ?_
    refine AWp_seq ?_
    refine AWp_block ?_
    refine AWp_loop (ι := (Int × Int × Int) × Nat) (fun i => stL [(2, .loc 2 0), (3, .loc 3 0), (5, Z (i.1.1))] [(2, ⟨false, 1, 28, [zn (i.1.2.1), zm (i.1.2.1)]⟩), (3, ⟨false, 1, 28, [zn (i.1.2.2), zm (i.1.2.2)]⟩)]) (fun i => KrI (RK_ a m) i.2 i.1.1 i.1.2.1 i.1.2.2) (fun i => i.1.2.1.natAbs) ((k1K a m, a % (tw (m.natAbs : Int)).1, (tw (m.natAbs : Int)).1), _) (KrI.start (fun e => hb1_ (sgn_zero_iff.2 e)) ha hm) (le_stL ⟨.refl _, .refl _, .refl _, trivial⟩ ⟨rfl, rfl, trivial⟩) ?_
    rintro i hI
    have h5 := hI.hk
    have j1 : LB i.1.2.1 40 := ⟨hI.la⟩
    have j2 : LB i.1.2.2 40 := ⟨hI.ln⟩
    refine AWp_seq ?_
    refine AWp_seq ?_
    refine AWp_region hP ?_
    refine RK.val guard_none (op_load_agg hT rfl rfl rfl rfl (cs := [_, _]) rfl rfl) ?_
    refine RK.val guard_none (Eff.call0 (int_Sign _)) ?_
    refine RK.val guard_none (op_gtr rfl rfl) ?_
    refine RK.done (by kernel_rfl) ?_
    refine AWp_cond rfl (fun hb8 => ?_) (fun hb8 => ?_)
    · have hb8_ := of_decide_eq_true hb8
      have hapos : 0 < i.1.2.1 := sgn_gt_iff.1 hb8_
      have hne : i.1.2.1 ≠ 0 := by omega
      have hsg2 := k_sg (x := i.1.2.2) h5
      have hkk := KrI.next hI hapos
      have hw : LB (tw i.1.2.1).1 40 := tw_L hI.la hne
      have hw0 : (tw i.1.2.1).1 ≠ 0 := (tw_abs _ _ (Nat.le_refl _) hne).2.1
      have hk1b := k1F_b (a := i.1.2.1) (n := i.1.2.2) h5
      have hsg0 := Int.emod_nonneg i.1.2.2 (show (8 : Int) ≠ 0 by omega)
      have hsg1 := Int.emod_lt_of_pos i.1.2.2 (show (0 : Int) < 8 by omega)
      refine AWp_skip ?_
      refine AWp_block ?_
      refine AWp_seq ?_
      refine AWp_region hP ?_
      refine RK.val guard_none (op_load_agg hT rfl rfl rfl rfl (cs := [_, _]) rfl rfl) ?_
      refine RK.val guard_none (Eff.call0 (m_twos _ lz hne)) ?_
      refine RK.val guard_none (op_move (rfl : _ = AV.t _)) ?_
      refine RK.val guard_none (op_extract rfl (v := .a _) rfl) ?_
      refine RK.val guard_none (op_extract rfl (v := .c _) rfl) ?_
      refine RK.sto guard_none (op_store hT rfl rfl rfl rfl rfl rfl (cs := [_, _]) rfl) ?_
      refine RK.val guard_none (op_assign (rfl : _ = AV.p (.c _))) ?_
      refine RK.done (by kernel_rfl) ?_
      refine AWp_seq_cut (ι := Unit) (fun _ => stL [(2, .loc 2 0), (3, .loc 3 0), (5, Z ((k1F i.1.1 i.1.2.1 i.1.2.2)))] [(2, ⟨false, 1, 28, [zn ((tw i.1.2.1).1), zm ((tw i.1.2.1).1)]⟩), (3, ⟨false, 1, 28, [zn (i.1.2.2), zm (i.1.2.2)]⟩)]) (fun _ => True) ?_ ?_
      · refine AWp_seq ?_
        refine AWp_region hP ?_
        refine RK.val guard_none (op_move (rfl : _ = AV.p (.c _))) ?_
        refine RK.val guard_none (op_rem rfl rfl (by decide) (c := (tw i.1.2.1).2 % 2) (Int.tmod_eq_emod_of_nonneg (by have := tw_c (x := i.1.2.1) lz hne; omega))) ?_
        refine RK.val guard_none (op_eql rfl rfl) ?_
        refine RK.done (by kernel_rfl) ?_
        refine AWp_cond rfl (fun hb9 => ?_) (fun hb9 => ?_)
        · have hb9_ := bT hb9
          refine AWp_region hP ?_
          refine RK.val guard_none (op_move (rfl : _ = AV.p (.c _))) ?_
          refine RK.val guard_none (op_load_agg hT rfl rfl rfl rfl (cs := [_, _]) rfl rfl) ?_
          refine RK.val guard_none (Eff.call0 (m_low _ _ (by simp))) ?_
          refine RK.val guard_none (op_index_glob hT rfl rfl rfl rfl (.head _) rfl rfl (by omega)) ?_
          refine RK.val guard_none (op_load_ip_one hT rfl rfl rfl (sg8_get i.1.2.2)) ?_
          refine RK.val guard_none (op_mul rfl rfl (by first | exact IntWalk.i64_in _ (by omega) | rfl)) ?_
          refine RK.val guard_none (op_assign (rfl : _ = AV.p (.c _))) ?_
          refine RK.done (by kernel_rfl) ?_
          refine ⟨(), trivial, le_stL ⟨.refl _, .refl _, Sub.int (by unfold k1F; rw [if_pos hb9_]), trivial⟩ ⟨rfl, rfl, trivial⟩⟩
        · have hb9_ := bF hb9
          refine AWp_skip ?_
          refine ⟨(), trivial, le_stL ⟨.refl _, .refl _, Sub.int (by unfold k1F; rw [if_neg hb9_]), trivial⟩ ⟨rfl, rfl, trivial⟩⟩
      intro _ _
      refine AWp_seq ?_
      refine AWp_seq ?_
      refine AWp_region hP ?_
      refine RK.val guard_none (op_load_agg hT rfl rfl rfl rfl (cs := [_, _]) rfl rfl) ?_
      refine RK.val guard_none (Eff.call0 (m_low _ _ (by simp))) ?_
      refine RK.val guard_none (op_eql rfl rfl) ?_
      refine RK.val guard_none (op_move (rfl : _ = AV.p (.c _))) ?_
      refine RK.split (t := 64) rfl (fun hg10 => ?_) (fun hg10 => ?_)
      · have hg10_ := bT hg10
        refine RK.val (guard_yes rfl rfl hg10) (op_load_agg hT rfl rfl rfl rfl (cs := [_, _]) rfl rfl) ?_
        refine RK.val (guard_yes rfl rfl hg10) (Eff.call0 (m_low _ _ (by simp))) ?_
        refine RK.val (guard_yes rfl rfl hg10) (op_eql rfl rfl) ?_
        refine RK.val guard_none (op_pick_t rfl hg10 (rfl : _ = AV.p (.c _))) ?_
        refine RK.done (by kernel_rfl) ?_
        refine AWp_cond rfl (fun hb11 => ?_) (fun hb11 => ?_)
        · have hb11_ := bT hb11
          refine AWp_region hP ?_
          refine RK.val guard_none (op_move (rfl : _ = AV.p (.c _))) ?_
          refine RK.val guard_none (op_uneg rfl (by first | exact IntWalk.i64_in _ (by omega) | rfl)) ?_
          refine RK.val guard_none (op_assign (rfl : _ = AV.p (.c _))) ?_
          refine RK.done (by kernel_rfl) ?_
          refine AWp_region hP ?_
          refine RK.val guard_none (op_load_agg hT rfl rfl rfl rfl (cs := [_, _]) rfl rfl) ?_
          refine RK.val guard_none (op_load_agg hT rfl rfl rfl rfl (cs := [_, _]) rfl rfl) ?_
          refine RK.val guard_none (Eff.call0 (m_mod _ _ lz lz hw0)) ?_
          refine RK.val guard_none (op_load_agg hT rfl rfl rfl rfl (cs := [_, _]) rfl rfl) ?_
          refine RK.sto guard_none (op_store hT rfl rfl rfl rfl rfl rfl (cs := [_, _]) rfl) ?_
          refine RK.sto guard_none (op_store hT rfl rfl rfl rfl rfl rfl (cs := [_, _]) rfl) ?_
          refine RK.done (by kernel_rfl) ?_
          refine ⟨((k2F (k1F i.1.1 i.1.2.1 i.1.2.2) i.1.2.1 i.1.2.2, i.1.2.2 % (tw i.1.2.1).1, (tw i.1.2.1).1), i.2 - 1), (hI.next hapos).1, (hI.next hapos).2, le_stL ⟨.refl _, .refl _, Sub.int (by show _ = k2F _ _ _; unfold k2F; rw [if_pos ⟨hg10_, hb11_⟩]; omega), trivial⟩ ⟨rfl, rfl, trivial⟩⟩
        · have hb11_ := bF hb11
          refine AWp_skip ?_
          refine AWp_region hP ?_
          refine RK.val guard_none (op_load_agg hT rfl rfl rfl rfl (cs := [_, _]) rfl rfl) ?_
          refine RK.val guard_none (op_load_agg hT rfl rfl rfl rfl (cs := [_, _]) rfl rfl) ?_
          refine RK.val guard_none (Eff.call0 (m_mod _ _ lz lz hw0)) ?_
          refine RK.val guard_none (op_load_agg hT rfl rfl rfl rfl (cs := [_, _]) rfl rfl) ?_
          refine RK.sto guard_none (op_store hT rfl rfl rfl rfl rfl rfl (cs := [_, _]) rfl) ?_
          refine RK.sto guard_none (op_store hT rfl rfl rfl rfl rfl rfl (cs := [_, _]) rfl) ?_
          refine RK.done (by kernel_rfl) ?_
          refine ⟨((k2F (k1F i.1.1 i.1.2.1 i.1.2.2) i.1.2.1 i.1.2.2, i.1.2.2 % (tw i.1.2.1).1, (tw i.1.2.1).1), i.2 - 1), (hI.next hapos).1, (hI.next hapos).2, le_stL ⟨.refl _, .refl _, Sub.int (by show _ = k2F _ _ _; unfold k2F; rw [if_neg (fun x => hb11_ x.2)]), trivial⟩ ⟨rfl, rfl, trivial⟩⟩
      · have hg10_ := bF hg10
        refine RK.skip (guard_no rfl rfl hg10) ?_
        refine RK.skip (guard_no rfl rfl hg10) ?_
        refine RK.skip (guard_no rfl rfl hg10) ?_
        refine RK.val guard_none (op_pick_f rfl hg10 (rfl : _ = AV.p (.c _))) ?_
        refine RK.done (by kernel_rfl) ?_
        refine AWp_cond_false rfl rfl ?_
        refine AWp_skip ?_
        refine AWp_region hP ?_
        refine RK.val guard_none (op_load_agg hT rfl rfl rfl rfl (cs := [_, _]) rfl rfl) ?_
        refine RK.val guard_none (op_load_agg hT rfl rfl rfl rfl (cs := [_, _]) rfl rfl) ?_
        refine RK.val guard_none (Eff.call0 (m_mod _ _ lz lz hw0)) ?_
        refine RK.val guard_none (op_load_agg hT rfl rfl rfl rfl (cs := [_, _]) rfl rfl) ?_
        refine RK.sto guard_none (op_store hT rfl rfl rfl rfl rfl rfl (cs := [_, _]) rfl) ?_
        refine RK.sto guard_none (op_store hT rfl rfl rfl rfl rfl rfl (cs := [_, _]) rfl) ?_
        refine RK.done (by kernel_rfl) ?_
        refine ⟨((k2F (k1F i.1.1 i.1.2.1 i.1.2.2) i.1.2.1 i.1.2.2, i.1.2.2 % (tw i.1.2.1).1, (tw i.1.2.1).1), i.2 - 1), (hI.next hapos).1, (hI.next hapos).2, le_stL ⟨.refl _, .refl _, Sub.int (by show _ = k2F _ _ _; unfold k2F; rw [if_neg (fun x => hg10_ x.1)]), trivial⟩ ⟨rfl, rfl, trivial⟩⟩
    · have hb8_ := of_decide_eq_false hb8
      refine AWp_exit ?_
      refine AWp_seq ?_
      refine AWp_seq ?_
      refine AWp_region hP ?_
      refine RK.val guard_none (op_load_agg hT rfl rfl rfl rfl (cs := [_, _]) rfl rfl) ?_
      refine RK.val guard_none (Eff.call0 (m_one _)) ?_
      refine RK.val guard_none (op_unot rfl) ?_
      refine RK.done (by kernel_rfl) ?_
      refine AWp_cond rfl (fun hb12 => ?_) (fun hb12 => ?_)
      · have hb12_ := (notT hb12)
        refine AWp_seq ?_
        refine AWp_region hP ?_
        refine RK.val guard_none (op_assign (rfl : _ = AV.p (.c _))) ?_
        refine RK.done (by kernel_rfl) ?_
        refine AWp_ret ?_
        refine ends_one rfl (.inr rfl) (res_tmp rfl) ?_ O_ends
        exact Sub.int (by rw [kr_go (fun e => hb1_ (sgn_zero_iff.2 e)) hpar, hI.stop (fun h => hb8_ (sgn_gt_iff.2 h)), if_neg (of_decide_eq_false hb12_)])
      · have hb12_ := (notF hb12)
        refine AWp_skip ?_
        refine AWp_seq ?_
        refine AWp_region hP ?_
        refine RK.val guard_none (op_move (rfl : _ = AV.p (.c _))) ?_
        refine RK.val guard_none (op_assign (rfl : _ = AV.p (.c _))) ?_
        refine RK.done (by kernel_rfl) ?_
        refine AWp_ret ?_
        refine ends_one rfl (.inr rfl) (res_tmp rfl) ?_ O_ends
        exact Sub.int (by rw [kr_go (fun e => hb1_ (sgn_zero_iff.2 e)) hpar, hI.stop (fun h => hb8_ (sgn_gt_iff.2 h)), if_pos (of_decide_eq_true hb12_)])

end Go.Proofs.YtkdfinfdocdpoaaGreatDoor
end

section
/- chapter 11: lists of forms -/
namespace Go.Proofs.YtkdfinfdocdpoaaGreatDoor
open Go Go.AM

/- algorist/count.size -/
set_option maxHeartbeats 1000000 in
set_option maxRecDepth 100000 in
theorem c_size (d : Int) (hd : -9223372036854775807 ≤ d ∧ d ≤ 9223372036854775807) :
    Call0 Tryz.prog 43 [I d] (.t [PE (szN d), PE (szE d)]) := by
  have id0 : LB d 6 := ⟨by unfold L; omega⟩
  have hm0 := Int.emod_nonneg d (show (4 : Int) ≠ 0 by omega)
  have hm1 := Int.emod_lt_of_pos d (show (0 : Int) < 4 by omega)
  refine callM_of (np := 0) Tryz.func43 (by kernel_rfl) rfl rfl (Nat.le_of_ble_eq_true rfl) (fun m h => absurd rfl h) (fun m h => absurd rfl h) rfl ?_
  refine AWp_seq ?_
  refine AWp_region hP ?_
  refine RK.alc guard_none (op_box rfl rfl) ?_
  refine RK.val guard_none (op_assign (rfl : _ = AV.p (.c _))) ?_
  refine RK.val guard_none (op_assign (rfl : _ = AV.p (.c _))) ?_
  refine RK.done (by kernel_rfl) ?_
  refine AWp_seq ?_
  refine AWp_region hP ?_
  refine RK.val guard_none (op_load_agg hT rfl rfl rfl rfl (cs := [_, _]) rfl rfl) ?_
  refine RK.val guard_none (Eff.call0 (c_number _ (by first | assumption | decide))) ?_
  refine RK.val guard_none (Eff.call0 (int_DivMod _ _ lz lz (by decide))) ?_
  refine RK.val guard_none (op_move (rfl : _ = AV.t _)) ?_
  refine RK.val guard_none (op_extract rfl (v := .a _) rfl) ?_
  refine RK.val guard_none (op_extract rfl (v := .a _) rfl) ?_
  refine RK.val guard_none (op_extract rfl (v := .c _) rfl) ?_
  refine RK.alc guard_none (op_alloc hT rfl rfl) ?_
  refine RK.alc guard_none (op_alloc hT rfl rfl) ?_
  refine RK.sto guard_none (op_store hT rfl rfl rfl rfl rfl rfl (cs := [_, _]) rfl) ?_
  refine RK.sto guard_none (op_store hT rfl rfl rfl rfl rfl rfl (cs := [_, _]) rfl) ?_
  refine RK.val guard_none (op_assign (rfl : _ = AV.p (.c _))) ?_
  refine RK.done (by kernel_rfl) ?_
  refine AWp_seq ?_
  refine AWp_seq ?_
  refine AWp_region hP ?_
  refine RK.val guard_none (op_load_agg hT rfl rfl rfl rfl (cs := [_, _]) rfl rfl) ?_
  refine RK.val guard_none (Eff.call0 (int_Sign _)) ?_
  refine RK.val guard_none (op_geq rfl rfl) ?_
  refine RK.val guard_none (op_move (rfl : _ = AV.p (.c _))) ?_
  refine RK.split (t := 19) rfl (fun hg1 => ?_) (fun hg1 => ?_)
  · have hg1_ := of_decide_eq_true hg1
    refine RK.skip (guard_no rfl rfl hg1) ?_
    refine RK.skip (guard_no rfl rfl hg1) ?_
    refine RK.skip (guard_no rfl rfl hg1) ?_
    refine RK.skip (guard_no rfl rfl hg1) ?_
    refine RK.val guard_none (op_pick_t rfl hg1 (rfl : _ = AV.p (.c _))) ?_
    refine RK.done (by kernel_rfl) ?_
    refine AWp_cond_true rfl rfl ?_
    refine AWp_seq ?_
    refine AWp_region hP ?_
    refine RK.val guard_none (op_assign (rfl : _ = AV.p (.c _))) ?_
    refine RK.val guard_none (op_assign (rfl : _ = AV.p (.c _))) ?_
    refine RK.done (by kernel_rfl) ?_
    refine AWp_ret ?_
    refine ends_two rfl (.inr rfl) (res_tmp rfl) (res_tmp rfl) ?_ O_ends
    exact Sub.of_eq (sz_5 (.inl (sgn_ge_iff.1 hg1_)))
  · have hg1_ := of_decide_eq_false hg1
    refine RK.val (guard_yes rfl rfl hg1) (op_load_agg hT rfl rfl rfl rfl (cs := [_, _]) rfl rfl) ?_
    refine RK.val (guard_yes rfl rfl hg1) (Eff.call0 (c_number _ (by first | assumption | decide))) ?_
    refine RK.val (guard_yes rfl rfl hg1) (Eff.call0 (int_Cmp _ _)) ?_
    refine RK.val (guard_yes rfl rfl hg1) (op_gtr rfl rfl) ?_
    refine RK.val guard_none (op_pick_f rfl hg1 (rfl : _ = AV.p (.c _))) ?_
    refine RK.done (by kernel_rfl) ?_
    refine AWp_cond rfl (fun hb2 => ?_) (fun hb2 => ?_)
    · have hb2_ := of_decide_eq_true hb2
      refine AWp_seq ?_
      refine AWp_region hP ?_
      refine RK.val guard_none (op_assign (rfl : _ = AV.p (.c _))) ?_
      refine RK.val guard_none (op_assign (rfl : _ = AV.p (.c _))) ?_
      refine RK.done (by kernel_rfl) ?_
      refine AWp_ret ?_
      refine ends_two rfl (.inr rfl) (res_tmp rfl) (res_tmp rfl) ?_ O_ends
      exact Sub.of_eq (sz_5 (.inr (cmpI_gt_zero.1 hb2_)))
    · have hb2_ := of_decide_eq_false hb2
      refine AWp_skip ?_
      refine AWp_seq ?_
      refine AWp_region hP ?_
      refine RK.val guard_none (op_load_agg hT rfl rfl rfl rfl (cs := [_, _]) rfl rfl) ?_
      refine RK.val guard_none (Eff.call0 (int_Neg _)) ?_
      refine RK.val guard_none (Eff.call0 (int_Low _ (by omega) (by omega))) ?_
      refine RK.val guard_none (op_move (rfl : _ = AV.t _)) ?_
      refine RK.val guard_none (op_extract rfl (v := .c _) rfl) ?_
      refine RK.val guard_none (op_extract rfl (v := .c _) rfl) ?_
      refine RK.val guard_none (op_assign (rfl : _ = AV.p (.c _))) ?_
      refine RK.val guard_none (op_assign (rfl : _ = AV.p (.c _))) ?_
      refine RK.done (by kernel_rfl) ?_
      refine AWp_seq ?_
      refine AWp_seq ?_
      refine AWp_region hP ?_
      refine RK.val guard_none (op_move (rfl : _ = AV.p (.c _))) ?_
      refine RK.val guard_none (op_unot rfl) ?_
      refine RK.val guard_none (op_move (rfl : _ = AV.p (.c _))) ?_
      refine RK.val (guard_yes rfl rfl rfl) (op_move (rfl : _ = AV.p (.c _))) ?_
      refine RK.val (guard_yes rfl rfl rfl) (op_gtr rfl rfl) ?_
      refine RK.val guard_none (op_pick_f rfl rfl (rfl : _ = AV.p (.c _))) ?_
      refine RK.done (by kernel_rfl) ?_
      refine AWp_cond rfl (fun hb4 => ?_) (fun hb4 => ?_)
      · have hb4_ := of_decide_eq_true hb4
        refine AWp_seq ?_
        refine AWp_region hP ?_
        refine RK.val guard_none (op_assign (rfl : _ = AV.p (.c _))) ?_
        refine RK.val guard_none (op_assign (rfl : _ = AV.p (.c _))) ?_
        refine RK.done (by kernel_rfl) ?_
        refine AWp_ret ?_
        refine ends_two rfl (.inr rfl) (res_tmp rfl) (res_tmp rfl) ?_ O_ends
        exact Sub.of_eq (sz_2 (fun x => x.elim (fun h => hg1_ (sgn_ge_iff.2 h)) (fun h => hb2_ (cmpI_gt_zero.2 h))) hb4_)
      · have hb4_ := of_decide_eq_false hb4
        refine AWp_skip ?_
        refine AWp_seq ?_
        refine AWp_region hP ?_
        refine RK.val guard_none (op_move (rfl : _ = AV.p (.c _))) ?_
        refine RK.val guard_none (op_assign (rfl : _ = AV.p (.c _))) ?_
        refine RK.val guard_none (op_assign (rfl : _ = AV.p (.c _))) ?_
        refine RK.done (by kernel_rfl) ?_
        refine AWp_ret ?_
        refine ends_two rfl (.inr rfl) (res_tmp rfl) (res_tmp rfl) ?_ O_ends
        exact Sub.of_eq (sz_0 (fun x => x.elim (fun h => hg1_ (sgn_ge_iff.2 h)) (fun h => hb2_ (cmpI_gt_zero.2 h))) hb4_)

/- algorist/count.forms -/
set_option maxHeartbeats 1000000 in
set_option maxRecDepth 100000 in
theorem count_forms (N : Int) :
    Call0 Tryz.prog 49 [Z N] (.fn 78 [[.v (.int .i64 N)]]) := by
  refine callA_of Tryz.func49 (by kernel_rfl) rfl rfl (Nat.le_of_ble_eq_true rfl) rfl ?_
  refine AWp_seq ?_
  refine AWp_region hP ?_
  refine RK.alc guard_none (op_box rfl rfl) ?_
  refine RK.val guard_none (op_assign (rfl : _ = AV.p (.c _))) ?_
  refine RK.done (by kernel_rfl) ?_
  refine AWp_freezeBox (t := 1) rfl rfl ?_
  refine AWp_seq ?_
  refine AWp_region hP ?_
  refine RK.val guard_none (op_makeFunc rfl) ?_
  refine RK.val guard_none (op_assign (rfl : _ = AV.fn _ _)) ?_
  refine RK.done (by kernel_rfl) ?_
  refine AWp_ret ?_
  exact ⟨.inr rfl, 2, rfl, rfl⟩

/- algorist/count.list -/
set_option maxHeartbeats 1000000 in
set_option maxRecDepth 100000 in
theorem c_list (d : Int) (hd : -9223372036854775807 ≤ d ∧ d ≤ 9223372036854775807) (W : FuncId) (p : Fm → Bool) (hW : ∀ a b c : Int, (0 < a ∧ a ≤ 2000) → (-2000 ≤ b ∧ b ≤ 2000) → (0 < c ∧ c ≤ 10000000) → Call0 Tryz.prog W [FA a b c] (B (p ⟨a, b, c⟩))) :
    Call0 Tryz.prog 39 [I d, .p (.c (.v (.func (.func W) #[] #[])))] (.t [.c (FS (if szE d = 0 then LW (-d) p else [])), PE (szE d)]) := by
  refine callM_of (np := 0) Tryz.func39 (by kernel_rfl) rfl rfl (Nat.le_of_ble_eq_true rfl) (fun m h => absurd rfl h) (fun m h => absurd rfl h) rfl ?_
  refine AWp_seq ?_
  refine AWp_region hP ?_
  refine RK.alc guard_none (op_box rfl rfl) ?_
  refine RK.alc guard_none (op_box rfl rfl) ?_
  refine RK.val guard_none (op_assign (rfl : _ = AV.p (.c _))) ?_
  refine RK.val guard_none (op_assign (rfl : _ = AV.p (.c _))) ?_
  refine RK.done (by kernel_rfl) ?_
  refine AWp_seq ?_
  refine AWp_region hP ?_
  refine RK.val guard_none (op_load_agg hT rfl rfl rfl rfl (cs := [_, _]) rfl rfl) ?_
  refine RK.val guard_none (Eff.call0 (c_size _ (by omega))) ?_
  refine RK.val guard_none (op_move (rfl : _ = AV.t _)) ?_
  refine RK.val guard_none (op_extract rfl (v := .c _) rfl) ?_
  refine RK.val guard_none (op_extract rfl (v := .c _) rfl) ?_
  refine RK.val guard_none (op_assign (rfl : _ = AV.p (.c _))) ?_
  refine RK.val guard_none (op_assign (rfl : _ = AV.p (.c _))) ?_
  refine RK.done (by kernel_rfl) ?_
  refine AWp_seq ?_
  refine AWp_seq ?_
  refine AWp_region hP ?_
  refine RK.val guard_none (op_move (rfl : _ = AV.p (.c _))) ?_
  refine RK.val guard_none (op_neq rfl rfl) ?_
  refine RK.done (by kernel_rfl) ?_
  refine AWp_cond rfl (fun hb1 => ?_) (fun hb1 => ?_)
  · have hb1_ := bneT hb1
    have hz : szE d ≠ 0 := hb1_
    refine AWp_seq ?_
    refine AWp_region hP ?_
    refine RK.val guard_none (op_move (rfl : _ = AV.p (.c _))) ?_
    refine RK.val guard_none (op_assign (rfl : _ = AV.p (.c _))) ?_
    refine RK.val guard_none (op_assign (rfl : _ = AV.p (.c _))) ?_
    refine RK.done (by kernel_rfl) ?_
    refine AWp_ret ?_
    refine ends_two rfl (.inr rfl) (res_tmp rfl) (res_tmp rfl) ?_ O_ends
    exact Sub.tup ⟨by rw [if_neg hz]; exact DSub.nil_sl, DSub.refl _, trivial⟩
  · have hb1_ := bneF hb1
    obtain ⟨hsn, hN1, hN2, hN3⟩ := szE_0 (show szE d = 0 from hb1_)
    rw [← hsn] at hN1 hN2
    generalize hNd : szN d = N at hN1 hN2 ⊢
    refine AWp_skip ?_
    refine AWp_seq ?_
    refine AWp_region hP ?_
    refine RK.alc guard_none (op_alloc_nil hT rfl rfl) ?_
    refine RK.done (by kernel_rfl) ?_
    refine AWp_seq ?_
    refine AWp_seq ?_
    refine AWp_region hP ?_
    refine RK.val guard_none (op_move (rfl : _ = AV.p (.c _))) ?_
    refine RK.val guard_none (Eff.call0 (count_forms _)) ?_
    refine RK.done (by kernel_rfl) ?_
    refine AWp_block ?_
    refine AWp_mkLink 8 1000 6 49 rfl rfl rfl rfl ?_
    refine AWp_le (t := stL [(3, .loc 3 0), (8, .loc 8 0), (20, .fn 78 [[.v (.int .i64 N)]])] [(3, ⟨false, 1, 47, [.v (.func (.func W) #[] #[])]⟩), (8, ⟨false, 1002, 33, [.sl (LK N p 0).length []]⟩), (1000, FB 49 (LK N p 0))]) (le_stL ⟨.refl _, .refl _, .refl _, trivial⟩ ⟨rfl, rfl, rfl, trivial⟩) ?_
    refine AWp_range 9 (fun k => lookO [(3, ⟨false, 1, 47, [.v (.func (.func W) #[] #[])]⟩), (8, ⟨false, 1002, 33, [.sl (LK N p k).length []]⟩), (1000, FB 49 (LK N p k))]) rfl (count_forms1 N (by omega) hN2) (trI_one N) rfl rfl rfl (fun k x hx => ?_) ?_
    · obtain ⟨t, ht, rfl⟩ := trI_get hx
      obtain ⟨⟨b1, b2⟩, ⟨b3, b4⟩, b5, b6⟩ := trs_bound (List.mem_of_getElem? ht) hN2
      have ja : InI64 t.a := by unfold InI64; omega
      have jb : InI64 t.b := by unfold InI64; omega
      have jc : InI64 t.c := by unfold InI64; omega
      refine AWp_region hP ?_
      refine RK.alc guard_none (op_alloc hT rfl rfl) ?_
      refine RK.sto guard_none (op_store hT rfl rfl rfl rfl rfl rfl (cs := [_, _, _]) rfl) ?_
      refine RK.done (by kernel_rfl) ?_
      refine AWp_block ?_
      refine AWp_seq ?_
      refine AWp_region hP ?_
      refine RK.val guard_none (op_load_agg hT rfl rfl rfl rfl (cs := [_, _, _]) rfl rfl) ?_
      refine RK.val guard_none (Eff.call0 (c_form _ _ _ (by first | assumption | decide) (by first | assumption | decide) (by first | assumption | decide))) ?_
      refine RK.alc guard_none (op_alloc hT rfl rfl) ?_
      refine RK.sto guard_none (op_store hT rfl rfl rfl rfl rfl rfl (cs := [_, _, _, _, _, _]) rfl) ?_
      refine RK.done (by kernel_rfl) ?_
      refine AWp_seq ?_
      refine AWp_region hP ?_
      refine RK.val guard_none (op_load_one hT rfl rfl rfl rfl (by first | rfl | exact vget (by omega))) ?_
      refine RK.val guard_none (op_load_agg hT rfl rfl rfl rfl (cs := [_, _, _, _, _, _]) rfl rfl) ?_
      refine RK.val guard_none (Eff.callF rfl (hW _ _ _ ⟨b1, b2⟩ ⟨b3, b4⟩ ⟨b5, b6⟩)) ?_
      refine RK.done (by kernel_rfl) ?_
      refine AWp_cond rfl (fun hb2 => ?_) (fun hb2 => ?_)
      · refine AWp_region hP ?_
        refine RK.val guard_none (op_loadNm hT rfl rfl rfl rfl rfl) ?_
        refine RK.val guard_none (op_load_agg hT rfl rfl rfl rfl (cs := [_, _, _, _, _, _]) rfl rfl) ?_
        refine RK.val guard_none (op_bslice hT rfl rfl rfl (es := [_, _, _, _, _, _]) rfl rfl rfl) ?_
        refine RK.app guard_none (op_appendF hT rfl rfl rfl rfl rfl rfl rfl (f := t.fm) rfl (by have := LK_len N p k; omega) (by decide)) ?_
        refine RK.sto guard_none (op_storeNm hT rfl rfl rfl rfl rfl rfl rfl (FC_len _).symm (Nat.zero_lt_succ 5)) ?_
        refine RK.done (by kernel_rfl) ?_
        refine ⟨rfl, GW.rnL 8 30 1000 (LK N p k ++ [t.fm]).length rfl rfl rfl (FC_len _).symm (Nat.zero_lt_succ 5) rfl rfl rfl rfl ?_⟩
        show ∀ m, lookO _ m = _ ∨ lookO _ m = none
        rw [LK_yes ht hb2]
        exact SubO.own ⟨rfl, rfl, rfl, trivial⟩
      · refine AWp_skip ?_
        refine ⟨rfl, GW.forget ?_⟩
        show ∀ m, lookO _ m = _ ∨ lookO _ m = none
        rw [LK_no ht hb2]
        exact SubO.own ⟨rfl, rfl, rfl, trivial⟩
    refine AWp_seq ?_
    refine AWp_region hP ?_
    refine RK.val guard_none (op_loadNm hT rfl rfl rfl rfl rfl) ?_
    refine RK.val guard_none (op_assign (rfl : _ = AV.vec _)) ?_
    refine RK.val guard_none (op_assign (rfl : _ = AV.p (.c _))) ?_
    refine RK.done (by kernel_rfl) ?_
    refine AWp_freezeF (t := 4) rfl rfl ?_
    refine AWp_ret ?_
    refine ends_two rfl (.inr rfl) (res_tmp rfl) (res_tmp rfl) ?_ O_ends
    exact Sub.of_eq (by rw [LK_end, if_pos (show szE d = 0 from hb1_), show szE d = 0 from hb1_, ← hNd, hsn])

end Go.Proofs.YtkdfinfdocdpoaaGreatDoor
end
