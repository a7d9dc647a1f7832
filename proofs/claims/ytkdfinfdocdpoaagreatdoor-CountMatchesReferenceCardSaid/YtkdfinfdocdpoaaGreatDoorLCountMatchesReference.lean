/- Texts merged by program, in build order. -/
import Derived.Test.YtkdfinfdocdpoaaGreatDoorMT
import Derived.Test.YtkdfinfdocdpoaaGreatDoorMJ
import Derived.Test.YtkdfinfdocdpoaaGreatDoorMC
import Derived.Test.YtkdfinfdocdpoaaGreatDoorRows
import Derived.Test.YtkdfinfdocdpoaaGreatDoorTie
import Derived.Test.YtkdfinfdocdpoaaGreatDoorCards
section
/- chapter 11: CountMatchesReference -/
namespace Go.Proofs.YtkdfinfdocdpoaaGreatDoor
open Go Go.AM

theorem c_ReducedX (d : Int) (hd : L 30 d) : Call0 Tryz.prog 10 [I d] (.t [.c (FS (if szE d = 0 then LW (-d) prG else [])), PE (szE d)]) := by
  by_cases h : szE d = 0
  · obtain ⟨hsn, hN1, hN2, hN3⟩ := szE_0 h
    exact c_Reduced d (by omega)
  · have h1 := c_ReducedE d hd h
    rw [if_neg h]; exact h1

theorem c_AllX (d : Int) (hd : L 30 d) : Call0 Tryz.prog 12 [I d] (.t [.c (FS (if szE d = 0 then LW (-d) (fun _ => true) else [])), PE (szE d)]) := by
  by_cases h : szE d = 0
  · obtain ⟨hsn, hN1, hN2, hN3⟩ := szE_0 h
    exact c_All d (by omega)
  · have h1 := c_AllE d hd h
    rw [if_neg h]; exact h1

theorem c_ClassX (d : Int) (hd : L 30 d) : Call0 Tryz.prog 14 [I d] (.t [PE (clE d), PE (szE d)]) := by
  by_cases h : szE d = 0
  · obtain ⟨hsn, hN1, hN2, hN3⟩ := szE_0 h
    exact c_Class d (by omega)
  · have h1 := c_ClassE d hd h
    unfold clE; rw [if_neg h]; exact h1

theorem c_ConductorX (d : Int) (hd : L 30 d) : Call0 Tryz.prog 19 [I d] (.t [PI (cdD d), PI (cdV d), PE (szE d)]) := by
  by_cases h : szE d = 0
  · obtain ⟨hsn, hN1, hN2, hN3⟩ := szE_0 h
    exact c_Conductor d (by omega)
  · have h1 := c_ConductorE d hd h
    unfold cdD cdV; rw [if_neg h, if_neg h]; exact h1

theorem c_HurwitzX (m : Int) : Call0 Tryz.prog 16 [I m] (.t [PI (hzV m), PE (hzE m)]) := by
  by_cases h : m < 0
  · have h1 := c_HurwitzN m h
    rw [hz_1 h] at h1
    exact h1
  · by_cases h2 : 4194304 < m
    · have h1 := c_HurwitzB m h2
      rw [hz_2 h h2] at h1
      exact h1
    · exact c_Hurwitz m (by omega)

/- algorist/algoristref11.All -/
set_option maxHeartbeats 1000000 in
set_option maxRecDepth 100000 in
theorem r11_All (d : Int) (hd : L 30 d) (hF : szE d = 0 → -d ≤ 5000) :
    Call0 Tryz.prog 13 [I d] (.t [.c (FS (if szE d = 0 then LW (-d) (fun _ => true) else [])), PE (szE d)]) := by
  have id0 : LB d 30 := ⟨hd⟩
  refine callM_of (np := 0) Tryz.func13 (by kernel_rfl) rfl rfl (Nat.le_of_ble_eq_true rfl) (fun m h => absurd rfl h) (fun m h => absurd rfl h) rfl ?_
  refine AWp_seq ?_
  refine AWp_region hP ?_
  refine RK.alc guard_none (op_box rfl rfl) ?_
  refine RK.val guard_none (op_assign (rfl : _ = AV.p (.c _))) ?_
  refine RK.val guard_none (op_assign (rfl : _ = AV.p (.c _))) ?_
  refine RK.done (by kernel_rfl) ?_
  refine AWp_seq ?_
  refine AWp_region hP ?_
  refine RK.val guard_none (op_load_agg hT rfl rfl rfl rfl (cs := [_, _]) rfl rfl) ?_
  refine RK.val guard_none (Eff.call0 (r11_size _ hd)) ?_
  refine RK.val guard_none (op_move (rfl : _ = AV.t _)) ?_
  refine RK.val guard_none (op_extract rfl (v := .c _) rfl) ?_
  refine RK.val guard_none (op_extract rfl (v := .c _) rfl) ?_
  refine RK.val guard_none (op_assign (rfl : _ = AV.p (.c _))) ?_
  refine RK.val guard_none (op_assign (rfl : _ = AV.p (.c _))) ?_
  refine RK.done (by kernel_rfl) ?_
  refine AWp_seq ?_
  refine AWp_seq ?_
  refine AWp_region hP ?_
  refine RK.val guard_none (op_move (rfl : _ = AV.p (.c _))) ?_
  refine RK.val guard_none (op_neq rfl rfl) ?_
  refine RK.done (by kernel_rfl) ?_
  refine AWp_cond rfl (fun hb1 => ?_) (fun hb1 => ?_)
  · have hb1_ := bneT hb1
    refine AWp_seq ?_
    refine AWp_region hP ?_
    refine RK.val guard_none (op_move (rfl : _ = AV.p (.c _))) ?_
    refine RK.val guard_none (op_assign (rfl : _ = AV.p (.c _))) ?_
    refine RK.val guard_none (op_assign (rfl : _ = AV.p (.c _))) ?_
    refine RK.done (by kernel_rfl) ?_
    refine AWp_ret ?_
    refine ends_two rfl (.inr rfl) (res_tmp rfl) (res_tmp rfl) ?_ O_ends
    rw [if_neg hb1_]; exact Sub.tup ⟨DSub.nil_sl, DSub.refl _, trivial⟩
  · have hb1_ := bneF hb1
    have h0 : szE d = 0 := hb1_
    obtain ⟨hsn, hN1, hN2, hN3⟩ := szE_0 h0
    have hF2 := hF h0
    refine AWp_skip ?_
    refine AWp_seq ?_
    refine AWp_region hP ?_
    refine RK.val guard_none (op_move (rfl : _ = AV.p (.c _))) ?_
    refine RK.val guard_none (Eff.call0 (r11_Forms _ (by omega) (by omega))) ?_
    refine RK.val guard_none (op_assign (rfl : _ = AV.p (.c _))) ?_
    refine RK.val guard_none (op_assign (rfl : _ = AV.p (.c _))) ?_
    refine RK.done (by kernel_rfl) ?_
    refine AWp_ret ?_
    refine ends_two rfl (.inr rfl) (res_tmp rfl) (res_tmp rfl) ?_ O_ends
    exact Sub.of_eq (by rw [if_pos h0, h0, LW_all, hsn]; rfl)

/- algorist/algoristref11.Reduced -/
set_option maxHeartbeats 1000000 in
set_option maxRecDepth 100000 in
theorem r11_Reduced (d : Int) (hd : L 30 d) (hF : szE d = 0 → -d ≤ 5000) :
    Call0 Tryz.prog 11 [I d] (.t [.c (FS (if szE d = 0 then LW (-d) prG else [])), PE (szE d)]) := by
  have id0 : LB d 30 := ⟨hd⟩
  have cP : Call0 Tryz.prog 25 [.p (.c (FS (if szE d = 0 then LW (-d) (fun _ => true) else [])))] (.p (.c (FS (if szE d = 0 then LW (-d) prG else [])))) := by
    by_cases h0 : szE d = 0
    · rw [if_pos h0, if_pos h0]
      have h := r11_Primitive (LW (-d) (fun _ => true)) (by have := LW_len (-d) (fun _ => true); omega) (fun f hf => LW_bound hf (by have := (szE_0 h0); omega))
      rw [LW_filter] at h
      exact h
    · rw [if_neg h0, if_neg h0]
      exact r11_Primitive [] (by decide) (fun f hf => by cases hf)
  refine callM_of (np := 0) Tryz.func11 (by kernel_rfl) rfl rfl (Nat.le_of_ble_eq_true rfl) (fun m h => absurd rfl h) (fun m h => absurd rfl h) rfl ?_
  refine AWp_seq ?_
  refine AWp_region hP ?_
  refine RK.alc guard_none (op_box rfl rfl) ?_
  refine RK.val guard_none (op_assign (rfl : _ = AV.p (.c _))) ?_
  refine RK.val guard_none (op_assign (rfl : _ = AV.p (.c _))) ?_
  refine RK.done (by kernel_rfl) ?_
  refine AWp_seq ?_
  refine AWp_region hP ?_
  refine RK.val guard_none (op_load_agg hT rfl rfl rfl rfl (cs := [_, _]) rfl rfl) ?_
  refine RK.val guard_none (Eff.call0 (r11_All _ hd hF)) ?_
  refine RK.val guard_none (op_move (rfl : _ = AV.t _)) ?_
  refine RK.val guard_none (op_extract rfl (v := .c _) rfl) ?_
  refine RK.val guard_none (op_extract rfl (v := .c _) rfl) ?_
  refine RK.val guard_none (op_assign (rfl : _ = AV.p (.c _))) ?_
  refine RK.val guard_none (op_assign (rfl : _ = AV.p (.c _))) ?_
  refine RK.done (by kernel_rfl) ?_
  refine AWp_seq ?_
  refine AWp_region hP ?_
  refine RK.val guard_none (op_move (rfl : _ = AV.p (.c _))) ?_
  refine RK.val guard_none (Eff.call0 cP) ?_
  refine RK.val guard_none (op_move (rfl : _ = AV.p (.c _))) ?_
  refine RK.val guard_none (op_assign (rfl : _ = AV.p (.c _))) ?_
  refine RK.val guard_none (op_assign (rfl : _ = AV.p (.c _))) ?_
  refine RK.done (by kernel_rfl) ?_
  refine AWp_ret ?_
  refine ends_two rfl (.inr rfl) (res_tmp rfl) (res_tmp rfl) ?_ O_ends
  exact .refl _

/- algorist/algoristref11.Hurwitz -/
set_option maxHeartbeats 1000000 in
set_option maxRecDepth 100000 in
theorem r11_Hurwitz (m : Int) (hm : L 30 m) (hF : 0 ≤ m → m ≤ 4194304 → m ≤ 5000) :
    Call0 Tryz.prog 18 [I m] (.t [PI (hzV m), PE (hzE m)]) := by
  have id0 : LB m 30 := ⟨hm⟩
  refine callM_of (np := 0) Tryz.func18 (by kernel_rfl) rfl rfl (Nat.le_of_ble_eq_true rfl) (fun m h => absurd rfl h) (fun m h => absurd rfl h) rfl ?_
  refine AWp_seq ?_
  refine AWp_region hP ?_
  refine RK.alc guard_none (op_box rfl rfl) ?_
  refine RK.alc guard_none (op_alloc hT rfl rfl) ?_
  refine RK.val guard_none (op_assign (rfl : _ = AV.p (.c _))) ?_
  refine RK.done (by kernel_rfl) ?_
  refine AWp_seq ?_
  refine AWp_region hP ?_
  refine RK.val guard_none (op_load_agg hT rfl rfl rfl rfl (cs := [_, _]) rfl rfl) ?_
  refine RK.val guard_none (Eff.call0 (r_Low _ lz)) ?_
  refine RK.val guard_none (op_move (rfl : _ = AV.t _)) ?_
  refine RK.val guard_none (op_extract rfl (v := .c _) rfl) ?_
  refine RK.val guard_none (op_extract rfl (v := .c _) rfl) ?_
  refine RK.val guard_none (op_assign (rfl : _ = AV.p (.c _))) ?_
  refine RK.val guard_none (op_assign (rfl : _ = AV.p (.c _))) ?_
  refine RK.done (by kernel_rfl) ?_
  refine AWp_seq ?_
  refine AWp_seq ?_
  refine AWp_region hP ?_
  refine RK.val guard_none (op_load_agg hT rfl rfl rfl rfl (cs := [_, _]) rfl rfl) ?_
  refine RK.val guard_none (Eff.call0 (r_Sign _)) ?_
  refine RK.val guard_none (op_lss rfl rfl) ?_
  refine RK.done (by kernel_rfl) ?_
  refine AWp_cond rfl (fun hb1 => ?_) (fun hb1 => ?_)
  · have hb1_ := of_decide_eq_true hb1
    refine AWp_seq ?_
    refine AWp_region hP ?_
    refine RK.val guard_none (op_build_st hT rfl rfl rfl (es := [_, _]) rfl) ?_
    refine RK.sto guard_none (op_store hT rfl rfl rfl rfl rfl rfl (cs := [_, _]) rfl) ?_
    refine RK.val guard_none (op_assign (rfl : _ = AV.p (.c _))) ?_
    refine RK.done (by kernel_rfl) ?_
    refine AWp_ret ?_
    refine ends_two rfl (.inr rfl) (res_cell_agg hT rfl rfl rfl rfl (cs := [_, _]) rfl rfl) (res_tmp rfl) ?_ O_ends
    exact Sub.of_eq (hz_1 (sgn_lt_iff.1 hb1_))
  · have hb1_ := of_decide_eq_false hb1
    have hm0 : ¬ m < 0 := fun h => hb1_ (sgn_lt_iff.2 h)
    refine AWp_skip ?_
    refine AWp_seq ?_
    refine AWp_seq ?_
    refine AWp_region hP ?_
    refine RK.val guard_none (op_move (rfl : _ = AV.p (.c _))) ?_
    refine RK.val guard_none (op_unot rfl) ?_
    refine RK.val guard_none (op_move (rfl : _ = AV.p (.c _))) ?_
    refine RK.split (t := 17) rfl (fun hg2 => ?_) (fun hg2 => ?_)
    · have hg2_ := (notT hg2)
      have hlo := lwO_f (notT hg2)
      refine RK.skip (guard_no rfl rfl hg2) ?_
      refine RK.skip (guard_no rfl rfl hg2) ?_
      refine RK.skip (guard_no rfl rfl hg2) ?_
      refine RK.val guard_none (op_pick_t rfl hg2 (rfl : _ = AV.p (.c _))) ?_
      refine RK.done (by kernel_rfl) ?_
      refine AWp_cond_true rfl rfl ?_
      refine AWp_seq ?_
      refine AWp_region hP ?_
      refine RK.val guard_none (op_build_st hT rfl rfl rfl (es := [_, _]) rfl) ?_
      refine RK.sto guard_none (op_store hT rfl rfl rfl rfl rfl rfl (cs := [_, _]) rfl) ?_
      refine RK.val guard_none (op_assign (rfl : _ = AV.p (.c _))) ?_
      refine RK.done (by kernel_rfl) ?_
      refine AWp_ret ?_
      refine ends_two rfl (.inr rfl) (res_cell_agg hT rfl rfl rfl rfl (cs := [_, _]) rfl rfl) (res_tmp rfl) ?_ O_ends
      exact Sub.of_eq (hz_2 hm0 (by omega))
    · have hg2_ := (notF hg2)
      have hly := lwO_yes (lwO_iff.1 (notF hg2))
      refine RK.val (guard_yes rfl rfl hg2) (op_move (rfl : _ = AV.p (.c _))) ?_
      refine RK.val (guard_yes rfl rfl hg2) (Eff.call0 r11_Edge) ?_
      refine RK.val (guard_yes rfl rfl hg2) (op_gtr rfl rfl) ?_
      refine RK.val guard_none (op_pick_f rfl hg2 (rfl : _ = AV.p (.c _))) ?_
      refine RK.done (by kernel_rfl) ?_
      refine AWp_cond rfl (fun hb3 => ?_) (fun hb3 => ?_)
      · have hb3_ := of_decide_eq_true hb3
        refine AWp_seq ?_
        refine AWp_region hP ?_
        refine RK.val guard_none (op_build_st hT rfl rfl rfl (es := [_, _]) rfl) ?_
        refine RK.sto guard_none (op_store hT rfl rfl rfl rfl rfl rfl (cs := [_, _]) rfl) ?_
        refine RK.val guard_none (op_assign (rfl : _ = AV.p (.c _))) ?_
        refine RK.done (by kernel_rfl) ?_
        refine AWp_ret ?_
        refine ends_two rfl (.inr rfl) (res_cell_agg hT rfl rfl rfl rfl (cs := [_, _]) rfl rfl) (res_tmp rfl) ?_ O_ends
        exact Sub.of_eq (hz_2 hm0 (by have := hly.2; omega))
      · have hb3_ := of_decide_eq_false hb3
        have hmL : ¬ m > 4194304 := by rw [hly.2] at hb3_; exact hb3_
        have hv5 : lwV m ≤ 5000 := by rw [hly.2]; exact hF (by omega) (by omega)
        have hv0 : 0 ≤ lwV m := by rw [hly.2]; omega
        have jz : InI64 (hzV (lwV m)) := by have := hzV_b (lwV m); unfold InI64; omega
        refine AWp_skip ?_
        refine AWp_seq ?_
        refine AWp_region hP ?_
        refine RK.val guard_none (op_move (rfl : _ = AV.p (.c _))) ?_
        refine RK.val guard_none (Eff.call0 (r11_Twelve _ hv0 hv5)) ?_
        refine RK.val guard_none (Eff.call0 (r_Of _ jz)) ?_
        refine RK.sto guard_none (op_store hT rfl rfl rfl rfl rfl rfl (cs := [_, _]) rfl) ?_
        refine RK.val guard_none (op_assign (rfl : _ = AV.p (.c _))) ?_
        refine RK.done (by kernel_rfl) ?_
        refine AWp_ret ?_
        refine ends_two rfl (.inr rfl) (res_cell_agg hT rfl rfl rfl rfl (cs := [_, _]) rfl rfl) (res_tmp rfl) ?_ O_ends
        exact Sub.of_eq (by rw [hly.2, hzE_0 hm0 hmL])

/- algorist/algoristref11.Conductor -/
set_option maxHeartbeats 1000000 in
set_option maxRecDepth 100000 in
theorem r11_Conductor (d : Int) (hd : L 30 d) (hF : szE d = 0 → -d ≤ 5000) :
    Call0 Tryz.prog 20 [I d] (.t [PI (cdD d), PI (cdV d), PE (szE d)]) := by
  have id0 : LB d 30 := ⟨hd⟩
  refine callM_of (np := 0) Tryz.func20 (by kernel_rfl) rfl rfl (Nat.le_of_ble_eq_true rfl) (fun m h => absurd rfl h) (fun m h => absurd rfl h) rfl ?_
  refine AWp_seq ?_
  refine AWp_region hP ?_
  refine RK.alc guard_none (op_box rfl rfl) ?_
  refine RK.alc guard_none (op_alloc hT rfl rfl) ?_
  refine RK.alc guard_none (op_alloc hT rfl rfl) ?_
  refine RK.val guard_none (op_assign (rfl : _ = AV.p (.c _))) ?_
  refine RK.done (by kernel_rfl) ?_
  refine AWp_seq ?_
  refine AWp_region hP ?_
  refine RK.val guard_none (op_load_agg hT rfl rfl rfl rfl (cs := [_, _]) rfl rfl) ?_
  refine RK.val guard_none (Eff.call0 (r11_size _ hd)) ?_
  refine RK.val guard_none (op_move (rfl : _ = AV.t _)) ?_
  refine RK.val guard_none (op_extract rfl (v := .c _) rfl) ?_
  refine RK.val guard_none (op_extract rfl (v := .c _) rfl) ?_
  refine RK.val guard_none (op_assign (rfl : _ = AV.p (.c _))) ?_
  refine RK.val guard_none (op_assign (rfl : _ = AV.p (.c _))) ?_
  refine RK.done (by kernel_rfl) ?_
  refine AWp_seq ?_
  refine AWp_seq ?_
  refine AWp_region hP ?_
  refine RK.val guard_none (op_move (rfl : _ = AV.p (.c _))) ?_
  refine RK.val guard_none (op_neq rfl rfl) ?_
  refine RK.done (by kernel_rfl) ?_
  refine AWp_cond rfl (fun hb1 => ?_) (fun hb1 => ?_)
  · have hb1_ := bneT hb1
    refine AWp_seq ?_
    refine AWp_region hP ?_
    refine RK.val guard_none (op_build_st hT rfl rfl rfl (es := [_, _]) rfl) ?_
    refine RK.val guard_none (op_build_st hT rfl rfl rfl (es := [_, _]) rfl) ?_
    refine RK.val guard_none (op_move (rfl : _ = AV.p (.c _))) ?_
    refine RK.sto guard_none (op_store hT rfl rfl rfl rfl rfl rfl (cs := [_, _]) rfl) ?_
    refine RK.sto guard_none (op_store hT rfl rfl rfl rfl rfl rfl (cs := [_, _]) rfl) ?_
    refine RK.val guard_none (op_assign (rfl : _ = AV.p (.c _))) ?_
    refine RK.done (by kernel_rfl) ?_
    refine AWp_ret ?_
    refine ends_three rfl (.inr rfl) (res_cell_agg hT rfl rfl rfl rfl (cs := [_, _]) rfl rfl) (res_cell_agg hT rfl rfl rfl rfl (cs := [_, _]) rfl rfl) (res_tmp rfl) ?_ O_ends
    exact Sub.of_eq (cd_err hb1_)
  · have hb1_ := bneF hb1
    have h0 : szE d = 0 := hb1_
    obtain ⟨hsn, hN1', hN2, hN3⟩ := szE_0 h0
    have hND : isD (szN d) = true := sz_isD h0
    have hNi := isD_iff.1 hND
    have hN1 : 1 ≤ szN d := by omega
    have hN5 : szN d ≤ 5000 := by rw [hsn]; exact hF h0
    obtain ⟨g1, q, e, hq⟩ := cdF_good hND
    have hs := sq_le_n g1 e hNi.1
    have qq := quo_b (n := szN d) (x := cdF (szN d) * cdF (szN d)) (by omega) (mm_pos g1)
    have hff : cdF (szN d) * 1 ≤ cdF (szN d) * cdF (szN d) := Int.mul_le_mul_of_nonneg_left g1 (by omega)
    have ja : InI64 (0 - szN d / (cdF (szN d) * cdF (szN d))) := by unfold InI64; omega
    have jb : InI64 (cdF (szN d)) := by unfold InI64; omega
    refine AWp_skip ?_
    refine AWp_seq ?_
    refine AWp_region hP ?_
    refine RK.val guard_none (op_move (rfl : _ = AV.p (.c _))) ?_
    refine RK.val guard_none (Eff.call0 (r11_Split _ hN1 hN5 hND)) ?_
    refine RK.val guard_none (op_move (rfl : _ = AV.t _)) ?_
    refine RK.val guard_none (op_extract rfl (v := .c _) rfl) ?_
    refine RK.val guard_none (op_extract rfl (v := .c _) rfl) ?_
    refine RK.val guard_none (op_assign (rfl : _ = AV.p (.c _))) ?_
    refine RK.val guard_none (op_assign (rfl : _ = AV.p (.c _))) ?_
    refine RK.done (by kernel_rfl) ?_
    refine AWp_seq ?_
    refine AWp_region hP ?_
    refine RK.val guard_none (op_move (rfl : _ = AV.p (.c _))) ?_
    refine RK.val guard_none (op_uneg rfl (by first | exact IntWalk.i64_in _ (by omega) | rfl)) ?_
    refine RK.val guard_none (Eff.call0 (r_Of _ ja)) ?_
    refine RK.val guard_none (op_move (rfl : _ = AV.p (.c _))) ?_
    refine RK.val guard_none (Eff.call0 (r_Of _ jb)) ?_
    refine RK.sto guard_none (op_store hT rfl rfl rfl rfl rfl rfl (cs := [_, _]) rfl) ?_
    refine RK.sto guard_none (op_store hT rfl rfl rfl rfl rfl rfl (cs := [_, _]) rfl) ?_
    refine RK.val guard_none (op_assign (rfl : _ = AV.p (.c _))) ?_
    refine RK.done (by kernel_rfl) ?_
    refine AWp_ret ?_
    refine ends_three rfl (.inr rfl) (res_cell_agg hT rfl rfl rfl rfl (cs := [_, _]) rfl rfl) (res_cell_agg hT rfl rfl rfl rfl (cs := [_, _]) rfl rfl) (res_tmp rfl) ?_ O_ends
    exact Sub.of_eq (by
      have h9 := cd_ok h0
      rw [← hsn] at h9
      rw [Int.zero_sub]; exact h9)

/- algorist/algoristlaw11.far -/
set_option maxHeartbeats 1000000 in
set_option maxRecDepth 100000 in
theorem l_far (d : Int) (hd : L 30 d) :
    Call0 Tryz.prog 9 [I d] (B (farB d)) := by
  have id0 : LB d 30 := ⟨hd⟩
  have ia : LB ((d.natAbs : Nat) : Int) 30 := ⟨L.of_le hd (by omega)⟩
  refine callM_of (np := 0) Tryz.func9 (by kernel_rfl) rfl rfl (Nat.le_of_ble_eq_true rfl) (fun m h => absurd rfl h) (fun m h => absurd rfl h) rfl ?_
  refine AWp_seq ?_
  refine AWp_region hP ?_
  refine RK.alc guard_none (op_box rfl rfl) ?_
  refine RK.val guard_none (op_assign (rfl : _ = AV.p (.c _))) ?_
  refine RK.done (by kernel_rfl) ?_
  refine AWp_seq ?_
  refine AWp_region hP ?_
  refine RK.val guard_none (op_load_agg hT rfl rfl rfl rfl (cs := [_, _]) rfl rfl) ?_
  refine RK.val guard_none (Eff.call0 (r_Abs _)) ?_
  refine RK.val guard_none (Eff.call0 (r_Low _ lz)) ?_
  refine RK.val guard_none (op_move (rfl : _ = AV.t _)) ?_
  refine RK.val guard_none (op_extract rfl (v := .c _) rfl) ?_
  refine RK.val guard_none (op_extract rfl (v := .c _) rfl) ?_
  refine RK.val guard_none (op_assign (rfl : _ = AV.p (.c _))) ?_
  refine RK.val guard_none (op_assign (rfl : _ = AV.p (.c _))) ?_
  refine RK.done (by kernel_rfl) ?_
  refine AWp_seq ?_
  refine AWp_region hP ?_
  refine RK.val guard_none (op_move (rfl : _ = AV.p (.c _))) ?_
  refine RK.val guard_none (op_move (rfl : _ = AV.p (.c _))) ?_
  refine RK.split (t := 12) rfl (fun hg1 => ?_) (fun hg1 => ?_)
  · refine RK.val (guard_yes rfl rfl hg1) (op_move (rfl : _ = AV.p (.c _))) ?_
    refine RK.val (guard_yes rfl rfl hg1) (op_gtr rfl rfl) ?_
    refine RK.val guard_none (op_pick_t rfl hg1 (rfl : _ = AV.p (.c _))) ?_
    refine RK.val guard_none (op_move (rfl : _ = AV.p (.c _))) ?_
    refine RK.split (t := 16) rfl (fun hg2 => ?_) (fun hg2 => ?_)
    · have hg2_ := of_decide_eq_true hg2
      refine RK.val (guard_yes rfl rfl hg2) (op_move (rfl : _ = AV.p (.c _))) ?_
      refine RK.val (guard_yes rfl rfl hg2) (Eff.call0 r11_Edge) ?_
      refine RK.val (guard_yes rfl rfl hg2) (op_leq rfl rfl) ?_
      refine RK.val guard_none (op_pick_t rfl hg2 (rfl : _ = AV.p (.c _))) ?_
      refine RK.val guard_none (op_assign (rfl : _ = AV.p (.c _))) ?_
      refine RK.done (by kernel_rfl) ?_
      refine AWp_ret ?_
      refine ends_one rfl (.inr rfl) (res_tmp rfl) ?_ O_ends
      exact Sub.bool (far_1 hg1 hg2)
    · have hg2_ := of_decide_eq_false hg2
      refine RK.skip (guard_no rfl rfl hg2) ?_
      refine RK.skip (guard_no rfl rfl hg2) ?_
      refine RK.skip (guard_no rfl rfl hg2) ?_
      refine RK.val guard_none (op_pick_f rfl hg2 (rfl : _ = AV.p (.c _))) ?_
      refine RK.val guard_none (op_assign (rfl : _ = AV.p (.c _))) ?_
      refine RK.done (by kernel_rfl) ?_
      refine AWp_ret ?_
      refine ends_one rfl (.inr rfl) (res_tmp rfl) ?_ O_ends
      exact Sub.bool (far_2 hg1 hg2)
  · refine RK.skip (guard_no rfl rfl hg1) ?_
    refine RK.skip (guard_no rfl rfl hg1) ?_
    refine RK.val guard_none (op_pick_f rfl hg1 (rfl : _ = AV.p (.c _))) ?_
    refine RK.val guard_none (op_move (rfl : _ = AV.p (.c _))) ?_
    refine RK.skip (guard_no rfl rfl rfl) ?_
    refine RK.skip (guard_no rfl rfl rfl) ?_
    refine RK.skip (guard_no rfl rfl rfl) ?_
    refine RK.val guard_none (op_pick_f rfl rfl (rfl : _ = AV.p (.c _))) ?_
    refine RK.val guard_none (op_assign (rfl : _ = AV.p (.c _))) ?_
    refine RK.done (by kernel_rfl) ?_
    refine AWp_ret ?_
    refine ends_one rfl (.inr rfl) (res_tmp rfl) ?_ O_ends
    exact Sub.bool (far_3 hg1)

/- algorist/algoristlaw11.CountMatchesReference -/
set_option maxHeartbeats 16000000 in
set_option maxRecDepth 100000 in
theorem l_CountMatchesReference (D : Nat) (s : Bool) (ws : List Nat) (hD : D < 65536) (hw : okW ws) :
    Call0 Tryz.prog 3 [.p (.c (.v (.int .u16 (D : Int)))), .p (.a [.v (.bool s), W ws])] (B true) := by
  obtain ⟨s1, s2, s3, s4, s5⟩ := szz_spec D
  have cD := r11_Disc D hD
  generalize szz D = N at cD s1 s2 s3 s4 s5
  have hL := md_L (n := s) hw
  have cM : Call0 Tryz.prog 8 [.p (.a [.v (.bool s), W ws]), Z 2] (I (md s ws)) := r_Made s ws 2 hw (by decide)
  generalize md s ws = e at cM hL
  have hN6 : L 6 (-N) := by unfold L; omega
  refine callM_of (np := 0) Tryz.func3 (by kernel_rfl) rfl rfl (Nat.le_of_ble_eq_true rfl) (fun m h => absurd rfl h) (fun m h => absurd rfl h) rfl ?_
  refine AWp_seq ?_
  refine AWp_region hP ?_
  refine RK.alc guard_none (op_box rfl rfl) ?_
  refine RK.val guard_none (op_assign (rfl : _ = AV.p (.c _))) ?_
  refine RK.done (by kernel_rfl) ?_
  refine AWp_seq ?_
  refine AWp_region hP ?_
  refine RK.val guard_none (Eff.call0 l_examples) ?_
  refine RK.val guard_none (op_assign (rfl : _ = AV.p (.c _))) ?_
  refine RK.done (by kernel_rfl) ?_
  refine AWp_seq ?_
  refine AWp_seq ?_
  refine AWp_region hP ?_
  refine RK.val guard_none (op_move (rfl : _ = AV.p (.c _))) ?_
  refine RK.val guard_none (op_unot rfl) ?_
  refine RK.done (by kernel_rfl) ?_
  refine AWp_cond_false rfl rfl ?_
  refine AWp_skip ?_
  refine AWp_seq ?_
  refine AWp_region hP ?_
  refine RK.val guard_none (op_move (rfl : _ = AV.p (.c _))) ?_
  refine RK.val guard_none (Eff.call0 cD) ?_
  refine RK.val guard_none (op_load_agg hT rfl rfl rfl rfl (cs := [_, _]) rfl rfl) ?_
  refine RK.val guard_none (Eff.call0 cM) ?_
  refine RK.val guard_none (op_bslice hT rfl rfl rfl (es := [_, _, _, _]) rfl rfl rfl) ?_
  refine RK.val guard_none (op_assign (rfl : _ = AV.p (.c _))) ?_
  refine RK.done (by kernel_rfl) ?_
  refine AWp_seq ?_
  refine AWp_seq ?_
  refine AWp_region hP ?_
  refine RK.val guard_none (op_assign (rfl : _ = AV.p (.c _))) ?_
  refine RK.done (by kernel_rfl) ?_
  refine AWp_block ?_
  refine AWp_loop (ι := Nat) (fun k => stL [(5, .p (.c (.v (.bool true)))), (6, .p (.c (.sl 2 [zn (-N), zm (-N), zn e, zm e]))), (7, Z (k : Int))] []) (fun k => k ≤ 2) (fun k => 2 - k) 0 (by decide) (le_stL ⟨.refl _, .refl _, .refl _, trivial⟩ trivial) ?_
  intro k hk
  refine AWp_seq ?_
  refine AWp_seq ?_
  refine AWp_region hP ?_
  refine RK.val guard_none (op_move (rfl : _ = AV.p (.c _))) ?_
  refine RK.val guard_none (op_lss rfl rfl) ?_
  refine RK.done (by kernel_rfl) ?_
  refine AWp_cond rfl (fun hb1 => ?_) (fun hb1 => ?_)
  · have hb1_ := of_decide_eq_true hb1
    have hdL : L 30 (d2 (-N) e k) := by unfold d2; split; exact hN6.mono (by omega); exact hL.mono (by omega)
    generalize hdk : d2 (-N) e k = d at hdL
    have id30 : LB d 30 := ⟨hdL⟩
    refine AWp_skip ?_
    refine AWp_seq ?_
    refine AWp_block ?_
    refine AWp_seq ?_
    refine AWp_region hP ?_
    refine RK.val guard_none (op_move (rfl : _ = AV.p (.c _))) ?_
    refine RK.val guard_none (op_move (rfl : _ = AV.p (.c _))) ?_
    refine RK.val guard_none (by first | exact op_index_WN hT rfl rfl rfl rfl rfl rfl (by omega) | exact op_index_sl hT rfl rfl rfl rfl rfl rfl (by omega) (by first | exact W_ne (by omega) | simp)) ?_
    refine RK.val guard_none (op_load_ip_agg hT rfl rfl rfl (cs := [zn d, zm d]) (d2_get hb1_ hdk) rfl) ?_
    refine RK.alc guard_none (op_alloc hT rfl rfl) ?_
    refine RK.sto guard_none (op_store hT rfl rfl rfl rfl rfl rfl (cs := [_, _]) rfl) ?_
    refine RK.done (by kernel_rfl) ?_
    refine AWp_seq ?_
    refine AWp_seq ?_
    refine AWp_region hP ?_
    refine RK.val guard_none (op_load_agg hT rfl rfl rfl rfl (cs := [_, _]) rfl rfl) ?_
    refine RK.val guard_none (Eff.call0 (l_far _ hdL)) ?_
    refine RK.done (by kernel_rfl) ?_
    refine AWp_cond rfl (fun hb2 => ?_) (fun hb2 => ?_)
    · refine AWp_seq ?_
      refine AWp_region hP ?_
      refine RK.val guard_none (op_move (rfl : _ = AV.p (.c _))) ?_
      refine RK.val guard_none (op_assign (rfl : _ = AV.p (.c _))) ?_
      refine RK.done (by kernel_rfl) ?_
      refine AWp_ret ?_
      refine ends_one rfl (.inr rfl) (res_tmp rfl) ?_ O_ends
      exact .refl _
    · have hfar := hb2
      have hF := fun h0 => far_small hfar h0
      have hm : L 30 (-d) := hdL.neg
      have c1 := c_ReducedX d hdL
      have c2 := r11_Reduced d hdL hF
      have c3 := c_AllX d hdL
      have c4 := r11_All d hdL hF
      have c5 := c_ClassX d hdL
      rw [cl_len d] at c5
      have c6 := c_HurwitzX (-d)
      have c7 := r11_Hurwitz (-d) hm (fun h1 h2 => far_hz hfar h1 h2)
      have c8 := c_ConductorX d hdL
      have c9 := r11_Conductor d hdL hF
      have hl1 : (((if szE d = 0 then LW (-d) prG else []).length : Nat) : Int) ≤ 8004000 := by
        split
        · have := LW_len (-d) prG; omega
        · simp
      have hl2 : (((if szE d = 0 then LW (-d) (fun _ => true) else []).length : Nat) : Int) ≤ 8004000 := by
        split
        · have := LW_len (-d) (fun _ => true); omega
        · simp
      have hz := hzV_b (-d)
      obtain ⟨q1, q2⟩ := cd_bb d
      generalize (if szE d = 0 then LW (-d) prG else []) = l1 at c1 c2 c5 hl1
      generalize (if szE d = 0 then LW (-d) (fun _ => true) else []) = l2 at c3 c4 hl2
      generalize hzV (-d) = z1 at c6 c7 hz
      generalize cdD d = z2 at c8 c9 q1
      generalize cdV d = z3 at c8 c9 q2
      have i1 : LB z1 6 := ⟨by unfold L; omega⟩
      have i2 : LB z2 6 := ⟨by unfold L; omega⟩
      have i3 : LB z3 6 := ⟨by unfold L; omega⟩
      have hcl : ((((l1.length : Nat) : Int)) != ((l1.length : Nat) : Int)) = false := bne_self_eq_false _
      refine AWp_skip ?_
      refine AWp_seq ?_
      refine AWp_region hP ?_
      refine RK.val guard_none (op_load_agg hT rfl rfl rfl rfl (cs := [_, _]) rfl rfl) ?_
      refine RK.val guard_none (Eff.call0 c1) ?_
      refine RK.val guard_none (op_move (rfl : _ = AV.t _)) ?_
      refine RK.val guard_none (op_extract rfl (v := .c _) rfl) ?_
      refine RK.val guard_none (op_extract rfl (v := .c _) rfl) ?_
      refine RK.val guard_none (op_assign (rfl : _ = AV.p (.c _))) ?_
      refine RK.val guard_none (op_assign (rfl : _ = AV.p (.c _))) ?_
      refine RK.done (by kernel_rfl) ?_
      refine AWp_seq ?_
      refine AWp_region hP ?_
      refine RK.val guard_none (op_load_agg hT rfl rfl rfl rfl (cs := [_, _]) rfl rfl) ?_
      refine RK.val guard_none (Eff.call0 c2) ?_
      refine RK.val guard_none (op_move (rfl : _ = AV.t _)) ?_
      refine RK.val guard_none (op_extract rfl (v := .c _) rfl) ?_
      refine RK.val guard_none (op_extract rfl (v := .c _) rfl) ?_
      refine RK.val guard_none (op_assign (rfl : _ = AV.p (.c _))) ?_
      refine RK.val guard_none (op_assign (rfl : _ = AV.p (.c _))) ?_
      refine RK.done (by kernel_rfl) ?_
      refine AWp_seq ?_
      refine AWp_region hP ?_
      refine RK.val guard_none (op_load_agg hT rfl rfl rfl rfl (cs := [_, _]) rfl rfl) ?_
      refine RK.val guard_none (Eff.call0 c3) ?_
      refine RK.val guard_none (op_move (rfl : _ = AV.t _)) ?_
      refine RK.val guard_none (op_extract rfl (v := .c _) rfl) ?_
      refine RK.val guard_none (op_extract rfl (v := .c _) rfl) ?_
      refine RK.val guard_none (op_assign (rfl : _ = AV.p (.c _))) ?_
      refine RK.val guard_none (op_assign (rfl : _ = AV.p (.c _))) ?_
      refine RK.done (by kernel_rfl) ?_
      refine AWp_seq ?_
      refine AWp_region hP ?_
      refine RK.val guard_none (op_load_agg hT rfl rfl rfl rfl (cs := [_, _]) rfl rfl) ?_
      refine RK.val guard_none (Eff.call0 c4) ?_
      refine RK.val guard_none (op_move (rfl : _ = AV.t _)) ?_
      refine RK.val guard_none (op_extract rfl (v := .c _) rfl) ?_
      refine RK.val guard_none (op_extract rfl (v := .c _) rfl) ?_
      refine RK.val guard_none (op_assign (rfl : _ = AV.p (.c _))) ?_
      refine RK.val guard_none (op_assign (rfl : _ = AV.p (.c _))) ?_
      refine RK.done (by kernel_rfl) ?_
      refine AWp_seq ?_
      refine AWp_region hP ?_
      refine RK.val guard_none (op_load_agg hT rfl rfl rfl rfl (cs := [_, _]) rfl rfl) ?_
      refine RK.val guard_none (Eff.call0 c5) ?_
      refine RK.val guard_none (op_move (rfl : _ = AV.t _)) ?_
      refine RK.val guard_none (op_extract rfl (v := .c _) rfl) ?_
      refine RK.val guard_none (op_extract rfl (v := .c _) rfl) ?_
      refine RK.val guard_none (op_assign (rfl : _ = AV.p (.c _))) ?_
      refine RK.val guard_none (op_assign (rfl : _ = AV.p (.c _))) ?_
      refine RK.done (by kernel_rfl) ?_
      refine AWp_seq ?_
      refine AWp_seq ?_
      refine AWp_region hP ?_
      refine RK.val guard_none (op_move (rfl : _ = AV.p (.c _))) ?_
      refine RK.val guard_none (op_move (rfl : _ = AV.p (.c _))) ?_
      refine RK.val guard_none (op_neq rfl rfl) ?_
      refine RK.val guard_none (op_move (rfl : _ = AV.p (.c _))) ?_
      refine RK.val (guard_yes rfl rfl (bne_self_eq_false _)) (op_move (rfl : _ = AV.p (.c _))) ?_
      refine RK.val (guard_yes rfl rfl (bne_self_eq_false _)) (op_move (rfl : _ = AV.p (.c _))) ?_
      refine RK.val (guard_yes rfl rfl (bne_self_eq_false _)) (op_neq rfl rfl) ?_
      refine RK.val guard_none (op_pick_f rfl (bne_self_eq_false _) (rfl : _ = AV.p (.c _))) ?_
      refine RK.val guard_none (op_move (rfl : _ = AV.p (.c _))) ?_
      refine RK.val (guard_yes rfl rfl (bne_self_eq_false _)) (op_move (rfl : _ = AV.p (.c _))) ?_
      refine RK.val (guard_yes rfl rfl (bne_self_eq_false _)) (op_move (rfl : _ = AV.p (.c _))) ?_
      refine RK.val (guard_yes rfl rfl (bne_self_eq_false _)) (op_neq rfl rfl) ?_
      refine RK.val guard_none (op_pick_f rfl (bne_self_eq_false _) (rfl : _ = AV.p (.c _))) ?_
      refine RK.val guard_none (op_move (rfl : _ = AV.p (.c _))) ?_
      refine RK.val (guard_yes rfl rfl (bne_self_eq_false _)) (op_move (rfl : _ = AV.p (.c _))) ?_
      refine RK.val (guard_yes rfl rfl (bne_self_eq_false _)) (op_move (rfl : _ = AV.p (.c _))) ?_
      refine RK.val (guard_yes rfl rfl (bne_self_eq_false _)) (op_len hT rfl rfl rfl (by rfl)) ?_
      refine RK.val (guard_yes rfl rfl (bne_self_eq_false _)) (op_neq rfl rfl) ?_
      refine RK.val guard_none (op_pick_f rfl (bne_self_eq_false _) (rfl : _ = AV.p (.c _))) ?_
      refine RK.val guard_none (op_move (rfl : _ = AV.p (.c _))) ?_
      refine RK.val (guard_yes rfl rfl hcl) (op_move (rfl : _ = AV.p (.c _))) ?_
      refine RK.val (guard_yes rfl rfl hcl) (op_move (rfl : _ = AV.p (.c _))) ?_
      refine RK.val (guard_yes rfl rfl hcl) (Eff.call0 (r11_Same _ _ (by omega))) ?_
      refine RK.val (guard_yes rfl rfl hcl) (op_unot rfl) ?_
      refine RK.val guard_none (op_pick_f rfl hcl (rfl : _ = AV.p (.c _))) ?_
      refine RK.val guard_none (op_move (rfl : _ = AV.p (.c _))) ?_
      refine RK.val (guard_yes rfl rfl (by simp)) (op_move (rfl : _ = AV.p (.c _))) ?_
      refine RK.val (guard_yes rfl rfl (by simp)) (op_move (rfl : _ = AV.p (.c _))) ?_
      refine RK.val (guard_yes rfl rfl (by simp)) (Eff.call0 (r11_Same _ _ (by omega))) ?_
      refine RK.val (guard_yes rfl rfl (by simp)) (op_unot rfl) ?_
      refine RK.val guard_none (op_pick_f rfl (by simp) (rfl : _ = AV.p (.c _))) ?_
      refine RK.done (by kernel_rfl) ?_
      refine AWp_cond_false rfl (by simp) ?_
      refine AWp_skip ?_
      refine AWp_le (t := stL [(5, .p (.c (.v (.bool true)))), (6, .p (.c (.sl 2 [zn (-N), zm (-N), zn e, zm e]))), (7, Z (k : Int)), (8, .loc 8 0)] [(8, ⟨false, 1, 28, [zn (d), zm (d)]⟩)]) (le_stL ⟨.refl _, .refl _, .refl _, .refl _, trivial⟩ ⟨rfl, trivial⟩) ?_
      refine AWp_seq ?_
      refine AWp_region hP ?_
      refine RK.val guard_none (op_load_agg hT rfl rfl rfl rfl (cs := [_, _]) rfl rfl) ?_
      refine RK.val guard_none (Eff.call0 (r_Neg _)) ?_
      refine RK.val guard_none (Eff.call0 c6) ?_
      refine RK.val guard_none (op_move (rfl : _ = AV.t _)) ?_
      refine RK.val guard_none (op_extract rfl (v := .a _) rfl) ?_
      refine RK.val guard_none (op_extract rfl (v := .c _) rfl) ?_
      refine RK.alc guard_none (op_alloc hT rfl rfl) ?_
      refine RK.sto guard_none (op_store hT rfl rfl rfl rfl rfl rfl (cs := [_, _]) rfl) ?_
      refine RK.val guard_none (op_assign (rfl : _ = AV.p (.c _))) ?_
      refine RK.done (by kernel_rfl) ?_
      refine AWp_seq ?_
      refine AWp_region hP ?_
      refine RK.val guard_none (op_load_agg hT rfl rfl rfl rfl (cs := [_, _]) rfl rfl) ?_
      refine RK.val guard_none (Eff.call0 (r_Neg _)) ?_
      refine RK.val guard_none (Eff.call0 c7) ?_
      refine RK.val guard_none (op_move (rfl : _ = AV.t _)) ?_
      refine RK.val guard_none (op_extract rfl (v := .a _) rfl) ?_
      refine RK.val guard_none (op_extract rfl (v := .c _) rfl) ?_
      refine RK.alc guard_none (op_alloc hT rfl rfl) ?_
      refine RK.sto guard_none (op_store hT rfl rfl rfl rfl rfl rfl (cs := [_, _]) rfl) ?_
      refine RK.val guard_none (op_assign (rfl : _ = AV.p (.c _))) ?_
      refine RK.done (by kernel_rfl) ?_
      refine AWp_le (t := stL [(5, .p (.c (.v (.bool true)))), (6, .p (.c (.sl 2 [zn (-N), zm (-N), zn e, zm e]))), (7, Z (k : Int)), (8, .loc 8 0), (19, .loc 19 0), (20, .p (PE (hzE (-d)))), (21, .loc 21 0), (22, .p (PE (hzE (-d))))] [(8, ⟨false, 1, 28, [zn (d), zm (d)]⟩), (19, ⟨false, 1, 28, [zn (z1), zm (z1)]⟩), (21, ⟨false, 1, 28, [zn (z1), zm (z1)]⟩)]) (le_stL ⟨.refl _, .refl _, .refl _, .refl _, .refl _, .refl _, .refl _, .refl _, trivial⟩ ⟨rfl, rfl, rfl, trivial⟩) ?_
      refine AWp_seq ?_
      refine AWp_region hP ?_
      refine RK.val guard_none (op_load_agg hT rfl rfl rfl rfl (cs := [_, _]) rfl rfl) ?_
      refine RK.val guard_none (Eff.call0 c8) ?_
      refine RK.val guard_none (op_move (rfl : _ = AV.t _)) ?_
      refine RK.val guard_none (op_extract rfl (v := .a _) rfl) ?_
      refine RK.val guard_none (op_extract rfl (v := .a _) rfl) ?_
      refine RK.val guard_none (op_extract rfl (v := .c _) rfl) ?_
      refine RK.alc guard_none (op_alloc hT rfl rfl) ?_
      refine RK.alc guard_none (op_alloc hT rfl rfl) ?_
      refine RK.sto guard_none (op_store hT rfl rfl rfl rfl rfl rfl (cs := [_, _]) rfl) ?_
      refine RK.sto guard_none (op_store hT rfl rfl rfl rfl rfl rfl (cs := [_, _]) rfl) ?_
      refine RK.val guard_none (op_assign (rfl : _ = AV.p (.c _))) ?_
      refine RK.done (by kernel_rfl) ?_
      refine AWp_seq ?_
      refine AWp_region hP ?_
      refine RK.val guard_none (op_load_agg hT rfl rfl rfl rfl (cs := [_, _]) rfl rfl) ?_
      refine RK.val guard_none (Eff.call0 c9) ?_
      refine RK.val guard_none (op_move (rfl : _ = AV.t _)) ?_
      refine RK.val guard_none (op_extract rfl (v := .a _) rfl) ?_
      refine RK.val guard_none (op_extract rfl (v := .a _) rfl) ?_
      refine RK.val guard_none (op_extract rfl (v := .c _) rfl) ?_
      refine RK.alc guard_none (op_alloc hT rfl rfl) ?_
      refine RK.alc guard_none (op_alloc hT rfl rfl) ?_
      refine RK.sto guard_none (op_store hT rfl rfl rfl rfl rfl rfl (cs := [_, _]) rfl) ?_
      refine RK.sto guard_none (op_store hT rfl rfl rfl rfl rfl rfl (cs := [_, _]) rfl) ?_
      refine RK.val guard_none (op_assign (rfl : _ = AV.p (.c _))) ?_
      refine RK.done (by kernel_rfl) ?_
      refine AWp_le (t := stL [(5, .p (.c (.v (.bool true)))), (6, .p (.c (.sl 2 [zn (-N), zm (-N), zn e, zm e]))), (7, Z (k : Int)), (8, .loc 8 0), (19, .loc 19 0), (20, .p (PE (hzE (-d)))), (21, .loc 21 0), (22, .p (PE (hzE (-d)))), (23, .loc 23 0), (24, .loc 24 0), (25, .p (PE (szE d))), (26, .loc 26 0), (27, .loc 27 0), (28, .p (PE (szE d)))] [(8, ⟨false, 1, 28, [zn (d), zm (d)]⟩), (19, ⟨false, 1, 28, [zn (z1), zm (z1)]⟩), (21, ⟨false, 1, 28, [zn (z1), zm (z1)]⟩), (23, ⟨false, 1, 28, [zn (z2), zm (z2)]⟩), (24, ⟨false, 1, 28, [zn (z3), zm (z3)]⟩), (26, ⟨false, 1, 28, [zn (z2), zm (z2)]⟩), (27, ⟨false, 1, 28, [zn (z3), zm (z3)]⟩)]) (le_stL ⟨.refl _, .refl _, .refl _, .refl _, .refl _, .refl _, .refl _, .refl _, .refl _, .refl _, .refl _, .refl _, .refl _, .refl _, trivial⟩ ⟨rfl, rfl, rfl, rfl, rfl, rfl, rfl, trivial⟩) ?_
      refine AWp_seq ?_
      refine AWp_region hP ?_
      refine RK.val guard_none (op_move (rfl : _ = AV.p (.c _))) ?_
      refine RK.val guard_none (op_move (rfl : _ = AV.p (.c _))) ?_
      refine RK.val guard_none (op_neq rfl rfl) ?_
      refine RK.val guard_none (op_move (rfl : _ = AV.p (.c _))) ?_
      refine RK.val (guard_yes rfl rfl (bne_self_eq_false _)) (op_move (rfl : _ = AV.p (.c _))) ?_
      refine RK.val (guard_yes rfl rfl (bne_self_eq_false _)) (op_move (rfl : _ = AV.p (.c _))) ?_
      refine RK.val (guard_yes rfl rfl (bne_self_eq_false _)) (op_neq rfl rfl) ?_
      refine RK.val guard_none (op_pick_f rfl (bne_self_eq_false _) (rfl : _ = AV.p (.c _))) ?_
      refine RK.val guard_none (op_move (rfl : _ = AV.p (.c _))) ?_
      refine RK.val (guard_yes rfl rfl (bne_self_eq_false _)) (op_load_agg hT rfl rfl rfl rfl (cs := [_, _]) rfl rfl) ?_
      refine RK.val (guard_yes rfl rfl (bne_self_eq_false _)) (op_load_agg hT rfl rfl rfl rfl (cs := [_, _]) rfl rfl) ?_
      refine RK.val (guard_yes rfl rfl (bne_self_eq_false _)) (Eff.call0 (r_Same _ _)) ?_
      refine RK.val (guard_yes rfl rfl (bne_self_eq_false _)) (op_unot rfl) ?_
      refine RK.val guard_none (op_pick_f rfl (bne_self_eq_false _) (rfl : _ = AV.p (.c _))) ?_
      refine RK.val guard_none (op_move (rfl : _ = AV.p (.c _))) ?_
      refine RK.val (guard_yes rfl rfl (by simp)) (op_load_agg hT rfl rfl rfl rfl (cs := [_, _]) rfl rfl) ?_
      refine RK.val (guard_yes rfl rfl (by simp)) (op_load_agg hT rfl rfl rfl rfl (cs := [_, _]) rfl rfl) ?_
      refine RK.val (guard_yes rfl rfl (by simp)) (Eff.call0 (r_Same _ _)) ?_
      refine RK.val (guard_yes rfl rfl (by simp)) (op_unot rfl) ?_
      refine RK.val guard_none (op_pick_f rfl (by simp) (rfl : _ = AV.p (.c _))) ?_
      refine RK.val guard_none (op_move (rfl : _ = AV.p (.c _))) ?_
      refine RK.val (guard_yes rfl rfl (by simp)) (op_load_agg hT rfl rfl rfl rfl (cs := [_, _]) rfl rfl) ?_
      refine RK.val (guard_yes rfl rfl (by simp)) (op_load_agg hT rfl rfl rfl rfl (cs := [_, _]) rfl rfl) ?_
      refine RK.val (guard_yes rfl rfl (by simp)) (Eff.call0 (r_Same _ _)) ?_
      refine RK.val (guard_yes rfl rfl (by simp)) (op_unot rfl) ?_
      refine RK.val guard_none (op_pick_f rfl (by simp) (rfl : _ = AV.p (.c _))) ?_
      refine RK.done (by kernel_rfl) ?_
      refine AWp_cond_false rfl (by simp) ?_
      refine AWp_skip ?_
      refine AWp_region hP ?_
      refine RK.val guard_none (op_move (rfl : _ = AV.p (.c _))) ?_
      refine RK.val guard_none (op_add rfl rfl (by first | exact IntWalk.i64_in _ (by omega) | rfl)) ?_
      refine RK.val guard_none (op_assign (rfl : _ = AV.p (.c _))) ?_
      refine RK.done (by kernel_rfl) ?_
      refine ⟨k + 1, by omega, by omega, le_stL ⟨.refl _, .refl _, Sub.int (by omega), trivial⟩ trivial⟩
  · have hb1_ := of_decide_eq_false hb1
    refine AWp_exit ?_
    refine AWp_seq ?_
    refine AWp_region hP ?_
    refine RK.val guard_none (op_move (rfl : _ = AV.p (.c _))) ?_
    refine RK.val guard_none (op_assign (rfl : _ = AV.p (.c _))) ?_
    refine RK.done (by kernel_rfl) ?_
    refine AWp_ret ?_
    refine ends_one rfl (.inr rfl) (res_tmp rfl) ?_ O_ends
    exact .refl _

end Go.Proofs.YtkdfinfdocdpoaaGreatDoor
end

section
/- The law 'CountMatchesReference': for every input the call returns true and its arguments read as they did. No condition. -/
namespace Go.Proofs.YtkdfinfdocdpoaaGreatDoor.countMatchesReference
open Go Go.AM Go.RowKit

theorem own : ownKnob Tryz.prog.godebug = none := by kernel_rfl
theorem lo : laidOutB Tryz.prog = true := by kernel_rfl
theorem o22 {H : Type} {enc : TypeId × Value → H} {W : World} : Opens enc Tryz.prog W 22 [.i .u16] :=
  opens_int Tryz.underlying22
theorem o4 {H : Type} {enc : TypeId × Value → H} {W : World} : Opens enc Tryz.prog W 4 [.b] :=
  opens_bool Tryz.underlying4
theorem o23 {H : Type} {enc : TypeId × Value → H} {W : World} : Opens enc Tryz.prog W 23 [.s] :=
  opens_words Tryz.underlying23 Tryz.underlying94 (by kernel_rfl) (by kernel_rfl)
theorem o25 {H : Type} {enc : TypeId × Value → H} {W : World} : Opens enc Tryz.prog W 25 [.b, .s] :=
  by
  refine opens_struct Tryz.underlying25 ?_ (by kernel_rfl)
  show OpensF _ _ _ 0 (_ :: _ :: []) ([.b] ++ ([.s] ++ []))
  exact opensF_cons rfl o4 (by kernel_rfl) (opensF_cons rfl o23 (by kernel_rfl) opensF_nil)
set_option maxRecDepth 100000 in
theorem opened {H : Type} {enc : TypeId × Value → H} {W : World} : ArgsData enc Tryz.prog W Tryz.f3 3 := by
  refine args2 (rfl : Tryz.f3.params = #[22, 25]) ?_
  intro v0 e0 p0 v1 e1 p1 base hv0 ht0 hw0 hv1 ht1 hw1
  obtain ⟨n0, w0, r0⟩ := arg_int Tryz.underlying22 hv0 ht0
  obtain ⟨d1, l1, r1⟩ := arg_agg (by rw [Tryz.underlying25]) o25 hv1 ht1 hw1
  obtain ⟨b1_0, s1_0, c1_0, rfl, w1_0, l1_0⟩ := l1.bs
  obtain rfl := l1_0.nil
  refine ⟨[_, _], ⟨r0, r1, trivial⟩, ?_⟩
  have h0 := Int.toNat_of_nonneg (bounds_u16 w0).1
  have g0 := (bounds_u16 w0).2
  rw [← h0]
  exact l_CountMatchesReference _ _ _ (by omega) w1_0

abbrev laidL : List (String × DataW Unit) := [("algorist/modular.signs", Rows.laid_algorist_modular_signs)]
set_option maxRecDepth 100000 in
theorem door_met (os : Os) (args : Array Value) : laidMetH Tryz.prog laidL ((World.doorLaid Tryz.prog 400 os).forCall (fun _ _ => 0) ⟨#[], args, []⟩).memory :=
  laidMetH_of_parts3 (fuel := 8) (laidMet_of_run' 8 (by kernel_rfl) (by kernel_rfl)) (by kernel_rfl) (by kernel_rfl)
theorem glob_ok (W : World) (h : laidMetH Tryz.prog laidL W) : GlOK (wh W) := by
  have hh := laid_ints (P := Tryz.prog) (W := W) (n := "algorist/modular.signs") (g := 0) (k := .i64) (xs := [0, 1, 0, -1, 0, -1, 0, 1]) (ty := 126) (e := 3) h (MakeChecks.laidMetH_plain _ _ _ (by kernel_rfl)) (by kernel_rfl) (by kernel_rfl) Tryz.underlying126 Tryz.underlying3 (by kernel_rfl)
  intro p hp
  simp only [glist, List.mem_cons, List.not_mem_nil, or_false] at hp
  subst hp
  exact hh

set_option maxRecDepth 100000 in
theorem lifted (os : Os) (started : os.Started) (H : Type) (enc : TypeId × Value → H) :
    ReturnsInHanded {} Tryz.checked os 3 .any (fun w args => (Rows.countMatchesReferenceSpec.pre enc Tryz.prog Tryz.f3 [] false w args ∧ laidMetH Tryz.prog laidL w) ∧ sizedMet enc Tryz.prog Tryz.f3 (OpenSpec.ofChange Rows.countMatchesReferenceSpec) false w args) (Rows.countMatchesReferenceSpec.post enc Tryz.prog Tryz.f3 false true false false) :=
  law_row_laid (C := Tryz.checked) own started (by kernel_rfl) Tryz.func3
    (ChangeSpec.witness_shaped (enc := enc) (C := Tryz.checked) (os := os) (X := fun w _ => laidMetH Tryz.prog laidL w) false (World.doorLaid Tryz.prog 400 os) #[.int .u16 0, .agg #[.bool false, .slice none 0 0]] 24 rfl (World.shaped_of_RefB (by kernel_rfl) (by kernel_rfl)) (by kernel_rfl) (by kernel_rfl) (by kernel_rfl) (door_met os _))
    lo (fun t ht => by
      have e : Tryz.f3.params.toList = [22, 25] := rfl
      rw [e] at ht
      simp only [List.mem_cons, List.not_mem_nil, or_false] at ht
      rcases ht with rfl | rfl <;> exact ⟨by kernel_rfl, Nat.le_of_ble_eq_true (by kernel_rfl)⟩)
    rfl (fun ds hd => by
      have e : ds.length = 2 := hd
      match ds, e with
      | [x0, x1], _ => exact ⟨rfl, rfl, rfl⟩)
    rfl Tryz.underlying4 (fun W => opened) glob_ok

theorem over : Rows.countMatchesReferenceRow.holds Tryz.pinned (OpenSpec.ofChange Rows.countMatchesReferenceSpec) :=
  OpenClaim.holds_of_wide 3 Tryz.f3 rfl rfl rfl rfl rfl rfl rfl ⟨rfl, rfl, rfl, rfl, rfl⟩ rfl rfl rfl rfl rfl (by kernel_rfl) Tryz.func3 (by kernel_rfl)
    (of_decide_eq_true (by kernel_rfl)) (by unfold Func.isWrapper; first | (rw [if_pos (by decide +kernel)]; kernel_rfl) | (rw [if_neg (by decide +kernel)]; exact ⟨rfl, rfl⟩))
    (fun os started H enc _ => lifted os started H enc)

theorem row_proved : Rows.CountMatchesReferenceSaid := over

theorem proved : Rows.CountMatchesReferenceCardSaid :=
  Claim7.holds_tied_plain_at .later [] [.data] true (true, "d8ecb22db7dfc2a6c84aa14d15ec24665d4ba60cccecd55bad68200551081d3a") false
    row_proved (fun _ h => by cases h) (by kernel_rfl) (fun _ h => by cases h) countMatchesReference_row_tie rfl ⟨rfl, rfl⟩ (by kernel_rfl) rfl
    (fun f fn hf hfn => by
      obtain rfl : f = 3 := Option.some.inj ((show Tryz.prog.funcNamed Rows.countMatchesReferenceRow.func = some 3 by kernel_rfl).symm.trans hf) |>.symm
      obtain rfl : fn = Tryz.f3 := (Option.some.inj (Tryz.func3.symm.trans hfn)).symm
      exact ⟨by kernel_rfl, fun j t ht => by
        have hm : t ∈ [22, 25] := by simpa using Array.mem_of_getElem? ht
        have hall : ([22, 25].all fun u => !Tryz.prog.wantsStandIn u) = true := by kernel_rfl
        exact (show Tryz.prog.wantsStandIn t = false by simpa using List.all_eq_true.1 hall t hm)⟩)
    (by kernel_rfl)
end Go.Proofs.YtkdfinfdocdpoaaGreatDoor.countMatchesReference
end
