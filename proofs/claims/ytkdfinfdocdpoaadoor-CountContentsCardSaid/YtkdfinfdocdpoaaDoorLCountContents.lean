/- Texts merged by program, in build order. -/
import Derived.Test.YtkdfinfdocdpoaaDoorMT
import Derived.Test.YtkdfinfdocdpoaaDoorMJ
import Derived.Test.YtkdfinfdocdpoaaDoorMC
import Derived.Test.YtkdfinfdocdpoaaDoorRows
import Derived.Test.YtkdfinfdocdpoaaDoorTie
import Derived.Test.YtkdfinfdocdpoaaDoorCards
section
/- chapter 11: CountContents -/
namespace Go.Proofs.YtkdfinfdocdpoaaDoor
open Go Go.AM

/- algorist/algoristlaw11.CountContents -/
set_option maxHeartbeats 8000000 in
set_option maxRecDepth 100000 in
theorem l_CountContents (D : Nat) (hD : D < 65536) :
    Call0 Tryd.prog 3 [.p (.c (.v (.int .u16 (D : Int))))] (B true) := by
  obtain ⟨s1, s2, s3, s4, s5⟩ := szz_spec D
  have cZ := (r8_Size D 0 0 0 0 0 0 0 0 hD (by decide) (by decide) (by decide) (by decide) (by decide) (by decide) (by decide) (by decide))
  generalize szz D = n at cZ s1 s2 s3 s4 s5
  have hD0 : isD n = true := by unfold isD; rw [decide_eq_true (by omega), Bool.true_and, Bool.or_eq_true, decide_eq_true_iff, decide_eq_true_iff]; exact s4
  have jn : InI64 (0 - n) := by unfold InI64; omega
  have cA : Call0 Tryd.prog 12 [I (0 - n)] (.t [.c (FS (LW n (fun _ => true))), PE 0]) := by
    have h := c_All (-n) (by omega)
    rw [szE_isD hD0 (by omega), if_pos rfl, Int.neg_neg, ← Int.zero_sub] at h
    exact h
  have hlA := LW_len n (fun _ => true)
  have hone := fun (m : Int) (hm : 1 ≤ m) (ha : asks n m = true) (p : Fm) (hp : p ∈ LW (n / (m * m)) prG) => tms_one (n := n) hm (by omega) (by omega) ha hp
  have hall := fun (m : Int) (hm : 1 ≤ m) (h : n < m * m) => contents_all (n := n) (by omega) (by omega) hm h
  generalize LW n (fun _ => true) = lA at cA hlA hone hall
  refine callM_of (np := 0) Tryd.func3 (by kernel_rfl) rfl rfl (Nat.le_of_ble_eq_true rfl) (fun m h => absurd rfl h) (fun m h => absurd rfl h) rfl ?_
  refine AWp_seq ?_
  refine AWp_region hP ?_
  refine RK.val guard_none (op_assign (rfl : _ = AV.p (.c _))) ?_
  refine RK.done (by kernel_rfl) ?_
  refine AWp_seq ?_
  refine AWp_region hP ?_
  refine RK.val guard_none (Eff.call0 l_examples) ?_
  refine RK.val guard_none (op_assign (rfl : _ = AV.p (.c _))) ?_
  refine RK.done (by kernel_rfl) ?_
  refine AWp_seq ?_
  refine AWp_seq ?_
  refine AWp_region hP ?_
  refine RK.val guard_none (op_move (rfl : _ = AV.p (.c _))) ?_
  refine RK.val guard_none (op_unot rfl) ?_
  refine RK.done (by kernel_rfl) ?_
  refine AWp_cond_false rfl rfl ?_
  refine AWp_skip ?_
  refine AWp_seq ?_
  refine AWp_region hP ?_
  refine RK.val guard_none (op_move (rfl : _ = AV.p (.c _))) ?_
  refine RK.val guard_none (op_build_st hT rfl rfl rfl (es := [_, _, _, _, _, _, _, _, _]) rfl) ?_
  refine RK.val guard_none (Eff.call0 cZ) ?_
  refine RK.val guard_none (op_assign (rfl : _ = AV.p (.c _))) ?_
  refine RK.done (by kernel_rfl) ?_
  refine AWp_seq ?_
  refine AWp_region hP ?_
  refine RK.val guard_none (op_move (rfl : _ = AV.p (.c _))) ?_
  refine RK.val guard_none (op_uneg rfl (by first | exact IntWalk.i64_in _ (by omega) | rfl)) ?_
  refine RK.val guard_none (Eff.call0 (r_Of _ jn)) ?_
  refine RK.val guard_none (Eff.call0 cA) ?_
  refine RK.val guard_none (op_move (rfl : _ = AV.t _)) ?_
  refine RK.val guard_none (op_extract rfl (v := .c _) rfl) ?_
  refine RK.val guard_none (op_extract rfl (v := .c _) rfl) ?_
  refine RK.val guard_none (op_assign (rfl : _ = AV.p (.c _))) ?_
  refine RK.val guard_none (op_assign (rfl : _ = AV.p (.c _))) ?_
  refine RK.done (by kernel_rfl) ?_
  refine AWp_seq ?_
  refine AWp_region hP ?_
  refine RK.val guard_none (op_assign (rfl : _ = AV.p (.c _))) ?_
  refine RK.done (by kernel_rfl) ?_
  refine AWp_seq ?_
  refine AWp_seq ?_
  refine AWp_region hP ?_
  refine RK.val guard_none (op_assign (rfl : _ = AV.p (.c _))) ?_
  refine RK.done (by kernel_rfl) ?_
  refine AWp_block ?_
  refine AWp_loop (ι := Int) (fun m => stL [(3, .p (.c (.v (.bool true)))), (4, Z n), (5, .p (.c (FS lA))), (6, .p (PE 0)), (7, Z (cS n m)), (8, Z m)] []) (fun m => 1 ≤ m ∧ m ≤ 46) (fun m => (46 - m).toNat) 1 (by omega) (le_stL ⟨.refl _, .refl _, .refl _, .refl _, Sub.int rfl, .refl _, trivial⟩ trivial) ?_
  rintro m ⟨hm1, hm2⟩
  have qm := sq_b (x := m) (m := 46) (by omega)
  have qp := mm_pos hm1
  have qS := cS_b (n := n) hm1
  refine AWp_seq ?_
  refine AWp_seq ?_
  refine AWp_region hP ?_
  refine RK.val guard_none (op_move (rfl : _ = AV.p (.c _))) ?_
  refine RK.val guard_none (op_move (rfl : _ = AV.p (.c _))) ?_
  refine RK.val guard_none (op_mul rfl rfl (by first | exact IntWalk.i64_in _ (by omega) | rfl)) ?_
  refine RK.val guard_none (op_move (rfl : _ = AV.p (.c _))) ?_
  refine RK.val guard_none (op_leq rfl rfl) ?_
  refine RK.done (by kernel_rfl) ?_
  refine AWp_cond rfl (fun hb1 => ?_) (fun hb1 => ?_)
  · have hb1_ := of_decide_eq_true hb1
    have hm44 := m_le44 hm1 hb1_ (by omega)
    have qq := quo_b (n := n) (x := m * m) (by omega) (by omega)
    have jm : InI64 m := by unfold InI64; omega
    have im : LB m 6 := ⟨by unfold L; omega⟩
    refine AWp_skip ?_
    refine AWp_seq ?_
    refine AWp_block ?_
    refine AWp_seq ?_
    refine AWp_seq ?_
    refine AWp_region hP ?_
    refine RK.val guard_none (op_move (rfl : _ = AV.p (.c _))) ?_
    refine RK.val guard_none (op_move (rfl : _ = AV.p (.c _))) ?_
    refine RK.val guard_none (op_move (rfl : _ = AV.p (.c _))) ?_
    refine RK.val guard_none (op_mul rfl rfl (by first | exact IntWalk.i64_in _ (by omega) | rfl)) ?_
    refine RK.val guard_none (op_rem rfl rfl (by omega) (c := n % (m * m)) (Int.tmod_eq_emod_of_nonneg (by omega))) ?_
    refine RK.val guard_none (op_neq rfl rfl) ?_
    refine RK.val guard_none (op_move (rfl : _ = AV.p (.c _))) ?_
    refine RK.split (t := 39) rfl (fun hg2 => ?_) (fun hg2 => ?_)
    · have hg2_ := bneT hg2
      refine RK.skip (guard_no rfl rfl hg2) ?_
      refine RK.skip (guard_no rfl rfl hg2) ?_
      refine RK.skip (guard_no rfl rfl hg2) ?_
      refine RK.skip (guard_no rfl rfl hg2) ?_
      refine RK.skip (guard_no rfl rfl hg2) ?_
      refine RK.skip (guard_no rfl rfl hg2) ?_
      refine RK.skip (guard_no rfl rfl hg2) ?_
      refine RK.val guard_none (op_pick_t rfl hg2 (rfl : _ = AV.p (.c _))) ?_
      refine RK.done (by kernel_rfl) ?_
      refine AWp_cond_true rfl rfl ?_
      refine AWp_exit ?_
      refine AWp_region hP ?_
      refine RK.val guard_none (op_move (rfl : _ = AV.p (.c _))) ?_
      refine RK.val guard_none (op_add rfl rfl (by first | exact IntWalk.i64_in _ (by omega) | rfl)) ?_
      refine RK.val guard_none (op_assign (rfl : _ = AV.p (.c _))) ?_
      refine RK.done (by kernel_rfl) ?_
      refine ⟨m + 1, ⟨by omega, by omega⟩, by omega, le_stL ⟨.refl _, .refl _, .refl _, .refl _, Sub.int (cS_no1 hm1 hg2_), Sub.int (by omega), trivial⟩ trivial⟩
    · have hg2_ := bneF hg2
      refine RK.val (guard_yes rfl rfl hg2) (op_move (rfl : _ = AV.p (.c _))) ?_
      refine RK.val (guard_yes rfl rfl hg2) (op_move (rfl : _ = AV.p (.c _))) ?_
      refine RK.val (guard_yes rfl rfl hg2) (op_move (rfl : _ = AV.p (.c _))) ?_
      refine RK.val (guard_yes rfl rfl hg2) (op_mul rfl rfl (by first | exact IntWalk.i64_in _ (by omega) | rfl)) ?_
      refine RK.val (guard_yes rfl rfl hg2) (op_quo rfl rfl (by omega) (c := (n / (m * m))) (by rw [Int.tdiv_eq_ediv_of_nonneg (by omega), IntWalk.i64_in _ (by omega)])) ?_
      refine RK.val (guard_yes rfl rfl hg2) (Eff.call0 (r11_Is _)) ?_
      refine RK.val (guard_yes rfl rfl hg2) (op_unot rfl) ?_
      refine RK.val guard_none (op_pick_f rfl hg2 (rfl : _ = AV.p (.c _))) ?_
      refine RK.done (by kernel_rfl) ?_
      refine AWp_cond rfl (fun hb3 => ?_) (fun hb3 => ?_)
      · have hb3_ := (notT hb3)
        refine AWp_exit ?_
        refine AWp_region hP ?_
        refine RK.val guard_none (op_move (rfl : _ = AV.p (.c _))) ?_
        refine RK.val guard_none (op_add rfl rfl (by first | exact IntWalk.i64_in _ (by omega) | rfl)) ?_
        refine RK.val guard_none (op_assign (rfl : _ = AV.p (.c _))) ?_
        refine RK.done (by kernel_rfl) ?_
        refine ⟨m + 1, ⟨by omega, by omega⟩, by omega, le_stL ⟨.refl _, .refl _, .refl _, .refl _, Sub.int (cS_no2 hm1 (notT hb3)), Sub.int (by omega), trivial⟩ trivial⟩
      · have hb3_ := (notF hb3)
        have jq : InI64 (-(n / (m * m))) := by unfold InI64; omega
        have hks := asks_mk hg2_ (notF hb3)
        have cR : Call0 Tryd.prog 15 [I (-(n / (m * m)))] (.t [.c (FS (LW (n / (m * m)) prG)), PE 0]) := by
          have h := c_Reduced (-(n / (m * m))) (by omega)
          rw [szE_isD (notF hb3) (by omega), if_pos rfl, Int.neg_neg] at h
          exact h
        have hlR := LW_len (n / (m * m)) prG
        have hcs := cS_w hm1 hks
        have hbd := fun (p : Fm) (hp : p ∈ LW (n / (m * m)) prG) => LW_bound hp (show n / (m * m) ≤ 4194304 by omega)
        have hon := hone m hm1 hks
        generalize LW (n / (m * m)) prG = l at cR hlR hcs hbd hon
        refine AWp_skip ?_
        refine AWp_seq ?_
        refine AWp_region hP ?_
        refine RK.val guard_none (op_move (rfl : _ = AV.p (.c _))) ?_
        refine RK.val guard_none (op_uneg rfl (by first | exact IntWalk.i64_in _ (by omega) | rfl)) ?_
        refine RK.val guard_none (op_move (rfl : _ = AV.p (.c _))) ?_
        refine RK.val guard_none (op_move (rfl : _ = AV.p (.c _))) ?_
        refine RK.val guard_none (op_mul rfl rfl (by first | exact IntWalk.i64_in _ (by omega) | rfl)) ?_
        refine RK.val guard_none (op_quo rfl rfl (by omega) (c := -(n / (m * m))) (by rw [Int.zero_sub, neg_quo (by omega), IntWalk.i64_in _ (by omega)])) ?_
        refine RK.val guard_none (Eff.call0 (r_Of _ jq)) ?_
        refine RK.val guard_none (Eff.call0 cR) ?_
        refine RK.val guard_none (op_move (rfl : _ = AV.t _)) ?_
        refine RK.val guard_none (op_extract rfl (v := .c _) rfl) ?_
        refine RK.val guard_none (op_extract rfl (v := .c _) rfl) ?_
        refine RK.val guard_none (op_assign (rfl : _ = AV.p (.c _))) ?_
        refine RK.val guard_none (op_assign (rfl : _ = AV.p (.c _))) ?_
        refine RK.done (by kernel_rfl) ?_
        refine AWp_seq ?_
        refine AWp_seq ?_
        refine AWp_region hP ?_
        refine RK.val guard_none (op_move (rfl : _ = AV.p (.c _))) ?_
        refine RK.val guard_none (op_neq rfl rfl) ?_
        refine RK.done (by kernel_rfl) ?_
        refine AWp_cond_false rfl rfl ?_
        refine AWp_skip ?_
        refine AWp_seq ?_
        refine AWp_seq ?_
        refine AWp_region hP ?_
        refine RK.val guard_none (op_assign (rfl : _ = AV.p (.c _))) ?_
        refine RK.done (by kernel_rfl) ?_
        refine AWp_block ?_
        refine AWp_loop (ι := Nat) (fun k => stL [(3, .p (.c (.v (.bool true)))), (4, Z n), (5, .p (.c (FS lA))), (6, .p (PE 0)), (7, Z (cS n m)), (8, Z m), (9, .p (.c (FS l))), (11, Z (k : Int))] []) (fun k => k ≤ l.length) (fun k => l.length - k) 0 (Nat.zero_le _) (le_stL ⟨.refl _, .refl _, .refl _, .refl _, .refl _, .refl _, .refl _, .refl _, trivial⟩ trivial) ?_
        intro k hk
        refine AWp_seq ?_
        refine AWp_seq ?_
        refine AWp_region hP ?_
        refine RK.val guard_none (op_move (rfl : _ = AV.p (.c _))) ?_
        refine RK.val guard_none (op_move (rfl : _ = AV.p (.c _))) ?_
        refine RK.val guard_none (op_len hT rfl rfl rfl (by rfl)) ?_
        refine RK.val guard_none (op_lss rfl rfl) ?_
        refine RK.done (by kernel_rfl) ?_
        refine AWp_cond rfl (fun hb4 => ?_) (fun hb4 => ?_)
        · have hb4_ := of_decide_eq_true hb4
          have hmem := getD_mem (l := l) (k := k) (by omega)
          obtain ⟨⟨b1, b2⟩, ⟨b3, b4⟩, b5, b6⟩ := hbd _ hmem
          have ht1 := hon _ hmem
          have ia : LB (l.getD k ⟨0, 0, 0⟩).a 6 := ⟨by unfold L; omega⟩
          have ib : LB (l.getD k ⟨0, 0, 0⟩).b 6 := ⟨by unfold L; omega⟩
          have ic : LB (l.getD k ⟨0, 0, 0⟩).c 6 := ⟨by unfold L; omega⟩
          refine AWp_skip ?_
          refine AWp_seq ?_
          refine AWp_block ?_
          refine AWp_seq ?_
          refine AWp_region hP ?_
          refine RK.val guard_none (op_move (rfl : _ = AV.p (.c _))) ?_
          refine RK.val guard_none (Eff.call0 (r_Of _ jm)) ?_
          refine RK.alc guard_none (op_alloc hT rfl rfl) ?_
          refine RK.sto guard_none (op_store hT rfl rfl rfl rfl rfl rfl (cs := [_, _]) rfl) ?_
          refine RK.done (by kernel_rfl) ?_
          refine AWp_seq ?_
          refine AWp_region hP ?_
          refine RK.val guard_none (op_move (rfl : _ = AV.p (.c _))) ?_
          refine RK.val guard_none (op_load_agg hT rfl rfl rfl rfl (cs := [_, _]) rfl rfl) ?_
          refine RK.val guard_none (op_move (rfl : _ = AV.p (.c _))) ?_
          refine RK.val guard_none (op_move (rfl : _ = AV.p (.c _))) ?_
          refine RK.val guard_none (op_indexF hT rfl rfl rfl rfl rfl rfl (by omega)) ?_
          refine RK.val guard_none (op_field_ip hT rfl rfl rfl rfl rfl rfl) ?_
          refine RK.val guard_none (op_load_ip_agg hT rfl rfl rfl (cs := [zn (l.getD k ⟨0, 0, 0⟩).a, zm (l.getD k ⟨0, 0, 0⟩).a]) rfl rfl) ?_
          refine RK.val guard_none (Eff.call0 (r_Mul _ _ lz lz)) ?_
          refine RK.val guard_none (op_load_agg hT rfl rfl rfl rfl (cs := [_, _]) rfl rfl) ?_
          refine RK.val guard_none (op_move (rfl : _ = AV.p (.c _))) ?_
          refine RK.val guard_none (op_move (rfl : _ = AV.p (.c _))) ?_
          refine RK.val guard_none (op_indexF hT rfl rfl rfl rfl rfl rfl (by omega)) ?_
          refine RK.val guard_none (op_field_ip hT rfl rfl rfl rfl rfl rfl) ?_
          refine RK.val guard_none (op_load_ip_agg hT rfl rfl rfl (cs := [zn (l.getD k ⟨0, 0, 0⟩).b, zm (l.getD k ⟨0, 0, 0⟩).b]) rfl rfl) ?_
          refine RK.val guard_none (Eff.call0 (r_Mul _ _ lz lz)) ?_
          refine RK.val guard_none (op_load_agg hT rfl rfl rfl rfl (cs := [_, _]) rfl rfl) ?_
          refine RK.val guard_none (op_move (rfl : _ = AV.p (.c _))) ?_
          refine RK.val guard_none (op_move (rfl : _ = AV.p (.c _))) ?_
          refine RK.val guard_none (op_indexF hT rfl rfl rfl rfl rfl rfl (by omega)) ?_
          refine RK.val guard_none (op_field_ip hT rfl rfl rfl rfl rfl rfl) ?_
          refine RK.val guard_none (op_load_ip_agg hT rfl rfl rfl (cs := [zn (l.getD k ⟨0, 0, 0⟩).c, zm (l.getD k ⟨0, 0, 0⟩).c]) rfl rfl) ?_
          refine RK.val guard_none (Eff.call0 (r_Mul _ _ lz lz)) ?_
          refine RK.val guard_none (op_build_st hT rfl rfl rfl (es := [_, _, _, _, _, _]) rfl) ?_
          refine RK.val guard_none (Eff.call0 (l_times _ _ _ _ (by omega))) ?_
          refine RK.val guard_none (op_neq rfl rfl) ?_
          refine RK.done (by kernel_rfl) ?_
          refine AWp_cond_false rfl (by rw [ht1]; rfl) ?_
          refine AWp_skip ?_
          refine AWp_region hP ?_
          refine RK.val guard_none (op_move (rfl : _ = AV.p (.c _))) ?_
          refine RK.val guard_none (op_add rfl rfl (by first | exact IntWalk.i64_in _ (by omega) | rfl)) ?_
          refine RK.val guard_none (op_assign (rfl : _ = AV.p (.c _))) ?_
          refine RK.done (by kernel_rfl) ?_
          refine ⟨k + 1, by omega, by omega, le_stL ⟨.refl _, .refl _, .refl _, .refl _, .refl _, .refl _, .refl _, Sub.int (by omega), trivial⟩ trivial⟩
        · have hb4_ := of_decide_eq_false hb4
          refine AWp_exit ?_
          refine AWp_region hP ?_
          refine RK.val guard_none (op_move (rfl : _ = AV.p (.c _))) ?_
          refine RK.val guard_none (op_move (rfl : _ = AV.p (.c _))) ?_
          refine RK.val guard_none (op_len hT rfl rfl rfl (by rfl)) ?_
          refine RK.val guard_none (op_add rfl rfl (by first | exact IntWalk.i64_in _ (by omega) | rfl)) ?_
          refine RK.val guard_none (op_assign (rfl : _ = AV.p (.c _))) ?_
          refine RK.done (by kernel_rfl) ?_
          refine AWp_region hP ?_
          refine RK.val guard_none (op_move (rfl : _ = AV.p (.c _))) ?_
          refine RK.val guard_none (op_add rfl rfl (by first | exact IntWalk.i64_in _ (by omega) | rfl)) ?_
          refine RK.val guard_none (op_assign (rfl : _ = AV.p (.c _))) ?_
          refine RK.done (by kernel_rfl) ?_
          refine ⟨m + 1, ⟨by omega, by omega⟩, by omega, le_stL ⟨.refl _, .refl _, .refl _, .refl _, Sub.int (hcs), Sub.int (by omega), trivial⟩ trivial⟩
  · have hb1_ := of_decide_eq_false hb1
    have hfin : (cS n m == (lA.length : Nat)) = true := by rw [hall m hm1 (by omega)]; exact beq_self_eq_true _
    refine AWp_exit ?_
    refine AWp_seq ?_
    refine AWp_region hP ?_
    refine RK.val guard_none (op_move (rfl : _ = AV.p (.c _))) ?_
    refine RK.val guard_none (op_eql rfl rfl) ?_
    refine RK.val guard_none (op_move (rfl : _ = AV.p (.c _))) ?_
    refine RK.val (guard_yes rfl rfl rfl) (op_move (rfl : _ = AV.p (.c _))) ?_
    refine RK.val (guard_yes rfl rfl rfl) (op_move (rfl : _ = AV.p (.c _))) ?_
    refine RK.val (guard_yes rfl rfl rfl) (op_len hT rfl rfl rfl (by rfl)) ?_
    refine RK.val (guard_yes rfl rfl rfl) (op_eql rfl rfl) ?_
    refine RK.val guard_none (op_pick_t rfl rfl (rfl : _ = AV.p (.c _))) ?_
    refine RK.val guard_none (op_move (rfl : _ = AV.p (.c _))) ?_
    refine RK.val (guard_yes rfl rfl hfin) (op_move (rfl : _ = AV.p (.c _))) ?_
    refine RK.val guard_none (op_pick_t rfl hfin (rfl : _ = AV.p (.c _))) ?_
    refine RK.val guard_none (op_assign (rfl : _ = AV.p (.c _))) ?_
    refine RK.done (by kernel_rfl) ?_
    refine AWp_ret ?_
    refine ends_one rfl (.inr rfl) (res_tmp rfl) ?_ O_ends
    exact .refl _

end Go.Proofs.YtkdfinfdocdpoaaDoor
end

section
/- The law 'CountContents': for every input the call returns true and its arguments read as they did. No condition. -/
namespace Go.Proofs.YtkdfinfdocdpoaaDoor.countContents
open Go Go.AM Go.RowKit

theorem own : ownKnob Tryd.prog.godebug = none := by kernel_rfl
theorem lo : laidOutB Tryd.prog = true := by kernel_rfl
theorem o22 {H : Type} {enc : TypeId × Value → H} {W : World} : Opens enc Tryd.prog W 22 [.i .u16] :=
  opens_int Tryd.underlying22
set_option maxRecDepth 100000 in
theorem opened {H : Type} {enc : TypeId × Value → H} {W : World} : ArgsData enc Tryd.prog W Tryd.f3 3 := by
  refine args1 (rfl : Tryd.f3.params = #[22]) ?_
  intro v0 e0 p0 base hv0 ht0 hw0
  obtain ⟨n0, w0, r0⟩ := arg_int Tryd.underlying22 hv0 ht0
  refine ⟨[_], ⟨r0, trivial⟩, ?_⟩
  have h0 := Int.toNat_of_nonneg (bounds_u16 w0).1
  have g0 := (bounds_u16 w0).2
  rw [← h0]
  exact l_CountContents _ (by omega)

abbrev laidL : List (String × DataW Unit) := [("algorist/modular.signs", Rows.laid_algorist_modular_signs)]
set_option maxRecDepth 100000 in
theorem door_met (os : Os) (args : Array Value) : laidMetH Tryd.prog laidL ((World.doorLaid Tryd.prog 400 os).forCall (fun _ _ => 0) ⟨#[], args, []⟩).memory :=
  laidMetH_of_parts3 (fuel := 8) (laidMet_of_run' 8 (by kernel_rfl) (by kernel_rfl)) (by kernel_rfl) (by kernel_rfl)
theorem glob_ok (W : World) (h : laidMetH Tryd.prog laidL W) : GlOK (wh W) := by
  have hh := laid_ints (P := Tryd.prog) (W := W) (n := "algorist/modular.signs") (g := 0) (k := .i64) (xs := [0, 1, 0, -1, 0, -1, 0, 1]) (ty := 88) (e := 3) h (MakeChecks.laidMetH_plain _ _ _ (by kernel_rfl)) (by kernel_rfl) (by kernel_rfl) Tryd.underlying88 Tryd.underlying3 (by kernel_rfl)
  intro p hp
  simp only [glist, List.mem_cons, List.not_mem_nil, or_false] at hp
  subst hp
  exact hh

set_option maxRecDepth 100000 in
theorem lifted (os : Os) (started : os.Started) (H : Type) (enc : TypeId × Value → H) :
    ReturnsInHanded {} Tryd.checked os 3 .any (fun w args => (Rows.countContentsSpec.pre enc Tryd.prog Tryd.f3 [] false w args ∧ laidMetH Tryd.prog laidL w) ∧ sizedMet enc Tryd.prog Tryd.f3 (OpenSpec.ofChange Rows.countContentsSpec) false w args) (Rows.countContentsSpec.post enc Tryd.prog Tryd.f3 false true false false) :=
  law_row_laid (C := Tryd.checked) own started (by kernel_rfl) Tryd.func3
    (ChangeSpec.witness_shaped (enc := enc) (C := Tryd.checked) (os := os) (X := fun w _ => laidMetH Tryd.prog laidL w) false (World.doorLaid Tryd.prog 400 os) #[.int .u16 0] 24 rfl (World.shaped_of_RefB (by kernel_rfl) (by kernel_rfl)) (by kernel_rfl) (by kernel_rfl) (by kernel_rfl) (door_met os _))
    lo (fun t ht => by
      have e : Tryd.f3.params.toList = [22] := rfl
      rw [e] at ht
      simp only [List.mem_cons, List.not_mem_nil, or_false] at ht
      subst ht 
      exact ⟨by kernel_rfl, Nat.le_of_ble_eq_true (by kernel_rfl)⟩)
    rfl (fun ds hd => by
      have e : ds.length = 1 := hd
      match ds, e with
      | [x0], _ => exact ⟨rfl, rfl, rfl⟩)
    rfl Tryd.underlying4 (fun W => opened) glob_ok

theorem over : Rows.countContentsRow.holds Tryd.pinned (OpenSpec.ofChange Rows.countContentsSpec) :=
  OpenClaim.holds_of_wide 3 Tryd.f3 rfl rfl rfl rfl rfl rfl rfl ⟨rfl, rfl, rfl, rfl, rfl⟩ rfl rfl rfl rfl rfl (by kernel_rfl) Tryd.func3 (by kernel_rfl)
    (of_decide_eq_true (by kernel_rfl)) (by unfold Func.isWrapper; first | (rw [if_pos (by decide +kernel)]; kernel_rfl) | (rw [if_neg (by decide +kernel)]; exact ⟨rfl, rfl⟩))
    (fun os started H enc _ => lifted os started H enc)

theorem row_proved : Rows.CountContentsSaid := over

theorem proved : Rows.CountContentsCardSaid :=
  Claim7.holds_tied_plain_at .later [] [.data] true (true, "4b7c0a518a4d789cebb104cf870566f82ccc4300e3a3677923114b2bb8c739b5") false
    row_proved (fun _ h => by cases h) (by kernel_rfl) (fun _ h => by cases h) countContents_row_tie rfl ⟨rfl, rfl⟩ (by kernel_rfl) rfl
    (fun f fn hf hfn => by
      obtain rfl : f = 3 := Option.some.inj ((show Tryd.prog.funcNamed Rows.countContentsRow.func = some 3 by kernel_rfl).symm.trans hf) |>.symm
      obtain rfl : fn = Tryd.f3 := (Option.some.inj (Tryd.func3.symm.trans hfn)).symm
      exact ⟨by kernel_rfl, fun j t ht => by
        have hm : t ∈ [22] := by simpa using Array.mem_of_getElem? ht
        have hall : ([22].all fun u => !Tryd.prog.wantsStandIn u) = true := by kernel_rfl
        exact (show Tryd.prog.wantsStandIn t = false by simpa using List.all_eq_true.1 hall t hm)⟩)
    (by kernel_rfl)
end Go.Proofs.YtkdfinfdocdpoaaDoor.countContents
end
