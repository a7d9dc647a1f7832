import Derived.Test.YtpaifigafaijpaaGreatDoorWE
import Derived.Test.YtpaifigafaijpaaGreatDoorWC
import Derived.Test.YtpaifigafaijpaaGreatDoorWF
import Derived.Test.YtpaifigafaijpaaGreatDoorWD
import Derived.Shelf.SlLaysF0
set_option maxRecDepth 100000
set_option maxHeartbeats 16000000
section
namespace Go.Proofs.YtpaifigafaijpaaGreatDoor
open Go Go.AM
theorem g_sign (b : Bool) :
  Call0 Tryz.prog 194 [.p (.c (.v (.bool b)))] (Z (sgB b)) := by
 refine callM_of (np := 0) Tryz.func194 (by kernel_rfl) rfl rfl (Nat.le_of_ble_eq_true rfl) (fun m h => absurd rfl h) (fun m h => absurd rfl h) rfl ?_
 refine AWp_sr hP<|RK.As rfl<|RK.D<|AWp_seq<|AWp_sr hP<|RK.M rfl<|RK.D ?_
 refine AWp_cond rfl (fun hb1 => ?_) (fun hb1 => ?_)
 ·refine AWp_sr hP<|RK.As rfl<|RK.D<|AWp_ret ?_
  refine ends_one rfl (.inr rfl) (res_tmp rfl) ?_ O_ends
  exact Sub.int (sgB_t hb1)
 ·refine AWp_skip<|AWp_sr hP<|RK.As rfl<|RK.D<|AWp_ret ?_
  refine ends_one rfl (.inr rfl) (res_tmp rfl) ?_ O_ends
  exact Sub.int (sgB_f hb1)
theorem sl_Index64 (l : List Int) (x : Int) (hl : (l.length : Int) ≤ 1000000) :
  Call0 Tryz.prog 230 [.p (.c (IS l)), Z x] (Z (ixV l x)) := by
 refine callM_of (np := 0) Tryz.func230 (by kernel_rfl) rfl rfl (Nat.le_of_ble_eq_true rfl) (fun m h => absurd rfl h) (fun m h => absurd rfl h) rfl ?_
 refine AWp_sr hP<|RK.As rfl<|RK.D<|AWp_seq<|AWp_sr hP<|RK.M rfl<|RK.V (op_len hT rfl rfl rfl (by rfl)) ?_
 refine RK.M rfl<|RK.D<|AWp_block<|AWp_loop (ι := Nat) (fun k => stL [(0, .p (.c (IS l))), (1, Z x), (7, Z (l.length : Int)), (8, Z (k : Int))] []) (fun k => k ≤ l.length ∧ k ≤ l.findIdx (· == x)) (fun k => l.length - k) 0 ⟨Nat.zero_le _, Nat.zero_le _⟩ (le_stL ⟨.refl _, .refl _, .refl _, .refl _, trivial⟩ trivial) ?_
 rintro k ⟨hk1, hk2⟩
 refine AWp_sr hP<|RK.V (op_lss rfl rfl)<|RK.D<|AWp_seq ?_
 refine AWp_cond rfl (fun hb1 => ?_) (fun hb1 => ?_)
 ·have hb1_ := of_decide_eq_true hb1
  refine AWp_skip<|AWp_seq<|AWp_block<|AWp_sr hP<|RK.M rfl<|RK.As rfl<|RK.D<|AWp_sr hP<|RK.M rfl<|RK.M rfl<|RK.M rfl<|RK.V (op_indexI hT (n := k) rfl rfl rfl rfl rfl rfl (by omega)) ?_
  refine RK.V (op_load_ip_one hT rfl rfl rfl rfl) ?_
  refine RK.V (op_eql rfl rfl) ?_
  refine RK.D ?_
  refine AWp_cond rfl (fun hb2 => ?_) (fun hb2 => ?_)
  ·have hb2_ := bT hb2
   refine AWp_sr hP<|RK.M rfl<|RK.As rfl<|RK.D<|AWp_ret ?_
   refine ends_one rfl (.inr rfl) (res_tmp rfl) ?_ O_ends
   exact Sub.int (ix_yes hk2 hb1_ hb2_).symm
  ·have hb2_ := bF hb2
   refine AWp_skip<|AWp_region hP<|RK.V (op_add rfl rfl (by first | exact IntWalk.i64_in _ (by omega) | rfl)) ?_
   refine RK.M rfl<|RK.D ?_
   have hn2 := findIdx_gt hk2 hb1_ hb2_
   refine ⟨k + 1, ⟨by omega, hn2⟩, by omega, le_stL ⟨.refl _, .refl _, .refl _, Sub.int (by omega), trivial⟩ trivial⟩
 ·have hb1_ := of_decide_eq_false hb1
  refine AWp_exit<|AWp_sr hP<|RK.As rfl<|RK.D<|AWp_ret ?_
  refine ends_one rfl (.inr rfl) (res_tmp rfl) ?_ O_ends
  exact Sub.int (ix_end hk2 hb1_).symm
theorem sl_Contains64 (l : List Int) (x : Int) (hl : (l.length : Int) ≤ 1000000) :
  Call0 Tryz.prog 195 [.p (.c (IS l)), Z x] (B (hasI l x)) := by
 refine callM_of (np := 0) Tryz.func195 (by kernel_rfl) rfl rfl (Nat.le_of_ble_eq_true rfl) (fun m h => absurd rfl h) (fun m h => absurd rfl h) rfl ?_
 refine AWp_sr hP<|RK.As rfl<|RK.D<|AWp_sr hP<|RK.M rfl<|RK.M rfl<|RK.V (Eff.call0 (sl_Index64 l x hl)) ?_
 refine RK.V (op_geq rfl rfl) ?_
 refine RK.As rfl<|RK.D<|AWp_ret ?_
 refine ends_one rfl (.inr rfl) (res_tmp rfl) ?_ O_ends
 exact .refl _
theorem sl_IndexI (l : List Int) (x : Int) (hl : (l.length : Int) ≤ 1000000) :
  Call0 Tryz.prog 159 [.p (.c (IS l)), Z x] (Z (ixV l x)) := by
 refine callM_of (np := 0) Tryz.func159 (by kernel_rfl) rfl rfl (Nat.le_of_ble_eq_true rfl) (fun m h => absurd rfl h) (fun m h => absurd rfl h) rfl ?_
 refine AWp_sr hP<|RK.As rfl<|RK.D<|AWp_seq<|AWp_sr hP<|RK.M rfl<|RK.V (op_len hT rfl rfl rfl (by rfl)) ?_
 refine RK.M rfl<|RK.D<|AWp_block<|AWp_loop (ι := Nat) (fun k => stL [(0, .p (.c (IS l))), (1, Z x), (7, Z (l.length : Int)), (8, Z (k : Int))] []) (fun k => k ≤ l.length ∧ k ≤ l.findIdx (· == x)) (fun k => l.length - k) 0 ⟨Nat.zero_le _, Nat.zero_le _⟩ (le_stL ⟨.refl _, .refl _, .refl _, .refl _, trivial⟩ trivial) ?_
 rintro k ⟨hk1, hk2⟩
 refine AWp_sr hP<|RK.V (op_lss rfl rfl)<|RK.D<|AWp_seq ?_
 refine AWp_cond rfl (fun hb1 => ?_) (fun hb1 => ?_)
 ·have hb1_ := of_decide_eq_true hb1
  refine AWp_skip<|AWp_seq<|AWp_block<|AWp_sr hP<|RK.M rfl<|RK.As rfl<|RK.D<|AWp_sr hP<|RK.M rfl<|RK.M rfl<|RK.M rfl<|RK.V (op_indexI hT (n := k) rfl rfl rfl rfl rfl rfl (by omega)) ?_
  refine RK.V (op_load_ip_one hT rfl rfl rfl rfl) ?_
  refine RK.V (op_eql rfl rfl) ?_
  refine RK.D ?_
  refine AWp_cond rfl (fun hb2 => ?_) (fun hb2 => ?_)
  ·have hb2_ := bT hb2
   refine AWp_sr hP<|RK.M rfl<|RK.As rfl<|RK.D<|AWp_ret ?_
   refine ends_one rfl (.inr rfl) (res_tmp rfl) ?_ O_ends
   exact Sub.int (ix_yes hk2 hb1_ hb2_).symm
  ·have hb2_ := bF hb2
   refine AWp_skip<|AWp_region hP<|RK.V (op_add rfl rfl (by first | exact IntWalk.i64_in _ (by omega) | rfl)) ?_
   refine RK.M rfl<|RK.D ?_
   have hn2 := findIdx_gt hk2 hb1_ hb2_
   refine ⟨k + 1, ⟨by omega, hn2⟩, by omega, le_stL ⟨.refl _, .refl _, .refl _, Sub.int (by omega), trivial⟩ trivial⟩
 ·have hb1_ := of_decide_eq_false hb1
  refine AWp_exit<|AWp_sr hP<|RK.As rfl<|RK.D<|AWp_ret ?_
  refine ends_one rfl (.inr rfl) (res_tmp rfl) ?_ O_ends
  exact Sub.int (ix_end hk2 hb1_).symm
theorem sl_ContainsI (l : List Int) (x : Int) (hl : (l.length : Int) ≤ 1000000) :
  Call0 Tryz.prog 94 [.p (.c (IS l)), Z x] (B (hasI l x)) := by
 refine callM_of (np := 0) Tryz.func94 (by kernel_rfl) rfl rfl (Nat.le_of_ble_eq_true rfl) (fun m h => absurd rfl h) (fun m h => absurd rfl h) rfl ?_
 refine AWp_sr hP<|RK.As rfl<|RK.D<|AWp_sr hP<|RK.M rfl<|RK.M rfl<|RK.V (Eff.call0 (sl_IndexI l x hl)) ?_
 refine RK.V (op_geq rfl rfl) ?_
 refine RK.As rfl<|RK.D<|AWp_ret ?_
 refine ends_one rfl (.inr rfl) (res_tmp rfl) ?_ O_ends
 exact .refl _
theorem g_special1 (m : Int) (l : List Int) (hm : 0 ≤ m) (hl : (l.length : Int) ≤ 1000000) :
  Call0 Tryz.prog 193 [Z m, .ip [IS l]] (Z (sgB (hasI l (m % 8)))) := by
 refine callM_of (np := 0) Tryz.func193 (by kernel_rfl) rfl rfl (Nat.le_of_ble_eq_true rfl) (fun m h => absurd rfl h) (fun m h => absurd rfl h) rfl ?_
 refine AWp_sr hP<|RK.As rfl<|RK.D<|AWp_sr hP<|RK.V (op_load_ip_one hT rfl rfl rfl (by first | rfl | exact wget (by omega))) ?_
 refine RK.M rfl<|RK.V (op_rem rfl rfl (by decide) (c := m % 8) (Int.tmod_eq_emod_of_nonneg hm)) ?_
 refine RK.V (Eff.call0 (sl_Contains64 l (m % 8) hl)) ?_
 refine RK.V (Eff.call0 (g_sign _)) ?_
 refine RK.As rfl<|RK.D<|AWp_ret ?_
 refine ends_one rfl (.inr rfl) (res_tmp rfl) ?_ O_ends
 exact .refl _
theorem g_odd1 (m p : Int) (hm : InI64 m) (hp : InI64 p) :
  Call0 Tryz.prog 191 [Z m, .ip [IC p]] (Z (kr m p)) := by
 have im : LB m 6 := ⟨by unfold L; unfold InI64 at hm; omega⟩
 have ip : LB p 6 := ⟨by unfold L; unfold InI64 at hp; omega⟩
 refine callM_of (np := 0) Tryz.func191 (by kernel_rfl) rfl rfl (Nat.le_of_ble_eq_true rfl) (fun m h => absurd rfl h) (fun m h => absurd rfl h) rfl ?_
 refine AWp_sr hP<|RK.As rfl<|RK.D<|AWp_sr hP<|RK.M rfl<|RK.V (Eff.call0 (int_Of m hm)) ?_
 refine RK.V (op_load_ip_one hT rfl rfl rfl (by first | rfl | exact wget (by omega))) ?_
 refine RK.V (Eff.call0 (int_Of p hp)) ?_
 refine RK.V (Eff.call0 (m_Kronecker _ _ lz lz)) ?_
 refine RK.As rfl<|RK.D<|AWp_ret ?_
 refine ends_one rfl (.inr rfl) (res_tmp rfl) ?_ O_ends
 exact .refl _
theorem g_special (c : Int) (l : List Int) :
  Call0 Tryz.prog 148 [Z c, .p (.c (IS l))] (.p (.a [IC c, .fn 193 [.ip [IS l]]])) := by
 refine callM_of (np := 0) Tryz.func148 (by kernel_rfl) rfl rfl (Nat.le_of_ble_eq_true rfl) (fun m h => absurd rfl h) (fun m h => absurd rfl h) rfl ?_
 refine AWp_sr hP<|RK.alc guard_none (op_box rfl rfl)<|RK.alc guard_none (op_alloc hT rfl rfl)<|RK.D<|AWp_freezeBox (t := 3) rfl rfl ?_
 refine AWp_sr hP<|RK.M rfl<|RK.V (op_makeFuncD rfl) ?_
 refine RK.V (op_build_st hT rfl rfl rfl (es := [_, _]) rfl) ?_
 refine RK.S hT rfl rfl rfl rfl rfl rfl rfl<|RK.D<|AWp_ret ?_
 refine ends_one rfl (.inr rfl) (res_cell_agg hT rfl rfl rfl rfl (cs := [_, _]) rfl rfl) ?_ O_ends
 exact .refl _
theorem g_odd (p : Int) (h : 3 ≤ p) (ho : p % 2 = 1) :
  Call0 Tryz.prog 147 [Z p] (.p (.a (chC 191 193 p))) := by
 refine callM_of (np := 0) Tryz.func147 (by kernel_rfl) rfl rfl (Nat.le_of_ble_eq_true rfl) (fun m h => absurd rfl h) (fun m h => absurd rfl h) rfl ?_
 refine AWp_sr hP<|RK.alc guard_none (op_box rfl rfl)<|RK.alc guard_none (op_alloc hT rfl rfl)<|RK.D<|AWp_freezeBox (t := 1) rfl rfl ?_
 refine AWp_sr hP<|RK.V (op_load_ip_one hT rfl rfl rfl (by first | rfl | exact wget (by omega))) ?_
 refine RK.V (op_makeFuncD rfl) ?_
 refine RK.V (op_build_st hT rfl rfl rfl (es := [_, _]) rfl) ?_
 refine RK.S hT rfl rfl rfl rfl rfl rfl rfl<|RK.D<|AWp_ret ?_
 refine ends_one rfl (.inr rfl) (res_cell_agg hT rfl rfl rfl rfl (cs := [_, _]) rfl rfl) ?_ O_ends
 exact Sub.of_eq (by rw [← odd_chC h ho]; rfl)
end Go.Proofs.YtpaifigafaijpaaGreatDoor
end
section
namespace Go.Proofs.YtpaifigafaijpaaGreatDoor
open Go Go.AM
theorem g_assigned (d : Int) (h0 : d < 0) (h1 : -4194304 ≤ d) :
  Call0 Tryz.prog 72 [Z d] (.p (.c (CS 191 193 (chs d)))) := by
 refine callM_of (np := 0) Tryz.func72 (by kernel_rfl) rfl rfl (Nat.le_of_ble_eq_true rfl) (fun m h => absurd rfl h) (fun m h => absurd rfl h) rfl ?_
 refine AWp_sr hP<|RK.As rfl<|RK.D<|AWp_sr hP<|RK.As rfl<|RK.D<|AWp_nilV 3 1000 2 119 rfl rfl ?_
 refine AWp_sr hP<|RK.M rfl<|RK.V (op_uneg rfl (c := -d) (by rw [IntWalk.i64_in _ (by omega)]; omega)) ?_
 refine RK.As rfl<|RK.D<|AWp_seq<|AWp_block<|AWp_loop (ι := Int) (fun m => stL [(0, Z d), (3, .vec 1000), (4, Z m)] [(1000, CB 191 193 119 [])]) (fun m => (0 < m ∧ m ≤ 4194304) ∧ rmp m 2 = (rmp (-d) 2)) (fun m => m.toNat) (-d) ⟨by omega, rfl⟩ (le_stL ⟨.refl _, .refl _, .refl _, trivial⟩ ⟨rfl, trivial⟩) ?_
 rintro m ⟨hm, hr⟩
 refine AWp_seq<|AWp_sr hP<|RK.M rfl<|RK.V (op_rem rfl rfl (by omega) (c := m % 2) (Int.tmod_eq_emod_of_nonneg (by omega))) ?_
 refine RK.V (op_eql rfl rfl) ?_
 refine RK.D ?_
 refine AWp_cond rfl (fun hb1 => ?_) (fun hb1 => ?_)
 ·have hb1_ := bT hb1
  refine AWp_skip<|AWp_block<|AWp_region hP<|RK.M rfl<|RK.V (op_quo rfl rfl (by omega) (c := m / 2) (by rw [Int.tdiv_eq_ediv_of_nonneg (by omega), IntWalk.i64_in _ (by omega)])) ?_
  refine RK.As rfl<|RK.D ?_
  have hdd := div_ltp hm.1 (by decide) hb1_
  refine ⟨m / 2, ⟨by omega, by rw [rmp_yes (by decide) hm.1 hb1_, hr]⟩, by omega, le_stL ⟨.refl _, .refl _, .refl _, trivial⟩ ⟨rfl, trivial⟩⟩
 ·have hb1_ := bF hb1
  refine AWp_exit<|AWp_seq<|AWp_sr hP<|RK.As rfl<|RK.D<|AWp_block ?_
  have hm2 : m = (rmp (-d) 2) := by rw [← hr, rmp_no hb1_]
  refine AWp_loop (ι := Int × Int × List Int) (fun q => stL [(0, Z d), (3, .vec 1000), (4, Z q.1), (5, Z q.2.1)] [(1000, CB 191 193 119 q.2.2)]) (fun q => OcI (rmp (-d) 2) q.1 q.2.1 q.2.2) (fun q => ocM q.1 q.2.1) (m, 3, []) (by have := OcI.start (n := m) (by omega) (by omega) (by omega); rw [hm2] at this ⊢; exact this) (le_stL ⟨.refl _, .refl _, .refl _, .refl _, trivial⟩ ⟨rfl, trivial⟩) ?_
  intro q i
  have in1 := i.n1
  have inb := i.nb
  have ip3 := i.p3
  have il := i.len.1
  refine AWp_seq<|AWp_sr hP<|RK.M rfl<|RK.V (op_gtr rfl rfl) ?_
  refine RK.D ?_
  refine AWp_cond rfl (fun hb2 => ?_) (fun hb2 => ?_)
  ·have hb2_ := of_decide_eq_true hb2
   have ipb := i.pb hb2_
   have hsq := sq_b (x := q.2.1) (m := 2051) (by omega)
   refine AWp_skip<|AWp_seq<|AWp_block<|AWp_seq_cut (ι := Int) (fun r => stL [(0, Z d), (3, .vec 1000), (4, Z q.1), (5, Z r)] [(1000, CB 191 193 119 q.2.2)]) (fun r => QI q.1 q.2.1 r) ?_ ?_
   ·refine AWp_sr hP<|RK.M rfl<|RK.M rfl<|RK.V (op_mul rfl rfl (by first | exact IntWalk.i64_in _ (by omega) | rfl)) ?_
    refine RK.M rfl<|RK.V (op_gtr rfl rfl) ?_
    refine RK.D ?_
    refine AWp_cond rfl (fun hb3 => ?_) (fun hb3 => ?_)
    ·have hb3_ := of_decide_eq_true hb3
     refine AWp_region hP<|RK.M rfl<|RK.As rfl<|RK.D ?_
     refine ⟨q.1, .inl ⟨rfl, hb3_⟩, le_stL ⟨.refl _, .refl _, .refl _, .refl _, trivial⟩ ⟨rfl, trivial⟩⟩
    ·have hb3_ := of_decide_eq_false hb3
     refine AWp_skip ?_
     refine ⟨q.2.1, .inr ⟨rfl, hb3_⟩, le_stL ⟨.refl _, .refl _, .refl _, .refl _, trivial⟩ ⟨rfl, trivial⟩⟩
   intro r hQ
   obtain ⟨hq3, hqo, hqb⟩ := i.q3 hb2_ hQ
   refine AWp_seq<|AWp_sr hP<|RK.M rfl<|RK.M rfl<|RK.V (op_rem rfl rfl (by omega) (c := q.1 % r) (Int.tmod_eq_emod_of_nonneg (by omega))) ?_
   refine RK.V (op_eql rfl rfl) ?_
   refine RK.D ?_
   refine AWp_cond rfl (fun hb4 => ?_) (fun hb4 => ?_)
   ·have hb4_ := bT hb4
    obtain ⟨out', ho', hR⟩ : ∃ o, o = q.2.2 ++ [r] ∧ RI q.1 q.2.1 r q.2.2 o := ⟨_, rfl, hQ.yes hb4_⟩
    refine AWp_region hP<|RK.V (op_move (rfl : _ = AV.vec _))<|RK.M rfl<|RK.V (Eff.call0 (g_odd r hq3 hqo)) ?_
    refine RK.V (op_bslice hT rfl rfl rfl (es := [_, _]) rfl rfl rfl) ?_
    refine RK.app guard_none (op_appendC (fo := 191) (fs := 193) (c := [r]) hT rfl rfl rfl rfl rfl rfl rfl rfl rfl (by simp only [List.length_cons, List.length_nil]; omega) (by decide)) ?_
    refine RK.V (op_assign (rfl : _ = AV.vec _))<|RK.D<|AWp_rn 34 1000 rfl rfl rfl ?_
    refine AWp_block<|AWp_loop (ι := Int) (fun m => stL [(0, Z d), (3, .vec 1000), (4, Z m), (5, Z r)] [(1000, CB 191 193 119 out')]) (fun m => (0 < m ∧ m ≤ 4194304) ∧ rmp m r = rmp q.1 r) (fun m => m.toNat) q.1 ⟨by omega, rfl⟩ (le_stL ⟨.refl _, .refl _, .refl _, .refl _, trivial⟩ ⟨Eq.trans rfl (congrArg (fun x => some (CB 191 193 119 x)) ho'.symm), trivial⟩) ?_
    rintro m ⟨hm, hrm⟩
    refine AWp_seq<|AWp_sr hP<|RK.M rfl<|RK.M rfl<|RK.V (op_rem rfl rfl (by omega) (c := m % r) (Int.tmod_eq_emod_of_nonneg (by omega))) ?_
    refine RK.V (op_eql rfl rfl) ?_
    refine RK.D ?_
    refine AWp_cond rfl (fun hb5 => ?_) (fun hb5 => ?_)
    ·have hb5_ := bT hb5
     have hdd := div_ltp hm.1 (by omega) ‹m % r = 0›
     refine AWp_skip<|AWp_block<|AWp_region hP<|RK.M rfl<|RK.M rfl<|RK.V (op_quo rfl rfl (by omega) (c := m / r) (by rw [Int.tdiv_eq_ediv_of_nonneg (by omega), IntWalk.i64_in _ (by omega)])) ?_
     refine RK.As rfl<|RK.D ?_
     refine ⟨m / r, ⟨by omega, by rw [rmp_yes (by omega) hm.1 ‹m % r = 0›, hrm]⟩, by omega, le_stL ⟨.refl _, .refl _, .refl _, .refl _, trivial⟩ ⟨rfl, trivial⟩⟩
    ·have hb5_ := bF hb5
     refine AWp_exit<|AWp_region hP<|RK.M rfl<|RK.V (op_add rfl rfl (by first | exact IntWalk.i64_in _ (by omega) | rfl)) ?_
     refine RK.As rfl<|RK.D ?_
     have hcl := i.close hb2_ hR
     have em : m = rmp q.1 r := by rw [← hrm, rmp_no ‹m % r ≠ 0›]
     refine ⟨(rmp q.1 r, r + 2, out'), hcl.1, hcl.2, le_stL ⟨.refl _, .refl _, Sub.int em, .refl _, trivial⟩ ⟨rfl, trivial⟩⟩
   ·have hb4_ := bF hb4
    obtain ⟨out', ho', hR⟩ : ∃ o, o = q.2.2 ∧ RI q.1 q.2.1 r q.2.2 o := ⟨_, rfl, hQ.no hb2_ hb4_⟩
    refine AWp_skip<|AWp_block<|AWp_loop (ι := Int) (fun m => stL [(0, Z d), (3, .vec 1000), (4, Z m), (5, Z r)] [(1000, CB 191 193 119 out')]) (fun m => (0 < m ∧ m ≤ 4194304) ∧ rmp m r = rmp q.1 r) (fun m => m.toNat) q.1 ⟨by omega, rfl⟩ (le_stL ⟨.refl _, .refl _, .refl _, .refl _, trivial⟩ ⟨Eq.trans rfl (congrArg (fun x => some (CB 191 193 119 x)) ho'.symm), trivial⟩) ?_
    rintro m ⟨hm, hrm⟩
    refine AWp_seq<|AWp_sr hP<|RK.M rfl<|RK.M rfl<|RK.V (op_rem rfl rfl (by omega) (c := m % r) (Int.tmod_eq_emod_of_nonneg (by omega))) ?_
    refine RK.V (op_eql rfl rfl) ?_
    refine RK.D ?_
    refine AWp_cond rfl (fun hb6 => ?_) (fun hb6 => ?_)
    ·have hb6_ := bT hb6
     have hdd := div_ltp hm.1 (by omega) ‹m % r = 0›
     refine AWp_skip<|AWp_block<|AWp_region hP<|RK.M rfl<|RK.M rfl<|RK.V (op_quo rfl rfl (by omega) (c := m / r) (by rw [Int.tdiv_eq_ediv_of_nonneg (by omega), IntWalk.i64_in _ (by omega)])) ?_
     refine RK.As rfl<|RK.D ?_
     refine ⟨m / r, ⟨by omega, by rw [rmp_yes (by omega) hm.1 ‹m % r = 0›, hrm]⟩, by omega, le_stL ⟨.refl _, .refl _, .refl _, .refl _, trivial⟩ ⟨rfl, trivial⟩⟩
    ·have hb6_ := bF hb6
     refine AWp_exit<|AWp_region hP<|RK.M rfl<|RK.V (op_add rfl rfl (by first | exact IntWalk.i64_in _ (by omega) | rfl)) ?_
     refine RK.As rfl<|RK.D ?_
     have hcl := i.close hb2_ hR
     have em : m = rmp q.1 r := by rw [← hrm, rmp_no ‹m % r ≠ 0›]
     refine ⟨(rmp q.1 r, r + 2, out'), hcl.1, hcl.2, le_stL ⟨.refl _, .refl _, Sub.int em, .refl _, trivial⟩ ⟨rfl, trivial⟩⟩
  ·have hb2_ := of_decide_eq_false hb2
   refine AWp_exit<|AWp_seq<|AWp_sr hP<|RK.M rfl<|RK.V (op_rem rfl rfl (by decide) (c := d.tmod 4) rfl) ?_
   refine RK.V (op_neq rfl rfl) ?_
   refine RK.D ?_
   refine AWp_cond rfl (fun hb7 => ?_) (fun hb7 => ?_)
   ·have hb7_ := bneT hb7
    refine AWp_sr hP<|RK.V (op_move (rfl : _ = AV.vec _))<|RK.V (op_assign (rfl : _ = AV.vec _))<|RK.D<|AWp_freezeC (t := 2) rfl rfl ?_
    refine AWp_ret ?_
    refine ends_one rfl (.inr rfl) (res_tmp rfl) ?_ O_ends
    exact Sub.of_eq (by rw [i.fin hb2_, chs_n hb7_])
   ·have hb7_ := bneF hb7
    refine AWp_skip<|AWp_sr hP<|RK.V (op_bslice hT rfl rfl rfl (es := [_, _]) rfl rfl rfl) ?_
    refine RK.V (Eff.call0 (g_special (-4) [1, 5])) ?_
    refine RK.V (op_bslice hT rfl rfl rfl (es := [_, _]) rfl rfl rfl) ?_
    refine RK.V (Eff.call0 (g_special 8 [1, 7])) ?_
    refine RK.V (op_bslice hT rfl rfl rfl (es := [_, _]) rfl rfl rfl) ?_
    refine RK.V (Eff.call0 (g_special (-8) [1, 3])) ?_
    refine RK.alc guard_none (op_alloc hT rfl rfl)<|RK.alc guard_none (op_alloc hT rfl rfl)<|RK.alc guard_none (op_alloc hT rfl rfl)<|RK.S hT rfl rfl rfl rfl rfl rfl rfl<|RK.S hT rfl rfl rfl rfl rfl rfl rfl<|RK.S hT rfl rfl rfl rfl rfl rfl rfl<|RK.D<|AWp_seq<|AWp_sr hP<|RK.M rfl<|RK.V (op_uneg rfl (c := -d) (by rw [IntWalk.i64_in _ (by omega)]; omega)) ?_
    refine RK.V (op_quo rfl rfl (by omega) (c := -d / 4) (by rw [Int.tdiv_eq_ediv_of_nonneg (by omega), IntWalk.i64_in _ (by omega)])) ?_
    refine RK.V (op_rem rfl rfl (by omega) (c := -d / 4 % 8) (Int.tmod_eq_emod_of_nonneg (by omega))) ?_
    refine RK.D<|AWp_block<|AWp_sr hP<|RK.V (op_eql rfl rfl) ?_
    refine RK.As rfl<|RK.D ?_
    refine AWp_cond rfl (fun hb8 => ?_) (fun hb8 => ?_)
    ·have hb8_ := bT hb8
     refine AWp_region hP<|RK.V (op_move (rfl : _ = AV.vec _))<|RK.G2 hT rfl rfl rfl rfl rfl rfl<|RK.G2 hT rfl rfl rfl rfl rfl rfl<|RK.V (op_bslice hT rfl rfl rfl (es := [_, _, _, _]) rfl rfl rfl) ?_
     refine RK.app guard_none (op_appendC (fo := 191) (fs := 193) (c := [-4, 8]) hT rfl rfl rfl rfl rfl rfl rfl rfl rfl (by simp only [List.length_cons, List.length_nil]; omega) (by decide)) ?_
     refine RK.V (op_assign (rfl : _ = AV.vec _))<|RK.D<|AWp_rn 62 1000 rfl rfl rfl ?_
     refine AWp_sr hP<|RK.V (op_move (rfl : _ = AV.vec _))<|RK.V (op_assign (rfl : _ = AV.vec _))<|RK.D<|AWp_freezeC (t := 2) rfl rfl ?_
     refine AWp_ret ?_
     refine ends_one rfl (.inr rfl) (res_tmp rfl) ?_ O_ends
     exact Sub.of_eq (by rw [i.fin hb2_, chs_y hb7_ (spC_0 hb7_ hb8_)])
    ·have hb8_ := bF hb8
     refine AWp_seq<|AWp_sr hP<|RK.V (op_eql rfl rfl) ?_
     refine RK.As rfl<|RK.D ?_
     refine AWp_cond rfl (fun hb9 => ?_) (fun hb9 => ?_)
     ·have hb9_ := bT hb9
      refine AWp_skip<|AWp_cond_true rfl hb9 ?_
      refine AWp_region hP<|RK.V (op_move (rfl : _ = AV.vec _))<|RK.G2 hT rfl rfl rfl rfl rfl rfl<|RK.V (op_bslice hT rfl rfl rfl (es := [_, _]) rfl rfl rfl) ?_
      refine RK.app guard_none (op_appendC (fo := 191) (fs := 193) (c := [-4]) hT rfl rfl rfl rfl rfl rfl rfl rfl rfl (by simp only [List.length_cons, List.length_nil]; omega) (by decide)) ?_
      refine RK.V (op_assign (rfl : _ = AV.vec _))<|RK.D<|AWp_rn 70 1000 rfl rfl rfl ?_
      refine AWp_sr hP<|RK.V (op_move (rfl : _ = AV.vec _))<|RK.V (op_assign (rfl : _ = AV.vec _))<|RK.D<|AWp_freezeC (t := 2) rfl rfl ?_
      refine AWp_ret ?_
      refine ends_one rfl (.inr rfl) (res_tmp rfl) ?_ O_ends
      exact Sub.of_eq (by rw [i.fin hb2_, chs_y hb7_ (spC_1 hb7_ hb8_ (.inl hb9_))])
     ·have hb9_ := bF hb9
      refine AWp_sr hP<|RK.V (op_eql rfl rfl) ?_
      refine RK.As rfl<|RK.D ?_
      refine AWp_cond rfl (fun hb10 => ?_) (fun hb10 => ?_)
      ·have hb10_ := bT hb10
       refine AWp_skip<|AWp_cond_true rfl hb10 ?_
       refine AWp_region hP<|RK.V (op_move (rfl : _ = AV.vec _))<|RK.G2 hT rfl rfl rfl rfl rfl rfl<|RK.V (op_bslice hT rfl rfl rfl (es := [_, _]) rfl rfl rfl) ?_
       refine RK.app guard_none (op_appendC (fo := 191) (fs := 193) (c := [-4]) hT rfl rfl rfl rfl rfl rfl rfl rfl rfl (by simp only [List.length_cons, List.length_nil]; omega) (by decide)) ?_
       refine RK.V (op_assign (rfl : _ = AV.vec _))<|RK.D<|AWp_rn 70 1000 rfl rfl rfl ?_
       refine AWp_sr hP<|RK.V (op_move (rfl : _ = AV.vec _))<|RK.V (op_assign (rfl : _ = AV.vec _))<|RK.D<|AWp_freezeC (t := 2) rfl rfl ?_
       refine AWp_ret ?_
       refine ends_one rfl (.inr rfl) (res_tmp rfl) ?_ O_ends
       exact Sub.of_eq (by rw [i.fin hb2_, chs_y hb7_ (spC_1 hb7_ hb8_ (.inr (.inl hb10_)))])
      ·have hb10_ := bF hb10
       refine AWp_region hP<|RK.V (op_eql rfl rfl) ?_
       refine RK.As rfl<|RK.D ?_
       refine AWp_cond rfl (fun hb11 => ?_) (fun hb11 => ?_)
       ·have hb11_ := bT hb11
        refine AWp_region hP<|RK.V (op_move (rfl : _ = AV.vec _))<|RK.G2 hT rfl rfl rfl rfl rfl rfl<|RK.V (op_bslice hT rfl rfl rfl (es := [_, _]) rfl rfl rfl) ?_
        refine RK.app guard_none (op_appendC (fo := 191) (fs := 193) (c := [-4]) hT rfl rfl rfl rfl rfl rfl rfl rfl rfl (by simp only [List.length_cons, List.length_nil]; omega) (by decide)) ?_
        refine RK.V (op_assign (rfl : _ = AV.vec _))<|RK.D<|AWp_rn 70 1000 rfl rfl rfl ?_
        refine AWp_sr hP<|RK.V (op_move (rfl : _ = AV.vec _))<|RK.V (op_assign (rfl : _ = AV.vec _))<|RK.D<|AWp_freezeC (t := 2) rfl rfl ?_
        refine AWp_ret ?_
        refine ends_one rfl (.inr rfl) (res_tmp rfl) ?_ O_ends
        exact Sub.of_eq (by rw [i.fin hb2_, chs_y hb7_ (spC_1 hb7_ hb8_ (.inr (.inr hb11_)))])
       ·have hb11_ := bF hb11
        refine AWp_sr hP<|RK.V (op_eql rfl rfl) ?_
        refine RK.As rfl<|RK.D ?_
        refine AWp_cond rfl (fun hb12 => ?_) (fun hb12 => ?_)
        ·have hb12_ := bT hb12
         refine AWp_region hP<|RK.V (op_move (rfl : _ = AV.vec _))<|RK.G2 hT rfl rfl rfl rfl rfl rfl<|RK.V (op_bslice hT rfl rfl rfl (es := [_, _]) rfl rfl rfl) ?_
         refine RK.app guard_none (op_appendC (fo := 191) (fs := 193) (c := [-8]) hT rfl rfl rfl rfl rfl rfl rfl rfl rfl (by simp only [List.length_cons, List.length_nil]; omega) (by decide)) ?_
         refine RK.V (op_assign (rfl : _ = AV.vec _))<|RK.D<|AWp_rn 76 1000 rfl rfl rfl ?_
         refine AWp_sr hP<|RK.V (op_move (rfl : _ = AV.vec _))<|RK.V (op_assign (rfl : _ = AV.vec _))<|RK.D<|AWp_freezeC (t := 2) rfl rfl ?_
         refine AWp_ret ?_
         refine ends_one rfl (.inr rfl) (res_tmp rfl) ?_ O_ends
         exact Sub.of_eq (by rw [i.fin hb2_, chs_y hb7_ (spC_2 hb7_ hb12_)])
        ·have hb12_ := bF hb12
         refine AWp_sr hP<|RK.V (op_eql rfl rfl) ?_
         refine RK.As rfl<|RK.D ?_
         refine AWp_cond rfl (fun hb13 => ?_) (fun hb13 => ?_)
         ·have hb13_ := bT hb13
          refine AWp_region hP<|RK.V (op_move (rfl : _ = AV.vec _))<|RK.G2 hT rfl rfl rfl rfl rfl rfl<|RK.V (op_bslice hT rfl rfl rfl (es := [_, _]) rfl rfl rfl) ?_
          refine RK.app guard_none (op_appendC (fo := 191) (fs := 193) (c := [8]) hT rfl rfl rfl rfl rfl rfl rfl rfl rfl (by simp only [List.length_cons, List.length_nil]; omega) (by decide)) ?_
          refine RK.V (op_assign (rfl : _ = AV.vec _))<|RK.D<|AWp_rn 82 1000 rfl rfl rfl ?_
          refine AWp_sr hP<|RK.V (op_move (rfl : _ = AV.vec _))<|RK.V (op_assign (rfl : _ = AV.vec _))<|RK.D<|AWp_freezeC (t := 2) rfl rfl ?_
          refine AWp_ret ?_
          refine ends_one rfl (.inr rfl) (res_tmp rfl) ?_ O_ends
          exact Sub.of_eq (by rw [i.fin hb2_, chs_y hb7_ (spC_6 hb7_ hb13_)])
         ·have hb13_ := bF hb13
          refine AWp_skip<|AWp_sr hP<|RK.V (op_move (rfl : _ = AV.vec _))<|RK.V (op_assign (rfl : _ = AV.vec _))<|RK.D<|AWp_freezeC (t := 2) rfl rfl ?_
          refine AWp_ret ?_
          refine ends_one rfl (.inr rfl) (res_tmp rfl) ?_ O_ends
          exact Sub.of_eq (by rw [i.fin hb2_, spC_e hb7_ hb8_ hb9_ hb10_ hb11_ hb12_ hb13_])
end Go.Proofs.YtpaifigafaijpaaGreatDoor
end
section
namespace Go.Proofs.YtpaifigafaijpaaGreatDoor
open Go Go.AM
theorem int_LowM (x : Int) (hx : 9223372036854775808 ≤ x.natAbs ∧ x.natAbs < 18446744073709551616) : Call0 Tryz.prog 131 [I x] (.t [.c (.v (.int .i64 (lwV x))), PB (lwO x)]) := int_Low2 x hx.2
end Go.Proofs.YtpaifigafaijpaaGreatDoor
end
section
namespace Go.Proofs.YtpaifigafaijpaaGreatDoor
open Go Go.AM
theorem int_LowL (x : Int) (hx : 18446744073709551616 ≤ x.natAbs) :
  Call0 Tryz.prog 131 [I x] (.t [.c (.v (.int .i64 (lwV x))), PB (lwO x)]) := by
 have hl : ¬ (wl x.natAbs).length ≤ 2 := fun h => by have := lt_two h; omega
 refine callM_of (np := 0) Tryz.func131 (by kernel_rfl) rfl rfl (Nat.le_of_ble_eq_true rfl) (fun m h => absurd rfl h) (fun m h => absurd rfl h) rfl ?_
 refine AWp_sr hP<|RK.alc guard_none (op_box rfl rfl)<|RK.As rfl<|RK.As rfl<|RK.D<|AWp_seq<|AWp_sr hP<|RK.F hT rfl rfl rfl rfl rfl rfl<|RK.V (op_load_one hT rfl rfl rfl rfl (by first | rfl | exact vget (by omega))) ?_
 refine RK.V (op_len hT rfl rfl rfl rfl)<|RK.V (op_gtr rfl rfl) ?_
 refine RK.D<|AWp_cond_true rfl (decide_eq_true (by omega)) ?_
 refine AWp_sr hP<|RK.As rfl<|RK.As rfl<|RK.D<|AWp_ret ?_
 refine ends_two rfl (.inr rfl) (res_tmp rfl) (res_tmp rfl) ?_ O_ends
 exact Sub.of_eq (lw_no (by omega))
theorem int_LowA (x : Int) : Call0 Tryz.prog 131 [I x] (.t [.c (.v (.int .i64 (lwV x))), PB (lwO x)]) := by
 by_cases h : x.natAbs < 9223372036854775808
 ·have h1 := int_Low x (by omega) (by omega)
  have h2 := lwO_yes (a := x) (by omega)
  rw [h2.1, h2.2]; exact h1
 ·by_cases h1 : x.natAbs < 18446744073709551616
  ·exact int_LowM x (by omega)
  ·exact int_LowL x (by omega)
theorem g_right (d : Int) (hd : L 40 d) :
  Call0 Tryz.prog 71 [I d] (.t [PE (gnV d), PE (szE d)]) := by
 have id0 : LB d 40 := ⟨hd⟩
 have hm0 := Int.emod_nonneg d (show (4 : Int) ≠ 0 by omega)
 have hm1 := Int.emod_lt_of_pos d (show (0 : Int) < 4 by omega)
 refine callM_of (np := 0) Tryz.func71 (by kernel_rfl) rfl rfl (Nat.le_of_ble_eq_true rfl) (fun m h => absurd rfl h) (fun m h => absurd rfl h) rfl ?_
 refine AWp_sr hP<|RK.alc guard_none (op_box rfl rfl)<|RK.As rfl<|RK.As rfl<|RK.D<|AWp_sr hP<|RK.G2 hT rfl rfl rfl rfl rfl rfl<|RK.V (Eff.call0 (int_Of 4 (by decide))) ?_
 refine RK.V (Eff.call0 (int_DivMod d 4 lz lz (by decide))) ?_
 refine RK.V (op_move (rfl : _ = AV.t _))<|RK.V (op_extract rfl (v := .a _) rfl)<|RK.V (op_extract rfl (v := .a _) rfl)<|RK.V (op_extract rfl (v := .c _) rfl)<|RK.alc guard_none (op_alloc hT rfl rfl)<|RK.alc guard_none (op_alloc hT rfl rfl)<|RK.S hT rfl rfl rfl rfl rfl rfl rfl<|RK.S hT rfl rfl rfl rfl rfl rfl rfl<|RK.As rfl<|RK.D<|AWp_sr hP<|RK.G2 hT rfl rfl rfl rfl rfl rfl<|RK.V (Eff.call0 (int_LowA d)) ?_
 refine RK.V (op_move (rfl : _ = AV.t _))<|RK.V (op_extract rfl (v := .c _) rfl)<|RK.V (op_extract rfl (v := .c _) rfl)<|RK.As rfl<|RK.As rfl<|RK.D<|AWp_seq<|AWp_block<|AWp_sr hP<|RK.G2 hT rfl rfl rfl rfl rfl rfl<|RK.V (Eff.call0 (int_Sign _)) ?_
 refine RK.V (op_geq rfl rfl) ?_
 refine RK.M rfl ?_
 refine RK.split (t := 25) rfl (fun hg1 => ?_) (fun hg1 => ?_)
 ·have hg1_ := of_decide_eq_true hg1
  refine RK.skip (guard_no rfl rfl hg1) ?_
  refine RK.skip (guard_no rfl rfl hg1) ?_
  refine RK.skip (guard_no rfl rfl hg1) ?_
  refine RK.skip (guard_no rfl rfl hg1) ?_
  refine RK.V (op_pick_t rfl hg1 (rfl : _ = AV.p (.c _))) ?_
  refine RK.As rfl<|RK.D<|AWp_cond_true rfl rfl ?_
  refine AWp_sr hP<|RK.As rfl<|RK.As rfl<|RK.D<|AWp_ret ?_
  refine ends_two rfl (.inr rfl) (res_tmp rfl) (res_tmp rfl) ?_ O_ends
  exact Sub.of_eq (gn_5 (.inl (sgn_ge_iff.1 hg1_)))
 ·have hg1_ := of_decide_eq_false hg1
  refine RK.val (guard_yes rfl rfl hg1) (op_load_agg hT rfl rfl rfl rfl (cs := [_, _]) rfl rfl) ?_
  refine RK.val (guard_yes rfl rfl hg1) (Eff.call0 (int_Of 1 (by decide))) ?_
  refine RK.val (guard_yes rfl rfl hg1) (Eff.call0 (int_Cmp _ _)) ?_
  refine RK.val (guard_yes rfl rfl hg1) (op_gtr rfl rfl) ?_
  refine RK.V (op_pick_f rfl hg1 (rfl : _ = AV.p (.c _))) ?_
  refine RK.As rfl<|RK.D ?_
  refine AWp_cond rfl (fun hb2 => ?_) (fun hb2 => ?_)
  ·have hb2_ := of_decide_eq_true hb2
   refine AWp_sr hP<|RK.As rfl<|RK.As rfl<|RK.D<|AWp_ret ?_
   refine ends_two rfl (.inr rfl) (res_tmp rfl) (res_tmp rfl) ?_ O_ends
   exact Sub.of_eq (gn_5 (.inr (cmpI_gt_zero.1 hb2_)))
  ·have hb2_ := of_decide_eq_false hb2
   have hn : ¬ (0 ≤ d ∨ d % 4 > 1) := fun h => h.elim (fun x => hg1_ (sgn_ge_iff.2 x)) (fun x => hb2_ (cmpI_gt_zero.2 x))
   refine AWp_sr hP<|RK.M rfl<|RK.V (op_unot rfl) ?_
   refine RK.M rfl ?_
   refine RK.split (t := 34) rfl (fun hg3 => ?_) (fun hg3 => ?_)
   ·have hg3_ := (notT hg3)
    refine RK.skip (guard_no rfl rfl hg3) ?_
    refine RK.skip (guard_no rfl rfl hg3) ?_
    refine RK.V (op_pick_t rfl hg3 (rfl : _ = AV.p (.c _))) ?_
    refine RK.As rfl<|RK.D<|AWp_cond_true rfl rfl ?_
    refine AWp_sr hP<|RK.As rfl<|RK.As rfl<|RK.D<|AWp_ret ?_
    refine ends_two rfl (.inr rfl) (res_tmp rfl) (res_tmp rfl) ?_ O_ends
    exact Sub.of_eq (gn_2 hn (by have := lwO_f hg3_; omega))
   ·have hg3_ := (notF hg3)
    have hly := lwO_yes (lwO_iff.1 hg3_)
    refine RK.val (guard_yes rfl rfl hg3) (op_move (rfl : _ = AV.p (.c _))) ?_
    refine RK.val (guard_yes rfl rfl hg3) (op_lss rfl rfl) ?_
    refine RK.V (op_pick_f rfl hg3 (rfl : _ = AV.p (.c _))) ?_
    refine RK.As rfl<|RK.D ?_
    refine AWp_cond rfl (fun hb4 => ?_) (fun hb4 => ?_)
    ·have hb4_ := of_decide_eq_true hb4
     refine AWp_sr hP<|RK.As rfl<|RK.As rfl<|RK.D<|AWp_ret ?_
     refine ends_two rfl (.inr rfl) (res_tmp rfl) (res_tmp rfl) ?_ O_ends
     exact Sub.of_eq (gn_2 hn (by have := hly.2; omega))
    ·have hb4_ := of_decide_eq_false hb4
     refine AWp_skip<|AWp_sr hP<|RK.M rfl<|RK.As rfl<|RK.As rfl<|RK.D<|AWp_ret ?_
     refine ends_two rfl (.inr rfl) (res_tmp rfl) (res_tmp rfl) ?_ O_ends
     exact Sub.of_eq (by rw [hly.2]; exact gn_0 hn (by have := hly.2; omega))
theorem g_Characters (d : Int) (hd : L 40 d) :
  Call0 Tryz.prog 19 [I d] (.t [.c (IS (chE d)), PE (szE d)]) := by
 have id0 : LB d 40 := ⟨hd⟩
 refine callM_of (np := 0) Tryz.func19 (by kernel_rfl) rfl rfl (Nat.le_of_ble_eq_true rfl) (fun m h => absurd rfl h) (fun m h => absurd rfl h) rfl ?_
 refine AWp_sr hP<|RK.alc guard_none (op_box rfl rfl)<|RK.As rfl<|RK.As rfl<|RK.D<|AWp_sr hP<|RK.G2 hT rfl rfl rfl rfl rfl rfl<|RK.V (Eff.call0 (g_right _ hd)) ?_
 refine RK.V (op_move (rfl : _ = AV.t _))<|RK.V (op_extract rfl (v := .c _) rfl)<|RK.V (op_extract rfl (v := .c _) rfl)<|RK.As rfl<|RK.As rfl<|RK.D<|AWp_seq<|AWp_sr hP<|RK.M rfl<|RK.V (op_neq rfl rfl) ?_
 refine RK.D ?_
 refine AWp_cond rfl (fun hb1 => ?_) (fun hb1 => ?_)
 ·have hb1_ := bneT hb1
  refine AWp_sr hP<|RK.M rfl<|RK.As rfl<|RK.As rfl<|RK.D<|AWp_ret ?_
  refine ends_two rfl (.inr rfl) (res_tmp rfl) (res_tmp rfl) ?_ O_ends
  exact (by rw [chE_e hb1_]; exact Sub.tup ⟨DSub.nil_sl, DSub.refl _, trivial⟩)
 ·have hb1_ := bneF hb1
  have he : szE d = 0 := hb1_
  obtain ⟨e1, e2, e3⟩ := gnV_0 he
  have cAs : Call0 Tryz.prog 72 [Z (gnV d)] (.p (.c (CS 191 193 (chs d)))) := by rw [e1]; exact g_assigned d e2 e3
  have hcl := chs_len e2 e3
  generalize hl : chs d = l at cAs hcl
  refine AWp_skip<|AWp_sr hP<|RK.As rfl<|RK.D<|AWp_nilV 6 1000 1 3 rfl rfl ?_
  refine AWp_seq<|AWp_sr hP<|RK.M rfl<|RK.V (Eff.call0 cAs) ?_
  refine RK.V (op_len hT rfl rfl rfl (by rfl)) ?_
  refine RK.M rfl<|RK.D<|AWp_block<|AWp_loop (ι := Nat) (fun k => stL [(6, .vec 1000), (18, .p (.c (CS 191 193 l))), (19, Z (l.length : Int)), (20, Z (k : Int))] [(1000, IB 3 (l.take k))]) (fun k => k ≤ l.length) (fun k => l.length - k) 0 (Nat.zero_le _) (le_stL ⟨.refl _, .refl _, .refl _, .refl _, trivial⟩ ⟨rfl, trivial⟩) ?_
  intro k hk
  refine AWp_sr hP<|RK.V (op_lss rfl rfl)<|RK.D<|AWp_seq ?_
  refine AWp_cond rfl (fun hb2 => ?_) (fun hb2 => ?_)
  ·have hb2_ := of_decide_eq_true hb2
   refine AWp_skip<|AWp_seq<|AWp_block<|AWp_sr hP<|RK.V (op_indexC (fo := 191) (fs := 193) (n := (k : Int)) hT rfl rfl rfl rfl rfl rfl (by omega)) ?_
   refine RK.V (op_load_ip_agg hT rfl rfl rfl (cs := chC 191 193 (l.getD k 0)) rfl rfl) ?_
   refine RK.alc guard_none (op_alloc hT rfl rfl)<|RK.S hT rfl rfl rfl rfl rfl rfl rfl<|RK.D<|AWp_region hP<|RK.V (op_move (rfl : _ = AV.vec _))<|RK.F hT rfl rfl rfl rfl rfl rfl<|RK.V (op_load_one hT rfl rfl rfl rfl (by first | rfl | exact vget (by omega))) ?_
   refine RK.V (op_bslice hT rfl rfl rfl (es := [_]) rfl rfl rfl) ?_
   refine RK.app guard_none (op_appendI (z := l.getD k 0) hT rfl rfl rfl rfl rfl rfl rfl rfl (by rw [List.length_take]; omega) (by decide)) ?_
   refine RK.V (op_assign (rfl : _ = AV.vec _))<|RK.D<|AWp_rn 28 1000 rfl rfl rfl ?_
   refine AWp_region hP<|RK.V (op_add rfl rfl (by first | exact IntWalk.i64_in _ (by omega) | rfl)) ?_
   refine RK.M rfl<|RK.D ?_
   refine ⟨k + 1, by omega, by omega, le_stL ⟨.refl _, .refl _, .refl _, Sub.int (by omega), trivial⟩ ⟨Eq.trans rfl (congrArg (fun x => some (IB 3 x)) (take_snoc hb2_)), trivial⟩⟩
  ·have hb2_ := of_decide_eq_false hb2
   refine AWp_exit<|AWp_freezeI (t := 6) rfl rfl ?_
   refine AWp_sr hP<|RK.M rfl<|RK.As rfl<|RK.As rfl<|RK.D<|AWp_ret ?_
   refine ends_two rfl (.inr rfl) (res_tmp rfl) (res_tmp rfl) ?_ O_ends
   exact Sub.of_eq (by rw [take_all hb2_, he, chE_0 he, hl])
theorem g_Genera (d : Int) (hd : L 40 d) :
  Call0 Tryz.prog 21 [I d] (.t [PE (gnN d), PE (szE d)]) := by
 have id0 : LB d 40 := ⟨hd⟩
 refine callM_of (np := 0) Tryz.func21 (by kernel_rfl) rfl rfl (Nat.le_of_ble_eq_true rfl) (fun m h => absurd rfl h) (fun m h => absurd rfl h) rfl ?_
 refine AWp_sr hP<|RK.alc guard_none (op_box rfl rfl)<|RK.As rfl<|RK.As rfl<|RK.D<|AWp_sr hP<|RK.G2 hT rfl rfl rfl rfl rfl rfl<|RK.V (Eff.call0 (g_Characters _ hd)) ?_
 refine RK.V (op_move (rfl : _ = AV.t _))<|RK.V (op_extract rfl (v := .c _) rfl)<|RK.V (op_extract rfl (v := .c _) rfl)<|RK.As rfl<|RK.As rfl<|RK.D<|AWp_seq<|AWp_sr hP<|RK.M rfl<|RK.V (op_neq rfl rfl) ?_
 refine RK.D ?_
 refine AWp_cond rfl (fun hb1 => ?_) (fun hb1 => ?_)
 ·have hb1_ := bneT hb1
  refine AWp_sr hP<|RK.M rfl<|RK.As rfl<|RK.As rfl<|RK.D<|AWp_ret ?_
  refine ends_two rfl (.inr rfl) (res_tmp rfl) (res_tmp rfl) ?_ O_ends
  exact Sub.of_eq (gnN_e hb1_)
 ·have hb1_ := bneF hb1
  have he : szE d = 0 := hb1_
  obtain ⟨e1, e2, e3⟩ := gnV_0 he
  have hcl := chs_len e2 e3
  have hch := chE_0 he
  have hce : (chE d).length ≤ 16 := by rw [hch]; exact hcl
  have hsh := shl_1 hce
  refine AWp_skip<|AWp_sr hP<|RK.M rfl<|RK.V (op_len hT rfl rfl rfl (by rfl)) ?_
  refine RK.V (op_sub rfl rfl (by first | exact IntWalk.i64_in _ (by omega) | rfl)) ?_
  refine RK.V (op_max rfl rfl) ?_
  refine RK.V (op_shl rfl rfl (by split <;> omega) hsh) ?_
  refine RK.As rfl<|RK.As rfl<|RK.D<|AWp_ret ?_
  refine ends_two rfl (.inr rfl) (res_tmp rfl) (res_tmp rfl) ?_ O_ends
  exact Sub.of_eq (by rw [hch]; exact gnN_0 he)
end Go.Proofs.YtpaifigafaijpaaGreatDoor
end
section
namespace Go.Proofs.YtpaifigafaijpaaGreatDoor
open Go Go.AM
theorem g_gcd (a b : Int) (ha : InI64 a) (hb : InI64 b) :
  Call0 Tryz.prog 78 [Z a, Z b] (Z (gg a b)) := by
 refine callM_of (np := 0) Tryz.func78 (by kernel_rfl) rfl rfl (Nat.le_of_ble_eq_true rfl) (fun m h => absurd rfl h) (fun m h => absurd rfl h) rfl ?_
 refine AWp_sr hP<|RK.As rfl<|RK.D<|AWp_seq<|AWp_block<|AWp_loop (ι := Int × Int) (fun p => stL [(0, Z p.1), (1, Z p.2)] []) (fun p => gg p.1 p.2 = gg a b ∧ InI64 p.1 ∧ InI64 p.2) (fun p => p.2.natAbs) (a, b) ⟨rfl, ha, hb⟩ (le_stL ⟨.refl _, .refl _, trivial⟩ trivial) ?_
 rintro p ⟨hG, hp1, hp2⟩
 refine AWp_seq<|AWp_sr hP<|RK.M rfl<|RK.V (op_neq rfl rfl) ?_
 refine RK.D ?_
 refine AWp_cond rfl (fun hb1 => ?_) (fun hb1 => ?_)
 ·have hb1_ := bneT hb1
  refine AWp_skip<|AWp_block<|AWp_region hP<|RK.M rfl<|RK.M rfl<|RK.M rfl<|RK.V (op_rem rfl rfl hb1_ (c := p.1.tmod p.2) rfl) ?_
  refine RK.As rfl<|RK.As rfl<|RK.D ?_
  have ht := tmod_I hp1 hp2 hb1_
  refine ⟨(p.2, p.1.tmod p.2), ⟨(gg_step hb1_).trans hG, hp2, ht.1⟩, ht.2, le_stL ⟨.refl _, .refl _, trivial⟩ trivial⟩
 ·have hb1_ := bneF hb1
  refine AWp_exit<|AWp_sr hP<|RK.M rfl<|RK.As rfl<|RK.D<|AWp_ret ?_
  refine ends_one rfl (.inr rfl) (res_tmp rfl) ?_ O_ends
  exact Sub.int (by rw [← hG, gg_z hb1_])
theorem g_abs (x : Int) (h : -9223372036854775808 < x ∧ x ≤ 9223372036854775807) :
  Call0 Tryz.prog 89 [Z x] (Z (x.natAbs : Int)) := by
 refine callM_of (np := 0) Tryz.func89 (by kernel_rfl) rfl rfl (Nat.le_of_ble_eq_true rfl) (fun m h => absurd rfl h) (fun m h => absurd rfl h) rfl ?_
 refine AWp_sr hP<|RK.As rfl<|RK.D<|AWp_sr hP<|RK.M rfl<|RK.M rfl<|RK.V (op_uneg rfl (by first | exact IntWalk.i64_in _ (by omega) | rfl)) ?_
 refine RK.V (op_max rfl rfl) ?_
 refine RK.As rfl<|RK.D<|AWp_ret ?_
 refine ends_one rfl (.inr rfl) (res_tmp rfl) ?_ O_ends
 exact Sub.int (by split <;> omega)
theorem g_primitive (f : Fm) (hfa : L 6 f.a) (hfb : L 6 f.b) (hfc : L 6 f.c) :
  Call0 Tryz.prog 87 [FA f.a f.b f.c] (.t [PE (gpV f), PE (gpE f)]) := by
 have ifa : LB f.a 6 := ⟨hfa⟩
 have ifb : LB f.b 6 := ⟨hfb⟩
 have ifc : LB f.c 6 := ⟨hfc⟩
 refine callM_of (np := 0) Tryz.func87 (by kernel_rfl) rfl rfl (Nat.le_of_ble_eq_true rfl) (fun m h => absurd rfl h) (fun m h => absurd rfl h) rfl ?_
 refine AWp_sr hP<|RK.alc guard_none (op_box rfl rfl)<|RK.As rfl<|RK.As rfl<|RK.D<|AWp_seq<|AWp_sr hP<|RK.G6 hT rfl rfl rfl rfl rfl rfl<|RK.V (Eff.call0 (q_Check f.a f.b f.c lz lz lz)) ?_
 refine RK.As rfl<|RK.D<|AWp_sr hP<|RK.M rfl<|RK.V (op_neq rfl rfl) ?_
 refine RK.D ?_
 refine AWp_cond rfl (fun hb1 => ?_) (fun hb1 => ?_)
 ·have hb1_ := bneT hb1
  refine AWp_sr hP<|RK.M rfl<|RK.As rfl<|RK.As rfl<|RK.D<|AWp_ret ?_
  refine ends_two rfl (.inr rfl) (res_tmp rfl) (res_tmp rfl) ?_ O_ends
  exact Sub.of_eq (gp_1 hb1_)
 ·have hb1_ := bneF hb1
  refine AWp_skip<|AWp_sr hP<|RK.G6 hT rfl rfl rfl rfl rfl rfl<|RK.V (Eff.call0 (q_Disc f.a f.b f.c lz lz lz)) ?_
  refine RK.V (Eff.call0 (g_right _ lz)) ?_
  refine RK.V (op_move (rfl : _ = AV.t _))<|RK.V (op_extract rfl (v := .c _) rfl)<|RK.V (op_extract rfl (v := .c _) rfl)<|RK.As rfl<|RK.As rfl<|RK.D<|AWp_seq<|AWp_sr hP<|RK.M rfl<|RK.V (op_eql rfl rfl) ?_
  refine RK.M rfl ?_
  refine RK.split (t := 20) rfl (fun hg2 => ?_) (fun hg2 => ?_)
  ·have hg2_ := bT hg2
   refine RK.val (guard_yes rfl rfl hg2) (op_load_agg hT rfl rfl rfl rfl (cs := [_, _, _, _, _, _]) rfl rfl) ?_
   refine RK.val (guard_yes rfl rfl hg2) (Eff.call0 (q_Primitive f.a f.b f.c lz lz lz)) ?_
   refine RK.val (guard_yes rfl rfl hg2) (op_unot rfl) ?_
   refine RK.V (op_pick_t rfl hg2 (rfl : _ = AV.p (.c _))) ?_
   refine RK.D ?_
   refine AWp_cond rfl (fun hb3 => ?_) (fun hb3 => ?_)
   ·have hb3_ := (notT hb3)
    refine AWp_sr hP<|RK.As rfl<|RK.As rfl<|RK.D<|AWp_ret ?_
    refine ends_two rfl (.inr rfl) (res_tmp rfl) (res_tmp rfl) ?_ O_ends
    exact Sub.of_eq (gp_2 hb1_ hg2_ hb3_)
   ·have hb3_ := (notF hb3)
    refine AWp_skip<|AWp_sr hP<|RK.M rfl<|RK.M rfl<|RK.As rfl<|RK.As rfl<|RK.D<|AWp_ret ?_
    refine ends_two rfl (.inr rfl) (res_tmp rfl) (res_tmp rfl) ?_ O_ends
    exact Sub.of_eq (gp_3 hb1_ hg2_ hb3_)
  ·have hg2_ := bF hg2
   refine RK.skip (guard_no rfl rfl hg2) ?_
   refine RK.skip (guard_no rfl rfl hg2) ?_
   refine RK.skip (guard_no rfl rfl hg2) ?_
   refine RK.V (op_pick_f rfl hg2 (rfl : _ = AV.p (.c _))) ?_
   refine RK.D<|AWp_cond_false rfl rfl ?_
   refine AWp_skip<|AWp_sr hP<|RK.M rfl<|RK.M rfl<|RK.As rfl<|RK.As rfl<|RK.D<|AWp_ret ?_
   refine ends_two rfl (.inr rfl) (res_tmp rfl) (res_tmp rfl) ?_ O_ends
   exact Sub.of_eq (gp_4 hb1_ hg2_)
theorem g_small (f : Fm) (d : Int) (hf : Cl d f) (hd : -4194304 ≤ d) (hfa : L 6 f.a) (hfb : L 6 f.b) (hfc : L 6 f.c) :
  Call0 Tryz.prog 88 [FA f.a f.b f.c] (.t [PE f.rd.a, PE f.rd.b, PE f.rd.c]) := by
 have ifa : LB f.a 6 := ⟨hfa⟩
 have ifb : LB f.b 6 := ⟨hfb⟩
 have ifc : LB f.c 6 := ⟨hfc⟩
 have cR : Call0 Tryz.prog 35 [FA f.a f.b f.c] (.t [PF f.rd, PM (rdM f.a f.b f.c), PE (rdE f.a f.b f.c)]) := q_Reduce f.a f.b f.c lz lz lz
 rw [pos_rdE hf.pos] at cR
 obtain ⟨⟨s1, s2⟩, ⟨s3, s4⟩, s5, s6⟩ := rd_small hf.rd hf.rd_rd hd
 generalize rdM f.a f.b f.c = M at cR
 generalize f.rd = g at *
 have l1 := int_Low g.a (by omega) (by omega)
 have l2 := int_Low g.b (by omega) (by omega)
 have l3 := int_Low g.c (by omega) (by omega)
 refine callM_of (np := 0) Tryz.func88 (by kernel_rfl) rfl rfl (Nat.le_of_ble_eq_true rfl) (fun m h => absurd rfl h) (fun m h => absurd rfl h) rfl ?_
 refine AWp_sr hP<|RK.alc guard_none (op_box rfl rfl)<|RK.As rfl<|RK.As rfl<|RK.As rfl<|RK.D<|AWp_sr hP<|RK.G6 hT rfl rfl rfl rfl rfl rfl<|RK.V (Eff.call0 cR) ?_
 refine RK.V (op_move (rfl : _ = AV.t _))<|RK.V (op_extract rfl (v := .a _) rfl)<|RK.V (op_extract rfl (v := .a _) rfl)<|RK.V (op_extract rfl (v := .c _) rfl)<|RK.alc guard_none (op_alloc hT rfl rfl)<|RK.alc guard_none (op_alloc hT rfl rfl)<|RK.S hT rfl rfl rfl rfl rfl rfl rfl<|RK.S hT rfl rfl rfl rfl rfl rfl rfl<|RK.As rfl<|RK.D<|AWp_sr hP<|RK.F hT rfl rfl rfl rfl rfl rfl<|RK.G2 hT rfl rfl rfl rfl rfl rfl<|RK.V (Eff.call0 l1) ?_
 refine RK.V (op_move (rfl : _ = AV.t _))<|RK.V (op_extract rfl (v := .c _) rfl)<|RK.V (op_extract rfl (v := .c _) rfl)<|RK.As rfl<|RK.D<|AWp_sr hP<|RK.F hT rfl rfl rfl rfl rfl rfl<|RK.G2 hT rfl rfl rfl rfl rfl rfl<|RK.V (Eff.call0 l2) ?_
 refine RK.V (op_move (rfl : _ = AV.t _))<|RK.V (op_extract rfl (v := .c _) rfl)<|RK.V (op_extract rfl (v := .c _) rfl)<|RK.As rfl<|RK.D<|AWp_sr hP<|RK.F hT rfl rfl rfl rfl rfl rfl<|RK.G2 hT rfl rfl rfl rfl rfl rfl<|RK.V (Eff.call0 l3) ?_
 refine RK.V (op_move (rfl : _ = AV.t _))<|RK.V (op_extract rfl (v := .c _) rfl)<|RK.V (op_extract rfl (v := .c _) rfl)<|RK.As rfl<|RK.D<|AWp_sr hP<|RK.M rfl<|RK.M rfl<|RK.M rfl<|RK.As rfl<|RK.As rfl<|RK.As rfl<|RK.D<|AWp_ret ?_
 refine ends_three rfl (.inr rfl) (res_tmp rfl) (res_tmp rfl) (res_tmp rfl) ?_ O_ends
 exact .refl _
theorem g_Values (f : Fm) (hfa : L 6 f.a) (hfb : L 6 f.b) (hfc : L 6 f.c) (hx : gpE f = 0 → ∃ x y : Int, 0 ≤ x ∧ x ≤ 1400000 ∧ 0 ≤ y ∧ y ≤ 1400000 ∧ Int.gcd (vl f.rd.a f.rd.b f.rd.c x y) (2 * dsc f.a f.b f.c) = 1) :
  Call0 Tryz.prog 29 [FA f.a f.b f.c] (.t [.c (IS (gvL f)), PE (gpE f)]) := by
 have ifa : LB f.a 6 := ⟨hfa⟩
 have ifb : LB f.b 6 := ⟨hfb⟩
 have ifc : LB f.c 6 := ⟨hfc⟩
 have cP := g_primitive f hfa hfb hfc
 refine callM_of (np := 0) Tryz.func29 (by kernel_rfl) rfl rfl (Nat.le_of_ble_eq_true rfl) (fun m h => absurd rfl h) (fun m h => absurd rfl h) rfl ?_
 refine AWp_sr hP<|RK.alc guard_none (op_box rfl rfl)<|RK.As rfl<|RK.As rfl<|RK.D<|AWp_sr hP<|RK.G6 hT rfl rfl rfl rfl rfl rfl<|RK.V (Eff.call0 cP) ?_
 refine RK.V (op_move (rfl : _ = AV.t _))<|RK.V (op_extract rfl (v := .c _) rfl)<|RK.V (op_extract rfl (v := .c _) rfl)<|RK.As rfl<|RK.As rfl<|RK.D<|AWp_seq<|AWp_sr hP<|RK.M rfl<|RK.V (op_neq rfl rfl) ?_
 refine RK.D ?_
 refine AWp_cond rfl (fun hb1 => ?_) (fun hb1 => ?_)
 ·have hb1_ := bneT hb1
  refine AWp_sr hP<|RK.M rfl<|RK.As rfl<|RK.As rfl<|RK.D<|AWp_ret ?_
  refine ends_two rfl (.inr rfl) (res_tmp rfl) (res_tmp rfl) ?_ O_ends
  exact (by rw [gvL_e hb1_]; exact Sub.tup ⟨DSub.nil_sl, DSub.refl _, trivial⟩)
 ·have hb1_ := bneF hb1
  have he : gpE f = 0 := hb1_
  obtain ⟨hf, hE⟩ := gpE_cl he
  obtain ⟨hgn, hd0, hd1⟩ := gnV_0 hE
  have hxx := hx he
  have eV : gpV f = dsc f.a f.b f.c := by unfold gpV; rw [if_pos he]
  have cS := g_small f _ hf hd1 hfa hfb hfc
  have cA0 := g_assigned _ hd0 hd1
  have hmap := fun (N : Int) (h1 : RpN f.rd N) (h2 : Int.gcd N (2 * dsc f.a f.b f.c) = 1) => gv_map hf hd1 hd0 hE h1 h2
  have hcb := fun (c : Int) (h : c ∈ chs (dsc f.a f.b f.c)) => chs_b hd0 hd1 h
  have hcl := chs_len hd0 hd1
  obtain ⟨⟨s1, s2⟩, ⟨s3, s4⟩, s5, s6⟩ := rd_small hf.rd hf.rd_rd hd1
  have hg := hf.rd
  rw [eV]
  generalize dsc f.a f.b f.c = d at *
  generalize f.rd = g at *
  have j2 : InI64 (2 * d) := by unfold InI64; omega
  refine AWp_skip<|AWp_sr hP<|RK.G6 hT rfl rfl rfl rfl rfl rfl<|RK.V (Eff.call0 cS) ?_
  refine RK.V (op_move (rfl : _ = AV.t _))<|RK.V (op_extract rfl (v := .c _) rfl)<|RK.V (op_extract rfl (v := .c _) rfl)<|RK.V (op_extract rfl (v := .c _) rfl)<|RK.As rfl<|RK.As rfl<|RK.As rfl<|RK.D<|AWp_sr hP<|RK.M rfl<|RK.As rfl<|RK.D<|AWp_seq_cut (ι := Int) (fun N => stL [(4, Z d), (9, Z N)] []) (fun N => RpN g N ∧ (-9000000000000000000 ≤ N ∧ N ≤ 9000000000000000000) ∧ Int.gcd N (2 * d) = 1) ?_ ?_
  ·refine AWp_sr hP<|RK.As rfl<|RK.D<|AWp_block<|AWp_loop (ι := Int × Int) (fun q => stL [(4, Z d), (6, Z g.a), (7, Z g.b), (8, Z g.c), (9, Z q.1), (10, Z q.2)] []) (fun q => (RpN g q.1 ∧ (-9000000000000000000 ≤ q.1 ∧ q.1 ≤ 9000000000000000000) ∧ (1 ≤ q.2 ∧ q.2 ≤ 1400001) ∧ (Int.gcd q.1 (2 * d) = 1 ∨ NoP g d q.2))) (fun q => (1400001 - q.2).toNat) (g.a, 1) ⟨⟨1, 0, by unfold vl; simp⟩, by simp only; omega, by simp only; omega, .inr (NoP.start hd0)⟩ (le_stL ⟨.refl _, .refl _, .refl _, .refl _, .refl _, .refl _, trivial⟩ trivial) ?_
   rintro q ⟨hq1, hq2, hq3, hq4⟩
   have jn : InI64 q.1 := by unfold InI64; omega
   refine AWp_seq<|AWp_sr hP<|RK.M rfl<|RK.M rfl<|RK.V (op_mul rfl rfl (by first | exact IntWalk.i64_in _ (by omega) | rfl)) ?_
   refine RK.V (Eff.call0 (g_gcd _ _ jn j2)) ?_
   refine RK.V (op_neq rfl rfl) ?_
   refine RK.M rfl ?_
   refine RK.split (t := 35) rfl (fun hg2 => ?_) (fun hg2 => ?_)
   ·have hg2_ := bneT hg2
    refine RK.val (guard_yes rfl rfl hg2) (op_move (rfl : _ = AV.p (.c _))) ?_
    refine RK.val (guard_yes rfl rfl hg2) (op_move (rfl : _ = AV.p (.c _))) ?_
    refine RK.val (guard_yes rfl rfl hg2) (op_mul rfl rfl (by first | exact IntWalk.i64_in _ (by omega) | rfl)) ?_
    refine RK.val (guard_yes rfl rfl hg2) (Eff.call0 (g_gcd _ _ jn j2)) ?_
    refine RK.val (guard_yes rfl rfl hg2) (op_neq rfl rfl) ?_
    refine RK.V (op_pick_t rfl hg2 (rfl : _ = AV.p (.c _))) ?_
    refine RK.D ?_
    refine AWp_cond rfl (fun hb3 => ?_) (fun hb3 => ?_)
    ·have hb3_ := bneT hb3
     have hNP : NoP g d q.2 := hq4.resolve_left (fun e => (gg_one.1 e).elim hg2_ hb3_)
     have hle := hNP.le hxx
     refine AWp_skip<|AWp_seq_cut (ι := Int) (fun m => stL [(4, Z d), (6, Z g.a), (7, Z g.b), (8, Z g.c), (9, Z m), (10, Z q.2)] []) (fun m => (RpN g m ∧ (-9000000000000000000 ≤ m ∧ m ≤ 9000000000000000000) ∧ (Int.gcd m (2 * d) = 1 ∨ NoX g d q.2 (q.2 + 1)))) ?_ ?_
     ·refine AWp_block<|AWp_sr hP<|RK.As rfl<|RK.D<|AWp_block<|AWp_loop (ι := Int × Int) (fun r => stL [(4, Z d), (6, Z g.a), (7, Z g.b), (8, Z g.c), (9, Z r.2), (10, Z q.2), (11, Z r.1)] []) (fun r => (0 ≤ r.1 ∧ r.1 ≤ q.2 + 1) ∧ RpN g r.2 ∧ (-9000000000000000000 ≤ r.2 ∧ r.2 ≤ 9000000000000000000) ∧ NoX g d q.2 r.1) (fun r => (q.2 + 1 - r.1).toNat) (0, q.1) ⟨by simp only; omega, hq1, hq2, NoX.start⟩ (le_stL ⟨.refl _, .refl _, .refl _, .refl _, .refl _, .refl _, .refl _, trivial⟩ trivial) ?_
      rintro r ⟨hr1, hr2, hr3, hr4⟩
      refine AWp_seq<|AWp_sr hP<|RK.M rfl<|RK.M rfl<|RK.V (op_leq rfl rfl) ?_
      refine RK.D ?_
      refine AWp_cond rfl (fun hb4 => ?_) (fun hb4 => ?_)
      ·have hb4_ := of_decide_eq_true hb4
       have hG := gb (a := g.a) (b := g.b) (c := g.c) (x := r.1) (y := q.2) (by omega) (by omega) (by omega) (by omega) (by omega)
       have hH := gb (a := g.a) (b := g.b) (c := g.c) (x := q.2) (y := r.1) (by omega) (by omega) (by omega) (by omega) (by omega)
       have ev1 : g.a * r.1 * r.1 + g.b * r.1 * q.2 + g.c * q.2 * q.2 = (vl g.a g.b g.c r.1 q.2) := rfl
       have ev2 : g.a * q.2 * q.2 + g.b * r.1 * q.2 + g.c * r.1 * r.1 = (vl g.a g.b g.c q.2 r.1) := vl_sw g.a g.b g.c r.1 q.2
       have jv1 : InI64 (g.a * r.1 * r.1 + g.b * r.1 * q.2 + g.c * q.2 * q.2) := by unfold InI64; omega
       have jv2 : InI64 (g.a * q.2 * q.2 + g.b * r.1 * q.2 + g.c * r.1 * r.1) := by unfold InI64; omega
       have hv1b : -9000000000000000000 ≤ (vl g.a g.b g.c r.1 q.2) ∧ (vl g.a g.b g.c r.1 q.2) ≤ 9000000000000000000 := by rw [← ev1]; omega
       have hv2b : -9000000000000000000 ≤ (vl g.a g.b g.c q.2 r.1) ∧ (vl g.a g.b g.c q.2 r.1) ≤ 9000000000000000000 := by rw [← ev2]; omega
       have hab1 := gg_b (n := g.a * r.1 * r.1 + g.b * r.1 * q.2 + g.c * q.2 * q.2) hd0 hd1
       have hab2 := gg_b (n := g.a * q.2 * q.2 + g.b * r.1 * q.2 + g.c * r.1 * r.1) hd0 hd1
       refine AWp_skip<|AWp_seq<|AWp_block<|AWp_seq<|AWp_sr hP<|RK.M rfl<|RK.M rfl<|RK.V (op_mul rfl rfl (by first | exact IntWalk.i64_in _ (by omega) | rfl)) ?_
       refine RK.M rfl<|RK.V (op_mul rfl rfl (by first | exact IntWalk.i64_in _ (by omega) | rfl)) ?_
       refine RK.M rfl<|RK.M rfl<|RK.V (op_mul rfl rfl (by first | exact IntWalk.i64_in _ (by omega) | rfl)) ?_
       refine RK.M rfl<|RK.V (op_mul rfl rfl (by first | exact IntWalk.i64_in _ (by omega) | rfl)) ?_
       refine RK.V (op_add rfl rfl (by first | exact IntWalk.i64_in _ (by omega) | rfl)) ?_
       refine RK.M rfl<|RK.M rfl<|RK.V (op_mul rfl rfl (by first | exact IntWalk.i64_in _ (by omega) | rfl)) ?_
       refine RK.M rfl<|RK.V (op_mul rfl rfl (by first | exact IntWalk.i64_in _ (by omega) | rfl)) ?_
       refine RK.V (op_add rfl rfl (by first | exact IntWalk.i64_in _ (by omega) | rfl)) ?_
       refine RK.As rfl<|RK.D<|AWp_sr hP<|RK.M rfl<|RK.M rfl<|RK.V (op_mul rfl rfl (by first | exact IntWalk.i64_in _ (by omega) | rfl)) ?_
       refine RK.V (Eff.call0 (g_gcd _ _ jv1 j2)) ?_
       refine RK.V (Eff.call0 (g_abs _ hab1)) ?_
       refine RK.V (op_eql rfl rfl) ?_
       refine RK.D ?_
       refine AWp_cond rfl (fun hb5 => ?_) (fun hb5 => ?_)
       ·have hb5_ := bT hb5
        refine AWp_exit ?_
        refine ⟨(vl g.a g.b g.c r.1 q.2), ⟨⟨r.1, q.2, rfl⟩, hv1b, .inl (gg1 (n := (vl g.a g.b g.c r.1 q.2)) hb5_)⟩, le_stL ⟨.refl _, .refl _, .refl _, .refl _, .refl _, .refl _, trivial⟩ trivial⟩
       ·have hb5_ := bF hb5
        refine AWp_skip<|AWp_sr hP<|RK.M rfl<|RK.M rfl<|RK.V (op_mul rfl rfl (by first | exact IntWalk.i64_in _ (by omega) | rfl)) ?_
        refine RK.M rfl<|RK.V (op_mul rfl rfl (by first | exact IntWalk.i64_in _ (by omega) | rfl)) ?_
        refine RK.M rfl<|RK.M rfl<|RK.V (op_mul rfl rfl (by first | exact IntWalk.i64_in _ (by omega) | rfl)) ?_
        refine RK.M rfl<|RK.V (op_mul rfl rfl (by first | exact IntWalk.i64_in _ (by omega) | rfl)) ?_
        refine RK.V (op_add rfl rfl (by first | exact IntWalk.i64_in _ (by omega) | rfl)) ?_
        refine RK.M rfl<|RK.M rfl<|RK.V (op_mul rfl rfl (by first | exact IntWalk.i64_in _ (by omega) | rfl)) ?_
        refine RK.M rfl<|RK.V (op_mul rfl rfl (by first | exact IntWalk.i64_in _ (by omega) | rfl)) ?_
        refine RK.V (op_add rfl rfl (by first | exact IntWalk.i64_in _ (by omega) | rfl)) ?_
        refine RK.As rfl<|RK.D<|AWp_sr hP<|RK.M rfl<|RK.M rfl<|RK.V (op_mul rfl rfl (by first | exact IntWalk.i64_in _ (by omega) | rfl)) ?_
        refine RK.V (Eff.call0 (g_gcd _ _ jv2 j2)) ?_
        refine RK.V (Eff.call0 (g_abs _ hab2)) ?_
        refine RK.V (op_eql rfl rfl) ?_
        refine RK.D ?_
        refine AWp_cond rfl (fun hb6 => ?_) (fun hb6 => ?_)
        ·have hb6_ := bT hb6
         refine AWp_exit ?_
         refine ⟨(vl g.a g.b g.c q.2 r.1), ⟨⟨q.2, r.1, rfl⟩, hv2b, .inl (by rw [← ev2]; exact gg1 hb6_)⟩, le_stL ⟨.refl _, .refl _, .refl _, .refl _, Sub.int ev2, .refl _, trivial⟩ trivial⟩
        ·have hb6_ := bF hb6
         refine AWp_skip<|AWp_region hP<|RK.M rfl<|RK.V (op_add rfl rfl (by first | exact IntWalk.i64_in _ (by omega) | rfl)) ?_
         refine RK.As rfl<|RK.D ?_
         refine ⟨(r.1 + 1, (vl g.a g.b g.c q.2 r.1)), ⟨by simp only; omega, ⟨q.2, r.1, rfl⟩, hv2b, hr4.next (gg1n (n := (vl g.a g.b g.c r.1 q.2)) hb5_) (by rw [← ev2]; exact gg1n hb6_)⟩, by simp only; omega, le_stL ⟨.refl _, .refl _, .refl _, .refl _, Sub.int ev2, .refl _, .refl _, trivial⟩ trivial⟩
      ·have hb4_ := of_decide_eq_false hb4
       refine AWp_exit ?_
       refine ⟨r.2, ⟨hr2, hr3, .inr ((show r.1 = q.2 + 1 by omega) ▸ hr4)⟩, le_stL ⟨.refl _, .refl _, .refl _, .refl _, .refl _, .refl _, trivial⟩ trivial⟩
     rintro m ⟨hm1, hm2, hm3⟩
     refine AWp_region hP<|RK.M rfl<|RK.V (op_add rfl rfl (by first | exact IntWalk.i64_in _ (by omega) | rfl)) ?_
     refine RK.As rfl<|RK.D ?_
     refine ⟨(m, q.2 + 1), ⟨hm1, hm2, by simp only; omega, hm3.imp id (fun h => hNP.next h)⟩, by simp only; omega, le_stL ⟨.refl _, .refl _, .refl _, .refl _, .refl _, .refl _, trivial⟩ trivial⟩
    ·have hb3_ := bneF hb3
     refine AWp_exit ?_
     refine ⟨q.1, ⟨hq1, hq2, gg_one.2 (.inr hb3_)⟩, le_stL ⟨.refl _, .refl _, trivial⟩ trivial⟩
   ·have hg2_ := bneF hg2
    refine RK.skip (guard_no rfl rfl hg2) ?_
    refine RK.skip (guard_no rfl rfl hg2) ?_
    refine RK.skip (guard_no rfl rfl hg2) ?_
    refine RK.skip (guard_no rfl rfl hg2) ?_
    refine RK.skip (guard_no rfl rfl hg2) ?_
    refine RK.V (op_pick_f rfl hg2 (rfl : _ = AV.p (.c _))) ?_
    refine RK.D<|AWp_cond_false rfl rfl ?_
    refine AWp_exit ?_
    refine ⟨q.1, ⟨hq1, hq2, gg_one.2 (.inl hg2_)⟩, le_stL ⟨.refl _, .refl _, trivial⟩ trivial⟩
  rintro N ⟨hN1, hN2, hN3⟩
  have hN0 := rp_nn hg hN1 hd0
  have jN : InI64 N := by unfold InI64; omega
  have hfin := hmap N hN1 hN3
  have cAs := cA0
  generalize chs d = l at cAs hcl hcb hfin
  refine AWp_sr hP<|RK.As rfl<|RK.D<|AWp_nilV 12 1000 1 3 rfl rfl ?_
  refine AWp_seq<|AWp_sr hP<|RK.M rfl<|RK.V (Eff.call0 cAs) ?_
  refine RK.V (op_len hT rfl rfl rfl (by rfl)) ?_
  refine RK.M rfl<|RK.D<|AWp_block<|AWp_loop (ι := Nat) (fun k => stL [(9, Z N), (12, .vec 1000), (96, .p (.c (CS 191 193 l))), (97, Z (l.length : Int)), (98, Z (k : Int))] [(1000, IB 3 ((l.take k).map fun c => cv c N))]) (fun k => k ≤ l.length) (fun k => l.length - k) 0 (Nat.zero_le _) (le_stL ⟨.refl _, .refl _, .refl _, .refl _, .refl _, trivial⟩ ⟨rfl, trivial⟩) ?_
  intro k hk
  refine AWp_sr hP<|RK.V (op_lss rfl rfl)<|RK.D<|AWp_seq ?_
  refine AWp_cond rfl (fun hb7 => ?_) (fun hb7 => ?_)
  ·have hb7_ := of_decide_eq_true hb7
   have hmm := hcb _ (getD_memI hb7_)
   have jc : InI64 (l.getD k 0) := by unfold InI64; omega
   refine AWp_skip<|AWp_seq<|AWp_block<|AWp_sr hP<|RK.V (op_indexC (fo := 191) (fs := 193) (n := (k : Int)) hT rfl rfl rfl rfl rfl rfl (by omega)) ?_
   refine RK.V (op_load_ip_agg hT rfl rfl rfl (cs := chC 191 193 (l.getD k 0)) rfl rfl) ?_
   refine RK.alc guard_none (op_alloc hT rfl rfl)<|RK.S hT rfl rfl rfl rfl rfl rfl rfl<|RK.D<|AWp_region hP<|RK.V (op_move (rfl : _ = AV.vec _))<|RK.F hT rfl rfl rfl rfl rfl rfl<|RK.V (op_load_one hT rfl rfl rfl rfl (by first | rfl | exact vget (by omega))) ?_
   refine RK.M rfl<|RK.V (Eff.callCh rfl rfl (g_special1 N _ hN0 (by unfold spR; split <;> (try split) <;> decide)) (g_odd1 N (l.getD k 0) jN jc)) ?_
   refine RK.V (op_bslice hT rfl rfl rfl (es := [_]) rfl rfl rfl) ?_
   refine RK.app guard_none (op_appendI (z := cv (l.getD k 0) N) hT rfl rfl rfl rfl rfl rfl rfl rfl (by rw [List.length_map, List.length_take]; omega) (by decide)) ?_
   refine RK.V (op_assign (rfl : _ = AV.vec _))<|RK.D<|AWp_rn 108 1000 rfl rfl rfl ?_
   refine AWp_region hP<|RK.V (op_add rfl rfl (by first | exact IntWalk.i64_in _ (by omega) | rfl)) ?_
   refine RK.M rfl<|RK.D ?_
   refine ⟨k + 1, by omega, by omega, le_stL ⟨.refl _, .refl _, .refl _, .refl _, Sub.int (by omega), trivial⟩ ⟨Eq.trans rfl (congrArg (fun x => some (IB 3 x)) (map_snoc hb7_)), trivial⟩⟩
  ·have hb7_ := of_decide_eq_false hb7
   refine AWp_exit<|AWp_freezeI (t := 12) rfl rfl ?_
   refine AWp_sr hP<|RK.M rfl<|RK.As rfl<|RK.As rfl<|RK.D<|AWp_ret ?_
   refine ends_two rfl (.inr rfl) (res_tmp rfl) (res_tmp rfl) ?_ O_ends
   exact Sub.of_eq (by rw [take_all hb7_, hfin, he])
end Go.Proofs.YtpaifigafaijpaaGreatDoor
end
section
namespace Go.Proofs.YtpaifigafaijpaaGreatDoor
open Go Go.AM
theorem sl_EqualI (l m : List Int) (hl : (l.length : Int) ≤ 1000000) :
  Call0 Tryz.prog 95 [.p (.c (IS l)), .p (.c (IS m))] (B (decide (l = m))) := by
 refine callM_of (np := 0) Tryz.func95 (by kernel_rfl) rfl rfl (Nat.le_of_ble_eq_true rfl) (fun m h => absurd rfl h) (fun m h => absurd rfl h) rfl ?_
 refine AWp_sr hP<|RK.As rfl<|RK.D<|AWp_seq<|AWp_sr hP<|RK.M rfl<|RK.V (op_len hT rfl rfl rfl (by rfl)) ?_
 refine RK.M rfl<|RK.V (op_len hT rfl rfl rfl (by rfl)) ?_
 refine RK.V (op_neq rfl rfl) ?_
 refine RK.D ?_
 refine AWp_cond rfl (fun hb1 => ?_) (fun hb1 => ?_)
 ·have hb1_ := bneT hb1
  refine AWp_sr hP<|RK.As rfl<|RK.D<|AWp_ret ?_
  refine ends_one rfl (.inr rfl) (res_tmp rfl) ?_ O_ends
  exact Sub.bool (EqI.ln hb1_)
 ·have hb1_ := bneF hb1
  refine AWp_skip<|AWp_seq<|AWp_sr hP<|RK.M rfl<|RK.V (op_len hT rfl rfl rfl (by rfl)) ?_
  refine RK.M rfl<|RK.D<|AWp_block<|AWp_loop (ι := Nat) (fun k => stL [(0, .p (.c (IS l))), (1, .p (.c (IS m))), (12, Z (l.length : Int)), (13, Z (k : Int))] []) (fun k => EqI l m k) (fun k => l.length - k) 0 EqI.start (le_stL ⟨.refl _, .refl _, .refl _, .refl _, trivial⟩ trivial) ?_
  intro k i
  have ik := i.le
  refine AWp_sr hP<|RK.V (op_lss rfl rfl)<|RK.D<|AWp_seq ?_
  refine AWp_cond rfl (fun hb2 => ?_) (fun hb2 => ?_)
  ·have hb2_ := of_decide_eq_true hb2
   refine AWp_skip<|AWp_seq<|AWp_block<|AWp_sr hP<|RK.M rfl<|RK.As rfl<|RK.D<|AWp_sr hP<|RK.M rfl<|RK.M rfl<|RK.V (op_indexI hT (n := (k : Int)) rfl rfl rfl rfl rfl rfl (by omega)) ?_
   refine RK.V (op_load_ip_one hT rfl rfl rfl rfl) ?_
   refine RK.M rfl<|RK.M rfl<|RK.V (op_indexI hT (n := (k : Int)) rfl rfl rfl rfl rfl rfl (by omega)) ?_
   refine RK.V (op_load_ip_one hT rfl rfl rfl rfl) ?_
   refine RK.V (op_neq rfl rfl) ?_
   refine RK.D ?_
   refine AWp_cond rfl (fun hb3 => ?_) (fun hb3 => ?_)
   ·have hb3_ := bneT hb3
    refine AWp_sr hP<|RK.As rfl<|RK.D<|AWp_ret ?_
    refine ends_one rfl (.inr rfl) (res_tmp rfl) ?_ O_ends
    exact Sub.bool (EqI.no hb3_)
   ·have hb3_ := bneF hb3
    refine AWp_skip<|AWp_region hP<|RK.V (op_add rfl rfl (by first | exact IntWalk.i64_in _ (by omega) | rfl)) ?_
    refine RK.M rfl<|RK.D ?_
    refine ⟨k + 1, i.next hb2_ hb3_, by omega, le_stL ⟨.refl _, .refl _, .refl _, Sub.int (by omega), trivial⟩ trivial⟩
  ·have hb2_ := of_decide_eq_false hb2
   refine AWp_exit<|AWp_sr hP<|RK.As rfl<|RK.D<|AWp_ret ?_
   refine ends_one rfl (.inr rfl) (res_tmp rfl) ?_ O_ends
   exact Sub.bool (i.yes hb1_ hb2_)
theorem r10_SameList (l m : List Int) (hl : (l.length : Int) ≤ 1000000) :
  Call0 Tryz.prog 25 [.p (.c (IS l)), .p (.c (IS m))] (B (decide (l = m))) := by
 refine callM_of (np := 0) Tryz.func25 (by kernel_rfl) rfl rfl (Nat.le_of_ble_eq_true rfl) (fun m h => absurd rfl h) (fun m h => absurd rfl h) rfl ?_
 refine AWp_sr hP<|RK.As rfl<|RK.D<|AWp_seq<|AWp_sr hP<|RK.M rfl<|RK.V (op_len hT rfl rfl rfl (by rfl)) ?_
 refine RK.M rfl<|RK.V (op_len hT rfl rfl rfl (by rfl)) ?_
 refine RK.V (op_neq rfl rfl) ?_
 refine RK.D ?_
 refine AWp_cond rfl (fun hb1 => ?_) (fun hb1 => ?_)
 ·have hb1_ := bneT hb1
  refine AWp_sr hP<|RK.As rfl<|RK.D<|AWp_ret ?_
  refine ends_one rfl (.inr rfl) (res_tmp rfl) ?_ O_ends
  exact Sub.bool (EqI.ln hb1_)
 ·have hb1_ := bneF hb1
  refine AWp_skip<|AWp_seq<|AWp_sr hP<|RK.As rfl<|RK.D<|AWp_block<|AWp_loop (ι := Nat) (fun k => stL [(0, .p (.c (IS l))), (1, .p (.c (IS m))), (5, Z (k : Int))] []) (fun k => EqI l m k) (fun k => l.length - k) 0 EqI.start (le_stL ⟨.refl _, .refl _, .refl _, trivial⟩ trivial) ?_
  intro k i
  have ik := i.le
  refine AWp_seq<|AWp_sr hP<|RK.M rfl<|RK.M rfl<|RK.V (op_len hT rfl rfl rfl (by rfl)) ?_
  refine RK.V (op_lss rfl rfl)<|RK.D ?_
  refine AWp_cond rfl (fun hb2 => ?_) (fun hb2 => ?_)
  ·have hb2_ := of_decide_eq_true hb2
   refine AWp_skip<|AWp_seq<|AWp_block<|AWp_sr hP<|RK.M rfl<|RK.M rfl<|RK.V (op_indexI hT (n := (k : Int)) rfl rfl rfl rfl rfl rfl (by omega)) ?_
   refine RK.V (op_load_ip_one hT rfl rfl rfl rfl) ?_
   refine RK.M rfl<|RK.M rfl<|RK.V (op_indexI hT (n := (k : Int)) rfl rfl rfl rfl rfl rfl (by omega)) ?_
   refine RK.V (op_load_ip_one hT rfl rfl rfl rfl) ?_
   refine RK.V (op_neq rfl rfl) ?_
   refine RK.D ?_
   refine AWp_cond rfl (fun hb3 => ?_) (fun hb3 => ?_)
   ·have hb3_ := bneT hb3
    refine AWp_sr hP<|RK.As rfl<|RK.D<|AWp_ret ?_
    refine ends_one rfl (.inr rfl) (res_tmp rfl) ?_ O_ends
    exact Sub.bool (EqI.no hb3_)
   ·have hb3_ := bneF hb3
    refine AWp_skip<|AWp_region hP<|RK.M rfl<|RK.V (op_add rfl rfl (by first | exact IntWalk.i64_in _ (by omega) | rfl)) ?_
    refine RK.As rfl<|RK.D ?_
    refine ⟨k + 1, i.next hb2_ hb3_, by omega, le_stL ⟨.refl _, .refl _, Sub.int (by omega), trivial⟩ trivial⟩
  ·have hb2_ := of_decide_eq_false hb2
   refine AWp_exit<|AWp_sr hP<|RK.As rfl<|RK.D<|AWp_ret ?_
   refine ends_one rfl (.inr rfl) (res_tmp rfl) ?_ O_ends
   exact Sub.bool (i.yes hb1_ hb2_)
theorem g_Principal (f : Fm) (hfa : L 6 f.a) (hfb : L 6 f.b) (hfc : L 6 f.c) (hfx : gpE f = 0 → ∃ x y : Int, 0 ≤ x ∧ x ≤ 1400000 ∧ 0 ≤ y ∧ y ≤ 1400000 ∧ Int.gcd (vl f.rd.a f.rd.b f.rd.c x y) (2 * dsc f.a f.b f.c) = 1) :
  Call0 Tryz.prog 31 [FA f.a f.b f.c] (.t [PB (gpr f), PE (gpE f)]) := by
 have ifa : LB f.a 6 := ⟨hfa⟩
 have ifb : LB f.b 6 := ⟨hfb⟩
 have ifc : LB f.c 6 := ⟨hfc⟩
 have hvl := gvL_len f
 refine callM_of (np := 0) Tryz.func31 (by kernel_rfl) rfl rfl (Nat.le_of_ble_eq_true rfl) (fun m h => absurd rfl h) (fun m h => absurd rfl h) rfl ?_
 refine AWp_sr hP<|RK.alc guard_none (op_box rfl rfl)<|RK.As rfl<|RK.As rfl<|RK.D<|AWp_sr hP<|RK.G6 hT rfl rfl rfl rfl rfl rfl<|RK.V (Eff.call0 (g_Values f hfa hfb hfc hfx)) ?_
 refine RK.V (op_move (rfl : _ = AV.t _))<|RK.V (op_extract rfl (v := .c _) rfl)<|RK.V (op_extract rfl (v := .c _) rfl)<|RK.As rfl<|RK.As rfl<|RK.D<|AWp_sr hP<|RK.M rfl<|RK.V (op_eql rfl rfl) ?_
 refine RK.M rfl ?_
 refine RK.split (t := 13) rfl (fun hg1 => ?_) (fun hg1 => ?_)
 ·have hg1_ := bT hg1
  refine RK.val (guard_yes rfl rfl hg1) (op_move (rfl : _ = AV.p (.c _))) ?_
  refine RK.val (guard_yes rfl rfl hg1) (Eff.call0 (sl_ContainsI (gvL f) (-1) hvl)) ?_
  refine RK.val (guard_yes rfl rfl hg1) (op_unot rfl) ?_
  refine RK.V (op_pick_t rfl hg1 (rfl : _ = AV.p (.c _))) ?_
  refine RK.M rfl<|RK.As rfl<|RK.As rfl<|RK.D<|AWp_ret ?_
  refine ends_two rfl (.inr rfl) (res_tmp rfl) (res_tmp rfl) ?_ O_ends
  exact Sub.of_eq (by unfold gpr; rw [decide_eq_true hg1_]; rfl)
 ·have hg1_ := bF hg1
  refine RK.skip (guard_no rfl rfl hg1) ?_
  refine RK.skip (guard_no rfl rfl hg1) ?_
  refine RK.skip (guard_no rfl rfl hg1) ?_
  refine RK.V (op_pick_f rfl hg1 (rfl : _ = AV.p (.c _))) ?_
  refine RK.M rfl<|RK.As rfl<|RK.As rfl<|RK.D<|AWp_ret ?_
  refine ends_two rfl (.inr rfl) (res_tmp rfl) (res_tmp rfl) ?_ O_ends
  exact Sub.of_eq (by unfold gpr; rw [decide_eq_false hg1_]; rfl)
theorem g_Same (f g : Fm) (hfa : L 6 f.a) (hfb : L 6 f.b) (hfc : L 6 f.c) (hga : L 6 g.a) (hgb : L 6 g.b) (hgc : L 6 g.c) (hfx : gpE f = 0 → ∃ x y : Int, 0 ≤ x ∧ x ≤ 1400000 ∧ 0 ≤ y ∧ y ≤ 1400000 ∧ Int.gcd (vl f.rd.a f.rd.b f.rd.c x y) (2 * dsc f.a f.b f.c) = 1) (hgx : gpE g = 0 → ∃ x y : Int, 0 ≤ x ∧ x ≤ 1400000 ∧ 0 ≤ y ∧ y ≤ 1400000 ∧ Int.gcd (vl g.rd.a g.rd.b g.rd.c x y) (2 * dsc g.a g.b g.c) = 1) :
  Call0 Tryz.prog 33 [FA f.a f.b f.c, FA g.a g.b g.c] (.t [PB (gsB f g), PE (gsE f g)]) := by
 have ifa : LB f.a 6 := ⟨hfa⟩
 have ifb : LB f.b 6 := ⟨hfb⟩
 have ifc : LB f.c 6 := ⟨hfc⟩
 have iga : LB g.a 6 := ⟨hga⟩
 have igb : LB g.b 6 := ⟨hgb⟩
 have igc : LB g.c 6 := ⟨hgc⟩
 have hvl := gvL_len f
 refine callM_of (np := 0) Tryz.func33 (by kernel_rfl) rfl rfl (Nat.le_of_ble_eq_true rfl) (fun m h => absurd rfl h) (fun m h => absurd rfl h) rfl ?_
 refine AWp_sr hP<|RK.alc guard_none (op_box rfl rfl)<|RK.alc guard_none (op_box rfl rfl)<|RK.As rfl<|RK.As rfl<|RK.D<|AWp_sr hP<|RK.G6 hT rfl rfl rfl rfl rfl rfl<|RK.V (Eff.call0 (g_Values f hfa hfb hfc hfx)) ?_
 refine RK.V (op_move (rfl : _ = AV.t _))<|RK.V (op_extract rfl (v := .c _) rfl)<|RK.V (op_extract rfl (v := .c _) rfl)<|RK.As rfl<|RK.As rfl<|RK.D<|AWp_seq<|AWp_sr hP<|RK.M rfl<|RK.V (op_neq rfl rfl) ?_
 refine RK.D ?_
 refine AWp_cond rfl (fun hb1 => ?_) (fun hb1 => ?_)
 ·have hb1_ := bneT hb1
  refine AWp_sr hP<|RK.M rfl<|RK.As rfl<|RK.As rfl<|RK.D<|AWp_ret ?_
  refine ends_two rfl (.inr rfl) (res_tmp rfl) (res_tmp rfl) ?_ O_ends
  exact Sub.of_eq (gs_1 hb1_)
 ·have hb1_ := bneF hb1
  refine AWp_skip<|AWp_sr hP<|RK.G6 hT rfl rfl rfl rfl rfl rfl<|RK.V (Eff.call0 (g_Values g hga hgb hgc hgx)) ?_
  refine RK.V (op_move (rfl : _ = AV.t _))<|RK.V (op_extract rfl (v := .c _) rfl)<|RK.V (op_extract rfl (v := .c _) rfl)<|RK.As rfl<|RK.As rfl<|RK.D<|AWp_seq<|AWp_sr hP<|RK.M rfl<|RK.V (op_neq rfl rfl) ?_
  refine RK.D ?_
  refine AWp_cond rfl (fun hb2 => ?_) (fun hb2 => ?_)
  ·have hb2_ := bneT hb2
   refine AWp_sr hP<|RK.M rfl<|RK.As rfl<|RK.As rfl<|RK.D<|AWp_ret ?_
   refine ends_two rfl (.inr rfl) (res_tmp rfl) (res_tmp rfl) ?_ O_ends
   exact Sub.of_eq (gs_2 hb1_ hb2_)
  ·have hb2_ := bneF hb2
   refine AWp_skip<|AWp_seq<|AWp_sr hP<|RK.G6 hT rfl rfl rfl rfl rfl rfl<|RK.V (Eff.call0 (q_Disc _ _ _ lz lz lz)) ?_
   refine RK.G6 hT rfl rfl rfl rfl rfl rfl<|RK.V (Eff.call0 (q_Disc _ _ _ lz lz lz)) ?_
   refine RK.V (Eff.call0 (int_Cmp _ _)) ?_
   refine RK.V (op_neq rfl rfl) ?_
   refine RK.D ?_
   refine AWp_cond rfl (fun hb3 => ?_) (fun hb3 => ?_)
   ·have hb3_ := bneT hb3
    refine AWp_sr hP<|RK.As rfl<|RK.As rfl<|RK.D<|AWp_ret ?_
    refine ends_two rfl (.inr rfl) (res_tmp rfl) (res_tmp rfl) ?_ O_ends
    exact Sub.of_eq (gs_3 hb1_ hb2_ (fun e => hb3_ (cmpI_eq_zero.2 e)))
   ·have hb3_ := bneF hb3
    refine AWp_skip<|AWp_sr hP<|RK.M rfl<|RK.M rfl<|RK.V (Eff.call0 (sl_EqualI (gvL f) (gvL g) hvl)) ?_
    refine RK.As rfl<|RK.As rfl<|RK.D<|AWp_ret ?_
    refine ends_two rfl (.inr rfl) (res_tmp rfl) (res_tmp rfl) ?_ O_ends
    exact Sub.of_eq (gs_4 hb1_ hb2_ (cmpI_eq_zero.1 hb3_))
theorem cmp_isNaN64 (x : Int) :
  Call0 Tryz.prog 153 [Z x] (B false) := by
 refine callM_of (np := 0) Tryz.func153 (by kernel_rfl) rfl rfl (Nat.le_of_ble_eq_true rfl) (fun m h => absurd rfl h) (fun m h => absurd rfl h) rfl ?_
 refine AWp_sr hP<|RK.As rfl<|RK.D<|AWp_sr hP<|RK.M rfl<|RK.M rfl<|RK.V (op_neq rfl rfl) ?_
 refine RK.As rfl<|RK.D<|AWp_ret ?_
 refine ends_one rfl (.inr rfl) (res_tmp rfl) ?_ O_ends
 exact Sub.bool (bne_self_eq_false _)
end Go.Proofs.YtpaifigafaijpaaGreatDoor
end
section
namespace Go.Proofs.YtpaifigafaijpaaGreatDoor
open Go Go.AM
theorem cmp_Compare64 (x y : Int) :
  Call0 Tryz.prog 82 [Z x, Z y] (Z (cmpI x y)) := by
 refine callM_of (np := 0) Tryz.func82 (by kernel_rfl) rfl rfl (Nat.le_of_ble_eq_true rfl) (fun m h => absurd rfl h) (fun m h => absurd rfl h) rfl ?_
 refine AWp_sr hP<|RK.As rfl<|RK.D<|AWp_sr hP<|RK.M rfl<|RK.V (Eff.call0 (cmp_isNaN64 _)) ?_
 refine RK.As rfl<|RK.D<|AWp_sr hP<|RK.M rfl<|RK.V (Eff.call0 (cmp_isNaN64 _)) ?_
 refine RK.As rfl<|RK.D<|AWp_seq<|AWp_sr hP<|RK.M rfl<|RK.D<|AWp_cond_false rfl rfl ?_
 refine AWp_skip<|AWp_seq<|AWp_sr hP<|RK.M rfl<|RK.D<|AWp_cond_false rfl rfl ?_
 refine AWp_skip<|AWp_seq<|AWp_sr hP<|RK.M rfl<|RK.M rfl<|RK.V (op_lss rfl rfl)<|RK.D ?_
 refine AWp_cond rfl (fun hb1 => ?_) (fun hb1 => ?_)
 ·have hb1_ := of_decide_eq_true hb1
  refine AWp_sr hP<|RK.As rfl<|RK.D<|AWp_ret ?_
  refine ends_one rfl (.inr rfl) (res_tmp rfl) ?_ O_ends
  exact Sub.of_eq (by unfold cmpI; rw [if_pos (by omega)])
 ·have hb1_ := of_decide_eq_false hb1
  refine AWp_skip<|AWp_seq<|AWp_sr hP<|RK.M rfl<|RK.M rfl<|RK.V (op_gtr rfl rfl) ?_
  refine RK.D ?_
  refine AWp_cond rfl (fun hb2 => ?_) (fun hb2 => ?_)
  ·have hb2_ := of_decide_eq_true hb2
   refine AWp_sr hP<|RK.As rfl<|RK.D<|AWp_ret ?_
   refine ends_one rfl (.inr rfl) (res_tmp rfl) ?_ O_ends
   exact Sub.of_eq (by unfold cmpI; rw [if_neg (by omega), if_pos (by omega)])
  ·have hb2_ := of_decide_eq_false hb2
   refine AWp_skip<|AWp_sr hP<|RK.As rfl<|RK.D<|AWp_ret ?_
   refine ends_one rfl (.inr rfl) (res_tmp rfl) ?_ O_ends
   exact Sub.of_eq (by unfold cmpI; rw [if_neg (by omega), if_neg (by omega)])
theorem or_intG (a b : Int) :
  Call0 Tryz.prog 81 [.p (.c (.sl 2 [.v (.int .i64 a), .v (.int .i64 b)]))] (Z (if a = 0 then b else a)) := by
 refine callM_of (np := 0) Tryz.func81 (by kernel_rfl) rfl rfl (Nat.le_of_ble_eq_true rfl) (fun m h => absurd rfl h) (fun m h => absurd rfl h) rfl ?_
 refine AWp_sr hP<|RK.As rfl<|RK.D<|AWp_sr hP<|RK.As rfl<|RK.D<|AWp_seq<|AWp_sr hP<|RK.M rfl<|RK.V (op_len hT rfl rfl rfl rfl)<|RK.M rfl<|RK.D<|AWp_block<|AWp_unroll 3 ?_
 refine AWp_sr hP<|RK.V (op_lss rfl rfl)<|RK.D<|AWp_seq<|AWp_cond_true rfl (by decide) ?_
 refine AWp_skip<|AWp_seq<|AWp_block<|AWp_sr hP<|RK.V (by first | exact op_index_WN hT rfl rfl rfl rfl rfl rfl (by omega) | exact op_index_sl hT rfl rfl rfl rfl rfl rfl (by omega) (by first | exact W_ne (by omega) | simp)) ?_
 refine RK.V (op_load_ip_one hT rfl rfl rfl (by first | rfl | exact wget (by omega))) ?_
 refine RK.As rfl<|RK.D<|AWp_sr hP<|RK.M rfl<|RK.M rfl<|RK.V (op_neq rfl rfl) ?_
 refine RK.D ?_
 refine AWp_cond rfl (fun hb1 => ?_) (fun hb1 => ?_)
 ·have hb1_ := bneT hb1
  refine AWp_sr hP<|RK.M rfl<|RK.As rfl<|RK.D<|AWp_ret ?_
  refine ends_one rfl (.inr rfl) (res_tmp rfl) ?_ O_ends
  exact Sub.of_eq (by rw [if_neg hb1_])
 ·have hb1_ := bneF hb1
  refine AWp_skip<|AWp_region hP<|RK.V (op_add rfl rfl (by first | exact IntWalk.i64_in _ (by omega) | rfl)) ?_
  refine RK.M rfl<|RK.D<|AWp_sr hP<|RK.V (op_lss rfl rfl)<|RK.D<|AWp_seq<|AWp_cond_true rfl (by decide) ?_
  refine AWp_skip<|AWp_seq<|AWp_block<|AWp_sr hP<|RK.V (by first | exact op_index_WN hT rfl rfl rfl rfl rfl rfl (by omega) | exact op_index_sl hT rfl rfl rfl rfl rfl rfl (by omega) (by first | exact W_ne (by omega) | simp)) ?_
  refine RK.V (op_load_ip_one hT rfl rfl rfl (by first | rfl | exact wget (by omega))) ?_
  refine RK.As rfl<|RK.D<|AWp_sr hP<|RK.M rfl<|RK.M rfl<|RK.V (op_neq rfl rfl) ?_
  refine RK.D ?_
  refine AWp_cond rfl (fun hb2 => ?_) (fun hb2 => ?_)
  ·have hb2_ := bneT hb2
   refine AWp_sr hP<|RK.M rfl<|RK.As rfl<|RK.D<|AWp_ret ?_
   refine ends_one rfl (.inr rfl) (res_tmp rfl) ?_ O_ends
   exact Sub.of_eq (by rw [if_pos hb1_])
  ·have hb2_ := bneF hb2
   refine AWp_skip<|AWp_region hP<|RK.V (op_add rfl rfl (by first | exact IntWalk.i64_in _ (by omega) | rfl)) ?_
   refine RK.M rfl<|RK.D<|AWp_sr hP<|RK.V (op_lss rfl rfl)<|RK.D<|AWp_seq<|AWp_cond_false rfl (by decide) ?_
   refine AWp_exit<|AWp_sr hP<|RK.M rfl<|RK.As rfl<|RK.D<|AWp_ret ?_
   refine ends_one rfl (.inr rfl) (res_tmp rfl) ?_ O_ends
   exact Sub.of_eq (by rw [if_pos hb1_, hb2_])
theorem g_cm3 (f g : Fm) :
  Call0 Tryz.prog 80 [.p (.a (TC f)), .p (.a (TC g))] (Z (cm3 f g)) := by
 refine callM_of (np := 0) Tryz.func80 (by kernel_rfl) rfl rfl (Nat.le_of_ble_eq_true rfl) (fun m h => absurd rfl h) (fun m h => absurd rfl h) rfl ?_
 refine AWp_sr hP<|RK.alc guard_none (op_box rfl rfl)<|RK.alc guard_none (op_box rfl rfl)<|RK.As rfl<|RK.D<|AWp_sr hP<|RK.V (op_index_arr hT rfl rfl rfl rfl rfl (by first | decide | omega)) ?_
 refine RK.V (op_load_one hT rfl rfl rfl rfl (by first | rfl | exact vget (by omega))) ?_
 refine RK.V (op_index_arr hT rfl rfl rfl rfl rfl (by first | decide | omega)) ?_
 refine RK.V (op_load_one hT rfl rfl rfl rfl (by first | rfl | exact vget (by omega))) ?_
 refine RK.V (Eff.call0 (cmp_Compare64 _ _)) ?_
 refine RK.V (op_index_arr hT rfl rfl rfl rfl rfl (by first | decide | omega)) ?_
 refine RK.V (op_load_one hT rfl rfl rfl rfl (by first | rfl | exact vget (by omega))) ?_
 refine RK.V (op_index_arr hT rfl rfl rfl rfl rfl (by first | decide | omega)) ?_
 refine RK.V (op_load_one hT rfl rfl rfl rfl (by first | rfl | exact vget (by omega))) ?_
 refine RK.V (Eff.call0 (cmp_Compare64 _ _)) ?_
 refine RK.V (op_bslice hT rfl rfl rfl (es := [_, _]) rfl rfl rfl) ?_
 refine RK.V (Eff.call0 (or_intG _ _)) ?_
 refine RK.As rfl<|RK.D<|AWp_ret ?_
 refine ends_one rfl (.inr rfl) (res_tmp rfl) ?_ O_ends
 exact Sub.int (by unfold cm3; split <;> simp_all)
theorem len64 (x : Nat) (hx : x < 256) :
  Call0 Tryz.prog 206 [.p (.c (.v (.int .u64 ((x : Nat) : Int))))] (Z (blen x)) := by
 have h8 := blen8_le (m := x) (by omega)
 refine callM_of (np := 0) Tryz.func206 (by kernel_rfl) rfl rfl (Nat.le_of_ble_eq_true rfl) (fun m h => absurd rfl h) (fun m h => absurd rfl h) rfl ?_
 refine AWp_sr hP<|RK.As rfl<|RK.D<|AWp_seq<|AWp_sr hP<|RK.M rfl<|RK.V (op_geq rfl rfl) ?_
 refine RK.D<|AWp_cond_false rfl (decide_eq_false (by omega)) ?_
 refine AWp_skip<|AWp_seq<|AWp_sr hP<|RK.M rfl<|RK.V (op_geq rfl rfl) ?_
 refine RK.D<|AWp_cond_false rfl (decide_eq_false (by omega)) ?_
 refine AWp_skip<|AWp_seq<|AWp_sr hP<|RK.M rfl<|RK.V (op_geq rfl rfl) ?_
 refine RK.D<|AWp_cond_false rfl (decide_eq_false (by omega)) ?_
 refine AWp_skip<|AWp_sr hP<|RK.M rfl<|RK.M rfl<|RK.V (op_conv hT rfl rfl rfl rfl (IntWalk.u8_in _ (by omega))) ?_
 refine RK.V (op_len8 rfl rfl (by omega)) ?_
 refine RK.V (op_conv hT rfl rfl rfl rfl (IntWalk.i64_in _ (by omega))) ?_
 refine RK.V (op_add rfl rfl (IntWalk.i64_in _ (by omega))) ?_
 refine RK.As rfl<|RK.D<|AWp_ret ?_
 refine ends_one rfl (.inr rfl) (res_tmp rfl) ?_ O_ends
 exact Sub.int (by omega)
theorem bits_Len (x : Nat) (hx : x < 256) :
  Call0 Tryz.prog 152 [.p (.c (.v (.int .u64 ((x : Nat) : Int))))] (Z (blen x)) := by
 refine callM_of (np := 0) Tryz.func152 (by kernel_rfl) rfl rfl (Nat.le_of_ble_eq_true rfl) (fun m h => absurd rfl h) (fun m h => absurd rfl h) rfl ?_
 refine AWp_sr hP<|RK.As rfl<|RK.D<|AWp_seq<|AWp_cond_false rfl rfl ?_
 refine AWp_skip<|AWp_sr hP<|RK.M rfl<|RK.V (Eff.call0 (len64 _ (by omega))) ?_
 refine RK.As rfl<|RK.D<|AWp_ret ?_
 refine ends_one rfl (.inr rfl) (res_tmp rfl) ?_ O_ends
 exact .refl _
theorem sl_insT (l : List Fm) (hl : l.length ≤ 12) (hs : srt3 l) :
  Call0 Tryz.prog 197 [.p (.c (TS l)), Z 0, Z (l.length : Int), .p (.c (.v (.func (.func 80) #[] #[])))] (.t []) := by
 refine callM_of (np := 0) Tryz.func197 (by kernel_rfl) rfl rfl (Nat.le_of_ble_eq_true rfl) (fun m h => absurd rfl h) (fun m h => absurd rfl h) rfl ?_
 refine AWp_sr hP<|RK.M rfl<|RK.V (op_add rfl rfl (by first | exact IntWalk.i64_in _ (by omega) | rfl)) ?_
 refine RK.As rfl<|RK.D<|AWp_block<|AWp_loop (ι := Nat) (fun k => stL [(0, .p (.c (TS l))), (1, Z 0), (2, Z (l.length : Int)), (3, .p (.c (.v (.func (.func 80) #[] #[])))), (8, Z (k : Int))] []) (fun k => 1 ≤ k) (fun k => l.length - k) 1 (Nat.le_refl _) (le_stL ⟨.refl _, .refl _, .refl _, .refl _, .refl _, trivial⟩ trivial) ?_
 intro k hk
 refine AWp_seq<|AWp_sr hP<|RK.M rfl<|RK.M rfl<|RK.V (op_lss rfl rfl)<|RK.D ?_
 refine AWp_cond rfl (fun hb1 => ?_) (fun hb1 => ?_)
 ·have hb1_ := of_decide_eq_true hb1
  have hno : ¬ cm3 (l.getD k ⟨0, 0, 0⟩) (l.getD ((k : Int) - 1).toNat ⟨0, 0, 0⟩) < 0 := by
   have := (hs (k - 1) (by omega)).1
   rw [show k - 1 + 1 = k by omega] at this
   rw [show ((k : Int) - 1).toNat = k - 1 by omega]
   exact this
  refine AWp_skip<|AWp_seq<|AWp_block<|AWp_sr hP<|RK.M rfl<|RK.As rfl<|RK.D<|AWp_block<|AWp_unroll 1 ?_
  refine AWp_seq<|AWp_sr hP<|RK.M rfl<|RK.M rfl<|RK.V (op_gtr rfl rfl) ?_
  refine RK.M rfl<|RK.val (guard_yes rfl rfl (decide_eq_true (by omega))) (op_move (rfl : _ = AV.p (.c _))) ?_
  refine RK.val (guard_yes rfl rfl (decide_eq_true (by omega))) (op_move (rfl : _ = AV.p (.c _))) ?_
  refine RK.val (guard_yes rfl rfl (decide_eq_true (by omega))) (op_move (rfl : _ = AV.p (.c _))) ?_
  refine RK.val (guard_yes rfl rfl (decide_eq_true (by omega))) (op_indexT hT (n := (k : Int)) rfl rfl rfl rfl rfl rfl (by omega)) ?_
  refine RK.val (guard_yes rfl rfl (decide_eq_true (by omega))) (op_load_ip_agg hT rfl rfl rfl (cs := TC (l.getD k ⟨0, 0, 0⟩)) rfl rfl) ?_
  refine RK.val (guard_yes rfl rfl (decide_eq_true (by omega))) (op_move (rfl : _ = AV.p (.c _))) ?_
  refine RK.val (guard_yes rfl rfl (decide_eq_true (by omega))) (op_move (rfl : _ = AV.p (.c _))) ?_
  refine RK.val (guard_yes rfl rfl (decide_eq_true (by omega))) (op_sub rfl rfl (by first | exact IntWalk.i64_in _ (by omega) | rfl)) ?_
  refine RK.val (guard_yes rfl rfl (decide_eq_true (by omega))) (op_indexT hT (n := (k : Int) - 1) rfl rfl rfl rfl rfl rfl (by omega)) ?_
  refine RK.val (guard_yes rfl rfl (decide_eq_true (by omega))) (op_load_ip_agg hT rfl rfl rfl (cs := TC (l.getD ((k : Int) - 1).toNat ⟨0, 0, 0⟩)) rfl rfl) ?_
  refine RK.val (guard_yes rfl rfl (decide_eq_true (by omega))) (Eff.callF rfl (g_cm3 (l.getD k ⟨0, 0, 0⟩) (l.getD ((k : Int) - 1).toNat ⟨0, 0, 0⟩))) ?_
  refine RK.val (guard_yes rfl rfl (decide_eq_true (by omega))) (op_lss rfl rfl) ?_
  refine RK.V (op_pick_t rfl (decide_eq_true (by omega)) (rfl : _ = AV.p (.c _))) ?_
  refine RK.D<|AWp_cond_false rfl (decide_eq_false hno) ?_
  refine AWp_exit<|AWp_region hP<|RK.M rfl<|RK.V (op_add rfl rfl (by first | exact IntWalk.i64_in _ (by omega) | rfl)) ?_
  refine RK.As rfl<|RK.D ?_
  refine ⟨k + 1, by omega, by omega, le_stL ⟨.refl _, .refl _, .refl _, .refl _, Sub.int (by omega), trivial⟩ trivial⟩
 ·have hb1_ := of_decide_eq_false hb1
  refine AWp_exit ?_
  refine ends_none rfl (.inl rfl)  ?_ O_ends
  exact .refl _
theorem sl_pdqT (x : Int) (l : List Fm) (hl : l.length ≤ 12) (hs : srt3 l) :
  Call0 Tryz.prog 151 [.p (.c (TS l)), Z 0, Z (l.length : Int), Z x, .p (.c (.v (.func (.func 80) #[] #[])))] (.t []) := by
 refine callM_of (np := 0) Tryz.func151 (by kernel_rfl) rfl rfl (Nat.le_of_ble_eq_true rfl) (fun m h => absurd rfl h) (fun m h => absurd rfl h) rfl ?_
 refine AWp_sr hP<|RK.As rfl<|RK.D<|AWp_sr hP<|RK.As rfl<|RK.D<|AWp_block<|AWp_unroll 1 ?_
 refine AWp_block<|AWp_sr hP<|RK.M rfl<|RK.M rfl<|RK.V (op_sub rfl rfl (by first | exact IntWalk.i64_in _ (by omega) | rfl)) ?_
 refine RK.As rfl<|RK.D<|AWp_seq<|AWp_sr hP<|RK.M rfl<|RK.V (op_leq rfl rfl) ?_
 refine RK.D<|AWp_cond_true rfl (decide_eq_true (by omega)) ?_
 refine AWp_sr hP<|RK.M rfl<|RK.M rfl<|RK.M rfl<|RK.M rfl<|RK.V (Eff.call0 (sl_insT l hl hs)) ?_
 refine RK.D<|AWp_ret ?_
 refine ends_none rfl (.inr rfl)  ?_ O_ends
 exact .refl _
theorem sl_SortFuncT (l : List Fm) (hl : l.length ≤ 12) (hs : srt3 l) :
  Call0 Tryz.prog 79 [.p (.c (TS l)), .p (.c (.v (.func (.func 80) #[] #[])))] (.t []) := by
 refine callM_of (np := 0) Tryz.func79 (by kernel_rfl) rfl rfl (Nat.le_of_ble_eq_true rfl) (fun m h => absurd rfl h) (fun m h => absurd rfl h) rfl ?_
 refine AWp_sr hP<|RK.M rfl<|RK.V (op_len hT rfl rfl rfl (by rfl)) ?_
 refine RK.As rfl<|RK.D<|AWp_region hP<|RK.M rfl<|RK.M rfl<|RK.M rfl<|RK.V (op_conv hT rfl rfl rfl rfl (c := ((l.length : Nat) : Int)) (IntWalk.u64_in _ (by omega))) ?_
 refine RK.V (Eff.call0 (bits_Len l.length (by omega))) ?_
 refine RK.M rfl<|RK.V (Eff.call0 (sl_pdqT _ l hl hs)) ?_
 refine RK.D ?_
 refine ends_none rfl (.inl rfl)  ?_ O_ends
 exact .refl _
theorem g_shape0 (m k : Int) (hm : 0 < m ∧ m ≤ 4194304) (hk : 1 ≤ k) (hkk : k * k ≤ m) :
  Call0 Tryz.prog 75 [Z k, .ip [IC m]] (.p (.a (TC (shp m k 0)))) := by
 have hb := shp_b hm hk hkk
 refine callM_of (np := 0) Tryz.func75 (by kernel_rfl) rfl rfl (Nat.le_of_ble_eq_true rfl) (fun m h => absurd rfl h) (fun m h => absurd rfl h) rfl ?_
 refine AWp_sr hP<|RK.alc guard_none (op_alloc hT rfl rfl)<|RK.D<|AWp_sr hP<|RK.M rfl<|RK.V (op_load_ip_one hT rfl rfl rfl (by first | rfl | exact wget (by omega))) ?_
 refine RK.V (op_quo rfl rfl (by omega) (c := m / 4) (by rw [Int.tdiv_eq_ediv_of_nonneg (by omega), IntWalk.i64_in _ (by omega)])) ?_
 refine RK.M rfl<|RK.V (op_quo rfl rfl (by omega) (c := m / 4 / k) (by rw [Int.tdiv_eq_ediv_of_nonneg (by omega), IntWalk.i64_in _ (by omega)])) ?_
 refine RK.V (op_build_ar hT rfl rfl rfl (es := [_, _, _]) rfl) ?_
 refine RK.S hT rfl rfl rfl rfl rfl rfl rfl<|RK.D<|AWp_ret ?_
 refine ends_one rfl (.inr rfl) (res_cell_agg hT rfl rfl rfl rfl (cs := [_, _, _]) rfl rfl) ?_ O_ends
 exact .refl _
theorem g_shape1 (m k : Int) (hm : 0 < m ∧ m ≤ 4194304) (hk : 1 ≤ k) (hkk : k * k ≤ m) :
  Call0 Tryz.prog 76 [Z k, .ip [IC m]] (.p (.a (TC (shp m k 1)))) := by
 have hb := shp_b hm hk hkk
 refine callM_of (np := 0) Tryz.func76 (by kernel_rfl) rfl rfl (Nat.le_of_ble_eq_true rfl) (fun m h => absurd rfl h) (fun m h => absurd rfl h) rfl ?_
 refine AWp_sr hP<|RK.alc guard_none (op_alloc hT rfl rfl)<|RK.D<|AWp_sr hP<|RK.M rfl<|RK.M rfl<|RK.V (op_load_ip_one hT rfl rfl rfl (by first | rfl | exact wget (by omega))) ?_
 refine RK.M rfl<|RK.V (op_quo rfl rfl (by omega) (c := m / k) (by rw [Int.tdiv_eq_ediv_of_nonneg (by omega), IntWalk.i64_in _ (by omega)])) ?_
 refine RK.M rfl<|RK.V (op_add rfl rfl (by first | exact IntWalk.i64_in _ (by omega) | rfl)) ?_
 refine RK.V (op_quo rfl rfl (by omega) (c := (m / k + k) / 4) (by rw [Int.tdiv_eq_ediv_of_nonneg (by omega), IntWalk.i64_in _ (by omega)])) ?_
 refine RK.V (op_build_ar hT rfl rfl rfl (es := [_, _, _]) rfl) ?_
 refine RK.S hT rfl rfl rfl rfl rfl rfl rfl<|RK.D<|AWp_ret ?_
 refine ends_one rfl (.inr rfl) (res_cell_agg hT rfl rfl rfl rfl (cs := [_, _, _]) rfl rfl) ?_ O_ends
 exact .refl _
theorem g_shape2 (m k : Int) (hm : 0 < m ∧ m ≤ 4194304) (hk : 1 ≤ k) (hkk : k * k ≤ m) :
  Call0 Tryz.prog 77 [Z k, .ip [IC m]] (.p (.a (TC (shp m k 2)))) := by
 have hb := shp_b hm hk hkk
 refine callM_of (np := 0) Tryz.func77 (by kernel_rfl) rfl rfl (Nat.le_of_ble_eq_true rfl) (fun m h => absurd rfl h) (fun m h => absurd rfl h) rfl ?_
 refine AWp_sr hP<|RK.alc guard_none (op_alloc hT rfl rfl)<|RK.D<|AWp_sr hP<|RK.V (op_load_ip_one hT rfl rfl rfl (by first | rfl | exact wget (by omega))) ?_
 refine RK.M rfl<|RK.V (op_quo rfl rfl (by omega) (c := m / k) (by rw [Int.tdiv_eq_ediv_of_nonneg (by omega), IntWalk.i64_in _ (by omega)])) ?_
 refine RK.M rfl<|RK.V (op_add rfl rfl (by first | exact IntWalk.i64_in _ (by omega) | rfl)) ?_
 refine RK.V (op_quo rfl rfl (by omega) (c := (m / k + k) / 4) (by rw [Int.tdiv_eq_ediv_of_nonneg (by omega), IntWalk.i64_in _ (by omega)])) ?_
 refine RK.V (op_load_ip_one hT rfl rfl rfl (by first | rfl | exact wget (by omega))) ?_
 refine RK.M rfl<|RK.V (op_quo rfl rfl (by omega) (c := m / k) (by rw [Int.tdiv_eq_ediv_of_nonneg (by omega), IntWalk.i64_in _ (by omega)])) ?_
 refine RK.M rfl<|RK.V (op_sub rfl rfl (by first | exact IntWalk.i64_in _ (by omega) | rfl)) ?_
 refine RK.V (op_quo rfl rfl (by omega) (c := (m / k - k) / 2) (by rw [Int.tdiv_eq_ediv_of_nonneg (by omega), IntWalk.i64_in _ (by omega)])) ?_
 refine RK.V (op_load_ip_one hT rfl rfl rfl (by first | rfl | exact wget (by omega))) ?_
 refine RK.M rfl<|RK.V (op_quo rfl rfl (by omega) (c := m / k) (by rw [Int.tdiv_eq_ediv_of_nonneg (by omega), IntWalk.i64_in _ (by omega)])) ?_
 refine RK.M rfl<|RK.V (op_add rfl rfl (by first | exact IntWalk.i64_in _ (by omega) | rfl)) ?_
 refine RK.V (op_quo rfl rfl (by omega) (c := (m / k + k) / 4) (by rw [Int.tdiv_eq_ediv_of_nonneg (by omega), IntWalk.i64_in _ (by omega)])) ?_
 refine RK.V (op_build_ar hT rfl rfl rfl (es := [_, _, _]) rfl) ?_
 refine RK.S hT rfl rfl rfl rfl rfl rfl rfl<|RK.D<|AWp_ret ?_
 refine ends_one rfl (.inr rfl) (res_cell_agg hT rfl rfl rfl rfl (cs := [_, _, _]) rfl rfl) ?_ O_ends
 exact .refl _
end Go.Proofs.YtpaifigafaijpaaGreatDoor
end
section
namespace Go.Proofs.YtpaifigafaijpaaGreatDoor
open Go Go.AM
theorem sl_CompactT (l : List Fm) (hl : l.length ≤ 12) (hs : srt3 l) :
  Call0 Tryz.prog 83 [.p (.c (TS l))] (.p (.c (TS l))) := by
 refine callM_of (np := 0) Tryz.func83 (by kernel_rfl) rfl rfl (Nat.le_of_ble_eq_true rfl) (fun m h => absurd rfl h) (fun m h => absurd rfl h) rfl ?_
 refine AWp_sr hP<|RK.As rfl<|RK.D<|AWp_seq<|AWp_sr hP<|RK.M rfl<|RK.V (op_len hT rfl rfl rfl (by rfl)) ?_
 refine RK.V (op_lss rfl rfl)<|RK.D ?_
 refine AWp_cond rfl (fun hb1 => ?_) (fun hb1 => ?_)
 ·have hb1_ := of_decide_eq_true hb1
  refine AWp_sr hP<|RK.M rfl<|RK.As rfl<|RK.D<|AWp_ret ?_
  refine ends_one rfl (.inr rfl) (res_tmp rfl) ?_ O_ends
  exact .refl _
 ·have hb1_ := of_decide_eq_false hb1
  refine AWp_skip<|AWp_seq<|AWp_sr hP<|RK.As rfl<|RK.D<|AWp_block<|AWp_loop (ι := Nat) (fun k => stL [(0, .p (.c (TS l))), (3, Z (k : Int))] []) (fun k => 1 ≤ k) (fun k => l.length - k) 1 (Nat.le_refl _) (le_stL ⟨.refl _, .refl _, trivial⟩ trivial) ?_
  intro k hk
  refine AWp_seq<|AWp_sr hP<|RK.M rfl<|RK.M rfl<|RK.V (op_len hT rfl rfl rfl (by rfl)) ?_
  refine RK.V (op_lss rfl rfl)<|RK.D ?_
  refine AWp_cond rfl (fun hb2 => ?_) (fun hb2 => ?_)
  ·have hb2_ := of_decide_eq_true hb2
   have hno : ¬ l.getD k ⟨0, 0, 0⟩ = l.getD ((k : Int) - 1).toNat ⟨0, 0, 0⟩ := by
    have := (hs (k - 1) (by omega)).2
    rw [show k - 1 + 1 = k by omega] at this
    rw [show ((k : Int) - 1).toNat = k - 1 by omega]
    exact this
   refine AWp_skip<|AWp_seq<|AWp_block<|AWp_sr hP<|RK.M rfl<|RK.M rfl<|RK.V (op_indexT hT (n := (k : Int)) rfl rfl rfl rfl rfl rfl (by omega)) ?_
   refine RK.V (op_load_ip_agg hT rfl rfl rfl (cs := TC (l.getD k ⟨0, 0, 0⟩)) rfl rfl) ?_
   refine RK.M rfl<|RK.M rfl<|RK.V (op_sub rfl rfl (by first | exact IntWalk.i64_in _ (by omega) | rfl)) ?_
   refine RK.V (op_indexT hT (n := (k : Int) - 1) rfl rfl rfl rfl rfl rfl (by omega)) ?_
   refine RK.V (op_load_ip_agg hT rfl rfl rfl (cs := TC (l.getD ((k : Int) - 1).toNat ⟨0, 0, 0⟩)) rfl rfl) ?_
   refine RK.V (op_eqlT hT rfl rfl rfl rfl rfl rfl rfl (by kernel_rfl)) ?_
   refine RK.D<|AWp_cond_false rfl (decide_eq_false hno) ?_
   refine AWp_skip<|AWp_region hP<|RK.M rfl<|RK.V (op_add rfl rfl (by first | exact IntWalk.i64_in _ (by omega) | rfl)) ?_
   refine RK.As rfl<|RK.D ?_
   refine ⟨k + 1, by omega, by omega, le_stL ⟨.refl _, Sub.int (by omega), trivial⟩ trivial⟩
  ·have hb2_ := of_decide_eq_false hb2
   refine AWp_exit<|AWp_sr hP<|RK.M rfl<|RK.As rfl<|RK.D<|AWp_ret ?_
   refine ends_one rfl (.inr rfl) (res_tmp rfl) ?_ O_ends
   exact .refl _
theorem g_shape (m k : Int) (j : Nat) (hj : (j : Int) < 3) (hm : 0 < m ∧ m ≤ 4194304) (hk : 1 ≤ k) (hkk : k * k ≤ m) : Call0 Tryz.prog (75 + j) [Z k, .ip [IC m]] (.p (.a (TC (shp m k j)))) := by
 rcases (show j = 0 ∨ j = 1 ∨ j = 2 by omega) with rfl | rfl | rfl
 ·exact g_shape0 m k hm hk hkk
 ·exact g_shape1 m k hm hk hkk
 ·exact g_shape2 m k hm hk hkk
theorem g_AmbiguousS (d : Int) (hd : L 40 d) (hA : szE d = 0 → (amL (-d)).length ≤ 12 ∧ srt3 (amL (-d))) :
  Call0 Tryz.prog 23 [I d] (.t [.c (FS (amE d)), PE (szE d)]) := by
 have id0 : LB d 40 := ⟨hd⟩
 refine callM_of (np := 0) Tryz.func23 (by kernel_rfl) rfl rfl (Nat.le_of_ble_eq_true rfl) (fun m h => absurd rfl h) (fun m h => absurd rfl h) rfl ?_
 refine AWp_sr hP<|RK.alc guard_none (op_box rfl rfl)<|RK.As rfl<|RK.As rfl<|RK.D<|AWp_sr hP<|RK.G2 hT rfl rfl rfl rfl rfl rfl<|RK.V (Eff.call0 (g_right _ hd)) ?_
 refine RK.V (op_move (rfl : _ = AV.t _))<|RK.V (op_extract rfl (v := .c _) rfl)<|RK.V (op_extract rfl (v := .c _) rfl)<|RK.As rfl<|RK.As rfl<|RK.D<|AWp_seq<|AWp_sr hP<|RK.M rfl<|RK.V (op_neq rfl rfl) ?_
 refine RK.D ?_
 refine AWp_cond rfl (fun hb1 => ?_) (fun hb1 => ?_)
 ·have hb1_ := bneT hb1
  refine AWp_sr hP<|RK.M rfl<|RK.As rfl<|RK.As rfl<|RK.D<|AWp_ret ?_
  refine ends_two rfl (.inr rfl) (res_tmp rfl) (res_tmp rfl) ?_ O_ends
  exact (by rw [amE_1 hb1_]; exact Sub.tup ⟨DSub.nil_sl, .refl _, trivial⟩)
 ·have hb1_ := bneF hb1
  have he : szE d = 0 := hb1_
  obtain ⟨e1, e2, e3⟩ := gnV_0 he
  obtain ⟨hl12, hsr⟩ := hA he
  have hmm : 0 < -d ∧ -d ≤ 4194304 := by omega
  obtain ⟨m, hm⟩ : ∃ m, -d = m := ⟨_, rfl⟩
  rw [hm] at hmm hl12 hsr
  have hdm : d = -m := by omega
  rw [e1]
  refine AWp_skip<|AWp_sr hP<|RK.As rfl<|RK.D<|AWp_nilV 6 1000 3 122 rfl rfl ?_
  refine AWp_sr hP<|RK.M rfl<|RK.V (op_uneg rfl (c := m) (by rw [IntWalk.i64_in _ (by omega)]; omega)) ?_
  refine RK.alc guard_none (op_alloc hT rfl rfl)<|RK.S hT rfl rfl rfl rfl rfl rfl rfl<|RK.D<|AWp_freezeBox (t := 7) rfl rfl ?_
  refine AWp_sr hP<|RK.V (op_makeFuncD rfl) ?_
  refine RK.V (op_makeFuncD rfl) ?_
  refine RK.V (op_makeFuncD rfl) ?_
  refine RK.V (op_bslice hT rfl rfl rfl (es := [_, _, _]) rfl rfl rfl) ?_
  refine RK.As rfl<|RK.D<|AWp_seq<|AWp_sr hP<|RK.As rfl<|RK.D<|AWp_block<|AWp_loop (ι := Nat) (fun k => stL [(4, Z d), (6, .vec 1000), (7, .ip [IC m]), (8, .p (.c (.sl 3 [shF 75 m 0, shF 75 m 1, shF 75 m 2]))), (9, Z ((k : Int) + 1))] [(1000, TB 122 (amG m k))]) (fun k => k ≤ amS m) (fun k => amS m - k) 0 (Nat.zero_le _) (le_stL ⟨.refl _, .refl _, .refl _, .refl _, .refl _, trivial⟩ ⟨rfl, trivial⟩) ?_
  intro k hk
  refine AWp_seq<|AWp_sr hP<|RK.M rfl<|RK.M rfl<|RK.V (op_mul rfl rfl (by first | exact IntWalk.i64_in _ (by omega) | rfl)) ?_
  refine RK.V (op_load_ip_one hT rfl rfl rfl (by first | rfl | exact wget (by omega))) ?_
  refine RK.V (op_leq rfl rfl) ?_
  refine RK.D ?_
  refine AWp_cond rfl (fun hb2 => ?_) (fun hb2 => ?_)
  ·have hb2_ := of_decide_eq_true hb2
   have hkk : ((k : Int) + 1) * ((k : Int) + 1) ≤ m := amS_w hmm hk ▸ hb2_
   have hk1 := amS_next hmm hk hkk
   have hkb := shp_b hmm (k := ((k : Int) + 1)) (by omega) hkk
   refine AWp_skip<|AWp_seq<|AWp_block<|AWp_sr hP<|RK.M rfl<|RK.V (op_len hT rfl rfl rfl (by rfl)) ?_
   refine RK.M rfl<|RK.D<|AWp_block<|AWp_loop (ι := Nat) (fun j => stL [(4, Z d), (6, .vec 1000), (7, .ip [IC m]), (8, .p (.c (.sl 3 [shF 75 m 0, shF 75 m 1, shF 75 m 2]))), (9, Z ((k : Int) + 1)), (38, .p (.c (.sl 3 [shF 75 m 0, shF 75 m 1, shF 75 m 2]))), (39, Z 3), (40, Z (j : Int))] [(1000, TB 122 (amG m k ++ amR m ((k : Int) + 1) j))]) (fun j => j ≤ 3) (fun j => 3 - j) 0 (Nat.zero_le _) (le_stL ⟨.refl _, .refl _, .refl _, .refl _, .refl _, .refl _, .refl _, .refl _, trivial⟩ ⟨Eq.trans rfl (congrArg (fun x => some (TB 122 x)) ((List.append_nil _).symm)), trivial⟩) ?_
   intro j hj
   refine AWp_sr hP<|RK.V (op_lss rfl rfl)<|RK.D<|AWp_seq ?_
   refine AWp_cond rfl (fun hb3 => ?_) (fun hb3 => ?_)
   ·have hb3_ := of_decide_eq_true hb3
    have hj3 : (j : Int) < 3 := hb3_
    have cSh := g_shape m ((k : Int) + 1) j hj3 hmm (by omega) hkk
    have hbd := shp_bd hmm (k := ((k : Int) + 1)) (by omega) hkk j
    have hlG := amG_len m k
    have hlR := amR_len m ((k : Int) + 1) j
    obtain ⟨f, hfe⟩ : ∃ f, shp m ((k : Int) + 1) j = f := ⟨_, rfl⟩
    rw [hfe] at hbd
    have hbb := sq_b (x := f.b) (m := 4200000) (by omega)
    have hac : 0 ≤ 4 * f.a * f.c ∧ 4 * f.a * f.c ≤ 16800000 * 4200000 := ⟨Int.mul_nonneg (by omega) (by omega), Int.mul_le_mul (by omega) (by omega) (by omega) (by omega)⟩
    have jfa : InI64 f.a := by unfold InI64; omega
    have jfb : InI64 f.b := by unfold InI64; omega
    have jfc : InI64 f.c := by unfold InI64; omega
    have hgg := gg_abs f.a f.b
    have hgl : Int.gcd f.a f.b ≤ 4200000 ∨ f.a = 0 := by
     rcases (show f.a = 0 ∨ 0 < f.a by omega) with q | q
     ·exact .inr q
     ·exact .inl (Nat.le_trans (Nat.le_of_dvd (by omega) (Nat.gcd_dvd_left _ _)) (by omega))
    have jgg : InI64 (gg f.a f.b) := by
     rcases hgl with q | q
     ·unfold InI64; omega
     ·have : Int.gcd f.a f.b = f.b.natAbs := by rw [q]; simp
      unfold InI64; omega
    refine AWp_skip<|AWp_seq<|AWp_block<|AWp_sr hP<|RK.V (op_index_sl hT (n := (j : Int)) rfl rfl rfl rfl (by rfl) rfl (by omega) (by simp)) ?_
    refine RK.V (op_load_ip_one hT rfl rfl rfl (sh_get hj3)) ?_
    refine RK.As rfl<|RK.D<|AWp_sr hP<|RK.M rfl<|RK.M rfl<|RK.V (hfe ▸ Eff.callSh (f := 75) (m := m) (k := ((k : Int) + 1)) (j := j) rfl rfl cSh) ?_
    refine RK.alc guard_none (op_alloc hT rfl rfl)<|RK.S hT rfl rfl rfl rfl rfl rfl rfl<|RK.D<|AWp_sr hP<|RK.V (op_index_arr hT rfl rfl rfl rfl rfl (by first | decide | omega)) ?_
    refine RK.V (op_load_one hT rfl rfl rfl rfl (by first | rfl | exact vget (by omega))) ?_
    refine RK.V (op_index_arr hT rfl rfl rfl rfl rfl (by first | decide | omega)) ?_
    refine RK.V (op_load_one hT rfl rfl rfl rfl (by first | rfl | exact vget (by omega))) ?_
    refine RK.V (op_mul rfl rfl (by first | exact IntWalk.i64_in _ (by omega) | rfl)) ?_
    refine RK.V (op_index_arr hT rfl rfl rfl rfl rfl (by first | decide | omega)) ?_
    refine RK.V (op_load_one hT rfl rfl rfl rfl (by first | rfl | exact vget (by omega))) ?_
    refine RK.V (op_mul rfl rfl (by first | exact IntWalk.i64_in _ (by omega) | rfl)) ?_
    refine RK.V (op_index_arr hT rfl rfl rfl rfl rfl (by first | decide | omega)) ?_
    refine RK.V (op_load_one hT rfl rfl rfl rfl (by first | rfl | exact vget (by omega))) ?_
    refine RK.V (op_mul rfl rfl (by first | exact IntWalk.i64_in _ (by omega) | rfl)) ?_
    refine RK.V (op_sub rfl rfl (by first | exact IntWalk.i64_in _ (by omega) | rfl)) ?_
    refine RK.M rfl<|RK.V (op_eql rfl rfl) ?_
    refine RK.As rfl<|RK.D<|AWp_sr hP<|RK.M rfl<|RK.M rfl ?_
    refine RK.split (t := 62) rfl (fun hg4 => ?_) (fun hg4 => ?_)
    ·have hg4_ := bT hg4
     refine RK.val (guard_yes rfl rfl hg4) (op_index_arr hT rfl rfl rfl rfl rfl (by first | decide | omega)) ?_
     refine RK.val (guard_yes rfl rfl hg4) (op_load_one hT rfl rfl rfl rfl (by first | rfl | exact vget (by omega))) ?_
     refine RK.val (guard_yes rfl rfl hg4) (op_leq rfl rfl) ?_
     refine RK.V (op_pick_t rfl hg4 (rfl : _ = AV.p (.c _))) ?_
     refine RK.M rfl ?_
     refine RK.split (t := 67) rfl (fun hg5 => ?_) (fun hg5 => ?_)
     ·have hg5_ := of_decide_eq_true hg5
      refine RK.val (guard_yes rfl rfl hg5) (op_index_arr hT rfl rfl rfl rfl rfl (by first | decide | omega)) ?_
      refine RK.val (guard_yes rfl rfl hg5) (op_load_one hT rfl rfl rfl rfl (by first | rfl | exact vget (by omega))) ?_
      refine RK.val (guard_yes rfl rfl hg5) (op_index_arr hT rfl rfl rfl rfl rfl (by first | decide | omega)) ?_
      refine RK.val (guard_yes rfl rfl hg5) (op_load_one hT rfl rfl rfl rfl (by first | rfl | exact vget (by omega))) ?_
      refine RK.val (guard_yes rfl rfl hg5) (op_leq rfl rfl) ?_
      refine RK.V (op_pick_t rfl hg5 (rfl : _ = AV.p (.c _))) ?_
      refine RK.M rfl ?_
      refine RK.split (t := 74) rfl (fun hg6 => ?_) (fun hg6 => ?_)
      ·have hg6_ := of_decide_eq_true hg6
       refine RK.val (guard_yes rfl rfl hg6) (op_index_arr hT rfl rfl rfl rfl rfl (by first | decide | omega)) ?_
       refine RK.val (guard_yes rfl rfl hg6) (op_load_one hT rfl rfl rfl rfl (by first | rfl | exact vget (by omega))) ?_
       refine RK.val (guard_yes rfl rfl hg6) (op_index_arr hT rfl rfl rfl rfl rfl (by first | decide | omega)) ?_
       refine RK.val (guard_yes rfl rfl hg6) (op_load_one hT rfl rfl rfl rfl (by first | rfl | exact vget (by omega))) ?_
       refine RK.val (guard_yes rfl rfl hg6) (op_leq rfl rfl) ?_
       refine RK.V (op_pick_t rfl hg6 (rfl : _ = AV.p (.c _))) ?_
       refine RK.M rfl ?_
       refine RK.split (t := 81) rfl (fun hg7 => ?_) (fun hg7 => ?_)
       ·have hg7_ := of_decide_eq_true hg7
        refine RK.val (guard_yes rfl rfl hg7) (op_index_arr hT rfl rfl rfl rfl rfl (by first | decide | omega)) ?_
        refine RK.val (guard_yes rfl rfl hg7) (op_load_one hT rfl rfl rfl rfl (by first | rfl | exact vget (by omega))) ?_
        refine RK.val (guard_yes rfl rfl hg7) (op_index_arr hT rfl rfl rfl rfl rfl (by first | decide | omega)) ?_
        refine RK.val (guard_yes rfl rfl hg7) (op_load_one hT rfl rfl rfl rfl (by first | rfl | exact vget (by omega))) ?_
        refine RK.val (guard_yes rfl rfl hg7) (Eff.call0 (g_gcd _ _ jfa jfb)) ?_
        refine RK.val (guard_yes rfl rfl hg7) (op_index_arr hT rfl rfl rfl rfl rfl (by first | decide | omega)) ?_
        refine RK.val (guard_yes rfl rfl hg7) (op_load_one hT rfl rfl rfl rfl (by first | rfl | exact vget (by omega))) ?_
        refine RK.val (guard_yes rfl rfl hg7) (Eff.call0 (g_gcd _ _ jgg jfc)) ?_
        refine RK.val (guard_yes rfl rfl hg7) (op_eql rfl rfl) ?_
        refine RK.V (op_pick_t rfl hg7 (rfl : _ = AV.p (.c _))) ?_
        refine RK.D ?_
        refine AWp_cond rfl (fun hb8 => ?_) (fun hb8 => ?_)
        ·have hb8_ := bT hb8
         refine AWp_region hP<|RK.V (op_move (rfl : _ = AV.vec _))<|RK.V (op_load_agg hT rfl rfl rfl rfl (cs := [_, _, _]) rfl rfl) ?_
         refine RK.V (op_bslice hT rfl rfl rfl (es := [_, _, _]) rfl rfl rfl) ?_
         refine RK.app guard_none (op_appendT (z := f) hT rfl rfl rfl rfl rfl rfl rfl rfl (by rw [List.length_append]; omega) (by decide)) ?_
         refine RK.V (op_assign (rfl : _ = AV.vec _))<|RK.D<|AWp_rn 95 1000 rfl rfl rfl ?_
         refine AWp_region hP<|RK.V (op_add rfl rfl (by first | exact IntWalk.i64_in _ (by omega) | rfl)) ?_
         refine RK.M rfl<|RK.D ?_
         refine ⟨j + 1, by omega, by omega, le_stL ⟨.refl _, .refl _, .refl _, .refl _, .refl _, .refl _, .refl _, Sub.int (by omega), trivial⟩ ⟨Eq.trans rfl (congrArg (fun x => some (TB 122 x)) (show amG m k ++ amR m ((k : Int) + 1) j ++ [f] = amG m k ++ amR m ((k : Int) + 1) (j + 1) by rw [List.append_assoc, ← hfe, ← amR_yes (hfe ▸ okS_y hdm hg4_ hg5_ hg6_ hg7_ hb8_)])), trivial⟩⟩
        ·have hb8_ := bF hb8
         refine AWp_skip<|AWp_region hP<|RK.V (op_add rfl rfl (by first | exact IntWalk.i64_in _ (by omega) | rfl)) ?_
         refine RK.M rfl<|RK.D ?_
         refine ⟨j + 1, by omega, by omega, le_stL ⟨.refl _, .refl _, .refl _, .refl _, .refl _, .refl _, .refl _, Sub.int (by omega), trivial⟩ ⟨Eq.trans rfl (congrArg (fun x => some (TB 122 x)) ((congrArg (fun x => amG m k ++ x) (amR_no (hfe ▸ okS_5 hb8_)).symm))), trivial⟩⟩
       ·have hg7_ := of_decide_eq_false hg7
        refine RK.skip (guard_no rfl rfl hg7) ?_
        refine RK.skip (guard_no rfl rfl hg7) ?_
        refine RK.skip (guard_no rfl rfl hg7) ?_
        refine RK.skip (guard_no rfl rfl hg7) ?_
        refine RK.skip (guard_no rfl rfl hg7) ?_
        refine RK.skip (guard_no rfl rfl hg7) ?_
        refine RK.skip (guard_no rfl rfl hg7) ?_
        refine RK.skip (guard_no rfl rfl hg7) ?_
        refine RK.skip (guard_no rfl rfl hg7) ?_
        refine RK.V (op_pick_f rfl hg7 (rfl : _ = AV.p (.c _))) ?_
        refine RK.D<|AWp_cond_false rfl rfl ?_
        refine AWp_skip<|AWp_region hP<|RK.V (op_add rfl rfl (by first | exact IntWalk.i64_in _ (by omega) | rfl)) ?_
        refine RK.M rfl<|RK.D ?_
        refine ⟨j + 1, by omega, by omega, le_stL ⟨.refl _, .refl _, .refl _, .refl _, .refl _, .refl _, .refl _, Sub.int (by omega), trivial⟩ ⟨Eq.trans rfl (congrArg (fun x => some (TB 122 x)) ((congrArg (fun x => amG m k ++ x) (amR_no (hfe ▸ okS_4 hg7_)).symm))), trivial⟩⟩
      ·have hg6_ := of_decide_eq_false hg6
       refine RK.skip (guard_no rfl rfl hg6) ?_
       refine RK.skip (guard_no rfl rfl hg6) ?_
       refine RK.skip (guard_no rfl rfl hg6) ?_
       refine RK.skip (guard_no rfl rfl hg6) ?_
       refine RK.skip (guard_no rfl rfl hg6) ?_
       refine RK.V (op_pick_f rfl hg6 (rfl : _ = AV.p (.c _))) ?_
       refine RK.M rfl<|RK.skip (guard_no rfl rfl rfl) ?_
       refine RK.skip (guard_no rfl rfl rfl) ?_
       refine RK.skip (guard_no rfl rfl rfl) ?_
       refine RK.skip (guard_no rfl rfl rfl) ?_
       refine RK.skip (guard_no rfl rfl rfl) ?_
       refine RK.skip (guard_no rfl rfl rfl) ?_
       refine RK.skip (guard_no rfl rfl rfl) ?_
       refine RK.skip (guard_no rfl rfl rfl) ?_
       refine RK.skip (guard_no rfl rfl rfl) ?_
       refine RK.V (op_pick_f rfl rfl (rfl : _ = AV.p (.c _))) ?_
       refine RK.D<|AWp_cond_false rfl rfl ?_
       refine AWp_skip<|AWp_region hP<|RK.V (op_add rfl rfl (by first | exact IntWalk.i64_in _ (by omega) | rfl)) ?_
       refine RK.M rfl<|RK.D ?_
       refine ⟨j + 1, by omega, by omega, le_stL ⟨.refl _, .refl _, .refl _, .refl _, .refl _, .refl _, .refl _, Sub.int (by omega), trivial⟩ ⟨Eq.trans rfl (congrArg (fun x => some (TB 122 x)) ((congrArg (fun x => amG m k ++ x) (amR_no (hfe ▸ okS_3 hg6_)).symm))), trivial⟩⟩
     ·have hg5_ := of_decide_eq_false hg5
      refine RK.skip (guard_no rfl rfl hg5) ?_
      refine RK.skip (guard_no rfl rfl hg5) ?_
      refine RK.skip (guard_no rfl rfl hg5) ?_
      refine RK.skip (guard_no rfl rfl hg5) ?_
      refine RK.skip (guard_no rfl rfl hg5) ?_
      refine RK.V (op_pick_f rfl hg5 (rfl : _ = AV.p (.c _))) ?_
      refine RK.M rfl<|RK.skip (guard_no rfl rfl rfl) ?_
      refine RK.skip (guard_no rfl rfl rfl) ?_
      refine RK.skip (guard_no rfl rfl rfl) ?_
      refine RK.skip (guard_no rfl rfl rfl) ?_
      refine RK.skip (guard_no rfl rfl rfl) ?_
      refine RK.V (op_pick_f rfl rfl (rfl : _ = AV.p (.c _))) ?_
      refine RK.M rfl<|RK.skip (guard_no rfl rfl rfl) ?_
      refine RK.skip (guard_no rfl rfl rfl) ?_
      refine RK.skip (guard_no rfl rfl rfl) ?_
      refine RK.skip (guard_no rfl rfl rfl) ?_
      refine RK.skip (guard_no rfl rfl rfl) ?_
      refine RK.skip (guard_no rfl rfl rfl) ?_
      refine RK.skip (guard_no rfl rfl rfl) ?_
      refine RK.skip (guard_no rfl rfl rfl) ?_
      refine RK.skip (guard_no rfl rfl rfl) ?_
      refine RK.V (op_pick_f rfl rfl (rfl : _ = AV.p (.c _))) ?_
      refine RK.D<|AWp_cond_false rfl rfl ?_
      refine AWp_skip<|AWp_region hP<|RK.V (op_add rfl rfl (by first | exact IntWalk.i64_in _ (by omega) | rfl)) ?_
      refine RK.M rfl<|RK.D ?_
      refine ⟨j + 1, by omega, by omega, le_stL ⟨.refl _, .refl _, .refl _, .refl _, .refl _, .refl _, .refl _, Sub.int (by omega), trivial⟩ ⟨Eq.trans rfl (congrArg (fun x => some (TB 122 x)) ((congrArg (fun x => amG m k ++ x) (amR_no (hfe ▸ okS_2 hg5_)).symm))), trivial⟩⟩
    ·have hg4_ := bF hg4
     refine RK.skip (guard_no rfl rfl hg4) ?_
     refine RK.skip (guard_no rfl rfl hg4) ?_
     refine RK.skip (guard_no rfl rfl hg4) ?_
     refine RK.V (op_pick_f rfl hg4 (rfl : _ = AV.p (.c _))) ?_
     refine RK.M rfl<|RK.skip (guard_no rfl rfl rfl) ?_
     refine RK.skip (guard_no rfl rfl rfl) ?_
     refine RK.skip (guard_no rfl rfl rfl) ?_
     refine RK.skip (guard_no rfl rfl rfl) ?_
     refine RK.skip (guard_no rfl rfl rfl) ?_
     refine RK.V (op_pick_f rfl rfl (rfl : _ = AV.p (.c _))) ?_
     refine RK.M rfl<|RK.skip (guard_no rfl rfl rfl) ?_
     refine RK.skip (guard_no rfl rfl rfl) ?_
     refine RK.skip (guard_no rfl rfl rfl) ?_
     refine RK.skip (guard_no rfl rfl rfl) ?_
     refine RK.skip (guard_no rfl rfl rfl) ?_
     refine RK.V (op_pick_f rfl rfl (rfl : _ = AV.p (.c _))) ?_
     refine RK.M rfl<|RK.skip (guard_no rfl rfl rfl) ?_
     refine RK.skip (guard_no rfl rfl rfl) ?_
     refine RK.skip (guard_no rfl rfl rfl) ?_
     refine RK.skip (guard_no rfl rfl rfl) ?_
     refine RK.skip (guard_no rfl rfl rfl) ?_
     refine RK.skip (guard_no rfl rfl rfl) ?_
     refine RK.skip (guard_no rfl rfl rfl) ?_
     refine RK.skip (guard_no rfl rfl rfl) ?_
     refine RK.skip (guard_no rfl rfl rfl) ?_
     refine RK.V (op_pick_f rfl rfl (rfl : _ = AV.p (.c _))) ?_
     refine RK.D<|AWp_cond_false rfl rfl ?_
     refine AWp_skip<|AWp_region hP<|RK.V (op_add rfl rfl (by first | exact IntWalk.i64_in _ (by omega) | rfl)) ?_
     refine RK.M rfl<|RK.D ?_
     refine ⟨j + 1, by omega, by omega, le_stL ⟨.refl _, .refl _, .refl _, .refl _, .refl _, .refl _, .refl _, Sub.int (by omega), trivial⟩ ⟨Eq.trans rfl (congrArg (fun x => some (TB 122 x)) ((congrArg (fun x => amG m k ++ x) (amR_no (hfe ▸ okS_1 hdm hg4_)).symm))), trivial⟩⟩
   ·have hb3_ := of_decide_eq_false hb3
    refine AWp_exit<|AWp_region hP<|RK.M rfl<|RK.V (op_add rfl rfl (by first | exact IntWalk.i64_in _ (by omega) | rfl)) ?_
    refine RK.As rfl<|RK.D ?_
    refine ⟨k + 1, hk1, by omega, le_stL ⟨.refl _, .refl _, .refl _, .refl _, Sub.int (by omega), trivial⟩ ⟨Eq.trans rfl (congrArg (fun x => some (TB 122 x)) (show amG m k ++ amR m ((k : Int) + 1) j = amG m k ++ amR m ((k : Int) + 1) 3 by rw [show j = 3 by omega])), trivial⟩⟩
  ·have hb2_ := of_decide_eq_false hb2
   have hks := amS_end hmm hk (amS_w hmm hk ▸ hb2_)
   subst hks
   rw [show amG m (amS m) = amL m from rfl]
   have hbnd := fun f hf => amL_bd hmm (f := f) hf
   have hle : amL m = amE d := (amE_0 he hdm).symm
   generalize amL m = l at hl12 hsr hbnd hle ⊢
   refine AWp_exit<|AWp_freezeT (t := 6) rfl rfl ?_
   refine AWp_sr hP<|RK.M rfl<|RK.V (Eff.call0 (sl_SortFuncT _ hl12 hsr)) ?_
   refine RK.D<|AWp_sr hP<|RK.As rfl<|RK.D<|AWp_nilV 14 1001 6 53 rfl rfl ?_
   refine AWp_seq<|AWp_sr hP<|RK.M rfl<|RK.V (Eff.call0 (sl_CompactT l hl12 hsr)) ?_
   refine RK.V (op_len hT rfl rfl rfl (by rfl)) ?_
   refine RK.M rfl<|RK.D<|AWp_block<|AWp_loop (ι := Nat) (fun k => stL [(14, .vec 1001), (100, .p (.c (TS l))), (101, Z (l.length : Int)), (102, Z (k : Int))] [(1001, FB 53 (l.take k))]) (fun k => k ≤ l.length) (fun k => l.length - k) 0 (Nat.zero_le _) (le_stL ⟨.refl _, .refl _, .refl _, .refl _, trivial⟩ ⟨rfl, trivial⟩) ?_
   intro k hk
   refine AWp_sr hP<|RK.V (op_lss rfl rfl)<|RK.D<|AWp_seq ?_
   refine AWp_cond rfl (fun hb9 => ?_) (fun hb9 => ?_)
   ·have hb9_ := of_decide_eq_true hb9
    have hfm := hbnd _ (getD_mem hb9_)
    have ja : InI64 (l.getD k ⟨0, 0, 0⟩).a := by unfold InI64; omega
    have jb : InI64 (l.getD k ⟨0, 0, 0⟩).b := by unfold InI64; omega
    have jc : InI64 (l.getD k ⟨0, 0, 0⟩).c := by unfold InI64; omega
    refine AWp_skip<|AWp_seq<|AWp_block<|AWp_sr hP<|RK.V (op_indexT hT (n := (k : Int)) rfl rfl rfl rfl rfl rfl (by omega)) ?_
    refine RK.V (op_load_ip_agg hT rfl rfl rfl (cs := TC (l.getD k ⟨0, 0, 0⟩)) rfl rfl) ?_
    refine RK.alc guard_none (op_alloc hT rfl rfl)<|RK.S hT rfl rfl rfl rfl rfl rfl rfl<|RK.D<|AWp_region hP<|RK.V (op_move (rfl : _ = AV.vec _))<|RK.V (op_index_arr hT rfl rfl rfl rfl rfl (by first | decide | omega)) ?_
    refine RK.V (op_load_one hT rfl rfl rfl rfl (by first | rfl | exact vget (by omega))) ?_
    refine RK.V (Eff.call0 (int_Of _ ja)) ?_
    refine RK.V (op_index_arr hT rfl rfl rfl rfl rfl (by first | decide | omega)) ?_
    refine RK.V (op_load_one hT rfl rfl rfl rfl (by first | rfl | exact vget (by omega))) ?_
    refine RK.V (Eff.call0 (int_Of _ jb)) ?_
    refine RK.V (op_index_arr hT rfl rfl rfl rfl rfl (by first | decide | omega)) ?_
    refine RK.V (op_load_one hT rfl rfl rfl rfl (by first | rfl | exact vget (by omega))) ?_
    refine RK.V (Eff.call0 (int_Of _ jc)) ?_
    refine RK.V (op_build_st hT rfl rfl rfl (es := [_, _, _, _, _, _]) rfl) ?_
    refine RK.V (op_bslice hT rfl rfl rfl (es := [_, _, _, _, _, _]) rfl rfl rfl) ?_
    refine RK.app guard_none (op_appendF hT rfl rfl rfl rfl rfl rfl rfl (f := l.getD k ⟨0, 0, 0⟩) rfl (by rw [List.length_take]; omega) (by decide)) ?_
    refine RK.V (op_assign (rfl : _ = AV.vec _))<|RK.D<|AWp_rn 118 1001 rfl rfl rfl ?_
    refine AWp_region hP<|RK.V (op_add rfl rfl (by first | exact IntWalk.i64_in _ (by omega) | rfl)) ?_
    refine RK.M rfl<|RK.D ?_
    refine ⟨k + 1, by omega, by omega, le_stL ⟨.refl _, .refl _, .refl _, Sub.int (by omega), trivial⟩ ⟨Eq.trans rfl (congrArg (fun x => some (FB 53 x)) (take_snocF hb9_)), trivial⟩⟩
   ·have hb9_ := of_decide_eq_false hb9
    refine AWp_exit<|AWp_freezeF (t := 14) rfl rfl ?_
    refine AWp_sr hP<|RK.M rfl<|RK.As rfl<|RK.As rfl<|RK.D<|AWp_ret ?_
    refine ends_two rfl (.inr rfl) (res_tmp rfl) (res_tmp rfl) ?_ O_ends
    exact (by rw [List.take_of_length_le (by omega), hle, he]; exact .refl _)
end Go.Proofs.YtpaifigafaijpaaGreatDoor
end
section
namespace Go.Proofs.YtpaifigafaijpaaGreatDoor
open Go Go.AM
theorem l_examples10  :
  Call0 Tryz.prog 15 [] (B true) := by
 refine callM_of (np := 0) Tryz.func15 (by kernel_rfl) rfl rfl (Nat.le_of_ble_eq_true rfl) (fun m h => absurd rfl h) (fun m h => absurd rfl h) rfl ?_
 refine AWp_sr hP<|RK.As rfl<|RK.D<|AWp_sr hP<|RK.V (Eff.call0 (r_Of _ (by first | assumption | decide))) ?_
 refine RK.V (Eff.call0 (g_Characters (-23) ((show L 6 (-23) by unfold L; decide).mono (by decide)))) ?_
 refine RK.V (op_move (rfl : _ = AV.t _))<|RK.V (op_extract rfl (v := .c _) rfl)<|RK.V (op_extract rfl (v := .c _) rfl)<|RK.As rfl<|RK.As rfl<|RK.D<|AWp_sr hP<|RK.V (Eff.call0 (r_Of _ (by first | assumption | decide))) ?_
 refine RK.V (Eff.call0 (g_Characters (-20) ((show L 6 (-20) by unfold L; decide).mono (by decide)))) ?_
 refine RK.V (op_move (rfl : _ = AV.t _))<|RK.V (op_extract rfl (v := .c _) rfl)<|RK.V (op_extract rfl (v := .c _) rfl)<|RK.As rfl<|RK.As rfl<|RK.D<|AWp_sr hP<|RK.V (Eff.call0 (r_Of _ (by first | assumption | decide))) ?_
 refine RK.V (Eff.call0 (g_Characters (-32) ((show L 6 (-32) by unfold L; decide).mono (by decide)))) ?_
 refine RK.V (op_move (rfl : _ = AV.t _))<|RK.V (op_extract rfl (v := .c _) rfl)<|RK.V (op_extract rfl (v := .c _) rfl)<|RK.As rfl<|RK.As rfl<|RK.D<|AWp_sr hP<|RK.V (Eff.call0 (r_Of _ (by first | assumption | decide))) ?_
 refine RK.V (Eff.call0 (g_Genera (-20) ((show L 6 (-20) by unfold L; decide).mono (by decide)))) ?_
 refine RK.V (op_move (rfl : _ = AV.t _))<|RK.V (op_extract rfl (v := .c _) rfl)<|RK.V (op_extract rfl (v := .c _) rfl)<|RK.As rfl<|RK.As rfl<|RK.D<|AWp_sr hP<|RK.V (Eff.call0 (r8_Of (2) (2) (3) (by unfold InI64; decide) (by unfold InI64; decide) (by unfold InI64; decide) )) ?_
 refine RK.V (Eff.call0 (g_Values ⟨2, 2, 3⟩ (by unfold L; decide) (by unfold L; decide) (by unfold L; decide)  fx_x1)) ?_
 refine RK.V (op_move (rfl : _ = AV.t _))<|RK.V (op_extract rfl (v := .c _) rfl)<|RK.V (op_extract rfl (v := .c _) rfl)<|RK.As rfl<|RK.As rfl<|RK.D<|AWp_sr hP<|RK.V (Eff.call0 (r8_Of (1) (0) (5) (by unfold InI64; decide) (by unfold InI64; decide) (by unfold InI64; decide) )) ?_
 refine RK.V (Eff.call0 (g_Values ⟨1, 0, 5⟩ (by unfold L; decide) (by unfold L; decide) (by unfold L; decide)  fx_x2)) ?_
 refine RK.V (op_move (rfl : _ = AV.t _))<|RK.V (op_extract rfl (v := .c _) rfl)<|RK.V (op_extract rfl (v := .c _) rfl)<|RK.As rfl<|RK.As rfl<|RK.D<|AWp_sr hP<|RK.V (Eff.call0 (r8_Of (2) (2) (3) (by unfold InI64; decide) (by unfold InI64; decide) (by unfold InI64; decide) )) ?_
 refine RK.V (Eff.call0 (r8_Of (1) (0) (5) (by unfold InI64; decide) (by unfold InI64; decide) (by unfold InI64; decide) )) ?_
 refine RK.V (Eff.call0 (g_Same ⟨2, 2, 3⟩ ⟨1, 0, 5⟩ (by unfold L; decide) (by unfold L; decide) (by unfold L; decide)  (by unfold L; decide) (by unfold L; decide) (by unfold L; decide)  fx_x1 fx_x2)) ?_
 refine RK.V (op_move (rfl : _ = AV.t _))<|RK.V (op_extract rfl (v := .c _) rfl)<|RK.V (op_extract rfl (v := .c _) rfl)<|RK.As rfl<|RK.As rfl<|RK.D<|AWp_sr hP<|RK.V (Eff.call0 (r8_Of (1) (1) (6) (by unfold InI64; decide) (by unfold InI64; decide) (by unfold InI64; decide) )) ?_
 refine RK.V (Eff.call0 (g_Principal ⟨1, 1, 6⟩ (by unfold L; decide) (by unfold L; decide) (by unfold L; decide)  fx_x3)) ?_
 refine RK.V (op_move (rfl : _ = AV.t _))<|RK.V (op_extract rfl (v := .c _) rfl)<|RK.V (op_extract rfl (v := .c _) rfl)<|RK.As rfl<|RK.As rfl<|RK.D<|AWp_sr hP<|RK.V (Eff.call0 (r_Of _ (by first | assumption | decide))) ?_
 refine RK.V (Eff.call0 (g_AmbiguousS (-20) ((show L 6 (-20) by unfold L; decide).mono (by decide)) fx_hA)) ?_
 refine RK.V (op_move (rfl : _ = AV.t _))<|RK.V (op_extract rfl (v := .c _) rfl)<|RK.V (op_extract rfl (v := .c _) rfl)<|RK.As rfl<|RK.As rfl<|RK.D<|AWp_sr hP<|RK.V (Eff.call0 (r_Of _ (by first | assumption | decide))) ?_
 refine RK.V (Eff.call0 (g_Characters (5) ((show L 6 (5) by unfold L; decide).mono (by decide)))) ?_
 refine RK.V (op_move (rfl : _ = AV.t _))<|RK.V (op_extract rfl (v := .c _) rfl)<|RK.V (op_extract rfl (v := .c _) rfl)<|RK.As rfl<|RK.As rfl<|RK.D<|AWp_sr hP<|RK.V (Eff.call0 (r8_Of (2) (2) (2) (by unfold InI64; decide) (by unfold InI64; decide) (by unfold InI64; decide) )) ?_
 refine RK.V (Eff.call0 (g_Values ⟨2, 2, 2⟩ (by unfold L; decide) (by unfold L; decide) (by unfold L; decide)  (fun h => absurd h fx_e4))) ?_
 refine RK.V (op_move (rfl : _ = AV.t _))<|RK.V (op_extract rfl (v := .c _) rfl)<|RK.V (op_extract rfl (v := .c _) rfl)<|RK.As rfl<|RK.As rfl<|RK.D<|AWp_seq<|AWp_sr hP<|RK.M rfl<|RK.V (op_neq rfl rfl) ?_
 refine RK.M rfl<|RK.val (guard_yes rfl rfl (by decide +kernel)) (op_move (rfl : _ = AV.p (.c _))) ?_
 refine RK.val (guard_yes rfl rfl (by decide +kernel)) (op_neq rfl rfl) ?_
 refine RK.V (op_pick_f rfl (by decide +kernel) (rfl : _ = AV.p (.c _))) ?_
 refine RK.M rfl<|RK.val (guard_yes rfl rfl (by decide +kernel)) (op_move (rfl : _ = AV.p (.c _))) ?_
 refine RK.val (guard_yes rfl rfl (by decide +kernel)) (op_neq rfl rfl) ?_
 refine RK.V (op_pick_f rfl (by decide +kernel) (rfl : _ = AV.p (.c _))) ?_
 refine RK.M rfl<|RK.val (guard_yes rfl rfl (by decide +kernel)) (op_move (rfl : _ = AV.p (.c _))) ?_
 refine RK.val (guard_yes rfl rfl (by decide +kernel)) (op_neq rfl rfl) ?_
 refine RK.V (op_pick_f rfl (by decide +kernel) (rfl : _ = AV.p (.c _))) ?_
 refine RK.M rfl<|RK.val (guard_yes rfl rfl (by decide +kernel)) (op_move (rfl : _ = AV.p (.c _))) ?_
 refine RK.val (guard_yes rfl rfl (by decide +kernel)) (op_neq rfl rfl) ?_
 refine RK.V (op_pick_f rfl (by decide +kernel) (rfl : _ = AV.p (.c _))) ?_
 refine RK.M rfl<|RK.val (guard_yes rfl rfl (by decide +kernel)) (op_move (rfl : _ = AV.p (.c _))) ?_
 refine RK.val (guard_yes rfl rfl (by decide +kernel)) (op_neq rfl rfl) ?_
 refine RK.V (op_pick_f rfl (by decide +kernel) (rfl : _ = AV.p (.c _))) ?_
 refine RK.M rfl<|RK.val (guard_yes rfl rfl (by decide +kernel)) (op_move (rfl : _ = AV.p (.c _))) ?_
 refine RK.val (guard_yes rfl rfl (by decide +kernel)) (op_neq rfl rfl) ?_
 refine RK.V (op_pick_f rfl (by decide +kernel) (rfl : _ = AV.p (.c _))) ?_
 refine RK.M rfl<|RK.val (guard_yes rfl rfl (by decide +kernel)) (op_move (rfl : _ = AV.p (.c _))) ?_
 refine RK.val (guard_yes rfl rfl (by decide +kernel)) (op_neq rfl rfl) ?_
 refine RK.V (op_pick_f rfl (by decide +kernel) (rfl : _ = AV.p (.c _))) ?_
 refine RK.M rfl<|RK.val (guard_yes rfl rfl (by decide +kernel)) (op_move (rfl : _ = AV.p (.c _))) ?_
 refine RK.val (guard_yes rfl rfl (by decide +kernel)) (op_neq rfl rfl) ?_
 refine RK.V (op_pick_f rfl (by decide +kernel) (rfl : _ = AV.p (.c _))) ?_
 refine RK.M rfl<|RK.val (guard_yes rfl rfl (by decide +kernel)) (op_move (rfl : _ = AV.p (.c _))) ?_
 refine RK.val (guard_yes rfl rfl (by decide +kernel)) (op_neq rfl rfl) ?_
 refine RK.V (op_pick_f rfl (by decide +kernel) (rfl : _ = AV.p (.c _))) ?_
 refine RK.M rfl<|RK.val (guard_yes rfl rfl (by decide +kernel)) (op_move (rfl : _ = AV.p (.c _))) ?_
 refine RK.val (guard_yes rfl rfl (by decide +kernel)) (op_neq rfl rfl) ?_
 refine RK.V (op_pick_f rfl (by decide +kernel) (rfl : _ = AV.p (.c _))) ?_
 refine RK.M rfl<|RK.val (guard_yes rfl rfl (by decide +kernel)) (op_move (rfl : _ = AV.p (.c _))) ?_
 refine RK.V (op_pick_f rfl (by decide +kernel) (rfl : _ = AV.p (.c _))) ?_
 refine RK.M rfl<|RK.val (guard_yes rfl rfl (by decide +kernel)) (op_move (rfl : _ = AV.p (.c _))) ?_
 refine RK.val (guard_yes rfl rfl (by decide +kernel)) (op_unot rfl) ?_
 refine RK.V (op_pick_f rfl (by decide +kernel) (rfl : _ = AV.p (.c _))) ?_
 refine RK.M rfl<|RK.val (guard_yes rfl rfl (by decide +kernel)) (op_move (rfl : _ = AV.p (.c _))) ?_
 refine RK.val (guard_yes rfl rfl (by decide +kernel)) (op_neq rfl rfl) ?_
 refine RK.V (op_pick_f rfl (by decide +kernel) (rfl : _ = AV.p (.c _))) ?_
 refine RK.D<|AWp_cond_false rfl (by decide +kernel) ?_
 refine AWp_skip<|AWp_seq<|AWp_sr hP<|RK.M rfl<|RK.V (op_bslice hT rfl rfl rfl (es := [_]) rfl rfl rfl) ?_
 refine RK.V (Eff.call0 (r10_SameList (chE (-23)) [23] (by decide +kernel))) ?_
 refine RK.V (op_unot rfl) ?_
 refine RK.M rfl<|RK.val (guard_yes rfl rfl (by decide +kernel)) (op_move (rfl : _ = AV.p (.c _))) ?_
 refine RK.val (guard_yes rfl rfl (by decide +kernel)) (op_bslice hT rfl rfl rfl (es := [_, _]) rfl rfl rfl) ?_
 refine RK.val (guard_yes rfl rfl (by decide +kernel)) (Eff.call0 (r10_SameList (chE (-20)) [5, -4] (by decide +kernel))) ?_
 refine RK.val (guard_yes rfl rfl (by decide +kernel)) (op_unot rfl) ?_
 refine RK.V (op_pick_f rfl (by decide +kernel) (rfl : _ = AV.p (.c _))) ?_
 refine RK.M rfl<|RK.val (guard_yes rfl rfl (by decide +kernel)) (op_move (rfl : _ = AV.p (.c _))) ?_
 refine RK.val (guard_yes rfl rfl (by decide +kernel)) (op_bslice hT rfl rfl rfl (es := [_, _]) rfl rfl rfl) ?_
 refine RK.val (guard_yes rfl rfl (by decide +kernel)) (Eff.call0 (r10_SameList (chE (-32)) [-4, 8] (by decide +kernel))) ?_
 refine RK.val (guard_yes rfl rfl (by decide +kernel)) (op_unot rfl) ?_
 refine RK.V (op_pick_f rfl (by decide +kernel) (rfl : _ = AV.p (.c _))) ?_
 refine RK.M rfl<|RK.val (guard_yes rfl rfl (by decide +kernel)) (op_move (rfl : _ = AV.p (.c _))) ?_
 refine RK.val (guard_yes rfl rfl (by decide +kernel)) (op_bslice hT rfl rfl rfl (es := [_, _]) rfl rfl rfl) ?_
 refine RK.val (guard_yes rfl rfl (by decide +kernel)) (Eff.call0 (r10_SameList (gvL ⟨2, 2, 3⟩) [-1, -1] (by decide +kernel))) ?_
 refine RK.val (guard_yes rfl rfl (by decide +kernel)) (op_unot rfl) ?_
 refine RK.V (op_pick_f rfl (by decide +kernel) (rfl : _ = AV.p (.c _))) ?_
 refine RK.M rfl<|RK.val (guard_yes rfl rfl (by decide +kernel)) (op_move (rfl : _ = AV.p (.c _))) ?_
 refine RK.val (guard_yes rfl rfl (by decide +kernel)) (op_bslice hT rfl rfl rfl (es := [_, _]) rfl rfl rfl) ?_
 refine RK.val (guard_yes rfl rfl (by decide +kernel)) (Eff.call0 (r10_SameList (gvL ⟨1, 0, 5⟩) [1, 1] (by decide +kernel))) ?_
 refine RK.val (guard_yes rfl rfl (by decide +kernel)) (op_unot rfl) ?_
 refine RK.V (op_pick_f rfl (by decide +kernel) (rfl : _ = AV.p (.c _))) ?_
 refine RK.D<|AWp_cond_false rfl (by decide +kernel) ?_
 refine AWp_skip<|AWp_sr hP<|RK.M rfl<|RK.V (op_len hT rfl rfl rfl (by rfl)) ?_
 refine RK.V (op_eql rfl rfl) ?_
 refine RK.M rfl<|RK.val (guard_yes rfl rfl (by decide +kernel)) (op_move (rfl : _ = AV.p (.c _))) ?_
 refine RK.val (guard_yes rfl rfl (by decide +kernel)) (op_indexF hT (n := 0) rfl rfl rfl rfl rfl rfl (by decide +kernel)) ?_
 refine RK.val (guard_yes rfl rfl (by decide +kernel)) (op_load_ip_agg hT rfl rfl rfl (cs := FC ((amE (-20)).getD 0 ⟨0, 0, 0⟩)) rfl rfl) ?_
 refine RK.val (guard_yes rfl rfl (by decide +kernel)) (Eff.call0 (r8_Of (1) (0) (5) (by unfold InI64; decide) (by unfold InI64; decide) (by unfold InI64; decide) )) ?_
 refine RK.val (guard_yes rfl rfl (by decide +kernel)) (Eff.call0 (r8_Equal ((amE (-20)).getD 0 ⟨0, 0, 0⟩).a ((amE (-20)).getD 0 ⟨0, 0, 0⟩).b ((amE (-20)).getD 0 ⟨0, 0, 0⟩).c 1 0 5)) ?_
 refine RK.V (op_pick_t rfl (by decide +kernel) (rfl : _ = AV.p (.c _))) ?_
 refine RK.M rfl<|RK.val (guard_yes rfl rfl (by decide +kernel)) (op_move (rfl : _ = AV.p (.c _))) ?_
 refine RK.val (guard_yes rfl rfl (by decide +kernel)) (op_indexF hT (n := 1) rfl rfl rfl rfl rfl rfl (by decide +kernel)) ?_
 refine RK.val (guard_yes rfl rfl (by decide +kernel)) (op_load_ip_agg hT rfl rfl rfl (cs := FC ((amE (-20)).getD 1 ⟨0, 0, 0⟩)) rfl rfl) ?_
 refine RK.val (guard_yes rfl rfl (by decide +kernel)) (Eff.call0 (r8_Of (2) (2) (3) (by unfold InI64; decide) (by unfold InI64; decide) (by unfold InI64; decide) )) ?_
 refine RK.val (guard_yes rfl rfl (by decide +kernel)) (Eff.call0 (r8_Equal ((amE (-20)).getD 1 ⟨0, 0, 0⟩).a ((amE (-20)).getD 1 ⟨0, 0, 0⟩).b ((amE (-20)).getD 1 ⟨0, 0, 0⟩).c 2 2 3)) ?_
 refine RK.V (op_pick_t rfl (by decide +kernel) (rfl : _ = AV.p (.c _))) ?_
 refine RK.As rfl<|RK.D<|AWp_ret ?_
 refine ends_one rfl (.inr rfl) (res_tmp rfl) ?_ O_ends
 exact Sub.bool (by decide +kernel)
end Go.Proofs.YtpaifigafaijpaaGreatDoor
end
section
namespace Go.Proofs.YtpaifigafaijpaaGreatDoor
open Go Go.AM
def sortT_ren : Go.Shelf.Ren := ⟨fun | 6 => 79 | 15 => 152 | 14 => 151 | 28 => 205 | 29 => 206 | 20 => 197 | 21 => 198 | 22 => 199 | 23 => 200 | 24 => 201 | 25 => 202 | 26 => 203 | 27 => 204 | 46 => 231 | 47 => 232 | 48 => 233 | 49 => 234 | 50 => 235 | 57 => 247 | n => n, fun | 22 => 121 | 24 => 122 | 25 => 129 | 3 => 3 | 39 => 112 | 0 => 0 | 53 => 111 | 55 => 110 | 4 => 4 | 46 => 201 | 45 => 200 | 50 => 193 | 5 => 5 | 9 => 9 | 66 => 224 | 70 => 228 | 76 => 240 | 77 => 241 | n => n, fun | n => n⟩
theorem sortT : Go.Proofs.SlLaysF0.n6 Tryz.prog sortT_ren := {
 mixed := by kernel_rfl
 f6 := ⟨Tryz.f79.name, by decide, Tryz.func79.trans (congrArg some (by kernel_rfl))⟩
 f14 := ⟨Tryz.f151.name, by decide, Tryz.func151.trans (congrArg some (by kernel_rfl))⟩
 f15 := Tryz.func152.trans (congrArg some (by kernel_rfl))
 f20 := ⟨Tryz.f197.name, by decide, Tryz.func197.trans (congrArg some (by kernel_rfl))⟩
 f21 := ⟨Tryz.f198.name, by decide, Tryz.func198.trans (congrArg some (by kernel_rfl))⟩
 f22 := ⟨Tryz.f199.name, by decide, Tryz.func199.trans (congrArg some (by kernel_rfl))⟩
 f23 := ⟨Tryz.f200.name, by decide, Tryz.func200.trans (congrArg some (by kernel_rfl))⟩
 f24 := ⟨Tryz.f201.name, by decide, Tryz.func201.trans (congrArg some (by kernel_rfl))⟩
 f25 := ⟨Tryz.f202.name, by decide, Tryz.func202.trans (congrArg some (by kernel_rfl))⟩
 f26 := ⟨Tryz.f203.name, by decide, Tryz.func203.trans (congrArg some (by kernel_rfl))⟩
 f27 := ⟨Tryz.f204.name, by decide, Tryz.func204.trans (congrArg some (by kernel_rfl))⟩
 f28 := Tryz.func205.trans (congrArg some (by kernel_rfl))
 f29 := Tryz.func206.trans (congrArg some (by kernel_rfl))
 f46 := ⟨Tryz.f231.name, by decide, Tryz.func231.trans (congrArg some (by kernel_rfl))⟩
 f47 := Tryz.func232.trans (congrArg some (by kernel_rfl))
 f48 := Tryz.func233.trans (congrArg some (by kernel_rfl))
 f49 := ⟨Tryz.f234.name, by decide, Tryz.func234.trans (congrArg some (by kernel_rfl))⟩
 f50 := ⟨Tryz.f235.name, by decide, Tryz.func235.trans (congrArg some (by kernel_rfl))⟩
 f57 := ⟨Tryz.f247.name, by decide, Tryz.func247.trans (congrArg some (by kernel_rfl))⟩
 t0 := Tryz.underlying0
 a0 := Tryz.isAgg0
 z0 := Tryz.sizeOf0
 v0 := Tryz.zeroValue0
 t3 := Tryz.underlying3
 a3 := Tryz.isAgg3
 z3 := Tryz.sizeOf3
 v3 := Tryz.zeroValue3
 t4 := Tryz.underlying4
 a4 := Tryz.isAgg4
 z4 := Tryz.sizeOf4
 v4 := Tryz.zeroValue4
 t5 := Tryz.underlying5
 a5 := Tryz.isAgg5
 z5 := Tryz.sizeOf5
 v5 := Tryz.zeroValue5
 t9 := Tryz.underlying9
 a9 := Tryz.isAgg9
 z9 := Tryz.sizeOf9
 v9 := Tryz.zeroValue9
 t22 := Tryz.underlying121
 a22 := Tryz.isAgg121
 z22 := Tryz.sizeOf121
 v22 := Tryz.zeroValue121
 t25 := Tryz.underlying129
 a25 := Tryz.isAgg129
 z25 := Tryz.sizeOf129
 v25 := Tryz.zeroValue129
 t39 := Tryz.underlying112
 a39 := Tryz.isAgg112
 z39 := Tryz.sizeOf112
 v39 := Tryz.zeroValue112
 t45 := Tryz.underlying200
 a45 := Tryz.isAgg200
 z45 := Tryz.sizeOf200
 v45 := Tryz.zeroValue200
 t46 := Tryz.underlying201
 a46 := Tryz.isAgg201
 z46 := Tryz.sizeOf201
 v46 := Tryz.zeroValue201
 t50 := Tryz.underlying193
 a50 := Tryz.isAgg193
 z50 := Tryz.sizeOf193
 v50 := Tryz.zeroValue193
 t53 := Tryz.underlying111
 a53 := Tryz.isAgg111
 z53 := Tryz.sizeOf111
 v53 := Tryz.zeroValue111
 t55 := Tryz.underlying110
 a55 := Tryz.isAgg110
 z55 := Tryz.sizeOf110
 v55 := Tryz.zeroValue110
 t66 := Tryz.underlying224
 a66 := Tryz.isAgg224
 z66 := Tryz.sizeOf224
 v66 := Tryz.zeroValue224
 t70 := Tryz.underlying228
 a70 := Tryz.isAgg228
 z70 := Tryz.sizeOf228
 v70 := Tryz.zeroValue228
 t76 := Tryz.underlying240
 a76 := Tryz.isAgg240
 z76 := Tryz.sizeOf240
 v76 := Tryz.zeroValue240
 t77 := Tryz.underlying241
 a77 := Tryz.isAgg241
 z77 := Tryz.sizeOf241
 v77 := Tryz.zeroValue241 }
theorem sl_SortT (m : Nat) (l l' : List Fm) (hp : l'.Perm l) (hs : l'.Pairwise fun x y => ¬ cm3 y x < 0) (ha : ∀ x ∈ l, ∀ y ∈ l, ¬ cm3 x y < 0 → ¬ cm3 y x < 0 → x = y) :
  CallM Tryz.prog 79 [.vec m, .p (.c (.v (.func (.func 80) #[] #[])))] (upd O m (some (TB 122 l))) (.t []) (upd O m (some (TB 122 l'))) :=
 sort_callM sortT hT (j := ty122) rfl rfl rfl (by decide) TC_one cm3 cm3_swo (fun x y => g_cm3 x y) hp hs ha
theorem sl_CompactN0 (l : List Fm) (hl : l.length ≤ 10000) (hno : NoN l) :
  CallM Tryz.prog 83 [.vec 0] (upd O 0 (some (TB 122 l))) (.p (.c (TS l))) (O) := by
 refine callM_of (np := 1) Tryz.func83 (by kernel_rfl) rfl rfl (Nat.le_of_ble_eq_true rfl) upd1_lt (fun m h => absurd rfl h) rfl ?_
 refine AWp_sr hP<|RK.As rfl<|RK.D<|AWp_freezeT (t := 0) rfl rfl ?_
 refine AWp_seq<|AWp_sr hP<|RK.M rfl<|RK.V (op_len hT rfl rfl rfl (by rfl)) ?_
 refine RK.V (op_lss rfl rfl)<|RK.D ?_
 refine AWp_cond rfl (fun hb1 => ?_) (fun hb1 => ?_)
 ·have hb1_ := of_decide_eq_true hb1
  refine AWp_sr hP<|RK.M rfl<|RK.As rfl<|RK.D<|AWp_ret ?_
  refine ends_one rfl (.inr rfl) (res_tmp rfl) ?_ O_ends
  exact .refl _
 ·have hb1_ := of_decide_eq_false hb1
  refine AWp_skip<|AWp_seq<|AWp_sr hP<|RK.As rfl<|RK.D<|AWp_block<|AWp_loop (ι := Nat) (fun k => stL [(0, .p (.c (TS l))), (3, Z (k : Int))] []) (fun k => 1 ≤ k) (fun k => l.length - k) 1 (Nat.le_refl _) (le_stL ⟨.refl _, .refl _, trivial⟩ trivial) ?_
  intro k hk
  refine AWp_seq<|AWp_sr hP<|RK.M rfl<|RK.M rfl<|RK.V (op_len hT rfl rfl rfl (by rfl)) ?_
  refine RK.V (op_lss rfl rfl)<|RK.D ?_
  refine AWp_cond rfl (fun hb2 => ?_) (fun hb2 => ?_)
  ·have hb2_ := of_decide_eq_true hb2
   refine AWp_skip<|AWp_seq<|AWp_block<|AWp_sr hP<|RK.M rfl<|RK.M rfl<|RK.V (op_indexT hT (n := (k : Int)) rfl rfl rfl rfl rfl rfl (by omega)) ?_
   refine RK.V (op_load_ip_agg hT rfl rfl rfl (cs := TC (l.getD k ⟨0, 0, 0⟩)) rfl rfl) ?_
   refine RK.M rfl<|RK.M rfl<|RK.V (op_sub rfl rfl (by first | exact IntWalk.i64_in _ (by omega) | rfl)) ?_
   refine RK.V (op_indexT hT (n := (k : Int) - 1) rfl rfl rfl rfl rfl rfl (by omega)) ?_
   refine RK.V (op_load_ip_agg hT rfl rfl rfl (cs := TC (l.getD ((k : Int) - 1).toNat ⟨0, 0, 0⟩)) rfl rfl) ?_
   refine RK.V (op_eqlT hT rfl rfl rfl rfl rfl rfl rfl (by kernel_rfl)) ?_
   refine RK.D<|AWp_cond_false rfl (decide_eq_false (hno.at hk hb2_)) ?_
   refine AWp_skip<|AWp_region hP<|RK.M rfl<|RK.V (op_add rfl rfl (by first | exact IntWalk.i64_in _ (by omega) | rfl)) ?_
   refine RK.As rfl<|RK.D ?_
   refine ⟨k + 1, by omega, by omega, le_stL ⟨.refl _, Sub.int (by omega), trivial⟩ trivial⟩
  ·have hb2_ := of_decide_eq_false hb2
   refine AWp_exit<|AWp_sr hP<|RK.M rfl<|RK.As rfl<|RK.D<|AWp_ret ?_
   refine ends_one rfl (.inr rfl) (res_tmp rfl) ?_ O_ends
   exact .refl _
theorem sl_Compact20 (x : Fm) :
  CallM Tryz.prog 83 [.vec 0] (upd O 0 (some (TB 122 ([x, x] : List Fm)))) (.p (.c (TS ([x] : List Fm)))) (O) := by
 refine callM_of (np := 1) Tryz.func83 (by kernel_rfl) rfl rfl (Nat.le_of_ble_eq_true rfl) upd1_lt (fun m h => absurd rfl h) rfl ?_
 refine AWp_sr hP<|RK.As rfl<|RK.D<|AWp_seq<|AWp_sr hP<|RK.V (op_move (rfl : _ = AV.vec _))<|RK.V (op_len_vecG hT TC_one rfl (l := ([x, x] : List Fm)) rfl rfl rfl rfl) ?_
 refine RK.V (op_lss rfl rfl)<|RK.D<|AWp_cond_false rfl rfl ?_
 refine AWp_skip<|AWp_seq<|AWp_sr hP<|RK.As rfl<|RK.D<|AWp_block<|AWp_unroll 1 ?_
 refine AWp_seq<|AWp_sr hP<|RK.M rfl<|RK.V (op_move (rfl : _ = AV.vec _))<|RK.V (op_len_vecG hT TC_one rfl (l := ([x, x] : List Fm)) rfl rfl rfl rfl) ?_
 refine RK.V (op_lss rfl rfl)<|RK.D<|AWp_cond_true rfl rfl ?_
 refine AWp_skip<|AWp_seq<|AWp_block<|AWp_sr hP<|RK.V (op_move (rfl : _ = AV.vec _))<|RK.M rfl<|RK.V (op_index_vecG hT TC_one (n := 1) (l := ([x, x] : List Fm)) rfl rfl rfl rfl rfl rfl rfl rfl (Nat.le_of_ble_eq_true rfl)) ?_
 refine RK.V (op_load_vecG hT TC_one ⟨0, 0, 0⟩ (n := 1) (l := ([x, x] : List Fm)) rfl rfl rfl rfl rfl (Nat.le_of_ble_eq_true rfl)) ?_
 refine RK.V (op_move (rfl : _ = AV.vec _))<|RK.M rfl<|RK.V (op_sub rfl rfl (by first | exact IntWalk.i64_in _ (by omega) | rfl)) ?_
 refine RK.V (op_index_vecG hT TC_one (n := 0) (l := ([x, x] : List Fm)) rfl rfl rfl rfl rfl rfl rfl rfl (Nat.le_of_ble_eq_true rfl)) ?_
 refine RK.V (op_load_vecG hT TC_one ⟨0, 0, 0⟩ (n := 0) (l := ([x, x] : List Fm)) rfl rfl rfl rfl rfl (Nat.le_of_ble_eq_true rfl)) ?_
 refine RK.V (op_eqlT hT rfl rfl rfl rfl rfl rfl rfl (by kernel_rfl)) ?_
 refine RK.D<|AWp_cond_true rfl (decide_eq_true rfl) ?_
 refine AWp_sr hP<|RK.V (op_move (rfl : _ = AV.vec _))<|RK.M rfl<|RK.V (op_slice_vl hT (n := 1) (l := 2) (z := 3) (cs := ([x, x] : List Fm).flatMap TC) rfl rfl rfl rfl rfl rfl rfl rfl rfl (by decide)) ?_
 refine RK.V (op_assign (rfl : _ = AV.ax _))<|RK.D<|AWp_seq<|AWp_sr hP<|RK.As rfl<|RK.D<|AWp_block<|AWp_unroll 1 ?_
 refine AWp_seq<|AWp_sr hP<|RK.M rfl<|RK.V (op_move (rfl : _ = AV.ax _))<|RK.V (op_len_ax hT rfl rfl rfl) ?_
 refine RK.V (op_lss rfl rfl)<|RK.D<|AWp_cond_false rfl rfl ?_
 refine AWp_exit<|AWp_seq ?_
 refine AWp_clearG hT (m := 0) (z := 3) (n := 1) (l := 2) (cs := ([x, x] : List Fm).flatMap TC) rfl rfl rfl rfl rfl rfl rfl rfl (by decide) rfl rfl rfl rfl (fun zs hz => ?_)
 refine AWp_freeze (t := 0) (n := 2) rfl rfl rfl (by show 2 * 3 = _; rw [List.length_append, hz]; rfl) (Nat.zero_lt_succ 2) ?_
 refine AWp_sr hP<|RK.M rfl<|RK.M rfl<|RK.V (op_slice_h hT rfl rfl rfl rfl (by rfl) rfl (by rw [List.length_append, hz]; rfl) (by decide) zs3_take) ?_
 refine RK.As rfl<|RK.D<|AWp_ret ?_
 refine ends_one rfl (.inr rfl) (res_tmp rfl) ?_ O_ends
 exact .refl _
theorem sl_CompactA (m : Nat) (l : List Fm) (hl : l.length ≤ 10000) (h : (NoN l ∧ cpt l = l) ∨ ∃ x, l = [x, x]) : CallM Tryz.prog 83 [.vec m] (upd O m (some (TB 122 l))) (.p (.c (TS (cpt l)))) O := by
 rcases h with ⟨h, e⟩ | ⟨x, e⟩
 ·rw [e]; exact CallM.ren1O m (sl_CompactN0 l hl h) rfl rfl
 ·rw [e, cpt_two]; exact CallM.ren1O m (sl_Compact20 x) rfl rfl
theorem g_Ambiguous (d : Int) (hd : L 40 d) :
  Call0 Tryz.prog 23 [I d] (.t [.c (FS (amA d)), PE (szE d)]) := by
 have id0 : LB d 40 := ⟨hd⟩
 refine callM_of (np := 0) Tryz.func23 (by kernel_rfl) rfl rfl (Nat.le_of_ble_eq_true rfl) (fun m h => absurd rfl h) (fun m h => absurd rfl h) rfl ?_
 refine AWp_sr hP<|RK.alc guard_none (op_box rfl rfl)<|RK.As rfl<|RK.As rfl<|RK.D<|AWp_sr hP<|RK.G2 hT rfl rfl rfl rfl rfl rfl<|RK.V (Eff.call0 (g_right _ hd)) ?_
 refine RK.V (op_move (rfl : _ = AV.t _))<|RK.V (op_extract rfl (v := .c _) rfl)<|RK.V (op_extract rfl (v := .c _) rfl)<|RK.As rfl<|RK.As rfl<|RK.D<|AWp_seq<|AWp_sr hP<|RK.M rfl<|RK.V (op_neq rfl rfl) ?_
 refine RK.D ?_
 refine AWp_cond rfl (fun hb1 => ?_) (fun hb1 => ?_)
 ·have hb1_ := bneT hb1
  refine AWp_sr hP<|RK.M rfl<|RK.As rfl<|RK.As rfl<|RK.D<|AWp_ret ?_
  refine ends_two rfl (.inr rfl) (res_tmp rfl) (res_tmp rfl) ?_ O_ends
  exact (by rw [amA_n hb1_]; exact Sub.tup ⟨DSub.nil_sl, .refl _, trivial⟩)
 ·have hb1_ := bneF hb1
  have he : szE d = 0 := hb1_
  obtain ⟨e1, e2, e3⟩ := gnV_0 he
  have hmm : 0 < -d ∧ -d ≤ 4194304 := by omega
  obtain ⟨m, hm⟩ : ∃ m, -d = m := ⟨_, rfl⟩
  rw [hm] at hmm
  have hdm : d = -m := by omega
  rw [e1]
  refine AWp_skip<|AWp_sr hP<|RK.As rfl<|RK.D<|AWp_nilV 6 1000 3 122 rfl rfl ?_
  refine AWp_sr hP<|RK.M rfl<|RK.V (op_uneg rfl (c := m) (by rw [IntWalk.i64_in _ (by omega)]; omega)) ?_
  refine RK.alc guard_none (op_alloc hT rfl rfl)<|RK.S hT rfl rfl rfl rfl rfl rfl rfl<|RK.D<|AWp_freezeBox (t := 7) rfl rfl ?_
  refine AWp_sr hP<|RK.V (op_makeFuncD rfl) ?_
  refine RK.V (op_makeFuncD rfl) ?_
  refine RK.V (op_makeFuncD rfl) ?_
  refine RK.V (op_bslice hT rfl rfl rfl (es := [_, _, _]) rfl rfl rfl) ?_
  refine RK.As rfl<|RK.D<|AWp_seq<|AWp_sr hP<|RK.As rfl<|RK.D<|AWp_block<|AWp_loop (ι := Nat) (fun k => stL [(4, Z d), (6, .vec 1000), (7, .ip [IC m]), (8, .p (.c (.sl 3 [shF 75 m 0, shF 75 m 1, shF 75 m 2]))), (9, Z ((k : Int) + 1))] [(1000, TB 122 (amG m k))]) (fun k => k ≤ amS m) (fun k => amS m - k) 0 (Nat.zero_le _) (le_stL ⟨.refl _, .refl _, .refl _, .refl _, .refl _, trivial⟩ ⟨rfl, trivial⟩) ?_
  intro k hk
  refine AWp_seq<|AWp_sr hP<|RK.M rfl<|RK.M rfl<|RK.V (op_mul rfl rfl (by first | exact IntWalk.i64_in _ (by omega) | rfl)) ?_
  refine RK.V (op_load_ip_one hT rfl rfl rfl (by first | rfl | exact wget (by omega))) ?_
  refine RK.V (op_leq rfl rfl) ?_
  refine RK.D ?_
  refine AWp_cond rfl (fun hb2 => ?_) (fun hb2 => ?_)
  ·have hb2_ := of_decide_eq_true hb2
   have hkk : ((k : Int) + 1) * ((k : Int) + 1) ≤ m := amS_w hmm hk ▸ hb2_
   have hk1 := amS_next hmm hk hkk
   have hkb := shp_b hmm (k := ((k : Int) + 1)) (by omega) hkk
   refine AWp_skip<|AWp_seq<|AWp_block<|AWp_sr hP<|RK.M rfl<|RK.V (op_len hT rfl rfl rfl (by rfl)) ?_
   refine RK.M rfl<|RK.D<|AWp_block<|AWp_loop (ι := Nat) (fun j => stL [(4, Z d), (6, .vec 1000), (7, .ip [IC m]), (8, .p (.c (.sl 3 [shF 75 m 0, shF 75 m 1, shF 75 m 2]))), (9, Z ((k : Int) + 1)), (38, .p (.c (.sl 3 [shF 75 m 0, shF 75 m 1, shF 75 m 2]))), (39, Z 3), (40, Z (j : Int))] [(1000, TB 122 (amG m k ++ amR m ((k : Int) + 1) j))]) (fun j => j ≤ 3) (fun j => 3 - j) 0 (Nat.zero_le _) (le_stL ⟨.refl _, .refl _, .refl _, .refl _, .refl _, .refl _, .refl _, .refl _, trivial⟩ ⟨Eq.trans rfl (congrArg (fun x => some (TB 122 x)) ((List.append_nil _).symm)), trivial⟩) ?_
   intro j hj
   refine AWp_sr hP<|RK.V (op_lss rfl rfl)<|RK.D<|AWp_seq ?_
   refine AWp_cond rfl (fun hb3 => ?_) (fun hb3 => ?_)
   ·have hb3_ := of_decide_eq_true hb3
    have hj3 : (j : Int) < 3 := hb3_
    have cSh := g_shape m ((k : Int) + 1) j hj3 hmm (by omega) hkk
    have hbd := shp_bd hmm (k := ((k : Int) + 1)) (by omega) hkk j
    have hlG := amG_len m k
    have hlR := amR_len m ((k : Int) + 1) j
    obtain ⟨f, hfe⟩ : ∃ f, shp m ((k : Int) + 1) j = f := ⟨_, rfl⟩
    rw [hfe] at hbd
    have hbb := sq_b (x := f.b) (m := 4200000) (by omega)
    have hac : 0 ≤ 4 * f.a * f.c ∧ 4 * f.a * f.c ≤ 16800000 * 4200000 := ⟨Int.mul_nonneg (by omega) (by omega), Int.mul_le_mul (by omega) (by omega) (by omega) (by omega)⟩
    have jfa : InI64 f.a := by unfold InI64; omega
    have jfb : InI64 f.b := by unfold InI64; omega
    have jfc : InI64 f.c := by unfold InI64; omega
    have hgg := gg_abs f.a f.b
    have hgl : Int.gcd f.a f.b ≤ 4200000 ∨ f.a = 0 := by
     rcases (show f.a = 0 ∨ 0 < f.a by omega) with q | q
     ·exact .inr q
     ·exact .inl (Nat.le_trans (Nat.le_of_dvd (by omega) (Nat.gcd_dvd_left _ _)) (by omega))
    have jgg : InI64 (gg f.a f.b) := by
     rcases hgl with q | q
     ·unfold InI64; omega
     ·have : Int.gcd f.a f.b = f.b.natAbs := by rw [q]; simp
      unfold InI64; omega
    refine AWp_skip<|AWp_seq<|AWp_block<|AWp_sr hP<|RK.V (op_index_sl hT (n := (j : Int)) rfl rfl rfl rfl (by rfl) rfl (by omega) (by simp)) ?_
    refine RK.V (op_load_ip_one hT rfl rfl rfl (sh_get hj3)) ?_
    refine RK.As rfl<|RK.D<|AWp_sr hP<|RK.M rfl<|RK.M rfl<|RK.V (hfe ▸ Eff.callSh (f := 75) (m := m) (k := ((k : Int) + 1)) (j := j) rfl rfl cSh) ?_
    refine RK.alc guard_none (op_alloc hT rfl rfl)<|RK.S hT rfl rfl rfl rfl rfl rfl rfl<|RK.D<|AWp_sr hP<|RK.V (op_index_arr hT rfl rfl rfl rfl rfl (by first | decide | omega)) ?_
    refine RK.V (op_load_one hT rfl rfl rfl rfl (by first | rfl | exact vget (by omega))) ?_
    refine RK.V (op_index_arr hT rfl rfl rfl rfl rfl (by first | decide | omega)) ?_
    refine RK.V (op_load_one hT rfl rfl rfl rfl (by first | rfl | exact vget (by omega))) ?_
    refine RK.V (op_mul rfl rfl (by first | exact IntWalk.i64_in _ (by omega) | rfl)) ?_
    refine RK.V (op_index_arr hT rfl rfl rfl rfl rfl (by first | decide | omega)) ?_
    refine RK.V (op_load_one hT rfl rfl rfl rfl (by first | rfl | exact vget (by omega))) ?_
    refine RK.V (op_mul rfl rfl (by first | exact IntWalk.i64_in _ (by omega) | rfl)) ?_
    refine RK.V (op_index_arr hT rfl rfl rfl rfl rfl (by first | decide | omega)) ?_
    refine RK.V (op_load_one hT rfl rfl rfl rfl (by first | rfl | exact vget (by omega))) ?_
    refine RK.V (op_mul rfl rfl (by first | exact IntWalk.i64_in _ (by omega) | rfl)) ?_
    refine RK.V (op_sub rfl rfl (by first | exact IntWalk.i64_in _ (by omega) | rfl)) ?_
    refine RK.M rfl<|RK.V (op_eql rfl rfl) ?_
    refine RK.As rfl<|RK.D<|AWp_sr hP<|RK.M rfl<|RK.M rfl ?_
    refine RK.split (t := 62) rfl (fun hg4 => ?_) (fun hg4 => ?_)
    ·have hg4_ := bT hg4
     refine RK.val (guard_yes rfl rfl hg4) (op_index_arr hT rfl rfl rfl rfl rfl (by first | decide | omega)) ?_
     refine RK.val (guard_yes rfl rfl hg4) (op_load_one hT rfl rfl rfl rfl (by first | rfl | exact vget (by omega))) ?_
     refine RK.val (guard_yes rfl rfl hg4) (op_leq rfl rfl) ?_
     refine RK.V (op_pick_t rfl hg4 (rfl : _ = AV.p (.c _))) ?_
     refine RK.M rfl ?_
     refine RK.split (t := 67) rfl (fun hg5 => ?_) (fun hg5 => ?_)
     ·have hg5_ := of_decide_eq_true hg5
      refine RK.val (guard_yes rfl rfl hg5) (op_index_arr hT rfl rfl rfl rfl rfl (by first | decide | omega)) ?_
      refine RK.val (guard_yes rfl rfl hg5) (op_load_one hT rfl rfl rfl rfl (by first | rfl | exact vget (by omega))) ?_
      refine RK.val (guard_yes rfl rfl hg5) (op_index_arr hT rfl rfl rfl rfl rfl (by first | decide | omega)) ?_
      refine RK.val (guard_yes rfl rfl hg5) (op_load_one hT rfl rfl rfl rfl (by first | rfl | exact vget (by omega))) ?_
      refine RK.val (guard_yes rfl rfl hg5) (op_leq rfl rfl) ?_
      refine RK.V (op_pick_t rfl hg5 (rfl : _ = AV.p (.c _))) ?_
      refine RK.M rfl ?_
      refine RK.split (t := 74) rfl (fun hg6 => ?_) (fun hg6 => ?_)
      ·have hg6_ := of_decide_eq_true hg6
       refine RK.val (guard_yes rfl rfl hg6) (op_index_arr hT rfl rfl rfl rfl rfl (by first | decide | omega)) ?_
       refine RK.val (guard_yes rfl rfl hg6) (op_load_one hT rfl rfl rfl rfl (by first | rfl | exact vget (by omega))) ?_
       refine RK.val (guard_yes rfl rfl hg6) (op_index_arr hT rfl rfl rfl rfl rfl (by first | decide | omega)) ?_
       refine RK.val (guard_yes rfl rfl hg6) (op_load_one hT rfl rfl rfl rfl (by first | rfl | exact vget (by omega))) ?_
       refine RK.val (guard_yes rfl rfl hg6) (op_leq rfl rfl) ?_
       refine RK.V (op_pick_t rfl hg6 (rfl : _ = AV.p (.c _))) ?_
       refine RK.M rfl ?_
       refine RK.split (t := 81) rfl (fun hg7 => ?_) (fun hg7 => ?_)
       ·have hg7_ := of_decide_eq_true hg7
        refine RK.val (guard_yes rfl rfl hg7) (op_index_arr hT rfl rfl rfl rfl rfl (by first | decide | omega)) ?_
        refine RK.val (guard_yes rfl rfl hg7) (op_load_one hT rfl rfl rfl rfl (by first | rfl | exact vget (by omega))) ?_
        refine RK.val (guard_yes rfl rfl hg7) (op_index_arr hT rfl rfl rfl rfl rfl (by first | decide | omega)) ?_
        refine RK.val (guard_yes rfl rfl hg7) (op_load_one hT rfl rfl rfl rfl (by first | rfl | exact vget (by omega))) ?_
        refine RK.val (guard_yes rfl rfl hg7) (Eff.call0 (g_gcd _ _ jfa jfb)) ?_
        refine RK.val (guard_yes rfl rfl hg7) (op_index_arr hT rfl rfl rfl rfl rfl (by first | decide | omega)) ?_
        refine RK.val (guard_yes rfl rfl hg7) (op_load_one hT rfl rfl rfl rfl (by first | rfl | exact vget (by omega))) ?_
        refine RK.val (guard_yes rfl rfl hg7) (Eff.call0 (g_gcd _ _ jgg jfc)) ?_
        refine RK.val (guard_yes rfl rfl hg7) (op_eql rfl rfl) ?_
        refine RK.V (op_pick_t rfl hg7 (rfl : _ = AV.p (.c _))) ?_
        refine RK.D ?_
        refine AWp_cond rfl (fun hb8 => ?_) (fun hb8 => ?_)
        ·have hb8_ := bT hb8
         refine AWp_region hP<|RK.V (op_move (rfl : _ = AV.vec _))<|RK.V (op_load_agg hT rfl rfl rfl rfl (cs := [_, _, _]) rfl rfl) ?_
         refine RK.V (op_bslice hT rfl rfl rfl (es := [_, _, _]) rfl rfl rfl) ?_
         refine RK.app guard_none (op_appendT (z := f) hT rfl rfl rfl rfl rfl rfl rfl rfl (by rw [List.length_append]; omega) (by decide)) ?_
         refine RK.V (op_assign (rfl : _ = AV.vec _))<|RK.D<|AWp_rn 95 1000 rfl rfl rfl ?_
         refine AWp_region hP<|RK.V (op_add rfl rfl (by first | exact IntWalk.i64_in _ (by omega) | rfl)) ?_
         refine RK.M rfl<|RK.D ?_
         refine ⟨j + 1, by omega, by omega, le_stL ⟨.refl _, .refl _, .refl _, .refl _, .refl _, .refl _, .refl _, Sub.int (by omega), trivial⟩ ⟨Eq.trans rfl (congrArg (fun x => some (TB 122 x)) (show amG m k ++ amR m ((k : Int) + 1) j ++ [f] = amG m k ++ amR m ((k : Int) + 1) (j + 1) by rw [List.append_assoc, ← hfe, ← amR_yes (hfe ▸ okS_y hdm hg4_ hg5_ hg6_ hg7_ hb8_)])), trivial⟩⟩
        ·have hb8_ := bF hb8
         refine AWp_skip<|AWp_region hP<|RK.V (op_add rfl rfl (by first | exact IntWalk.i64_in _ (by omega) | rfl)) ?_
         refine RK.M rfl<|RK.D ?_
         refine ⟨j + 1, by omega, by omega, le_stL ⟨.refl _, .refl _, .refl _, .refl _, .refl _, .refl _, .refl _, Sub.int (by omega), trivial⟩ ⟨Eq.trans rfl (congrArg (fun x => some (TB 122 x)) ((congrArg (fun x => amG m k ++ x) (amR_no (hfe ▸ okS_5 hb8_)).symm))), trivial⟩⟩
       ·have hg7_ := of_decide_eq_false hg7
        refine RK.skip (guard_no rfl rfl hg7) ?_
        refine RK.skip (guard_no rfl rfl hg7) ?_
        refine RK.skip (guard_no rfl rfl hg7) ?_
        refine RK.skip (guard_no rfl rfl hg7) ?_
        refine RK.skip (guard_no rfl rfl hg7) ?_
        refine RK.skip (guard_no rfl rfl hg7) ?_
        refine RK.skip (guard_no rfl rfl hg7) ?_
        refine RK.skip (guard_no rfl rfl hg7) ?_
        refine RK.skip (guard_no rfl rfl hg7) ?_
        refine RK.V (op_pick_f rfl hg7 (rfl : _ = AV.p (.c _))) ?_
        refine RK.D<|AWp_cond_false rfl rfl ?_
        refine AWp_skip<|AWp_region hP<|RK.V (op_add rfl rfl (by first | exact IntWalk.i64_in _ (by omega) | rfl)) ?_
        refine RK.M rfl<|RK.D ?_
        refine ⟨j + 1, by omega, by omega, le_stL ⟨.refl _, .refl _, .refl _, .refl _, .refl _, .refl _, .refl _, Sub.int (by omega), trivial⟩ ⟨Eq.trans rfl (congrArg (fun x => some (TB 122 x)) ((congrArg (fun x => amG m k ++ x) (amR_no (hfe ▸ okS_4 hg7_)).symm))), trivial⟩⟩
      ·have hg6_ := of_decide_eq_false hg6
       refine RK.skip (guard_no rfl rfl hg6) ?_
       refine RK.skip (guard_no rfl rfl hg6) ?_
       refine RK.skip (guard_no rfl rfl hg6) ?_
       refine RK.skip (guard_no rfl rfl hg6) ?_
       refine RK.skip (guard_no rfl rfl hg6) ?_
       refine RK.V (op_pick_f rfl hg6 (rfl : _ = AV.p (.c _))) ?_
       refine RK.M rfl<|RK.skip (guard_no rfl rfl rfl) ?_
       refine RK.skip (guard_no rfl rfl rfl) ?_
       refine RK.skip (guard_no rfl rfl rfl) ?_
       refine RK.skip (guard_no rfl rfl rfl) ?_
       refine RK.skip (guard_no rfl rfl rfl) ?_
       refine RK.skip (guard_no rfl rfl rfl) ?_
       refine RK.skip (guard_no rfl rfl rfl) ?_
       refine RK.skip (guard_no rfl rfl rfl) ?_
       refine RK.skip (guard_no rfl rfl rfl) ?_
       refine RK.V (op_pick_f rfl rfl (rfl : _ = AV.p (.c _))) ?_
       refine RK.D<|AWp_cond_false rfl rfl ?_
       refine AWp_skip<|AWp_region hP<|RK.V (op_add rfl rfl (by first | exact IntWalk.i64_in _ (by omega) | rfl)) ?_
       refine RK.M rfl<|RK.D ?_
       refine ⟨j + 1, by omega, by omega, le_stL ⟨.refl _, .refl _, .refl _, .refl _, .refl _, .refl _, .refl _, Sub.int (by omega), trivial⟩ ⟨Eq.trans rfl (congrArg (fun x => some (TB 122 x)) ((congrArg (fun x => amG m k ++ x) (amR_no (hfe ▸ okS_3 hg6_)).symm))), trivial⟩⟩
     ·have hg5_ := of_decide_eq_false hg5
      refine RK.skip (guard_no rfl rfl hg5) ?_
      refine RK.skip (guard_no rfl rfl hg5) ?_
      refine RK.skip (guard_no rfl rfl hg5) ?_
      refine RK.skip (guard_no rfl rfl hg5) ?_
      refine RK.skip (guard_no rfl rfl hg5) ?_
      refine RK.V (op_pick_f rfl hg5 (rfl : _ = AV.p (.c _))) ?_
      refine RK.M rfl<|RK.skip (guard_no rfl rfl rfl) ?_
      refine RK.skip (guard_no rfl rfl rfl) ?_
      refine RK.skip (guard_no rfl rfl rfl) ?_
      refine RK.skip (guard_no rfl rfl rfl) ?_
      refine RK.skip (guard_no rfl rfl rfl) ?_
      refine RK.V (op_pick_f rfl rfl (rfl : _ = AV.p (.c _))) ?_
      refine RK.M rfl<|RK.skip (guard_no rfl rfl rfl) ?_
      refine RK.skip (guard_no rfl rfl rfl) ?_
      refine RK.skip (guard_no rfl rfl rfl) ?_
      refine RK.skip (guard_no rfl rfl rfl) ?_
      refine RK.skip (guard_no rfl rfl rfl) ?_
      refine RK.skip (guard_no rfl rfl rfl) ?_
      refine RK.skip (guard_no rfl rfl rfl) ?_
      refine RK.skip (guard_no rfl rfl rfl) ?_
      refine RK.skip (guard_no rfl rfl rfl) ?_
      refine RK.V (op_pick_f rfl rfl (rfl : _ = AV.p (.c _))) ?_
      refine RK.D<|AWp_cond_false rfl rfl ?_
      refine AWp_skip<|AWp_region hP<|RK.V (op_add rfl rfl (by first | exact IntWalk.i64_in _ (by omega) | rfl)) ?_
      refine RK.M rfl<|RK.D ?_
      refine ⟨j + 1, by omega, by omega, le_stL ⟨.refl _, .refl _, .refl _, .refl _, .refl _, .refl _, .refl _, Sub.int (by omega), trivial⟩ ⟨Eq.trans rfl (congrArg (fun x => some (TB 122 x)) ((congrArg (fun x => amG m k ++ x) (amR_no (hfe ▸ okS_2 hg5_)).symm))), trivial⟩⟩
    ·have hg4_ := bF hg4
     refine RK.skip (guard_no rfl rfl hg4) ?_
     refine RK.skip (guard_no rfl rfl hg4) ?_
     refine RK.skip (guard_no rfl rfl hg4) ?_
     refine RK.V (op_pick_f rfl hg4 (rfl : _ = AV.p (.c _))) ?_
     refine RK.M rfl<|RK.skip (guard_no rfl rfl rfl) ?_
     refine RK.skip (guard_no rfl rfl rfl) ?_
     refine RK.skip (guard_no rfl rfl rfl) ?_
     refine RK.skip (guard_no rfl rfl rfl) ?_
     refine RK.skip (guard_no rfl rfl rfl) ?_
     refine RK.V (op_pick_f rfl rfl (rfl : _ = AV.p (.c _))) ?_
     refine RK.M rfl<|RK.skip (guard_no rfl rfl rfl) ?_
     refine RK.skip (guard_no rfl rfl rfl) ?_
     refine RK.skip (guard_no rfl rfl rfl) ?_
     refine RK.skip (guard_no rfl rfl rfl) ?_
     refine RK.skip (guard_no rfl rfl rfl) ?_
     refine RK.V (op_pick_f rfl rfl (rfl : _ = AV.p (.c _))) ?_
     refine RK.M rfl<|RK.skip (guard_no rfl rfl rfl) ?_
     refine RK.skip (guard_no rfl rfl rfl) ?_
     refine RK.skip (guard_no rfl rfl rfl) ?_
     refine RK.skip (guard_no rfl rfl rfl) ?_
     refine RK.skip (guard_no rfl rfl rfl) ?_
     refine RK.skip (guard_no rfl rfl rfl) ?_
     refine RK.skip (guard_no rfl rfl rfl) ?_
     refine RK.skip (guard_no rfl rfl rfl) ?_
     refine RK.skip (guard_no rfl rfl rfl) ?_
     refine RK.V (op_pick_f rfl rfl (rfl : _ = AV.p (.c _))) ?_
     refine RK.D<|AWp_cond_false rfl rfl ?_
     refine AWp_skip<|AWp_region hP<|RK.V (op_add rfl rfl (by first | exact IntWalk.i64_in _ (by omega) | rfl)) ?_
     refine RK.M rfl<|RK.D ?_
     refine ⟨j + 1, by omega, by omega, le_stL ⟨.refl _, .refl _, .refl _, .refl _, .refl _, .refl _, .refl _, Sub.int (by omega), trivial⟩ ⟨Eq.trans rfl (congrArg (fun x => some (TB 122 x)) ((congrArg (fun x => amG m k ++ x) (amR_no (hfe ▸ okS_1 hdm hg4_)).symm))), trivial⟩⟩
   ·have hb3_ := of_decide_eq_false hb3
    refine AWp_exit<|AWp_region hP<|RK.M rfl<|RK.V (op_add rfl rfl (by first | exact IntWalk.i64_in _ (by omega) | rfl)) ?_
    refine RK.As rfl<|RK.D ?_
    refine ⟨k + 1, hk1, by omega, le_stL ⟨.refl _, .refl _, .refl _, .refl _, Sub.int (by omega), trivial⟩ ⟨Eq.trans rfl (congrArg (fun x => some (TB 122 x)) (show amG m k ++ amR m ((k : Int) + 1) j = amG m k ++ amR m ((k : Int) + 1) 3 by rw [show j = 3 by omega])), trivial⟩⟩
  ·have hb2_ := of_decide_eq_false hb2
   have hks := amS_end hmm hk (amS_w hmm hk ▸ hb2_)
   subst hks
   rw [show amG m (amS m) = amL m from rfl]
   have hbnd := fun f hf => amA_bd hmm (f := f) hf
   have hle : cpt (srtM (amL m)) = amA d := (amA_0 he hdm).symm
   have hcp := am_cpt hmm
   have hln := amL_len hmm
   have hcl := cpt_len (srtM (amL m))
   have hpm := srtM_perm (amL m)
   have hso := srtM_ord (amL m)
   have han := amL_anti hmm
   generalize srtM (amL m) = l2 at *
   generalize amL m = l1 at *
   have cCp := sl_CompactA 1000 l2 (by omega) hcp
   generalize cpt l2 = l at *
   refine AWp_exit<|AWp_sr hP<|RK.V (op_move (rfl : _ = AV.vec _))<|RK.mut guard_none (Eff.call (rd := [1000]) (sl_SortT 1000 l1 l2 hpm hso han) (own1 rfl) upd1_mem) ?_
   refine RK.D<|AWp_sr hP<|RK.As rfl<|RK.D<|AWp_nilV 14 1001 6 53 rfl rfl ?_
   refine AWp_seq<|AWp_sr hP<|RK.V (op_move (rfl : _ = AV.vec _))<|RK.mut guard_none (Eff.call (rd := [1000]) cCp (own1 rfl) upd1_mem) ?_
   refine RK.V (op_len hT rfl rfl rfl (by rfl)) ?_
   refine RK.M rfl<|RK.D<|AWp_block<|AWp_loop (ι := Nat) (fun k => stL [(14, .vec 1001), (100, .p (.c (TS l))), (101, Z (l.length : Int)), (102, Z (k : Int))] [(1001, FB 53 (l.take k))]) (fun k => k ≤ l.length) (fun k => l.length - k) 0 (Nat.zero_le _) (le_stL ⟨.refl _, .refl _, .refl _, .refl _, trivial⟩ ⟨rfl, trivial⟩) ?_
   intro k hk
   refine AWp_sr hP<|RK.V (op_lss rfl rfl)<|RK.D<|AWp_seq ?_
   refine AWp_cond rfl (fun hb9 => ?_) (fun hb9 => ?_)
   ·have hb9_ := of_decide_eq_true hb9
    have hfm := hbnd _ (getD_mem hb9_)
    have ja : InI64 (l.getD k ⟨0, 0, 0⟩).a := by unfold InI64; omega
    have jb : InI64 (l.getD k ⟨0, 0, 0⟩).b := by unfold InI64; omega
    have jc : InI64 (l.getD k ⟨0, 0, 0⟩).c := by unfold InI64; omega
    refine AWp_skip<|AWp_seq<|AWp_block<|AWp_sr hP<|RK.V (op_indexT hT (n := (k : Int)) rfl rfl rfl rfl rfl rfl (by omega)) ?_
    refine RK.V (op_load_ip_agg hT rfl rfl rfl (cs := TC (l.getD k ⟨0, 0, 0⟩)) rfl rfl) ?_
    refine RK.alc guard_none (op_alloc hT rfl rfl)<|RK.S hT rfl rfl rfl rfl rfl rfl rfl<|RK.D<|AWp_region hP<|RK.V (op_move (rfl : _ = AV.vec _))<|RK.V (op_index_arr hT rfl rfl rfl rfl rfl (by first | decide | omega)) ?_
    refine RK.V (op_load_one hT rfl rfl rfl rfl (by first | rfl | exact vget (by omega))) ?_
    refine RK.V (Eff.call0 (int_Of _ ja)) ?_
    refine RK.V (op_index_arr hT rfl rfl rfl rfl rfl (by first | decide | omega)) ?_
    refine RK.V (op_load_one hT rfl rfl rfl rfl (by first | rfl | exact vget (by omega))) ?_
    refine RK.V (Eff.call0 (int_Of _ jb)) ?_
    refine RK.V (op_index_arr hT rfl rfl rfl rfl rfl (by first | decide | omega)) ?_
    refine RK.V (op_load_one hT rfl rfl rfl rfl (by first | rfl | exact vget (by omega))) ?_
    refine RK.V (Eff.call0 (int_Of _ jc)) ?_
    refine RK.V (op_build_st hT rfl rfl rfl (es := [_, _, _, _, _, _]) rfl) ?_
    refine RK.V (op_bslice hT rfl rfl rfl (es := [_, _, _, _, _, _]) rfl rfl rfl) ?_
    refine RK.app guard_none (op_appendF hT rfl rfl rfl rfl rfl rfl rfl (f := l.getD k ⟨0, 0, 0⟩) rfl (by rw [List.length_take]; omega) (by decide)) ?_
    refine RK.V (op_assign (rfl : _ = AV.vec _))<|RK.D<|AWp_rn 118 1001 rfl rfl rfl ?_
    refine AWp_region hP<|RK.V (op_add rfl rfl (by first | exact IntWalk.i64_in _ (by omega) | rfl)) ?_
    refine RK.M rfl<|RK.D ?_
    refine ⟨k + 1, by omega, by omega, le_stL ⟨.refl _, .refl _, .refl _, Sub.int (by omega), trivial⟩ ⟨Eq.trans rfl (congrArg (fun x => some (FB 53 x)) (take_snocF hb9_)), trivial⟩⟩
   ·have hb9_ := of_decide_eq_false hb9
    refine AWp_exit<|AWp_freezeF (t := 14) rfl rfl ?_
    refine AWp_sr hP<|RK.M rfl<|RK.As rfl<|RK.As rfl<|RK.D<|AWp_ret ?_
    refine ends_two rfl (.inr rfl) (res_tmp rfl) (res_tmp rfl) ?_ O_ends
    exact (by rw [List.take_of_length_le (by omega), hle, he]; exact .refl _)
end Go.Proofs.YtpaifigafaijpaaGreatDoor
end
section
namespace Go.Proofs.YtpaifigafaijpaaGreatDoor
open Go Go.AM
end Go.Proofs.YtpaifigafaijpaaGreatDoor
end
section
namespace Go.Proofs.YtpaifigafaijpaaGreatDoor
open Go Go.AM
end Go.Proofs.YtpaifigafaijpaaGreatDoor
end
section
namespace Go.Proofs.YtpaifigafaijpaaGreatDoor
open Go Go.AM
end Go.Proofs.YtpaifigafaijpaaGreatDoor
end
section
namespace Go.Proofs.YtpaifigafaijpaaGreatDoor
open Go Go.AM
end Go.Proofs.YtpaifigafaijpaaGreatDoor
end
section
namespace Go.Proofs.YtpaifigafaijpaaGreatDoor
open Go Go.AM
end Go.Proofs.YtpaifigafaijpaaGreatDoor
end
section
namespace Go.Proofs.YtpaifigafaijpaaGreatDoor
open Go Go.AM
end Go.Proofs.YtpaifigafaijpaaGreatDoor
end
section
namespace Go.Proofs.YtpaifigafaijpaaGreatDoor
open Go Go.AM
end Go.Proofs.YtpaifigafaijpaaGreatDoor
end
section
namespace Go.Proofs.YtpaifigafaijpaaGreatDoor
open Go Go.AM
end Go.Proofs.YtpaifigafaijpaaGreatDoor
end
section
namespace Go.Proofs.YtpaifigafaijpaaGreatDoor
open Go Go.AM
end Go.Proofs.YtpaifigafaijpaaGreatDoor
end
section
namespace Go.Proofs.YtpaifigafaijpaaGreatDoor
open Go Go.AM
end Go.Proofs.YtpaifigafaijpaaGreatDoor
end
section
namespace Go.Proofs.YtpaifigafaijpaaGreatDoor
open Go Go.AM
end Go.Proofs.YtpaifigafaijpaaGreatDoor
end
section
namespace Go.Proofs.YtpaifigafaijpaaGreatDoor
open Go Go.AM
end Go.Proofs.YtpaifigafaijpaaGreatDoor
end
section
namespace Go.Proofs.YtpaifigafaijpaaGreatDoor
open Go Go.AM
end Go.Proofs.YtpaifigafaijpaaGreatDoor
end
section
namespace Go.Proofs.YtpaifigafaijpaaGreatDoor
open Go Go.AM
end Go.Proofs.YtpaifigafaijpaaGreatDoor
end
section
namespace Go.Proofs.YtpaifigafaijpaaGreatDoor
open Go Go.AM
theorem l_sameForms (l m : List Fm) (hl : (l.length : Int) ≤ 1000000000) :
  Call0 Tryz.prog 26 [.p (.c (FS l)), .p (.c (FS m))] (B (decide (l = m))) := by
 refine callM_of (np := 0) Tryz.func26 (by kernel_rfl) rfl rfl (Nat.le_of_ble_eq_true rfl) (fun m h => absurd rfl h) (fun m h => absurd rfl h) rfl ?_
 refine AWp_sr hP<|RK.As rfl<|RK.D<|AWp_seq<|AWp_sr hP<|RK.M rfl<|RK.V (op_len hT rfl rfl rfl (by rfl)) ?_
 refine RK.M rfl<|RK.V (op_len hT rfl rfl rfl (by rfl)) ?_
 refine RK.V (op_neq rfl rfl) ?_
 refine RK.D ?_
 refine AWp_cond rfl (fun hb1 => ?_) (fun hb1 => ?_)
 ·have hb1_ := bneT hb1
  refine AWp_sr hP<|RK.As rfl<|RK.D<|AWp_ret ?_
  refine ends_one rfl (.inr rfl) (res_tmp rfl) ?_ O_ends
  exact Sub.bool (len_ne hb1_)
 ·have hb1_ := bneF hb1
  refine AWp_skip<|AWp_seq<|AWp_sr hP<|RK.As rfl<|RK.D<|AWp_block<|AWp_loop (ι := Nat) (fun k => stL [(0, .p (.c (FS l))), (1, .p (.c (FS m))), (5, Z (k : Int))] []) (fun k => SmI l m k) (fun k => l.length - k) 0 (SmI.start l m) (le_stL ⟨.refl _, .refl _, .refl _, trivial⟩ trivial) ?_
  intro k hI
  have hk := hI.k1
  refine AWp_seq<|AWp_sr hP<|RK.M rfl<|RK.M rfl<|RK.V (op_len hT rfl rfl rfl (by rfl)) ?_
  refine RK.V (op_lss rfl rfl)<|RK.D ?_
  refine AWp_cond rfl (fun hb2 => ?_) (fun hb2 => ?_)
  ·have hb2_ := of_decide_eq_true hb2
   refine AWp_skip<|AWp_seq<|AWp_block<|AWp_sr hP<|RK.M rfl<|RK.M rfl<|RK.V (op_indexF hT rfl rfl rfl rfl rfl rfl (by omega)) ?_
   refine RK.V (op_load_ip_agg hT rfl rfl rfl (cs := FC (l.getD k ⟨0, 0, 0⟩)) rfl rfl) ?_
   refine RK.M rfl<|RK.M rfl<|RK.V (op_indexF hT rfl rfl rfl rfl rfl rfl (by omega)) ?_
   refine RK.V (op_load_ip_agg hT rfl rfl rfl (cs := FC (m.getD k ⟨0, 0, 0⟩)) rfl rfl) ?_
   refine RK.V (Eff.call0 (r8_Equal ((l.getD k ⟨0, 0, 0⟩)).a ((l.getD k ⟨0, 0, 0⟩)).b ((l.getD k ⟨0, 0, 0⟩)).c (m.getD k ⟨0, 0, 0⟩).a (m.getD k ⟨0, 0, 0⟩).b (m.getD k ⟨0, 0, 0⟩).c)) ?_
   refine RK.V (op_unot rfl) ?_
   refine RK.D ?_
   refine AWp_cond rfl (fun hb3 => ?_) (fun hb3 => ?_)
   ·have hb3_ := (notT hb3)
    refine AWp_sr hP<|RK.As rfl<|RK.D<|AWp_ret ?_
    refine ends_one rfl (.inr rfl) (res_tmp rfl) ?_ O_ends
    exact Sub.bool (SmI.no (l := l) (m := m) (k := k) (notT hb3))
   ·have hb3_ := (notF hb3)
    refine AWp_skip<|AWp_region hP<|RK.M rfl<|RK.V (op_add rfl rfl (by first | exact IntWalk.i64_in _ (by omega) | rfl)) ?_
    refine RK.As rfl<|RK.D ?_
    refine ⟨k + 1, hI.next (by omega) (notF hb3), by omega, le_stL ⟨.refl _, .refl _, Sub.int (by omega), trivial⟩ trivial⟩
  ·have hb2_ := of_decide_eq_false hb2
   refine AWp_exit<|AWp_sr hP<|RK.As rfl<|RK.D<|AWp_ret ?_
   refine ends_one rfl (.inr rfl) (res_tmp rfl) ?_ O_ends
   exact Sub.bool (hI.yes hb1_ hb2_)
end Go.Proofs.YtpaifigafaijpaaGreatDoor
end
section
namespace Go.Proofs.YtpaifigafaijpaaGreatDoor
open Go Go.AM
theorem r_Low (a : Int) (_ha : L 44 a) :
  Call0 Tryz.prog 150 [I a] (.t [.c (.v (.int .i64 (lwV a))), .c (.v (.bool (lwO a)))]) := by
 have ok := wl_ok a.natAbs
 have hv := v0_lt a.natAbs
 refine callM_of (np := 0) Tryz.func150 (by kernel_rfl) rfl rfl (Nat.le_of_ble_eq_true rfl) (fun m h => absurd rfl h) (fun m h => absurd rfl h) rfl ?_
 refine AWp_sr hP<|RK.alc guard_none (op_box rfl rfl)<|RK.As rfl<|RK.As rfl<|RK.D<|AWp_sr hP<|RK.F hT rfl rfl rfl rfl rfl rfl<|RK.V (op_load_one hT rfl rfl rfl rfl (by first | rfl | exact vget (by omega))) ?_
 refine RK.V (Eff.call0 (r_word _ _ (by assumption))) ?_
 refine RK.F hT rfl rfl rfl rfl rfl rfl<|RK.V (op_load_one hT rfl rfl rfl rfl (by first | rfl | exact vget (by omega))) ?_
 refine RK.V (Eff.call0 (r_word _ _ (by assumption))) ?_
 refine RK.V (op_shlN (j := 32) rfl rfl (by decide) rfl) ?_
 refine RK.V (op_or rfl rfl (v0_or _)) ?_
 refine RK.As rfl<|RK.D<|AWp_seq<|AWp_sr hP<|RK.F hT rfl rfl rfl rfl rfl rfl<|RK.V (op_load_one hT rfl rfl rfl rfl (by first | rfl | exact vget (by omega))) ?_
 refine RK.V (op_len hT rfl rfl rfl (by rfl)) ?_
 refine RK.V (op_gtr rfl rfl) ?_
 refine RK.M rfl ?_
 refine RK.split (t := 17) rfl (fun hg1 => ?_) (fun hg1 => ?_)
 ·have hg1_ := of_decide_eq_true hg1
  have e2 := not_two (n := a.natAbs) (by omega)
  refine RK.skip (guard_no rfl rfl hg1) ?_
  refine RK.skip (guard_no rfl rfl hg1) ?_
  refine RK.V (op_pick_t rfl hg1 (rfl : _ = AV.p (.c _))) ?_
  refine RK.M rfl<|RK.skip (guard_no rfl rfl rfl) ?_
  refine RK.skip (guard_no rfl rfl rfl) ?_
  refine RK.skip (guard_no rfl rfl rfl) ?_
  refine RK.skip (guard_sk rfl rfl) ?_
  refine RK.skip (guard_sk rfl rfl) ?_
  refine RK.skip (guard_sk rfl rfl) ?_
  refine RK.skip (guard_no rfl rfl rfl) ?_
  refine RK.V (op_pick_t rfl rfl (rfl : _ = AV.p (.c _))) ?_
  refine RK.D<|AWp_cond_true rfl rfl ?_
  refine AWp_sr hP<|RK.As rfl<|RK.As rfl<|RK.D<|AWp_ret ?_
  refine ends_two rfl (.inr rfl) (res_tmp rfl) (res_tmp rfl) ?_ O_ends
  exact Sub.of_eq (lw_no (by omega))
 ·have hg1_ := of_decide_eq_false hg1
  have e2 := v0_eq (n := a.natAbs) (by omega)
  refine RK.val (guard_yes rfl rfl hg1) (op_move (rfl : _ = AV.p (.c _))) ?_
  refine RK.val (guard_yes rfl rfl hg1) (op_gtr rfl rfl) ?_
  refine RK.V (op_pick_f rfl hg1 (rfl : _ = AV.p (.c _))) ?_
  refine RK.M rfl ?_
  refine RK.split (t := 21) rfl (fun hg2 => ?_) (fun hg2 => ?_)
  ·have hg2_ := of_decide_eq_true hg2
   refine RK.skip (guard_no rfl rfl hg2) ?_
   refine RK.skip (guard_no rfl rfl hg2) ?_
   refine RK.skip (guard_no rfl rfl hg2) ?_
   refine RK.skip (guard_sk rfl rfl) ?_
   refine RK.skip (guard_sk rfl rfl) ?_
   refine RK.skip (guard_sk rfl rfl) ?_
   refine RK.skip (guard_no rfl rfl hg2) ?_
   refine RK.V (op_pick_t rfl hg2 (rfl : _ = AV.p (.c _))) ?_
   refine RK.D<|AWp_cond_true rfl rfl ?_
   refine AWp_sr hP<|RK.As rfl<|RK.As rfl<|RK.D<|AWp_ret ?_
   refine ends_two rfl (.inr rfl) (res_tmp rfl) (res_tmp rfl) ?_ O_ends
   exact Sub.of_eq (lw_no (by omega))
  ·have hg2_ := of_decide_eq_false hg2
   refine RK.val (guard_yes rfl rfl hg2) (op_move (rfl : _ = AV.p (.c _))) ?_
   refine RK.val (guard_yes rfl rfl hg2) (op_eql rfl rfl) ?_
   refine RK.val (guard_yes rfl rfl hg2) (op_move (rfl : _ = AV.p (.c _))) ?_
   refine RK.split (t := 24) rfl (fun hg3 => ?_) (fun hg3 => ?_)
   ·have hg3_ := bT hg3
    refine RK.val (guard_yes rfl rfl hg3) (op_field_loc hT rfl rfl rfl rfl rfl rfl) ?_
    refine RK.val (guard_yes rfl rfl hg3) (op_load_one hT rfl rfl rfl rfl (by first | rfl | exact vget (by omega))) ?_
    refine RK.val (guard_yes rfl rfl hg3) (op_unot rfl) ?_
    refine RK.val (guard_yes rfl rfl hg2) (op_pick_t rfl hg3 (rfl : _ = AV.p (.c _))) ?_
    refine RK.V (op_pick_f rfl hg2 (rfl : _ = AV.p (.c _))) ?_
    refine RK.D ?_
    refine AWp_cond rfl (fun hb4 => ?_) (fun hb4 => ?_)
    ·have hb4_ := (notT hb4)
     have hz : ¬ a < 0 := of_decide_eq_false (notT hb4)
     refine AWp_sr hP<|RK.As rfl<|RK.As rfl<|RK.D<|AWp_ret ?_
     refine ends_two rfl (.inr rfl) (res_tmp rfl) (res_tmp rfl) ?_ O_ends
     exact Sub.of_eq (lw_no (by omega))
    ·have hb4_ := (notF hb4)
     have hz : a < 0 := of_decide_eq_true (notF hb4)
     refine AWp_skip<|AWp_seq<|AWp_sr hP<|RK.F hT rfl rfl rfl rfl rfl rfl<|RK.V (op_load_one hT rfl rfl rfl rfl (by first | rfl | exact vget (by omega))) ?_
     refine RK.D ?_
     refine AWp_cond rfl (fun hb5 => ?_) (fun hb5 => ?_)
     ·have hs : a < 0 := of_decide_eq_true (by assumption)
      refine AWp_sr hP<|RK.M rfl<|RK.V (op_conv hT rfl rfl rfl rfl (wrap_w63 (by omega))) ?_
      refine RK.V (op_uneg rfl (wrap_n63 (by omega))) ?_
      refine RK.As rfl<|RK.As rfl<|RK.D<|AWp_ret ?_
      refine ends_two rfl (.inr rfl) (res_tmp rfl) (res_tmp rfl) ?_ O_ends
      exact Sub.of_eq (lw_yes (by omega) (by omega))
     ·have hs : ¬ a < 0 := of_decide_eq_false (by assumption)
      refine AWp_skip<|AWp_sr hP<|RK.M rfl<|RK.V (op_conv hT rfl rfl rfl rfl (by first | exact IntWalk.i64_in _ (by omega) | rfl)) ?_
      refine RK.As rfl<|RK.As rfl<|RK.D<|AWp_ret ?_
      refine ends_two rfl (.inr rfl) (res_tmp rfl) (res_tmp rfl) ?_ O_ends
      exact Sub.of_eq (lw_yes (by omega) (by omega))
   ·have hg3_ := bF hg3
    refine RK.skip (guard_no rfl rfl hg3) ?_
    refine RK.skip (guard_no rfl rfl hg3) ?_
    refine RK.skip (guard_no rfl rfl hg3) ?_
    refine RK.val (guard_yes rfl rfl hg2) (op_pick_f rfl hg3 (rfl : _ = AV.p (.c _))) ?_
    refine RK.V (op_pick_f rfl hg2 (rfl : _ = AV.p (.c _))) ?_
    refine RK.D<|AWp_cond_false rfl rfl ?_
    refine AWp_skip<|AWp_seq<|AWp_sr hP<|RK.F hT rfl rfl rfl rfl rfl rfl<|RK.V (op_load_one hT rfl rfl rfl rfl (by first | rfl | exact vget (by omega))) ?_
    refine RK.D ?_
    refine AWp_cond rfl (fun hb6 => ?_) (fun hb6 => ?_)
    ·have hs : a < 0 := of_decide_eq_true (by assumption)
     refine AWp_sr hP<|RK.M rfl<|RK.V (op_conv hT rfl rfl rfl rfl (wrap_w63 (by omega))) ?_
     refine RK.V (op_uneg rfl (wrap_n63 (by omega))) ?_
     refine RK.As rfl<|RK.As rfl<|RK.D<|AWp_ret ?_
     refine ends_two rfl (.inr rfl) (res_tmp rfl) (res_tmp rfl) ?_ O_ends
     exact Sub.of_eq (lw_yes (by omega) (by omega))
    ·have hs : ¬ a < 0 := of_decide_eq_false (by assumption)
     refine AWp_skip<|AWp_sr hP<|RK.M rfl<|RK.V (op_conv hT rfl rfl rfl rfl (by first | exact IntWalk.i64_in _ (by omega) | rfl)) ?_
     refine RK.As rfl<|RK.As rfl<|RK.D<|AWp_ret ?_
     refine ends_two rfl (.inr rfl) (res_tmp rfl) (res_tmp rfl) ?_ O_ends
     exact Sub.of_eq (lw_yes (by omega) (by omega))
theorem r3_small (a m : Int) (ha : L 44 a) (hm : 2 ≤ m ∧ m ≤ 8) :
  Call0 Tryz.prog 164 [I a, Z m] (Z (a % m)) := by
 have ia : LB a 44 := ⟨ha⟩
 have jm : InI64 m := by unfold InI64; omega
 have im : LB m 6 := ⟨by unfold L; omega⟩
 have h1 := Int.emod_nonneg a (show m ≠ 0 by omega)
 have h2 := Int.emod_lt_of_pos a (show 0 < m by omega)
 have cl := r_Low (a % m) lz
 rw [lw_in (x := a % m) (by omega) (by omega)] at cl
 refine callM_of (np := 0) Tryz.func164 (by kernel_rfl) rfl rfl (Nat.le_of_ble_eq_true rfl) (fun m h => absurd rfl h) (fun m h => absurd rfl h) rfl ?_
 refine AWp_sr hP<|RK.alc guard_none (op_box rfl rfl)<|RK.As rfl<|RK.D<|AWp_sr hP<|RK.G2 hT rfl rfl rfl rfl rfl rfl<|RK.M rfl<|RK.V (Eff.call0 (r_Of _ (by first | assumption | decide))) ?_
 refine RK.V (Eff.call0 (r_Mod _ _ lz lz (by omega))) ?_
 refine RK.V (Eff.call0 cl) ?_
 refine RK.V (op_move (rfl : _ = AV.t _))<|RK.V (op_extract rfl (v := .c _) rfl)<|RK.V (op_extract rfl (v := .c _) rfl)<|RK.As rfl<|RK.As rfl<|RK.D<|AWp_sr hP<|RK.M rfl<|RK.As rfl<|RK.D<|AWp_ret ?_
 refine ends_one rfl (.inr rfl) (res_tmp rfl) ?_ O_ends
 exact .refl _
theorem r3_two (a : Int) (ha : L 44 a) :
  Call0 Tryz.prog 165 [I a] (Z (if a % 2 = 0 then 0 else sg8 a)) := by
 have ia : LB a 44 := ⟨ha⟩
 have h1 := Int.emod_nonneg a (show (8 : Int) ≠ 0 by decide)
 have h2 := Int.emod_lt_of_pos a (show (0 : Int) < 8 by decide)
 refine callM_of (np := 0) Tryz.func165 (by kernel_rfl) rfl rfl (Nat.le_of_ble_eq_true rfl) (fun m h => absurd rfl h) (fun m h => absurd rfl h) rfl ?_
 refine AWp_sr hP<|RK.alc guard_none (op_box rfl rfl)<|RK.As rfl<|RK.D<|AWp_sr hP<|RK.G2 hT rfl rfl rfl rfl rfl rfl<|RK.V (Eff.call0 (r3_small _ _ lz (by decide))) ?_
 refine RK.As rfl<|RK.D<|AWp_seq<|AWp_sr hP<|RK.M rfl<|RK.V (op_rem rfl rfl (by decide) (c := a % 8 % 2) (Int.tmod_eq_emod_of_nonneg (by omega))) ?_
 refine RK.V (op_eql rfl rfl) ?_
 refine RK.D ?_
 refine AWp_cond rfl (fun hb1 => ?_) (fun hb1 => ?_)
 ·have hb1_ := bT hb1
  refine AWp_sr hP<|RK.As rfl<|RK.D<|AWp_ret ?_
  refine ends_one rfl (.inr rfl) (res_tmp rfl) ?_ O_ends
  exact Sub.int (two_0 hb1_)
 ·have hb1_ := bF hb1
  refine AWp_skip<|AWp_seq<|AWp_sr hP<|RK.M rfl<|RK.V (op_eql rfl rfl) ?_
  refine RK.M rfl ?_
  refine RK.split (t := 11) rfl (fun hg2 => ?_) (fun hg2 => ?_)
  ·have hg2_ := bT hg2
   refine RK.skip (guard_no rfl rfl hg2) ?_
   refine RK.skip (guard_no rfl rfl hg2) ?_
   refine RK.V (op_pick_t rfl hg2 (rfl : _ = AV.p (.c _))) ?_
   refine RK.D<|AWp_cond_true rfl rfl ?_
   refine AWp_sr hP<|RK.As rfl<|RK.D<|AWp_ret ?_
   refine ends_one rfl (.inr rfl) (res_tmp rfl) ?_ O_ends
   exact Sub.int (two_n hb1_ (.inl hg2_))
  ·have hg2_ := bF hg2
   refine RK.val (guard_yes rfl rfl hg2) (op_move (rfl : _ = AV.p (.c _))) ?_
   refine RK.val (guard_yes rfl rfl hg2) (op_eql rfl rfl) ?_
   refine RK.V (op_pick_f rfl hg2 (rfl : _ = AV.p (.c _))) ?_
   refine RK.D ?_
   refine AWp_cond rfl (fun hb3 => ?_) (fun hb3 => ?_)
   ·have hb3_ := bT hb3
    refine AWp_sr hP<|RK.As rfl<|RK.D<|AWp_ret ?_
    refine ends_one rfl (.inr rfl) (res_tmp rfl) ?_ O_ends
    exact Sub.int (two_n hb1_ (.inr hb3_))
   ·have hb3_ := bF hb3
    refine AWp_skip<|AWp_sr hP<|RK.As rfl<|RK.D<|AWp_ret ?_
    refine ends_one rfl (.inr rfl) (res_tmp rfl) ?_ O_ends
    exact Sub.int (two_p hb1_ (fun x => x.elim hg2_ hb3_))
theorem r3_Kronecker (a n : Int) (ha : L 40 a) (hn : L 40 n) (h0 : 0 < n) (ho : n % 2 = 1) :
  Call0 Tryz.prog 105 [I a, I n] (Z (kr a n)) := by
 have ia : LB a 40 := ⟨ha⟩
 have im : LB n 40 := ⟨hn⟩
 have hna : ((n.natAbs : Nat) : Int) = n := by omega
 have imn : LB (n.natAbs : Int) 40 := ⟨by rw [hna]; exact hn⟩
 have cA := r_Abs n
 rw [hna] at cA
 have hn0 : n ≠ 0 := by omega
 refine callM_of (np := 0) Tryz.func105 (by kernel_rfl) rfl rfl (Nat.le_of_ble_eq_true rfl) (fun m h => absurd rfl h) (fun m h => absurd rfl h) rfl ?_
 refine AWp_sr hP<|RK.alc guard_none (op_box rfl rfl)<|RK.alc guard_none (op_box rfl rfl)<|RK.As rfl<|RK.D<|AWp_seq<|AWp_sr hP<|RK.G2 hT rfl rfl rfl rfl rfl rfl<|RK.V (Eff.call0 (r_Sign _)) ?_
 refine RK.V (op_eql rfl rfl) ?_
 refine RK.D<|AWp_cond_false rfl (decide_eq_false (fun e => by rw [sgn_zero_iff] at e; omega)) ?_
 refine AWp_skip<|AWp_sr hP<|RK.As rfl<|RK.D<|AWp_seq<|AWp_sr hP<|RK.G2 hT rfl rfl rfl rfl rfl rfl<|RK.V (Eff.call0 (r_Sign _)) ?_
 refine RK.V (op_lss rfl rfl)<|RK.M rfl<|RK.skip (guard_no rfl rfl (decide_eq_false (fun e => by rw [sgn_lt_iff] at e; omega))) ?_
 refine RK.skip (guard_no rfl rfl (decide_eq_false (fun e => by rw [sgn_lt_iff] at e; omega))) ?_
 refine RK.skip (guard_no rfl rfl (decide_eq_false (fun e => by rw [sgn_lt_iff] at e; omega))) ?_
 refine RK.V (op_pick_f rfl (decide_eq_false (fun e => by rw [sgn_lt_iff] at e; omega)) (rfl : _ = AV.p (.c _))) ?_
 refine RK.D<|AWp_cond_false rfl rfl ?_
 refine AWp_skip<|AWp_sr hP<|RK.G2 hT rfl rfl rfl rfl rfl rfl<|RK.V (Eff.call0 cA) ?_
 refine RK.S hT rfl rfl rfl rfl rfl rfl rfl<|RK.D<|AWp_seq<|AWp_block<|AWp_unroll 1 ?_
 refine AWp_seq<|AWp_sr hP<|RK.G2 hT rfl rfl rfl rfl rfl rfl<|RK.V (Eff.call0 (r3_small _ _ lz (by decide))) ?_
 refine RK.V (op_eql rfl rfl) ?_
 refine RK.D<|AWp_cond_false rfl (decide_eq_false (by omega)) ?_
 refine AWp_exit<|AWp_sr hP<|RK.G2 hT rfl rfl rfl rfl rfl rfl<|RK.G2 hT rfl rfl rfl rfl rfl rfl<|RK.V (Eff.call0 (r_Mod _ _ lz lz (by omega))) ?_
 refine RK.S hT rfl rfl rfl rfl rfl rfl rfl<|RK.D<|AWp_seq<|AWp_block<|AWp_loop (ι := (Int × Int × Int) × Nat) (fun i => stL [(2, .loc 2 0), (3, .loc 3 0), (5, Z i.1.1)] [(2, ⟨false, 1, 36, [zn (i.1.2.1), zm (i.1.2.1)]⟩), (3, ⟨false, 1, 36, [zn (i.1.2.2), zm (i.1.2.2)]⟩)]) (fun i => KrI (RK_ a n) i.2 i.1.1 i.1.2.1 i.1.2.2 ∧ i.1.2.2 % 2 = 1) (fun i => i.1.2.1.natAbs) ((1, a % n, n), _) ⟨KrI.startO h0 ho ha hn, ho⟩ (le_stL ⟨.refl _, .refl _, .refl _, trivial⟩ ⟨rfl, rfl, trivial⟩) ?_
 rintro i ⟨hI, hIo⟩
 have h5 := hI.hk
 have hs8 := sg8_b i.1.2.2
 have j1 : LB i.1.2.1 40 := ⟨hI.la⟩
 have j2 : LB i.1.2.2 40 := ⟨hI.ln⟩
 have ct := r3_two i.1.2.2 lz
 rw [if_neg (show ¬ i.1.2.2 % 2 = 0 by omega)] at ct
 refine AWp_seq<|AWp_sr hP<|RK.G2 hT rfl rfl rfl rfl rfl rfl<|RK.V (Eff.call0 (r_Sign _)) ?_
 refine RK.V (op_neq rfl rfl) ?_
 refine RK.D ?_
 refine AWp_cond rfl (fun hb2 => ?_) (fun hb2 => ?_)
 ·have hb2_ := bneT hb2
  have hapos : 0 < i.1.2.1 := by have := hI.a0; have : i.1.2.1 ≠ 0 := fun e => hb2_ (sgn_zero_iff.2 e); omega
  have hne : i.1.2.1 ≠ 0 := by omega
  refine AWp_skip<|AWp_block<|AWp_seq<|AWp_block<|AWp_loop (ι := Int × Int) (fun p => stL [(2, .loc 2 0), (3, .loc 3 0), (5, Z (ow i.1.1 (sg8 i.1.2.2) p.2))] [(2, ⟨false, 1, 36, [zn (p.1), zm (p.1)]⟩), (3, ⟨false, 1, 36, [zn (i.1.2.2), zm (i.1.2.2)]⟩)]) (fun p => TwI i.1.2.1 p.1 p.2) (fun p => p.1.natAbs) (i.1.2.1, 0) (TwI.start hI.la hne) (le_stL ⟨.refl _, .refl _, .refl _, trivial⟩ ⟨rfl, rfl, trivial⟩) ?_
  rintro p hJ
  have j3 : LB p.1 40 := ⟨hJ.lb⟩
  have hob := ow_b (k := p.2) h5 hs8
  have hpk := k_sg (x := i.1.2.2) hob
  have hp0 := hJ.ne
  refine AWp_seq<|AWp_sr hP<|RK.G2 hT rfl rfl rfl rfl rfl rfl<|RK.V (Eff.call0 (r3_small _ _ lz (by decide))) ?_
  refine RK.V (op_eql rfl rfl) ?_
  refine RK.D ?_
  refine AWp_cond rfl (fun hb3 => ?_) (fun hb3 => ?_)
  ·have hb3_ := bT hb3
   refine AWp_skip<|AWp_block<|AWp_sr hP<|RK.G2 hT rfl rfl rfl rfl rfl rfl<|RK.V (Eff.call0 (r_Of _ (by first | assumption | decide))) ?_
   refine RK.V (Eff.call0 (r_Div _ _ lz lz (by decide))) ?_
   refine RK.S hT rfl rfl rfl rfl rfl rfl rfl<|RK.D<|AWp_region hP<|RK.M rfl<|RK.G2 hT rfl rfl rfl rfl rfl rfl<|RK.V (Eff.call0 ct) ?_
   refine RK.V (op_mul rfl rfl (by first | exact IntWalk.i64_in _ (by omega) | rfl)) ?_
   refine RK.As rfl<|RK.D ?_
   refine ⟨(p.1 / 2, p.2 + 1), (hJ.next (odd_f hb3_)).1, (hJ.next (odd_f hb3_)).2, le_stL ⟨.refl _, .refl _, Sub.int (by rw [← ow_next (sg8_sq' hIo)]), trivial⟩ ⟨rfl, rfl, trivial⟩⟩
  ·have hb3_ := bF hb3
   have htw := tw_stop (odd_t (odd_of hb3_)) hJ.tw
   refine AWp_exit<|AWp_seq<|AWp_sr hP<|RK.G2 hT rfl rfl rfl rfl rfl rfl<|RK.V (Eff.call0 (r3_small _ _ lz (by decide))) ?_
   refine RK.V (op_eql rfl rfl) ?_
   refine RK.M rfl ?_
   refine RK.split (t := 55) rfl (fun hg4 => ?_) (fun hg4 => ?_)
   ·have hg4_ := bT hg4
    refine RK.val (guard_yes rfl rfl hg4) (op_load_agg hT rfl rfl rfl rfl (cs := [_, _]) rfl rfl) ?_
    refine RK.val (guard_yes rfl rfl hg4) (Eff.call0 (r3_small _ _ lz (by decide))) ?_
    refine RK.val (guard_yes rfl rfl hg4) (op_eql rfl rfl) ?_
    refine RK.V (op_pick_t rfl hg4 (rfl : _ = AV.p (.c _))) ?_
    refine RK.D ?_
    refine AWp_cond rfl (fun hb5 => ?_) (fun hb5 => ?_)
    ·have hb5_ := bT hb5
     refine AWp_region hP<|RK.M rfl<|RK.V (op_uneg rfl (by first | exact IntWalk.i64_in _ (by omega) | rfl)) ?_
     refine RK.As rfl<|RK.D<|AWp_sr hP<|RK.G2 hT rfl rfl rfl rfl rfl rfl<|RK.G2 hT rfl rfl rfl rfl rfl rfl<|RK.V (Eff.call0 (r_Mod _ _ lz lz (by omega))) ?_
     refine RK.alc guard_none (op_alloc hT rfl rfl)<|RK.S hT rfl rfl rfl rfl rfl rfl rfl<|RK.D<|AWp_sr hP<|RK.G2 hT rfl rfl rfl rfl rfl rfl<|RK.S hT rfl rfl rfl rfl rfl rfl rfl<|RK.D<|AWp_region hP<|RK.G2 hT rfl rfl rfl rfl rfl rfl<|RK.S hT rfl rfl rfl rfl rfl rfl rfl<|RK.D ?_
     refine ⟨((k2F (k1F i.1.1 i.1.2.1 i.1.2.2) i.1.2.1 i.1.2.2, i.1.2.2 % p.1, p.1), i.2 - 1), ⟨(hI.nextO hapos htw).1, odd_of hb3_⟩, (hI.nextO hapos htw).2, le_stL ⟨.refl _, .refl _, Sub.int (by rw [← k2_yes htw hg4_ hb5_]), trivial⟩ ⟨rfl, rfl, trivial⟩⟩
    ·have hb5_ := bF hb5
     refine AWp_skip<|AWp_sr hP<|RK.G2 hT rfl rfl rfl rfl rfl rfl<|RK.G2 hT rfl rfl rfl rfl rfl rfl<|RK.V (Eff.call0 (r_Mod _ _ lz lz (by omega))) ?_
     refine RK.alc guard_none (op_alloc hT rfl rfl)<|RK.S hT rfl rfl rfl rfl rfl rfl rfl<|RK.D<|AWp_sr hP<|RK.G2 hT rfl rfl rfl rfl rfl rfl<|RK.S hT rfl rfl rfl rfl rfl rfl rfl<|RK.D<|AWp_region hP<|RK.G2 hT rfl rfl rfl rfl rfl rfl<|RK.S hT rfl rfl rfl rfl rfl rfl rfl<|RK.D ?_
     refine ⟨((k2F (k1F i.1.1 i.1.2.1 i.1.2.2) i.1.2.1 i.1.2.2, i.1.2.2 % p.1, p.1), i.2 - 1), ⟨(hI.nextO hapos htw).1, odd_of hb3_⟩, (hI.nextO hapos htw).2, le_stL ⟨.refl _, .refl _, Sub.int (k2_no htw (fun x => hb5_ x.2)), trivial⟩ ⟨rfl, rfl, trivial⟩⟩
   ·have hg4_ := bF hg4
    refine RK.skip (guard_no rfl rfl hg4) ?_
    refine RK.skip (guard_no rfl rfl hg4) ?_
    refine RK.skip (guard_no rfl rfl hg4) ?_
    refine RK.V (op_pick_f rfl hg4 (rfl : _ = AV.p (.c _))) ?_
    refine RK.D<|AWp_cond_false rfl rfl ?_
    refine AWp_skip<|AWp_sr hP<|RK.G2 hT rfl rfl rfl rfl rfl rfl<|RK.G2 hT rfl rfl rfl rfl rfl rfl<|RK.V (Eff.call0 (r_Mod _ _ lz lz (by omega))) ?_
    refine RK.alc guard_none (op_alloc hT rfl rfl)<|RK.S hT rfl rfl rfl rfl rfl rfl rfl<|RK.D<|AWp_sr hP<|RK.G2 hT rfl rfl rfl rfl rfl rfl<|RK.S hT rfl rfl rfl rfl rfl rfl rfl<|RK.D<|AWp_region hP<|RK.G2 hT rfl rfl rfl rfl rfl rfl<|RK.S hT rfl rfl rfl rfl rfl rfl rfl<|RK.D ?_
    refine ⟨((k2F (k1F i.1.1 i.1.2.1 i.1.2.2) i.1.2.1 i.1.2.2, i.1.2.2 % p.1, p.1), i.2 - 1), ⟨(hI.nextO hapos htw).1, odd_of hb3_⟩, (hI.nextO hapos htw).2, le_stL ⟨.refl _, .refl _, Sub.int (k2_no htw (fun x => hg4_ x.1)), trivial⟩ ⟨rfl, rfl, trivial⟩⟩
 ·have hb2_ := bneF hb2
  refine AWp_exit<|AWp_seq<|AWp_sr hP<|RK.G2 hT rfl rfl rfl rfl rfl rfl<|RK.V (Eff.call0 (r_Of _ (by first | assumption | decide))) ?_
  refine RK.V (Eff.call0 (r_Same _ _)) ?_
  refine RK.V (op_unot rfl) ?_
  refine RK.D ?_
  refine AWp_cond rfl (fun hb6 => ?_) (fun hb6 => ?_)
  ·have hb6_ := (notT hb6)
   refine AWp_sr hP<|RK.As rfl<|RK.D<|AWp_ret ?_
   refine ends_one rfl (.inr rfl) (res_tmp rfl) ?_ O_ends
   exact Sub.int (by rw [kr_goO h0 ho, hI.stop (fun h => by have := sgn_zero_iff.1 hb2_; omega), if_neg (of_decide_eq_false (notT hb6))])
  ·have hb6_ := (notF hb6)
   refine AWp_skip<|AWp_sr hP<|RK.M rfl<|RK.As rfl<|RK.D<|AWp_ret ?_
   refine ends_one rfl (.inr rfl) (res_tmp rfl) ?_ O_ends
   exact Sub.int (by rw [kr_goO h0 ho, hI.stop (fun h => by have := sgn_zero_iff.1 hb2_; omega), if_pos (of_decide_eq_true (notF hb6))])
end Go.Proofs.YtpaifigafaijpaaGreatDoor
end
section
namespace Go.Proofs.YtpaifigafaijpaaGreatDoor
open Go Go.AM
theorem r10_Value (c n : Int) (hc : (c = -4 ∨ c = 8 ∨ c = -8) ∨ (3 ≤ c ∧ c % 2 = 1)) (hcb : -8 ≤ c ∧ c ≤ 4194304) (hn : L 40 n) (h0 : 0 < n) (ho : n % 2 = 1) :
  Call0 Tryz.prog 38 [Z c, I n] (Z (cv c n)) := by
 have jc : InI64 c := by unfold InI64; omega
 have ic : LB c 6 := ⟨by unfold L; omega⟩
 have inn : LB n 40 := ⟨hn⟩
 refine callM_of (np := 0) Tryz.func38 (by kernel_rfl) rfl rfl (Nat.le_of_ble_eq_true rfl) (fun m h => absurd rfl h) (fun m h => absurd rfl h) rfl ?_
 refine AWp_sr hP<|RK.alc guard_none (op_box rfl rfl)<|RK.As rfl<|RK.D<|AWp_seq<|AWp_sr hP<|RK.M rfl<|RK.V (op_eql rfl rfl) ?_
 refine RK.M rfl ?_
 refine RK.split (t := 7) rfl (fun hg1 => ?_) (fun hg1 => ?_)
 ·have hg1_ := bT hg1
  refine RK.skip (guard_no rfl rfl hg1) ?_
  refine RK.skip (guard_no rfl rfl hg1) ?_
  refine RK.V (op_pick_t rfl hg1 (rfl : _ = AV.p (.c _))) ?_
  refine RK.M rfl<|RK.skip (guard_no rfl rfl rfl) ?_
  refine RK.skip (guard_no rfl rfl rfl) ?_
  refine RK.V (op_pick_t rfl rfl (rfl : _ = AV.p (.c _))) ?_
  refine RK.D<|AWp_cond_true rfl rfl ?_
  refine AWp_sr hP<|RK.M rfl<|RK.V (Eff.call0 (r_Of c jc)) ?_
  refine RK.G2 hT rfl rfl rfl rfl rfl rfl<|RK.V (Eff.call0 (r3_Kronecker c n lz lz h0 ho)) ?_
  refine RK.As rfl<|RK.D<|AWp_ret ?_
  refine ends_one rfl (.inr rfl) (res_tmp rfl) ?_ O_ends
  exact Sub.int (cv_kr h0 ho (.inl hg1_))
 ·have hg1_ := bF hg1
  refine RK.val (guard_yes rfl rfl hg1) (op_move (rfl : _ = AV.p (.c _))) ?_
  refine RK.val (guard_yes rfl rfl hg1) (op_eql rfl rfl) ?_
  refine RK.V (op_pick_f rfl hg1 (rfl : _ = AV.p (.c _))) ?_
  refine RK.M rfl ?_
  refine RK.split (t := 11) rfl (fun hg2 => ?_) (fun hg2 => ?_)
  ·have hg2_ := bT hg2
   refine RK.skip (guard_no rfl rfl hg2) ?_
   refine RK.skip (guard_no rfl rfl hg2) ?_
   refine RK.V (op_pick_t rfl hg2 (rfl : _ = AV.p (.c _))) ?_
   refine RK.D<|AWp_cond_true rfl rfl ?_
   refine AWp_sr hP<|RK.M rfl<|RK.V (Eff.call0 (r_Of c jc)) ?_
   refine RK.G2 hT rfl rfl rfl rfl rfl rfl<|RK.V (Eff.call0 (r3_Kronecker c n lz lz h0 ho)) ?_
   refine RK.As rfl<|RK.D<|AWp_ret ?_
   refine ends_one rfl (.inr rfl) (res_tmp rfl) ?_ O_ends
   exact Sub.int (cv_kr h0 ho (.inr (.inl hg2_)))
  ·have hg2_ := bF hg2
   refine RK.val (guard_yes rfl rfl hg2) (op_move (rfl : _ = AV.p (.c _))) ?_
   refine RK.val (guard_yes rfl rfl hg2) (op_eql rfl rfl) ?_
   refine RK.V (op_pick_f rfl hg2 (rfl : _ = AV.p (.c _))) ?_
   refine RK.D ?_
   refine AWp_cond rfl (fun hb3 => ?_) (fun hb3 => ?_)
   ·have hb3_ := bT hb3
    refine AWp_sr hP<|RK.M rfl<|RK.V (Eff.call0 (r_Of c jc)) ?_
    refine RK.G2 hT rfl rfl rfl rfl rfl rfl<|RK.V (Eff.call0 (r3_Kronecker c n lz lz h0 ho)) ?_
    refine RK.As rfl<|RK.D<|AWp_ret ?_
    refine ends_one rfl (.inr rfl) (res_tmp rfl) ?_ O_ends
    exact Sub.int (cv_kr h0 ho (.inr (.inr hb3_)))
   ·have hb3_ := bF hb3
    refine AWp_skip<|AWp_sr hP<|RK.G2 hT rfl rfl rfl rfl rfl rfl<|RK.M rfl<|RK.V (Eff.call0 (r_Of c jc)) ?_
    refine RK.V (Eff.call0 (r3_Kronecker n c lz lz (by omega) (by omega))) ?_
    refine RK.As rfl<|RK.D<|AWp_ret ?_
    refine ends_one rfl (.inr rfl) (res_tmp rfl) ?_ O_ends
    exact Sub.int (cv_odd (fun x => x.elim hg1_ (fun x => x.elim hg2_ hb3_)))
theorem r10_Coprime (n d : Int) (hn : L 40 n) (hd : L 40 d) :
  Call0 Tryz.prog 37 [I n, I d] (B (decide (((Int.gcd n (2 * d) : Nat) : Int) = 1))) := by
 have i1 : LB n 40 := ⟨hn⟩
 have i2 : LB d 40 := ⟨hd⟩
 refine callM_of (np := 0) Tryz.func37 (by kernel_rfl) rfl rfl (Nat.le_of_ble_eq_true rfl) (fun m h => absurd rfl h) (fun m h => absurd rfl h) rfl ?_
 refine AWp_sr hP<|RK.alc guard_none (op_box rfl rfl)<|RK.alc guard_none (op_box rfl rfl)<|RK.As rfl<|RK.D<|AWp_sr hP<|RK.G2 hT rfl rfl rfl rfl rfl rfl<|RK.V (Eff.call0 (r_Of _ (by first | assumption | decide))) ?_
 refine RK.G2 hT rfl rfl rfl rfl rfl rfl<|RK.V (Eff.call0 (r_Mul _ _ lz lz)) ?_
 refine RK.V (Eff.call0 (r_Gcd _ _ lz lz)) ?_
 refine RK.V (Eff.call0 (r_Of _ (by first | assumption | decide))) ?_
 refine RK.V (Eff.call0 (r_Same _ _)) ?_
 refine RK.As rfl<|RK.D<|AWp_ret ?_
 refine ends_one rfl (.inr rfl) (res_tmp rfl) ?_ O_ends
 exact .refl _
end Go.Proofs.YtpaifigafaijpaaGreatDoor
end
