/- Texts merged by program, in build order. -/
import Derived.Test.YtmoaoiakmmbpoaaGreatDoorHFE
import Derived.Test.YtmoaoiakmmbpoaaGreatDoorHFC
import Derived.Test.YtmoaoiakmmbpoaaGreatDoorHFF
import Derived.Test.YtmoaoiakmmbpoaaGreatDoorHFD
section
/- chapter 30: the reference: Follows, minimal, used, added -/
namespace Go.Proofs.YtmoaoiakmmbpoaaGreatDoor
open Go Go.AM
/- algorist/algoristref30.Follows -/
set_option maxHeartbeats 1000000 in
set_option maxRecDepth 100000 in
theorem p_Follows (b : Book) (hs : List Int) (c : Str) (hl : b.1.length ≤ 1000000) :
  Call0 Tryz.prog 38 [.p (.a (enBk b)), .p (.c (SL enZ hs)), AS c] (B (folD b.1 hs c)) := by
 refine callM_of (np := 0) Tryz.func38 (by kernel_rfl) rfl rfl (Nat.le_of_ble_eq_true rfl) (fun m h => absurd rfl h) (fun m h => absurd rfl h) rfl ?_
 refine AWp_sr hP ?_
 refine RK.alc guard_none (op_box rfl rfl) ?_
 refine RK.As rfl ?_
 refine RK.D ?_
 refine AWp_sr hP ?_
 refine RK.G2 hT rfl rfl rfl rfl rfl rfl ?_
 refine RK.M rfl ?_
 refine RK.V (Eff.call0 (p_rounds b hs hl)) ?_
 refine RK.V (op_field_one hT rfl rfl rfl rfl rfl rfl rfl) ?_
 refine RK.M rfl ?_
 refine RK.V (Eff.call0 (p_place (cls (finD b.1 (okL hs))) c)) ?_
 refine RK.V (op_geq rfl rfl) ?_
 refine RK.As rfl ?_
 refine RK.D ?_
 refine AWp_ret ?_
 refine ends_one rfl (.inr rfl) (res_tmp rfl) ?_ O_ends
 exact Sub.bool fol_q
/- algorist/algoristref30.Holds -/
set_option maxHeartbeats 1000000 in
set_option maxRecDepth 100000 in
theorem p_rHolds (b : Book) (c : Str) (hl : b.1.length ≤ 1000000) :
  Call0 Tryz.prog 13 [.p (.a (enBk b)), AS c] (B (folD b.1 b.2 c)) := by
 refine callM_of (np := 0) Tryz.func13 (by kernel_rfl) rfl rfl (Nat.le_of_ble_eq_true rfl) (fun m h => absurd rfl h) (fun m h => absurd rfl h) rfl ?_
 refine AWp_sr hP ?_
 refine RK.alc guard_none (op_box rfl rfl) ?_
 refine RK.As rfl ?_
 refine RK.D ?_
 refine AWp_sr hP ?_
 refine RK.G2 hT rfl rfl rfl rfl rfl rfl ?_
 refine RK.F hT rfl rfl rfl rfl rfl rfl ?_
 refine RK.V (op_load_one hT rfl rfl rfl rfl (by first | rfl | exact vget (by omega))) ?_
 refine RK.M rfl ?_
 refine RK.V (Eff.call0 (p_Follows b b.2 c hl)) ?_
 refine RK.As rfl ?_
 refine RK.D ?_
 refine AWp_ret ?_
 refine ends_one rfl (.inr rfl) (res_tmp rfl) ?_ O_ends
 exact .refl _
/- algorist/algoristref30.less -/
set_option maxHeartbeats 1000000 in
set_option maxRecDepth 100000 in
theorem p_lessV (l : List Int) (i : Nat) (hi : i < l.length) (hl : l.length ≤ 1000000) :
  CallV Tryz.prog 80 [.p (.c (SL enZ l)), Z (i : Int)] (VB 1 3 enZ (lessL l i)) := by
 refine callV_of Tryz.func80 (by kernel_rfl) rfl rfl (Nat.le_of_ble_eq_true rfl) ?_
 refine AWp_sr hP ?_
 refine RK.As rfl ?_
 refine RK.D ?_
 refine AWp_sr hP ?_
 refine RK.alc guard_none (op_bslice_vec hT rfl rfl rfl (es := []) rfl rfl rfl) ?_
 refine RK.M rfl ?_
 refine RK.M rfl ?_
 refine RK.V (op_slice_hG hT enZ_len rfl rfl rfl rfl rfl rfl (Nat.le_of_lt hi)) ?_
 refine RK.app guard_none (op_appendL hT enZ_len (by decide) (l := []) (l' := l.take i) rfl rfl rfl rfl rfl rfl rfl rfl (by rw [List.length_take, List.length_nil]; omega) (by decide) (by decide)) ?_
 refine RK.M rfl ?_
 refine RK.M rfl ?_
 refine RK.V (op_add rfl rfl (c := ((i + 1 : Nat) : Int)) (by rw [IntKind.wrap_i64]; omega)) ?_
 refine RK.V (op_slice_lG hT enZ_len rfl rfl rfl rfl rfl rfl hi) ?_
 refine RK.app guard_none (op_appendL hT enZ_len (by decide) (l := [] ++ l.take i) (l' := l.drop (i + 1)) rfl rfl rfl rfl rfl rfl rfl rfl (by simp only [List.length_append, List.length_take, List.length_drop, List.length_nil]; omega) (by decide) (by decide)) ?_
 refine RK.V (op_assign (rfl : _ = AV.vec _)) ?_
 refine RK.D ?_
 refine AWp_ret ?_
 refine ⟨.inr rfl, _, _, rfl, rfl, ?_⟩
 exact rfl
theorem p_less (l : List Int) (i : Nat) (hi : i < l.length) (hl : l.length ≤ 1000000) : Call0 Tryz.prog 80 [.p (.c (SL enZ l)), Z (i : Int)] (.p (.c (SL enZ (lessL l i)))) := (p_lessV l i hi hl).call0 (n := (lessL l i).length) rfl (flat_len enZ_len _).symm Nat.zero_lt_one
/- algorist/algoristref30.minimal -/
set_option maxHeartbeats 1000000 in
set_option maxRecDepth 100000 in
theorem p_minimal (b : Book) (hs : List Int) (c : Str) (hl : b.1.length ≤ 1000000) (hh : hs.length ≤ 1000000) :
  Call0 Tryz.prog 49 [.p (.a (enBk b)), .p (.c (SL enZ hs)), AS c] (B (minB b.1 hs c)) := by
 refine callM_of (np := 0) Tryz.func49 (by kernel_rfl) rfl rfl (Nat.le_of_ble_eq_true rfl) (fun m h => absurd rfl h) (fun m h => absurd rfl h) rfl ?_
 refine AWp_sr hP ?_
 refine RK.alc guard_none (op_box rfl rfl) ?_
 refine RK.As rfl ?_
 refine RK.D ?_
 refine AWp_seq ?_
 refine AWp_sr hP ?_
 refine RK.G2 hT rfl rfl rfl rfl rfl rfl ?_
 refine RK.M rfl ?_
 refine RK.M rfl ?_
 refine RK.V (Eff.call0 (p_Follows b hs c hl)) ?_
 refine RK.V (op_unot rfl) ?_
 refine RK.D ?_
 refine AWp_cond rfl (fun hb1 => ?_) (fun hb1 => ?_)
 ·have hb1_ := (notT hb1)
  have hn := notT hb1
  refine AWp_sr hP ?_
  refine RK.As rfl ?_
  refine RK.D ?_
  refine AWp_ret ?_
  refine ends_one rfl (.inr rfl) (res_tmp rfl) ?_ O_ends
  first | exact Sub.bool (min_1 hn) | exact Sub.bool (min_2 (k := k) (by omega) hy) | exact Sub.bool (min_y h0 (fun i hi => hI i (by omega)))
 ·have hb1_ := (notF hb1)
  have h0 := notF hb1
  refine AWp_skip ?_
  refine AWp_seq ?_
  refine AWp_sr hP ?_
  refine RK.As rfl ?_
  refine RK.D ?_
  refine AWp_block ?_
  refine AWp_loop (ι := Nat) (fun k => stL [(1, .p (.c (SL enZ hs))), (2, AS c), (3, .loc 3 0), (7, Z (k : Int))] [(3, ⟨false, 1, 27, enBk b⟩)]) (fun k => k ≤ hs.length ∧ ∀ i, i < k → folD b.1 (lessL hs i) c = false) (fun k => hs.length - k) 0 ⟨Nat.zero_le _, fun i h => by omega⟩ (le_stL ⟨.refl _, .refl _, .refl _, .refl _, trivial⟩ ⟨rfl, trivial⟩) ?_
  rintro k ⟨hk, hI⟩
  refine AWp_seq ?_
  refine AWp_sr hP ?_
  refine RK.M rfl ?_
  refine RK.M rfl ?_
  refine RK.V (op_len hT rfl rfl rfl (by rfl)) ?_
  refine RK.V (op_lss rfl rfl) ?_
  refine RK.D ?_
  refine AWp_cond rfl (fun hb2 => ?_) (fun hb2 => ?_)
  ·have hb2_ := of_decide_eq_true hb2
   refine AWp_skip ?_
   refine AWp_seq ?_
   refine AWp_block ?_
   refine AWp_sr hP ?_
   refine RK.G2 hT rfl rfl rfl rfl rfl rfl ?_
   refine RK.M rfl ?_
   refine RK.M rfl ?_
   refine RK.V (Eff.call0 (p_less hs k (by omega) hh)) ?_
   refine RK.M rfl ?_
   refine RK.V (Eff.call0 (p_Follows b (lessL hs k) c hl)) ?_
   refine RK.D ?_
   refine AWp_cond rfl (fun hb3 => ?_) (fun hb3 => ?_)
   ·have hy := hb3
    refine AWp_sr hP ?_
    refine RK.As rfl ?_
    refine RK.D ?_
    refine AWp_ret ?_
    refine ends_one rfl (.inr rfl) (res_tmp rfl) ?_ O_ends
    first | exact Sub.bool (min_1 hn) | exact Sub.bool (min_2 (k := k) (by omega) hy) | exact Sub.bool (min_y h0 (fun i hi => hI i (by omega)))
   ·have hno := hb3
    refine AWp_skip ?_
    refine AWp_region hP ?_
    refine RK.M rfl ?_
    refine RK.V (op_add rfl rfl (by first | exact IntWalk.i64_in _ (by omega) | rfl)) ?_
    refine RK.As rfl ?_
    refine RK.D ?_
    refine ⟨k + 1, ⟨by omega, fun i h1 => by
      by_cases e : i = k
      ·subst e; exact hno
      ·exact hI i (by omega)⟩, by omega, le_stL ⟨.refl _, .refl _, .refl _, Sub.int (by omega), trivial⟩ ⟨rfl, trivial⟩⟩
  ·have hb2_ := of_decide_eq_false hb2
   refine AWp_exit ?_
   refine AWp_sr hP ?_
   refine RK.As rfl ?_
   refine RK.D ?_
   refine AWp_ret ?_
   refine ends_one rfl (.inr rfl) (res_tmp rfl) ?_ O_ends
   first | exact Sub.bool (min_1 hn) | exact Sub.bool (min_2 (k := k) (by omega) hy) | exact Sub.bool (min_y h0 (fun i hi => hI i (by omega)))
/- algorist/algoristref30.used -/
set_option maxHeartbeats 2000000 in
set_option maxRecDepth 100000 in
theorem p_used (b : Book) (hl : b.1.length ≤ 1000000) :
  Call0 Tryz.prog 48 [.p (.a (enBk b))] (.p (.c (SL enZ (usedL b.1 17)))) := by
 refine callM_of (np := 0) Tryz.func48 (by kernel_rfl) rfl rfl (Nat.le_of_ble_eq_true rfl) (fun m h => absurd rfl h) (fun m h => absurd rfl h) rfl ?_
 refine AWp_sr hP ?_
 refine RK.alc guard_none (op_box rfl rfl) ?_
 refine RK.As rfl ?_
 refine RK.D ?_
 refine AWp_sr hP ?_
 refine RK.alc guard_none (op_bslice_vec hT rfl rfl rfl (es := []) rfl rfl rfl) ?_
 refine RK.V (op_assign (rfl : _ = AV.vec _)) ?_
 refine RK.D ?_
 refine AWp_rn 7 1000 rfl rfl rfl ?_
 refine AWp_seq ?_
 refine AWp_sr hP ?_
 refine RK.As rfl ?_
 refine RK.D ?_
 refine AWp_block ?_
 refine AWp_loop (ι := Nat) (fun k => stL [(1, .loc 1 0), (3, .vec 1000), (4, Z (k : Int))] [(1, ⟨false, 1, 27, enBk b⟩), (1000, VB 1 3 enZ (usedL b.1 k))]) (fun k => 1 ≤ k ∧ k ≤ 17) (fun k => 17 - k) 1 ⟨Nat.le_refl _, by decide⟩ (le_stL ⟨.refl _, .refl _, .refl _, trivial⟩ ⟨rfl, rfl, trivial⟩) ?_
 rintro k hk
 refine AWp_seq ?_
 refine AWp_sr hP ?_
 refine RK.M rfl ?_
 refine RK.V (op_leq rfl rfl) ?_
 refine RK.D ?_
 refine AWp_cond rfl (fun hb1 => ?_) (fun hb1 => ?_)
 ·have hb1_ := of_decide_eq_true hb1
  refine AWp_skip ?_
  refine AWp_seq ?_
  refine AWp_block ?_
  refine AWp_sr hP ?_
  refine RK.As rfl ?_
  refine RK.D ?_
  refine AWp_seq ?_
  refine AWp_sr hP ?_
  refine RK.As rfl ?_
  refine RK.D ?_
  refine AWp_block ?_
  refine AWp_loop (ι := Nat) (fun j => stL [(1, .loc 1 0), (3, .vec 1000), (4, Z (k : Int)), (5, B ((b.1.take j).any (fun d : Drv => decide ((k : Int) ∈ d.2.2)))), (6, Z (j : Int))] [(1, ⟨false, 1, 27, enBk b⟩), (1000, VB 1 3 enZ (usedL b.1 k))]) (fun j => j ≤ b.1.length) (fun j => b.1.length - j) 0 (Nat.zero_le _) (le_stL ⟨.refl _, .refl _, .refl _, .refl _, .refl _, trivial⟩ ⟨rfl, rfl, trivial⟩) ?_
  rintro j hj
  refine AWp_seq ?_
  refine AWp_sr hP ?_
  refine RK.M rfl ?_
  refine RK.F hT rfl rfl rfl rfl rfl rfl ?_
  refine RK.V (op_load_one hT rfl rfl rfl rfl (by first | rfl | exact vget (by omega))) ?_
  refine RK.V (op_len hT rfl rfl rfl (by rfl)) ?_
  refine RK.V (op_lss rfl rfl) ?_
  refine RK.D ?_
  refine AWp_cond rfl (fun hb2 => ?_) (fun hb2 => ?_)
  ·have hb2_ := of_decide_eq_true hb2
   have hjl : j < b.1.length := by omega
   refine AWp_skip ?_
   refine AWp_seq ?_
   refine AWp_block ?_
   refine AWp_region hP ?_
   refine RK.M rfl ?_
   refine RK.M rfl ?_
   refine RK.split (t := 20) rfl (fun hg3 => ?_) (fun hg3 => ?_)
   ·have hq := hg3
    refine RK.skip (guard_no rfl rfl hg3) ?_
    refine RK.skip (guard_no rfl rfl hg3) ?_
    refine RK.skip (guard_no rfl rfl hg3) ?_
    refine RK.skip (guard_no rfl rfl hg3) ?_
    refine RK.skip (guard_no rfl rfl hg3) ?_
    refine RK.skip (guard_no rfl rfl hg3) ?_
    refine RK.skip (guard_no rfl rfl hg3) ?_
    refine RK.skip (guard_no rfl rfl hg3) ?_
    refine RK.V (op_pick_t rfl hg3 (rfl : _ = AV.p (.c _))) ?_
    refine RK.As rfl ?_
    refine RK.D ?_
    refine AWp_region hP ?_
    refine RK.M rfl ?_
    refine RK.V (op_add rfl rfl (by first | exact IntWalk.i64_in _ (by omega) | rfl)) ?_
    refine RK.As rfl ?_
    refine RK.D ?_
    refine ⟨j + 1, by omega, by omega, le_stL ⟨.refl _, .refl _, .refl _, Sub.bool (any_y zD hjl hq), Sub.int (by omega), trivial⟩ ⟨rfl, rfl, trivial⟩⟩
   ·have hq := hg3
    refine RK.val (guard_yes rfl rfl hg3) (op_field_loc hT rfl rfl rfl rfl rfl rfl) ?_
    refine RK.val (guard_yes rfl rfl hg3) (op_load_one hT rfl rfl rfl rfl (by first | rfl | exact vget (by omega))) ?_
    refine RK.val (guard_yes rfl rfl hg3) (op_move (rfl : _ = AV.p (.c _))) ?_
    refine RK.val (guard_yes rfl rfl hg3) (op_indexG hT enD_len (by decide) zD (n := (j : Int)) (l := b.1) rfl rfl rfl rfl rfl rfl (by omega)) ?_
    refine RK.val (guard_yes rfl rfl hg3) (op_field_ip hT rfl rfl rfl rfl rfl rfl) ?_
    refine RK.val (guard_yes rfl rfl hg3) (op_load_ip_one hT rfl rfl rfl rfl) ?_
    refine RK.val (guard_yes rfl rfl hg3) (op_move (rfl : _ = AV.p (.c _))) ?_
    refine RK.val (guard_yes rfl rfl hg3) (Eff.call0 (p_rHas (b.1.getD j zD).2.2 (k : Int))) ?_
    refine RK.V (op_pick_f rfl hg3 (rfl : _ = AV.p (.c _))) ?_
    refine RK.As rfl ?_
    refine RK.D ?_
    refine AWp_region hP ?_
    refine RK.M rfl ?_
    refine RK.V (op_add rfl rfl (by first | exact IntWalk.i64_in _ (by omega) | rfl)) ?_
    refine RK.As rfl ?_
    refine RK.D ?_
    refine ⟨j + 1, by omega, by omega, le_stL ⟨.refl _, .refl _, .refl _, Sub.bool (any_n zD hjl hq), Sub.int (by omega), trivial⟩ ⟨rfl, rfl, trivial⟩⟩
  ·have hb2_ := of_decide_eq_false hb2
   have hfe : b.1.take j = b.1 := List.take_of_length_le (by omega)
   rw [hfe]
   refine AWp_exit ?_
   refine AWp_sr hP ?_
   refine RK.M rfl ?_
   refine RK.D ?_
   refine AWp_cond rfl (fun hb4 => ?_) (fun hb4 => ?_)
   ·have hu : usP b.1 k = true := hb4
    refine AWp_region hP ?_
    refine RK.V (op_move (rfl : _ = AV.vec _)) ?_
    refine RK.M rfl ?_
    refine RK.V (op_bslice hT rfl rfl rfl (es := [_]) rfl rfl rfl) ?_
    refine RK.app guard_none (op_appendG (encD := enZ) hT enZ_len (by decide) rfl rfl rfl rfl rfl rfl rfl (b := (k : Int)) rfl (Nat.le_trans (usF_len _ _) (by omega)) (by decide) (by decide)) ?_
    refine RK.V (op_assign (rfl : _ = AV.vec _)) ?_
    refine RK.D ?_
    refine AWp_rn 34 1000 rfl rfl rfl ?_
    refine AWp_region hP ?_
    refine RK.M rfl ?_
    refine RK.V (op_add rfl rfl (by first | exact IntWalk.i64_in _ (by omega) | rfl)) ?_
    refine RK.As rfl ?_
    refine RK.D ?_
    refine ⟨k + 1, by omega, by omega, le_stL ⟨.refl _, .refl _, Sub.int (by omega), trivial⟩ ⟨rfl, Eq.trans rfl (congrArg (fun l => some (VB 1 3 enZ l)) (usF_y hk.1 hu)), trivial⟩⟩
   ·have hu : usP b.1 k = false := hb4
    refine AWp_skip ?_
    refine AWp_region hP ?_
    refine RK.M rfl ?_
    refine RK.V (op_add rfl rfl (by first | exact IntWalk.i64_in _ (by omega) | rfl)) ?_
    refine RK.As rfl ?_
    refine RK.D ?_
    refine ⟨k + 1, by omega, by omega, le_stL ⟨.refl _, .refl _, Sub.int (by omega), trivial⟩ ⟨rfl, Eq.trans rfl (congrArg (fun l => some (VB 1 3 enZ l)) (usF_n hu)), trivial⟩⟩
 ·have hb1_ := of_decide_eq_false hb1
  have hk17 : k = 17 := by omega
  subst hk17
  refine AWp_exit ?_
  refine AWp_freezeG (encD := enZ) enZ_len rfl (t := 3) rfl rfl ?_
  refine AWp_sr hP ?_
  refine RK.M rfl ?_
  refine RK.As rfl ?_
  refine RK.D ?_
  refine AWp_ret ?_
  refine ends_one rfl (.inr rfl) (res_tmp rfl) ?_ O_ends
  exact .refl _
/- algorist/algoristref30.added -/
set_option maxHeartbeats 1000000 in
set_option maxRecDepth 100000 in
theorem p_addedV (l : List Str) (s : Str) (hl : l.length ≤ 1000000) :
  CallV Tryz.prog 55 [.p (.c (SL enS l)), AS s] (VB 1 9 enS (addS l s)) := by
 refine callV_of Tryz.func55 (by kernel_rfl) rfl rfl (Nat.le_of_ble_eq_true rfl) ?_
 refine AWp_len (t := 0) rfl rfl (fun hlen => ?_)
 refine AWp_sr hP ?_
 refine RK.As rfl ?_
 refine RK.D ?_
 refine AWp_sr hP ?_
 refine RK.As rfl ?_
 refine RK.D ?_
 refine AWp_seq ?_
 refine AWp_block ?_
 refine AWp_loop (ι := Nat) (fun k => stL [(0, .p (.c (SL enS l))), (1, AS s), (5, Z (k : Int))] []) (fun k => k ≤ l.length ∧ ∀ i, i < k → ltS (l.getD i []) s = true) (fun k => l.length - k) 0 ⟨Nat.zero_le _, fun i h => by omega⟩ (le_stL ⟨.refl _, .refl _, .refl _, trivial⟩ trivial) ?_
 rintro k ⟨hk, hI⟩
 refine AWp_seq ?_
 refine AWp_sr hP ?_
 refine RK.M rfl ?_
 refine RK.M rfl ?_
 refine RK.V (op_len hT rfl rfl rfl (by rfl)) ?_
 refine RK.V (op_lss rfl rfl) ?_
 refine RK.M rfl ?_
 refine RK.split (t := 10) rfl (fun hg1 => ?_) (fun hg1 => ?_)
 ·have hg1_ := of_decide_eq_true hg1
  refine RK.val (guard_yes rfl rfl hg1) (op_move (rfl : _ = AV.p (.c _))) ?_
  refine RK.val (guard_yes rfl rfl hg1) (op_move (rfl : _ = AV.p (.c _))) ?_
  refine RK.val (guard_yes rfl rfl hg1) (op_indexG hT enS_len (by decide) [] (n := (k : Int)) (l := l) rfl rfl rfl rfl rfl rfl (by omega)) ?_
  refine RK.val (guard_yes rfl rfl hg1) (op_load_ip_one hT rfl rfl rfl rfl) ?_
  refine RK.val (guard_yes rfl rfl hg1) (op_move (rfl : _ = AV.p (.c _))) ?_
  refine RK.val (guard_yes rfl rfl hg1) (op_slss rfl rfl) ?_
  refine RK.V (op_pick_t rfl hg1 (rfl : _ = AV.p (.c _))) ?_
  refine RK.D ?_
  refine AWp_cond rfl (fun hb2 => ?_) (fun hb2 => ?_)
  ·have hlt : ltS (l.getD k []) s = true := hb2
   refine AWp_skip ?_
   refine AWp_block ?_
   refine AWp_region hP ?_
   refine RK.M rfl ?_
   refine RK.V (op_add rfl rfl (by first | exact IntWalk.i64_in _ (by omega) | rfl)) ?_
   refine RK.As rfl ?_
   refine RK.D ?_
   refine ⟨k + 1, ⟨by omega, fun i h1 => by
     by_cases e : i = k
     ·subst e; exact hlt
     ·exact hI i (by omega)⟩, by omega, le_stL ⟨.refl _, .refl _, Sub.int (by omega), trivial⟩ trivial⟩
  ·have hes : addS l s = [] ++ l.take k ++ [s] ++ l.drop k := (addS_k hk hI (fun q => by have h9 : ltS (l.getD k []) s = false := hb2; rw [h9] at q; cases q.2)).symm
   rw [hes]
   refine AWp_exit ?_
   refine AWp_sr hP ?_
   refine RK.alc guard_none (op_bslice_vec hT rfl rfl rfl (es := []) rfl rfl rfl) ?_
   refine RK.M rfl ?_
   refine RK.M rfl ?_
   refine RK.V (op_slice_hG hT enS_len rfl rfl rfl rfl rfl rfl (n := k) hk) ?_
   refine RK.app guard_none (op_appendL hT enS_len (by decide) (l := []) (l' := l.take k) rfl rfl rfl rfl rfl rfl rfl rfl (by rw [List.length_take, List.length_nil]; omega) (by decide) (by decide)) ?_
   refine RK.M rfl ?_
   refine RK.V (op_bslice hT rfl rfl rfl (es := [_]) rfl rfl rfl) ?_
   refine RK.app guard_none (op_appendG (encD := enS) hT enS_len (by decide) rfl rfl rfl rfl rfl rfl rfl (b := s) rfl (by rw [List.nil_append, List.length_take]; omega) (by decide) (by decide)) ?_
   refine RK.M rfl ?_
   refine RK.M rfl ?_
   refine RK.V (op_slice_lG hT enS_len rfl rfl rfl rfl rfl rfl (n := k) hk) ?_
   refine RK.app guard_none (op_appendL hT enS_len (by decide) (l := [] ++ l.take k ++ [s]) (l' := l.drop k) rfl rfl rfl rfl rfl rfl rfl rfl (by simp only [List.length_append, List.length_take, List.length_drop, List.length_cons, List.length_nil]; omega) (by decide) (by decide)) ?_
   refine RK.V (op_assign (rfl : _ = AV.vec _)) ?_
   refine RK.D ?_
   refine AWp_ret ?_
   refine ⟨.inr rfl, _, _, rfl, rfl, ?_⟩
   exact rfl
 ·have hg1_ := of_decide_eq_false hg1
  have hes : addS l s = [] ++ l.take k ++ [s] ++ l.drop k := (addS_k hk hI (fun q => by omega)).symm
  rw [hes]
  refine RK.skip (guard_no rfl rfl hg1) ?_
  refine RK.skip (guard_no rfl rfl hg1) ?_
  refine RK.skip (guard_no rfl rfl hg1) ?_
  refine RK.skip (guard_no rfl rfl hg1) ?_
  refine RK.skip (guard_no rfl rfl hg1) ?_
  refine RK.skip (guard_no rfl rfl hg1) ?_
  refine RK.V (op_pick_f rfl hg1 (rfl : _ = AV.p (.c _))) ?_
  refine RK.D ?_
  refine AWp_cond_false rfl rfl ?_
  refine AWp_exit ?_
  refine AWp_sr hP ?_
  refine RK.alc guard_none (op_bslice_vec hT rfl rfl rfl (es := []) rfl rfl rfl) ?_
  refine RK.M rfl ?_
  refine RK.M rfl ?_
  refine RK.V (op_slice_hG hT enS_len rfl rfl rfl rfl rfl rfl (n := k) hk) ?_
  refine RK.app guard_none (op_appendL hT enS_len (by decide) (l := []) (l' := l.take k) rfl rfl rfl rfl rfl rfl rfl rfl (by rw [List.length_take, List.length_nil]; omega) (by decide) (by decide)) ?_
  refine RK.M rfl ?_
  refine RK.V (op_bslice hT rfl rfl rfl (es := [_]) rfl rfl rfl) ?_
  refine RK.app guard_none (op_appendG (encD := enS) hT enS_len (by decide) rfl rfl rfl rfl rfl rfl rfl (b := s) rfl (by rw [List.nil_append, List.length_take]; omega) (by decide) (by decide)) ?_
  refine RK.M rfl ?_
  refine RK.M rfl ?_
  refine RK.V (op_slice_lG hT enS_len rfl rfl rfl rfl rfl rfl (n := k) hk) ?_
  refine RK.app guard_none (op_appendL hT enS_len (by decide) (l := [] ++ l.take k ++ [s]) (l' := l.drop k) rfl rfl rfl rfl rfl rfl rfl rfl (by simp only [List.length_append, List.length_take, List.length_drop, List.length_cons, List.length_nil]; omega) (by decide) (by decide)) ?_
  refine RK.V (op_assign (rfl : _ = AV.vec _)) ?_
  refine RK.D ?_
  refine AWp_ret ?_
  refine ⟨.inr rfl, _, _, rfl, rfl, ?_⟩
  exact rfl
theorem p_added (l : List Str) (s : Str) (hl : l.length ≤ 1000000) : Call0 Tryz.prog 55 [.p (.c (SL enS l)), AS s] (.p (.c (SL enS (addS l s)))) := (p_addedV l s hl).call0 (n := (addS l s).length) rfl (flat_len enS_len _).symm Nat.zero_lt_one
end Go.Proofs.YtmoaoiakmmbpoaaGreatDoor
end

section
/- chapter 30: the reference: Needs -/
namespace Go.Proofs.YtmoaoiakmmbpoaaGreatDoor
open Go Go.AM
/- algorist/algoristref30.Needs -/
set_option maxHeartbeats 4000000 in
set_option maxRecDepth 100000 in
theorem p_rNeeds (b : Book) (c : Str) (hl : b.1.length ≤ 1000000) :
  Call0 Tryz.prog 16 [.p (.a (enBk b)), AS c] (.p (.c (SL enL (ndR b.1 c (usedL b.1 17) (2 ^ (usedL b.1 17).length))))) := by
 have hU := usF_len b.1 17
 have hpw := us_pow (D := b.1)
 refine callM_of (np := 0) Tryz.func16 (by kernel_rfl) rfl rfl (Nat.le_of_ble_eq_true rfl) (fun m h => absurd rfl h) (fun m h => absurd rfl h) rfl ?_
 refine AWp_sr hP ?_
 refine RK.alc guard_none (op_box rfl rfl) ?_
 refine RK.As rfl ?_
 refine RK.D ?_
 refine AWp_sr hP ?_
 refine RK.G2 hT rfl rfl rfl rfl rfl rfl ?_
 refine RK.V (Eff.call0 (p_used b hl)) ?_
 refine RK.V (op_bslice hT rfl rfl rfl (es := []) rfl rfl rfl) ?_
 refine RK.As rfl ?_
 refine RK.As rfl ?_
 refine RK.D ?_
 refine AWp_seq ?_
 refine AWp_sr hP ?_
 refine RK.As rfl ?_
 refine RK.D ?_
 refine AWp_block ?_
 refine AWp_loop (ι := Nat) (fun M => stL [(1, AS c), (2, .loc 2 0), (5, .p (.c (SL enZ (usedL b.1 17)))), (6, .p (.c (SL enL (ndR b.1 c (usedL b.1 17) M)))), (7, Z (M : Int))] [(2, ⟨false, 1, 27, enBk b⟩)]) (fun M => M ≤ 2 ^ (usedL b.1 17).length) (fun M => 2 ^ (usedL b.1 17).length - M) 0 (Nat.zero_le _) (le_stL ⟨.refl _, .refl _, .refl _, .refl _, .refl _, trivial⟩ ⟨rfl, trivial⟩) ?_
 rintro M hMM
 refine AWp_seq ?_
 refine AWp_sr hP ?_
 refine RK.M rfl ?_
 refine RK.M rfl ?_
 refine RK.V (op_len hT rfl rfl rfl (by rfl)) ?_
 refine RK.V (op_conv hT rfl rfl rfl rfl (by first | exact IntWalk.u64_in _ (by omega) | rfl)) ?_
 refine RK.V (op_shl (c := ((2 ^ (usedL b.1 17).length : Nat) : Int)) rfl rfl (by omega) (shl_q _ (by omega))) ?_
 refine RK.V (op_lss rfl rfl) ?_
 refine RK.D ?_
 refine AWp_cond rfl (fun hb1 => ?_) (fun hb1 => ?_)
 ·have hb1_ := of_decide_eq_true hb1
  have hM : M < 131072 := by omega
  have hol := ndR_len b.1 c (usedL b.1 17) M
  refine AWp_skip ?_
  refine AWp_seq ?_
  refine AWp_block ?_
  refine AWp_sr hP ?_
  refine RK.alc guard_none (op_bslice_vec hT rfl rfl rfl (es := []) rfl rfl rfl) ?_
  refine RK.V (op_assign (rfl : _ = AV.vec _)) ?_
  refine RK.D ?_
  refine AWp_rn 22 1000 rfl rfl rfl ?_
  refine AWp_seq ?_
  refine AWp_sr hP ?_
  refine RK.As rfl ?_
  refine RK.D ?_
  refine AWp_block ?_
  refine AWp_loop (ι := Nat) (fun i => stL [(1, AS c), (2, .loc 2 0), (5, .p (.c (SL enZ (usedL b.1 17)))), (6, .p (.c (SL enL (ndR b.1 c (usedL b.1 17) M)))), (7, Z (M : Int)), (8, .vec 1000), (9, Z (i : Int))] [(2, ⟨false, 1, 27, enBk b⟩), (1000, VB 1 3 enZ (subL (usedL b.1 17) M i))]) (fun i => i ≤ (usedL b.1 17).length) (fun i => (usedL b.1 17).length - i) 0 (Nat.zero_le _) (le_stL ⟨.refl _, .refl _, .refl _, .refl _, .refl _, .refl _, .refl _, trivial⟩ ⟨rfl, rfl, trivial⟩) ?_
  rintro i hi
  refine AWp_seq ?_
  refine AWp_sr hP ?_
  refine RK.M rfl ?_
  refine RK.M rfl ?_
  refine RK.V (op_len hT rfl rfl rfl (by rfl)) ?_
  refine RK.V (op_lss rfl rfl) ?_
  refine RK.D ?_
  refine AWp_cond rfl (fun hb2 => ?_) (fun hb2 => ?_)
  ·have hb2_ := of_decide_eq_true hb2
   have hiu : i < (usedL b.1 17).length := by omega
   refine AWp_skip ?_
   refine AWp_seq ?_
   refine AWp_block ?_
   refine AWp_sr hP ?_
   refine RK.M rfl ?_
   refine RK.M rfl ?_
   refine RK.V (op_conv hT rfl rfl rfl rfl (by first | exact IntWalk.u64_in _ (by omega) | rfl)) ?_
   refine RK.V (op_shrN (m := M) (j := i) rfl rfl (show _ ≤ 64 by omega)) ?_
   refine RK.V (op_andI (m := M / 2 ^ i) (n := 1) rfl rfl (Nat.lt_of_le_of_lt (Nat.div_le_self _ _) (by omega)) (by decide)) ?_
   refine RK.V (op_eql rfl rfl) ?_
   refine RK.D ?_
   refine AWp_cond rfl (fun hb3 => ?_) (fun hb3 => ?_)
   ·have hb3_ := bT hb3
    have hq := bT hb3
    refine AWp_region hP ?_
    refine RK.V (op_move (rfl : _ = AV.vec _)) ?_
    refine RK.M rfl ?_
    refine RK.M rfl ?_
    refine RK.V (op_indexG hT enZ_len (by decide) 0 (n := (i : Int)) (l := (usedL b.1 17)) rfl rfl rfl rfl rfl rfl (by omega)) ?_
    refine RK.V (op_load_ip_one hT rfl rfl rfl rfl) ?_
    refine RK.V (op_bslice hT rfl rfl rfl (es := [_]) rfl rfl rfl) ?_
    refine RK.app guard_none (op_appendG (encD := enZ) hT enZ_len (by decide) rfl rfl rfl rfl rfl rfl rfl (b := (usedL b.1 17).getD i 0) rfl (Nat.le_trans (subL_len _ _ _) (by omega)) (by decide) (by decide)) ?_
    refine RK.V (op_assign (rfl : _ = AV.vec _)) ?_
    refine RK.D ?_
    refine AWp_rn 41 1000 rfl rfl rfl ?_
    refine AWp_region hP ?_
    refine RK.M rfl ?_
    refine RK.V (op_add rfl rfl (by first | exact IntWalk.i64_in _ (by omega) | rfl)) ?_
    refine RK.As rfl ?_
    refine RK.D ?_
    refine ⟨i + 1, by omega, by omega, le_stL ⟨.refl _, .refl _, .refl _, .refl _, .refl _, .refl _, Sub.int (by omega), trivial⟩ ⟨rfl, Eq.trans rfl (congrArg (fun l => some (VB 1 3 enZ l)) (subL_y hq)), trivial⟩⟩
   ·have hb3_ := bF hb3
    have hq := bF hb3
    refine AWp_skip ?_
    refine AWp_region hP ?_
    refine RK.M rfl ?_
    refine RK.V (op_add rfl rfl (by first | exact IntWalk.i64_in _ (by omega) | rfl)) ?_
    refine RK.As rfl ?_
    refine RK.D ?_
    refine ⟨i + 1, by omega, by omega, le_stL ⟨.refl _, .refl _, .refl _, .refl _, .refl _, .refl _, Sub.int (by omega), trivial⟩ ⟨rfl, Eq.trans rfl (congrArg (fun l => some (VB 1 3 enZ l)) (subL_n hq)), trivial⟩⟩
  ·have hb2_ := of_decide_eq_false hb2
   have hie : i = (usedL b.1 17).length := by omega
   subst hie
   refine AWp_exit ?_
   refine AWp_freezeG (encD := enZ) enZ_len rfl (t := 8) rfl rfl ?_
   refine AWp_sr hP ?_
   refine RK.G2 hT rfl rfl rfl rfl rfl rfl ?_
   refine RK.M rfl ?_
   refine RK.M rfl ?_
   refine RK.V (Eff.call0 (p_minimal b (subL (usedL b.1 17) M (usedL b.1 17).length) c hl (Nat.le_trans (subL_len _ _ _) (by omega)))) ?_
   refine RK.D ?_
   refine AWp_cond rfl (fun hb4 => ?_) (fun hb4 => ?_)
   ·have hmin := hb4
    refine AWp_sr hP ?_
    refine RK.As rfl ?_
    refine RK.D ?_
    refine AWp_seq ?_
    refine AWp_block ?_
    refine AWp_loop (ι := Nat) (fun k => stL [(1, AS c), (2, .loc 2 0), (5, .p (.c (SL enZ (usedL b.1 17)))), (6, .p (.c (SL enL (ndR b.1 c (usedL b.1 17) M)))), (7, Z (M : Int)), (8, .p (.c (SL enZ (subL (usedL b.1 17) M (usedL b.1 17).length)))), (10, Z (k : Int))] [(2, ⟨false, 1, 27, enBk b⟩)]) (fun k => k ≤ (ndR b.1 c (usedL b.1 17) M).length ∧ ∀ i, i < k → cmL cmZ ((ndR b.1 c (usedL b.1 17) M).getD i []) (subL (usedL b.1 17) M (usedL b.1 17).length) < 0) (fun k => (ndR b.1 c (usedL b.1 17) M).length - k) 0 ⟨Nat.zero_le _, fun i h => by omega⟩ (le_stL ⟨.refl _, .refl _, .refl _, .refl _, .refl _, .refl _, .refl _, trivial⟩ ⟨rfl, trivial⟩) ?_
    rintro k ⟨hk, hI⟩
    refine AWp_seq ?_
    refine AWp_sr hP ?_
    refine RK.M rfl ?_
    refine RK.M rfl ?_
    refine RK.V (op_len hT rfl rfl rfl (by rfl)) ?_
    refine RK.V (op_lss rfl rfl) ?_
    refine RK.M rfl ?_
    refine RK.split (t := 50) rfl (fun hg5 => ?_) (fun hg5 => ?_)
    ·have hg5_ := of_decide_eq_true hg5
     refine RK.val (guard_yes rfl rfl hg5) (op_move (rfl : _ = AV.p (.c _))) ?_
     refine RK.val (guard_yes rfl rfl hg5) (op_move (rfl : _ = AV.p (.c _))) ?_
     refine RK.val (guard_yes rfl rfl hg5) (op_indexG hT enL_len (by decide) [] (n := (k : Int)) (l := (ndR b.1 c (usedL b.1 17) M)) rfl rfl rfl rfl rfl rfl (by omega)) ?_
     refine RK.val (guard_yes rfl rfl hg5) (op_load_ip_one hT rfl rfl rfl rfl) ?_
     refine RK.val (guard_yes rfl rfl hg5) (op_move (rfl : _ = AV.p (.c _))) ?_
     refine RK.val (guard_yes rfl rfl hg5) (Eff.call0 (p_rcmpL ((ndR b.1 c (usedL b.1 17) M).getD k []) (subL (usedL b.1 17) M (usedL b.1 17).length))) ?_
     refine RK.val (guard_yes rfl rfl hg5) (op_lss rfl rfl) ?_
     refine RK.V (op_pick_t rfl hg5 (rfl : _ = AV.p (.c _))) ?_
     refine RK.D ?_
     refine AWp_cond rfl (fun hb6 => ?_) (fun hb6 => ?_)
     ·have hb6_ := of_decide_eq_true hb6
      refine AWp_skip ?_
      refine AWp_block ?_
      refine AWp_region hP ?_
      refine RK.M rfl ?_
      refine RK.V (op_add rfl rfl (by first | exact IntWalk.i64_in _ (by omega) | rfl)) ?_
      refine RK.As rfl ?_
      refine RK.D ?_
      refine ⟨k + 1, ⟨by omega, fun i h1 => by
        by_cases e : i = k
        ·subst e; exact (show cmL cmZ ((ndR b.1 c (usedL b.1 17) M).getD i []) (subL (usedL b.1 17) M (usedL b.1 17).length) < 0 by omega)
        ·exact hI i (by omega)⟩, by omega, le_stL ⟨.refl _, .refl _, .refl _, .refl _, .refl _, .refl _, Sub.int (by omega), trivial⟩ ⟨rfl, trivial⟩⟩
     ·have hb6_ := of_decide_eq_false hb6
      have hes := insL_k hk hI (fun q => by omega)
      refine AWp_exit ?_
      refine AWp_region hP ?_
      refine RK.alc guard_none (op_bslice_vec hT rfl rfl rfl (es := []) rfl rfl rfl) ?_
      refine RK.M rfl ?_
      refine RK.M rfl ?_
      refine RK.V (op_slice_hG hT enL_len rfl rfl rfl rfl rfl rfl (n := k) hk) ?_
      refine RK.app guard_none (op_appendL hT enL_len (by decide) (l := []) (l' := (ndR b.1 c (usedL b.1 17) M).take k) rfl rfl rfl rfl rfl rfl rfl rfl (by rw [List.length_take, List.length_nil]; omega) (by decide) (by decide)) ?_
      refine RK.M rfl ?_
      refine RK.V (op_bslice hT rfl rfl rfl (es := [_]) rfl rfl rfl) ?_
      refine RK.app guard_none (op_appendG (encD := enL) hT enL_len (by decide) rfl rfl rfl rfl rfl rfl rfl (b := (subL (usedL b.1 17) M (usedL b.1 17).length)) rfl (by rw [List.nil_append, List.length_take]; omega) (by decide) (by decide)) ?_
      refine RK.M rfl ?_
      refine RK.M rfl ?_
      refine RK.V (op_slice_lG hT enL_len rfl rfl rfl rfl rfl rfl (n := k) hk) ?_
      refine RK.app guard_none (op_appendL hT enL_len (by decide) (l := [] ++ (ndR b.1 c (usedL b.1 17) M).take k ++ [(subL (usedL b.1 17) M (usedL b.1 17).length)]) (l' := (ndR b.1 c (usedL b.1 17) M).drop k) rfl rfl rfl rfl rfl rfl rfl rfl (by simp only [List.length_append, List.length_take, List.length_drop, List.length_cons, List.length_nil]; omega) (by decide) (by decide)) ?_
      refine RK.V (op_assign (rfl : _ = AV.vec _)) ?_
      refine RK.D ?_
      refine AWp_freezeG (encD := enL) enL_len rfl (t := 6) rfl rfl ?_
      refine AWp_region hP ?_
      refine RK.M rfl ?_
      refine RK.V (op_add rfl rfl (by first | exact IntWalk.i64_in _ (by omega) | rfl)) ?_
      refine RK.As rfl ?_
      refine RK.D ?_
      refine ⟨M + 1, by omega, by omega, le_stL ⟨.refl _, .refl _, .refl _, Sub.of_eq (congrArg (fun l => (.p (.c (SL enL l)) : AV)) (hes.trans (ndR_y hmin))), Sub.int (by omega), trivial⟩ ⟨rfl, trivial⟩⟩
    ·have hg5_ := of_decide_eq_false hg5
     have hes := insL_k hk hI (fun q => by omega)
     refine RK.skip (guard_no rfl rfl hg5) ?_
     refine RK.skip (guard_no rfl rfl hg5) ?_
     refine RK.skip (guard_no rfl rfl hg5) ?_
     refine RK.skip (guard_no rfl rfl hg5) ?_
     refine RK.skip (guard_no rfl rfl hg5) ?_
     refine RK.skip (guard_no rfl rfl hg5) ?_
     refine RK.skip (guard_no rfl rfl hg5) ?_
     refine RK.V (op_pick_f rfl hg5 (rfl : _ = AV.p (.c _))) ?_
     refine RK.D ?_
     refine AWp_cond_false rfl rfl ?_
     refine AWp_exit ?_
     refine AWp_region hP ?_
     refine RK.alc guard_none (op_bslice_vec hT rfl rfl rfl (es := []) rfl rfl rfl) ?_
     refine RK.M rfl ?_
     refine RK.M rfl ?_
     refine RK.V (op_slice_hG hT enL_len rfl rfl rfl rfl rfl rfl (n := k) hk) ?_
     refine RK.app guard_none (op_appendL hT enL_len (by decide) (l := []) (l' := (ndR b.1 c (usedL b.1 17) M).take k) rfl rfl rfl rfl rfl rfl rfl rfl (by rw [List.length_take, List.length_nil]; omega) (by decide) (by decide)) ?_
     refine RK.M rfl ?_
     refine RK.V (op_bslice hT rfl rfl rfl (es := [_]) rfl rfl rfl) ?_
     refine RK.app guard_none (op_appendG (encD := enL) hT enL_len (by decide) rfl rfl rfl rfl rfl rfl rfl (b := (subL (usedL b.1 17) M (usedL b.1 17).length)) rfl (by rw [List.nil_append, List.length_take]; omega) (by decide) (by decide)) ?_
     refine RK.M rfl ?_
     refine RK.M rfl ?_
     refine RK.V (op_slice_lG hT enL_len rfl rfl rfl rfl rfl rfl (n := k) hk) ?_
     refine RK.app guard_none (op_appendL hT enL_len (by decide) (l := [] ++ (ndR b.1 c (usedL b.1 17) M).take k ++ [(subL (usedL b.1 17) M (usedL b.1 17).length)]) (l' := (ndR b.1 c (usedL b.1 17) M).drop k) rfl rfl rfl rfl rfl rfl rfl rfl (by simp only [List.length_append, List.length_take, List.length_drop, List.length_cons, List.length_nil]; omega) (by decide) (by decide)) ?_
     refine RK.V (op_assign (rfl : _ = AV.vec _)) ?_
     refine RK.D ?_
     refine AWp_freezeG (encD := enL) enL_len rfl (t := 6) rfl rfl ?_
     refine AWp_region hP ?_
     refine RK.M rfl ?_
     refine RK.V (op_add rfl rfl (by first | exact IntWalk.i64_in _ (by omega) | rfl)) ?_
     refine RK.As rfl ?_
     refine RK.D ?_
     refine ⟨M + 1, by omega, by omega, le_stL ⟨.refl _, .refl _, .refl _, Sub.of_eq (congrArg (fun l => (.p (.c (SL enL l)) : AV)) (hes.trans (ndR_y hmin))), Sub.int (by omega), trivial⟩ ⟨rfl, trivial⟩⟩
   ·have hmin := hb4
    refine AWp_skip ?_
    refine AWp_region hP ?_
    refine RK.M rfl ?_
    refine RK.V (op_add rfl rfl (by first | exact IntWalk.i64_in _ (by omega) | rfl)) ?_
    refine RK.As rfl ?_
    refine RK.D ?_
    refine ⟨M + 1, by omega, by omega, le_stL ⟨.refl _, .refl _, .refl _, Sub.of_eq (congrArg (fun l => (.p (.c (SL enL l)) : AV)) (ndR_n hmin)), Sub.int (by omega), trivial⟩ ⟨rfl, trivial⟩⟩
 ·have hb1_ := of_decide_eq_false hb1
  have hMe : M = 2 ^ (usedL b.1 17).length := by omega
  subst hMe
  refine AWp_exit ?_
  refine AWp_sr hP ?_
  refine RK.M rfl ?_
  refine RK.As rfl ?_
  refine RK.D ?_
  refine AWp_ret ?_
  refine ends_one rfl (.inr rfl) (res_tmp rfl) ?_ O_ends
  exact .refl _
end Go.Proofs.YtmoaoiakmmbpoaaGreatDoor
end

section
/- chapter 30: the reference: Reason -/
namespace Go.Proofs.YtmoaoiakmmbpoaaGreatDoor
open Go Go.AM
/- algorist/algoristref30.Reason -/
set_option maxHeartbeats 4000000 in
set_option maxRecDepth 100000 in
theorem p_Reason (b : Book) (c : Str) (hl : b.1.length ≤ 1000000) (hf : ∀ d ∈ b.1, d.2.1.length ≤ 1000000) :
  Call0 Tryz.prog 53 [.p (.a (enBk b)), AS c] (Z (rsI b.1 (finD b.1 (okL b.2)) b.2 c)) := by
 refine callM_of (np := 0) Tryz.func53 (by kernel_rfl) rfl rfl (Nat.le_of_ble_eq_true rfl) (fun m h => absurd rfl h) (fun m h => absurd rfl h) rfl ?_
 refine AWp_lenA 0 0 (n := b.1.length) rfl rfl (fun hlen => ?_)
 refine AWp_sr hP ?_
 refine RK.alc guard_none (op_box rfl rfl) ?_
 refine RK.As rfl ?_
 refine RK.D ?_
 refine AWp_sr hP ?_
 refine RK.G2 hT rfl rfl rfl rfl rfl rfl ?_
 refine RK.F hT rfl rfl rfl rfl rfl rfl ?_
 refine RK.V (op_load_one hT rfl rfl rfl rfl (by first | rfl | exact vget (by omega))) ?_
 refine RK.V (Eff.call0 (p_rounds b b.2 hl)) ?_
 refine RK.alc guard_none (op_alloc hT rfl rfl) ?_
 refine RK.S hT rfl rfl rfl rfl rfl rfl rfl ?_
 refine RK.D ?_
 refine AWp_sr hP ?_
 refine RK.F hT rfl rfl rfl rfl rfl rfl ?_
 refine RK.V (op_load_one hT rfl rfl rfl rfl (by first | rfl | exact vget (by omega))) ?_
 refine RK.M rfl ?_
 refine RK.V (Eff.call0 (p_place (cls (finD b.1 (okL b.2))) c)) ?_
 refine RK.As rfl ?_
 refine RK.D ?_
 refine AWp_seq ?_
 refine AWp_sr hP ?_
 refine RK.As rfl ?_
 refine RK.D ?_
 refine AWp_block ?_
 refine AWp_loop (ι := Nat) (fun k => stL [(1, AS c), (2, .loc 2 0), (5, .loc 5 0), (6, Z (plI (finD b.1 (okL b.2)) c)), (7, Z (k : Int))] [(2, ⟨false, 1, 27, enBk b⟩), (5, ⟨false, 1, 97, [SL enS (cls (finD b.1 (okL b.2))), SL enZ (rks (finD b.1 (okL b.2)))]⟩)]) (fun k => k ≤ b.1.length ∧ k ≤ b.1.findIdx (rsP (finD b.1 (okL b.2)) b.2 c)) (fun k => b.1.length - k) 0 ⟨Nat.zero_le _, Nat.zero_le _⟩ (le_stL ⟨.refl _, .refl _, .refl _, .refl _, .refl _, trivial⟩ ⟨rfl, rfl, trivial⟩) ?_
 rintro k ⟨hk, hI⟩
 refine AWp_seq ?_
 refine AWp_sr hP ?_
 refine RK.M rfl ?_
 refine RK.F hT rfl rfl rfl rfl rfl rfl ?_
 refine RK.V (op_load_one hT rfl rfl rfl rfl (by first | rfl | exact vget (by omega))) ?_
 refine RK.V (op_len hT rfl rfl rfl (by rfl)) ?_
 refine RK.V (op_lss rfl rfl) ?_
 refine RK.M rfl ?_
 refine RK.split (t := 23) rfl (fun hg1 => ?_) (fun hg1 => ?_)
 ·have hg1_ := of_decide_eq_true hg1
  have hkl : k < b.1.length := by have := of_decide_eq_true hg1; omega
  have hfl := hf _ (getD_mem' zD hkl)
  refine RK.val (guard_yes rfl rfl hg1) (op_move (rfl : _ = AV.p (.c _))) ?_
  refine RK.val (guard_yes rfl rfl hg1) (op_geq rfl rfl) ?_
  refine RK.V (op_pick_t rfl hg1 (rfl : _ = AV.p (.c _))) ?_
  refine RK.D ?_
  refine AWp_cond rfl (fun hb2 => ?_) (fun hb2 => ?_)
  ·have hb2_ := of_decide_eq_true hb2
   have hcf : c ∈ cls (finD b.1 (okL b.2)) := pl_y (show ¬ plI (finD b.1 (okL b.2)) c < 0 by have := of_decide_eq_true hb2; omega)
   refine AWp_skip ?_
   refine AWp_seq ?_
   refine AWp_block ?_
   refine AWp_sr hP ?_
   refine RK.F hT rfl rfl rfl rfl rfl rfl ?_
   refine RK.V (op_load_one hT rfl rfl rfl rfl (by first | rfl | exact vget (by omega))) ?_
   refine RK.M rfl ?_
   refine RK.V (op_indexG hT enD_len (by decide) zD (n := (k : Int)) (l := b.1) rfl rfl rfl rfl rfl rfl (by omega)) ?_
   refine RK.V (op_field_ip hT rfl rfl rfl rfl rfl rfl) ?_
   refine RK.V (op_load_ip_one hT rfl rfl rfl rfl) ?_
   refine RK.M rfl ?_
   refine RK.V (op_seql rfl rfl) ?_
   refine RK.M rfl ?_
   refine RK.split (t := 37) rfl (fun hg3 => ?_) (fun hg3 => ?_)
   ·have hd := of_decide_eq_true hg3
    refine RK.val (guard_yes rfl rfl hg3) (op_load_agg hT rfl rfl rfl rfl (cs := [_, _]) rfl rfl) ?_
    refine RK.val (guard_yes rfl rfl hg3) (op_field_loc hT rfl rfl rfl rfl rfl rfl) ?_
    refine RK.val (guard_yes rfl rfl hg3) (op_load_one hT rfl rfl rfl rfl (by first | rfl | exact vget (by omega))) ?_
    refine RK.val (guard_yes rfl rfl hg3) (op_move (rfl : _ = AV.p (.c _))) ?_
    refine RK.val (guard_yes rfl rfl hg3) (op_indexG hT enD_len (by decide) zD (n := (k : Int)) (l := b.1) rfl rfl rfl rfl rfl rfl (by omega)) ?_
    refine RK.val (guard_yes rfl rfl hg3) (op_load_ip_agg hT rfl rfl rfl (cs := enD (b.1.getD k zD)) rfl rfl) ?_
    refine RK.val (guard_yes rfl rfl hg3) (op_field_loc hT rfl rfl rfl rfl rfl rfl) ?_
    refine RK.val (guard_yes rfl rfl hg3) (op_load_one hT rfl rfl rfl rfl (by first | rfl | exact vget (by omega))) ?_
    refine RK.val (guard_yes rfl rfl hg3) (Eff.call0 (p_found (cls (finD b.1 (okL b.2))) (SL enZ (rks (finD b.1 (okL b.2)))) (b.1.getD k zD) b.2)) ?_
    refine RK.V (op_pick_t rfl hg3 (rfl : _ = AV.p (.c _))) ?_
    refine RK.As rfl ?_
    refine RK.D ?_
    refine AWp_seq ?_
    refine AWp_sr hP ?_
    refine RK.As rfl ?_
    refine RK.D ?_
    refine AWp_block ?_
    refine AWp_loop (ι := Nat) (fun j => stL [(1, AS c), (2, .loc 2 0), (5, .loc 5 0), (6, Z (plI (finD b.1 (okL b.2)) c)), (7, Z (k : Int)), (8, B (rsB (finD b.1 (okL b.2)) b.2 c (b.1.getD k zD) && ((b.1.getD k zD).2.1.take j).all fun s => decide (rkZ (finD b.1 (okL b.2)) s < rkZ (finD b.1 (okL b.2)) c))), (9, Z (j : Int))] [(2, ⟨false, 1, 27, enBk b⟩), (5, ⟨false, 1, 97, [SL enS (cls (finD b.1 (okL b.2))), SL enZ (rks (finD b.1 (okL b.2)))]⟩)]) (fun j => j ≤ (b.1.getD k zD).2.1.length) (fun j => (b.1.getD k zD).2.1.length - j) 0 (Nat.zero_le _) (le_stL ⟨.refl _, .refl _, .refl _, .refl _, .refl _, Sub.bool (by first | exact rsB_y hd | exact rsB_n hd), .refl _, trivial⟩ ⟨rfl, rfl, trivial⟩) ?_
    rintro j hj
    refine AWp_seq ?_
    refine AWp_sr hP ?_
    refine RK.M rfl ?_
    refine RK.F hT rfl rfl rfl rfl rfl rfl ?_
    refine RK.V (op_load_one hT rfl rfl rfl rfl (by first | rfl | exact vget (by omega))) ?_
    refine RK.M rfl ?_
    refine RK.V (op_indexG hT enD_len (by decide) zD (n := (k : Int)) (l := b.1) rfl rfl rfl rfl rfl rfl (by omega)) ?_
    refine RK.V (op_field_ip hT rfl rfl rfl rfl rfl rfl) ?_
    refine RK.V (op_load_ip_one hT rfl rfl rfl rfl) ?_
    refine RK.V (op_len hT rfl rfl rfl (by rfl)) ?_
    refine RK.V (op_lss rfl rfl) ?_
    refine RK.M rfl ?_
    refine RK.split (t := 57) rfl (fun hg4 => ?_) (fun hg4 => ?_)
    ·have hg4_ := of_decide_eq_true hg4
     have hjl : j < (b.1.getD k zD).2.1.length := by have := of_decide_eq_true hg4; exact (show j < (b.1.getD ((k : Int)).toNat zD).2.1.length by omega)
     refine RK.val (guard_yes rfl rfl hg4) (op_move (rfl : _ = AV.p (.c _))) ?_
     refine RK.V (op_pick_t rfl hg4 (rfl : _ = AV.p (.c _))) ?_
     refine RK.D ?_
     refine AWp_cond rfl (fun hb5 => ?_) (fun hb5 => ?_)
     ·have hv := hb5
      have hin := rs_in (by have := hv; simp only [Bool.and_eq_true] at this; exact this.1) hjl
      refine AWp_skip ?_
      refine AWp_seq ?_
      refine AWp_block ?_
      refine AWp_region hP ?_
      refine RK.F hT rfl rfl rfl rfl rfl rfl ?_
      refine RK.V (op_load_one hT rfl rfl rfl rfl (by first | rfl | exact vget (by omega))) ?_
      refine RK.F hT rfl rfl rfl rfl rfl rfl ?_
      refine RK.V (op_load_one hT rfl rfl rfl rfl (by first | rfl | exact vget (by omega))) ?_
      refine RK.F hT rfl rfl rfl rfl rfl rfl ?_
      refine RK.V (op_load_one hT rfl rfl rfl rfl (by first | rfl | exact vget (by omega))) ?_
      refine RK.M rfl ?_
      refine RK.V (op_indexG hT enD_len (by decide) zD (n := (k : Int)) (l := b.1) rfl rfl rfl rfl rfl rfl (by omega)) ?_
      refine RK.V (op_field_ip hT rfl rfl rfl rfl rfl rfl) ?_
      refine RK.V (op_load_ip_one hT rfl rfl rfl rfl) ?_
      refine RK.M rfl ?_
      refine RK.V (op_indexG hT enS_len (by decide) [] (n := (j : Int)) (l := (b.1.getD k zD).2.1) rfl rfl rfl rfl rfl rfl (by omega)) ?_
      refine RK.V (op_load_ip_one hT rfl rfl rfl rfl) ?_
      refine RK.V (Eff.call0 (p_place (cls (finD b.1 (okL b.2))) ((b.1.getD k zD).2.1.getD j []))) ?_
      refine RK.V (op_indexG hT enZ_len (by decide) 0 (n := (plI (finD b.1 (okL b.2)) ((b.1.getD k zD).2.1.getD j []))) (l := (rks (finD b.1 (okL b.2)))) rfl rfl rfl rfl rfl rfl (pl_lt hin)) ?_
      refine RK.V (op_load_ip_one hT rfl rfl rfl rfl) ?_
      refine RK.F hT rfl rfl rfl rfl rfl rfl ?_
      refine RK.V (op_load_one hT rfl rfl rfl rfl (by first | rfl | exact vget (by omega))) ?_
      refine RK.M rfl ?_
      refine RK.V (op_indexG hT enZ_len (by decide) 0 (n := (plI (finD b.1 (okL b.2)) c)) (l := (rks (finD b.1 (okL b.2)))) rfl rfl rfl rfl rfl rfl (pl_lt hcf)) ?_
      refine RK.V (op_load_ip_one hT rfl rfl rfl rfl) ?_
      refine RK.V (op_lss rfl rfl) ?_
      refine RK.As rfl ?_
      refine RK.D ?_
      refine AWp_region hP ?_
      refine RK.M rfl ?_
      refine RK.V (op_add rfl rfl (by first | exact IntWalk.i64_in _ (by omega) | rfl)) ?_
      refine RK.As rfl ?_
      refine RK.D ?_
      refine ⟨j + 1, by omega, by omega, le_stL ⟨.refl _, .refl _, .refl _, .refl _, .refl _, Sub.bool (rs_step hjl hv), Sub.int (by omega), trivial⟩ ⟨rfl, rfl, trivial⟩⟩
     ·have hstop := rs_stop hb5
      have hvf : (rsB (finD b.1 (okL b.2)) b.2 c (b.1.getD k zD) && ((b.1.getD k zD).2.1.take j).all fun s => decide (rkZ (finD b.1 (okL b.2)) s < rkZ (finD b.1 (okL b.2)) c)) = rsP (finD b.1 (okL b.2)) b.2 c (b.1.getD k zD) := by rw [hstop]; exact hb5
      rw [hvf]
      refine AWp_exit ?_
      refine AWp_sr hP ?_
      refine RK.M rfl ?_
      refine RK.D ?_
      refine AWp_cond rfl (fun hb6 => ?_) (fun hb6 => ?_)
      ·have hy := hb6
       refine AWp_sr hP ?_
       refine RK.M rfl ?_
       refine RK.As rfl ?_
       refine RK.D ?_
       refine AWp_ret ?_
       refine ends_one rfl (.inr rfl) (res_tmp rfl) ?_ O_ends
       first | exact Sub.int (rsI_y hcf (fiX_yes (d := zD) hI (by omega) hy)) | exact Sub.int (rsI_n1 hcn) | exact Sub.int (rs_last hkn hI)
      ·have hno := hb6
       refine AWp_skip ?_
       refine AWp_region hP ?_
       refine RK.M rfl ?_
       refine RK.V (op_add rfl rfl (by first | exact IntWalk.i64_in _ (by omega) | rfl)) ?_
       refine RK.As rfl ?_
       refine RK.D ?_
       refine ⟨k + 1, ⟨by omega, fiX_no (d := zD) hI (by omega) hno⟩, by omega, le_stL ⟨.refl _, .refl _, .refl _, .refl _, Sub.int (by omega), trivial⟩ ⟨rfl, rfl, trivial⟩⟩
    ·have hg4_ := of_decide_eq_false hg4
     have hjn : (b.1.getD k zD).2.1.length ≤ j := by have := of_decide_eq_false hg4; exact (show (b.1.getD ((k : Int)).toNat zD).2.1.length ≤ j by omega)
     have hfin := rs_end (f := (finD b.1 (okL b.2))) (hs := b.2) (c := c) hjn
     rw [hfin]
     refine RK.skip (guard_no rfl rfl hg4) ?_
     refine RK.V (op_pick_f rfl hg4 (rfl : _ = AV.p (.c _))) ?_
     refine RK.D ?_
     refine AWp_cond_false rfl rfl ?_
     refine AWp_exit ?_
     refine AWp_sr hP ?_
     refine RK.M rfl ?_
     refine RK.D ?_
     refine AWp_cond rfl (fun hb7 => ?_) (fun hb7 => ?_)
     ·have hy := hb7
      refine AWp_sr hP ?_
      refine RK.M rfl ?_
      refine RK.As rfl ?_
      refine RK.D ?_
      refine AWp_ret ?_
      refine ends_one rfl (.inr rfl) (res_tmp rfl) ?_ O_ends
      first | exact Sub.int (rsI_y hcf (fiX_yes (d := zD) hI (by omega) hy)) | exact Sub.int (rsI_n1 hcn) | exact Sub.int (rs_last hkn hI)
     ·have hno := hb7
      refine AWp_skip ?_
      refine AWp_region hP ?_
      refine RK.M rfl ?_
      refine RK.V (op_add rfl rfl (by first | exact IntWalk.i64_in _ (by omega) | rfl)) ?_
      refine RK.As rfl ?_
      refine RK.D ?_
      refine ⟨k + 1, ⟨by omega, fiX_no (d := zD) hI (by omega) hno⟩, by omega, le_stL ⟨.refl _, .refl _, .refl _, .refl _, Sub.int (by omega), trivial⟩ ⟨rfl, rfl, trivial⟩⟩
   ·have hd := of_decide_eq_false hg3
    refine RK.skip (guard_no rfl rfl hg3) ?_
    refine RK.skip (guard_no rfl rfl hg3) ?_
    refine RK.skip (guard_no rfl rfl hg3) ?_
    refine RK.skip (guard_no rfl rfl hg3) ?_
    refine RK.skip (guard_no rfl rfl hg3) ?_
    refine RK.skip (guard_no rfl rfl hg3) ?_
    refine RK.skip (guard_no rfl rfl hg3) ?_
    refine RK.skip (guard_no rfl rfl hg3) ?_
    refine RK.skip (guard_no rfl rfl hg3) ?_
    refine RK.V (op_pick_f rfl hg3 (rfl : _ = AV.p (.c _))) ?_
    refine RK.As rfl ?_
    refine RK.D ?_
    refine AWp_seq ?_
    refine AWp_sr hP ?_
    refine RK.As rfl ?_
    refine RK.D ?_
    refine AWp_block ?_
    refine AWp_loop (ι := Nat) (fun j => stL [(1, AS c), (2, .loc 2 0), (5, .loc 5 0), (6, Z (plI (finD b.1 (okL b.2)) c)), (7, Z (k : Int)), (8, B (rsB (finD b.1 (okL b.2)) b.2 c (b.1.getD k zD) && ((b.1.getD k zD).2.1.take j).all fun s => decide (rkZ (finD b.1 (okL b.2)) s < rkZ (finD b.1 (okL b.2)) c))), (9, Z (j : Int))] [(2, ⟨false, 1, 27, enBk b⟩), (5, ⟨false, 1, 97, [SL enS (cls (finD b.1 (okL b.2))), SL enZ (rks (finD b.1 (okL b.2)))]⟩)]) (fun j => j ≤ (b.1.getD k zD).2.1.length) (fun j => (b.1.getD k zD).2.1.length - j) 0 (Nat.zero_le _) (le_stL ⟨.refl _, .refl _, .refl _, .refl _, .refl _, Sub.bool (by first | exact rsB_y hd | exact rsB_n hd), .refl _, trivial⟩ ⟨rfl, rfl, trivial⟩) ?_
    rintro j hj
    refine AWp_seq ?_
    refine AWp_sr hP ?_
    refine RK.M rfl ?_
    refine RK.F hT rfl rfl rfl rfl rfl rfl ?_
    refine RK.V (op_load_one hT rfl rfl rfl rfl (by first | rfl | exact vget (by omega))) ?_
    refine RK.M rfl ?_
    refine RK.V (op_indexG hT enD_len (by decide) zD (n := (k : Int)) (l := b.1) rfl rfl rfl rfl rfl rfl (by omega)) ?_
    refine RK.V (op_field_ip hT rfl rfl rfl rfl rfl rfl) ?_
    refine RK.V (op_load_ip_one hT rfl rfl rfl rfl) ?_
    refine RK.V (op_len hT rfl rfl rfl (by rfl)) ?_
    refine RK.V (op_lss rfl rfl) ?_
    refine RK.M rfl ?_
    refine RK.split (t := 57) rfl (fun hg8 => ?_) (fun hg8 => ?_)
    ·have hg8_ := of_decide_eq_true hg8
     have hjl : j < (b.1.getD k zD).2.1.length := by have := of_decide_eq_true hg8; exact (show j < (b.1.getD ((k : Int)).toNat zD).2.1.length by omega)
     refine RK.val (guard_yes rfl rfl hg8) (op_move (rfl : _ = AV.p (.c _))) ?_
     refine RK.V (op_pick_t rfl hg8 (rfl : _ = AV.p (.c _))) ?_
     refine RK.D ?_
     refine AWp_cond rfl (fun hb9 => ?_) (fun hb9 => ?_)
     ·have hv := hb9
      have hin := rs_in (by have := hv; simp only [Bool.and_eq_true] at this; exact this.1) hjl
      refine AWp_skip ?_
      refine AWp_seq ?_
      refine AWp_block ?_
      refine AWp_region hP ?_
      refine RK.F hT rfl rfl rfl rfl rfl rfl ?_
      refine RK.V (op_load_one hT rfl rfl rfl rfl (by first | rfl | exact vget (by omega))) ?_
      refine RK.F hT rfl rfl rfl rfl rfl rfl ?_
      refine RK.V (op_load_one hT rfl rfl rfl rfl (by first | rfl | exact vget (by omega))) ?_
      refine RK.F hT rfl rfl rfl rfl rfl rfl ?_
      refine RK.V (op_load_one hT rfl rfl rfl rfl (by first | rfl | exact vget (by omega))) ?_
      refine RK.M rfl ?_
      refine RK.V (op_indexG hT enD_len (by decide) zD (n := (k : Int)) (l := b.1) rfl rfl rfl rfl rfl rfl (by omega)) ?_
      refine RK.V (op_field_ip hT rfl rfl rfl rfl rfl rfl) ?_
      refine RK.V (op_load_ip_one hT rfl rfl rfl rfl) ?_
      refine RK.M rfl ?_
      refine RK.V (op_indexG hT enS_len (by decide) [] (n := (j : Int)) (l := (b.1.getD k zD).2.1) rfl rfl rfl rfl rfl rfl (by omega)) ?_
      refine RK.V (op_load_ip_one hT rfl rfl rfl rfl) ?_
      refine RK.V (Eff.call0 (p_place (cls (finD b.1 (okL b.2))) ((b.1.getD k zD).2.1.getD j []))) ?_
      refine RK.V (op_indexG hT enZ_len (by decide) 0 (n := (plI (finD b.1 (okL b.2)) ((b.1.getD k zD).2.1.getD j []))) (l := (rks (finD b.1 (okL b.2)))) rfl rfl rfl rfl rfl rfl (pl_lt hin)) ?_
      refine RK.V (op_load_ip_one hT rfl rfl rfl rfl) ?_
      refine RK.F hT rfl rfl rfl rfl rfl rfl ?_
      refine RK.V (op_load_one hT rfl rfl rfl rfl (by first | rfl | exact vget (by omega))) ?_
      refine RK.M rfl ?_
      refine RK.V (op_indexG hT enZ_len (by decide) 0 (n := (plI (finD b.1 (okL b.2)) c)) (l := (rks (finD b.1 (okL b.2)))) rfl rfl rfl rfl rfl rfl (pl_lt hcf)) ?_
      refine RK.V (op_load_ip_one hT rfl rfl rfl rfl) ?_
      refine RK.V (op_lss rfl rfl) ?_
      refine RK.As rfl ?_
      refine RK.D ?_
      refine AWp_region hP ?_
      refine RK.M rfl ?_
      refine RK.V (op_add rfl rfl (by first | exact IntWalk.i64_in _ (by omega) | rfl)) ?_
      refine RK.As rfl ?_
      refine RK.D ?_
      refine ⟨j + 1, by omega, by omega, le_stL ⟨.refl _, .refl _, .refl _, .refl _, .refl _, Sub.bool (rs_step hjl hv), Sub.int (by omega), trivial⟩ ⟨rfl, rfl, trivial⟩⟩
     ·have hstop := rs_stop hb9
      have hvf : (rsB (finD b.1 (okL b.2)) b.2 c (b.1.getD k zD) && ((b.1.getD k zD).2.1.take j).all fun s => decide (rkZ (finD b.1 (okL b.2)) s < rkZ (finD b.1 (okL b.2)) c)) = rsP (finD b.1 (okL b.2)) b.2 c (b.1.getD k zD) := by rw [hstop]; exact hb9
      rw [hvf]
      refine AWp_exit ?_
      refine AWp_sr hP ?_
      refine RK.M rfl ?_
      refine RK.D ?_
      refine AWp_cond rfl (fun hb10 => ?_) (fun hb10 => ?_)
      ·have hy := hb10
       refine AWp_sr hP ?_
       refine RK.M rfl ?_
       refine RK.As rfl ?_
       refine RK.D ?_
       refine AWp_ret ?_
       refine ends_one rfl (.inr rfl) (res_tmp rfl) ?_ O_ends
       first | exact Sub.int (rsI_y hcf (fiX_yes (d := zD) hI (by omega) hy)) | exact Sub.int (rsI_n1 hcn) | exact Sub.int (rs_last hkn hI)
      ·have hno := hb10
       refine AWp_skip ?_
       refine AWp_region hP ?_
       refine RK.M rfl ?_
       refine RK.V (op_add rfl rfl (by first | exact IntWalk.i64_in _ (by omega) | rfl)) ?_
       refine RK.As rfl ?_
       refine RK.D ?_
       refine ⟨k + 1, ⟨by omega, fiX_no (d := zD) hI (by omega) hno⟩, by omega, le_stL ⟨.refl _, .refl _, .refl _, .refl _, Sub.int (by omega), trivial⟩ ⟨rfl, rfl, trivial⟩⟩
    ·have hg8_ := of_decide_eq_false hg8
     have hjn : (b.1.getD k zD).2.1.length ≤ j := by have := of_decide_eq_false hg8; exact (show (b.1.getD ((k : Int)).toNat zD).2.1.length ≤ j by omega)
     have hfin := rs_end (f := (finD b.1 (okL b.2))) (hs := b.2) (c := c) hjn
     rw [hfin]
     refine RK.skip (guard_no rfl rfl hg8) ?_
     refine RK.V (op_pick_f rfl hg8 (rfl : _ = AV.p (.c _))) ?_
     refine RK.D ?_
     refine AWp_cond_false rfl rfl ?_
     refine AWp_exit ?_
     refine AWp_sr hP ?_
     refine RK.M rfl ?_
     refine RK.D ?_
     refine AWp_cond rfl (fun hb11 => ?_) (fun hb11 => ?_)
     ·have hy := hb11
      refine AWp_sr hP ?_
      refine RK.M rfl ?_
      refine RK.As rfl ?_
      refine RK.D ?_
      refine AWp_ret ?_
      refine ends_one rfl (.inr rfl) (res_tmp rfl) ?_ O_ends
      first | exact Sub.int (rsI_y hcf (fiX_yes (d := zD) hI (by omega) hy)) | exact Sub.int (rsI_n1 hcn) | exact Sub.int (rs_last hkn hI)
     ·have hno := hb11
      refine AWp_skip ?_
      refine AWp_region hP ?_
      refine RK.M rfl ?_
      refine RK.V (op_add rfl rfl (by first | exact IntWalk.i64_in _ (by omega) | rfl)) ?_
      refine RK.As rfl ?_
      refine RK.D ?_
      refine ⟨k + 1, ⟨by omega, fiX_no (d := zD) hI (by omega) hno⟩, by omega, le_stL ⟨.refl _, .refl _, .refl _, .refl _, Sub.int (by omega), trivial⟩ ⟨rfl, rfl, trivial⟩⟩
  ·have hb2_ := of_decide_eq_false hb2
   have hcn : ¬ c ∈ cls (finD b.1 (okL b.2)) := pl_n (show plI (finD b.1 (okL b.2)) c < 0 by have := of_decide_eq_false hb2; omega)
   refine AWp_exit ?_
   refine AWp_sr hP ?_
   refine RK.As rfl ?_
   refine RK.D ?_
   refine AWp_ret ?_
   refine ends_one rfl (.inr rfl) (res_tmp rfl) ?_ O_ends
   first | exact Sub.int (rsI_y hcf (fiX_yes (d := zD) hI (by omega) hy)) | exact Sub.int (rsI_n1 hcn) | exact Sub.int (rs_last hkn hI)
 ·have hg1_ := of_decide_eq_false hg1
  have hkn : b.1.length ≤ k := by have := of_decide_eq_false hg1; omega
  refine RK.skip (guard_no rfl rfl hg1) ?_
  refine RK.skip (guard_no rfl rfl hg1) ?_
  refine RK.V (op_pick_f rfl hg1 (rfl : _ = AV.p (.c _))) ?_
  refine RK.D ?_
  refine AWp_cond_false rfl rfl ?_
  refine AWp_exit ?_
  refine AWp_sr hP ?_
  refine RK.As rfl ?_
  refine RK.D ?_
  refine AWp_ret ?_
  refine ends_one rfl (.inr rfl) (res_tmp rfl) ?_ O_ends
  first | exact Sub.int (rsI_y hcf (fiX_yes (d := zD) hI (by omega) hy)) | exact Sub.int (rsI_n1 hcn) | exact Sub.int (rs_last hkn hI)
end Go.Proofs.YtmoaoiakmmbpoaaGreatDoor
end

section
/- chapter 30: the reference: Uses -/
namespace Go.Proofs.YtmoaoiakmmbpoaaGreatDoor
open Go Go.AM
/- algorist/algoristref30.Uses -/
set_option maxHeartbeats 4000000 in
set_option maxRecDepth 100000 in
theorem p_rUses (b : Book) (c : Str) (hl : b.1.length ≤ 1000000) (hf : ∀ d ∈ b.1, d.2.1.length ≤ 1000000) (ho : hok b.2) (hD : hokD b.1) :
  Call0 Tryz.prog 19 [.p (.a (enBk b)), AS c] (.p (.c (SL enS (usL b c)))) := by
 refine callM_of (np := 0) Tryz.func19 (by kernel_rfl) rfl rfl (Nat.le_of_ble_eq_true rfl) (fun m h => absurd rfl h) (fun m h => absurd rfl h) rfl ?_
 refine AWp_lenA 0 0 (n := b.1.length) rfl rfl (fun hlen => ?_)
 refine AWp_sr hP ?_
 refine RK.alc guard_none (op_box rfl rfl) ?_
 refine RK.As rfl ?_
 refine RK.D ?_
 refine AWp_sr hP ?_
 refine RK.V (op_bslice hT rfl rfl rfl (es := []) rfl rfl rfl) ?_
 refine RK.As rfl ?_
 refine RK.D ?_
 refine AWp_sr hP ?_
 refine RK.M rfl ?_
 refine RK.alc guard_none (op_bslice_vec hT rfl rfl rfl (es := [_]) rfl rfl rfl) ?_
 refine RK.V (op_assign (rfl : _ = AV.vec _)) ?_
 refine RK.D ?_
 refine AWp_seq ?_
 refine AWp_block ?_
 refine AWp_rn 12 1000 rfl rfl rfl ?_
 refine AWp_tail0 (t := 6) rfl rfl rfl ?_
 refine AWp_loop (ι := Nat × List Str × List Str) (fun ⟨off, L, out⟩ => stL [(2, .loc 2 0), (5, .p (.c (SL enS out))), (6, .axm (TlP 1 off) 1000)] [(2, ⟨false, 1, 27, enBk b⟩), (1000, VB 1 9 enS L)]) (fun ⟨off, L, out⟩ => UsI b c [] out (L.drop off) ∧ off ≤ L.length ∧ L.length ≤ 1 + out.length) (fun ⟨off, L, out⟩ => 2 * (b.1.length - out.length) + (L.length - off)) (0, [c], []) ⟨us_0, Nat.zero_le _, Nat.le_refl _⟩ (le_stL ⟨.refl _, .refl _, .refl _, trivial⟩ ⟨rfl, rfl, trivial⟩) ?_
 rintro ⟨off, L, out⟩ ⟨hU, ho0, hL⟩
 refine AWp_seq ?_
 refine AWp_sr hP ?_
 refine RK.V (op_move (rfl : _ = AV.axm _ _)) ?_
 refine RK.V (op_tail_len hT rfl rfl rfl rfl rfl (flat_len enS_len L)) ?_
 refine RK.V (op_gtr rfl rfl) ?_
 refine RK.D ?_
 refine AWp_cond rfl (fun hb1 => ?_) (fun hb1 => ?_)
 ·have hb1_ := of_decide_eq_true hb1
  have hoff : off < L.length := by have := of_decide_eq_true hb1; omega
  have hR := rs_frm (b := b) ho hD (L.getD off [])
  have hpop := us_popD hU hoff
  refine AWp_skip ?_
  refine AWp_block ?_
  refine AWp_sr hP ?_
  refine RK.G2 hT rfl rfl rfl rfl rfl rfl ?_
  refine RK.V (op_move (rfl : _ = AV.axm _ _)) ?_
  refine RK.V (op_tail_index0 hT rfl rfl rfl rfl rfl rfl rfl (flat_len enS_len L) rfl hoff) ?_
  refine RK.V (op_load_one hT rfl rfl rfl rfl (us_at hoff)) ?_
  refine RK.V (Eff.call0 (p_Reason b (L.getD off []) hl hf)) ?_
  refine RK.As rfl ?_
  refine RK.D ?_
  refine AWp_sr hP ?_
  refine RK.V (op_move (rfl : _ = AV.axm _ _)) ?_
  refine RK.V (op_tail_next hT rfl rfl rfl rfl rfl rfl rfl (flat_len enS_len L) rfl hoff) ?_
  refine RK.V (op_assign (rfl : _ = AV.axm _ _)) ?_
  refine RK.D ?_
  refine AWp_seq ?_
  refine AWp_sr hP ?_
  refine RK.M rfl ?_
  refine RK.V (op_lss rfl rfl) ?_
  refine RK.D ?_
  refine AWp_cond rfl (fun hb2 => ?_) (fun hb2 => ?_)
  ·have hb2_ := of_decide_eq_true hb2
   have hneg : (rsI b.1 (finD b.1 (okL b.2)) b.2 (L.getD off [])) < 0 := of_decide_eq_true hb2
   have hstop : UsI b c [] out (L.drop (off + 1)) := by
    rcases hR with q | q
    ·rw [q.2] at hpop; exact hpop
    ·omega
   refine AWp_exit ?_
   refine ⟨(off + 1, L, out), ⟨hstop, by omega, hL⟩, (by show 2 * (b.1.length - out.length) + (L.length - (off + 1)) < 2 * (b.1.length - out.length) + (L.length - off); omega), le_stL ⟨.refl _, .refl _, .refl _, trivial⟩ ⟨rfl, rfl, trivial⟩⟩
  ·have hb2_ := of_decide_eq_false hb2
   have hpos : ¬ (rsI b.1 (finD b.1 (okL b.2)) b.2 (L.getD off [])) < 0 := of_decide_eq_false hb2
   have hR2 : 0 ≤ (rsI b.1 (finD b.1 (okL b.2)) b.2 (L.getD off [])) ∧ (rsI b.1 (finD b.1 (okL b.2)) b.2 (L.getD off [])) < b.1.length ∧ (b.1.getD (rsI b.1 (finD b.1 (okL b.2)) b.2 (L.getD off [])).toNat zD).2.1 = frm (rFin b) (L.getD off []) := by
    rcases hR with q | q
    ·exact absurd q.1 hpos
    ·exact q
   have hst : UsI b c ((b.1.getD (rsI b.1 (finD b.1 (okL b.2)) b.2 (L.getD off [])).toNat zD).2.1.drop 0) out (L.drop (off + 1)) := by rw [hR2.2.2, List.drop_zero]; exact hpop
   have hfl := hf _ (getD_mem' zD (show (rsI b.1 (finD b.1 (okL b.2)) b.2 (L.getD off [])).toNat < b.1.length by omega))
   refine AWp_skip ?_
   refine AWp_sr hP ?_
   refine RK.As rfl ?_
   refine RK.D ?_
   refine AWp_block ?_
   refine AWp_loop (ι := Nat × Nat × List Str × List Str) (fun ⟨k, of2, M, ou2⟩ => stL [(2, .loc 2 0), (5, .p (.c (SL enS ou2))), (6, .axm (TlP 1 of2) 1000), (7, Z (rsI b.1 (finD b.1 (okL b.2)) b.2 (L.getD off []))), (8, Z (k : Int))] [(2, ⟨false, 1, 27, enBk b⟩), (1000, VB 1 9 enS M)]) (fun ⟨k, of2, M, ou2⟩ => k ≤ (b.1.getD (rsI b.1 (finD b.1 (okL b.2)) b.2 (L.getD off [])).toNat zD).2.1.length ∧ UsI b c ((b.1.getD (rsI b.1 (finD b.1 (okL b.2)) b.2 (L.getD off [])).toNat zD).2.1.drop k) ou2 (M.drop of2) ∧ of2 ≤ M.length ∧ M.length ≤ 1 + ou2.length ∧ 2 * (b.1.length - ou2.length) + (M.length - of2) ≤ 2 * (b.1.length - out.length) + (L.length - (off + 1))) (fun ⟨k, _, _, _⟩ => (b.1.getD (rsI b.1 (finD b.1 (okL b.2)) b.2 (L.getD off [])).toNat zD).2.1.length - k) (0, off + 1, L, out) ⟨Nat.zero_le _, hst, hoff, hL, Nat.le_refl _⟩ (le_stL ⟨.refl _, .refl _, .refl _, .refl _, .refl _, trivial⟩ ⟨rfl, rfl, trivial⟩) ?_
   rintro ⟨k, of2, M, ou2⟩ ⟨hk1, hU1, ho1, hL1, hm1⟩
   refine AWp_seq ?_
   refine AWp_sr hP ?_
   refine RK.M rfl ?_
   refine RK.F hT rfl rfl rfl rfl rfl rfl ?_
   refine RK.V (op_load_one hT rfl rfl rfl rfl (by first | rfl | exact vget (by omega))) ?_
   refine RK.M rfl ?_
   refine RK.V (op_indexG hT enD_len (by decide) zD (n := (rsI b.1 (finD b.1 (okL b.2)) b.2 (L.getD off []))) (l := b.1) rfl rfl rfl rfl rfl rfl (by omega)) ?_
   refine RK.V (op_field_ip hT rfl rfl rfl rfl rfl rfl) ?_
   refine RK.V (op_load_ip_one hT rfl rfl rfl rfl) ?_
   refine RK.V (op_len hT rfl rfl rfl (by rfl)) ?_
   refine RK.V (op_lss rfl rfl) ?_
   refine RK.D ?_
   refine AWp_cond rfl (fun hb3 => ?_) (fun hb3 => ?_)
   ·have hb3_ := of_decide_eq_true hb3
    have hkl : k < (b.1.getD (rsI b.1 (finD b.1 (okL b.2)) b.2 (L.getD off [])).toNat zD).2.1.length := by have := of_decide_eq_true hb3; omega
    refine AWp_skip ?_
    refine AWp_seq ?_
    refine AWp_block ?_
    refine AWp_sr hP ?_
    refine RK.F hT rfl rfl rfl rfl rfl rfl ?_
    refine RK.V (op_load_one hT rfl rfl rfl rfl (by first | rfl | exact vget (by omega))) ?_
    refine RK.M rfl ?_
    refine RK.V (op_indexG hT enD_len (by decide) zD (n := (rsI b.1 (finD b.1 (okL b.2)) b.2 (L.getD off []))) (l := b.1) rfl rfl rfl rfl rfl rfl (by omega)) ?_
    refine RK.V (op_field_ip hT rfl rfl rfl rfl rfl rfl) ?_
    refine RK.V (op_load_ip_one hT rfl rfl rfl rfl) ?_
    refine RK.M rfl ?_
    refine RK.V (op_indexG hT enS_len (by decide) [] (n := (k : Int)) (l := (b.1.getD (rsI b.1 (finD b.1 (okL b.2)) b.2 (L.getD off [])).toNat zD).2.1) rfl rfl rfl rfl rfl rfl (by omega)) ?_
    refine RK.V (op_load_ip_one hT rfl rfl rfl rfl) ?_
    refine RK.As rfl ?_
    refine RK.D ?_
    refine AWp_sr hP ?_
    refine RK.M rfl ?_
    refine RK.M rfl ?_
    refine RK.V (Eff.call0 (p_place ou2 ((b.1.getD (rsI b.1 (finD b.1 (okL b.2)) b.2 (L.getD off [])).toNat zD).2.1.getD k []))) ?_
    refine RK.V (op_lss rfl rfl) ?_
    refine RK.D ?_
    refine AWp_cond rfl (fun hb4 => ?_) (fun hb4 => ?_)
    ·have hb4_ := of_decide_eq_true hb4
     have hnew : ((b.1.getD (rsI b.1 (finD b.1 (okL b.2)) b.2 (L.getD off [])).toNat zD).2.1.getD k []) ∉ ou2 := pl_n (of_decide_eq_true hb4)
     refine AWp_sr hP ?_
     refine RK.M rfl ?_
     refine RK.M rfl ?_
     refine RK.V (Eff.call0 (p_added ou2 ((b.1.getD (rsI b.1 (finD b.1 (okL b.2)) b.2 (L.getD off [])).toNat zD).2.1.getD k []) (by have := us_le hU1; omega))) ?_
     refine RK.As rfl ?_
     refine RK.D ?_
     refine AWp_room (t := 6) rfl ?_ ?_
     ·refine AWp_region hP ?_
      refine RK.V (op_move (rfl : _ = AV.axm _ _)) ?_
      refine RK.M rfl ?_
      refine RK.V (op_bslice hT rfl rfl rfl (es := [_]) rfl rfl rfl) ?_
      refine RK.app guard_none (op_tail_appR (encD := enS) hT enS_len (l := M) (bx := ((b.1.getD (rsI b.1 (finD b.1 (okL b.2)) b.2 (L.getD off [])).toNat zD).2.1.getD k [])) rfl rfl rfl rfl rfl rfl rfl rfl (by have := us_le hU1; omega) (by decide)) ?_
      refine RK.V (op_assign (rfl : _ = AV.axm _ _)) ?_
      refine RK.D ?_
      refine AWp_rn 55 1000 rfl rfl rfl ?_
      refine AWp_region hP ?_
      refine RK.M rfl ?_
      refine RK.V (op_add rfl rfl (by first | exact IntWalk.i64_in _ (by omega) | rfl)) ?_
      refine RK.As rfl ?_
      refine RK.D ?_
      refine ⟨(k + 1, of2, M ++ [((b.1.getD (rsI b.1 (finD b.1 (okL b.2)) b.2 (L.getD off [])).toNat zD).2.1.getD k [])], addS ou2 ((b.1.getD (rsI b.1 (finD b.1 (okL b.2)) b.2 (L.getD off [])).toNat zD).2.1.getD k [])), ⟨hkl, us_newR hkl hU1 hnew ho1, by rw [List.length_append]; omega, by rw [List.length_append, addS_len]; simp only [List.length_cons, List.length_nil]; omega, ?_⟩, (by show (b.1.getD (rsI b.1 (finD b.1 (okL b.2)) b.2 (L.getD off [])).toNat zD).2.1.length - (k + 1) < (b.1.getD (rsI b.1 (finD b.1 (okL b.2)) b.2 (L.getD off [])).toNat zD).2.1.length - k; omega), le_stL ⟨.refl _, .refl _, .refl _, .refl _, Sub.int (by omega), trivial⟩ ⟨rfl, rfl, trivial⟩⟩
      rw [List.length_append, addS_len]; have := us_le (us_newR hkl hU1 hnew ho1); rw [addS_len] at this; simp only [List.length_cons, List.length_nil]; omega
     ·refine AWp_region hP ?_
      refine RK.V (op_move (rfl : _ = AV.axm _ _)) ?_
      refine RK.M rfl ?_
      refine RK.V (op_bslice hT rfl rfl rfl (es := [_]) rfl rfl rfl) ?_
      refine RK.app guard_none (op_tail_appF (encD := enS) hT enS_len (l := M) (bx := ((b.1.getD (rsI b.1 (finD b.1 (okL b.2)) b.2 (L.getD off [])).toNat zD).2.1.getD k [])) rfl rfl rfl rfl rfl rfl rfl rfl rfl (by have := us_le hU1; omega) rfl (by decide)) ?_
      refine RK.V (op_assign (rfl : _ = AV.axm _ _)) ?_
      refine RK.D ?_
      refine AWp_rn 55 1000 rfl rfl rfl ?_
      refine AWp_region hP ?_
      refine RK.M rfl ?_
      refine RK.V (op_add rfl rfl (by first | exact IntWalk.i64_in _ (by omega) | rfl)) ?_
      refine RK.As rfl ?_
      refine RK.D ?_
      refine ⟨(k + 1, 0, M.drop of2 ++ [((b.1.getD (rsI b.1 (finD b.1 (okL b.2)) b.2 (L.getD off [])).toNat zD).2.1.getD k [])], addS ou2 ((b.1.getD (rsI b.1 (finD b.1 (okL b.2)) b.2 (L.getD off [])).toNat zD).2.1.getD k [])), ⟨hkl, us_newF hkl hU1 hnew, Nat.zero_le _, by rw [List.length_append, addS_len, List.length_drop]; simp only [List.length_cons, List.length_nil]; omega, ?_⟩, (by show (b.1.getD (rsI b.1 (finD b.1 (okL b.2)) b.2 (L.getD off [])).toNat zD).2.1.length - (k + 1) < (b.1.getD (rsI b.1 (finD b.1 (okL b.2)) b.2 (L.getD off [])).toNat zD).2.1.length - k; omega), le_stL ⟨.refl _, .refl _, .refl _, .refl _, Sub.int (by omega), trivial⟩ ⟨rfl, rfl, trivial⟩⟩
      rw [List.length_append, addS_len, List.length_drop]; have := us_le (us_newR hkl hU1 hnew ho1); rw [addS_len] at this; simp only [List.length_cons, List.length_nil]; omega
    ·have hb4_ := of_decide_eq_false hb4
     have hold : ((b.1.getD (rsI b.1 (finD b.1 (okL b.2)) b.2 (L.getD off [])).toNat zD).2.1.getD k []) ∈ ou2 := pl_y (of_decide_eq_false hb4)
     refine AWp_skip ?_
     refine AWp_region hP ?_
     refine RK.M rfl ?_
     refine RK.V (op_add rfl rfl (by first | exact IntWalk.i64_in _ (by omega) | rfl)) ?_
     refine RK.As rfl ?_
     refine RK.D ?_
     refine ⟨(k + 1, of2, M, ou2), ⟨hkl, us_oldD hkl hU1 hold, ho1, hL1, hm1⟩, (by show (b.1.getD (rsI b.1 (finD b.1 (okL b.2)) b.2 (L.getD off [])).toNat zD).2.1.length - (k + 1) < (b.1.getD (rsI b.1 (finD b.1 (okL b.2)) b.2 (L.getD off [])).toNat zD).2.1.length - k; omega), le_stL ⟨.refl _, .refl _, .refl _, .refl _, Sub.int (by omega), trivial⟩ ⟨rfl, rfl, trivial⟩⟩
   ·have hb3_ := of_decide_eq_false hb3
    have hkn : (b.1.getD (rsI b.1 (finD b.1 (okL b.2)) b.2 (L.getD off [])).toNat zD).2.1.length ≤ k := by have := of_decide_eq_false hb3; omega
    refine AWp_exit ?_
    refine ⟨(of2, M, ou2), ⟨us_endW hkn hU1, ho1, hL1⟩, (by show 2 * (b.1.length - ou2.length) + (M.length - of2) < 2 * (b.1.length - out.length) + (L.length - off); omega), le_stL ⟨.refl _, .refl _, .refl _, trivial⟩ ⟨rfl, rfl, trivial⟩⟩
 ·have hb1_ := of_decide_eq_false hb1
  have hend : out = usL b c := us_endD (by have := of_decide_eq_false hb1; omega) hU
  refine AWp_exit ?_
  refine AWp_sr hP ?_
  refine RK.M rfl ?_
  refine RK.As rfl ?_
  refine RK.D ?_
  refine AWp_ret ?_
  refine ends_one rfl (.inr rfl) (res_tmp rfl) ?_ O_ends
  exact Sub.of_eq (congrArg (fun l => (.p (.c (SL enS l)) : AV)) hend)
end Go.Proofs.YtmoaoiakmmbpoaaGreatDoor
end

section
/- chapter 30: Rests -/
namespace Go.Proofs.YtmoaoiakmmbpoaaGreatDoor
open Go Go.AM
theorem p_UsesL (b : Book) (s : Str) (ho : hok b.2) (hD : hokD b.1) (hl : b.1.length ≤ 1000000) : Call0 Tryz.prog 18 [.p (.a (enBk b)), AS s] (.p (.c (SL enS (usL b s)))) := p_Uses b s ho hD (Nat.le_trans (us_len _ _) hl)
end Go.Proofs.YtmoaoiakmmbpoaaGreatDoor
end

section
/- chapter 30: the law Follows -/
namespace Go.Proofs.YtmoaoiakmmbpoaaGreatDoor
open Go Go.AM
/- algorist/algoristlaw30.HypothesisFollows -/
set_option maxHeartbeats 4000000 in
set_option maxRecDepth 100000 in
theorem l_HypothesisFollows (R : List Raw) (g : UInt8) (c : Str) :
  Call0 Tryz.prog 3 [.p (.c (SL enR R)), .p (.c (.v (.int .u8 (g.toNat : Int)))), AS c] (B true) := by
 obtain ⟨B0, hB⟩ : ∃ B, B = madeB R g := ⟨_, rfl⟩
 have hle : B0.1.length ≤ 1000000 := by rw [hB]; exact made_le R g
 have ho : hok B0.2 := by rw [hB]; exact made_ok R g
 have hD : hokD B0.1 := by rw [hB]; exact made_okD R g
 have hr : ∀ d ∈ B0.1, rightD d = true := by rw [hB]; exact made_right R g
 have hf : ∀ d ∈ B0.1, d.2.1.length ≤ 1000000 := fun d hd => frm_le (hr d hd)
 have cM : Call0 Tryz.prog 10 [.p (.c (SL enR R)), Z 8, .p (.c (.v (.int .u8 (g.toNat : Int))))] (.p (.a (enBk B0))) := by rw [hB]; exact p_Made R g
 have cH : ∀ s : Str, Call0 Tryz.prog 12 [.p (.a (enBk B0)), AS s] (B (decide (s ∈ cls (rFin B0)))) := fun s => p_Holds B0 s ho hD
 have cH2 : ∀ s : Str, Call0 Tryz.prog 13 [.p (.a (enBk B0)), AS s] (B (decide (s ∈ cls (rFin B0)))) := fun s => by rw [← fol_holds ho hD]; exact p_rHolds B0 s hle
 have cN : ∀ s : Str, Call0 Tryz.prog 15 [.p (.a (enBk B0)), AS s] (.p (.c (SL enL (ndL B0.1 s)))) := fun s => p_Needs B0 s ho hD
 have cN2 : ∀ s : Str, Call0 Tryz.prog 16 [.p (.a (enBk B0)), AS s] (.p (.c (SL enL (ndL B0.1 s)))) := fun s => by rw [← nd_ref hr]; exact p_rNeeds B0 s hle
 have cU : ∀ s : Str, Call0 Tryz.prog 18 [.p (.a (enBk B0)), AS s] (.p (.c (SL enS (usL B0 s)))) := fun s => p_UsesL B0 s ho hD hle
 have cU2 : ∀ s : Str, Call0 Tryz.prog 19 [.p (.a (enBk B0)), AS s] (.p (.c (SL enS (usL B0 s)))) := fun s => p_rUses B0 s hle hf ho hD
 clear hB
 refine callM_of (np := 0) Tryz.func3 (by kernel_rfl) rfl rfl (Nat.le_of_ble_eq_true rfl) (fun m h => absurd rfl h) (fun m h => absurd rfl h) rfl ?_
 refine AWp_sr hP ?_
 refine RK.As rfl ?_
 refine RK.D ?_
 refine AWp_sr hP ?_
 refine RK.V (Eff.call0 p_examples) ?_
 refine RK.As rfl ?_
 refine RK.D ?_
 refine AWp_seq ?_
 refine AWp_sr hP ?_
 refine RK.M rfl ?_
 refine RK.V (op_unot rfl) ?_
 refine RK.D ?_
 refine AWp_cond_false rfl rfl ?_
 refine AWp_skip ?_
 refine AWp_seq ?_
 refine AWp_sr hP ?_
 refine RK.M rfl ?_
 refine RK.V (op_slen hT rfl rfl rfl rfl) ?_
 refine RK.V (op_gtr rfl rfl) ?_
 refine RK.D ?_
 refine AWp_cond rfl (fun hb1 => ?_) (fun hb1 => ?_)
 ·have hb1_ := of_decide_eq_true hb1
  refine AWp_sr hP ?_
  refine RK.M rfl ?_
  refine RK.As rfl ?_
  refine RK.D ?_
  refine AWp_ret ?_
  refine ends_one rfl (.inr rfl) (res_tmp rfl) ?_ O_ends
  exact .refl _
 ·have hb1_ := of_decide_eq_false hb1
  refine AWp_skip ?_
  refine AWp_sr hP ?_
  refine RK.M rfl ?_
  refine RK.M rfl ?_
  refine RK.V (Eff.call0 cM) ?_
  refine RK.alc guard_none (op_alloc hT rfl rfl) ?_
  refine RK.S hT rfl rfl rfl rfl rfl rfl rfl ?_
  refine RK.D ?_
  refine AWp_seq ?_
  refine AWp_sr hP ?_
  refine RK.As rfl ?_
  refine RK.D ?_
  refine AWp_block ?_
  refine AWp_loop (ι := Nat) (fun i => stL [(2, AS c), (7, B true), (8, .loc 8 0), (9, .p (.c (.v (.int .u8 ((i : Nat) : Int)))))] [(8, ⟨false, 1, 27, enBk B0⟩)]) (fun i => i ≤ 9) (fun i => 9 - i) 0 (Nat.zero_le _) (le_stL ⟨.refl _, .refl _, .refl _, .refl _, trivial⟩ ⟨rfl, trivial⟩) ?_
  rintro i hi
  refine AWp_seq ?_
  refine AWp_sr hP ?_
  refine RK.M rfl ?_
  refine RK.V (op_lss rfl rfl) ?_
  refine RK.D ?_
  refine AWp_cond rfl (fun hb2 => ?_) (fun hb2 => ?_)
  ·have hb2_ := of_decide_eq_true hb2
   refine AWp_skip ?_
   refine AWp_seq ?_
   refine AWp_block ?_
   refine AWp_sr hP ?_
   refine RK.M rfl ?_
   refine RK.V (Eff.call0 (p_Name i)) ?_
   refine RK.As rfl ?_
   refine RK.D ?_
   refine AWp_seq ?_
   refine AWp_sr hP ?_
   refine RK.M rfl ?_
   refine RK.V (op_eql rfl rfl) ?_
   refine RK.D ?_
   refine AWp_cond rfl (fun hb3 => ?_) (fun hb3 => ?_)
   ·have hb3_ := bT hb3
    refine AWp_region hP ?_
    refine RK.M rfl ?_
    refine RK.As rfl ?_
    refine RK.D ?_
    refine AWp_sr hP ?_
    refine RK.G2 hT rfl rfl rfl rfl rfl rfl ?_
    refine RK.M rfl ?_
    refine RK.V (Eff.call0 (cH c)) ?_
    refine RK.G2 hT rfl rfl rfl rfl rfl rfl ?_
    refine RK.M rfl ?_
    refine RK.V (Eff.call0 (cH2 c)) ?_
    refine RK.V (op_bne hT rfl rfl rfl rfl) ?_
    refine RK.M rfl ?_
    refine RK.val (guard_yes rfl rfl (bne_self_eq_false' _)) (op_load_agg hT rfl rfl rfl rfl (cs := [_, _]) rfl rfl) ?_
    refine RK.val (guard_yes rfl rfl (bne_self_eq_false' _)) (op_move (rfl : _ = AV.p (.c _))) ?_
    refine RK.val (guard_yes rfl rfl (bne_self_eq_false' _)) (Eff.call0 (cN c)) ?_
    refine RK.val (guard_yes rfl rfl (bne_self_eq_false' _)) (op_load_agg hT rfl rfl rfl rfl (cs := [_, _]) rfl rfl) ?_
    refine RK.val (guard_yes rfl rfl (bne_self_eq_false' _)) (op_move (rfl : _ = AV.p (.c _))) ?_
    refine RK.val (guard_yes rfl rfl (bne_self_eq_false' _)) (Eff.call0 (cN2 c)) ?_
    refine RK.val (guard_yes rfl rfl (bne_self_eq_false' _)) (Eff.call0 (p_rsets (ndL B0.1 c) _)) ?_
    refine RK.val (guard_yes rfl rfl (bne_self_eq_false' _)) (op_unot rfl) ?_
    refine RK.V (op_pick_f rfl (bne_self_eq_false' _) (rfl : _ = AV.p (.c _))) ?_
    refine RK.M rfl ?_
    refine RK.val (guard_yes rfl rfl (congrArg not (decide_eq_true rfl))) (op_load_agg hT rfl rfl rfl rfl (cs := [_, _]) rfl rfl) ?_
    refine RK.val (guard_yes rfl rfl (congrArg not (decide_eq_true rfl))) (op_move (rfl : _ = AV.p (.c _))) ?_
    refine RK.val (guard_yes rfl rfl (congrArg not (decide_eq_true rfl))) (Eff.call0 (cU c)) ?_
    refine RK.val (guard_yes rfl rfl (congrArg not (decide_eq_true rfl))) (op_load_agg hT rfl rfl rfl rfl (cs := [_, _]) rfl rfl) ?_
    refine RK.val (guard_yes rfl rfl (congrArg not (decide_eq_true rfl))) (op_move (rfl : _ = AV.p (.c _))) ?_
    refine RK.val (guard_yes rfl rfl (congrArg not (decide_eq_true rfl))) (Eff.call0 (cU2 c)) ?_
    refine RK.val (guard_yes rfl rfl (congrArg not (decide_eq_true rfl))) (Eff.call0 (p_rtexts (usL B0 c) _)) ?_
    refine RK.val (guard_yes rfl rfl (congrArg not (decide_eq_true rfl))) (op_unot rfl) ?_
    refine RK.V (op_pick_f rfl (congrArg not (decide_eq_true rfl)) (rfl : _ = AV.p (.c _))) ?_
    refine RK.D ?_
    refine AWp_cond_false rfl (congrArg not (decide_eq_true rfl)) ?_
    refine AWp_skip ?_
    refine AWp_region hP ?_
    refine RK.M rfl ?_
    refine RK.V (op_add rfl rfl (by first | exact IntWalk.u8_in _ (by omega) | rfl)) ?_
    refine RK.As rfl ?_
    refine RK.D ?_
    refine ⟨i + 1, by omega, by omega, le_stL ⟨.refl _, .refl _, .refl _, Sub.int (by omega), trivial⟩ ⟨rfl, trivial⟩⟩
   ·have hb3_ := bF hb3
    refine AWp_skip ?_
    refine AWp_sr hP ?_
    refine RK.G2 hT rfl rfl rfl rfl rfl rfl ?_
    refine RK.M rfl ?_
    refine RK.V (Eff.call0 (cH (nameS i))) ?_
    refine RK.G2 hT rfl rfl rfl rfl rfl rfl ?_
    refine RK.M rfl ?_
    refine RK.V (Eff.call0 (cH2 (nameS i))) ?_
    refine RK.V (op_bne hT rfl rfl rfl rfl) ?_
    refine RK.M rfl ?_
    refine RK.val (guard_yes rfl rfl (bne_self_eq_false' _)) (op_load_agg hT rfl rfl rfl rfl (cs := [_, _]) rfl rfl) ?_
    refine RK.val (guard_yes rfl rfl (bne_self_eq_false' _)) (op_move (rfl : _ = AV.p (.c _))) ?_
    refine RK.val (guard_yes rfl rfl (bne_self_eq_false' _)) (Eff.call0 (cN (nameS i))) ?_
    refine RK.val (guard_yes rfl rfl (bne_self_eq_false' _)) (op_load_agg hT rfl rfl rfl rfl (cs := [_, _]) rfl rfl) ?_
    refine RK.val (guard_yes rfl rfl (bne_self_eq_false' _)) (op_move (rfl : _ = AV.p (.c _))) ?_
    refine RK.val (guard_yes rfl rfl (bne_self_eq_false' _)) (Eff.call0 (cN2 (nameS i))) ?_
    refine RK.val (guard_yes rfl rfl (bne_self_eq_false' _)) (Eff.call0 (p_rsets (ndL B0.1 (nameS i)) _)) ?_
    refine RK.val (guard_yes rfl rfl (bne_self_eq_false' _)) (op_unot rfl) ?_
    refine RK.V (op_pick_f rfl (bne_self_eq_false' _) (rfl : _ = AV.p (.c _))) ?_
    refine RK.M rfl ?_
    refine RK.val (guard_yes rfl rfl (congrArg not (decide_eq_true rfl))) (op_load_agg hT rfl rfl rfl rfl (cs := [_, _]) rfl rfl) ?_
    refine RK.val (guard_yes rfl rfl (congrArg not (decide_eq_true rfl))) (op_move (rfl : _ = AV.p (.c _))) ?_
    refine RK.val (guard_yes rfl rfl (congrArg not (decide_eq_true rfl))) (Eff.call0 (cU (nameS i))) ?_
    refine RK.val (guard_yes rfl rfl (congrArg not (decide_eq_true rfl))) (op_load_agg hT rfl rfl rfl rfl (cs := [_, _]) rfl rfl) ?_
    refine RK.val (guard_yes rfl rfl (congrArg not (decide_eq_true rfl))) (op_move (rfl : _ = AV.p (.c _))) ?_
    refine RK.val (guard_yes rfl rfl (congrArg not (decide_eq_true rfl))) (Eff.call0 (cU2 (nameS i))) ?_
    refine RK.val (guard_yes rfl rfl (congrArg not (decide_eq_true rfl))) (Eff.call0 (p_rtexts (usL B0 (nameS i)) _)) ?_
    refine RK.val (guard_yes rfl rfl (congrArg not (decide_eq_true rfl))) (op_unot rfl) ?_
    refine RK.V (op_pick_f rfl (congrArg not (decide_eq_true rfl)) (rfl : _ = AV.p (.c _))) ?_
    refine RK.D ?_
    refine AWp_cond_false rfl (congrArg not (decide_eq_true rfl)) ?_
    refine AWp_skip ?_
    refine AWp_region hP ?_
    refine RK.M rfl ?_
    refine RK.V (op_add rfl rfl (by first | exact IntWalk.u8_in _ (by omega) | rfl)) ?_
    refine RK.As rfl ?_
    refine RK.D ?_
    refine ⟨i + 1, by omega, by omega, le_stL ⟨.refl _, .refl _, .refl _, Sub.int (by omega), trivial⟩ ⟨rfl, trivial⟩⟩
  ·have hb2_ := of_decide_eq_false hb2
   refine AWp_exit ?_
   refine AWp_sr hP ?_
   refine RK.M rfl ?_
   refine RK.As rfl ?_
   refine RK.D ?_
   refine AWp_ret ?_
   refine ends_one rfl (.inr rfl) (res_tmp rfl) ?_ O_ends
   exact .refl _
end Go.Proofs.YtmoaoiakmmbpoaaGreatDoor
end
