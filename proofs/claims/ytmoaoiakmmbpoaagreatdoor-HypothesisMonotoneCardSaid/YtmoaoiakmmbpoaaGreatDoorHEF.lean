/- Texts merged by program, in build order. -/
import Derived.Test.YtmoaoiakmmbpoaaGreatDoorHED
import Derived.Test.YtmoaoiakmmbpoaaGreatDoorHEC
import Derived.Test.YtmoaoiakmmbpoaaGreatDoorHEE
section
/- chapter 30: Monotone -/
namespace Go.Proofs.YtmoaoiakmmbpoaaGreatDoor
open Go Go.AM
/- algorist/algoristlaw30.HypothesisMonotone -/
set_option maxHeartbeats 8000000 in
set_option maxRecDepth 100000 in
theorem l_HypothesisMonotone (R : List Raw) (g : UInt8) (x : Raw) :
  Call0 Tryz.prog 4 [.p (.c (SL enR R)), .p (.c (.v (.int .u8 (g.toNat : Int)))), .p (.a (enR x))] (B true) := by
 have hml := made_len R g
 have hn : hypB (1 + ((x.2.2.toNat % 4 : Nat) : Int)) = true := decide_eq_true (by omega)
 have hE : grantE (1 + ((x.2.2.toNat % 4 : Nat) : Int)) = 0 := by unfold grantE; rw [if_pos hn]
 have hok1 : hok (grantB (madeB R g) (1 + ((x.2.2.toNat % 4 : Nat) : Int))).2 := gr_ok (made_ok R g)
 have hok1D : hokD (grantB (madeB R g) (1 + ((x.2.2.toNat % 4 : Nat) : Int))).1 := by rw [gr_fst hn]; exact made_okD R g
 have hok2 := wd_ok (made_ok R g) hn
 have hok2D : hokD (withdrawB (madeB R g) (1 + ((x.2.2.toNat % 4 : Nat) : Int))).1 := by rw [wd_fst hn]; exact made_okD R g
 refine callM_of (np := 0) Tryz.func4 (by kernel_rfl) rfl rfl (Nat.le_of_ble_eq_true rfl) (fun m h => absurd rfl h) (fun m h => absurd rfl h) rfl ?_
 refine AWp_sr hP ?_
 refine RK.alc guard_none (op_box rfl rfl) ?_
 refine RK.As rfl ?_
 refine RK.D ?_
 refine AWp_sr hP ?_
 refine RK.V (Eff.call0 p_examples) ?_
 refine RK.As rfl ?_
 refine RK.D ?_
 refine AWp_seq ?_
 refine AWp_sr hP ?_
 refine RK.M rfl ?_
 refine RK.V (op_unot rfl) ?_
 refine RK.D ?_
 refine AWp_cond_false rfl rfl ?_
 refine AWp_skip ?_
 refine AWp_sr hP ?_
 refine RK.M rfl ?_
 refine RK.M rfl ?_
 refine RK.V (Eff.call0 (p_Made R g)) ?_
 refine RK.alc guard_none (op_alloc hT rfl rfl) ?_
 refine RK.S hT rfl rfl rfl rfl rfl rfl rfl ?_
 refine RK.D ?_
 refine AWp_sr hP ?_
 refine RK.F hT rfl rfl rfl rfl rfl rfl ?_
 refine RK.V (op_load_one hT rfl rfl rfl rfl (by first | rfl | exact vget (by omega))) ?_
 refine RK.V (op_rem (c := ((x.2.2.toNat % 4 : Nat) : Int)) rfl rfl (by decide) (by rw [Int.tmod_eq_emod_of_nonneg (by omega)]; omega)) ?_
 refine RK.V (op_conv hT rfl rfl rfl rfl (c := ((x.2.2.toNat % 4 : Nat) : Int)) (by rw [IntKind.wrap_i64]; omega)) ?_
 refine RK.V (op_add rfl rfl (by first | exact IntWalk.i64_in _ (by omega) | rfl)) ?_
 refine RK.As rfl ?_
 refine RK.D ?_
 refine AWp_sr hP ?_
 refine RK.G2 hT rfl rfl rfl rfl rfl rfl ?_
 refine RK.V (op_load_agg hT rfl rfl rfl rfl (cs := [_, _, _]) rfl rfl) ?_
 refine RK.V (Eff.call0 (p_One x)) ?_
 refine RK.V (Eff.call0 (p_ladd (madeB R g) (oneD x) (made_srt R g) (made_le R g))) ?_
 refine RK.G2 hT rfl rfl rfl rfl rfl rfl ?_
 refine RK.M rfl ?_
 refine RK.V (Eff.call0 (p_lgrant (madeB R g) (1 + ((x.2.2.toNat % 4 : Nat) : Int)) (made_ok R g))) ?_
 refine RK.G2 hT rfl rfl rfl rfl rfl rfl ?_
 refine RK.M rfl ?_
 refine RK.V (Eff.call0 (p_lwithdraw (madeB R g) (1 + ((x.2.2.toNat % 4 : Nat) : Int)) (made_ok R g))) ?_
 refine RK.alc guard_none (op_alloc hT rfl rfl) ?_
 refine RK.alc guard_none (op_alloc hT rfl rfl) ?_
 refine RK.alc guard_none (op_alloc hT rfl rfl) ?_
 refine RK.S hT rfl rfl rfl rfl rfl rfl rfl ?_
 refine RK.S hT rfl rfl rfl rfl rfl rfl rfl ?_
 refine RK.S hT rfl rfl rfl rfl rfl rfl rfl ?_
 refine RK.D ?_
 refine AWp_seq ?_
 refine AWp_sr hP ?_
 refine RK.F hT rfl rfl rfl rfl rfl rfl ?_
 refine RK.V (op_load_one hT rfl rfl rfl rfl (by first | rfl | exact vget (by omega))) ?_
 refine RK.V (op_neq rfl rfl) ?_
 refine RK.M rfl ?_
 refine RK.val (guard_yes rfl rfl (by rw [hE]; rfl)) (op_field_loc hT rfl rfl rfl rfl rfl rfl) ?_
 refine RK.val (guard_yes rfl rfl (by rw [hE]; rfl)) (op_load_one hT rfl rfl rfl rfl (by first | rfl | exact vget (by omega))) ?_
 refine RK.val (guard_yes rfl rfl (by rw [hE]; rfl)) (op_neq rfl rfl) ?_
 refine RK.V (op_pick_f rfl (by rw [hE]; rfl) (rfl : _ = AV.p (.c _))) ?_
 refine RK.M rfl ?_
 refine RK.val (guard_yes rfl rfl (by rw [hE]; rfl)) (op_field_loc hT rfl rfl rfl rfl rfl rfl) ?_
 refine RK.val (guard_yes rfl rfl (by rw [hE]; rfl)) (op_load_one hT rfl rfl rfl rfl (by first | rfl | exact vget (by omega))) ?_
 refine RK.val (guard_yes rfl rfl (by rw [hE]; rfl)) (op_neq rfl rfl) ?_
 refine RK.val (guard_yes rfl rfl (by rw [hE]; rfl)) (op_move (rfl : _ = AV.p (.c _))) ?_
 refine RK.split (t := 53) rfl (fun hg3 => ?_) (fun hg3 => ?_)
 ·have hg3_ := bneT hg3
  have hE9 : (addE (madeB R g) (oneD x)) = 301 := Classical.byContradiction fun q => bneT hg3 (rep_E (one_right x) hml q)
  refine RK.val (guard_yes rfl rfl hg3) (op_field_loc hT rfl rfl rfl rfl rfl rfl) ?_
  refine RK.val (guard_yes rfl rfl hg3) (op_load_one hT rfl rfl rfl rfl (by first | rfl | exact vget (by omega))) ?_
  refine RK.val (guard_yes rfl rfl hg3) (op_neq rfl rfl) ?_
  refine RK.val (guard_yes rfl rfl (by rw [hE]; rfl)) (op_pick_t rfl hg3 (rfl : _ = AV.p (.c _))) ?_
  refine RK.V (op_pick_f rfl (by rw [hE]; rfl) (rfl : _ = AV.p (.c _))) ?_
  refine RK.D ?_
  refine AWp_cond_false rfl (by rw [hE9]; rfl) ?_
  refine AWp_skip ?_
  refine AWp_seq ?_
  refine AWp_sr hP ?_
  refine RK.As rfl ?_
  refine RK.D ?_
  refine AWp_block ?_
  refine AWp_loop (ι := Nat) (fun i => stL [(7, B true), (8, .loc 8 0), (9, Z (1 + ((x.2.2.toNat % 4 : Nat) : Int))), (10, .loc 10 0), (11, .loc 11 0), (12, .loc 12 0), (13, .p (.c (.v (.int .u8 ((i : Nat) : Int)))))] [(8, ⟨false, 1, 27, enBk (madeB R g)⟩), (10, ⟨false, 1, 42, [SL enD (addB (madeB R g) (oneD x)).1, SL enZ (addB (madeB R g) (oneD x)).2, .v (.int .i64 (addE (madeB R g) (oneD x)))]⟩), (11, ⟨false, 1, 42, [SL enD (grantB (madeB R g) (1 + ((x.2.2.toNat % 4 : Nat) : Int))).1, SL enZ (grantB (madeB R g) (1 + ((x.2.2.toNat % 4 : Nat) : Int))).2, .v (.int .i64 (grantE (1 + ((x.2.2.toNat % 4 : Nat) : Int))))]⟩), (12, ⟨false, 1, 42, [SL enD (withdrawB (madeB R g) (1 + ((x.2.2.toNat % 4 : Nat) : Int))).1, SL enZ (withdrawB (madeB R g) (1 + ((x.2.2.toNat % 4 : Nat) : Int))).2, .v (.int .i64 (grantE (1 + ((x.2.2.toNat % 4 : Nat) : Int))))]⟩)]) (fun i => i ≤ 8) (fun i => 8 - i) 0 (Nat.zero_le _) (le_stL ⟨.refl _, .refl _, .refl _, .refl _, .refl _, .refl _, .refl _, trivial⟩ ⟨rfl, rfl, rfl, rfl, trivial⟩) ?_
  rintro i hi
  refine AWp_seq ?_
  refine AWp_sr hP ?_
  refine RK.M rfl ?_
  refine RK.V (op_lss rfl rfl) ?_
  refine RK.D ?_
  refine AWp_cond rfl (fun hb4 => ?_) (fun hb4 => ?_)
  ·have hb4_ := of_decide_eq_true hb4
   refine AWp_skip ?_
   refine AWp_seq ?_
   refine AWp_block ?_
   refine AWp_sr hP ?_
   refine RK.M rfl ?_
   refine RK.V (Eff.call0 (p_Name i)) ?_
   refine RK.As rfl ?_
   refine RK.D ?_
   refine AWp_sr hP ?_
   refine RK.G2 hT rfl rfl rfl rfl rfl rfl ?_
   refine RK.M rfl ?_
   refine RK.V (Eff.call0 (p_Holds (madeB R g) (nameS i) (made_ok R g) (made_okD R g))) ?_
   refine RK.As rfl ?_
   refine RK.D ?_
   refine AWp_seq ?_
   refine AWp_sr hP ?_
   refine RK.M rfl ?_
   refine RK.M rfl ?_
   refine RK.split (t := 69) rfl (fun hg5 => ?_) (fun hg5 => ?_)
   ·have hho := hg5
    refine RK.val (guard_yes rfl rfl hg5) (op_field_loc hT rfl rfl rfl rfl rfl rfl) ?_
    refine RK.val (guard_yes rfl rfl hg5) (op_load_one hT rfl rfl rfl rfl (by first | rfl | exact vget (by omega))) ?_
    refine RK.val (guard_yes rfl rfl hg5) (op_eql rfl rfl) ?_
    refine RK.val (guard_yes rfl rfl hg5) (op_move (rfl : _ = AV.p (.c _))) ?_
    refine RK.split (t := 73) rfl (fun hg6 => ?_) (fun hg6 => ?_)
    ·have hg6_ := bT hg6
     have hadd : (addE (madeB R g) (oneD x)) = 0 := bT hg6
     refine RK.val (guard_yes rfl rfl hg6) (op_field_loc hT rfl rfl rfl rfl rfl rfl) ?_
     refine RK.val (guard_yes rfl rfl hg6) (op_load_agg hT rfl rfl rfl rfl (cs := [_, _]) rfl rfl) ?_
     refine RK.val (guard_yes rfl rfl hg6) (op_move (rfl : _ = AV.p (.c _))) ?_
     refine RK.val (guard_yes rfl rfl hg6) (Eff.call0 (p_Holds (addB (madeB R g) (oneD x)) (nameS i) (add_ok (made_ok R g)) (add_okD (one_right x) (made_okD R g)))) ?_
     refine RK.val (guard_yes rfl rfl hg6) (op_unot rfl) ?_
     refine RK.val (guard_yes rfl rfl hg5) (op_pick_t rfl hg6 (rfl : _ = AV.p (.c _))) ?_
     refine RK.val (guard_yes rfl rfl hg5) (op_move (rfl : _ = AV.p (.c _))) ?_
     refine RK.val (guard_yes rfl rfl (congrArg not (mono_add hadd hho))) (op_field_loc hT rfl rfl rfl rfl rfl rfl) ?_
     refine RK.val (guard_yes rfl rfl (congrArg not (mono_add hadd hho))) (op_load_agg hT rfl rfl rfl rfl (cs := [_, _]) rfl rfl) ?_
     refine RK.val (guard_yes rfl rfl (congrArg not (mono_add hadd hho))) (op_move (rfl : _ = AV.p (.c _))) ?_
     refine RK.val (guard_yes rfl rfl (congrArg not (mono_add hadd hho))) (Eff.call0 (p_Holds (grantB (madeB R g) (1 + ((x.2.2.toNat % 4 : Nat) : Int))) (nameS i) hok1 hok1D)) ?_
     refine RK.val (guard_yes rfl rfl (congrArg not (mono_add hadd hho))) (op_unot rfl) ?_
     refine RK.val (guard_yes rfl rfl hg5) (op_pick_f rfl (congrArg not (mono_add hadd hho)) (rfl : _ = AV.p (.c _))) ?_
     refine RK.V (op_pick_t rfl hg5 (rfl : _ = AV.p (.c _))) ?_
     refine RK.D ?_
     refine AWp_cond_false rfl (congrArg not (mono_grant (made_ok R g) hn hho)) ?_
     refine AWp_skip ?_
     refine AWp_sr hP ?_
     refine RK.G2 hT rfl rfl rfl rfl rfl rfl ?_
     refine RK.M rfl ?_
     refine RK.V (Eff.call0 (p_Needs (madeB R g) (nameS i) (made_ok R g) (made_okD R g))) ?_
     refine RK.As rfl ?_
     refine RK.D ?_
     refine AWp_sr hP ?_
     refine RK.As rfl ?_
     refine RK.As rfl ?_
     refine RK.D ?_
     refine AWp_seq ?_
     refine AWp_sr hP ?_
     refine RK.As rfl ?_
     refine RK.D ?_
     refine AWp_block ?_
     refine AWp_len (t := 16) rfl rfl (fun hlb => ?_)
     refine AWp_loop (ι := Nat) (fun k => stL [(7, B true), (8, .loc 8 0), (9, Z (1 + ((x.2.2.toNat % 4 : Nat) : Int))), (10, .loc 10 0), (11, .loc 11 0), (12, .loc 12 0), (13, .p (.c (.v (.int .u8 ((i : Nat) : Int))))), (14, AS (nameS i)), (15, B (decide ((nameS i) ∈ cls (rFin (madeB R g))))), (16, .p (.c (SL enL (ndL (madeB R g).1 (nameS i))))), (17, B (((ndL (madeB R g).1 (nameS i)).take k).all (fun y : List Int => decide ((1 + ((x.2.2.toNat % 4 : Nat) : Int)) ∈ y)))), (18, B (((ndL (madeB R g).1 (nameS i)).take k).any (fun y : List Int => y.all fun n => decide (n ∈ (madeB R g).2)))), (19, Z (k : Int))] [(8, ⟨false, 1, 27, enBk (madeB R g)⟩), (10, ⟨false, 1, 42, [SL enD (addB (madeB R g) (oneD x)).1, SL enZ (addB (madeB R g) (oneD x)).2, .v (.int .i64 (addE (madeB R g) (oneD x)))]⟩), (11, ⟨false, 1, 42, [SL enD (grantB (madeB R g) (1 + ((x.2.2.toNat % 4 : Nat) : Int))).1, SL enZ (grantB (madeB R g) (1 + ((x.2.2.toNat % 4 : Nat) : Int))).2, .v (.int .i64 (grantE (1 + ((x.2.2.toNat % 4 : Nat) : Int))))]⟩), (12, ⟨false, 1, 42, [SL enD (withdrawB (madeB R g) (1 + ((x.2.2.toNat % 4 : Nat) : Int))).1, SL enZ (withdrawB (madeB R g) (1 + ((x.2.2.toNat % 4 : Nat) : Int))).2, .v (.int .i64 (grantE (1 + ((x.2.2.toNat % 4 : Nat) : Int))))]⟩)]) (fun k => k ≤ (ndL (madeB R g).1 (nameS i)).length) (fun k => (ndL (madeB R g).1 (nameS i)).length - k) 0 (Nat.zero_le _) (le_stL ⟨.refl _, .refl _, .refl _, .refl _, .refl _, .refl _, .refl _, .refl _, .refl _, .refl _, .refl _, .refl _, .refl _, trivial⟩ ⟨rfl, rfl, rfl, rfl, trivial⟩) ?_
     rintro k hk
     refine AWp_seq ?_
     refine AWp_sr hP ?_
     refine RK.M rfl ?_
     refine RK.M rfl ?_
     refine RK.V (op_len hT rfl rfl rfl (by rfl)) ?_
     refine RK.V (op_lss rfl rfl) ?_
     refine RK.D ?_
     refine AWp_cond rfl (fun hb8 => ?_) (fun hb8 => ?_)
     ·have hb8_ := of_decide_eq_true hb8
      refine AWp_skip ?_
      refine AWp_seq ?_
      refine AWp_block ?_
      refine AWp_sr hP ?_
      refine RK.M rfl ?_
      refine RK.M rfl ?_
      refine RK.split (t := 98) rfl (fun hg9 => ?_) (fun hg9 => ?_)
      ·have hqa := hg9
       refine RK.val (guard_yes rfl rfl hg9) (op_move (rfl : _ = AV.p (.c _))) ?_
       refine RK.val (guard_yes rfl rfl hg9) (op_move (rfl : _ = AV.p (.c _))) ?_
       refine RK.val (guard_yes rfl rfl hg9) (op_indexG hT enL_len (by decide) [] (n := (k : Int)) (l := (ndL (madeB R g).1 (nameS i))) rfl rfl rfl rfl rfl rfl (by omega)) ?_
       refine RK.val (guard_yes rfl rfl hg9) (op_load_ip_one hT rfl rfl rfl rfl) ?_
       refine RK.val (guard_yes rfl rfl hg9) (op_move (rfl : _ = AV.p (.c _))) ?_
       refine RK.val (guard_yes rfl rfl hg9) (Eff.call0 (p_rHas ((ndL (madeB R g).1 (nameS i)).getD k []) (1 + ((x.2.2.toNat % 4 : Nat) : Int)))) ?_
       refine RK.V (op_pick_t rfl hg9 (rfl : _ = AV.p (.c _))) ?_
       refine RK.As rfl ?_
       refine RK.D ?_
       refine AWp_region hP ?_
       refine RK.M rfl ?_
       refine RK.M rfl ?_
       refine RK.split (t := 107) rfl (fun hg10 => ?_) (fun hg10 => ?_)
       ·have hqo := hg10
        refine RK.skip (guard_no rfl rfl hg10) ?_
        refine RK.skip (guard_no rfl rfl hg10) ?_
        refine RK.skip (guard_no rfl rfl hg10) ?_
        refine RK.skip (guard_no rfl rfl hg10) ?_
        refine RK.skip (guard_no rfl rfl hg10) ?_
        refine RK.skip (guard_no rfl rfl hg10) ?_
        refine RK.skip (guard_no rfl rfl hg10) ?_
        refine RK.V (op_pick_t rfl hg10 (rfl : _ = AV.p (.c _))) ?_
        refine RK.As rfl ?_
        refine RK.D ?_
        refine AWp_region hP ?_
        refine RK.M rfl ?_
        refine RK.V (op_add rfl rfl (by first | exact IntWalk.i64_in _ (by omega) | rfl)) ?_
        refine RK.As rfl ?_
        refine RK.D ?_
        refine ⟨k + 1, by omega, by omega, le_stL ⟨.refl _, .refl _, .refl _, .refl _, .refl _, .refl _, .refl _, .refl _, .refl _, .refl _, Sub.bool (all_y [] (by omega) hqa), Sub.bool (any_y [] (by omega) hqo), Sub.int (by omega), trivial⟩ ⟨rfl, rfl, rfl, rfl, trivial⟩⟩
       ·have hqo := hg10
        refine RK.val (guard_yes rfl rfl hg10) (op_move (rfl : _ = AV.p (.c _))) ?_
        refine RK.val (guard_yes rfl rfl hg10) (op_move (rfl : _ = AV.p (.c _))) ?_
        refine RK.val (guard_yes rfl rfl hg10) (op_indexG hT enL_len (by decide) [] (n := (k : Int)) (l := (ndL (madeB R g).1 (nameS i))) rfl rfl rfl rfl rfl rfl (by omega)) ?_
        refine RK.val (guard_yes rfl rfl hg10) (op_load_ip_one hT rfl rfl rfl rfl) ?_
        refine RK.val (guard_yes rfl rfl hg10) (op_field_loc hT rfl rfl rfl rfl rfl rfl) ?_
        refine RK.val (guard_yes rfl rfl hg10) (op_load_one hT rfl rfl rfl rfl (by first | rfl | exact vget (by omega))) ?_
        refine RK.val (guard_yes rfl rfl hg10) (Eff.call0 (p_inside ((ndL (madeB R g).1 (nameS i)).getD k []) (madeB R g).2)) ?_
        refine RK.V (op_pick_f rfl hg10 (rfl : _ = AV.p (.c _))) ?_
        refine RK.As rfl ?_
        refine RK.D ?_
        refine AWp_region hP ?_
        refine RK.M rfl ?_
        refine RK.V (op_add rfl rfl (by first | exact IntWalk.i64_in _ (by omega) | rfl)) ?_
        refine RK.As rfl ?_
        refine RK.D ?_
        refine ⟨k + 1, by omega, by omega, le_stL ⟨.refl _, .refl _, .refl _, .refl _, .refl _, .refl _, .refl _, .refl _, .refl _, .refl _, Sub.bool (all_y [] (by omega) hqa), Sub.bool (any_n [] (by omega) hqo), Sub.int (by omega), trivial⟩ ⟨rfl, rfl, rfl, rfl, trivial⟩⟩
      ·have hqa := hg9
       refine RK.skip (guard_no rfl rfl hg9) ?_
       refine RK.skip (guard_no rfl rfl hg9) ?_
       refine RK.skip (guard_no rfl rfl hg9) ?_
       refine RK.skip (guard_no rfl rfl hg9) ?_
       refine RK.skip (guard_no rfl rfl hg9) ?_
       refine RK.skip (guard_no rfl rfl hg9) ?_
       refine RK.V (op_pick_f rfl hg9 (rfl : _ = AV.p (.c _))) ?_
       refine RK.As rfl ?_
       refine RK.D ?_
       refine AWp_region hP ?_
       refine RK.M rfl ?_
       refine RK.M rfl ?_
       refine RK.split (t := 107) rfl (fun hg11 => ?_) (fun hg11 => ?_)
       ·have hqo := hg11
        refine RK.skip (guard_no rfl rfl hg11) ?_
        refine RK.skip (guard_no rfl rfl hg11) ?_
        refine RK.skip (guard_no rfl rfl hg11) ?_
        refine RK.skip (guard_no rfl rfl hg11) ?_
        refine RK.skip (guard_no rfl rfl hg11) ?_
        refine RK.skip (guard_no rfl rfl hg11) ?_
        refine RK.skip (guard_no rfl rfl hg11) ?_
        refine RK.V (op_pick_t rfl hg11 (rfl : _ = AV.p (.c _))) ?_
        refine RK.As rfl ?_
        refine RK.D ?_
        refine AWp_region hP ?_
        refine RK.M rfl ?_
        refine RK.V (op_add rfl rfl (by first | exact IntWalk.i64_in _ (by omega) | rfl)) ?_
        refine RK.As rfl ?_
        refine RK.D ?_
        refine ⟨k + 1, by omega, by omega, le_stL ⟨.refl _, .refl _, .refl _, .refl _, .refl _, .refl _, .refl _, .refl _, .refl _, .refl _, Sub.bool (all_n [] (by omega) hqa), Sub.bool (any_y [] (by omega) hqo), Sub.int (by omega), trivial⟩ ⟨rfl, rfl, rfl, rfl, trivial⟩⟩
       ·have hqo := hg11
        refine RK.val (guard_yes rfl rfl hg11) (op_move (rfl : _ = AV.p (.c _))) ?_
        refine RK.val (guard_yes rfl rfl hg11) (op_move (rfl : _ = AV.p (.c _))) ?_
        refine RK.val (guard_yes rfl rfl hg11) (op_indexG hT enL_len (by decide) [] (n := (k : Int)) (l := (ndL (madeB R g).1 (nameS i))) rfl rfl rfl rfl rfl rfl (by omega)) ?_
        refine RK.val (guard_yes rfl rfl hg11) (op_load_ip_one hT rfl rfl rfl rfl) ?_
        refine RK.val (guard_yes rfl rfl hg11) (op_field_loc hT rfl rfl rfl rfl rfl rfl) ?_
        refine RK.val (guard_yes rfl rfl hg11) (op_load_one hT rfl rfl rfl rfl (by first | rfl | exact vget (by omega))) ?_
        refine RK.val (guard_yes rfl rfl hg11) (Eff.call0 (p_inside ((ndL (madeB R g).1 (nameS i)).getD k []) (madeB R g).2)) ?_
        refine RK.V (op_pick_f rfl hg11 (rfl : _ = AV.p (.c _))) ?_
        refine RK.As rfl ?_
        refine RK.D ?_
        refine AWp_region hP ?_
        refine RK.M rfl ?_
        refine RK.V (op_add rfl rfl (by first | exact IntWalk.i64_in _ (by omega) | rfl)) ?_
        refine RK.As rfl ?_
        refine RK.D ?_
        refine ⟨k + 1, by omega, by omega, le_stL ⟨.refl _, .refl _, .refl _, .refl _, .refl _, .refl _, .refl _, .refl _, .refl _, .refl _, Sub.bool (all_n [] (by omega) hqa), Sub.bool (any_n [] (by omega) hqo), Sub.int (by omega), trivial⟩ ⟨rfl, rfl, rfl, rfl, trivial⟩⟩
     ·have hb8_ := of_decide_eq_false hb8
      rw [List.take_of_length_le (by omega)]
      refine AWp_exit ?_
      refine AWp_sr hP ?_
      refine RK.M rfl ?_
      refine RK.M rfl ?_
      refine RK.V (op_bne hT rfl rfl rfl rfl) ?_
      refine RK.M rfl ?_
      refine RK.val (guard_yes rfl rfl (by rw [mono_one (made_ok R g)]; exact bne_self_eq_false' _)) (op_move (rfl : _ = AV.p (.c _))) ?_
      refine RK.val (guard_yes rfl rfl (by rw [mono_one (made_ok R g)]; exact bne_self_eq_false' _)) (op_move (rfl : _ = AV.p (.c _))) ?_
      refine RK.split (t := 121) rfl (fun hg13 => ?_) (fun hg13 => ?_)
      ·have hall := hg13
       refine RK.val (guard_yes rfl rfl hg13) (op_field_loc hT rfl rfl rfl rfl rfl rfl) ?_
       refine RK.val (guard_yes rfl rfl hg13) (op_load_agg hT rfl rfl rfl rfl (cs := [_, _]) rfl rfl) ?_
       refine RK.val (guard_yes rfl rfl hg13) (op_move (rfl : _ = AV.p (.c _))) ?_
       refine RK.val (guard_yes rfl rfl hg13) (Eff.call0 (p_Holds (withdrawB (madeB R g) (1 + ((x.2.2.toNat % 4 : Nat) : Int))) (nameS i) hok2 hok2D)) ?_
       refine RK.val (guard_yes rfl rfl (by rw [mono_one (made_ok R g)]; exact bne_self_eq_false' _)) (op_pick_t rfl hg13 (rfl : _ = AV.p (.c _))) ?_
       refine RK.V (op_pick_f rfl (by rw [mono_one (made_ok R g)]; exact bne_self_eq_false' _) (rfl : _ = AV.p (.c _))) ?_
       refine RK.D ?_
       refine AWp_cond_false rfl (mono_all (made_ok R g) hn hall) ?_
       refine AWp_skip ?_
       refine AWp_region hP ?_
       refine RK.M rfl ?_
       refine RK.V (op_add rfl rfl (by first | exact IntWalk.u8_in _ (by omega) | rfl)) ?_
       refine RK.As rfl ?_
       refine RK.D ?_
       refine ⟨i + 1, by omega, by omega, le_stL ⟨.refl _, .refl _, .refl _, .refl _, .refl _, .refl _, Sub.of_eq (by congr 4), trivial⟩ ⟨rfl, rfl, rfl, rfl, trivial⟩⟩
      ·refine RK.skip (guard_no rfl rfl hg13) ?_
       refine RK.skip (guard_no rfl rfl hg13) ?_
       refine RK.skip (guard_no rfl rfl hg13) ?_
       refine RK.skip (guard_no rfl rfl hg13) ?_
       refine RK.val (guard_yes rfl rfl (by rw [mono_one (made_ok R g)]; exact bne_self_eq_false' _)) (op_pick_f rfl hg13 (rfl : _ = AV.p (.c _))) ?_
       refine RK.V (op_pick_f rfl (by rw [mono_one (made_ok R g)]; exact bne_self_eq_false' _) (rfl : _ = AV.p (.c _))) ?_
       refine RK.D ?_
       refine AWp_cond_false rfl rfl ?_
       refine AWp_skip ?_
       refine AWp_region hP ?_
       refine RK.M rfl ?_
       refine RK.V (op_add rfl rfl (by first | exact IntWalk.u8_in _ (by omega) | rfl)) ?_
       refine RK.As rfl ?_
       refine RK.D ?_
       refine ⟨i + 1, by omega, by omega, le_stL ⟨.refl _, .refl _, .refl _, .refl _, .refl _, .refl _, Sub.of_eq (by congr 4), trivial⟩ ⟨rfl, rfl, rfl, rfl, trivial⟩⟩
    ·have hg6_ := bF hg6
     refine RK.skip (guard_no rfl rfl hg6) ?_
     refine RK.skip (guard_no rfl rfl hg6) ?_
     refine RK.skip (guard_no rfl rfl hg6) ?_
     refine RK.skip (guard_no rfl rfl hg6) ?_
     refine RK.skip (guard_no rfl rfl hg6) ?_
     refine RK.val (guard_yes rfl rfl hg5) (op_pick_f rfl hg6 (rfl : _ = AV.p (.c _))) ?_
     refine RK.val (guard_yes rfl rfl hg5) (op_move (rfl : _ = AV.p (.c _))) ?_
     refine RK.val (guard_yes rfl rfl rfl) (op_field_loc hT rfl rfl rfl rfl rfl rfl) ?_
     refine RK.val (guard_yes rfl rfl rfl) (op_load_agg hT rfl rfl rfl rfl (cs := [_, _]) rfl rfl) ?_
     refine RK.val (guard_yes rfl rfl rfl) (op_move (rfl : _ = AV.p (.c _))) ?_
     refine RK.val (guard_yes rfl rfl rfl) (Eff.call0 (p_Holds (grantB (madeB R g) (1 + ((x.2.2.toNat % 4 : Nat) : Int))) (nameS i) hok1 hok1D)) ?_
     refine RK.val (guard_yes rfl rfl rfl) (op_unot rfl) ?_
     refine RK.val (guard_yes rfl rfl hg5) (op_pick_f rfl rfl (rfl : _ = AV.p (.c _))) ?_
     refine RK.V (op_pick_t rfl hg5 (rfl : _ = AV.p (.c _))) ?_
     refine RK.D ?_
     refine AWp_cond_false rfl (congrArg not (mono_grant (made_ok R g) hn hho)) ?_
     refine AWp_skip ?_
     refine AWp_sr hP ?_
     refine RK.G2 hT rfl rfl rfl rfl rfl rfl ?_
     refine RK.M rfl ?_
     refine RK.V (Eff.call0 (p_Needs (madeB R g) (nameS i) (made_ok R g) (made_okD R g))) ?_
     refine RK.As rfl ?_
     refine RK.D ?_
     refine AWp_sr hP ?_
     refine RK.As rfl ?_
     refine RK.As rfl ?_
     refine RK.D ?_
     refine AWp_seq ?_
     refine AWp_sr hP ?_
     refine RK.As rfl ?_
     refine RK.D ?_
     refine AWp_block ?_
     refine AWp_len (t := 16) rfl rfl (fun hlb => ?_)
     refine AWp_loop (ι := Nat) (fun k => stL [(7, B true), (8, .loc 8 0), (9, Z (1 + ((x.2.2.toNat % 4 : Nat) : Int))), (10, .loc 10 0), (11, .loc 11 0), (12, .loc 12 0), (13, .p (.c (.v (.int .u8 ((i : Nat) : Int))))), (14, AS (nameS i)), (15, B (decide ((nameS i) ∈ cls (rFin (madeB R g))))), (16, .p (.c (SL enL (ndL (madeB R g).1 (nameS i))))), (17, B (((ndL (madeB R g).1 (nameS i)).take k).all (fun y : List Int => decide ((1 + ((x.2.2.toNat % 4 : Nat) : Int)) ∈ y)))), (18, B (((ndL (madeB R g).1 (nameS i)).take k).any (fun y : List Int => y.all fun n => decide (n ∈ (madeB R g).2)))), (19, Z (k : Int))] [(8, ⟨false, 1, 27, enBk (madeB R g)⟩), (10, ⟨false, 1, 42, [SL enD (addB (madeB R g) (oneD x)).1, SL enZ (addB (madeB R g) (oneD x)).2, .v (.int .i64 (addE (madeB R g) (oneD x)))]⟩), (11, ⟨false, 1, 42, [SL enD (grantB (madeB R g) (1 + ((x.2.2.toNat % 4 : Nat) : Int))).1, SL enZ (grantB (madeB R g) (1 + ((x.2.2.toNat % 4 : Nat) : Int))).2, .v (.int .i64 (grantE (1 + ((x.2.2.toNat % 4 : Nat) : Int))))]⟩), (12, ⟨false, 1, 42, [SL enD (withdrawB (madeB R g) (1 + ((x.2.2.toNat % 4 : Nat) : Int))).1, SL enZ (withdrawB (madeB R g) (1 + ((x.2.2.toNat % 4 : Nat) : Int))).2, .v (.int .i64 (grantE (1 + ((x.2.2.toNat % 4 : Nat) : Int))))]⟩)]) (fun k => k ≤ (ndL (madeB R g).1 (nameS i)).length) (fun k => (ndL (madeB R g).1 (nameS i)).length - k) 0 (Nat.zero_le _) (le_stL ⟨.refl _, .refl _, .refl _, .refl _, .refl _, .refl _, .refl _, .refl _, .refl _, .refl _, .refl _, .refl _, .refl _, trivial⟩ ⟨rfl, rfl, rfl, rfl, trivial⟩) ?_
     rintro k hk
     refine AWp_seq ?_
     refine AWp_sr hP ?_
     refine RK.M rfl ?_
     refine RK.M rfl ?_
     refine RK.V (op_len hT rfl rfl rfl (by rfl)) ?_
     refine RK.V (op_lss rfl rfl) ?_
     refine RK.D ?_
     refine AWp_cond rfl (fun hb14 => ?_) (fun hb14 => ?_)
     ·have hb14_ := of_decide_eq_true hb14
      refine AWp_skip ?_
      refine AWp_seq ?_
      refine AWp_block ?_
      refine AWp_sr hP ?_
      refine RK.M rfl ?_
      refine RK.M rfl ?_
      refine RK.split (t := 98) rfl (fun hg15 => ?_) (fun hg15 => ?_)
      ·have hqa := hg15
       refine RK.val (guard_yes rfl rfl hg15) (op_move (rfl : _ = AV.p (.c _))) ?_
       refine RK.val (guard_yes rfl rfl hg15) (op_move (rfl : _ = AV.p (.c _))) ?_
       refine RK.val (guard_yes rfl rfl hg15) (op_indexG hT enL_len (by decide) [] (n := (k : Int)) (l := (ndL (madeB R g).1 (nameS i))) rfl rfl rfl rfl rfl rfl (by omega)) ?_
       refine RK.val (guard_yes rfl rfl hg15) (op_load_ip_one hT rfl rfl rfl rfl) ?_
       refine RK.val (guard_yes rfl rfl hg15) (op_move (rfl : _ = AV.p (.c _))) ?_
       refine RK.val (guard_yes rfl rfl hg15) (Eff.call0 (p_rHas ((ndL (madeB R g).1 (nameS i)).getD k []) (1 + ((x.2.2.toNat % 4 : Nat) : Int)))) ?_
       refine RK.V (op_pick_t rfl hg15 (rfl : _ = AV.p (.c _))) ?_
       refine RK.As rfl ?_
       refine RK.D ?_
       refine AWp_region hP ?_
       refine RK.M rfl ?_
       refine RK.M rfl ?_
       refine RK.split (t := 107) rfl (fun hg16 => ?_) (fun hg16 => ?_)
       ·have hqo := hg16
        refine RK.skip (guard_no rfl rfl hg16) ?_
        refine RK.skip (guard_no rfl rfl hg16) ?_
        refine RK.skip (guard_no rfl rfl hg16) ?_
        refine RK.skip (guard_no rfl rfl hg16) ?_
        refine RK.skip (guard_no rfl rfl hg16) ?_
        refine RK.skip (guard_no rfl rfl hg16) ?_
        refine RK.skip (guard_no rfl rfl hg16) ?_
        refine RK.V (op_pick_t rfl hg16 (rfl : _ = AV.p (.c _))) ?_
        refine RK.As rfl ?_
        refine RK.D ?_
        refine AWp_region hP ?_
        refine RK.M rfl ?_
        refine RK.V (op_add rfl rfl (by first | exact IntWalk.i64_in _ (by omega) | rfl)) ?_
        refine RK.As rfl ?_
        refine RK.D ?_
        refine ⟨k + 1, by omega, by omega, le_stL ⟨.refl _, .refl _, .refl _, .refl _, .refl _, .refl _, .refl _, .refl _, .refl _, .refl _, Sub.bool (all_y [] (by omega) hqa), Sub.bool (any_y [] (by omega) hqo), Sub.int (by omega), trivial⟩ ⟨rfl, rfl, rfl, rfl, trivial⟩⟩
       ·have hqo := hg16
        refine RK.val (guard_yes rfl rfl hg16) (op_move (rfl : _ = AV.p (.c _))) ?_
        refine RK.val (guard_yes rfl rfl hg16) (op_move (rfl : _ = AV.p (.c _))) ?_
        refine RK.val (guard_yes rfl rfl hg16) (op_indexG hT enL_len (by decide) [] (n := (k : Int)) (l := (ndL (madeB R g).1 (nameS i))) rfl rfl rfl rfl rfl rfl (by omega)) ?_
        refine RK.val (guard_yes rfl rfl hg16) (op_load_ip_one hT rfl rfl rfl rfl) ?_
        refine RK.val (guard_yes rfl rfl hg16) (op_field_loc hT rfl rfl rfl rfl rfl rfl) ?_
        refine RK.val (guard_yes rfl rfl hg16) (op_load_one hT rfl rfl rfl rfl (by first | rfl | exact vget (by omega))) ?_
        refine RK.val (guard_yes rfl rfl hg16) (Eff.call0 (p_inside ((ndL (madeB R g).1 (nameS i)).getD k []) (madeB R g).2)) ?_
        refine RK.V (op_pick_f rfl hg16 (rfl : _ = AV.p (.c _))) ?_
        refine RK.As rfl ?_
        refine RK.D ?_
        refine AWp_region hP ?_
        refine RK.M rfl ?_
        refine RK.V (op_add rfl rfl (by first | exact IntWalk.i64_in _ (by omega) | rfl)) ?_
        refine RK.As rfl ?_
        refine RK.D ?_
        refine ⟨k + 1, by omega, by omega, le_stL ⟨.refl _, .refl _, .refl _, .refl _, .refl _, .refl _, .refl _, .refl _, .refl _, .refl _, Sub.bool (all_y [] (by omega) hqa), Sub.bool (any_n [] (by omega) hqo), Sub.int (by omega), trivial⟩ ⟨rfl, rfl, rfl, rfl, trivial⟩⟩
      ·have hqa := hg15
       refine RK.skip (guard_no rfl rfl hg15) ?_
       refine RK.skip (guard_no rfl rfl hg15) ?_
       refine RK.skip (guard_no rfl rfl hg15) ?_
       refine RK.skip (guard_no rfl rfl hg15) ?_
       refine RK.skip (guard_no rfl rfl hg15) ?_
       refine RK.skip (guard_no rfl rfl hg15) ?_
       refine RK.V (op_pick_f rfl hg15 (rfl : _ = AV.p (.c _))) ?_
       refine RK.As rfl ?_
       refine RK.D ?_
       refine AWp_region hP ?_
       refine RK.M rfl ?_
       refine RK.M rfl ?_
       refine RK.split (t := 107) rfl (fun hg17 => ?_) (fun hg17 => ?_)
       ·have hqo := hg17
        refine RK.skip (guard_no rfl rfl hg17) ?_
        refine RK.skip (guard_no rfl rfl hg17) ?_
        refine RK.skip (guard_no rfl rfl hg17) ?_
        refine RK.skip (guard_no rfl rfl hg17) ?_
        refine RK.skip (guard_no rfl rfl hg17) ?_
        refine RK.skip (guard_no rfl rfl hg17) ?_
        refine RK.skip (guard_no rfl rfl hg17) ?_
        refine RK.V (op_pick_t rfl hg17 (rfl : _ = AV.p (.c _))) ?_
        refine RK.As rfl ?_
        refine RK.D ?_
        refine AWp_region hP ?_
        refine RK.M rfl ?_
        refine RK.V (op_add rfl rfl (by first | exact IntWalk.i64_in _ (by omega) | rfl)) ?_
        refine RK.As rfl ?_
        refine RK.D ?_
        refine ⟨k + 1, by omega, by omega, le_stL ⟨.refl _, .refl _, .refl _, .refl _, .refl _, .refl _, .refl _, .refl _, .refl _, .refl _, Sub.bool (all_n [] (by omega) hqa), Sub.bool (any_y [] (by omega) hqo), Sub.int (by omega), trivial⟩ ⟨rfl, rfl, rfl, rfl, trivial⟩⟩
       ·have hqo := hg17
        refine RK.val (guard_yes rfl rfl hg17) (op_move (rfl : _ = AV.p (.c _))) ?_
        refine RK.val (guard_yes rfl rfl hg17) (op_move (rfl : _ = AV.p (.c _))) ?_
        refine RK.val (guard_yes rfl rfl hg17) (op_indexG hT enL_len (by decide) [] (n := (k : Int)) (l := (ndL (madeB R g).1 (nameS i))) rfl rfl rfl rfl rfl rfl (by omega)) ?_
        refine RK.val (guard_yes rfl rfl hg17) (op_load_ip_one hT rfl rfl rfl rfl) ?_
        refine RK.val (guard_yes rfl rfl hg17) (op_field_loc hT rfl rfl rfl rfl rfl rfl) ?_
        refine RK.val (guard_yes rfl rfl hg17) (op_load_one hT rfl rfl rfl rfl (by first | rfl | exact vget (by omega))) ?_
        refine RK.val (guard_yes rfl rfl hg17) (Eff.call0 (p_inside ((ndL (madeB R g).1 (nameS i)).getD k []) (madeB R g).2)) ?_
        refine RK.V (op_pick_f rfl hg17 (rfl : _ = AV.p (.c _))) ?_
        refine RK.As rfl ?_
        refine RK.D ?_
        refine AWp_region hP ?_
        refine RK.M rfl ?_
        refine RK.V (op_add rfl rfl (by first | exact IntWalk.i64_in _ (by omega) | rfl)) ?_
        refine RK.As rfl ?_
        refine RK.D ?_
        refine ⟨k + 1, by omega, by omega, le_stL ⟨.refl _, .refl _, .refl _, .refl _, .refl _, .refl _, .refl _, .refl _, .refl _, .refl _, Sub.bool (all_n [] (by omega) hqa), Sub.bool (any_n [] (by omega) hqo), Sub.int (by omega), trivial⟩ ⟨rfl, rfl, rfl, rfl, trivial⟩⟩
     ·have hb14_ := of_decide_eq_false hb14
      rw [List.take_of_length_le (by omega)]
      refine AWp_exit ?_
      refine AWp_sr hP ?_
      refine RK.M rfl ?_
      refine RK.M rfl ?_
      refine RK.V (op_bne hT rfl rfl rfl rfl) ?_
      refine RK.M rfl ?_
      refine RK.val (guard_yes rfl rfl (by rw [mono_one (made_ok R g)]; exact bne_self_eq_false' _)) (op_move (rfl : _ = AV.p (.c _))) ?_
      refine RK.val (guard_yes rfl rfl (by rw [mono_one (made_ok R g)]; exact bne_self_eq_false' _)) (op_move (rfl : _ = AV.p (.c _))) ?_
      refine RK.split (t := 121) rfl (fun hg19 => ?_) (fun hg19 => ?_)
      ·have hall := hg19
       refine RK.val (guard_yes rfl rfl hg19) (op_field_loc hT rfl rfl rfl rfl rfl rfl) ?_
       refine RK.val (guard_yes rfl rfl hg19) (op_load_agg hT rfl rfl rfl rfl (cs := [_, _]) rfl rfl) ?_
       refine RK.val (guard_yes rfl rfl hg19) (op_move (rfl : _ = AV.p (.c _))) ?_
       refine RK.val (guard_yes rfl rfl hg19) (Eff.call0 (p_Holds (withdrawB (madeB R g) (1 + ((x.2.2.toNat % 4 : Nat) : Int))) (nameS i) hok2 hok2D)) ?_
       refine RK.val (guard_yes rfl rfl (by rw [mono_one (made_ok R g)]; exact bne_self_eq_false' _)) (op_pick_t rfl hg19 (rfl : _ = AV.p (.c _))) ?_
       refine RK.V (op_pick_f rfl (by rw [mono_one (made_ok R g)]; exact bne_self_eq_false' _) (rfl : _ = AV.p (.c _))) ?_
       refine RK.D ?_
       refine AWp_cond_false rfl (mono_all (made_ok R g) hn hall) ?_
       refine AWp_skip ?_
       refine AWp_region hP ?_
       refine RK.M rfl ?_
       refine RK.V (op_add rfl rfl (by first | exact IntWalk.u8_in _ (by omega) | rfl)) ?_
       refine RK.As rfl ?_
       refine RK.D ?_
       refine ⟨i + 1, by omega, by omega, le_stL ⟨.refl _, .refl _, .refl _, .refl _, .refl _, .refl _, Sub.of_eq (by congr 4), trivial⟩ ⟨rfl, rfl, rfl, rfl, trivial⟩⟩
      ·refine RK.skip (guard_no rfl rfl hg19) ?_
       refine RK.skip (guard_no rfl rfl hg19) ?_
       refine RK.skip (guard_no rfl rfl hg19) ?_
       refine RK.skip (guard_no rfl rfl hg19) ?_
       refine RK.val (guard_yes rfl rfl (by rw [mono_one (made_ok R g)]; exact bne_self_eq_false' _)) (op_pick_f rfl hg19 (rfl : _ = AV.p (.c _))) ?_
       refine RK.V (op_pick_f rfl (by rw [mono_one (made_ok R g)]; exact bne_self_eq_false' _) (rfl : _ = AV.p (.c _))) ?_
       refine RK.D ?_
       refine AWp_cond_false rfl rfl ?_
       refine AWp_skip ?_
       refine AWp_region hP ?_
       refine RK.M rfl ?_
       refine RK.V (op_add rfl rfl (by first | exact IntWalk.u8_in _ (by omega) | rfl)) ?_
       refine RK.As rfl ?_
       refine RK.D ?_
       refine ⟨i + 1, by omega, by omega, le_stL ⟨.refl _, .refl _, .refl _, .refl _, .refl _, .refl _, Sub.of_eq (by congr 4), trivial⟩ ⟨rfl, rfl, rfl, rfl, trivial⟩⟩
   ·refine RK.skip (guard_no rfl rfl hg5) ?_
    refine RK.skip (guard_no rfl rfl hg5) ?_
    refine RK.skip (guard_no rfl rfl hg5) ?_
    refine RK.skip (guard_no rfl rfl hg5) ?_
    refine RK.skip (guard_sk rfl rfl) ?_
    refine RK.skip (guard_sk rfl rfl) ?_
    refine RK.skip (guard_sk rfl rfl) ?_
    refine RK.skip (guard_sk rfl rfl) ?_
    refine RK.skip (guard_sk rfl rfl) ?_
    refine RK.skip (guard_no rfl rfl hg5) ?_
    refine RK.skip (guard_no rfl rfl hg5) ?_
    refine RK.skip (guard_sk rfl rfl) ?_
    refine RK.skip (guard_sk rfl rfl) ?_
    refine RK.skip (guard_sk rfl rfl) ?_
    refine RK.skip (guard_sk rfl rfl) ?_
    refine RK.skip (guard_sk rfl rfl) ?_
    refine RK.skip (guard_no rfl rfl hg5) ?_
    refine RK.V (op_pick_f rfl hg5 (rfl : _ = AV.p (.c _))) ?_
    refine RK.D ?_
    refine AWp_cond_false rfl rfl ?_
    refine AWp_skip ?_
    refine AWp_sr hP ?_
    refine RK.G2 hT rfl rfl rfl rfl rfl rfl ?_
    refine RK.M rfl ?_
    refine RK.V (Eff.call0 (p_Needs (madeB R g) (nameS i) (made_ok R g) (made_okD R g))) ?_
    refine RK.As rfl ?_
    refine RK.D ?_
    refine AWp_sr hP ?_
    refine RK.As rfl ?_
    refine RK.As rfl ?_
    refine RK.D ?_
    refine AWp_seq ?_
    refine AWp_sr hP ?_
    refine RK.As rfl ?_
    refine RK.D ?_
    refine AWp_block ?_
    refine AWp_len (t := 16) rfl rfl (fun hlb => ?_)
    refine AWp_loop (ι := Nat) (fun k => stL [(7, B true), (8, .loc 8 0), (9, Z (1 + ((x.2.2.toNat % 4 : Nat) : Int))), (10, .loc 10 0), (11, .loc 11 0), (12, .loc 12 0), (13, .p (.c (.v (.int .u8 ((i : Nat) : Int))))), (14, AS (nameS i)), (15, B (decide ((nameS i) ∈ cls (rFin (madeB R g))))), (16, .p (.c (SL enL (ndL (madeB R g).1 (nameS i))))), (17, B (((ndL (madeB R g).1 (nameS i)).take k).all (fun y : List Int => decide ((1 + ((x.2.2.toNat % 4 : Nat) : Int)) ∈ y)))), (18, B (((ndL (madeB R g).1 (nameS i)).take k).any (fun y : List Int => y.all fun n => decide (n ∈ (madeB R g).2)))), (19, Z (k : Int))] [(8, ⟨false, 1, 27, enBk (madeB R g)⟩), (10, ⟨false, 1, 42, [SL enD (addB (madeB R g) (oneD x)).1, SL enZ (addB (madeB R g) (oneD x)).2, .v (.int .i64 (addE (madeB R g) (oneD x)))]⟩), (11, ⟨false, 1, 42, [SL enD (grantB (madeB R g) (1 + ((x.2.2.toNat % 4 : Nat) : Int))).1, SL enZ (grantB (madeB R g) (1 + ((x.2.2.toNat % 4 : Nat) : Int))).2, .v (.int .i64 (grantE (1 + ((x.2.2.toNat % 4 : Nat) : Int))))]⟩), (12, ⟨false, 1, 42, [SL enD (withdrawB (madeB R g) (1 + ((x.2.2.toNat % 4 : Nat) : Int))).1, SL enZ (withdrawB (madeB R g) (1 + ((x.2.2.toNat % 4 : Nat) : Int))).2, .v (.int .i64 (grantE (1 + ((x.2.2.toNat % 4 : Nat) : Int))))]⟩)]) (fun k => k ≤ (ndL (madeB R g).1 (nameS i)).length) (fun k => (ndL (madeB R g).1 (nameS i)).length - k) 0 (Nat.zero_le _) (le_stL ⟨.refl _, .refl _, .refl _, .refl _, .refl _, .refl _, .refl _, .refl _, .refl _, .refl _, .refl _, .refl _, .refl _, trivial⟩ ⟨rfl, rfl, rfl, rfl, trivial⟩) ?_
    rintro k hk
    refine AWp_seq ?_
    refine AWp_sr hP ?_
    refine RK.M rfl ?_
    refine RK.M rfl ?_
    refine RK.V (op_len hT rfl rfl rfl (by rfl)) ?_
    refine RK.V (op_lss rfl rfl) ?_
    refine RK.D ?_
    refine AWp_cond rfl (fun hb20 => ?_) (fun hb20 => ?_)
    ·have hb20_ := of_decide_eq_true hb20
     refine AWp_skip ?_
     refine AWp_seq ?_
     refine AWp_block ?_
     refine AWp_sr hP ?_
     refine RK.M rfl ?_
     refine RK.M rfl ?_
     refine RK.split (t := 98) rfl (fun hg21 => ?_) (fun hg21 => ?_)
     ·have hqa := hg21
      refine RK.val (guard_yes rfl rfl hg21) (op_move (rfl : _ = AV.p (.c _))) ?_
      refine RK.val (guard_yes rfl rfl hg21) (op_move (rfl : _ = AV.p (.c _))) ?_
      refine RK.val (guard_yes rfl rfl hg21) (op_indexG hT enL_len (by decide) [] (n := (k : Int)) (l := (ndL (madeB R g).1 (nameS i))) rfl rfl rfl rfl rfl rfl (by omega)) ?_
      refine RK.val (guard_yes rfl rfl hg21) (op_load_ip_one hT rfl rfl rfl rfl) ?_
      refine RK.val (guard_yes rfl rfl hg21) (op_move (rfl : _ = AV.p (.c _))) ?_
      refine RK.val (guard_yes rfl rfl hg21) (Eff.call0 (p_rHas ((ndL (madeB R g).1 (nameS i)).getD k []) (1 + ((x.2.2.toNat % 4 : Nat) : Int)))) ?_
      refine RK.V (op_pick_t rfl hg21 (rfl : _ = AV.p (.c _))) ?_
      refine RK.As rfl ?_
      refine RK.D ?_
      refine AWp_region hP ?_
      refine RK.M rfl ?_
      refine RK.M rfl ?_
      refine RK.split (t := 107) rfl (fun hg22 => ?_) (fun hg22 => ?_)
      ·have hqo := hg22
       refine RK.skip (guard_no rfl rfl hg22) ?_
       refine RK.skip (guard_no rfl rfl hg22) ?_
       refine RK.skip (guard_no rfl rfl hg22) ?_
       refine RK.skip (guard_no rfl rfl hg22) ?_
       refine RK.skip (guard_no rfl rfl hg22) ?_
       refine RK.skip (guard_no rfl rfl hg22) ?_
       refine RK.skip (guard_no rfl rfl hg22) ?_
       refine RK.V (op_pick_t rfl hg22 (rfl : _ = AV.p (.c _))) ?_
       refine RK.As rfl ?_
       refine RK.D ?_
       refine AWp_region hP ?_
       refine RK.M rfl ?_
       refine RK.V (op_add rfl rfl (by first | exact IntWalk.i64_in _ (by omega) | rfl)) ?_
       refine RK.As rfl ?_
       refine RK.D ?_
       refine ⟨k + 1, by omega, by omega, le_stL ⟨.refl _, .refl _, .refl _, .refl _, .refl _, .refl _, .refl _, .refl _, .refl _, .refl _, Sub.bool (all_y [] (by omega) hqa), Sub.bool (any_y [] (by omega) hqo), Sub.int (by omega), trivial⟩ ⟨rfl, rfl, rfl, rfl, trivial⟩⟩
      ·have hqo := hg22
       refine RK.val (guard_yes rfl rfl hg22) (op_move (rfl : _ = AV.p (.c _))) ?_
       refine RK.val (guard_yes rfl rfl hg22) (op_move (rfl : _ = AV.p (.c _))) ?_
       refine RK.val (guard_yes rfl rfl hg22) (op_indexG hT enL_len (by decide) [] (n := (k : Int)) (l := (ndL (madeB R g).1 (nameS i))) rfl rfl rfl rfl rfl rfl (by omega)) ?_
       refine RK.val (guard_yes rfl rfl hg22) (op_load_ip_one hT rfl rfl rfl rfl) ?_
       refine RK.val (guard_yes rfl rfl hg22) (op_field_loc hT rfl rfl rfl rfl rfl rfl) ?_
       refine RK.val (guard_yes rfl rfl hg22) (op_load_one hT rfl rfl rfl rfl (by first | rfl | exact vget (by omega))) ?_
       refine RK.val (guard_yes rfl rfl hg22) (Eff.call0 (p_inside ((ndL (madeB R g).1 (nameS i)).getD k []) (madeB R g).2)) ?_
       refine RK.V (op_pick_f rfl hg22 (rfl : _ = AV.p (.c _))) ?_
       refine RK.As rfl ?_
       refine RK.D ?_
       refine AWp_region hP ?_
       refine RK.M rfl ?_
       refine RK.V (op_add rfl rfl (by first | exact IntWalk.i64_in _ (by omega) | rfl)) ?_
       refine RK.As rfl ?_
       refine RK.D ?_
       refine ⟨k + 1, by omega, by omega, le_stL ⟨.refl _, .refl _, .refl _, .refl _, .refl _, .refl _, .refl _, .refl _, .refl _, .refl _, Sub.bool (all_y [] (by omega) hqa), Sub.bool (any_n [] (by omega) hqo), Sub.int (by omega), trivial⟩ ⟨rfl, rfl, rfl, rfl, trivial⟩⟩
     ·have hqa := hg21
      refine RK.skip (guard_no rfl rfl hg21) ?_
      refine RK.skip (guard_no rfl rfl hg21) ?_
      refine RK.skip (guard_no rfl rfl hg21) ?_
      refine RK.skip (guard_no rfl rfl hg21) ?_
      refine RK.skip (guard_no rfl rfl hg21) ?_
      refine RK.skip (guard_no rfl rfl hg21) ?_
      refine RK.V (op_pick_f rfl hg21 (rfl : _ = AV.p (.c _))) ?_
      refine RK.As rfl ?_
      refine RK.D ?_
      refine AWp_region hP ?_
      refine RK.M rfl ?_
      refine RK.M rfl ?_
      refine RK.split (t := 107) rfl (fun hg23 => ?_) (fun hg23 => ?_)
      ·have hqo := hg23
       refine RK.skip (guard_no rfl rfl hg23) ?_
       refine RK.skip (guard_no rfl rfl hg23) ?_
       refine RK.skip (guard_no rfl rfl hg23) ?_
       refine RK.skip (guard_no rfl rfl hg23) ?_
       refine RK.skip (guard_no rfl rfl hg23) ?_
       refine RK.skip (guard_no rfl rfl hg23) ?_
       refine RK.skip (guard_no rfl rfl hg23) ?_
       refine RK.V (op_pick_t rfl hg23 (rfl : _ = AV.p (.c _))) ?_
       refine RK.As rfl ?_
       refine RK.D ?_
       refine AWp_region hP ?_
       refine RK.M rfl ?_
       refine RK.V (op_add rfl rfl (by first | exact IntWalk.i64_in _ (by omega) | rfl)) ?_
       refine RK.As rfl ?_
       refine RK.D ?_
       refine ⟨k + 1, by omega, by omega, le_stL ⟨.refl _, .refl _, .refl _, .refl _, .refl _, .refl _, .refl _, .refl _, .refl _, .refl _, Sub.bool (all_n [] (by omega) hqa), Sub.bool (any_y [] (by omega) hqo), Sub.int (by omega), trivial⟩ ⟨rfl, rfl, rfl, rfl, trivial⟩⟩
      ·have hqo := hg23
       refine RK.val (guard_yes rfl rfl hg23) (op_move (rfl : _ = AV.p (.c _))) ?_
       refine RK.val (guard_yes rfl rfl hg23) (op_move (rfl : _ = AV.p (.c _))) ?_
       refine RK.val (guard_yes rfl rfl hg23) (op_indexG hT enL_len (by decide) [] (n := (k : Int)) (l := (ndL (madeB R g).1 (nameS i))) rfl rfl rfl rfl rfl rfl (by omega)) ?_
       refine RK.val (guard_yes rfl rfl hg23) (op_load_ip_one hT rfl rfl rfl rfl) ?_
       refine RK.val (guard_yes rfl rfl hg23) (op_field_loc hT rfl rfl rfl rfl rfl rfl) ?_
       refine RK.val (guard_yes rfl rfl hg23) (op_load_one hT rfl rfl rfl rfl (by first | rfl | exact vget (by omega))) ?_
       refine RK.val (guard_yes rfl rfl hg23) (Eff.call0 (p_inside ((ndL (madeB R g).1 (nameS i)).getD k []) (madeB R g).2)) ?_
       refine RK.V (op_pick_f rfl hg23 (rfl : _ = AV.p (.c _))) ?_
       refine RK.As rfl ?_
       refine RK.D ?_
       refine AWp_region hP ?_
       refine RK.M rfl ?_
       refine RK.V (op_add rfl rfl (by first | exact IntWalk.i64_in _ (by omega) | rfl)) ?_
       refine RK.As rfl ?_
       refine RK.D ?_
       refine ⟨k + 1, by omega, by omega, le_stL ⟨.refl _, .refl _, .refl _, .refl _, .refl _, .refl _, .refl _, .refl _, .refl _, .refl _, Sub.bool (all_n [] (by omega) hqa), Sub.bool (any_n [] (by omega) hqo), Sub.int (by omega), trivial⟩ ⟨rfl, rfl, rfl, rfl, trivial⟩⟩
    ·have hb20_ := of_decide_eq_false hb20
     rw [List.take_of_length_le (by omega)]
     refine AWp_exit ?_
     refine AWp_sr hP ?_
     refine RK.M rfl ?_
     refine RK.M rfl ?_
     refine RK.V (op_bne hT rfl rfl rfl rfl) ?_
     refine RK.M rfl ?_
     refine RK.val (guard_yes rfl rfl (by rw [mono_one (made_ok R g)]; exact bne_self_eq_false' _)) (op_move (rfl : _ = AV.p (.c _))) ?_
     refine RK.val (guard_yes rfl rfl (by rw [mono_one (made_ok R g)]; exact bne_self_eq_false' _)) (op_move (rfl : _ = AV.p (.c _))) ?_
     refine RK.split (t := 121) rfl (fun hg25 => ?_) (fun hg25 => ?_)
     ·have hall := hg25
      refine RK.val (guard_yes rfl rfl hg25) (op_field_loc hT rfl rfl rfl rfl rfl rfl) ?_
      refine RK.val (guard_yes rfl rfl hg25) (op_load_agg hT rfl rfl rfl rfl (cs := [_, _]) rfl rfl) ?_
      refine RK.val (guard_yes rfl rfl hg25) (op_move (rfl : _ = AV.p (.c _))) ?_
      refine RK.val (guard_yes rfl rfl hg25) (Eff.call0 (p_Holds (withdrawB (madeB R g) (1 + ((x.2.2.toNat % 4 : Nat) : Int))) (nameS i) hok2 hok2D)) ?_
      refine RK.val (guard_yes rfl rfl (by rw [mono_one (made_ok R g)]; exact bne_self_eq_false' _)) (op_pick_t rfl hg25 (rfl : _ = AV.p (.c _))) ?_
      refine RK.V (op_pick_f rfl (by rw [mono_one (made_ok R g)]; exact bne_self_eq_false' _) (rfl : _ = AV.p (.c _))) ?_
      refine RK.D ?_
      refine AWp_cond_false rfl (mono_all (made_ok R g) hn hall) ?_
      refine AWp_skip ?_
      refine AWp_region hP ?_
      refine RK.M rfl ?_
      refine RK.V (op_add rfl rfl (by first | exact IntWalk.u8_in _ (by omega) | rfl)) ?_
      refine RK.As rfl ?_
      refine RK.D ?_
      refine ⟨i + 1, by omega, by omega, le_stL ⟨.refl _, .refl _, .refl _, .refl _, .refl _, .refl _, Sub.of_eq (by congr 4), trivial⟩ ⟨rfl, rfl, rfl, rfl, trivial⟩⟩
     ·refine RK.skip (guard_no rfl rfl hg25) ?_
      refine RK.skip (guard_no rfl rfl hg25) ?_
      refine RK.skip (guard_no rfl rfl hg25) ?_
      refine RK.skip (guard_no rfl rfl hg25) ?_
      refine RK.val (guard_yes rfl rfl (by rw [mono_one (made_ok R g)]; exact bne_self_eq_false' _)) (op_pick_f rfl hg25 (rfl : _ = AV.p (.c _))) ?_
      refine RK.V (op_pick_f rfl (by rw [mono_one (made_ok R g)]; exact bne_self_eq_false' _) (rfl : _ = AV.p (.c _))) ?_
      refine RK.D ?_
      refine AWp_cond_false rfl rfl ?_
      refine AWp_skip ?_
      refine AWp_region hP ?_
      refine RK.M rfl ?_
      refine RK.V (op_add rfl rfl (by first | exact IntWalk.u8_in _ (by omega) | rfl)) ?_
      refine RK.As rfl ?_
      refine RK.D ?_
      refine ⟨i + 1, by omega, by omega, le_stL ⟨.refl _, .refl _, .refl _, .refl _, .refl _, .refl _, Sub.of_eq (by congr 4), trivial⟩ ⟨rfl, rfl, rfl, rfl, trivial⟩⟩
  ·have hb4_ := of_decide_eq_false hb4
   refine AWp_exit ?_
   refine AWp_sr hP ?_
   refine RK.M rfl ?_
   refine RK.As rfl ?_
   refine RK.D ?_
   refine AWp_ret ?_
   refine ends_one rfl (.inr rfl) (res_tmp rfl) ?_ O_ends
   exact .refl _
 ·have hg3_ := bneF hg3
  refine RK.skip (guard_no rfl rfl hg3) ?_
  refine RK.skip (guard_no rfl rfl hg3) ?_
  refine RK.skip (guard_no rfl rfl hg3) ?_
  refine RK.val (guard_yes rfl rfl (by rw [hE]; rfl)) (op_pick_f rfl hg3 (rfl : _ = AV.p (.c _))) ?_
  refine RK.V (op_pick_f rfl (by rw [hE]; rfl) (rfl : _ = AV.p (.c _))) ?_
  refine RK.D ?_
  refine AWp_cond_false rfl rfl ?_
  refine AWp_skip ?_
  refine AWp_seq ?_
  refine AWp_sr hP ?_
  refine RK.As rfl ?_
  refine RK.D ?_
  refine AWp_block ?_
  refine AWp_loop (ι := Nat) (fun i => stL [(7, B true), (8, .loc 8 0), (9, Z (1 + ((x.2.2.toNat % 4 : Nat) : Int))), (10, .loc 10 0), (11, .loc 11 0), (12, .loc 12 0), (13, .p (.c (.v (.int .u8 ((i : Nat) : Int)))))] [(8, ⟨false, 1, 27, enBk (madeB R g)⟩), (10, ⟨false, 1, 42, [SL enD (addB (madeB R g) (oneD x)).1, SL enZ (addB (madeB R g) (oneD x)).2, .v (.int .i64 (addE (madeB R g) (oneD x)))]⟩), (11, ⟨false, 1, 42, [SL enD (grantB (madeB R g) (1 + ((x.2.2.toNat % 4 : Nat) : Int))).1, SL enZ (grantB (madeB R g) (1 + ((x.2.2.toNat % 4 : Nat) : Int))).2, .v (.int .i64 (grantE (1 + ((x.2.2.toNat % 4 : Nat) : Int))))]⟩), (12, ⟨false, 1, 42, [SL enD (withdrawB (madeB R g) (1 + ((x.2.2.toNat % 4 : Nat) : Int))).1, SL enZ (withdrawB (madeB R g) (1 + ((x.2.2.toNat % 4 : Nat) : Int))).2, .v (.int .i64 (grantE (1 + ((x.2.2.toNat % 4 : Nat) : Int))))]⟩)]) (fun i => i ≤ 8) (fun i => 8 - i) 0 (Nat.zero_le _) (le_stL ⟨.refl _, .refl _, .refl _, .refl _, .refl _, .refl _, .refl _, trivial⟩ ⟨rfl, rfl, rfl, rfl, trivial⟩) ?_
  rintro i hi
  refine AWp_seq ?_
  refine AWp_sr hP ?_
  refine RK.M rfl ?_
  refine RK.V (op_lss rfl rfl) ?_
  refine RK.D ?_
  refine AWp_cond rfl (fun hb26 => ?_) (fun hb26 => ?_)
  ·have hb26_ := of_decide_eq_true hb26
   refine AWp_skip ?_
   refine AWp_seq ?_
   refine AWp_block ?_
   refine AWp_sr hP ?_
   refine RK.M rfl ?_
   refine RK.V (Eff.call0 (p_Name i)) ?_
   refine RK.As rfl ?_
   refine RK.D ?_
   refine AWp_sr hP ?_
   refine RK.G2 hT rfl rfl rfl rfl rfl rfl ?_
   refine RK.M rfl ?_
   refine RK.V (Eff.call0 (p_Holds (madeB R g) (nameS i) (made_ok R g) (made_okD R g))) ?_
   refine RK.As rfl ?_
   refine RK.D ?_
   refine AWp_seq ?_
   refine AWp_sr hP ?_
   refine RK.M rfl ?_
   refine RK.M rfl ?_
   refine RK.split (t := 69) rfl (fun hg27 => ?_) (fun hg27 => ?_)
   ·have hho := hg27
    refine RK.val (guard_yes rfl rfl hg27) (op_field_loc hT rfl rfl rfl rfl rfl rfl) ?_
    refine RK.val (guard_yes rfl rfl hg27) (op_load_one hT rfl rfl rfl rfl (by first | rfl | exact vget (by omega))) ?_
    refine RK.val (guard_yes rfl rfl hg27) (op_eql rfl rfl) ?_
    refine RK.val (guard_yes rfl rfl hg27) (op_move (rfl : _ = AV.p (.c _))) ?_
    refine RK.split (t := 73) rfl (fun hg28 => ?_) (fun hg28 => ?_)
    ·have hg28_ := bT hg28
     have hadd : (addE (madeB R g) (oneD x)) = 0 := bT hg28
     refine RK.val (guard_yes rfl rfl hg28) (op_field_loc hT rfl rfl rfl rfl rfl rfl) ?_
     refine RK.val (guard_yes rfl rfl hg28) (op_load_agg hT rfl rfl rfl rfl (cs := [_, _]) rfl rfl) ?_
     refine RK.val (guard_yes rfl rfl hg28) (op_move (rfl : _ = AV.p (.c _))) ?_
     refine RK.val (guard_yes rfl rfl hg28) (Eff.call0 (p_Holds (addB (madeB R g) (oneD x)) (nameS i) (add_ok (made_ok R g)) (add_okD (one_right x) (made_okD R g)))) ?_
     refine RK.val (guard_yes rfl rfl hg28) (op_unot rfl) ?_
     refine RK.val (guard_yes rfl rfl hg27) (op_pick_t rfl hg28 (rfl : _ = AV.p (.c _))) ?_
     refine RK.val (guard_yes rfl rfl hg27) (op_move (rfl : _ = AV.p (.c _))) ?_
     refine RK.val (guard_yes rfl rfl (congrArg not (mono_add hadd hho))) (op_field_loc hT rfl rfl rfl rfl rfl rfl) ?_
     refine RK.val (guard_yes rfl rfl (congrArg not (mono_add hadd hho))) (op_load_agg hT rfl rfl rfl rfl (cs := [_, _]) rfl rfl) ?_
     refine RK.val (guard_yes rfl rfl (congrArg not (mono_add hadd hho))) (op_move (rfl : _ = AV.p (.c _))) ?_
     refine RK.val (guard_yes rfl rfl (congrArg not (mono_add hadd hho))) (Eff.call0 (p_Holds (grantB (madeB R g) (1 + ((x.2.2.toNat % 4 : Nat) : Int))) (nameS i) hok1 hok1D)) ?_
     refine RK.val (guard_yes rfl rfl (congrArg not (mono_add hadd hho))) (op_unot rfl) ?_
     refine RK.val (guard_yes rfl rfl hg27) (op_pick_f rfl (congrArg not (mono_add hadd hho)) (rfl : _ = AV.p (.c _))) ?_
     refine RK.V (op_pick_t rfl hg27 (rfl : _ = AV.p (.c _))) ?_
     refine RK.D ?_
     refine AWp_cond_false rfl (congrArg not (mono_grant (made_ok R g) hn hho)) ?_
     refine AWp_skip ?_
     refine AWp_sr hP ?_
     refine RK.G2 hT rfl rfl rfl rfl rfl rfl ?_
     refine RK.M rfl ?_
     refine RK.V (Eff.call0 (p_Needs (madeB R g) (nameS i) (made_ok R g) (made_okD R g))) ?_
     refine RK.As rfl ?_
     refine RK.D ?_
     refine AWp_sr hP ?_
     refine RK.As rfl ?_
     refine RK.As rfl ?_
     refine RK.D ?_
     refine AWp_seq ?_
     refine AWp_sr hP ?_
     refine RK.As rfl ?_
     refine RK.D ?_
     refine AWp_block ?_
     refine AWp_len (t := 16) rfl rfl (fun hlb => ?_)
     refine AWp_loop (ι := Nat) (fun k => stL [(7, B true), (8, .loc 8 0), (9, Z (1 + ((x.2.2.toNat % 4 : Nat) : Int))), (10, .loc 10 0), (11, .loc 11 0), (12, .loc 12 0), (13, .p (.c (.v (.int .u8 ((i : Nat) : Int))))), (14, AS (nameS i)), (15, B (decide ((nameS i) ∈ cls (rFin (madeB R g))))), (16, .p (.c (SL enL (ndL (madeB R g).1 (nameS i))))), (17, B (((ndL (madeB R g).1 (nameS i)).take k).all (fun y : List Int => decide ((1 + ((x.2.2.toNat % 4 : Nat) : Int)) ∈ y)))), (18, B (((ndL (madeB R g).1 (nameS i)).take k).any (fun y : List Int => y.all fun n => decide (n ∈ (madeB R g).2)))), (19, Z (k : Int))] [(8, ⟨false, 1, 27, enBk (madeB R g)⟩), (10, ⟨false, 1, 42, [SL enD (addB (madeB R g) (oneD x)).1, SL enZ (addB (madeB R g) (oneD x)).2, .v (.int .i64 (addE (madeB R g) (oneD x)))]⟩), (11, ⟨false, 1, 42, [SL enD (grantB (madeB R g) (1 + ((x.2.2.toNat % 4 : Nat) : Int))).1, SL enZ (grantB (madeB R g) (1 + ((x.2.2.toNat % 4 : Nat) : Int))).2, .v (.int .i64 (grantE (1 + ((x.2.2.toNat % 4 : Nat) : Int))))]⟩), (12, ⟨false, 1, 42, [SL enD (withdrawB (madeB R g) (1 + ((x.2.2.toNat % 4 : Nat) : Int))).1, SL enZ (withdrawB (madeB R g) (1 + ((x.2.2.toNat % 4 : Nat) : Int))).2, .v (.int .i64 (grantE (1 + ((x.2.2.toNat % 4 : Nat) : Int))))]⟩)]) (fun k => k ≤ (ndL (madeB R g).1 (nameS i)).length) (fun k => (ndL (madeB R g).1 (nameS i)).length - k) 0 (Nat.zero_le _) (le_stL ⟨.refl _, .refl _, .refl _, .refl _, .refl _, .refl _, .refl _, .refl _, .refl _, .refl _, .refl _, .refl _, .refl _, trivial⟩ ⟨rfl, rfl, rfl, rfl, trivial⟩) ?_
     rintro k hk
     refine AWp_seq ?_
     refine AWp_sr hP ?_
     refine RK.M rfl ?_
     refine RK.M rfl ?_
     refine RK.V (op_len hT rfl rfl rfl (by rfl)) ?_
     refine RK.V (op_lss rfl rfl) ?_
     refine RK.D ?_
     refine AWp_cond rfl (fun hb30 => ?_) (fun hb30 => ?_)
     ·have hb30_ := of_decide_eq_true hb30
      refine AWp_skip ?_
      refine AWp_seq ?_
      refine AWp_block ?_
      refine AWp_sr hP ?_
      refine RK.M rfl ?_
      refine RK.M rfl ?_
      refine RK.split (t := 98) rfl (fun hg31 => ?_) (fun hg31 => ?_)
      ·have hqa := hg31
       refine RK.val (guard_yes rfl rfl hg31) (op_move (rfl : _ = AV.p (.c _))) ?_
       refine RK.val (guard_yes rfl rfl hg31) (op_move (rfl : _ = AV.p (.c _))) ?_
       refine RK.val (guard_yes rfl rfl hg31) (op_indexG hT enL_len (by decide) [] (n := (k : Int)) (l := (ndL (madeB R g).1 (nameS i))) rfl rfl rfl rfl rfl rfl (by omega)) ?_
       refine RK.val (guard_yes rfl rfl hg31) (op_load_ip_one hT rfl rfl rfl rfl) ?_
       refine RK.val (guard_yes rfl rfl hg31) (op_move (rfl : _ = AV.p (.c _))) ?_
       refine RK.val (guard_yes rfl rfl hg31) (Eff.call0 (p_rHas ((ndL (madeB R g).1 (nameS i)).getD k []) (1 + ((x.2.2.toNat % 4 : Nat) : Int)))) ?_
       refine RK.V (op_pick_t rfl hg31 (rfl : _ = AV.p (.c _))) ?_
       refine RK.As rfl ?_
       refine RK.D ?_
       refine AWp_region hP ?_
       refine RK.M rfl ?_
       refine RK.M rfl ?_
       refine RK.split (t := 107) rfl (fun hg32 => ?_) (fun hg32 => ?_)
       ·have hqo := hg32
        refine RK.skip (guard_no rfl rfl hg32) ?_
        refine RK.skip (guard_no rfl rfl hg32) ?_
        refine RK.skip (guard_no rfl rfl hg32) ?_
        refine RK.skip (guard_no rfl rfl hg32) ?_
        refine RK.skip (guard_no rfl rfl hg32) ?_
        refine RK.skip (guard_no rfl rfl hg32) ?_
        refine RK.skip (guard_no rfl rfl hg32) ?_
        refine RK.V (op_pick_t rfl hg32 (rfl : _ = AV.p (.c _))) ?_
        refine RK.As rfl ?_
        refine RK.D ?_
        refine AWp_region hP ?_
        refine RK.M rfl ?_
        refine RK.V (op_add rfl rfl (by first | exact IntWalk.i64_in _ (by omega) | rfl)) ?_
        refine RK.As rfl ?_
        refine RK.D ?_
        refine ⟨k + 1, by omega, by omega, le_stL ⟨.refl _, .refl _, .refl _, .refl _, .refl _, .refl _, .refl _, .refl _, .refl _, .refl _, Sub.bool (all_y [] (by omega) hqa), Sub.bool (any_y [] (by omega) hqo), Sub.int (by omega), trivial⟩ ⟨rfl, rfl, rfl, rfl, trivial⟩⟩
       ·have hqo := hg32
        refine RK.val (guard_yes rfl rfl hg32) (op_move (rfl : _ = AV.p (.c _))) ?_
        refine RK.val (guard_yes rfl rfl hg32) (op_move (rfl : _ = AV.p (.c _))) ?_
        refine RK.val (guard_yes rfl rfl hg32) (op_indexG hT enL_len (by decide) [] (n := (k : Int)) (l := (ndL (madeB R g).1 (nameS i))) rfl rfl rfl rfl rfl rfl (by omega)) ?_
        refine RK.val (guard_yes rfl rfl hg32) (op_load_ip_one hT rfl rfl rfl rfl) ?_
        refine RK.val (guard_yes rfl rfl hg32) (op_field_loc hT rfl rfl rfl rfl rfl rfl) ?_
        refine RK.val (guard_yes rfl rfl hg32) (op_load_one hT rfl rfl rfl rfl (by first | rfl | exact vget (by omega))) ?_
        refine RK.val (guard_yes rfl rfl hg32) (Eff.call0 (p_inside ((ndL (madeB R g).1 (nameS i)).getD k []) (madeB R g).2)) ?_
        refine RK.V (op_pick_f rfl hg32 (rfl : _ = AV.p (.c _))) ?_
        refine RK.As rfl ?_
        refine RK.D ?_
        refine AWp_region hP ?_
        refine RK.M rfl ?_
        refine RK.V (op_add rfl rfl (by first | exact IntWalk.i64_in _ (by omega) | rfl)) ?_
        refine RK.As rfl ?_
        refine RK.D ?_
        refine ⟨k + 1, by omega, by omega, le_stL ⟨.refl _, .refl _, .refl _, .refl _, .refl _, .refl _, .refl _, .refl _, .refl _, .refl _, Sub.bool (all_y [] (by omega) hqa), Sub.bool (any_n [] (by omega) hqo), Sub.int (by omega), trivial⟩ ⟨rfl, rfl, rfl, rfl, trivial⟩⟩
      ·have hqa := hg31
       refine RK.skip (guard_no rfl rfl hg31) ?_
       refine RK.skip (guard_no rfl rfl hg31) ?_
       refine RK.skip (guard_no rfl rfl hg31) ?_
       refine RK.skip (guard_no rfl rfl hg31) ?_
       refine RK.skip (guard_no rfl rfl hg31) ?_
       refine RK.skip (guard_no rfl rfl hg31) ?_
       refine RK.V (op_pick_f rfl hg31 (rfl : _ = AV.p (.c _))) ?_
       refine RK.As rfl ?_
       refine RK.D ?_
       refine AWp_region hP ?_
       refine RK.M rfl ?_
       refine RK.M rfl ?_
       refine RK.split (t := 107) rfl (fun hg33 => ?_) (fun hg33 => ?_)
       ·have hqo := hg33
        refine RK.skip (guard_no rfl rfl hg33) ?_
        refine RK.skip (guard_no rfl rfl hg33) ?_
        refine RK.skip (guard_no rfl rfl hg33) ?_
        refine RK.skip (guard_no rfl rfl hg33) ?_
        refine RK.skip (guard_no rfl rfl hg33) ?_
        refine RK.skip (guard_no rfl rfl hg33) ?_
        refine RK.skip (guard_no rfl rfl hg33) ?_
        refine RK.V (op_pick_t rfl hg33 (rfl : _ = AV.p (.c _))) ?_
        refine RK.As rfl ?_
        refine RK.D ?_
        refine AWp_region hP ?_
        refine RK.M rfl ?_
        refine RK.V (op_add rfl rfl (by first | exact IntWalk.i64_in _ (by omega) | rfl)) ?_
        refine RK.As rfl ?_
        refine RK.D ?_
        refine ⟨k + 1, by omega, by omega, le_stL ⟨.refl _, .refl _, .refl _, .refl _, .refl _, .refl _, .refl _, .refl _, .refl _, .refl _, Sub.bool (all_n [] (by omega) hqa), Sub.bool (any_y [] (by omega) hqo), Sub.int (by omega), trivial⟩ ⟨rfl, rfl, rfl, rfl, trivial⟩⟩
       ·have hqo := hg33
        refine RK.val (guard_yes rfl rfl hg33) (op_move (rfl : _ = AV.p (.c _))) ?_
        refine RK.val (guard_yes rfl rfl hg33) (op_move (rfl : _ = AV.p (.c _))) ?_
        refine RK.val (guard_yes rfl rfl hg33) (op_indexG hT enL_len (by decide) [] (n := (k : Int)) (l := (ndL (madeB R g).1 (nameS i))) rfl rfl rfl rfl rfl rfl (by omega)) ?_
        refine RK.val (guard_yes rfl rfl hg33) (op_load_ip_one hT rfl rfl rfl rfl) ?_
        refine RK.val (guard_yes rfl rfl hg33) (op_field_loc hT rfl rfl rfl rfl rfl rfl) ?_
        refine RK.val (guard_yes rfl rfl hg33) (op_load_one hT rfl rfl rfl rfl (by first | rfl | exact vget (by omega))) ?_
        refine RK.val (guard_yes rfl rfl hg33) (Eff.call0 (p_inside ((ndL (madeB R g).1 (nameS i)).getD k []) (madeB R g).2)) ?_
        refine RK.V (op_pick_f rfl hg33 (rfl : _ = AV.p (.c _))) ?_
        refine RK.As rfl ?_
        refine RK.D ?_
        refine AWp_region hP ?_
        refine RK.M rfl ?_
        refine RK.V (op_add rfl rfl (by first | exact IntWalk.i64_in _ (by omega) | rfl)) ?_
        refine RK.As rfl ?_
        refine RK.D ?_
        refine ⟨k + 1, by omega, by omega, le_stL ⟨.refl _, .refl _, .refl _, .refl _, .refl _, .refl _, .refl _, .refl _, .refl _, .refl _, Sub.bool (all_n [] (by omega) hqa), Sub.bool (any_n [] (by omega) hqo), Sub.int (by omega), trivial⟩ ⟨rfl, rfl, rfl, rfl, trivial⟩⟩
     ·have hb30_ := of_decide_eq_false hb30
      rw [List.take_of_length_le (by omega)]
      refine AWp_exit ?_
      refine AWp_sr hP ?_
      refine RK.M rfl ?_
      refine RK.M rfl ?_
      refine RK.V (op_bne hT rfl rfl rfl rfl) ?_
      refine RK.M rfl ?_
      refine RK.val (guard_yes rfl rfl (by rw [mono_one (made_ok R g)]; exact bne_self_eq_false' _)) (op_move (rfl : _ = AV.p (.c _))) ?_
      refine RK.val (guard_yes rfl rfl (by rw [mono_one (made_ok R g)]; exact bne_self_eq_false' _)) (op_move (rfl : _ = AV.p (.c _))) ?_
      refine RK.split (t := 121) rfl (fun hg35 => ?_) (fun hg35 => ?_)
      ·have hall := hg35
       refine RK.val (guard_yes rfl rfl hg35) (op_field_loc hT rfl rfl rfl rfl rfl rfl) ?_
       refine RK.val (guard_yes rfl rfl hg35) (op_load_agg hT rfl rfl rfl rfl (cs := [_, _]) rfl rfl) ?_
       refine RK.val (guard_yes rfl rfl hg35) (op_move (rfl : _ = AV.p (.c _))) ?_
       refine RK.val (guard_yes rfl rfl hg35) (Eff.call0 (p_Holds (withdrawB (madeB R g) (1 + ((x.2.2.toNat % 4 : Nat) : Int))) (nameS i) hok2 hok2D)) ?_
       refine RK.val (guard_yes rfl rfl (by rw [mono_one (made_ok R g)]; exact bne_self_eq_false' _)) (op_pick_t rfl hg35 (rfl : _ = AV.p (.c _))) ?_
       refine RK.V (op_pick_f rfl (by rw [mono_one (made_ok R g)]; exact bne_self_eq_false' _) (rfl : _ = AV.p (.c _))) ?_
       refine RK.D ?_
       refine AWp_cond_false rfl (mono_all (made_ok R g) hn hall) ?_
       refine AWp_skip ?_
       refine AWp_region hP ?_
       refine RK.M rfl ?_
       refine RK.V (op_add rfl rfl (by first | exact IntWalk.u8_in _ (by omega) | rfl)) ?_
       refine RK.As rfl ?_
       refine RK.D ?_
       refine ⟨i + 1, by omega, by omega, le_stL ⟨.refl _, .refl _, .refl _, .refl _, .refl _, .refl _, Sub.of_eq (by congr 4), trivial⟩ ⟨rfl, rfl, rfl, rfl, trivial⟩⟩
      ·refine RK.skip (guard_no rfl rfl hg35) ?_
       refine RK.skip (guard_no rfl rfl hg35) ?_
       refine RK.skip (guard_no rfl rfl hg35) ?_
       refine RK.skip (guard_no rfl rfl hg35) ?_
       refine RK.val (guard_yes rfl rfl (by rw [mono_one (made_ok R g)]; exact bne_self_eq_false' _)) (op_pick_f rfl hg35 (rfl : _ = AV.p (.c _))) ?_
       refine RK.V (op_pick_f rfl (by rw [mono_one (made_ok R g)]; exact bne_self_eq_false' _) (rfl : _ = AV.p (.c _))) ?_
       refine RK.D ?_
       refine AWp_cond_false rfl rfl ?_
       refine AWp_skip ?_
       refine AWp_region hP ?_
       refine RK.M rfl ?_
       refine RK.V (op_add rfl rfl (by first | exact IntWalk.u8_in _ (by omega) | rfl)) ?_
       refine RK.As rfl ?_
       refine RK.D ?_
       refine ⟨i + 1, by omega, by omega, le_stL ⟨.refl _, .refl _, .refl _, .refl _, .refl _, .refl _, Sub.of_eq (by congr 4), trivial⟩ ⟨rfl, rfl, rfl, rfl, trivial⟩⟩
    ·have hg28_ := bF hg28
     refine RK.skip (guard_no rfl rfl hg28) ?_
     refine RK.skip (guard_no rfl rfl hg28) ?_
     refine RK.skip (guard_no rfl rfl hg28) ?_
     refine RK.skip (guard_no rfl rfl hg28) ?_
     refine RK.skip (guard_no rfl rfl hg28) ?_
     refine RK.val (guard_yes rfl rfl hg27) (op_pick_f rfl hg28 (rfl : _ = AV.p (.c _))) ?_
     refine RK.val (guard_yes rfl rfl hg27) (op_move (rfl : _ = AV.p (.c _))) ?_
     refine RK.val (guard_yes rfl rfl rfl) (op_field_loc hT rfl rfl rfl rfl rfl rfl) ?_
     refine RK.val (guard_yes rfl rfl rfl) (op_load_agg hT rfl rfl rfl rfl (cs := [_, _]) rfl rfl) ?_
     refine RK.val (guard_yes rfl rfl rfl) (op_move (rfl : _ = AV.p (.c _))) ?_
     refine RK.val (guard_yes rfl rfl rfl) (Eff.call0 (p_Holds (grantB (madeB R g) (1 + ((x.2.2.toNat % 4 : Nat) : Int))) (nameS i) hok1 hok1D)) ?_
     refine RK.val (guard_yes rfl rfl rfl) (op_unot rfl) ?_
     refine RK.val (guard_yes rfl rfl hg27) (op_pick_f rfl rfl (rfl : _ = AV.p (.c _))) ?_
     refine RK.V (op_pick_t rfl hg27 (rfl : _ = AV.p (.c _))) ?_
     refine RK.D ?_
     refine AWp_cond_false rfl (congrArg not (mono_grant (made_ok R g) hn hho)) ?_
     refine AWp_skip ?_
     refine AWp_sr hP ?_
     refine RK.G2 hT rfl rfl rfl rfl rfl rfl ?_
     refine RK.M rfl ?_
     refine RK.V (Eff.call0 (p_Needs (madeB R g) (nameS i) (made_ok R g) (made_okD R g))) ?_
     refine RK.As rfl ?_
     refine RK.D ?_
     refine AWp_sr hP ?_
     refine RK.As rfl ?_
     refine RK.As rfl ?_
     refine RK.D ?_
     refine AWp_seq ?_
     refine AWp_sr hP ?_
     refine RK.As rfl ?_
     refine RK.D ?_
     refine AWp_block ?_
     refine AWp_len (t := 16) rfl rfl (fun hlb => ?_)
     refine AWp_loop (ι := Nat) (fun k => stL [(7, B true), (8, .loc 8 0), (9, Z (1 + ((x.2.2.toNat % 4 : Nat) : Int))), (10, .loc 10 0), (11, .loc 11 0), (12, .loc 12 0), (13, .p (.c (.v (.int .u8 ((i : Nat) : Int))))), (14, AS (nameS i)), (15, B (decide ((nameS i) ∈ cls (rFin (madeB R g))))), (16, .p (.c (SL enL (ndL (madeB R g).1 (nameS i))))), (17, B (((ndL (madeB R g).1 (nameS i)).take k).all (fun y : List Int => decide ((1 + ((x.2.2.toNat % 4 : Nat) : Int)) ∈ y)))), (18, B (((ndL (madeB R g).1 (nameS i)).take k).any (fun y : List Int => y.all fun n => decide (n ∈ (madeB R g).2)))), (19, Z (k : Int))] [(8, ⟨false, 1, 27, enBk (madeB R g)⟩), (10, ⟨false, 1, 42, [SL enD (addB (madeB R g) (oneD x)).1, SL enZ (addB (madeB R g) (oneD x)).2, .v (.int .i64 (addE (madeB R g) (oneD x)))]⟩), (11, ⟨false, 1, 42, [SL enD (grantB (madeB R g) (1 + ((x.2.2.toNat % 4 : Nat) : Int))).1, SL enZ (grantB (madeB R g) (1 + ((x.2.2.toNat % 4 : Nat) : Int))).2, .v (.int .i64 (grantE (1 + ((x.2.2.toNat % 4 : Nat) : Int))))]⟩), (12, ⟨false, 1, 42, [SL enD (withdrawB (madeB R g) (1 + ((x.2.2.toNat % 4 : Nat) : Int))).1, SL enZ (withdrawB (madeB R g) (1 + ((x.2.2.toNat % 4 : Nat) : Int))).2, .v (.int .i64 (grantE (1 + ((x.2.2.toNat % 4 : Nat) : Int))))]⟩)]) (fun k => k ≤ (ndL (madeB R g).1 (nameS i)).length) (fun k => (ndL (madeB R g).1 (nameS i)).length - k) 0 (Nat.zero_le _) (le_stL ⟨.refl _, .refl _, .refl _, .refl _, .refl _, .refl _, .refl _, .refl _, .refl _, .refl _, .refl _, .refl _, .refl _, trivial⟩ ⟨rfl, rfl, rfl, rfl, trivial⟩) ?_
     rintro k hk
     refine AWp_seq ?_
     refine AWp_sr hP ?_
     refine RK.M rfl ?_
     refine RK.M rfl ?_
     refine RK.V (op_len hT rfl rfl rfl (by rfl)) ?_
     refine RK.V (op_lss rfl rfl) ?_
     refine RK.D ?_
     refine AWp_cond rfl (fun hb36 => ?_) (fun hb36 => ?_)
     ·have hb36_ := of_decide_eq_true hb36
      refine AWp_skip ?_
      refine AWp_seq ?_
      refine AWp_block ?_
      refine AWp_sr hP ?_
      refine RK.M rfl ?_
      refine RK.M rfl ?_
      refine RK.split (t := 98) rfl (fun hg37 => ?_) (fun hg37 => ?_)
      ·have hqa := hg37
       refine RK.val (guard_yes rfl rfl hg37) (op_move (rfl : _ = AV.p (.c _))) ?_
       refine RK.val (guard_yes rfl rfl hg37) (op_move (rfl : _ = AV.p (.c _))) ?_
       refine RK.val (guard_yes rfl rfl hg37) (op_indexG hT enL_len (by decide) [] (n := (k : Int)) (l := (ndL (madeB R g).1 (nameS i))) rfl rfl rfl rfl rfl rfl (by omega)) ?_
       refine RK.val (guard_yes rfl rfl hg37) (op_load_ip_one hT rfl rfl rfl rfl) ?_
       refine RK.val (guard_yes rfl rfl hg37) (op_move (rfl : _ = AV.p (.c _))) ?_
       refine RK.val (guard_yes rfl rfl hg37) (Eff.call0 (p_rHas ((ndL (madeB R g).1 (nameS i)).getD k []) (1 + ((x.2.2.toNat % 4 : Nat) : Int)))) ?_
       refine RK.V (op_pick_t rfl hg37 (rfl : _ = AV.p (.c _))) ?_
       refine RK.As rfl ?_
       refine RK.D ?_
       refine AWp_region hP ?_
       refine RK.M rfl ?_
       refine RK.M rfl ?_
       refine RK.split (t := 107) rfl (fun hg38 => ?_) (fun hg38 => ?_)
       ·have hqo := hg38
        refine RK.skip (guard_no rfl rfl hg38) ?_
        refine RK.skip (guard_no rfl rfl hg38) ?_
        refine RK.skip (guard_no rfl rfl hg38) ?_
        refine RK.skip (guard_no rfl rfl hg38) ?_
        refine RK.skip (guard_no rfl rfl hg38) ?_
        refine RK.skip (guard_no rfl rfl hg38) ?_
        refine RK.skip (guard_no rfl rfl hg38) ?_
        refine RK.V (op_pick_t rfl hg38 (rfl : _ = AV.p (.c _))) ?_
        refine RK.As rfl ?_
        refine RK.D ?_
        refine AWp_region hP ?_
        refine RK.M rfl ?_
        refine RK.V (op_add rfl rfl (by first | exact IntWalk.i64_in _ (by omega) | rfl)) ?_
        refine RK.As rfl ?_
        refine RK.D ?_
        refine ⟨k + 1, by omega, by omega, le_stL ⟨.refl _, .refl _, .refl _, .refl _, .refl _, .refl _, .refl _, .refl _, .refl _, .refl _, Sub.bool (all_y [] (by omega) hqa), Sub.bool (any_y [] (by omega) hqo), Sub.int (by omega), trivial⟩ ⟨rfl, rfl, rfl, rfl, trivial⟩⟩
       ·have hqo := hg38
        refine RK.val (guard_yes rfl rfl hg38) (op_move (rfl : _ = AV.p (.c _))) ?_
        refine RK.val (guard_yes rfl rfl hg38) (op_move (rfl : _ = AV.p (.c _))) ?_
        refine RK.val (guard_yes rfl rfl hg38) (op_indexG hT enL_len (by decide) [] (n := (k : Int)) (l := (ndL (madeB R g).1 (nameS i))) rfl rfl rfl rfl rfl rfl (by omega)) ?_
        refine RK.val (guard_yes rfl rfl hg38) (op_load_ip_one hT rfl rfl rfl rfl) ?_
        refine RK.val (guard_yes rfl rfl hg38) (op_field_loc hT rfl rfl rfl rfl rfl rfl) ?_
        refine RK.val (guard_yes rfl rfl hg38) (op_load_one hT rfl rfl rfl rfl (by first | rfl | exact vget (by omega))) ?_
        refine RK.val (guard_yes rfl rfl hg38) (Eff.call0 (p_inside ((ndL (madeB R g).1 (nameS i)).getD k []) (madeB R g).2)) ?_
        refine RK.V (op_pick_f rfl hg38 (rfl : _ = AV.p (.c _))) ?_
        refine RK.As rfl ?_
        refine RK.D ?_
        refine AWp_region hP ?_
        refine RK.M rfl ?_
        refine RK.V (op_add rfl rfl (by first | exact IntWalk.i64_in _ (by omega) | rfl)) ?_
        refine RK.As rfl ?_
        refine RK.D ?_
        refine ⟨k + 1, by omega, by omega, le_stL ⟨.refl _, .refl _, .refl _, .refl _, .refl _, .refl _, .refl _, .refl _, .refl _, .refl _, Sub.bool (all_y [] (by omega) hqa), Sub.bool (any_n [] (by omega) hqo), Sub.int (by omega), trivial⟩ ⟨rfl, rfl, rfl, rfl, trivial⟩⟩
      ·have hqa := hg37
       refine RK.skip (guard_no rfl rfl hg37) ?_
       refine RK.skip (guard_no rfl rfl hg37) ?_
       refine RK.skip (guard_no rfl rfl hg37) ?_
       refine RK.skip (guard_no rfl rfl hg37) ?_
       refine RK.skip (guard_no rfl rfl hg37) ?_
       refine RK.skip (guard_no rfl rfl hg37) ?_
       refine RK.V (op_pick_f rfl hg37 (rfl : _ = AV.p (.c _))) ?_
       refine RK.As rfl ?_
       refine RK.D ?_
       refine AWp_region hP ?_
       refine RK.M rfl ?_
       refine RK.M rfl ?_
       refine RK.split (t := 107) rfl (fun hg39 => ?_) (fun hg39 => ?_)
       ·have hqo := hg39
        refine RK.skip (guard_no rfl rfl hg39) ?_
        refine RK.skip (guard_no rfl rfl hg39) ?_
        refine RK.skip (guard_no rfl rfl hg39) ?_
        refine RK.skip (guard_no rfl rfl hg39) ?_
        refine RK.skip (guard_no rfl rfl hg39) ?_
        refine RK.skip (guard_no rfl rfl hg39) ?_
        refine RK.skip (guard_no rfl rfl hg39) ?_
        refine RK.V (op_pick_t rfl hg39 (rfl : _ = AV.p (.c _))) ?_
        refine RK.As rfl ?_
        refine RK.D ?_
        refine AWp_region hP ?_
        refine RK.M rfl ?_
        refine RK.V (op_add rfl rfl (by first | exact IntWalk.i64_in _ (by omega) | rfl)) ?_
        refine RK.As rfl ?_
        refine RK.D ?_
        refine ⟨k + 1, by omega, by omega, le_stL ⟨.refl _, .refl _, .refl _, .refl _, .refl _, .refl _, .refl _, .refl _, .refl _, .refl _, Sub.bool (all_n [] (by omega) hqa), Sub.bool (any_y [] (by omega) hqo), Sub.int (by omega), trivial⟩ ⟨rfl, rfl, rfl, rfl, trivial⟩⟩
       ·have hqo := hg39
        refine RK.val (guard_yes rfl rfl hg39) (op_move (rfl : _ = AV.p (.c _))) ?_
        refine RK.val (guard_yes rfl rfl hg39) (op_move (rfl : _ = AV.p (.c _))) ?_
        refine RK.val (guard_yes rfl rfl hg39) (op_indexG hT enL_len (by decide) [] (n := (k : Int)) (l := (ndL (madeB R g).1 (nameS i))) rfl rfl rfl rfl rfl rfl (by omega)) ?_
        refine RK.val (guard_yes rfl rfl hg39) (op_load_ip_one hT rfl rfl rfl rfl) ?_
        refine RK.val (guard_yes rfl rfl hg39) (op_field_loc hT rfl rfl rfl rfl rfl rfl) ?_
        refine RK.val (guard_yes rfl rfl hg39) (op_load_one hT rfl rfl rfl rfl (by first | rfl | exact vget (by omega))) ?_
        refine RK.val (guard_yes rfl rfl hg39) (Eff.call0 (p_inside ((ndL (madeB R g).1 (nameS i)).getD k []) (madeB R g).2)) ?_
        refine RK.V (op_pick_f rfl hg39 (rfl : _ = AV.p (.c _))) ?_
        refine RK.As rfl ?_
        refine RK.D ?_
        refine AWp_region hP ?_
        refine RK.M rfl ?_
        refine RK.V (op_add rfl rfl (by first | exact IntWalk.i64_in _ (by omega) | rfl)) ?_
        refine RK.As rfl ?_
        refine RK.D ?_
        refine ⟨k + 1, by omega, by omega, le_stL ⟨.refl _, .refl _, .refl _, .refl _, .refl _, .refl _, .refl _, .refl _, .refl _, .refl _, Sub.bool (all_n [] (by omega) hqa), Sub.bool (any_n [] (by omega) hqo), Sub.int (by omega), trivial⟩ ⟨rfl, rfl, rfl, rfl, trivial⟩⟩
     ·have hb36_ := of_decide_eq_false hb36
      rw [List.take_of_length_le (by omega)]
      refine AWp_exit ?_
      refine AWp_sr hP ?_
      refine RK.M rfl ?_
      refine RK.M rfl ?_
      refine RK.V (op_bne hT rfl rfl rfl rfl) ?_
      refine RK.M rfl ?_
      refine RK.val (guard_yes rfl rfl (by rw [mono_one (made_ok R g)]; exact bne_self_eq_false' _)) (op_move (rfl : _ = AV.p (.c _))) ?_
      refine RK.val (guard_yes rfl rfl (by rw [mono_one (made_ok R g)]; exact bne_self_eq_false' _)) (op_move (rfl : _ = AV.p (.c _))) ?_
      refine RK.split (t := 121) rfl (fun hg41 => ?_) (fun hg41 => ?_)
      ·have hall := hg41
       refine RK.val (guard_yes rfl rfl hg41) (op_field_loc hT rfl rfl rfl rfl rfl rfl) ?_
       refine RK.val (guard_yes rfl rfl hg41) (op_load_agg hT rfl rfl rfl rfl (cs := [_, _]) rfl rfl) ?_
       refine RK.val (guard_yes rfl rfl hg41) (op_move (rfl : _ = AV.p (.c _))) ?_
       refine RK.val (guard_yes rfl rfl hg41) (Eff.call0 (p_Holds (withdrawB (madeB R g) (1 + ((x.2.2.toNat % 4 : Nat) : Int))) (nameS i) hok2 hok2D)) ?_
       refine RK.val (guard_yes rfl rfl (by rw [mono_one (made_ok R g)]; exact bne_self_eq_false' _)) (op_pick_t rfl hg41 (rfl : _ = AV.p (.c _))) ?_
       refine RK.V (op_pick_f rfl (by rw [mono_one (made_ok R g)]; exact bne_self_eq_false' _) (rfl : _ = AV.p (.c _))) ?_
       refine RK.D ?_
       refine AWp_cond_false rfl (mono_all (made_ok R g) hn hall) ?_
       refine AWp_skip ?_
       refine AWp_region hP ?_
       refine RK.M rfl ?_
       refine RK.V (op_add rfl rfl (by first | exact IntWalk.u8_in _ (by omega) | rfl)) ?_
       refine RK.As rfl ?_
       refine RK.D ?_
       refine ⟨i + 1, by omega, by omega, le_stL ⟨.refl _, .refl _, .refl _, .refl _, .refl _, .refl _, Sub.of_eq (by congr 4), trivial⟩ ⟨rfl, rfl, rfl, rfl, trivial⟩⟩
      ·refine RK.skip (guard_no rfl rfl hg41) ?_
       refine RK.skip (guard_no rfl rfl hg41) ?_
       refine RK.skip (guard_no rfl rfl hg41) ?_
       refine RK.skip (guard_no rfl rfl hg41) ?_
       refine RK.val (guard_yes rfl rfl (by rw [mono_one (made_ok R g)]; exact bne_self_eq_false' _)) (op_pick_f rfl hg41 (rfl : _ = AV.p (.c _))) ?_
       refine RK.V (op_pick_f rfl (by rw [mono_one (made_ok R g)]; exact bne_self_eq_false' _) (rfl : _ = AV.p (.c _))) ?_
       refine RK.D ?_
       refine AWp_cond_false rfl rfl ?_
       refine AWp_skip ?_
       refine AWp_region hP ?_
       refine RK.M rfl ?_
       refine RK.V (op_add rfl rfl (by first | exact IntWalk.u8_in _ (by omega) | rfl)) ?_
       refine RK.As rfl ?_
       refine RK.D ?_
       refine ⟨i + 1, by omega, by omega, le_stL ⟨.refl _, .refl _, .refl _, .refl _, .refl _, .refl _, Sub.of_eq (by congr 4), trivial⟩ ⟨rfl, rfl, rfl, rfl, trivial⟩⟩
   ·refine RK.skip (guard_no rfl rfl hg27) ?_
    refine RK.skip (guard_no rfl rfl hg27) ?_
    refine RK.skip (guard_no rfl rfl hg27) ?_
    refine RK.skip (guard_no rfl rfl hg27) ?_
    refine RK.skip (guard_sk rfl rfl) ?_
    refine RK.skip (guard_sk rfl rfl) ?_
    refine RK.skip (guard_sk rfl rfl) ?_
    refine RK.skip (guard_sk rfl rfl) ?_
    refine RK.skip (guard_sk rfl rfl) ?_
    refine RK.skip (guard_no rfl rfl hg27) ?_
    refine RK.skip (guard_no rfl rfl hg27) ?_
    refine RK.skip (guard_sk rfl rfl) ?_
    refine RK.skip (guard_sk rfl rfl) ?_
    refine RK.skip (guard_sk rfl rfl) ?_
    refine RK.skip (guard_sk rfl rfl) ?_
    refine RK.skip (guard_sk rfl rfl) ?_
    refine RK.skip (guard_no rfl rfl hg27) ?_
    refine RK.V (op_pick_f rfl hg27 (rfl : _ = AV.p (.c _))) ?_
    refine RK.D ?_
    refine AWp_cond_false rfl rfl ?_
    refine AWp_skip ?_
    refine AWp_sr hP ?_
    refine RK.G2 hT rfl rfl rfl rfl rfl rfl ?_
    refine RK.M rfl ?_
    refine RK.V (Eff.call0 (p_Needs (madeB R g) (nameS i) (made_ok R g) (made_okD R g))) ?_
    refine RK.As rfl ?_
    refine RK.D ?_
    refine AWp_sr hP ?_
    refine RK.As rfl ?_
    refine RK.As rfl ?_
    refine RK.D ?_
    refine AWp_seq ?_
    refine AWp_sr hP ?_
    refine RK.As rfl ?_
    refine RK.D ?_
    refine AWp_block ?_
    refine AWp_len (t := 16) rfl rfl (fun hlb => ?_)
    refine AWp_loop (ι := Nat) (fun k => stL [(7, B true), (8, .loc 8 0), (9, Z (1 + ((x.2.2.toNat % 4 : Nat) : Int))), (10, .loc 10 0), (11, .loc 11 0), (12, .loc 12 0), (13, .p (.c (.v (.int .u8 ((i : Nat) : Int))))), (14, AS (nameS i)), (15, B (decide ((nameS i) ∈ cls (rFin (madeB R g))))), (16, .p (.c (SL enL (ndL (madeB R g).1 (nameS i))))), (17, B (((ndL (madeB R g).1 (nameS i)).take k).all (fun y : List Int => decide ((1 + ((x.2.2.toNat % 4 : Nat) : Int)) ∈ y)))), (18, B (((ndL (madeB R g).1 (nameS i)).take k).any (fun y : List Int => y.all fun n => decide (n ∈ (madeB R g).2)))), (19, Z (k : Int))] [(8, ⟨false, 1, 27, enBk (madeB R g)⟩), (10, ⟨false, 1, 42, [SL enD (addB (madeB R g) (oneD x)).1, SL enZ (addB (madeB R g) (oneD x)).2, .v (.int .i64 (addE (madeB R g) (oneD x)))]⟩), (11, ⟨false, 1, 42, [SL enD (grantB (madeB R g) (1 + ((x.2.2.toNat % 4 : Nat) : Int))).1, SL enZ (grantB (madeB R g) (1 + ((x.2.2.toNat % 4 : Nat) : Int))).2, .v (.int .i64 (grantE (1 + ((x.2.2.toNat % 4 : Nat) : Int))))]⟩), (12, ⟨false, 1, 42, [SL enD (withdrawB (madeB R g) (1 + ((x.2.2.toNat % 4 : Nat) : Int))).1, SL enZ (withdrawB (madeB R g) (1 + ((x.2.2.toNat % 4 : Nat) : Int))).2, .v (.int .i64 (grantE (1 + ((x.2.2.toNat % 4 : Nat) : Int))))]⟩)]) (fun k => k ≤ (ndL (madeB R g).1 (nameS i)).length) (fun k => (ndL (madeB R g).1 (nameS i)).length - k) 0 (Nat.zero_le _) (le_stL ⟨.refl _, .refl _, .refl _, .refl _, .refl _, .refl _, .refl _, .refl _, .refl _, .refl _, .refl _, .refl _, .refl _, trivial⟩ ⟨rfl, rfl, rfl, rfl, trivial⟩) ?_
    rintro k hk
    refine AWp_seq ?_
    refine AWp_sr hP ?_
    refine RK.M rfl ?_
    refine RK.M rfl ?_
    refine RK.V (op_len hT rfl rfl rfl (by rfl)) ?_
    refine RK.V (op_lss rfl rfl) ?_
    refine RK.D ?_
    refine AWp_cond rfl (fun hb42 => ?_) (fun hb42 => ?_)
    ·have hb42_ := of_decide_eq_true hb42
     refine AWp_skip ?_
     refine AWp_seq ?_
     refine AWp_block ?_
     refine AWp_sr hP ?_
     refine RK.M rfl ?_
     refine RK.M rfl ?_
     refine RK.split (t := 98) rfl (fun hg43 => ?_) (fun hg43 => ?_)
     ·have hqa := hg43
      refine RK.val (guard_yes rfl rfl hg43) (op_move (rfl : _ = AV.p (.c _))) ?_
      refine RK.val (guard_yes rfl rfl hg43) (op_move (rfl : _ = AV.p (.c _))) ?_
      refine RK.val (guard_yes rfl rfl hg43) (op_indexG hT enL_len (by decide) [] (n := (k : Int)) (l := (ndL (madeB R g).1 (nameS i))) rfl rfl rfl rfl rfl rfl (by omega)) ?_
      refine RK.val (guard_yes rfl rfl hg43) (op_load_ip_one hT rfl rfl rfl rfl) ?_
      refine RK.val (guard_yes rfl rfl hg43) (op_move (rfl : _ = AV.p (.c _))) ?_
      refine RK.val (guard_yes rfl rfl hg43) (Eff.call0 (p_rHas ((ndL (madeB R g).1 (nameS i)).getD k []) (1 + ((x.2.2.toNat % 4 : Nat) : Int)))) ?_
      refine RK.V (op_pick_t rfl hg43 (rfl : _ = AV.p (.c _))) ?_
      refine RK.As rfl ?_
      refine RK.D ?_
      refine AWp_region hP ?_
      refine RK.M rfl ?_
      refine RK.M rfl ?_
      refine RK.split (t := 107) rfl (fun hg44 => ?_) (fun hg44 => ?_)
      ·have hqo := hg44
       refine RK.skip (guard_no rfl rfl hg44) ?_
       refine RK.skip (guard_no rfl rfl hg44) ?_
       refine RK.skip (guard_no rfl rfl hg44) ?_
       refine RK.skip (guard_no rfl rfl hg44) ?_
       refine RK.skip (guard_no rfl rfl hg44) ?_
       refine RK.skip (guard_no rfl rfl hg44) ?_
       refine RK.skip (guard_no rfl rfl hg44) ?_
       refine RK.V (op_pick_t rfl hg44 (rfl : _ = AV.p (.c _))) ?_
       refine RK.As rfl ?_
       refine RK.D ?_
       refine AWp_region hP ?_
       refine RK.M rfl ?_
       refine RK.V (op_add rfl rfl (by first | exact IntWalk.i64_in _ (by omega) | rfl)) ?_
       refine RK.As rfl ?_
       refine RK.D ?_
       refine ⟨k + 1, by omega, by omega, le_stL ⟨.refl _, .refl _, .refl _, .refl _, .refl _, .refl _, .refl _, .refl _, .refl _, .refl _, Sub.bool (all_y [] (by omega) hqa), Sub.bool (any_y [] (by omega) hqo), Sub.int (by omega), trivial⟩ ⟨rfl, rfl, rfl, rfl, trivial⟩⟩
      ·have hqo := hg44
       refine RK.val (guard_yes rfl rfl hg44) (op_move (rfl : _ = AV.p (.c _))) ?_
       refine RK.val (guard_yes rfl rfl hg44) (op_move (rfl : _ = AV.p (.c _))) ?_
       refine RK.val (guard_yes rfl rfl hg44) (op_indexG hT enL_len (by decide) [] (n := (k : Int)) (l := (ndL (madeB R g).1 (nameS i))) rfl rfl rfl rfl rfl rfl (by omega)) ?_
       refine RK.val (guard_yes rfl rfl hg44) (op_load_ip_one hT rfl rfl rfl rfl) ?_
       refine RK.val (guard_yes rfl rfl hg44) (op_field_loc hT rfl rfl rfl rfl rfl rfl) ?_
       refine RK.val (guard_yes rfl rfl hg44) (op_load_one hT rfl rfl rfl rfl (by first | rfl | exact vget (by omega))) ?_
       refine RK.val (guard_yes rfl rfl hg44) (Eff.call0 (p_inside ((ndL (madeB R g).1 (nameS i)).getD k []) (madeB R g).2)) ?_
       refine RK.V (op_pick_f rfl hg44 (rfl : _ = AV.p (.c _))) ?_
       refine RK.As rfl ?_
       refine RK.D ?_
       refine AWp_region hP ?_
       refine RK.M rfl ?_
       refine RK.V (op_add rfl rfl (by first | exact IntWalk.i64_in _ (by omega) | rfl)) ?_
       refine RK.As rfl ?_
       refine RK.D ?_
       refine ⟨k + 1, by omega, by omega, le_stL ⟨.refl _, .refl _, .refl _, .refl _, .refl _, .refl _, .refl _, .refl _, .refl _, .refl _, Sub.bool (all_y [] (by omega) hqa), Sub.bool (any_n [] (by omega) hqo), Sub.int (by omega), trivial⟩ ⟨rfl, rfl, rfl, rfl, trivial⟩⟩
     ·have hqa := hg43
      refine RK.skip (guard_no rfl rfl hg43) ?_
      refine RK.skip (guard_no rfl rfl hg43) ?_
      refine RK.skip (guard_no rfl rfl hg43) ?_
      refine RK.skip (guard_no rfl rfl hg43) ?_
      refine RK.skip (guard_no rfl rfl hg43) ?_
      refine RK.skip (guard_no rfl rfl hg43) ?_
      refine RK.V (op_pick_f rfl hg43 (rfl : _ = AV.p (.c _))) ?_
      refine RK.As rfl ?_
      refine RK.D ?_
      refine AWp_region hP ?_
      refine RK.M rfl ?_
      refine RK.M rfl ?_
      refine RK.split (t := 107) rfl (fun hg45 => ?_) (fun hg45 => ?_)
      ·have hqo := hg45
       refine RK.skip (guard_no rfl rfl hg45) ?_
       refine RK.skip (guard_no rfl rfl hg45) ?_
       refine RK.skip (guard_no rfl rfl hg45) ?_
       refine RK.skip (guard_no rfl rfl hg45) ?_
       refine RK.skip (guard_no rfl rfl hg45) ?_
       refine RK.skip (guard_no rfl rfl hg45) ?_
       refine RK.skip (guard_no rfl rfl hg45) ?_
       refine RK.V (op_pick_t rfl hg45 (rfl : _ = AV.p (.c _))) ?_
       refine RK.As rfl ?_
       refine RK.D ?_
       refine AWp_region hP ?_
       refine RK.M rfl ?_
       refine RK.V (op_add rfl rfl (by first | exact IntWalk.i64_in _ (by omega) | rfl)) ?_
       refine RK.As rfl ?_
       refine RK.D ?_
       refine ⟨k + 1, by omega, by omega, le_stL ⟨.refl _, .refl _, .refl _, .refl _, .refl _, .refl _, .refl _, .refl _, .refl _, .refl _, Sub.bool (all_n [] (by omega) hqa), Sub.bool (any_y [] (by omega) hqo), Sub.int (by omega), trivial⟩ ⟨rfl, rfl, rfl, rfl, trivial⟩⟩
      ·have hqo := hg45
       refine RK.val (guard_yes rfl rfl hg45) (op_move (rfl : _ = AV.p (.c _))) ?_
       refine RK.val (guard_yes rfl rfl hg45) (op_move (rfl : _ = AV.p (.c _))) ?_
       refine RK.val (guard_yes rfl rfl hg45) (op_indexG hT enL_len (by decide) [] (n := (k : Int)) (l := (ndL (madeB R g).1 (nameS i))) rfl rfl rfl rfl rfl rfl (by omega)) ?_
       refine RK.val (guard_yes rfl rfl hg45) (op_load_ip_one hT rfl rfl rfl rfl) ?_
       refine RK.val (guard_yes rfl rfl hg45) (op_field_loc hT rfl rfl rfl rfl rfl rfl) ?_
       refine RK.val (guard_yes rfl rfl hg45) (op_load_one hT rfl rfl rfl rfl (by first | rfl | exact vget (by omega))) ?_
       refine RK.val (guard_yes rfl rfl hg45) (Eff.call0 (p_inside ((ndL (madeB R g).1 (nameS i)).getD k []) (madeB R g).2)) ?_
       refine RK.V (op_pick_f rfl hg45 (rfl : _ = AV.p (.c _))) ?_
       refine RK.As rfl ?_
       refine RK.D ?_
       refine AWp_region hP ?_
       refine RK.M rfl ?_
       refine RK.V (op_add rfl rfl (by first | exact IntWalk.i64_in _ (by omega) | rfl)) ?_
       refine RK.As rfl ?_
       refine RK.D ?_
       refine ⟨k + 1, by omega, by omega, le_stL ⟨.refl _, .refl _, .refl _, .refl _, .refl _, .refl _, .refl _, .refl _, .refl _, .refl _, Sub.bool (all_n [] (by omega) hqa), Sub.bool (any_n [] (by omega) hqo), Sub.int (by omega), trivial⟩ ⟨rfl, rfl, rfl, rfl, trivial⟩⟩
    ·have hb42_ := of_decide_eq_false hb42
     rw [List.take_of_length_le (by omega)]
     refine AWp_exit ?_
     refine AWp_sr hP ?_
     refine RK.M rfl ?_
     refine RK.M rfl ?_
     refine RK.V (op_bne hT rfl rfl rfl rfl) ?_
     refine RK.M rfl ?_
     refine RK.val (guard_yes rfl rfl (by rw [mono_one (made_ok R g)]; exact bne_self_eq_false' _)) (op_move (rfl : _ = AV.p (.c _))) ?_
     refine RK.val (guard_yes rfl rfl (by rw [mono_one (made_ok R g)]; exact bne_self_eq_false' _)) (op_move (rfl : _ = AV.p (.c _))) ?_
     refine RK.split (t := 121) rfl (fun hg47 => ?_) (fun hg47 => ?_)
     ·have hall := hg47
      refine RK.val (guard_yes rfl rfl hg47) (op_field_loc hT rfl rfl rfl rfl rfl rfl) ?_
      refine RK.val (guard_yes rfl rfl hg47) (op_load_agg hT rfl rfl rfl rfl (cs := [_, _]) rfl rfl) ?_
      refine RK.val (guard_yes rfl rfl hg47) (op_move (rfl : _ = AV.p (.c _))) ?_
      refine RK.val (guard_yes rfl rfl hg47) (Eff.call0 (p_Holds (withdrawB (madeB R g) (1 + ((x.2.2.toNat % 4 : Nat) : Int))) (nameS i) hok2 hok2D)) ?_
      refine RK.val (guard_yes rfl rfl (by rw [mono_one (made_ok R g)]; exact bne_self_eq_false' _)) (op_pick_t rfl hg47 (rfl : _ = AV.p (.c _))) ?_
      refine RK.V (op_pick_f rfl (by rw [mono_one (made_ok R g)]; exact bne_self_eq_false' _) (rfl : _ = AV.p (.c _))) ?_
      refine RK.D ?_
      refine AWp_cond_false rfl (mono_all (made_ok R g) hn hall) ?_
      refine AWp_skip ?_
      refine AWp_region hP ?_
      refine RK.M rfl ?_
      refine RK.V (op_add rfl rfl (by first | exact IntWalk.u8_in _ (by omega) | rfl)) ?_
      refine RK.As rfl ?_
      refine RK.D ?_
      refine ⟨i + 1, by omega, by omega, le_stL ⟨.refl _, .refl _, .refl _, .refl _, .refl _, .refl _, Sub.of_eq (by congr 4), trivial⟩ ⟨rfl, rfl, rfl, rfl, trivial⟩⟩
     ·refine RK.skip (guard_no rfl rfl hg47) ?_
      refine RK.skip (guard_no rfl rfl hg47) ?_
      refine RK.skip (guard_no rfl rfl hg47) ?_
      refine RK.skip (guard_no rfl rfl hg47) ?_
      refine RK.val (guard_yes rfl rfl (by rw [mono_one (made_ok R g)]; exact bne_self_eq_false' _)) (op_pick_f rfl hg47 (rfl : _ = AV.p (.c _))) ?_
      refine RK.V (op_pick_f rfl (by rw [mono_one (made_ok R g)]; exact bne_self_eq_false' _) (rfl : _ = AV.p (.c _))) ?_
      refine RK.D ?_
      refine AWp_cond_false rfl rfl ?_
      refine AWp_skip ?_
      refine AWp_region hP ?_
      refine RK.M rfl ?_
      refine RK.V (op_add rfl rfl (by first | exact IntWalk.u8_in _ (by omega) | rfl)) ?_
      refine RK.As rfl ?_
      refine RK.D ?_
      refine ⟨i + 1, by omega, by omega, le_stL ⟨.refl _, .refl _, .refl _, .refl _, .refl _, .refl _, Sub.of_eq (by congr 4), trivial⟩ ⟨rfl, rfl, rfl, rfl, trivial⟩⟩
  ·have hb26_ := of_decide_eq_false hb26
   refine AWp_exit ?_
   refine AWp_sr hP ?_
   refine RK.M rfl ?_
   refine RK.As rfl ?_
   refine RK.D ?_
   refine AWp_ret ?_
   refine ends_one rfl (.inr rfl) (res_tmp rfl) ?_ O_ends
   exact .refl _
end Go.Proofs.YtmoaoiakmmbpoaaGreatDoor
end
