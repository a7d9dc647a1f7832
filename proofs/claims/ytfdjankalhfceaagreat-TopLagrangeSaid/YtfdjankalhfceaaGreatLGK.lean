/- unit: Fundamental; pell: small functions -/
import Derived.Test.YtfdjankalhfceaaGreatLGI
import Derived.Test.YtfdjankalhfceaaGreatLGC
import Derived.Test.YtfdjankalhfceaaGreatLGJ
import Derived.Test.YtfdjankalhfceaaGreatLGH
section
namespace Go.Proofs.YtfdjankalhfceaaGreat
open Go Go.AM
/- algorist/unit.Fundamental -/
set_option maxHeartbeats 8000000 in
set_option maxRecDepth 100000 in
theorem un_Fundamental (d : Int) (n m : Nat) (y : Fm × Mt) (hd : DOK d) (hPd : (⟨1, d % 4, -(d / 4)⟩ : Fm).disc = d) (h0 : RdT (rootV d) ⟨1, d % 4, -(d / 4)⟩ n y) (h : FuT (rootV d) d y.1 m) :
  Call0 Tryz.prog 11 [I d] (.t [PQ (qdF (fuK (rootV d) d y.1 m)), PE 0]) := by
 have id : LB d 6 := ⟨hd.L6⟩
 have cPr := un_product d n m y hd hPd h0 h.pr
 have hyd : y.1.disc = d := h0.disc.trans hPd
 obtain ⟨s, hs⟩ : ∃ s, s = rootV d := ⟨_, rfl⟩
 rw [← hs] at cPr h ⊢
 clear hs h0
 have hna : ∀ k, (nb s y.1 k).1.a ≠ 0 := fun k => (sq_ac (f := (nb s y.1 k).1) (by rw [(nb_disc s y.1 k).trans hyd]; exact hd.sq)).1
 have hll := prL_len (s := s) (f := y.1) (k := m)
 have hml := h.pr.le
 have hfm := h.fu m (Nat.le_refl _)
 have hfmc := fuK_c (s := s) (d := d) (f := y.1) hna m
 have cWh := un_whole (fuK s d y.1 m) (hfm.mono (by decide)) hfmc
 refine callM_of (np := 0) Tryz.func11 (by kernel_rfl) rfl rfl (Nat.le_of_ble_eq_true rfl) (fun m h => absurd rfl h) (fun m h => absurd rfl h) rfl ?_
 refine AWp_sr hP ?_
 refine RK.alc guard_none (op_box rfl rfl) ?_
 refine RK.alc guard_none (op_alloc hT rfl rfl) ?_
 refine RK.As rfl ?_
 refine RK.D ?_
 refine AWp_seq ?_
 refine AWp_sr hP ?_
 refine RK.G2 hT rfl rfl rfl rfl rfl rfl ?_
 refine RK.V (Eff.call0 (un_refused d hd)) ?_
 refine RK.As rfl ?_
 refine RK.D ?_
 refine AWp_sr hP ?_
 refine RK.M rfl ?_
 refine RK.V (op_neq rfl rfl) ?_
 refine RK.D ?_
 refine AWp_cond_false rfl rfl ?_
 refine AWp_skip ?_
 refine AWp_sr hP ?_
 refine RK.V (Eff.call0 (un_of _ (by first | assumption | decide))) ?_
 refine RK.V (op_build_st hT rfl rfl rfl (es := [_, _]) rfl) ?_
 refine RK.V (Eff.call0 (un_of _ (by first | assumption | decide))) ?_
 refine RK.G2 hT rfl rfl rfl rfl rfl rfl ?_
 refine RK.V (op_build_st hT rfl rfl rfl (es := [_, _, _, _, _, _, _, _]) rfl) ?_
 refine RK.alc guard_none (op_alloc hT rfl rfl) ?_
 refine RK.S hT rfl rfl rfl rfl rfl rfl rfl ?_
 refine RK.D ?_
 refine AWp_seq ?_
 refine AWp_sr hP ?_
 refine RK.G2 hT rfl rfl rfl rfl rfl rfl ?_
 refine RK.V (Eff.call0 cPr) ?_
 refine RK.V (op_len hT rfl rfl rfl (by rfl)) ?_
 refine RK.M rfl ?_
 refine RK.D ?_
 refine AWp_block ?_
 refine AWp_loop (ι := Nat) (fun k => stL [(1, .loc 1 0), (2, .loc 2 0), (5, .loc 5 0), (22, .p (.c (SL enM (prL s y.1 m)))), (23, Z (m : Int)), (24, Z (k : Int))] [(1, ⟨false, 1, 26, [zn d, zm d]⟩), (2, ⟨false, 1, 45, [zn 0, zm 0, zn 0, zm 0]⟩), (5, ⟨false, 1, 87, enM (fuK s d y.1 k)⟩)]) (fun k => k ≤ m) (fun k => m - k) 0 (Nat.zero_le _) (le_stL ⟨.refl _, .refl _, .refl _, .refl _, Sub.int (by rw [hll]), .refl _, trivial⟩ ⟨rfl, rfl, rfl, trivial⟩) ?_
 rintro k hk
 refine AWp_sr hP ?_
 refine RK.V (op_lss rfl rfl) ?_
 refine RK.D ?_
 refine AWp_seq ?_
 refine AWp_cond rfl (fun hb1 => ?_) (fun hb1 => ?_)
 ·have hb1_ := of_decide_eq_true hb1
  have hkm : k < m := by omega
  have hgk := prL_get (s := s) (f := y.1) hkm
  have hox := h.pr.ok k (by omega)
  have hdi : (nb s y.1 k).1.disc = d := (nb_disc s y.1 k).trans hyd
  have hza := (sq_ac (f := (nb s y.1 k).1) (by rw [hdi]; exact hd.sq)).1
  have hfk := h.fu k (by omega)
  have hfc := fuK_c (s := s) (d := d) (f := y.1) hna k
  have hfs : fuK s d y.1 (k + 1) = tmF (fuK s d y.1 k) (fuT d (nb s y.1 k).1) := rfl
  refine AWp_skip ?_
  refine AWp_seq ?_
  refine AWp_block ?_
  refine AWp_sr hP ?_
  refine RK.V (op_indexG hT enM_len (by decide) ⟨0, 0, 0, 0⟩ (n := (k : Int)) (l := prL s y.1 m) rfl rfl rfl rfl rfl rfl (by omega)) ?_
  refine RK.V (op_load_ip_agg hT rfl rfl rfl (cs := enM ((prL s y.1 m).getD k ⟨0, 0, 0, 0⟩)) rfl rfl) ?_
  refine RK.alc guard_none (op_alloc hT rfl rfl) ?_
  refine RK.S hT rfl rfl rfl rfl rfl rfl rfl ?_
  refine RK.D ?_
  refine AWp_le (t := stL [(1, .loc 1 0), (2, .loc 2 0), (5, .loc 5 0), (7, .loc 7 0), (22, .p (.c (SL enM (prL s y.1 m)))), (23, Z (m : Int)), (24, Z (k : Int))] [(1, ⟨false, 1, 26, [zn d, zm d]⟩), (2, ⟨false, 1, 45, [zn 0, zm 0, zn 0, zm 0]⟩), (5, ⟨false, 1, 87, enM (fuK s d y.1 k)⟩), (7, ⟨false, 1, 91, enM (trm (nb s y.1 k).1)⟩)]) (le_stL ⟨.refl _, .refl _, .refl _, .refl _, .refl _, .refl _, .refl _, trivial⟩ ⟨rfl, rfl, rfl, Eq.trans rfl (congrArg (fun q : Mt => some (⟨false, 1, 91, enM q⟩ : Blk)) hgk), trivial⟩) ?_
  clear hgk
  generalize nb s y.1 k = z at hox hza hfs ⊢
  have i2 : LB z.1.b 6 := ⟨okS_L hox.b⟩
  have i1 : LB z.1.a 6 := ⟨okS_L hox.a⟩
  have cLe := un_least ⟨z.1.b, 1, 2 * (z.1.a.natAbs : Int), d⟩ ((trm_L hox.f hd.L6).mono (by decide)) (show 2 * (z.1.a.natAbs : Int) ≠ 0 by omega)
  have cPo := un_power1 (lsF ⟨z.1.b, 1, 2 * (z.1.a.natAbs : Int), d⟩) ((lsF_L (trm_L hox.f hd.L6)).mono (by decide)) (lsT_c hza)
  have cTi := un_times (fuK s d y.1 k) (fuT d z.1) (hfk.mono (by decide)) ((fuT_L hox.f hd.L6).mono (by decide)) hfc (fuT_c hza)
  refine AWp_sr hP ?_
  refine RK.F hT rfl rfl rfl rfl rfl rfl ?_
  refine RK.G2 hT rfl rfl rfl rfl rfl rfl ?_
  refine RK.V (Eff.call0 (int_Low 1 (by decide) (by decide))) ?_
  refine RK.V (op_move (rfl : _ = AV.t _)) ?_
  refine RK.V (op_extract rfl (v := .c _) rfl) ?_
  refine RK.V (op_extract rfl (v := .c _) rfl) ?_
  refine RK.As rfl ?_
  refine RK.As rfl ?_
  refine RK.D ?_
  refine AWp_region hP ?_
  refine RK.V (op_load_agg hT rfl rfl rfl rfl (cs := [_, _, _, _, _, _, _, _]) rfl rfl) ?_
  refine RK.F hT rfl rfl rfl rfl rfl rfl ?_
  refine RK.G2 hT rfl rfl rfl rfl rfl rfl ?_
  refine RK.F hT rfl rfl rfl rfl rfl rfl ?_
  refine RK.G2 hT rfl rfl rfl rfl rfl rfl ?_
  refine RK.F hT rfl rfl rfl rfl rfl rfl ?_
  refine RK.G2 hT rfl rfl rfl rfl rfl rfl ?_
  refine RK.G2 hT rfl rfl rfl rfl rfl rfl ?_
  refine RK.V (op_build_st hT rfl rfl rfl (es := [_, _, _, _, _, _, _, _]) rfl) ?_
  refine RK.V (Eff.call0 cLe) ?_
  refine RK.M rfl ?_
  refine RK.V (Eff.call0 cPo) ?_
  refine RK.V (Eff.call0 cTi) ?_
  refine RK.S hT rfl rfl rfl rfl rfl rfl rfl ?_
  refine RK.D ?_
  refine AWp_region hP ?_
  refine RK.V (op_add rfl rfl (by first | exact IntWalk.i64_in _ (by omega) | rfl)) ?_
  refine RK.M rfl ?_
  refine RK.D ?_
  refine ⟨k + 1, by omega, by omega, le_stL ⟨.refl _, .refl _, .refl _, .refl _, .refl _, Sub.int (by omega), trivial⟩ ⟨rfl, rfl, Eq.trans rfl (congrArg (fun q : Mt => some (⟨false, 1, 87, enM q⟩ : Blk)) hfs.symm), trivial⟩⟩
 ·have hb1_ := of_decide_eq_false hb1
  have hkm2 : k = m := by omega
  subst hkm2
  refine AWp_exit ?_
  refine AWp_sr hP ?_
  refine RK.V (op_load_agg hT rfl rfl rfl rfl (cs := [_, _, _, _, _, _, _, _]) rfl rfl) ?_
  refine RK.V (Eff.call0 cWh) ?_
  refine RK.V (op_extract rfl (v := .a _) rfl) ?_
  refine RK.V (op_extract rfl (v := .c _) rfl) ?_
  refine RK.S hT rfl rfl rfl rfl rfl rfl rfl ?_
  refine RK.As rfl ?_
  refine RK.D ?_
  refine AWp_ret ?_
  refine ends_two rfl (.inr rfl) (res_cell_agg hT rfl rfl rfl rfl (cs := [_, _, _, _]) rfl rfl) (res_tmp rfl) ?_ O_ends
  exact .refl _
/- algorist/pell.zero -/
set_option maxHeartbeats 1000000 in
set_option maxRecDepth 100000 in
theorem pl_zero (a : Int) :
  Call0 Tryz.prog 62 [I a] (B (decide (a = 0))) := by
 refine callM_of (np := 0) Tryz.func62 (by kernel_rfl) rfl rfl (Nat.le_of_ble_eq_true rfl) (fun m h => absurd rfl h) (fun m h => absurd rfl h) rfl ?_
 refine AWp_sr hP ?_
 refine RK.alc guard_none (op_box rfl rfl) ?_
 refine RK.As rfl ?_
 refine RK.D ?_
 refine AWp_sr hP ?_
 refine RK.G2 hT rfl rfl rfl rfl rfl rfl ?_
 refine RK.V (Eff.call0 (int_Sign _)) ?_
 refine RK.V (op_eql rfl rfl) ?_
 refine RK.As rfl ?_
 refine RK.D ?_
 refine AWp_ret ?_
 refine ends_one rfl (.inr rfl) (res_tmp rfl) ?_ O_ends
 exact Sub.bool (sg_dc a)
/- algorist/pell.opposite -/
set_option maxHeartbeats 1000000 in
set_option maxRecDepth 100000 in
theorem pl_opposite (q : Qd) :
  Call0 Tryz.prog 101 [QA q] (QA (-q.1, -q.2)) := by
 refine callM_of (np := 0) Tryz.func101 (by kernel_rfl) rfl rfl (Nat.le_of_ble_eq_true rfl) (fun m h => absurd rfl h) (fun m h => absurd rfl h) rfl ?_
 refine AWp_sr hP ?_
 refine RK.alc guard_none (op_box rfl rfl) ?_
 refine RK.alc guard_none (op_alloc hT rfl rfl) ?_
 refine RK.D ?_
 refine AWp_sr hP ?_
 refine RK.F hT rfl rfl rfl rfl rfl rfl ?_
 refine RK.G2 hT rfl rfl rfl rfl rfl rfl ?_
 refine RK.V (Eff.call0 (int_Neg _)) ?_
 refine RK.F hT rfl rfl rfl rfl rfl rfl ?_
 refine RK.G2 hT rfl rfl rfl rfl rfl rfl ?_
 refine RK.V (Eff.call0 (int_Neg _)) ?_
 refine RK.V (op_build_st hT rfl rfl rfl (es := [_, _, _, _]) rfl) ?_
 refine RK.S hT rfl rfl rfl rfl rfl rfl rfl ?_
 refine RK.D ?_
 refine AWp_ret ?_
 refine ends_one rfl (.inr rfl) (res_cell_agg hT rfl rfl rfl rfl (cs := [_, _, _, _]) rfl rfl) ?_ O_ends
 exact .refl _
/- algorist/pell.conjugate -/
set_option maxHeartbeats 1000000 in
set_option maxRecDepth 100000 in
theorem pl_conjugate (q : Qd) :
  Call0 Tryz.prog 66 [QA q] (QA (cjQ q)) := by
 refine callM_of (np := 0) Tryz.func66 (by kernel_rfl) rfl rfl (Nat.le_of_ble_eq_true rfl) (fun m h => absurd rfl h) (fun m h => absurd rfl h) rfl ?_
 refine AWp_sr hP ?_
 refine RK.alc guard_none (op_box rfl rfl) ?_
 refine RK.alc guard_none (op_alloc hT rfl rfl) ?_
 refine RK.D ?_
 refine AWp_sr hP ?_
 refine RK.F hT rfl rfl rfl rfl rfl rfl ?_
 refine RK.G2 hT rfl rfl rfl rfl rfl rfl ?_
 refine RK.F hT rfl rfl rfl rfl rfl rfl ?_
 refine RK.G2 hT rfl rfl rfl rfl rfl rfl ?_
 refine RK.V (Eff.call0 (int_Neg _)) ?_
 refine RK.V (op_build_st hT rfl rfl rfl (es := [_, _, _, _]) rfl) ?_
 refine RK.S hT rfl rfl rfl rfl rfl rfl rfl ?_
 refine RK.D ?_
 refine AWp_ret ?_
 refine ends_one rfl (.inr rfl) (res_cell_agg hT rfl rfl rfl rfl (cs := [_, _, _, _]) rfl rfl) ?_ O_ends
 exact .refl _
/- algorist/pell.upright -/
set_option maxHeartbeats 2000000 in
set_option maxRecDepth 100000 in
theorem pl_upright (q : Qd) :
  Call0 Tryz.prog 65 [QA q] (QA (upQ q)) := by
 refine callM_of (np := 0) Tryz.func65 (by kernel_rfl) rfl rfl (Nat.le_of_ble_eq_true rfl) (fun m h => absurd rfl h) (fun m h => absurd rfl h) rfl ?_
 refine AWp_sr hP ?_
 refine RK.alc guard_none (op_box rfl rfl) ?_
 refine RK.alc guard_none (op_alloc hT rfl rfl) ?_
 refine RK.D ?_
 refine AWp_seq ?_
 refine AWp_sr hP ?_
 refine RK.F hT rfl rfl rfl rfl rfl rfl ?_
 refine RK.G2 hT rfl rfl rfl rfl rfl rfl ?_
 refine RK.V (Eff.call0 (int_Sign _)) ?_
 refine RK.V (op_lss rfl rfl) ?_
 refine RK.M rfl ?_
 refine RK.split (t := 7) rfl (fun hg1 => ?_) (fun hg1 => ?_)
 ·have hg1_ := of_decide_eq_true hg1
  have h1 := sgn_lt_iff.1 (of_decide_eq_true hg1)
  refine RK.skip (guard_no rfl rfl hg1) ?_
  refine RK.skip (guard_no rfl rfl hg1) ?_
  refine RK.skip (guard_no rfl rfl hg1) ?_
  refine RK.skip (guard_no rfl rfl hg1) ?_
  refine RK.skip (guard_sk rfl rfl) ?_
  refine RK.skip (guard_sk rfl rfl) ?_
  refine RK.skip (guard_sk rfl rfl) ?_
  refine RK.skip (guard_sk rfl rfl) ?_
  refine RK.skip (guard_no rfl rfl hg1) ?_
  refine RK.V (op_pick_t rfl hg1 (rfl : _ = AV.p (.c _))) ?_
  refine RK.D ?_
  refine AWp_cond_true rfl rfl ?_
  refine AWp_sr hP ?_
  refine RK.V (op_load_agg hT rfl rfl rfl rfl (cs := [_, _, _, _]) rfl rfl) ?_
  refine RK.V (Eff.call0 (pl_opposite _)) ?_
  refine RK.S hT rfl rfl rfl rfl rfl rfl rfl ?_
  refine RK.D ?_
  refine AWp_ret ?_
  refine ends_one rfl (.inr rfl) (res_cell_agg hT rfl rfl rfl rfl (cs := [_, _, _, _]) rfl rfl) ?_ O_ends
  exact Sub.of_eq (by rw [← up_1 h1])
 ·have hg1_ := of_decide_eq_false hg1
  have h1 := fun z => of_decide_eq_false hg1 (sgn_lt_iff.2 z)
  refine RK.val (guard_yes rfl rfl hg1) (op_field_loc hT rfl rfl rfl rfl rfl rfl) ?_
  refine RK.val (guard_yes rfl rfl hg1) (op_load_agg hT rfl rfl rfl rfl (cs := [_, _]) rfl rfl) ?_
  refine RK.val (guard_yes rfl rfl hg1) (Eff.call0 (pl_zero _)) ?_
  refine RK.val (guard_yes rfl rfl hg1) (op_move (rfl : _ = AV.p (.c _))) ?_
  refine RK.split (t := 11) rfl (fun hg2 => ?_) (fun hg2 => ?_)
  ·have h2 := of_decide_eq_true hg2
   refine RK.val (guard_yes rfl rfl hg2) (op_field_loc hT rfl rfl rfl rfl rfl rfl) ?_
   refine RK.val (guard_yes rfl rfl hg2) (op_load_agg hT rfl rfl rfl rfl (cs := [_, _]) rfl rfl) ?_
   refine RK.val (guard_yes rfl rfl hg2) (Eff.call0 (int_Sign _)) ?_
   refine RK.val (guard_yes rfl rfl hg2) (op_lss rfl rfl) ?_
   refine RK.val (guard_yes rfl rfl hg1) (op_pick_t rfl hg2 (rfl : _ = AV.p (.c _))) ?_
   refine RK.V (op_pick_f rfl hg1 (rfl : _ = AV.p (.c _))) ?_
   refine RK.D ?_
   refine AWp_cond rfl (fun hb3 => ?_) (fun hb3 => ?_)
   ·have hb3_ := of_decide_eq_true hb3
    have h3 := sgn_lt_iff.1 (of_decide_eq_true hb3)
    refine AWp_sr hP ?_
    refine RK.V (op_load_agg hT rfl rfl rfl rfl (cs := [_, _, _, _]) rfl rfl) ?_
    refine RK.V (Eff.call0 (pl_opposite _)) ?_
    refine RK.S hT rfl rfl rfl rfl rfl rfl rfl ?_
    refine RK.D ?_
    refine AWp_ret ?_
    refine ends_one rfl (.inr rfl) (res_cell_agg hT rfl rfl rfl rfl (cs := [_, _, _, _]) rfl rfl) ?_ O_ends
    exact Sub.of_eq (by rw [← up_2 h2 h3])
   ·have hb3_ := of_decide_eq_false hb3
    have h3 := fun z => of_decide_eq_false hb3 (sgn_lt_iff.2 z)
    refine AWp_skip ?_
    refine AWp_sr hP ?_
    refine RK.V (op_load_agg hT rfl rfl rfl rfl (cs := [_, _, _, _]) rfl rfl) ?_
    refine RK.S hT rfl rfl rfl rfl rfl rfl rfl ?_
    refine RK.D ?_
    refine AWp_ret ?_
    refine ends_one rfl (.inr rfl) (res_cell_agg hT rfl rfl rfl rfl (cs := [_, _, _, _]) rfl rfl) ?_ O_ends
    exact Sub.of_eq (by rw [← up_3 h1 (fun z => h3 z.2)])
  ·have h2 := of_decide_eq_false hg2
   refine RK.skip (guard_no rfl rfl hg2) ?_
   refine RK.skip (guard_no rfl rfl hg2) ?_
   refine RK.skip (guard_no rfl rfl hg2) ?_
   refine RK.skip (guard_no rfl rfl hg2) ?_
   refine RK.val (guard_yes rfl rfl hg1) (op_pick_f rfl hg2 (rfl : _ = AV.p (.c _))) ?_
   refine RK.V (op_pick_f rfl hg1 (rfl : _ = AV.p (.c _))) ?_
   refine RK.D ?_
   refine AWp_cond_false rfl rfl ?_
   refine AWp_skip ?_
   refine AWp_sr hP ?_
   refine RK.V (op_load_agg hT rfl rfl rfl rfl (cs := [_, _, _, _]) rfl rfl) ?_
   refine RK.S hT rfl rfl rfl rfl rfl rfl rfl ?_
   refine RK.D ?_
   refine AWp_ret ?_
   refine ends_one rfl (.inr rfl) (res_cell_agg hT rfl rfl rfl rfl (cs := [_, _, _, _]) rfl rfl) ?_ O_ends
   exact Sub.of_eq (by rw [← up_3 h1 (fun z => h2 z.1)])
/- algorist/pell.compare -/
set_option maxHeartbeats 1000000 in
set_option maxRecDepth 100000 in
theorem pl_compare (a b : Qd) :
  Call0 Tryz.prog 68 [QA a, QA b] (Z (cpQ a b)) := by
 refine callM_of (np := 0) Tryz.func68 (by kernel_rfl) rfl rfl (Nat.le_of_ble_eq_true rfl) (fun m h => absurd rfl h) (fun m h => absurd rfl h) rfl ?_
 refine AWp_sr hP ?_
 refine RK.alc guard_none (op_box rfl rfl) ?_
 refine RK.alc guard_none (op_box rfl rfl) ?_
 refine RK.As rfl ?_
 refine RK.D ?_
 refine AWp_sr hP ?_
 refine RK.F hT rfl rfl rfl rfl rfl rfl ?_
 refine RK.G2 hT rfl rfl rfl rfl rfl rfl ?_
 refine RK.F hT rfl rfl rfl rfl rfl rfl ?_
 refine RK.G2 hT rfl rfl rfl rfl rfl rfl ?_
 refine RK.V (Eff.call0 (int_Cmp _ _)) ?_
 refine RK.F hT rfl rfl rfl rfl rfl rfl ?_
 refine RK.G2 hT rfl rfl rfl rfl rfl rfl ?_
 refine RK.F hT rfl rfl rfl rfl rfl rfl ?_
 refine RK.G2 hT rfl rfl rfl rfl rfl rfl ?_
 refine RK.V (Eff.call0 (int_Cmp _ _)) ?_
 refine RK.V (op_bslice hT rfl rfl rfl (es := [_, _]) rfl rfl rfl) ?_
 refine RK.V (Eff.call0 (or_int (cmpI a.2 b.2) (cmpI b.1 a.1))) ?_
 refine RK.As rfl ?_
 refine RK.D ?_
 refine AWp_ret ?_
 refine ends_one rfl (.inr rfl) (res_tmp rfl) ?_ O_ends
 exact .refl _
end Go.Proofs.YtfdjankalhfceaaGreat
end

section
/- pell: order right walk least -/
namespace Go.Proofs.YtfdjankalhfceaaGreat
open Go Go.AM
/- algorist/pell.order -/
set_option maxHeartbeats 4000000 in
set_option maxRecDepth 100000 in
theorem pl_order (d : Int) (n m c : Nat) (y : Fm × Mt) (u eta : Qd) (h : DD d n m c y u eta) :
  Call0 Tryz.prog 61 [I d] (.t [.a (flC d eta), PE 0]) := by
 have id : LB d 6 := ⟨h.dok.L6⟩
 have cF := un_Fundamental d n m y h.dok h.pd h.rd h.fu
 rw [h.uq] at cF
 have cN := un_Norm u d h.dok (h.uL.mono (by decide)) h.ue
 have cM := un_Mul u u d h.dok (h.uL.mono (by decide)) (h.uL.mono (by decide)) h.ue h.ue
 have he1 := et_1 h.et
 have he2 := et_2 h.et
 have hnq : (u.1 * u.1 - d * (u.2 * u.2)) / 4 = nmQ d u := rfl
 rw [hnq] at cN
 generalize qmF u u d = w at cM he1
 generalize nmQ d u = nn at cN he1 he2
 clear hnq h
 refine callM_of (np := 0) Tryz.func61 (by kernel_rfl) rfl rfl (Nat.le_of_ble_eq_true rfl) (fun m h => absurd rfl h) (fun m h => absurd rfl h) rfl ?_
 refine AWp_sr hP ?_
 refine RK.alc guard_none (op_box rfl rfl) ?_
 refine RK.alc guard_none (op_alloc hT rfl rfl) ?_
 refine RK.As rfl ?_
 refine RK.D ?_
 refine AWp_sr hP ?_
 refine RK.G2 hT rfl rfl rfl rfl rfl rfl ?_
 refine RK.V (Eff.call0 cF) ?_
 refine RK.V (op_move (rfl : _ = AV.t _)) ?_
 refine RK.V (op_extract rfl (v := .a _) rfl) ?_
 refine RK.V (op_extract rfl (v := .c _) rfl) ?_
 refine RK.alc guard_none (op_alloc hT rfl rfl) ?_
 refine RK.S hT rfl rfl rfl rfl rfl rfl rfl ?_
 refine RK.As rfl ?_
 refine RK.D ?_
 refine AWp_seq ?_
 refine AWp_sr hP ?_
 refine RK.M rfl ?_
 refine RK.V (op_neq rfl rfl) ?_
 refine RK.D ?_
 refine AWp_cond_false rfl rfl ?_
 refine AWp_skip ?_
 refine AWp_seq ?_
 refine AWp_sr hP ?_
 refine RK.V (op_load_agg hT rfl rfl rfl rfl (cs := [_, _, _, _]) rfl rfl) ?_
 refine RK.G2 hT rfl rfl rfl rfl rfl rfl ?_
 refine RK.V (Eff.call0 cN) ?_
 refine RK.V (op_move (rfl : _ = AV.t _)) ?_
 refine RK.V (op_extract rfl (v := .a _) rfl) ?_
 refine RK.V (op_extract rfl (v := .c _) rfl) ?_
 refine RK.alc guard_none (op_alloc hT rfl rfl) ?_
 refine RK.S hT rfl rfl rfl rfl rfl rfl rfl ?_
 refine RK.As rfl ?_
 refine RK.D ?_
 refine AWp_sr hP ?_
 refine RK.G2 hT rfl rfl rfl rfl rfl rfl ?_
 refine RK.V (Eff.call0 (int_Sign _)) ?_
 refine RK.V (op_lss rfl rfl) ?_
 refine RK.D ?_
 refine AWp_cond rfl (fun hb1 => ?_) (fun hb1 => ?_)
 ·have hb1_ := of_decide_eq_true hb1
  have he := he1 (sgn_lt_iff.1 (of_decide_eq_true hb1))
  refine AWp_region hP ?_
  refine RK.V (op_load_agg hT rfl rfl rfl rfl (cs := [_, _, _, _]) rfl rfl) ?_
  refine RK.V (op_load_agg hT rfl rfl rfl rfl (cs := [_, _, _, _]) rfl rfl) ?_
  refine RK.G2 hT rfl rfl rfl rfl rfl rfl ?_
  refine RK.V (Eff.call0 cM) ?_
  refine RK.V (op_move (rfl : _ = AV.t _)) ?_
  refine RK.V (op_extract rfl (v := .a _) rfl) ?_
  refine RK.V (op_extract rfl (v := .c _) rfl) ?_
  refine RK.S hT rfl rfl rfl rfl rfl rfl rfl ?_
  refine RK.D ?_
  refine AWp_sr hP ?_
  refine RK.G2 hT rfl rfl rfl rfl rfl rfl ?_
  refine RK.V (op_load_agg hT rfl rfl rfl rfl (cs := [_, _, _, _]) rfl rfl) ?_
  refine RK.V (op_build_st hT rfl rfl rfl (es := [_, _, _, _, _, _]) rfl) ?_
  refine RK.S hT rfl rfl rfl rfl rfl rfl rfl ?_
  refine RK.As rfl ?_
  refine RK.D ?_
  refine AWp_ret ?_
  refine ends_two rfl (.inr rfl) (res_cell_agg hT rfl rfl rfl rfl (cs := [_, _, _, _, _, _]) rfl rfl) (res_tmp rfl) ?_ O_ends
  exact Sub.of_eq (by rw [← he])
 ·have hb1_ := of_decide_eq_false hb1
  have he := he2 (fun z => of_decide_eq_false hb1 (sgn_lt_iff.2 z))
  refine AWp_skip ?_
  refine AWp_sr hP ?_
  refine RK.G2 hT rfl rfl rfl rfl rfl rfl ?_
  refine RK.V (op_load_agg hT rfl rfl rfl rfl (cs := [_, _, _, _]) rfl rfl) ?_
  refine RK.V (op_build_st hT rfl rfl rfl (es := [_, _, _, _, _, _]) rfl) ?_
  refine RK.S hT rfl rfl rfl rfl rfl rfl rfl ?_
  refine RK.As rfl ?_
  refine RK.D ?_
  refine AWp_ret ?_
  refine ends_two rfl (.inr rfl) (res_cell_agg hT rfl rfl rfl rfl (cs := [_, _, _, _, _, _]) rfl rfl) (res_tmp rfl) ?_ O_ends
  exact Sub.of_eq (by rw [← he])
/- algorist/pell.right -/
set_option maxHeartbeats 2000000 in
set_option maxRecDepth 100000 in
theorem pl_right (d : Int) (n m c : Nat) (y : Fm × Mt) (u eta : Qd) (h : DD d n m c y u eta) (k : Int) (hk0 : k ≠ 0) (hk : k.natAbs ≤ 4096) :
  Call0 Tryz.prog 25 [I d, I k] (.t [.a (flC d eta), PE 0]) := by
 have cO := pl_order d n m c y u eta h
 refine callM_of (np := 0) Tryz.func25 (by kernel_rfl) rfl rfl (Nat.le_of_ble_eq_true rfl) (fun m h => absurd rfl h) (fun m h => absurd rfl h) rfl ?_
 refine AWp_sr hP ?_
 refine RK.alc guard_none (op_box rfl rfl) ?_
 refine RK.alc guard_none (op_box rfl rfl) ?_
 refine RK.alc guard_none (op_alloc hT rfl rfl) ?_
 refine RK.As rfl ?_
 refine RK.D ?_
 refine AWp_sr hP ?_
 refine RK.G2 hT rfl rfl rfl rfl rfl rfl ?_
 refine RK.V (Eff.call0 cO) ?_
 refine RK.V (op_move (rfl : _ = AV.t _)) ?_
 refine RK.V (op_extract rfl (v := .a _) rfl) ?_
 refine RK.V (op_extract rfl (v := .c _) rfl) ?_
 refine RK.alc guard_none (op_alloc hT rfl rfl) ?_
 refine RK.S hT rfl rfl rfl rfl rfl rfl rfl ?_
 refine RK.As rfl ?_
 refine RK.D ?_
 refine AWp_seq ?_
 refine AWp_block ?_
 refine AWp_sr hP ?_
 refine RK.M rfl ?_
 refine RK.V (op_neq rfl rfl) ?_
 refine RK.As rfl ?_
 refine RK.D ?_
 refine AWp_cond_false rfl rfl ?_
 refine AWp_sr hP ?_
 refine RK.G2 hT rfl rfl rfl rfl rfl rfl ?_
 refine RK.V (Eff.call0 (pl_zero _)) ?_
 refine RK.As rfl ?_
 refine RK.D ?_
 refine AWp_cond_false rfl (decide_eq_false hk0) ?_
 refine AWp_sr hP ?_
 refine RK.G2 hT rfl rfl rfl rfl rfl rfl ?_
 refine RK.V (Eff.call0 (int_Abs _)) ?_
 refine RK.V (Eff.call0 (int_Of _ (by decide))) ?_
 refine RK.V (Eff.call0 (int_Cmp _ _)) ?_
 refine RK.V (op_gtr rfl rfl) ?_
 refine RK.As rfl ?_
 refine RK.D ?_
 refine AWp_cond_false rfl (decide_eq_false fun e => by have := cmpI_gt_zero.1 e; omega) ?_
 refine AWp_skip ?_
 refine AWp_sr hP ?_
 refine RK.G6 hT rfl rfl rfl rfl rfl rfl ?_
 refine RK.S hT rfl rfl rfl rfl rfl rfl rfl ?_
 refine RK.As rfl ?_
 refine RK.D ?_
 refine AWp_ret ?_
 refine ends_two rfl (.inr rfl) (res_cell_agg hT rfl rfl rfl rfl (cs := [_, _, _, _, _, _]) rfl rfl) (res_tmp rfl) ?_ O_ends
 exact .refl _
/- (algorist/pell.field).walk -/
set_option maxHeartbeats 1000000 in
set_option maxRecDepth 100000 in
theorem pl_walk (d : Int) (eta q b : Qd) :
  CallH Tryz.prog 67 [.p (.a (flC d eta)), QA q, QA b] 102 [QL b, flC d eta] (⟨false, 1, 45, QL q⟩) := by
 refine callH_of Tryz.func67 (by kernel_rfl) rfl rfl (Nat.le_of_ble_eq_true rfl) ?_
 refine AWp_sr hP ?_
 refine RK.alc guard_none (op_box rfl rfl) ?_
 refine RK.alc guard_none (op_box rfl rfl) ?_
 refine RK.alc guard_none (op_box rfl rfl) ?_
 refine RK.As rfl ?_
 refine RK.D ?_
 refine AWp_freezeBox (t := 3) rfl rfl ?_
 refine AWp_freezeBox (t := 5) rfl rfl ?_
 refine AWp_sr hP ?_
 refine RK.V (op_makeFuncF2 rfl rfl rfl) ?_
 refine RK.V (op_assign (rfl : _ = AV.axm _ _)) ?_
 refine RK.D ?_
 refine AWp_ret ?_
 exact ⟨.inr rfl, 6, 4, rfl, rfl, rfl⟩
/- (algorist/pell.field).walk$1 -/
set_option maxHeartbeats 4000000 in
set_option maxRecDepth 100000 in
theorem pl_walk1 (d : Int) (eta q b : Qd) (K : Nat) (hd : DOK d) (hb : LQ 12 b) (eb : evB b d = true) (hok : ∀ k, k < K → LQ 12 (wk d b q k) ∧ evB (wk d b q k) d = true) (hK0 : 0 < K) :
  IterF Tryz.prog 102 (⟨false, 1, 45, QL q⟩) [QL b, flC d eta] ((List.range K).map fun k => [PQ (upQ (wk d b q (k + 1)))]) := by
 have hxl := wk_len (d := d) (b := b) (q := q) (K := K)
 have hxg := fun i h => wk_get (d := d) (b := b) (q := q) (K := K) (i := i) h
 generalize hxs : ((List.range K).map fun k => ([PQ (upQ (wk d b q (k + 1)))] : List PV)) = xs at hxl hxg ⊢
 refine iterF_of Tryz.func102 (by kernel_rfl) rfl rfl (Nat.le_of_ble_eq_true rfl) rfl rfl ?_
 intro l n0 J hK hst
 refine AE_of hK.toKeepsB ?_
 have hst2 : ∀ h G W, ¬ J K h G W := by rw [← hxl]; exact hst
 refine AK_block ?_
 refine AK_loop (ι := Nat) (fun i => stL [(0, .p (.c (.v (.func (.yield l) #[] #[])))), (1, .loc 1 0), (2, .ip (QL b)), (3, .ip (flC d eta))] [(1, ⟨false, 1, 45, QL (wk d b q i)⟩)]) (fun i => i) (fun i => i ≤ K) (fun i => K - i) 0 (Nat.zero_le _) rfl (le_stL ⟨.refl _, .refl _, .refl _, .refl _, trivial⟩ ⟨rfl, trivial⟩) ?_
 intro i hi
 by_cases hiK : i = K
 ·subst hiK; exact AK_dead hK.toKeepsB hst2
 have hox := hok i (by omega)
 have hgt := hxg i (by omega)
 have hn : wk d b q (i + 1) = qmF (wk d b q i) b d := rfl
 rw [hn] at hgt
 generalize wk d b q i = w at hox hgt hn ⊢
 have cM := un_Mul w b d hd (hox.1.mono (by decide)) (hb.mono (by decide)) hox.2 eb
 generalize qmF w b d = w2 at cM hgt hn
 have cU := pl_upright w2
 refine AK_block ?_
 refine AK_seq ?_
 refine AK_region hP ?_
 refine RK.V (op_load_agg hT rfl rfl rfl rfl (cs := QL w) rfl rfl) ?_
 refine RK.V (op_load_ip_agg hT rfl rfl rfl (cs := QL b) rfl rfl) ?_
 refine RK.V (op_field_ip hT rfl rfl rfl rfl rfl rfl) ?_
 refine RK.V (op_load_ip_agg hT rfl rfl rfl (cs := [_, _]) rfl rfl) ?_
 refine RK.V (Eff.call0 cM) ?_
 refine RK.V (op_move (rfl : _ = AV.t _)) ?_
 refine RK.V (op_extract rfl (v := .a _) rfl) ?_
 refine RK.V (op_extract rfl (v := .c _) rfl) ?_
 refine RK.S hT rfl rfl rfl rfl rfl rfl rfl ?_
 refine RK.D ?_
 refine AK_seq ?_
 refine AK_regionY ?_
 refine RY.val guard_none (op_move (rfl : _ = AV.p (.c _))) ?_
 refine RY.val guard_none (op_load_agg hT rfl rfl rfl rfl (cs := [_, _, _, _]) rfl rfl) ?_
 refine RY.val guard_none (Eff.call0 cU) ?_
 refine RY.yield hK guard_none rfl rfl hgt ?_
 intro b2
 refine RY.val guard_none (op_unot rfl) ?_
 refine RY.done ?_
 refine AK_cond rfl (fun hb1 => ?_) (fun hb1 => ?_)
 ·have hb1_ := (notT hb1)
  have hbf := notT hb1
  refine AK_ret ?_
  refine ⟨.inr rfl, ?_⟩
  exact hxl ▸ nx_f hbf
 ·have hb1_ := (notF hb1)
  have hbt := notF hb1
  refine AK_skip ?_
  refine ⟨i + 1, by omega, by omega, (by rw [nx_t hbt]), le_stL ⟨.refl _, .refl _, .refl _, .refl _, trivial⟩ ⟨Eq.trans rfl (congrArg (fun z : Qd => some (⟨false, 1, 45, QL z⟩ : Blk)) hn.symm), trivial⟩⟩
/- (algorist/pell.field).least -/
set_option maxHeartbeats 8000000 in
set_option maxRecDepth 100000 in
theorem pl_least (d : Int) (eta q : Qd) (n1 n2 : Nat) (e1 e2 : Qd) (hd : DOK d) (he : LQ 12 eta) (ee : evB eta d = true) (h1 : LsT d eta (upQ q) n1 e1) (h2 : LsT d (cjQ eta) e1 n2 e2) :
  Call0 Tryz.prog 28 [.p (.a (flC d eta)), QA q] (QA e2) := by
 have w1 := pl_walk1 d eta (upQ q) eta (n1 + 1) hd he ee (fun k hk => h1.ok k (by omega)) (by omega)
 have w2 := pl_walk1 d eta e1 (cjQ eta) (n2 + 1) hd ⟨he.x, he.y.neg⟩ (ev_cj ee) (fun k hk => h2.ok k (by omega)) (by omega)
 have cU := pl_upright q
 generalize hu : upQ q = v at cU h1 w1
 have cW1 := pl_walk d eta v eta
 have cW2 := pl_walk d eta e1 (cjQ eta)
 refine callM_of (np := 0) Tryz.func28 (by kernel_rfl) rfl rfl (Nat.le_of_ble_eq_true rfl) (fun m h => absurd rfl h) (fun m h => absurd rfl h) rfl ?_
 refine AWp_sr hP ?_
 refine RK.alc guard_none (op_box rfl rfl) ?_
 refine RK.alc guard_none (op_box rfl rfl) ?_
 refine RK.alc guard_none (op_alloc hT rfl rfl) ?_
 refine RK.D ?_
 refine AWp_sr hP ?_
 refine RK.V (op_load_agg hT rfl rfl rfl rfl (cs := [_, _, _, _]) rfl rfl) ?_
 refine RK.V (Eff.call0 cU) ?_
 refine RK.alc guard_none (op_alloc hT rfl rfl) ?_
 refine RK.S hT rfl rfl rfl rfl rfl rfl rfl ?_
 refine RK.D ?_
 refine AWp_seq ?_
 refine AWp_sr hP ?_
 refine RK.F hT rfl rfl rfl rfl rfl rfl ?_
 refine RK.V (op_load_agg hT rfl rfl rfl rfl (cs := [_, _, _, _]) rfl rfl) ?_
 refine RK.F hT rfl rfl rfl rfl rfl rfl ?_
 refine RK.V (op_load_agg hT rfl rfl rfl rfl (cs := [_, _, _, _]) rfl rfl) ?_
 refine RK.V (Eff.call0 (pl_conjugate _)) ?_
 refine RK.V (op_bslice hT rfl rfl rfl (es := [_, _, _, _, _, _, _, _]) rfl rfl rfl) ?_
 refine RK.V (op_len hT rfl rfl rfl rfl) ?_
 refine RK.M rfl ?_
 refine RK.D ?_
 refine AWp_block ?_
 refine AWp_unroll 3 ?_
 refine AWp_sr hP ?_
 refine RK.V (op_lss rfl rfl) ?_
 refine RK.D ?_
 refine AWp_seq ?_
 refine AWp_cond_true rfl (by decide) ?_
 refine AWp_skip ?_
 refine AWp_seq ?_
 refine AWp_block ?_
 refine AWp_sr hP ?_
 refine RK.V (by first | exact op_index_WN hT rfl rfl rfl rfl rfl rfl (by omega) | exact op_index_sl hT rfl rfl rfl rfl rfl rfl (by omega) (by first | exact W_ne (by omega) | simp)) ?_
 refine RK.V (op_load_ip_agg hT rfl rfl rfl (cs := [_, _, _, _]) rfl rfl) ?_
 refine RK.alc guard_none (op_alloc hT rfl rfl) ?_
 refine RK.S hT rfl rfl rfl rfl rfl rfl rfl ?_
 refine RK.D ?_
 refine AWp_sr hP ?_
 refine RK.G6 hT rfl rfl rfl rfl rfl rfl ?_
 refine RK.V (op_load_agg hT rfl rfl rfl rfl (cs := [_, _, _, _]) rfl rfl) ?_
 refine RK.V (op_load_agg hT rfl rfl rfl rfl (cs := [_, _, _, _]) rfl rfl) ?_
 refine RK.alc guard_none (Eff.callH cW1) ?_
 refine RK.D ?_
 refine AWp_block ?_
 refine AWp_le (t := stL [(25, .axm (FlP 102 [QL eta, flC d eta]) 25), (2, .loc 2 0), (4, .loc 4 0), (5, .loc 5 0), (16, .p (.c (.sl 2 [zn eta.1, zm eta.1, zn eta.2, zm eta.2, zn (cjQ eta).1, zm (cjQ eta).1, zn (cjQ eta).2, zm (cjQ eta).2]))), (17, Z 2), (18, Z 0)] ((25, ⟨false, 1, 45, QL v⟩) :: [(2, ⟨false, 1, 68, flC d eta⟩), (4, ⟨false, 1, 45, [zn 0, zm 0, zn 0, zm 0]⟩), (5, ⟨false, 1, 45, QL (v)⟩)])) (le_stL ⟨.refl _, .refl _, .refl _, .refl _, .refl _, .refl _, .refl _, trivial⟩ ⟨rfl, rfl, rfl, rfl, trivial⟩) ?_
 refine AWp_rangeF (l := [(2, .loc 2 0), (4, .loc 4 0), (5, .loc 5 0), (16, .p (.c (.sl 2 [zn eta.1, zm eta.1, zn eta.2, zm eta.2, zn (cjQ eta).1, zm (cjQ eta).1, zn (cjQ eta).2, zm (cjQ eta).2]))), (17, Z 2), (18, Z 0)]) (o := lookO ((25, ⟨false, 1, 45, QL v⟩) :: [(2, ⟨false, 1, 68, flC d eta⟩), (4, ⟨false, 1, 45, [zn 0, zm 0, zn 0, zm 0]⟩), (5, ⟨false, 1, 45, QL (bst d eta v 0)⟩)])) 6 (fun k => lookO [(2, ⟨false, 1, 68, flC d eta⟩), (4, ⟨false, 1, 45, [zn 0, zm 0, zn 0, zm 0]⟩), (5, ⟨false, 1, 45, QL (bst d eta v k)⟩)]) (fun k => k ≤ n1) w1 rfl rfl rfl rfl (own_less rfl) wk_one rfl rfl rfl (Nat.zero_le _) (fun k x hx hI => ?_) (by rw [wk_len]; omega)
 ·obtain ⟨hk, rfl⟩ := wk_at hx
  have hyes : ¬ cpQ (upQ (wk d eta v (k + 1))) (bst d eta v k) < 0 → k = n1 := fun q => by
   rcases Nat.lt_or_ge k n1 with e | e
   ·exact absurd (h1.go k e) q
   ·omega
  have hno : cpQ (upQ (wk d eta v (k + 1))) (bst d eta v k) < 0 → k + 1 ≤ n1 := fun q => by
   rcases Nat.lt_or_ge k n1 with e | e
   ·exact e
   ·have e2 : k = n1 := by omega
    rw [e2] at q; exact absurd q h1.stop
  have hbx : bst d eta v (k + 1) = upQ (wk d eta v (k + 1)) := rfl
  generalize upQ (wk d eta v (k + 1)) = p at hyes hno hbx ⊢
  have hbk : k = n1 → bst d eta v k = e1 := fun q => by rw [q]; exact h1.eq
  generalize hbq : bst d eta v k = bk at hyes hno hbk ⊢
  have cC := pl_compare p bk
  refine AWp_region hP ?_
  refine RK.alc guard_none (op_alloc hT rfl rfl) ?_
  refine RK.S hT rfl rfl rfl rfl rfl rfl rfl ?_
  refine RK.D ?_
  refine AWp_block ?_
  refine AWp_seq ?_
  refine AWp_sr hP ?_
  refine RK.V (op_load_agg hT rfl rfl rfl rfl (cs := [_, _, _, _]) rfl rfl) ?_
  refine RK.V (op_load_agg hT rfl rfl rfl rfl (cs := [_, _, _, _]) rfl rfl) ?_
  refine RK.V (Eff.call0 cC) ?_
  refine RK.V (op_geq rfl rfl) ?_
  refine RK.D ?_
  refine AWp_cond rfl (fun hb1 => ?_) (fun hb1 => ?_)
  ·have hb1_ := of_decide_eq_true hb1
   have hkn := hyes (Int.not_lt.2 (of_decide_eq_true hb1))
   have hbe := hbk hkn
   refine AWp_exit ?_
   refine ⟨_, GW.forget fun _ => .inl rfl, ?_⟩
   refine AWp_le (t := stL [(2, .loc 2 0), (4, .loc 4 0), (5, .loc 5 0), (16, .p (.c (.sl 2 [zn eta.1, zm eta.1, zn eta.2, zm eta.2, zn (cjQ eta).1, zm (cjQ eta).1, zn (cjQ eta).2, zm (cjQ eta).2]))), (17, Z 2), (18, Z 0)] [(2, ⟨false, 1, 68, flC d eta⟩), (4, ⟨false, 1, 45, [zn 0, zm 0, zn 0, zm 0]⟩), (5, ⟨false, 1, 45, QL e1⟩)]) (le_stL ⟨.refl _, .refl _, .refl _, .refl _, .refl _, .refl _, trivial⟩ ⟨rfl, rfl, Eq.trans rfl (congrArg (fun z : Qd => some (⟨false, 1, 45, QL z⟩ : Blk)) hbe), trivial⟩) ?_
   refine AWp_region hP ?_
   refine RK.V (op_add rfl rfl (by first | exact IntWalk.i64_in _ (by omega) | rfl)) ?_
   refine RK.M rfl ?_
   refine RK.D ?_
   refine AWp_sr hP ?_
   refine RK.V (op_lss rfl rfl) ?_
   refine RK.D ?_
   refine AWp_seq ?_
   refine AWp_cond_true rfl (by decide) ?_
   refine AWp_skip ?_
   refine AWp_seq ?_
   refine AWp_block ?_
   refine AWp_sr hP ?_
   refine RK.V (by first | exact op_index_WN hT rfl rfl rfl rfl rfl rfl (by omega) | exact op_index_sl hT rfl rfl rfl rfl rfl rfl (by omega) (by first | exact W_ne (by omega) | simp)) ?_
   refine RK.V (op_load_ip_agg hT rfl rfl rfl (cs := [_, _, _, _]) rfl rfl) ?_
   refine RK.alc guard_none (op_alloc hT rfl rfl) ?_
   refine RK.S hT rfl rfl rfl rfl rfl rfl rfl ?_
   refine RK.D ?_
   refine AWp_sr hP ?_
   refine RK.G6 hT rfl rfl rfl rfl rfl rfl ?_
   refine RK.V (op_load_agg hT rfl rfl rfl rfl (cs := [_, _, _, _]) rfl rfl) ?_
   refine RK.V (op_load_agg hT rfl rfl rfl rfl (cs := [_, _, _, _]) rfl rfl) ?_
   refine RK.alc guard_none (Eff.callH cW2) ?_
   refine RK.D ?_
   refine AWp_block ?_
   refine AWp_le (t := stL [(25, .axm (FlP 102 [QL (cjQ eta), flC d eta]) 25), (2, .loc 2 0), (4, .loc 4 0), (5, .loc 5 0), (16, .p (.c (.sl 2 [zn eta.1, zm eta.1, zn eta.2, zm eta.2, zn (cjQ eta).1, zm (cjQ eta).1, zn (cjQ eta).2, zm (cjQ eta).2]))), (17, Z 2), (18, Z 1)] ((25, ⟨false, 1, 45, QL e1⟩) :: [(2, ⟨false, 1, 68, flC d eta⟩), (4, ⟨false, 1, 45, [zn 0, zm 0, zn 0, zm 0]⟩), (5, ⟨false, 1, 45, QL (e1)⟩)])) (le_stL ⟨.refl _, .refl _, .refl _, .refl _, .refl _, .refl _, .refl _, trivial⟩ ⟨rfl, rfl, rfl, rfl, trivial⟩) ?_
   refine AWp_rangeF (l := [(2, .loc 2 0), (4, .loc 4 0), (5, .loc 5 0), (16, .p (.c (.sl 2 [zn eta.1, zm eta.1, zn eta.2, zm eta.2, zn (cjQ eta).1, zm (cjQ eta).1, zn (cjQ eta).2, zm (cjQ eta).2]))), (17, Z 2), (18, Z 1)]) (o := lookO ((25, ⟨false, 1, 45, QL e1⟩) :: [(2, ⟨false, 1, 68, flC d eta⟩), (4, ⟨false, 1, 45, [zn 0, zm 0, zn 0, zm 0]⟩), (5, ⟨false, 1, 45, QL (bst d (cjQ eta) e1 0)⟩)])) 6 (fun k => lookO [(2, ⟨false, 1, 68, flC d eta⟩), (4, ⟨false, 1, 45, [zn 0, zm 0, zn 0, zm 0]⟩), (5, ⟨false, 1, 45, QL (bst d (cjQ eta) e1 k)⟩)]) (fun k => k ≤ n2) w2 rfl rfl rfl rfl (own_less rfl) wk_one rfl rfl rfl (Nat.zero_le _) (fun k x hx hI => ?_) (by rw [wk_len]; omega)
   ·obtain ⟨hk, rfl⟩ := wk_at hx
    have hyes : ¬ cpQ (upQ (wk d (cjQ eta) e1 (k + 1))) (bst d (cjQ eta) e1 k) < 0 → k = n2 := fun q => by
     rcases Nat.lt_or_ge k n2 with e | e
     ·exact absurd (h2.go k e) q
     ·omega
    have hno : cpQ (upQ (wk d (cjQ eta) e1 (k + 1))) (bst d (cjQ eta) e1 k) < 0 → k + 1 ≤ n2 := fun q => by
     rcases Nat.lt_or_ge k n2 with e | e
     ·exact e
     ·have e2 : k = n2 := by omega
      rw [e2] at q; exact absurd q h2.stop
    have hbx : bst d (cjQ eta) e1 (k + 1) = upQ (wk d (cjQ eta) e1 (k + 1)) := rfl
    generalize upQ (wk d (cjQ eta) e1 (k + 1)) = p at hyes hno hbx ⊢
    have hbk : k = n2 → bst d (cjQ eta) e1 k = e2 := fun q => by rw [q]; exact h2.eq
    generalize hbq : bst d (cjQ eta) e1 k = bk at hyes hno hbk ⊢
    have cC := pl_compare p bk
    refine AWp_region hP ?_
    refine RK.alc guard_none (op_alloc hT rfl rfl) ?_
    refine RK.S hT rfl rfl rfl rfl rfl rfl rfl ?_
    refine RK.D ?_
    refine AWp_block ?_
    refine AWp_seq ?_
    refine AWp_sr hP ?_
    refine RK.V (op_load_agg hT rfl rfl rfl rfl (cs := [_, _, _, _]) rfl rfl) ?_
    refine RK.V (op_load_agg hT rfl rfl rfl rfl (cs := [_, _, _, _]) rfl rfl) ?_
    refine RK.V (Eff.call0 cC) ?_
    refine RK.V (op_geq rfl rfl) ?_
    refine RK.D ?_
    refine AWp_cond rfl (fun hb2 => ?_) (fun hb2 => ?_)
    ·have hb2_ := of_decide_eq_true hb2
     have hkn := hyes (Int.not_lt.2 (of_decide_eq_true hb2))
     have hbe := hbk hkn
     refine AWp_exit ?_
     refine ⟨_, GW.forget fun _ => .inl rfl, ?_⟩
     refine AWp_le (t := stL [(2, .loc 2 0), (4, .loc 4 0), (5, .loc 5 0), (16, .p (.c (.sl 2 [zn eta.1, zm eta.1, zn eta.2, zm eta.2, zn (cjQ eta).1, zm (cjQ eta).1, zn (cjQ eta).2, zm (cjQ eta).2]))), (17, Z 2), (18, Z 1)] [(2, ⟨false, 1, 68, flC d eta⟩), (4, ⟨false, 1, 45, [zn 0, zm 0, zn 0, zm 0]⟩), (5, ⟨false, 1, 45, QL e2⟩)]) (le_stL ⟨.refl _, .refl _, .refl _, .refl _, .refl _, .refl _, trivial⟩ ⟨rfl, rfl, Eq.trans rfl (congrArg (fun z : Qd => some (⟨false, 1, 45, QL z⟩ : Blk)) hbe), trivial⟩) ?_
     refine AWp_region hP ?_
     refine RK.V (op_add rfl rfl (by first | exact IntWalk.i64_in _ (by omega) | rfl)) ?_
     refine RK.M rfl ?_
     refine RK.D ?_
     refine AWp_sr hP ?_
     refine RK.V (op_lss rfl rfl) ?_
     refine RK.D ?_
     refine AWp_seq ?_
     refine AWp_cond_false rfl (by decide) ?_
     refine AWp_exit ?_
     refine AWp_sr hP ?_
     refine RK.V (op_load_agg hT rfl rfl rfl rfl (cs := [_, _, _, _]) rfl rfl) ?_
     refine RK.S hT rfl rfl rfl rfl rfl rfl rfl ?_
     refine RK.D ?_
     refine AWp_ret ?_
     refine ends_one rfl (.inr rfl) (res_cell_agg hT rfl rfl rfl rfl (cs := [_, _, _, _]) rfl rfl) ?_ O_ends
     exact .refl _
    ·have hb2_ := of_decide_eq_false hb2
     have hq := of_decide_eq_false hb2
     refine AWp_skip ?_
     refine AWp_region hP ?_
     refine RK.V (op_load_agg hT rfl rfl rfl rfl (cs := [_, _, _, _]) rfl rfl) ?_
     refine RK.S hT rfl rfl rfl rfl rfl rfl rfl ?_
     refine RK.D ?_
     exact ⟨GW.forget_as (congrArg (fun z : Qd => lookO [(2, ⟨false, 1, 68, flC d eta⟩), (4, ⟨false, 1, 45, [zn 0, zm 0, zn 0, zm 0]⟩), (5, ⟨false, 1, 45, QL z⟩)]) hbx.symm) (fun x => SubO.own (l := [(2, ⟨false, 1, 68, flC d eta⟩), (4, ⟨false, 1, 45, [zn 0, zm 0, zn 0, zm 0]⟩), (5, ⟨false, 1, 45, QL p⟩)]) ⟨rfl, rfl, rfl, trivial⟩ x), hno (Int.not_le.1 hq)⟩
  ·have hb1_ := of_decide_eq_false hb1
   have hq := of_decide_eq_false hb1
   refine AWp_skip ?_
   refine AWp_region hP ?_
   refine RK.V (op_load_agg hT rfl rfl rfl rfl (cs := [_, _, _, _]) rfl rfl) ?_
   refine RK.S hT rfl rfl rfl rfl rfl rfl rfl ?_
   refine RK.D ?_
   exact ⟨GW.forget_as (congrArg (fun z : Qd => lookO [(2, ⟨false, 1, 68, flC d eta⟩), (4, ⟨false, 1, 45, [zn 0, zm 0, zn 0, zm 0]⟩), (5, ⟨false, 1, 45, QL z⟩)]) hbx.symm) (fun x => SubO.own (l := [(2, ⟨false, 1, 68, flC d eta⟩), (4, ⟨false, 1, 45, [zn 0, zm 0, zn 0, zm 0]⟩), (5, ⟨false, 1, 45, QL p⟩)]) ⟨rfl, rfl, rfl, trivial⟩ x), hno (Int.not_le.1 hq)⟩
end Go.Proofs.YtfdjankalhfceaaGreat
end

section
/- pell: proper -/
namespace Go.Proofs.YtfdjankalhfceaaGreat
open Go Go.AM
/- (algorist/pell.field).proper$1 -/
set_option maxHeartbeats 8000000 in
set_option maxRecDepth 100000 in
theorem pl_proper1 (d : Int) (n m c : Nat) (y : Fm × Mt) (u eta : Qd) (h : DD d n m c y u eta) (k : Int) (_hk0 : k ≠ 0) (hk : k.natAbs ≤ 4096) (hz : ∀ b : Nat, b < 2 * k.natAbs → ((b : Int) * (b : Int) - d) % (4 * k) = 0 → ∃ n, RdT (rootV d) (gB d k b) n (zB d k b)) :
  Iter2 Tryz.prog 63 [flC d eta, [.v (.int .i64 k)]] (xsP d y c k) := by
 have id : LB d 6 := ⟨h.dok.L6⟩
 have hdlo := h.dok.lo
 have hdhi := h.dok.hi
 have cP : Call0 Tryz.prog 8 [I d] (.t [PF (prD d), PE 0]) := by
  have h9 := q_Principal d lz
  rwa [(rf_ok h.dok).1, (rf_ok h.dok).2] at h9
 have cLw := int_Low d (by omega) (by omega)
 have hd4 : 0 ≤ d % 4 ∧ d % 4 < 4 := ⟨Int.emod_nonneg _ (by decide), Int.emod_lt_of_pos _ (by decide)⟩
 have i4 : LB (d % 4) 2 := ⟨by unfold L; omega⟩
 have hoy : OKX y := by have := h.rd.ok n (Nat.le_refl _); rwa [h.rd.eq] at this
 have hxl := xsP_len (d := d) (y := y) (c := c) (m := k)
 have hxg := fun i q1 q2 => xsP_get (d := d) (y := y) (c := c) (m := k) (i := i) q1 q2
 generalize hxs : xsP d y c k = xs at hxl hxg ⊢
 refine iter2_of Tryz.func63 (by kernel_rfl) rfl rfl (Nat.le_of_ble_eq_true rfl) rfl ?_
 intro l n0 J hK
 refine AE_of hK.toKeepsB ?_
 refine AK_seq ?_
 refine AK_region hP ?_
 refine RK.V (op_field_ip hT rfl rfl rfl rfl rfl rfl) ?_
 refine RK.V (op_load_ip_agg hT rfl rfl rfl (cs := [_, _]) rfl rfl) ?_
 refine RK.V (Eff.call0 cP) ?_
 refine RK.V (op_move (rfl : _ = AV.t _)) ?_
 refine RK.V (op_extract rfl (v := .a _) rfl) ?_
 refine RK.V (op_extract rfl (v := .c _) rfl) ?_
 refine RK.alc guard_none (op_alloc hT rfl rfl) ?_
 refine RK.S hT rfl rfl rfl rfl rfl rfl rfl ?_
 refine RK.As rfl ?_
 refine RK.D ?_
 refine AK_seq ?_
 refine AK_region hP ?_
 refine RK.V (op_field_ip hT rfl rfl rfl rfl rfl rfl) ?_
 refine RK.V (op_load_ip_agg hT rfl rfl rfl (cs := [_, _]) rfl rfl) ?_
 refine RK.V (Eff.call0 cLw) ?_
 refine RK.V (op_move (rfl : _ = AV.t _)) ?_
 refine RK.V (op_extract rfl (v := .c _) rfl) ?_
 refine RK.V (op_extract rfl (v := .c _) rfl) ?_
 refine RK.As rfl ?_
 refine RK.As rfl ?_
 refine RK.D ?_
 refine AK_seq ?_
 refine AK_region hP ?_
 refine RK.V (op_load_ip_one hT rfl rfl rfl (by first | rfl | exact wget (by omega))) ?_
 refine RK.V (op_load_ip_one hT rfl rfl rfl (by first | rfl | exact wget (by omega))) ?_
 refine RK.V (op_uneg rfl (c := -k) (by rw [IntKind.wrap_i64]; omega)) ?_
 refine RK.V (op_max rfl rfl) ?_
 refine RK.V (op_mul rfl rfl (c := 2 * (k.natAbs : Int)) (by rw [show (if -k > k then -k else k) = (k.natAbs : Int) by split <;> omega, IntKind.wrap_i64]; omega)) ?_
 refine RK.M rfl ?_
 refine RK.D ?_
 refine AK_block ?_
 refine AK_loop (ι := Nat) (fun i => stL [(0, .p (.c (.v (.func (.yield l) #[] #[])))), (1, .ip (flC d eta)), (2, .ip [.v (.int .i64 k)]), (4, .loc 4 0), (6, Z d), (28, Z (2 * (k.natAbs : Int))), (29, Z (i : Int))] [(4, ⟨false, 1, 36, FL (prD d).a (prD d).b (prD d).c⟩)]) (fun i => flT (okP d y c k) i) (fun i => i ≤ 2 * k.natAbs) (fun i => 2 * k.natAbs - i) 0 (Nat.zero_le _) rfl (le_stL ⟨.refl _, .refl _, .refl _, .refl _, .refl _, .refl _, .refl _, trivial⟩ ⟨rfl, trivial⟩) ?_
 intro i hi
 refine AK_seq ?_
 refine AK_region hP ?_
 refine RK.V (op_lss rfl rfl) ?_
 refine RK.D ?_
 refine AK_seq ?_
 refine AK_cond rfl (fun hb1 => ?_) (fun hb1 => ?_)
 ·have hb1_ := of_decide_eq_true hb1
  have hii : i < 2 * k.natAbs := by omega
  have hsq : (i : Int) * (i : Int) ≤ 8192 * 8192 := Int.mul_le_mul (by omega) (by omega) (by omega) (by omega)
  have hsq0 : 0 ≤ (i : Int) * (i : Int) := Int.mul_nonneg (by omega) (by omega)
  refine AK_skip ?_
  refine AK_seq ?_
  refine AK_block ?_
  refine AK_seq ?_
  refine AK_region hP ?_
  refine RK.M rfl ?_
  refine RK.As rfl ?_
  refine RK.D ?_
  refine AK_seq ?_
  refine AK_seq ?_
  refine AK_region hP ?_
  refine RK.M rfl ?_
  refine RK.M rfl ?_
  refine RK.V (op_mul rfl rfl (by first | exact IntWalk.i64_in _ (by omega) | rfl)) ?_
  refine RK.M rfl ?_
  refine RK.V (op_sub rfl rfl (by first | exact IntWalk.i64_in _ (by omega) | rfl)) ?_
  refine RK.V (op_load_ip_one hT rfl rfl rfl (by first | rfl | exact wget (by omega))) ?_
  refine RK.V (op_mul rfl rfl (by first | exact IntWalk.i64_in _ (by omega) | rfl)) ?_
  refine RK.V (op_rem rfl rfl (by omega) (c := ((i : Int) * (i : Int) - d).tmod (4 * k)) rfl) ?_
  refine RK.V (op_neq rfl rfl) ?_
  refine RK.D ?_
  refine AK_cond rfl (fun hb2 => ?_) (fun hb2 => ?_)
  ·have hb2_ := bneT hb2
   have hno : okP d y c k i = false := by
    have h9 := bneT hb2
    unfold okP; rw [decide_eq_false (fun q => h9 (tm0.2 q)), Bool.false_and]
   refine AK_exit ?_
   refine AK_region hP ?_
   refine RK.V (op_add rfl rfl (by first | exact IntWalk.i64_in _ (by omega) | rfl)) ?_
   refine RK.M rfl ?_
   refine RK.D ?_
   refine ⟨i + 1, by omega, by omega, flT_n hno, le_stL ⟨.refl _, .refl _, .refl _, .refl _, .refl _, .refl _, Sub.int (by omega), trivial⟩ ⟨rfl, trivial⟩⟩
  ·have hb2_ := bneF hb2
   have hdv : ((i : Int) * (i : Int) - d) % (4 * k) = 0 := tm0.1 (bneF hb2)
   have hqe : IntKind.i64.wrap (((i : Int) * (i : Int) - d).tdiv (4 * k)) = (((i : Int) * (i : Int) - d) / (4 * k)) := by
    rw [Int.tdiv_eq_ediv_of_dvd (Int.dvd_of_emod_eq_zero hdv), IntKind.wrap_i64]
    have h8 := Int.ediv_mul_cancel (Int.dvd_of_emod_eq_zero hdv)
    have h7 := Int.natAbs_ediv_le_natAbs ((i : Int) * (i : Int) - d) (4 * k)
    omega
   have h7 := Int.natAbs_ediv_le_natAbs ((i : Int) * (i : Int) - d) (4 * k)
   obtain ⟨ng, hrd⟩ := hz i hii hdv
   have hoz : OKX (zB d k i) := by have := hrd.ok ng (Nat.le_refl _); rwa [hrd.eq] at this
   have cSm := cy_Same d (prD d) (gB d k i) n ng c y (zB d k i) h.dok h.pd (gB_disc hdv) h.rd hrd h.ar
   have hML := smR_L h.ar hoy hoz
   have hsB : smR (rootV d) y (zB d k i) c = sB d y c k i := rfl
   rw [hsB] at cSm hML
   have hokE : okP d y c k i = (sB d y c k i).2 := by unfold okP; rw [decide_eq_true hdv, Bool.true_and]
   have hvE : vP d y c k i = ((sB d y c k i).1.a + (sB d y c k i).1.a + (d % 4) * (sB d y c k i).1.c, (sB d y c k i).1.c) := rfl
   generalize sB d y c k i = R at cSm hML hokE hvE
   have r1 : LB R.1.a 14 := ⟨hML.a⟩
   have r3 : LB R.1.c 14 := ⟨hML.c⟩
   refine AK_skip ?_
   refine AK_seq ?_
   refine AK_region hP ?_
   refine RK.G6 hT rfl rfl rfl rfl rfl rfl ?_
   refine RK.V (op_load_ip_one hT rfl rfl rfl (by first | rfl | exact wget (by omega))) ?_
   refine RK.V (Eff.call0 (int_Of k (by unfold InI64; omega))) ?_
   refine RK.M rfl ?_
   refine RK.V (Eff.call0 (int_Of (i : Int) (by unfold InI64; omega))) ?_
   refine RK.M rfl ?_
   refine RK.M rfl ?_
   refine RK.V (op_mul rfl rfl (by first | exact IntWalk.i64_in _ (by omega) | rfl)) ?_
   refine RK.M rfl ?_
   refine RK.V (op_sub rfl rfl (by first | exact IntWalk.i64_in _ (by omega) | rfl)) ?_
   refine RK.V (op_load_ip_one hT rfl rfl rfl (by first | rfl | exact wget (by omega))) ?_
   refine RK.V (op_mul rfl rfl (by first | exact IntWalk.i64_in _ (by omega) | rfl)) ?_
   refine RK.V (op_quo rfl rfl (by omega) (c := (((i : Int) * (i : Int) - d) / (4 * k))) hqe) ?_
   refine RK.V (Eff.call0 (int_Of (((i : Int) * (i : Int) - d) / (4 * k)) (by unfold InI64; omega))) ?_
   refine RK.V (op_build_st hT rfl rfl rfl (es := [_, _, _, _, _, _]) rfl) ?_
   refine RK.V (Eff.call0 cSm) ?_
   refine RK.V (op_move (rfl : _ = AV.t _)) ?_
   refine RK.V (op_extract rfl (v := .a _) rfl) ?_
   refine RK.V (op_extract rfl (v := .c _) rfl) ?_
   refine RK.alc guard_none (op_alloc hT rfl rfl) ?_
   refine RK.S hT rfl rfl rfl rfl rfl rfl rfl ?_
   refine RK.As rfl ?_
   refine RK.D ?_
   refine AK_seq ?_
   refine AK_seq ?_
   refine AK_region hP ?_
   refine RK.M rfl ?_
   refine RK.V (op_unot rfl) ?_
   refine RK.D ?_
   refine AK_cond rfl (fun hb3 => ?_) (fun hb3 => ?_)
   ·have hb3_ := (notT hb3)
    have hno : okP d y c k i = false := by rw [hokE]; exact notT hb3
    refine AK_exit ?_
    refine AK_region hP ?_
    refine RK.V (op_add rfl rfl (by first | exact IntWalk.i64_in _ (by omega) | rfl)) ?_
    refine RK.M rfl ?_
    refine RK.D ?_
    refine ⟨i + 1, by omega, by omega, flT_n hno, le_stL ⟨.refl _, .refl _, .refl _, .refl _, .refl _, .refl _, Sub.int (by omega), trivial⟩ ⟨rfl, trivial⟩⟩
   ·have hb3_ := (notF hb3)
    have hyes : okP d y c k i = true := by rw [hokE]; exact notF hb3
    have hgt := hxg i hyes hii
    rw [hvE] at hgt
    refine AK_skip ?_
    refine AK_seq ?_
    refine AK_region hP ?_
    refine RK.F hT rfl rfl rfl rfl rfl rfl ?_
    refine RK.G2 hT rfl rfl rfl rfl rfl rfl ?_
    refine RK.F hT rfl rfl rfl rfl rfl rfl ?_
    refine RK.G2 hT rfl rfl rfl rfl rfl rfl ?_
    refine RK.V (Eff.call0 (int_Add _ _ lz lz)) ?_
    refine RK.F hT rfl rfl rfl rfl rfl rfl ?_
    refine RK.G2 hT rfl rfl rfl rfl rfl rfl ?_
    refine RK.F hT rfl rfl rfl rfl rfl rfl ?_
    refine RK.G2 hT rfl rfl rfl rfl rfl rfl ?_
    refine RK.V (Eff.call0 (int_Mul _ _ lz lz)) ?_
    refine RK.V (Eff.call0 (int_Add _ _ lz lz)) ?_
    refine RK.alc guard_none (op_alloc hT rfl rfl) ?_
    refine RK.S hT rfl rfl rfl rfl rfl rfl rfl ?_
    refine RK.D ?_
    refine AK_seq ?_
    refine AK_regionY ?_
    refine RY.val guard_none (op_move (rfl : _ = AV.p (.c _))) ?_
    refine RY.val guard_none (op_load_agg hT rfl rfl rfl rfl (cs := [_, _]) rfl rfl) ?_
    refine RY.val guard_none (op_field_loc hT rfl rfl rfl rfl rfl rfl) ?_
    refine RY.val guard_none (op_load_agg hT rfl rfl rfl rfl (cs := [_, _]) rfl rfl) ?_
    refine RY.val guard_none (op_build_st hT rfl rfl rfl (es := [_, _, _, _]) rfl) ?_
    refine RY.yield hK guard_none rfl rfl hgt ?_
    intro b2
    refine RY.val guard_none (op_unot rfl) ?_
    refine RY.done ?_
    refine AK_cond rfl (fun hb4 => ?_) (fun hb4 => ?_)
    ·have hb4_ := (notT hb4)
     have hbf := notT hb4
     refine AK_ret ?_
     refine ⟨.inr rfl, ?_⟩
     exact nx_f hbf
    ·have hb4_ := (notF hb4)
     have hbt := notF hb4
     refine AK_skip ?_
     refine AK_region hP ?_
     refine RK.V (op_add rfl rfl (by first | exact IntWalk.i64_in _ (by omega) | rfl)) ?_
     refine RK.M rfl ?_
     refine RK.D ?_
     refine ⟨i + 1, by omega, by omega, (flT_y hyes).trans (nx_t hbt).symm, le_stL ⟨.refl _, .refl _, .refl _, .refl _, .refl _, .refl _, Sub.int (by omega), trivial⟩ ⟨rfl, trivial⟩⟩
 ·have hb1_ := of_decide_eq_false hb1
  refine AK_exit ?_
  refine ⟨.inl rfl, ?_⟩
  have e : i = 2 * k.natAbs := by omega
  rw [e, ← hxl]
  exact Nat.le_refl _
/- (algorist/pell.field).proper -/
set_option maxHeartbeats 1000000 in
set_option maxRecDepth 100000 in
theorem pl_proper (d : Int) (eta : Qd) (k : Int) :
  Call0 Tryz.prog 26 [.p (.a (flC d eta)), Z k] (.fn 63 [flC d eta, [.v (.int .i64 k)]]) := by
 refine callA_of Tryz.func26 (by kernel_rfl) rfl rfl (Nat.le_of_ble_eq_true rfl) rfl ?_
 refine AWp_sr hP ?_
 refine RK.alc guard_none (op_box rfl rfl) ?_
 refine RK.alc guard_none (op_box rfl rfl) ?_
 refine RK.As rfl ?_
 refine RK.D ?_
 refine AWp_freezeBox (t := 2) rfl rfl ?_
 refine AWp_freezeBox (t := 3) rfl rfl ?_
 refine AWp_sr hP ?_
 refine RK.V (op_makeFunc2 rfl rfl) ?_
 refine RK.V (op_assign (rfl : _ = AV.fn _ _)) ?_
 refine RK.D ?_
 refine AWp_ret ?_
 exact ⟨.inr rfl, 4, rfl, rfl⟩
end Go.Proofs.YtfdjankalhfceaaGreat
end

section
/- pell: sizes text; the sort -/
namespace Go.Proofs.YtfdjankalhfceaaGreat
open Go Go.AM
/- algorist/pell.sizes -/
set_option maxHeartbeats 4000000 in
set_option maxRecDepth 100000 in
theorem pl_sizes (z : Int) (hz : ((wl z.natAbs)).length ≤ 1000000) :
  Call0 Tryz.prog 70 [I z] (.p (.c (.v (kB (szB z))))) := by
 refine callM_of (np := 0) Tryz.func70 (by kernel_rfl) rfl rfl (Nat.le_of_ble_eq_true rfl) (fun m h => absurd rfl h) (fun m h => absurd rfl h) rfl ?_
 refine AWp_sr hP ?_
 refine RK.alc guard_none (op_box rfl rfl) ?_
 refine RK.As rfl ?_
 refine RK.D ?_
 refine AWp_sr hP ?_
 refine RK.As rfl ?_
 refine RK.D ?_
 refine AWp_seq ?_
 refine AWp_sr hP ?_
 refine RK.F hT rfl rfl rfl rfl rfl rfl ?_
 refine RK.V (op_load_one hT rfl rfl rfl rfl (by first | rfl | exact vget (by omega))) ?_
 refine RK.V (op_len hT rfl rfl rfl rfl) ?_
 refine RK.M rfl ?_
 refine RK.D ?_
 refine AWp_block ?_
 refine AWp_nilV 3 1000 1 5 rfl rfl ?_
 refine AWp_loop (ι := Nat) (fun k => stL [(1, .loc 1 0), (3, .vec 1000), (7, .p (.c (W (wl z.natAbs)))), (8, Z ((wl z.natAbs).length : Int)), (9, Z (k : Int))] [(1, ⟨false, 1, 26, [zn z, zm z]⟩), (1000, VB 1 5 enB (szW ((wl z.natAbs).take k)))]) (fun k => k ≤ (wl z.natAbs).length) (fun k => (wl z.natAbs).length - k) 0 (Nat.zero_le _) (le_stL ⟨.refl _, .refl _, .refl _, .refl _, .refl _, trivial⟩ ⟨rfl, rfl, trivial⟩) ?_
 rintro k hk
 refine AWp_sr hP ?_
 refine RK.V (op_lss rfl rfl) ?_
 refine RK.D ?_
 refine AWp_seq ?_
 refine AWp_cond rfl (fun hb1 => ?_) (fun hb1 => ?_)
 ·have hb1_ := of_decide_eq_true hb1
  have hs4 := szW_s (ws := (wl z.natAbs)) (k := k) (by omega)
  refine AWp_skip ?_
  refine AWp_seq ?_
  refine AWp_block ?_
  refine AWp_sr hP ?_
  refine RK.V (op_index_WN hT rfl rfl rfl rfl rfl (n := k) rfl (by omega)) ?_
  refine RK.V (op_load_ip_one hT rfl rfl rfl (wget (by omega))) ?_
  refine RK.As rfl ?_
  refine RK.D ?_
  refine AWp_region hP ?_
  refine RK.V (op_move (rfl : _ = AV.vec _)) ?_
  refine RK.M rfl ?_
  refine RK.V (op_conv hT rfl rfl rfl rfl (c := ((UInt8.ofNat ((wl z.natAbs).getD k 0)).toNat : Int)) (wrap_b _)) ?_
  refine RK.M rfl ?_
  refine RK.V (op_shrN (m := ((wl z.natAbs).getD k 0)) (j := 8) rfl rfl (by decide)) ?_
  refine RK.V (op_conv hT rfl rfl rfl rfl (c := ((UInt8.ofNat (((wl z.natAbs).getD k 0) / 2 ^ 8)).toNat : Int)) (wrap_b _)) ?_
  refine RK.M rfl ?_
  refine RK.V (op_shrN (m := ((wl z.natAbs).getD k 0)) (j := 16) rfl rfl (by decide)) ?_
  refine RK.V (op_conv hT rfl rfl rfl rfl (c := ((UInt8.ofNat (((wl z.natAbs).getD k 0) / 2 ^ 16)).toNat : Int)) (wrap_b _)) ?_
  refine RK.M rfl ?_
  refine RK.V (op_shrN (m := ((wl z.natAbs).getD k 0)) (j := 24) rfl rfl (by decide)) ?_
  refine RK.V (op_conv hT rfl rfl rfl rfl (c := ((UInt8.ofNat (((wl z.natAbs).getD k 0) / 2 ^ 24)).toNat : Int)) (wrap_b _)) ?_
  refine RK.V (op_bslice hT rfl rfl rfl (es := [_, _, _, _]) rfl rfl rfl) ?_
  refine RK.app guard_none (op_appendL (encD := enB) hT enB_len (by decide) (l := szW ((wl z.natAbs).take k)) (l' := by4 ((wl z.natAbs).getD k 0)) rfl rfl rfl rfl rfl rfl rfl rfl (by rw [szW_len, List.length_take]; show _ + 4 ≤ _; omega) (by decide) (by decide)) ?_
  refine RK.V (op_assign (rfl : _ = AV.vec _)) ?_
  refine RK.D ?_
  refine AWp_rn 26 1000 rfl rfl rfl ?_
  refine AWp_region hP ?_
  refine RK.V (op_add rfl rfl (by first | exact IntWalk.i64_in _ (by omega) | rfl)) ?_
  refine RK.M rfl ?_
  refine RK.D ?_
  refine ⟨k + 1, by omega, by omega, le_stL ⟨.refl _, .refl _, .refl _, .refl _, Sub.int (by omega), trivial⟩ ⟨rfl, Eq.trans rfl (congrArg (fun l => some (VB 1 5 enB l)) hs4.symm), trivial⟩⟩
 ·have hb1_ := of_decide_eq_false hb1
  have htk : (wl z.natAbs).take k = (wl z.natAbs) := List.take_of_length_le (by omega)
  rw [htk]
  refine AWp_exit ?_
  refine AWp_seq ?_
  refine AWp_sr hP ?_
  refine RK.F hT rfl rfl rfl rfl rfl rfl ?_
  refine RK.V (op_load_one hT rfl rfl rfl rfl (by first | rfl | exact vget (by omega))) ?_
  refine RK.D ?_
  refine AWp_cond rfl (fun hb2 => ?_) (fun hb2 => ?_)
  ·have hn := sz_neg (of_decide_eq_true hb2)
   refine AWp_region hP ?_
   refine RK.V (op_move (rfl : _ = AV.vec _)) ?_
   refine RK.V (op_bslice hT rfl rfl rfl (es := [_]) rfl rfl rfl) ?_
   refine RK.app guard_none (op_appendG (encD := enB) hT enB_len (by decide) rfl rfl rfl rfl rfl rfl rfl (b := 45) rfl (by rw [szW_len]; omega) (by decide) (by decide)) ?_
   refine RK.V (op_assign (rfl : _ = AV.vec _)) ?_
   refine RK.D ?_
   refine AWp_sr hP ?_
   refine RK.V (op_move (rfl : _ = AV.vec _)) ?_
   refine RK.V (op_bstr hT rfl rfl rfl rfl Tryz.underlying9 rfl rfl) ?_
   refine RK.As rfl ?_
   refine RK.D ?_
   refine AWp_ret ?_
   refine ends_one rfl (.inr rfl) (res_tmp rfl) ?_ O_ends
   exact Sub.of_eq (by rw [← hn])
  ·have hn := sz_pos (of_decide_eq_false hb2)
   refine AWp_skip ?_
   refine AWp_sr hP ?_
   refine RK.V (op_move (rfl : _ = AV.vec _)) ?_
   refine RK.V (op_bstr hT rfl rfl rfl rfl Tryz.underlying9 rfl rfl) ?_
   refine RK.As rfl ?_
   refine RK.D ?_
   refine AWp_ret ?_
   refine ends_one rfl (.inr rfl) (res_tmp rfl) ?_ O_ends
   exact Sub.of_eq (by rw [← hn])
/- algorist/pell.text -/
set_option maxHeartbeats 1000000 in
set_option maxRecDepth 100000 in
theorem pl_text (q : Qd) (h1 : (wl q.1.natAbs).length ≤ 1000000) (h2 : (wl q.2.natAbs).length ≤ 1000000) :
  Call0 Tryz.prog 30 [QA q] (.p (.a ((kcB (tx q)).map .v))) := by
 refine callM_of (np := 0) Tryz.func30 (by kernel_rfl) rfl rfl (Nat.le_of_ble_eq_true rfl) (fun m h => absurd rfl h) (fun m h => absurd rfl h) rfl ?_
 refine AWp_sr hP ?_
 refine RK.alc guard_none (op_box rfl rfl) ?_
 refine RK.alc guard_none (op_alloc hT rfl rfl) ?_
 refine RK.D ?_
 refine AWp_sr hP ?_
 refine RK.F hT rfl rfl rfl rfl rfl rfl ?_
 refine RK.G2 hT rfl rfl rfl rfl rfl rfl ?_
 refine RK.V (Eff.call0 (pl_sizes q.1 h1)) ?_
 refine RK.F hT rfl rfl rfl rfl rfl rfl ?_
 refine RK.G2 hT rfl rfl rfl rfl rfl rfl ?_
 refine RK.V (Eff.call0 (pl_sizes q.2 h2)) ?_
 refine RK.V (op_build_ar hT rfl rfl rfl (es := [_, _]) rfl) ?_
 refine RK.S hT rfl rfl rfl rfl rfl rfl rfl ?_
 refine RK.D ?_
 refine AWp_ret ?_
 refine ends_one rfl (.inr rfl) (res_cell_agg hT rfl rfl rfl rfl (cs := [_, _]) rfl rfl) ?_ O_ends
 exact .refl _
/- algorist/pell.Solve$1 -/
set_option maxHeartbeats 1000000 in
set_option maxRecDepth 100000 in
theorem pl_Solve1 (a b : Qd) :
  Call0 Tryz.prog 32 [QA a, QA b] (Z (cbQ a b)) := by
 refine callM_of (np := 0) Tryz.func32 (by kernel_rfl) rfl rfl (Nat.le_of_ble_eq_true rfl) (fun m h => absurd rfl h) (fun m h => absurd rfl h) rfl ?_
 refine AWp_sr hP ?_
 refine RK.alc guard_none (op_box rfl rfl) ?_
 refine RK.alc guard_none (op_box rfl rfl) ?_
 refine RK.As rfl ?_
 refine RK.D ?_
 refine AWp_sr hP ?_
 refine RK.F hT rfl rfl rfl rfl rfl rfl ?_
 refine RK.G2 hT rfl rfl rfl rfl rfl rfl ?_
 refine RK.F hT rfl rfl rfl rfl rfl rfl ?_
 refine RK.G2 hT rfl rfl rfl rfl rfl rfl ?_
 refine RK.V (Eff.call0 (int_Cmp _ _)) ?_
 refine RK.F hT rfl rfl rfl rfl rfl rfl ?_
 refine RK.G2 hT rfl rfl rfl rfl rfl rfl ?_
 refine RK.F hT rfl rfl rfl rfl rfl rfl ?_
 refine RK.G2 hT rfl rfl rfl rfl rfl rfl ?_
 refine RK.V (Eff.call0 (int_Cmp _ _)) ?_
 refine RK.V (op_bslice hT rfl rfl rfl (es := [_, _]) rfl rfl rfl) ?_
 refine RK.V (Eff.call0 (or_int (cmpI a.2 b.2) (cmpI a.1 b.1))) ?_
 refine RK.As rfl ?_
 refine RK.D ?_
 refine AWp_ret ?_
 refine ends_one rfl (.inr rfl) (res_tmp rfl) ?_ O_ends
 exact .refl _
theorem keyB : KeyA Tryz.prog 77 kcB := keyA2 hT (td := .string) (f := fun k : Ky => kB k.1) (g := fun k : Ky => kB k.2) rfl rfl rfl rfl rfl Tryz.underlying9 (fun _ => rfl) (fun _ => rfl) (fun _ => rfl) (fun _ => trivial) (fun _ => trivial)
 (fun a b w => ⟨a.1 == b.1, by have := run_equalIn_string (w := w) 9998 _ ⟨a.1.toArray⟩ ⟨b.1.toArray⟩ Tryz.underlying9; rwa [ByteArray.toList_mk, ByteArray.toList_mk] at this, by rw [beq_iff_eq]; exact ⟨fun e => by rw [e], kB_inj⟩⟩)
 (fun a b w => ⟨a.2 == b.2, by have := run_equalIn_string (w := w) 9998 _ ⟨a.2.toArray⟩ ⟨b.2.toArray⟩ Tryz.underlying9; rwa [ByteArray.toList_mk, ByteArray.toList_mk] at this, by rw [beq_iff_eq]; exact ⟨fun e => by rw [e], kB_inj⟩⟩)
 (fun a b h1 h2 => Prod.ext (kB_inj h1) (kB_inj h2))
def sortQ_ren : Go.Shelf.Ren := ⟨fun | 6 => 31 | 15 => 72 | 14 => 71 | 28 => 111 | 29 => 112 | 20 => 103 | 21 => 104 | 22 => 105 | 23 => 106 | 24 => 107 | 25 => 108 | 26 => 109 | 27 => 110 | 46 => 133 | 47 => 134 | 48 => 135 | 49 => 136 | 50 => 137 | 57 => 151 | n => n, fun | 22 => 40 | 24 => 45 | 25 => 80 | 3 => 3 | 39 => 53 | 0 => 0 | 53 => 52 | 55 => 50 | 4 => 4 | 46 => 154 | 45 => 153 | 50 => 129 | 5 => 5 | 9 => 9 | 66 => 177 | 70 => 181 | 76 => 194 | 77 => 195 | n => n, fun | n => n⟩
theorem sortQ : Go.Proofs.SlLaysF0.n6 Tryz.prog sortQ_ren := {
 mixed := by kernel_rfl
 f6 := ⟨Tryz.f31.name, by decide, Tryz.func31.trans (congrArg some (by kernel_rfl))⟩
 f14 := ⟨Tryz.f71.name, by decide, Tryz.func71.trans (congrArg some (by kernel_rfl))⟩
 f15 := Tryz.func72.trans (congrArg some (by kernel_rfl))
 f20 := ⟨Tryz.f103.name, by decide, Tryz.func103.trans (congrArg some (by kernel_rfl))⟩
 f21 := ⟨Tryz.f104.name, by decide, Tryz.func104.trans (congrArg some (by kernel_rfl))⟩
 f22 := ⟨Tryz.f105.name, by decide, Tryz.func105.trans (congrArg some (by kernel_rfl))⟩
 f23 := ⟨Tryz.f106.name, by decide, Tryz.func106.trans (congrArg some (by kernel_rfl))⟩
 f24 := ⟨Tryz.f107.name, by decide, Tryz.func107.trans (congrArg some (by kernel_rfl))⟩
 f25 := ⟨Tryz.f108.name, by decide, Tryz.func108.trans (congrArg some (by kernel_rfl))⟩
 f26 := ⟨Tryz.f109.name, by decide, Tryz.func109.trans (congrArg some (by kernel_rfl))⟩
 f27 := ⟨Tryz.f110.name, by decide, Tryz.func110.trans (congrArg some (by kernel_rfl))⟩
 f28 := Tryz.func111.trans (congrArg some (by kernel_rfl))
 f29 := Tryz.func112.trans (congrArg some (by kernel_rfl))
 f46 := ⟨Tryz.f133.name, by decide, Tryz.func133.trans (congrArg some (by kernel_rfl))⟩
 f47 := Tryz.func134.trans (congrArg some (by kernel_rfl))
 f48 := Tryz.func135.trans (congrArg some (by kernel_rfl))
 f49 := ⟨Tryz.f136.name, by decide, Tryz.func136.trans (congrArg some (by kernel_rfl))⟩
 f50 := ⟨Tryz.f137.name, by decide, Tryz.func137.trans (congrArg some (by kernel_rfl))⟩
 f57 := ⟨Tryz.f151.name, by decide, Tryz.func151.trans (congrArg some (by kernel_rfl))⟩
 t0 := Tryz.underlying0
 a0 := Tryz.isAgg0
 z0 := Tryz.sizeOf0
 v0 := Tryz.zeroValue0
 t3 := Tryz.underlying3
 a3 := Tryz.isAgg3
 z3 := Tryz.sizeOf3
 v3 := Tryz.zeroValue3
 t4 := Tryz.underlying4
 a4 := Tryz.isAgg4
 z4 := Tryz.sizeOf4
 v4 := Tryz.zeroValue4
 t5 := Tryz.underlying5
 a5 := Tryz.isAgg5
 z5 := Tryz.sizeOf5
 v5 := Tryz.zeroValue5
 t9 := Tryz.underlying9
 a9 := Tryz.isAgg9
 z9 := Tryz.sizeOf9
 v9 := Tryz.zeroValue9
 t22 := Tryz.underlying40
 a22 := Tryz.isAgg40
 z22 := Tryz.sizeOf40
 v22 := Tryz.zeroValue40
 t25 := Tryz.underlying80
 a25 := Tryz.isAgg80
 z25 := Tryz.sizeOf80
 v25 := Tryz.zeroValue80
 t39 := Tryz.underlying53
 a39 := Tryz.isAgg53
 z39 := Tryz.sizeOf53
 v39 := Tryz.zeroValue53
 t45 := Tryz.underlying153
 a45 := Tryz.isAgg153
 z45 := Tryz.sizeOf153
 v45 := Tryz.zeroValue153
 t46 := Tryz.underlying154
 a46 := Tryz.isAgg154
 z46 := Tryz.sizeOf154
 v46 := Tryz.zeroValue154
 t50 := Tryz.underlying129
 a50 := Tryz.isAgg129
 z50 := Tryz.sizeOf129
 v50 := Tryz.zeroValue129
 t53 := Tryz.underlying52
 a53 := Tryz.isAgg52
 z53 := Tryz.sizeOf52
 v53 := Tryz.zeroValue52
 t55 := Tryz.underlying50
 a55 := Tryz.isAgg50
 z55 := Tryz.sizeOf50
 v55 := Tryz.zeroValue50
 t66 := Tryz.underlying177
 a66 := Tryz.isAgg177
 z66 := Tryz.sizeOf177
 v66 := Tryz.zeroValue177
 t70 := Tryz.underlying181
 a70 := Tryz.isAgg181
 z70 := Tryz.sizeOf181
 v70 := Tryz.zeroValue181
 t76 := Tryz.underlying194
 a76 := Tryz.isAgg194
 z76 := Tryz.sizeOf194
 v76 := Tryz.zeroValue194
 t77 := Tryz.underlying195
 a77 := Tryz.isAgg195
 z77 := Tryz.sizeOf195
 v77 := Tryz.zeroValue195 }
theorem pl_Sort (m : Nat) (l : List Qd) :
  CallM Tryz.prog 31 [.vec m, .p (.c (.v (.func (.func 32) #[] #[])))] (upd O m (some (VB 4 45 enQ l))) (.t []) (upd O m (some (VB 4 45 enQ (srtQ l)))) :=
 sort_callM sortQ hT (j := ty45) rfl rfl rfl (by decide) enQ_len cbQ cbQ_swo (fun x y => pl_Solve1 x y) (srtQ_perm l) (srtQ_srt l) (fun _ _ _ _ h1 h2 => cbQ_anti h1 h2)
end Go.Proofs.YtfdjankalhfceaaGreat
end

section
/- pell: Solve -/
namespace Go.Proofs.YtfdjankalhfceaaGreat
open Go Go.AM
/- algorist/pell.Solve -/
set_option maxHeartbeats 16000000 in
set_option maxRecDepth 100000 in
theorem pl_Solve (d : Int) (n m c : Nat) (y : Fm × Mt) (u eta : Qd) (h : DD d n m c y u eta) (k : Int) (hk0 : k ≠ 0) (hk : k.natAbs ≤ 4096) (hz : ∀ b : Nat, b < 2 * k.natAbs → ((b : Int) * (b : Int) - d) % (4 * k) = 0 → ∃ n, RdT (rootV d) (gB d k b) n (zB d k b)) (hsf : ∀ g : Int, 2 ≤ g → g * g ≤ 4096 → k % (g * g) ≠ 0) (hqs : ∀ q ∈ qsP d y c k, LQ 12 q) (hle : ∀ q ∈ qsP d y c k, (leR d eta q).isSome = true) :
  Call0 Tryz.prog 9 [I d, I k] (.t [.c (SL enQ (srtQ (svL (rpL d eta y c k)).2)), PE 0]) := by
 have id : LB d 6 := ⟨h.dok.L6⟩
 have cR := pl_right d n m c y u eta h k hk0 hk
 have cP1 := pl_proper1 d n m c y u eta h k hk0 hk hz
 have cP0 := pl_proper d eta k
 have cLw := int_Low k (by omega) (by omega)
 refine callM_of (np := 0) Tryz.func9 (by kernel_rfl) rfl rfl (Nat.le_of_ble_eq_true rfl) (fun m h => absurd rfl h) (fun m h => absurd rfl h) rfl ?_
 refine AWp_sr hP ?_
 refine RK.alc guard_none (op_box rfl rfl) ?_
 refine RK.alc guard_none (op_box rfl rfl) ?_
 refine RK.As rfl ?_
 refine RK.As rfl ?_
 refine RK.D ?_
 refine AWp_sr hP ?_
 refine RK.G2 hT rfl rfl rfl rfl rfl rfl ?_
 refine RK.G2 hT rfl rfl rfl rfl rfl rfl ?_
 refine RK.V (Eff.call0 cR) ?_
 refine RK.V (op_move (rfl : _ = AV.t _)) ?_
 refine RK.V (op_extract rfl (v := .a _) rfl) ?_
 refine RK.V (op_extract rfl (v := .c _) rfl) ?_
 refine RK.alc guard_none (op_alloc hT rfl rfl) ?_
 refine RK.S hT rfl rfl rfl rfl rfl rfl rfl ?_
 refine RK.As rfl ?_
 refine RK.D ?_
 refine AWp_seq ?_
 refine AWp_sr hP ?_
 refine RK.M rfl ?_
 refine RK.V (op_neq rfl rfl) ?_
 refine RK.D ?_
 refine AWp_cond_false rfl rfl ?_
 refine AWp_skip ?_
 refine AWp_sr hP ?_
 refine RK.G2 hT rfl rfl rfl rfl rfl rfl ?_
 refine RK.V (Eff.call0 cLw) ?_
 refine RK.V (op_move (rfl : _ = AV.t _)) ?_
 refine RK.V (op_extract rfl (v := .c _) rfl) ?_
 refine RK.V (op_extract rfl (v := .c _) rfl) ?_
 refine RK.As rfl ?_
 refine RK.As rfl ?_
 refine RK.D ?_
 refine AWp_sr hP ?_
 refine RK.alc guard_none op_rawMake ?_
 refine RK.alc guard_none (op_alloc hT rfl rfl) ?_
 refine RK.sto guard_none (op_storeMap hT rfl rfl rfl rfl rfl rfl rfl rfl) ?_
 refine RK.D ?_
 refine AWp_sr hP ?_
 refine RK.alc guard_none (op_alloc_nil hT rfl rfl) ?_
 refine RK.D ?_
 refine AWp_seq ?_
 refine AWp_sr hP ?_
 refine RK.alc guard_none (op_alloc hT rfl rfl) ?_
 refine RK.S hT rfl rfl rfl rfl rfl rfl rfl ?_
 refine RK.D ?_
 refine AWp_block ?_
 refine AWp_mkLink 11 1001 4 45 rfl rfl rfl rfl ?_
 refine AWp_loop (ι := Nat) (fun g => stL [(6, .loc 6 0), (8, Z k), (10, .loc 10 0), (11, .loc 11 0), (12, .loc 12 0)] [(6, ⟨false, 1, 68, flC d eta⟩), (10, ⟨false, 32, 71, [.any]⟩), (30, RB (enR kcB (if g = 1 then svL [] else svL (rpL d eta y c k)).1)), (11, ⟨false, 1003, 40, [.sl ((if g = 1 then svL [] else svL (rpL d eta y c k)).2).length []]⟩), (1001, VB 4 45 enQ (if g = 1 then svL [] else svL (rpL d eta y c k)).2), (12, ⟨false, 1, 2, [.v (.int .i64 (g : Int))]⟩)]) (fun g => 1 ≤ g ∧ g ≤ 65) (fun g => 65 - g) 1 ⟨Nat.le_refl _, by decide⟩ (le_stL ⟨.refl _, .refl _, .refl _, .refl _, .refl _, trivial⟩ ⟨rfl, rfl, rfl, rfl, rfl, rfl, trivial⟩) ?_
 rintro g hg
 have hg65 : (g : Int) * (g : Int) ≤ 65 * 65 := Int.mul_le_mul (by omega) (by omega) (by omega) (by omega)
 have hg0 : 1 ≤ (g : Int) * (g : Int) := Int.mul_le_mul (a := 1) (b := 1) (by omega) (by omega) (by omega) (by omega)
 refine AWp_seq ?_
 refine AWp_sr hP ?_
 refine RK.V (op_load_one hT rfl rfl rfl rfl (by first | rfl | exact vget (by omega))) ?_
 refine RK.V (op_load_one hT rfl rfl rfl rfl (by first | rfl | exact vget (by omega))) ?_
 refine RK.V (op_mul rfl rfl (c := (g : Int) * (g : Int)) (by rw [IntKind.wrap_i64]; omega)) ?_
 refine RK.V (op_leq rfl rfl) ?_
 refine RK.D ?_
 refine AWp_cond rfl (fun hb1 => ?_) (fun hb1 => ?_)
 ·have hb1_ := of_decide_eq_true hb1
  have hgg : (g : Int) * (g : Int) ≤ 4096 := of_decide_eq_true hb1
  have hg64 : g ≤ 64 := by
   rcases Nat.lt_or_ge 64 g with e | e
   ·have e2 : (65 : Int) * 65 ≤ (g : Int) * (g : Int) := Int.mul_le_mul (by omega) (by omega) (by omega) (by omega)
    omega
   ·exact e
  refine AWp_skip ?_
  refine AWp_seq ?_
  refine AWp_block ?_
  refine AWp_seq ?_
  refine AWp_sr hP ?_
  refine RK.M rfl ?_
  refine RK.V (op_load_one hT rfl rfl rfl rfl (by first | rfl | exact vget (by omega))) ?_
  refine RK.V (op_load_one hT rfl rfl rfl rfl (by first | rfl | exact vget (by omega))) ?_
  refine RK.V (op_mul rfl rfl (c := (g : Int) * (g : Int)) (by rw [IntKind.wrap_i64]; omega)) ?_
  refine RK.V (op_rem rfl rfl (by omega) (c := k.tmod ((g : Int) * (g : Int))) rfl) ?_
  refine RK.V (op_neq rfl rfl) ?_
  refine RK.D ?_
  refine AWp_cond rfl (fun hb2 => ?_) (fun hb2 => ?_)
  ·have hb2_ := bneT hb2
   have hg1 : ¬ g = 1 := fun e => by
    subst e; exact bneT hb2 (tm1 k)
   have hst : (if g = 1 then svL [] else svL (rpL d eta y c k)) = (if g + 1 = 1 then svL [] else svL (rpL d eta y c k)) := by rw [if_neg hg1, if_neg (by omega)]
   refine AWp_exit ?_
   refine AWp_seq ?_
   refine AWp_sr hP ?_
   refine RK.V (op_load_one hT rfl rfl rfl rfl (by first | rfl | exact vget (by omega))) ?_
   refine RK.D ?_
   refine AWp_region hP ?_
   refine RK.alc guard_none (op_alloc hT rfl rfl) ?_
   refine RK.S hT rfl rfl rfl rfl rfl rfl rfl ?_
   refine RK.D ?_
   refine AWp_region hP ?_
   refine RK.V (op_load_one hT rfl rfl rfl rfl (by first | rfl | exact vget (by omega))) ?_
   refine RK.V (op_add rfl rfl (by first | exact IntWalk.i64_in _ (by omega) | rfl)) ?_
   refine RK.S hT rfl rfl rfl rfl rfl rfl rfl ?_
   refine RK.D ?_
   refine ⟨g + 1, by omega, by omega, le_stL ⟨.refl _, .refl _, .refl _, .refl _, .refl _, trivial⟩ ⟨rfl, rfl, Eq.trans rfl (congrArg (fun l : SvT => some (RB (enR kcB l.1) : Blk)) hst), Eq.trans rfl (congrArg (fun l : SvT => some (⟨false, 1003, 40, [.sl l.2.length []]⟩ : Blk)) hst), Eq.trans rfl (congrArg (fun l : SvT => some (VB 4 45 enQ l.2 : Blk)) hst), Eq.trans rfl (congrArg (fun z : Int => some (⟨false, 1, 2, [.v (.int .i64 z)]⟩ : Blk)) (show (g : Int) + 1 = ((g + 1 : Nat) : Int) by omega)), trivial⟩⟩
  ·have hb2_ := bneF hb2
   have hg1 : g = 1 := by
    rcases Nat.lt_or_ge 1 g with e | e
    ·exact absurd (tm0.1 (bneF hb2)) (hsf g (by omega) hgg)
    ·omega
   subst hg1
   refine AWp_skip ?_
   refine AWp_sr hP ?_
   refine RK.V (op_load_agg hT rfl rfl rfl rfl (cs := flC d eta) rfl rfl) ?_
   refine RK.M rfl ?_
   refine RK.V (op_load_one hT rfl rfl rfl rfl (by first | rfl | exact vget (by omega))) ?_
   refine RK.V (op_load_one hT rfl rfl rfl rfl (by first | rfl | exact vget (by omega))) ?_
   refine RK.V (op_mul rfl rfl (c := 1) rfl) ?_
   refine RK.V (op_quo rfl rfl (by decide) (c := k) (by rw [Int.tdiv_one, IntKind.wrap_i64]; omega)) ?_
   refine RK.V (Eff.call0 cP0) ?_
   refine RK.D ?_
   refine AWp_block ?_
   refine AWp_le (t := stL [(6, .loc 6 0), (8, Z k), (10, .loc 10 0), (11, .loc 11 0), (12, .loc 12 0), (49, .fn 63 [flC d eta, [.v (.int .i64 k)]])] [(6, ⟨false, 1, 68, flC d eta⟩), (10, ⟨false, 32, 71, [.any]⟩), (30, RB (enR kcB (svL ((rpL d eta y c k).take 0)).1)), (11, ⟨false, 1003, 40, [.sl ((svL ((rpL d eta y c k).take 0)).2).length []]⟩), (1001, VB 4 45 enQ (svL ((rpL d eta y c k).take 0)).2), (12, ⟨false, 1, 2, [.v (.int .i64 1)]⟩)]) (le_stL ⟨.refl _, .refl _, .refl _, .refl _, .refl _, .refl _, trivial⟩ ⟨rfl, rfl, rfl, rfl, rfl, rfl, trivial⟩) ?_
   refine AWp_range2 13 (fun j => lookO [(6, ⟨false, 1, 68, flC d eta⟩), (10, ⟨false, 32, 71, [.any]⟩), (30, RB (enR kcB (svL ((rpL d eta y c k).take j)).1)), (11, ⟨false, 1003, 40, [.sl ((svL ((rpL d eta y c k).take j)).2).length []]⟩), (1001, VB 4 45 enQ (svL ((rpL d eta y c k).take j)).2), (12, ⟨false, 1, 2, [.v (.int .i64 1)]⟩)]) (fun _ => True) rfl cP1 xsP_one rfl rfl rfl trivial (fun j x hx _ => ?_) (fun _ => ?_)
   ·obtain ⟨q, hq, rfl⟩ := xsP_at hx
    have hjl : j < (xsP d y c k).length := (List.getElem?_eq_some_iff.1 hx).1
    have hqm : q ∈ qsP d y c k := List.mem_of_getElem? hq
    have hqL := hqs q hqm
    obtain ⟨n1, n2, e1, hl1, hl2⟩ := leR_T (hle q hqm)
    have hL2 : LQ 12 (leV d eta q) := hl2.L (hl1.L (upQ_L hqL))
    have hw1 := wl_L12 hL2.x
    have hw2 := wl_L12 hL2.y
    have cLe : Call0 Tryz.prog 28 [.p (.a (flC d eta)), .p (.a [zn (1 * q.1), zm (1 * q.1), zn (1 * q.2), zm (1 * q.2)])] (QA (leV d eta q)) := by
     rw [Int.one_mul, Int.one_mul]
     exact pl_least d eta q n1 n2 e1 (leV d eta q) h.dok h.eL h.ee hl1 hl2
    have cTx := pl_text (leV d eta q) hw1 hw2
    have hsn := svL_s (rpL_get (eta := eta) hq)
    have hval := svL_val ((rpL d eta y c k).take j)
    have hsl := svL_len ((rpL d eta y c k).take j)
    have hsl2 : (svL ((rpL d eta y c k).take j)).2.length ≤ 10000 := by rw [List.length_take] at hsl; have := rpL_len (d := d) (eta := eta) (y := y) (c := c) (m := k); have := xsP_le (d := d) (y := y) (c := c) (m := k); omega
    have iq1 : LB q.1 12 := ⟨hqL.x⟩
    have iq2 : LB q.2 12 := ⟨hqL.y⟩
    have hone : ∀ p ∈ (svL ((rpL d eta y c k).take j)).1, p.2.oneCell' = true := fun p hp => by rw [hval p hp]; rfl
    have hgb := getR_b hval (tx (leV d eta q))
    generalize leV d eta q = r at cLe cTx hsn hgb ⊢
    generalize svL ((rpL d eta y c k).take j) = sv at hsn hsl2 hone hgb ⊢
    refine AWp_region hP ?_
    refine RK.alc guard_none (op_alloc hT rfl rfl) ?_
    refine RK.S hT rfl rfl rfl rfl rfl rfl rfl ?_
    refine RK.D ?_
    refine AWp_block ?_
    refine AWp_sr hP ?_
    refine RK.V (op_load_one hT rfl rfl rfl rfl (by first | rfl | exact vget (by omega))) ?_
    refine RK.V (Eff.call0 (int_Of 1 (by decide))) ?_
    refine RK.alc guard_none (op_alloc hT rfl rfl) ?_
    refine RK.S hT rfl rfl rfl rfl rfl rfl rfl ?_
    refine RK.D ?_
    refine AWp_sr hP ?_
    refine RK.V (op_load_agg hT rfl rfl rfl rfl (cs := flC d eta) rfl rfl) ?_
    refine RK.G2 hT rfl rfl rfl rfl rfl rfl ?_
    refine RK.F hT rfl rfl rfl rfl rfl rfl ?_
    refine RK.G2 hT rfl rfl rfl rfl rfl rfl ?_
    refine RK.V (Eff.call0 (int_Mul _ _ lz lz)) ?_
    refine RK.G2 hT rfl rfl rfl rfl rfl rfl ?_
    refine RK.F hT rfl rfl rfl rfl rfl rfl ?_
    refine RK.G2 hT rfl rfl rfl rfl rfl rfl ?_
    refine RK.V (Eff.call0 (int_Mul _ _ lz lz)) ?_
    refine RK.V (op_build_st hT rfl rfl rfl (es := [_, _, _, _]) rfl) ?_
    refine RK.V (Eff.call0 cLe) ?_
    refine RK.alc guard_none (op_alloc hT rfl rfl) ?_
    refine RK.S hT rfl rfl rfl rfl rfl rfl rfl ?_
    refine RK.D ?_
    refine AWp_sr hP ?_
    refine RK.V (op_loadNm hT rfl rfl rfl rfl rfl) ?_
    refine RK.V (op_load_agg hT rfl rfl rfl rfl (cs := QL r) rfl rfl) ?_
    refine RK.V (Eff.call0 cTx) ?_
    refine RK.V (op_rawLook (M := sv.1) (k := tx r) (kc := kcB) (zv := .bool false) (ok := false) hT rfl rfl keyB rfl rfl hone rfl rfl rfl (v := B (getR sv.1 (tx r)).isSome) (congrArg (fun v : Value => (.p (.c (.v v)) : AV)) hgb)) ?_
    refine RK.V (op_unot rfl) ?_
    refine RK.D ?_
    refine AWp_cond rfl (fun hb3 => ?_) (fun hb3 => ?_)
    ·have hb3_ := (notT hb3)
     have hnf : (getR sv.1 (tx r)).isSome = false := notT hb3
     have hnone : getR sv.1 (tx r) = none := Option.isSome_eq_false_iff.1 hnf |> Option.isNone_iff_eq_none.1
     rw [svS_n hnf] at hsn
     refine AWp_sr hP ?_
     refine RK.V (op_loadNm hT rfl rfl rfl rfl rfl) ?_
     refine RK.V (op_load_agg hT rfl rfl rfl rfl (cs := QL r) rfl rfl) ?_
     refine RK.V (Eff.call0 cTx) ?_
     refine RK.sto guard_none (op_rawIns (M := sv.1) (k := tx r) (kc := kcB) (v := .bool true) hT rfl rfl keyB hnone rfl rfl rfl rfl) ?_
     refine RK.D ?_
     refine AWp_region hP ?_
     refine RK.V (op_loadNm hT rfl rfl rfl rfl rfl) ?_
     refine RK.V (op_load_agg hT rfl rfl rfl rfl (cs := QL r) rfl rfl) ?_
     refine RK.V (op_bslice hT rfl rfl rfl (es := [_, _, _, _]) rfl rfl rfl) ?_
     refine RK.app guard_none (op_appendG (encD := enQ) hT enQ_len (by decide) rfl rfl rfl rfl rfl rfl rfl (b := r) rfl (by omega) (by decide) (by decide)) ?_
     refine RK.sto guard_none (op_storeNm hT rfl rfl rfl rfl rfl rfl rfl (flat_len enQ_len _).symm (Nat.zero_lt_succ 3)) ?_
     refine RK.D ?_
     refine ⟨GW.trans (b := lookO [(6, ⟨false, 1, 68, flC d eta⟩), (10, ⟨false, 32, 71, [.any]⟩), (30, RB (enR kcB ((sv.1 ++ [(tx r, Value.bool true)], sv.2 ++ [r])).1)), (11, ⟨false, 1003, 40, [.sl (((sv.1 ++ [(tx r, Value.bool true)], sv.2 ++ [r])).2).length []]⟩), (1001, VB 4 45 enQ ((sv.1 ++ [(tx r, Value.bool true)], sv.2 ++ [r])).2), (12, ⟨false, 1, 2, [.v (.int .i64 1)]⟩)]) (GW.rnL 11 75 1001 (sv.2 ++ [r]).length rfl rfl rfl (flat_len enQ_len _).symm (Nat.zero_lt_succ 3) rfl rfl rfl rfl ?_) (GW.forget_as (congrArg (fun z : SvT => lookO [(6, ⟨false, 1, 68, flC d eta⟩), (10, ⟨false, 32, 71, [.any]⟩), (30, RB (enR kcB (z).1)), (11, ⟨false, 1003, 40, [.sl ((z).2).length []]⟩), (1001, VB 4 45 enQ (z).2), (12, ⟨false, 1, 2, [.v (.int .i64 1)]⟩)]) hsn.symm) (fun x => .inl rfl)), trivial⟩
     exact SubO.own ⟨rfl, rfl, rfl, rfl, rfl, rfl, trivial⟩
    ·have hb3_ := (notF hb3)
     have hfd : (getR sv.1 (tx r)).isSome = true := notF hb3
     rw [svS_y hfd] at hsn
     refine AWp_skip ?_
     refine ⟨GW.forget_as (congrArg (fun z : SvT => lookO [(6, ⟨false, 1, 68, flC d eta⟩), (10, ⟨false, 32, 71, [.any]⟩), (30, RB (enR kcB (z).1)), (11, ⟨false, 1003, 40, [.sl ((z).2).length []]⟩), (1001, VB 4 45 enQ (z).2), (12, ⟨false, 1, 2, [.v (.int .i64 1)]⟩)]) hsn.symm) (fun x => SubO.own (l := [(6, ⟨false, 1, 68, flC d eta⟩), (10, ⟨false, 32, 71, [.any]⟩), (30, RB (enR kcB (sv).1)), (11, ⟨false, 1003, 40, [.sl ((sv).2).length []]⟩), (1001, VB 4 45 enQ (sv).2), (12, ⟨false, 1, 2, [.v (.int .i64 1)]⟩)]) ⟨rfl, rfl, rfl, rfl, rfl, rfl, trivial⟩ x), trivial⟩
   have htk : (rpL d eta y c k).take (xsP d y c k).length = (rpL d eta y c k) := List.take_of_length_le (by rw [rpL_len]; exact Nat.le_refl _)
   rw [htk]
   have hst : svL (rpL d eta y c k) = (if 1 + 1 = 1 then svL [] else svL (rpL d eta y c k)) := (if_neg (by decide)).symm
   refine AWp_seq ?_
   refine AWp_sr hP ?_
   refine RK.V (op_load_one hT rfl rfl rfl rfl (by first | rfl | exact vget (by omega))) ?_
   refine RK.D ?_
   refine AWp_region hP ?_
   refine RK.alc guard_none (op_alloc hT rfl rfl) ?_
   refine RK.S hT rfl rfl rfl rfl rfl rfl rfl ?_
   refine RK.D ?_
   refine AWp_region hP ?_
   refine RK.V (op_load_one hT rfl rfl rfl rfl (by first | rfl | exact vget (by omega))) ?_
   refine RK.V (op_add rfl rfl (by first | exact IntWalk.i64_in _ (by omega) | rfl)) ?_
   refine RK.S hT rfl rfl rfl rfl rfl rfl rfl ?_
   refine RK.D ?_
   refine ⟨1 + 1, by omega, by omega, le_stL ⟨.refl _, .refl _, .refl _, .refl _, .refl _, trivial⟩ ⟨rfl, rfl, Eq.trans rfl (congrArg (fun l : SvT => some (RB (enR kcB l.1) : Blk)) hst), Eq.trans rfl (congrArg (fun l : SvT => some (⟨false, 1003, 40, [.sl l.2.length []]⟩ : Blk)) hst), Eq.trans rfl (congrArg (fun l : SvT => some (VB 4 45 enQ l.2 : Blk)) hst), Eq.trans rfl (congrArg (fun z : Int => some (⟨false, 1, 2, [.v (.int .i64 z)]⟩ : Blk)) (show ((1 : Nat) : Int) + 1 = ((1 + 1 : Nat) : Int) by omega)), trivial⟩⟩
 ·have hb1_ := of_decide_eq_false hb1
  have hg65 : ¬ g = 1 := fun e => by
   subst e; exact of_decide_eq_false hb1 (by decide)
  rw [if_neg hg65]
  refine AWp_exit ?_
  refine AWp_sr hP ?_
  refine RK.V (op_loadNm hT rfl rfl rfl rfl rfl) ?_
  refine RK.mut guard_none (Eff.call (rd := [1001]) (pl_Sort 1001 _) (own1 rfl) upd1_mem) ?_
  refine RK.D ?_
  refine AWp_sr hP ?_
  refine RK.V (op_loadNm hT rfl rfl rfl rfl rfl) ?_
  refine RK.V (op_assign (rfl : _ = AV.vec _)) ?_
  refine RK.As rfl ?_
  refine RK.D ?_
  refine AWp_freezeG (encD := enQ) enQ_len rfl (t := 4) rfl rfl ?_
  refine AWp_ret ?_
  refine ends_two rfl (.inr rfl) (res_tmp rfl) (res_tmp rfl) ?_ O_ends
  exact .refl _
end Go.Proofs.YtfdjankalhfceaaGreat
end

section
/- TopLagrange -/
namespace Go.Proofs.YtfdjankalhfceaaGreat
open Go Go.AM
/- algorist/algoristref17.Edge -/
set_option maxHeartbeats 1000000 in
set_option maxRecDepth 100000 in
theorem c_Edge  :
  Call0 Tryz.prog 50 [] (Z 65536) := by
 refine callM_of (np := 0) Tryz.func50 (by kernel_rfl) rfl rfl (Nat.le_of_ble_eq_true rfl) (fun m h => absurd rfl h) (fun m h => absurd rfl h) rfl ?_
 refine AWp_sr hP ?_
 refine RK.As rfl ?_
 refine RK.D ?_
 refine AWp_sr hP ?_
 refine RK.As rfl ?_
 refine RK.D ?_
 refine AWp_ret ?_
 refine ends_one rfl (.inr rfl) (res_tmp rfl) ?_ O_ends
 exact .refl _
/- algorist/algoristref17.Known -/
set_option maxHeartbeats 1000000 in
set_option maxRecDepth 100000 in
theorem c_Known (d : Int) (h1 : 5 ≤ d) (h2 : d ≤ 4000) :
  Call0 Tryz.prog 14 [I d] (Z (knE d)) := by
 have id : LB d 6 := ⟨by unfold L; exact Nat.lt_of_lt_of_le (show d.natAbs < 5000 by omega) (by decide)⟩
 refine callM_of (np := 0) Tryz.func14 (by kernel_rfl) rfl rfl (Nat.le_of_ble_eq_true rfl) (fun m h => absurd rfl h) (fun m h => absurd rfl h) rfl ?_
 refine AWp_sr hP ?_
 refine RK.alc guard_none (op_box rfl rfl) ?_
 refine RK.As rfl ?_
 refine RK.D ?_
 refine AWp_seq ?_
 refine AWp_sr hP ?_
 refine RK.G2 hT rfl rfl rfl rfl rfl rfl ?_
 refine RK.V (Eff.call0 (r_Sign _)) ?_
 refine RK.V (op_leq rfl rfl) ?_
 refine RK.M rfl ?_
 refine RK.val (guard_yes rfl rfl (decide_eq_false fun e => by have := sgn_le_iff.1 e; omega)) (op_load_agg hT rfl rfl rfl rfl (cs := [_, _]) rfl rfl) ?_
 refine RK.val (guard_yes rfl rfl (decide_eq_false fun e => by have := sgn_le_iff.1 e; omega)) (Eff.call0 (r_Of 4 (by decide))) ?_
 refine RK.val (guard_yes rfl rfl (decide_eq_false fun e => by have := sgn_le_iff.1 e; omega)) (Eff.call0 (r_Mod d 4 lz lz (by decide))) ?_
 refine RK.val (guard_yes rfl rfl (decide_eq_false fun e => by have := sgn_le_iff.1 e; omega)) (Eff.call0 (r_Of 1 (by decide))) ?_
 refine RK.val (guard_yes rfl rfl (decide_eq_false fun e => by have := sgn_le_iff.1 e; omega)) (Eff.call0 (r_Cmp _ _)) ?_
 refine RK.val (guard_yes rfl rfl (decide_eq_false fun e => by have := sgn_le_iff.1 e; omega)) (op_gtr rfl rfl) ?_
 refine RK.V (op_pick_f rfl (decide_eq_false fun e => by have := sgn_le_iff.1 e; omega) (rfl : _ = AV.p (.c _))) ?_
 refine RK.M rfl ?_
 refine RK.split (t := 14) rfl (fun hg2 => ?_) (fun hg2 => ?_)
 ·have hg2_ := of_decide_eq_true hg2
  have h3 := of_decide_eq_true hg2
  refine RK.skip (guard_no rfl rfl hg2) ?_
  refine RK.skip (guard_no rfl rfl hg2) ?_
  refine RK.V (op_pick_t rfl hg2 (rfl : _ = AV.p (.c _))) ?_
  refine RK.D ?_
  refine AWp_cond_true rfl rfl ?_
  refine AWp_sr hP ?_
  refine RK.As rfl ?_
  refine RK.D ?_
  refine AWp_ret ?_
  refine ends_one rfl (.inr rfl) (res_tmp rfl) ?_ O_ends
  first | exact Sub.int (kn_1 h1 h2 h3) | exact Sub.int (kn_2 h1 h2 h4) | exact Sub.int (kn_3 h1 h2 h3 h4)
 ·have hg2_ := of_decide_eq_false hg2
  have h3 := of_decide_eq_false hg2
  refine RK.val (guard_yes rfl rfl hg2) (op_load_agg hT rfl rfl rfl rfl (cs := [_, _]) rfl rfl) ?_
  refine RK.val (guard_yes rfl rfl hg2) (Eff.call0 (r8_Square d lz)) ?_
  refine RK.V (op_pick_f rfl hg2 (rfl : _ = AV.p (.c _))) ?_
  refine RK.D ?_
  refine AWp_cond rfl (fun hb3 => ?_) (fun hb3 => ?_)
  ·have h4 := hb3
   refine AWp_sr hP ?_
   refine RK.As rfl ?_
   refine RK.D ?_
   refine AWp_ret ?_
   refine ends_one rfl (.inr rfl) (res_tmp rfl) ?_ O_ends
   first | exact Sub.int (kn_1 h1 h2 h3) | exact Sub.int (kn_2 h1 h2 h4) | exact Sub.int (kn_3 h1 h2 h3 h4)
  ·have h4 := hb3
   refine AWp_skip ?_
   refine AWp_seq ?_
   refine AWp_sr hP ?_
   refine RK.G2 hT rfl rfl rfl rfl rfl rfl ?_
   refine RK.V (Eff.call0 c_Edge) ?_
   refine RK.V (Eff.call0 (r_Of 65536 (by decide))) ?_
   refine RK.V (Eff.call0 (r_Cmp _ _)) ?_
   refine RK.V (op_gtr rfl rfl) ?_
   refine RK.D ?_
   refine AWp_cond_false rfl (decide_eq_false fun e => by have := cmpI_gt_zero.1 e; omega) ?_
   refine AWp_skip ?_
   refine AWp_sr hP ?_
   refine RK.As rfl ?_
   refine RK.D ?_
   refine AWp_ret ?_
   refine ends_one rfl (.inr rfl) (res_tmp rfl) ?_ O_ends
   first | exact Sub.int (kn_1 h1 h2 h3) | exact Sub.int (kn_2 h1 h2 h4) | exact Sub.int (kn_3 h1 h2 h3 h4)
/- algorist/algoristref17.Size -/
set_option maxHeartbeats 1000000 in
set_option maxRecDepth 100000 in
theorem c_Size (n : Nat) (hn : n < 65536) :
  Call0 Tryz.prog 5 [.p (.a [.v (.int .u16 (n : Int)), .v (.int .u16 0), .v (.int .u16 0), .v (.int .u8 0), .v (.int .u8 0)])] (Z (szD (5 + (n : Int) % 1995))) := by
 have h0 := Int.emod_nonneg (n : Int) (show (1995 : Int) ≠ 0 by decide)
 have h00 := Int.emod_lt_of_pos (n : Int) (show (0 : Int) < 1995 by decide)
 obtain ⟨x, hx⟩ : ∃ x, x = (5 + (n : Int) % 1995) := ⟨_, rfl⟩
 have hs := sz_ok (x := x) (by omega) (by omega)
 have hf8 : szD x = x + fjD x := rfl
 have hs2 := hs.2.1
 rw [← hx]
 refine callM_of (np := 0) Tryz.func5 (by kernel_rfl) rfl rfl (Nat.le_of_ble_eq_true rfl) (fun m h => absurd rfl h) (fun m h => absurd rfl h) rfl ?_
 refine AWp_sr hP ?_
 refine RK.alc guard_none (op_box rfl rfl) ?_
 refine RK.As rfl ?_
 refine RK.D ?_
 refine AWp_sr hP ?_
 refine RK.F hT rfl rfl rfl rfl rfl rfl ?_
 refine RK.V (op_load_one hT rfl rfl rfl rfl (by first | rfl | exact vget (by omega))) ?_
 refine RK.V (op_rem rfl rfl (by decide) (c := (n : Int) % 1995) (Int.tmod_eq_emod_of_nonneg (by omega))) ?_
 refine RK.V (op_conv hT rfl rfl rfl rfl (by first | exact IntWalk.i64_in _ (by omega) | rfl)) ?_
 refine RK.V (op_add rfl rfl (c := x) (by rw [IntKind.wrap_i64]; omega)) ?_
 refine RK.As rfl ?_
 refine RK.D ?_
 refine AWp_seq ?_
 refine AWp_block ?_
 refine AWp_loop (ι := Nat) (fun j => stL [(3, Z (x + (j : Int)))] []) (fun j => j ≤ fjD x) (fun j => fjD x - j) 0 (Nat.zero_le _) (le_stL ⟨Sub.int (by omega), trivial⟩ trivial) ?_
 rintro j hj
 refine AWp_seq ?_
 refine AWp_sr hP ?_
 refine RK.M rfl ?_
 refine RK.V (Eff.call0 (r_Of (x + (j : Int)) (by unfold InI64; omega))) ?_
 refine RK.V (Eff.call0 (c_Known (x + (j : Int)) (by omega) (by omega))) ?_
 refine RK.V (op_neq rfl rfl) ?_
 refine RK.D ?_
 refine AWp_cond rfl (fun hb1 => ?_) (fun hb1 => ?_)
 ·have hb1_ := bneT hb1
  have hne : j ≠ fjD x := fun e => by
   have h9 := bneT hb1
   rw [e, ← hf8] at h9
   exact h9 (if_pos hs.2.2.2)
  refine AWp_skip ?_
  refine AWp_block ?_
  refine AWp_region hP ?_
  refine RK.M rfl ?_
  refine RK.V (op_add rfl rfl (by first | exact IntWalk.i64_in _ (by omega) | rfl)) ?_
  refine RK.As rfl ?_
  refine RK.D ?_
  refine ⟨j + 1, by omega, by omega, le_stL ⟨Sub.int (by omega), trivial⟩ trivial⟩
 ·have hb1_ := bneF hb1
  have he : j = fjD x := by
   rcases Nat.lt_or_ge j (fjD x) with q | q
   ·have h9 := bneF hb1
    unfold knE at h9
    rw [hs.2.2.1 j q] at h9
    cases h9
   ·omega
  refine AWp_exit ?_
  refine AWp_sr hP ?_
  refine RK.M rfl ?_
  refine RK.As rfl ?_
  refine RK.D ?_
  refine AWp_ret ?_
  refine ends_one rfl (.inr rfl) (res_tmp rfl) ?_ O_ends
  exact Sub.int (by rw [hf8, he])
/- algorist/algoristtop.units -/
set_option maxHeartbeats 2000000 in
set_option maxRecDepth 100000 in
theorem t_units  :
  Call0 Tryz.prog 7 [] (B true) := by
 obtain ⟨n, m, c, y, eta, h⟩ := five
 have cF := un_Fundamental 5 n m y h.dok h.pd h.rd h.fu
 rw [h.uq] at cF
 refine callM_of (np := 0) Tryz.func7 (by kernel_rfl) rfl rfl (Nat.le_of_ble_eq_true rfl) (fun m h => absurd rfl h) (fun m h => absurd rfl h) rfl ?_
 refine AWp_sr hP ?_
 refine RK.As rfl ?_
 refine RK.D ?_
 refine AWp_sr hP ?_
 refine RK.V (Eff.call0 (r_Of 5 (by decide))) ?_
 refine RK.V (Eff.call0 cF) ?_
 refine RK.V (op_move (rfl : _ = AV.t _)) ?_
 refine RK.V (op_extract rfl (v := .a _) rfl) ?_
 refine RK.V (op_extract rfl (v := .c _) rfl) ?_
 refine RK.alc guard_none (op_alloc hT rfl rfl) ?_
 refine RK.S hT rfl rfl rfl rfl rfl rfl rfl ?_
 refine RK.As rfl ?_
 refine RK.D ?_
 refine AWp_sr hP ?_
 refine RK.M rfl ?_
 refine RK.V (op_eql rfl rfl) ?_
 refine RK.M rfl ?_
 refine RK.val (guard_yes rfl rfl rfl) (op_field_loc hT rfl rfl rfl rfl rfl rfl) ?_
 refine RK.val (guard_yes rfl rfl rfl) (op_load_agg hT rfl rfl rfl rfl (cs := [_, _]) rfl rfl) ?_
 refine RK.val (guard_yes rfl rfl rfl) (Eff.call0 (r_Of 1 (by decide))) ?_
 refine RK.val (guard_yes rfl rfl rfl) (Eff.call0 (r_Same _ _)) ?_
 refine RK.V (op_pick_t rfl rfl (rfl : _ = AV.p (.c _))) ?_
 refine RK.M rfl ?_
 refine RK.val (guard_yes rfl rfl rfl) (op_field_loc hT rfl rfl rfl rfl rfl rfl) ?_
 refine RK.val (guard_yes rfl rfl rfl) (op_load_agg hT rfl rfl rfl rfl (cs := [_, _]) rfl rfl) ?_
 refine RK.val (guard_yes rfl rfl rfl) (Eff.call0 (r_Of 1 (by decide))) ?_
 refine RK.val (guard_yes rfl rfl rfl) (Eff.call0 (r_Same _ _)) ?_
 refine RK.V (op_pick_t rfl rfl (rfl : _ = AV.p (.c _))) ?_
 refine RK.As rfl ?_
 refine RK.D ?_
 refine AWp_ret ?_
 refine ends_one rfl (.inr rfl) (res_tmp rfl) ?_ O_ends
 exact .refl _
theorem t_facts (d k : Int) (hd : DOK d) (hd5 : d < 2005) (hokd : okD d = true) (hkb : k.natAbs ≤ 22) (hv : ¬ k = 0 ∧ ¬ k % 4 = 0 ∧ ¬ k % 9 = 0 ∧ 4 * k * k < d) :
  ∃ (out : List Qd) (e12 : Int) (g12 : Fm) (u w : Qd), Call0 Tryz.prog 8 [I d] (.t [PF (prD d), PE 0]) ∧ Call0 Tryz.prog 9 [I d, I k] (.t [.c (SL enQ out), PE 0]) ∧ Call0 Tryz.prog 10 [FA (prD d).a (prD d).b (prD d).c, I k] (.t [PF g12, PE e12]) ∧
   Call0 Tryz.prog 11 [I d] (.t [PQ u, PE 0]) ∧ Call0 Tryz.prog 12 [QA u, QA u, I d] (.t [PQ w, PE 0]) ∧ (decide ((out.length : Int) > 0) == (e12 == 0)) = true ∧ (∀ i, i < out.length → decide (cmpI (out.getD i (0, 0)).2 w.2 > 0) = false) ∧ (e12 = 0 ∨ e12 = 6) ∧ out.length ≤ 1000000 := by
 obtain ⟨hm0, hm4, hm9, hlt⟩ := hv
 have hdlo := hd.lo
 have id : LB d 6 := ⟨hd.L6⟩
 obtain ⟨n1, m, c, y, u, eta, hT2⟩ := chD_T hd (ch_all (by have := hd.lo; omega) hd5 hokd)
 have hkk : kOK d k = true := by
  unfold kOK
  rw [decide_eq_false hm0, decide_eq_false hm4, decide_eq_false hm9, decide_eq_true hlt]; rfl
 have hTK : TK d y c u eta k := by
  have := hT2.tk (k + 22).toNat (by omega)
  rw [show (((k + 22).toNat : Nat) : Int) - 22 = k by omega] at this
  exact this hkk
 have hDD := hT2.dd
 have cP : Call0 Tryz.prog 8 [I d] (.t [PF (prD d), PE 0]) := by
  have h9 := q_Principal d lz
  rwa [(rf_ok hd).1, (rf_ok hd).2] at h9
 have cS := pl_Solve d n1 m c y u eta hDD k hm0 (by omega) hTK.hz (sqf (by omega) hm0 hm4 hm9) hTK.hqs hTK.hle
 have hoq : srtQ (svL (rpL d eta y c k)).2 = outQ d eta y c k := rfl
 rw [hoq] at cS
 have cSh := cy_Shows d (prD d) n1 c y k hd hDD.pd hDD.rd hDD.ar
 have cF := un_Fundamental d n1 m y hd hDD.pd hDD.rd hDD.fu
 rw [hDD.uq] at cF
 have cM := un_Mul u u d hd (hDD.uL.mono (by decide)) (hDD.uL.mono (by decide)) hDD.ue hDD.ue
 have hlaw := law_fin hTK
 have htop := fun i q => out_top hTK (i := i) q
 have hE := sh_e (cyF (rootV d) y.1 c) k
 generalize (shR (cyF (rootV d) y.1 c) k).2 = e12 at cSh hlaw hE
 generalize (shR (cyF (rootV d) y.1 c) k).1 = g12 at cSh
 generalize qmF u u d = w at cM htop
 have hol : (outQ d eta y c k).length ≤ 1000000 := by
  unfold outQ srtQ
  rw [(List.mergeSort_perm _ leQ).length_eq]
  have h1 := svL_len (rpL d eta y c k)
  have h2 := rpL_len (d := d) (eta := eta) (y := y) (c := c) (m := k)
  have h3 := xsP_le (d := d) (y := y) (c := c) (m := k)
  omega
 generalize outQ d eta y c k = out at cS hlaw htop hol
 exact ⟨out, e12, g12, u, w, cP, cS, cSh, cF, cM, hlaw, htop, hE, hol⟩
/- algorist/algoristtop.TopLagrange -/
set_option maxHeartbeats 16000000 in
set_option maxRecDepth 100000 in
theorem l_TopLagrange (n : Nat) (hn : n < 65536) (z : Int) (_hz : -128 ≤ z ∧ z < 128) :
  Call0 Tryz.prog 3 [.p (.c (.v (.int .u16 (n : Int)))), .p (.c (.v (.int .i8 (z : Int))))] (B true) := by
 have h0 := Int.emod_nonneg (n : Int) (show (1995 : Int) ≠ 0 by decide)
 have h00 := Int.emod_lt_of_pos (n : Int) (show (0 : Int) < 1995 by decide)
 have hs := sz_ok (x := 5 + (n : Int) % 1995) (by omega) (by omega)
 have cSz := c_Size n hn
 generalize szD (5 + (n : Int) % 1995) = d at cSz hs
 have hd := hs.1
 have hd5 := hs.2.1
 have hokd := hs.2.2.2
 clear hs
 have hdlo := hd.lo
 have id : LB d 6 := ⟨hd.L6⟩
 obtain ⟨k, hk⟩ : ∃ k : Int, k = z.tmod 23 := ⟨_, rfl⟩
 have hkb : k.natAbs ≤ 22 := by
  rw [hk, Int.natAbs_tmod]
  have := Nat.mod_lt z.natAbs (show 0 < (23 : Int).natAbs by decide)
  have h23 : (23 : Int).natAbs = 23 := rfl
  omega
 have hsq : k * k = ((k.natAbs * k.natAbs : Nat) : Int) := by rw [← Int.natAbs_mul_self' k]; exact (Int.natCast_mul _ _).symm
 have hsq2 : k.natAbs * k.natAbs ≤ 22 * 22 := Nat.mul_le_mul hkb hkb
 have h4kk : 4 * k * k = 4 * (k * k) := Int.mul_assoc _ _ _
 refine callM_of (np := 0) Tryz.func3 (by kernel_rfl) rfl rfl (Nat.le_of_ble_eq_true rfl) (fun m h => absurd rfl h) (fun m h => absurd rfl h) rfl ?_
 refine AWp_sr hP ?_
 refine RK.As rfl ?_
 refine RK.D ?_
 refine AWp_sr hP ?_
 refine RK.M rfl ?_
 refine RK.V (op_build_st hT rfl rfl rfl (es := [_, _, _, _, _]) rfl) ?_
 refine RK.V (Eff.call0 cSz) ?_
 refine RK.V (Eff.call0 (r_Of d (by unfold InI64; omega))) ?_
 refine RK.M rfl ?_
 refine RK.V (op_rem rfl rfl (by decide) (c := k) hk.symm) ?_
 refine RK.V (op_conv hT rfl rfl rfl rfl (c := k) (by rw [IntKind.wrap_i64]; omega)) ?_
 refine RK.alc guard_none (op_alloc hT rfl rfl) ?_
 refine RK.S hT rfl rfl rfl rfl rfl rfl rfl ?_
 refine RK.As rfl ?_
 refine RK.D ?_
 refine AWp_seq ?_
 refine AWp_sr hP ?_
 refine RK.M rfl ?_
 refine RK.V (op_eql rfl rfl) ?_
 refine RK.M rfl ?_
 refine RK.split (t := 27) rfl (fun hg1 => ?_) (fun hg1 => ?_)
 ·have hg1_ := bT hg1
  have hx1 := 0
  refine RK.skip (guard_no rfl rfl hg1) ?_
  refine RK.skip (guard_no rfl rfl hg1) ?_
  refine RK.skip (guard_no rfl rfl hg1) ?_
  refine RK.V (op_pick_t rfl hg1 (rfl : _ = AV.p (.c _))) ?_
  refine RK.M rfl ?_
  refine RK.skip (guard_no rfl rfl rfl) ?_
  refine RK.skip (guard_no rfl rfl rfl) ?_
  refine RK.skip (guard_no rfl rfl rfl) ?_
  refine RK.V (op_pick_t rfl rfl (rfl : _ = AV.p (.c _))) ?_
  refine RK.M rfl ?_
  refine RK.skip (guard_no rfl rfl rfl) ?_
  refine RK.skip (guard_no rfl rfl rfl) ?_
  refine RK.skip (guard_no rfl rfl rfl) ?_
  refine RK.skip (guard_no rfl rfl rfl) ?_
  refine RK.skip (guard_no rfl rfl rfl) ?_
  refine RK.skip (guard_no rfl rfl rfl) ?_
  refine RK.skip (guard_no rfl rfl rfl) ?_
  refine RK.skip (guard_no rfl rfl rfl) ?_
  refine RK.V (op_pick_t rfl rfl (rfl : _ = AV.p (.c _))) ?_
  refine RK.D ?_
  refine AWp_cond_true rfl rfl ?_
  refine AWp_sr hP ?_
  refine RK.V (Eff.call0 t_units) ?_
  refine RK.As rfl ?_
  refine RK.D ?_
  refine AWp_ret ?_
  refine ends_one rfl (.inr rfl) (res_tmp rfl) ?_ O_ends
  first | exact .refl _ | exact Sub.bool hlaw
 ·have hg1_ := bF hg1
  have hm0 : ¬ k = 0 := bF hg1
  refine RK.val (guard_yes rfl rfl hg1) (op_move (rfl : _ = AV.p (.c _))) ?_
  refine RK.val (guard_yes rfl rfl hg1) (op_rem rfl rfl (by decide) (c := k.tmod 4) rfl) ?_
  refine RK.val (guard_yes rfl rfl hg1) (op_eql rfl rfl) ?_
  refine RK.V (op_pick_f rfl hg1 (rfl : _ = AV.p (.c _))) ?_
  refine RK.M rfl ?_
  refine RK.split (t := 32) rfl (fun hg2 => ?_) (fun hg2 => ?_)
  ·have hg2_ := bT hg2
   have hx1 := 0
   refine RK.skip (guard_no rfl rfl hg2) ?_
   refine RK.skip (guard_no rfl rfl hg2) ?_
   refine RK.skip (guard_no rfl rfl hg2) ?_
   refine RK.V (op_pick_t rfl hg2 (rfl : _ = AV.p (.c _))) ?_
   refine RK.M rfl ?_
   refine RK.skip (guard_no rfl rfl rfl) ?_
   refine RK.skip (guard_no rfl rfl rfl) ?_
   refine RK.skip (guard_no rfl rfl rfl) ?_
   refine RK.skip (guard_no rfl rfl rfl) ?_
   refine RK.skip (guard_no rfl rfl rfl) ?_
   refine RK.skip (guard_no rfl rfl rfl) ?_
   refine RK.skip (guard_no rfl rfl rfl) ?_
   refine RK.skip (guard_no rfl rfl rfl) ?_
   refine RK.V (op_pick_t rfl rfl (rfl : _ = AV.p (.c _))) ?_
   refine RK.D ?_
   refine AWp_cond_true rfl rfl ?_
   refine AWp_sr hP ?_
   refine RK.V (Eff.call0 t_units) ?_
   refine RK.As rfl ?_
   refine RK.D ?_
   refine AWp_ret ?_
   refine ends_one rfl (.inr rfl) (res_tmp rfl) ?_ O_ends
   first | exact .refl _ | exact Sub.bool hlaw
  ·have hg2_ := bF hg2
   have hm4 : ¬ k % 4 = 0 := fun e => bF hg2 (tm0.2 e)
   refine RK.val (guard_yes rfl rfl hg2) (op_move (rfl : _ = AV.p (.c _))) ?_
   refine RK.val (guard_yes rfl rfl hg2) (op_rem rfl rfl (by decide) (c := k.tmod 9) rfl) ?_
   refine RK.val (guard_yes rfl rfl hg2) (op_eql rfl rfl) ?_
   refine RK.V (op_pick_f rfl hg2 (rfl : _ = AV.p (.c _))) ?_
   refine RK.M rfl ?_
   refine RK.split (t := 37) rfl (fun hg3 => ?_) (fun hg3 => ?_)
   ·have hg3_ := bT hg3
    have hx1 := 0
    refine RK.skip (guard_no rfl rfl hg3) ?_
    refine RK.skip (guard_no rfl rfl hg3) ?_
    refine RK.skip (guard_no rfl rfl hg3) ?_
    refine RK.skip (guard_no rfl rfl hg3) ?_
    refine RK.skip (guard_no rfl rfl hg3) ?_
    refine RK.skip (guard_no rfl rfl hg3) ?_
    refine RK.skip (guard_no rfl rfl hg3) ?_
    refine RK.skip (guard_no rfl rfl hg3) ?_
    refine RK.V (op_pick_t rfl hg3 (rfl : _ = AV.p (.c _))) ?_
    refine RK.D ?_
    refine AWp_cond_true rfl rfl ?_
    refine AWp_sr hP ?_
    refine RK.V (Eff.call0 t_units) ?_
    refine RK.As rfl ?_
    refine RK.D ?_
    refine AWp_ret ?_
    refine ends_one rfl (.inr rfl) (res_tmp rfl) ?_ O_ends
    first | exact .refl _ | exact Sub.bool hlaw
   ·have hg3_ := bF hg3
    have hm9 : ¬ k % 9 = 0 := fun e => bF hg3 (tm0.2 e)
    refine RK.val (guard_yes rfl rfl hg3) (op_move (rfl : _ = AV.p (.c _))) ?_
    refine RK.val (guard_yes rfl rfl hg3) (op_mul rfl rfl (c := 4 * k) (by rw [IntKind.wrap_i64]; omega)) ?_
    refine RK.val (guard_yes rfl rfl hg3) (op_move (rfl : _ = AV.p (.c _))) ?_
    refine RK.val (guard_yes rfl rfl hg3) (op_mul rfl rfl (c := 4 * k * k) (by rw [IntKind.wrap_i64]; omega)) ?_
    refine RK.val (guard_yes rfl rfl hg3) (Eff.call0 (r_Of (4 * k * k) (by unfold InI64; omega))) ?_
    refine RK.val (guard_yes rfl rfl hg3) (op_load_agg hT rfl rfl rfl rfl (cs := [_, _]) rfl rfl) ?_
    refine RK.val (guard_yes rfl rfl hg3) (Eff.call0 (int_Cmp _ _)) ?_
    refine RK.val (guard_yes rfl rfl hg3) (op_geq rfl rfl) ?_
    refine RK.V (op_pick_f rfl hg3 (rfl : _ = AV.p (.c _))) ?_
    refine RK.D ?_
    refine AWp_cond rfl (fun hb4 => ?_) (fun hb4 => ?_)
    ·have hb4_ := of_decide_eq_true hb4
     refine AWp_sr hP ?_
     refine RK.V (Eff.call0 t_units) ?_
     refine RK.As rfl ?_
     refine RK.D ?_
     refine AWp_ret ?_
     refine ends_one rfl (.inr rfl) (res_tmp rfl) ?_ O_ends
     first | exact .refl _ | exact Sub.bool hlaw
    ·have hb4_ := of_decide_eq_false hb4
     have hlt : 4 * k * k < d := by
      have h9 := of_decide_eq_false hb4
      rcases Int.lt_or_le (4 * k * k) d with q | q
      ·exact q
      ·exact absurd (by show 0 ≤ cmpI (4 * k * k) d; unfold cmpI; split <;> (try split) <;> omega) h9
     have hv := And.intro hm0 (And.intro hm4 (And.intro hm9 hlt))
     refine (t_facts d k hd hd5 hokd hkb hv).elim fun out H1 => ?_
     refine H1.elim fun e12 H2 => ?_
     refine H2.elim fun g12 H3 => ?_
     refine H3.elim fun u H4 => ?_
     refine H4.elim fun w H5 => ?_
     have cP := H5.1
     have cS := H5.2.1
     have cSh := H5.2.2.1
     have cF := H5.2.2.2.1
     have cM := H5.2.2.2.2.1
     have hlaw := H5.2.2.2.2.2.1
     have htop := H5.2.2.2.2.2.2.1
     have hE := H5.2.2.2.2.2.2.2.1
     have hol := H5.2.2.2.2.2.2.2.2
     refine AWp_skip ?_
     refine AWp_sr hP ?_
     refine RK.G2 hT rfl rfl rfl rfl rfl rfl ?_
     refine RK.V (Eff.call0 cP) ?_
     refine RK.V (op_move (rfl : _ = AV.t _)) ?_
     refine RK.V (op_extract rfl (v := .a _) rfl) ?_
     refine RK.V (op_extract rfl (v := .c _) rfl) ?_
     refine RK.alc guard_none (op_alloc hT rfl rfl) ?_
     refine RK.S hT rfl rfl rfl rfl rfl rfl rfl ?_
     refine RK.As rfl ?_
     refine RK.D ?_
     refine AWp_sr hP ?_
     refine RK.G2 hT rfl rfl rfl rfl rfl rfl ?_
     refine RK.M rfl ?_
     refine RK.V (Eff.call0 (r_Of k (by unfold InI64; omega))) ?_
     refine RK.V (Eff.call0 cS) ?_
     refine RK.V (op_move (rfl : _ = AV.t _)) ?_
     refine RK.V (op_extract rfl (v := .c _) rfl) ?_
     refine RK.V (op_extract rfl (v := .c _) rfl) ?_
     refine RK.As rfl ?_
     refine RK.As rfl ?_
     refine RK.D ?_
     refine AWp_sr hP ?_
     refine RK.G6 hT rfl rfl rfl rfl rfl rfl ?_
     refine RK.M rfl ?_
     refine RK.V (Eff.call0 (r_Of k (by unfold InI64; omega))) ?_
     refine RK.V (Eff.call0 cSh) ?_
     refine RK.V (op_move (rfl : _ = AV.t _)) ?_
     refine RK.V (op_extract rfl (v := .a _) rfl) ?_
     refine RK.V (op_extract rfl (v := .c _) rfl) ?_
     refine RK.alc guard_none (op_alloc hT rfl rfl) ?_
     refine RK.S hT rfl rfl rfl rfl rfl rfl rfl ?_
     refine RK.As rfl ?_
     refine RK.D ?_
     refine AWp_sr hP ?_
     refine RK.G2 hT rfl rfl rfl rfl rfl rfl ?_
     refine RK.V (Eff.call0 cF) ?_
     refine RK.V (op_move (rfl : _ = AV.t _)) ?_
     refine RK.V (op_extract rfl (v := .a _) rfl) ?_
     refine RK.V (op_extract rfl (v := .c _) rfl) ?_
     refine RK.alc guard_none (op_alloc hT rfl rfl) ?_
     refine RK.S hT rfl rfl rfl rfl rfl rfl rfl ?_
     refine RK.As rfl ?_
     refine RK.D ?_
     refine AWp_sr hP ?_
     refine RK.V (op_load_agg hT rfl rfl rfl rfl (cs := [_, _, _, _]) rfl rfl) ?_
     refine RK.V (op_load_agg hT rfl rfl rfl rfl (cs := [_, _, _, _]) rfl rfl) ?_
     refine RK.G2 hT rfl rfl rfl rfl rfl rfl ?_
     refine RK.V (Eff.call0 cM) ?_
     refine RK.V (op_move (rfl : _ = AV.t _)) ?_
     refine RK.V (op_extract rfl (v := .a _) rfl) ?_
     refine RK.V (op_extract rfl (v := .c _) rfl) ?_
     refine RK.alc guard_none (op_alloc hT rfl rfl) ?_
     refine RK.S hT rfl rfl rfl rfl rfl rfl rfl ?_
     refine RK.As rfl ?_
     refine RK.D ?_
     refine AWp_seq ?_
     refine AWp_sr hP ?_
     refine RK.M rfl ?_
     refine RK.V (op_neq rfl rfl) ?_
     refine RK.M rfl ?_
     refine RK.val (guard_yes rfl rfl rfl) (op_move (rfl : _ = AV.p (.c _))) ?_
     refine RK.val (guard_yes rfl rfl rfl) (op_neq rfl rfl) ?_
     refine RK.V (op_pick_f rfl rfl (rfl : _ = AV.p (.c _))) ?_
     refine RK.M rfl ?_
     refine RK.val (guard_yes rfl rfl rfl) (op_move (rfl : _ = AV.p (.c _))) ?_
     refine RK.val (guard_yes rfl rfl rfl) (op_neq rfl rfl) ?_
     refine RK.val (guard_yes rfl rfl rfl) (op_move (rfl : _ = AV.p (.c _))) ?_
     refine RK.split (t := 88) rfl (fun hg7 => ?_) (fun hg7 => ?_)
     ·have hg7_ := bneT hg7
      have he6 : e12 = 6 := hE.elim (fun e => absurd e (bneT hg7)) (fun e => e)
      refine RK.val (guard_yes rfl rfl hg7) (op_move (rfl : _ = AV.p (.c _))) ?_
      refine RK.val (guard_yes rfl rfl hg7) (op_neq rfl rfl) ?_
      refine RK.val (guard_yes rfl rfl rfl) (op_pick_t rfl hg7 (rfl : _ = AV.p (.c _))) ?_
      refine RK.V (op_pick_f rfl rfl (rfl : _ = AV.p (.c _))) ?_
      refine RK.M rfl ?_
      refine RK.val (guard_yes rfl rfl (by rw [he6]; rfl)) (op_move (rfl : _ = AV.p (.c _))) ?_
      refine RK.val (guard_yes rfl rfl (by rw [he6]; rfl)) (op_neq rfl rfl) ?_
      refine RK.V (op_pick_f rfl (by rw [he6]; rfl) (rfl : _ = AV.p (.c _))) ?_
      refine RK.M rfl ?_
      refine RK.val (guard_yes rfl rfl rfl) (op_move (rfl : _ = AV.p (.c _))) ?_
      refine RK.val (guard_yes rfl rfl rfl) (op_neq rfl rfl) ?_
      refine RK.V (op_pick_f rfl rfl (rfl : _ = AV.p (.c _))) ?_
      refine RK.D ?_
      refine AWp_cond_false rfl rfl ?_
      refine AWp_skip ?_
      refine AWp_seq ?_
      refine AWp_sr hP ?_
      refine RK.As rfl ?_
      refine RK.D ?_
      refine AWp_block ?_
      refine AWp_loop (ι := Nat) (fun i => stL [(9, .p (.c (SL enQ out))), (12, Z e12), (15, .loc 15 0), (17, Z (i : Int))] [(15, ⟨false, 1, 45, QL w⟩)]) (fun i => i ≤ out.length) (fun i => out.length - i) 0 (Nat.zero_le _) (le_stL ⟨.refl _, .refl _, .refl _, .refl _, trivial⟩ ⟨rfl, trivial⟩) ?_
      rintro i hi
      refine AWp_seq ?_
      refine AWp_sr hP ?_
      refine RK.M rfl ?_
      refine RK.M rfl ?_
      refine RK.V (op_len hT rfl rfl rfl (by rfl)) ?_
      refine RK.V (op_lss rfl rfl) ?_
      refine RK.D ?_
      refine AWp_cond rfl (fun hb10 => ?_) (fun hb10 => ?_)
      ·have hb10_ := of_decide_eq_true hb10
       have hil : i < out.length := by omega
       have hcy := htop i hil
       refine AWp_skip ?_
       refine AWp_seq ?_
       refine AWp_block ?_
       refine AWp_sr hP ?_
       refine RK.M rfl ?_
       refine RK.M rfl ?_
       refine RK.V (op_indexG hT enQ_len (by decide) (0, 0) (n := (i : Int)) (l := out) rfl rfl rfl rfl rfl rfl (by omega)) ?_
       refine RK.V (op_field_ip hT rfl rfl rfl rfl rfl rfl) ?_
       refine RK.V (op_load_ip_agg hT rfl rfl rfl (cs := [_, _]) rfl rfl) ?_
       refine RK.F hT rfl rfl rfl rfl rfl rfl ?_
       refine RK.G2 hT rfl rfl rfl rfl rfl rfl ?_
       refine RK.V (Eff.call0 (int_Cmp _ _)) ?_
       refine RK.V (op_gtr rfl rfl) ?_
       refine RK.D ?_
       refine AWp_cond_false rfl hcy ?_
       refine AWp_skip ?_
       refine AWp_region hP ?_
       refine RK.M rfl ?_
       refine RK.V (op_add rfl rfl (by first | exact IntWalk.i64_in _ (by omega) | rfl)) ?_
       refine RK.As rfl ?_
       refine RK.D ?_
       refine ⟨i + 1, by omega, by omega, le_stL ⟨.refl _, .refl _, .refl _, Sub.int (by omega), trivial⟩ ⟨rfl, trivial⟩⟩
      ·have hb10_ := of_decide_eq_false hb10
       have hin : out.length ≤ i := by omega
       refine AWp_exit ?_
       refine AWp_sr hP ?_
       refine RK.M rfl ?_
       refine RK.V (op_len hT rfl rfl rfl (by rfl)) ?_
       refine RK.V (op_gtr rfl rfl) ?_
       refine RK.M rfl ?_
       refine RK.V (op_eql rfl rfl) ?_
       refine RK.V (op_beq hT rfl rfl rfl rfl) ?_
       refine RK.As rfl ?_
       refine RK.D ?_
       refine AWp_ret ?_
       refine ends_one rfl (.inr rfl) (res_tmp rfl) ?_ O_ends
       first | exact .refl _ | exact Sub.bool hlaw
     ·have hg7_ := bneF hg7
      have he0 : e12 = 0 := bneF hg7
      refine RK.skip (guard_no rfl rfl hg7) ?_
      refine RK.skip (guard_no rfl rfl hg7) ?_
      refine RK.val (guard_yes rfl rfl rfl) (op_pick_f rfl hg7 (rfl : _ = AV.p (.c _))) ?_
      refine RK.V (op_pick_f rfl rfl (rfl : _ = AV.p (.c _))) ?_
      refine RK.M rfl ?_
      refine RK.val (guard_yes rfl rfl rfl) (op_move (rfl : _ = AV.p (.c _))) ?_
      refine RK.val (guard_yes rfl rfl rfl) (op_neq rfl rfl) ?_
      refine RK.V (op_pick_f rfl rfl (rfl : _ = AV.p (.c _))) ?_
      refine RK.M rfl ?_
      refine RK.val (guard_yes rfl rfl rfl) (op_move (rfl : _ = AV.p (.c _))) ?_
      refine RK.val (guard_yes rfl rfl rfl) (op_neq rfl rfl) ?_
      refine RK.V (op_pick_f rfl rfl (rfl : _ = AV.p (.c _))) ?_
      refine RK.D ?_
      refine AWp_cond_false rfl rfl ?_
      refine AWp_skip ?_
      refine AWp_seq ?_
      refine AWp_sr hP ?_
      refine RK.As rfl ?_
      refine RK.D ?_
      refine AWp_block ?_
      refine AWp_loop (ι := Nat) (fun i => stL [(9, .p (.c (SL enQ out))), (12, Z e12), (15, .loc 15 0), (17, Z (i : Int))] [(15, ⟨false, 1, 45, QL w⟩)]) (fun i => i ≤ out.length) (fun i => out.length - i) 0 (Nat.zero_le _) (le_stL ⟨.refl _, .refl _, .refl _, .refl _, trivial⟩ ⟨rfl, trivial⟩) ?_
      rintro i hi
      refine AWp_seq ?_
      refine AWp_sr hP ?_
      refine RK.M rfl ?_
      refine RK.M rfl ?_
      refine RK.V (op_len hT rfl rfl rfl (by rfl)) ?_
      refine RK.V (op_lss rfl rfl) ?_
      refine RK.D ?_
      refine AWp_cond rfl (fun hb12 => ?_) (fun hb12 => ?_)
      ·have hb12_ := of_decide_eq_true hb12
       have hil : i < out.length := by omega
       have hcy := htop i hil
       refine AWp_skip ?_
       refine AWp_seq ?_
       refine AWp_block ?_
       refine AWp_sr hP ?_
       refine RK.M rfl ?_
       refine RK.M rfl ?_
       refine RK.V (op_indexG hT enQ_len (by decide) (0, 0) (n := (i : Int)) (l := out) rfl rfl rfl rfl rfl rfl (by omega)) ?_
       refine RK.V (op_field_ip hT rfl rfl rfl rfl rfl rfl) ?_
       refine RK.V (op_load_ip_agg hT rfl rfl rfl (cs := [_, _]) rfl rfl) ?_
       refine RK.F hT rfl rfl rfl rfl rfl rfl ?_
       refine RK.G2 hT rfl rfl rfl rfl rfl rfl ?_
       refine RK.V (Eff.call0 (int_Cmp _ _)) ?_
       refine RK.V (op_gtr rfl rfl) ?_
       refine RK.D ?_
       refine AWp_cond_false rfl hcy ?_
       refine AWp_skip ?_
       refine AWp_region hP ?_
       refine RK.M rfl ?_
       refine RK.V (op_add rfl rfl (by first | exact IntWalk.i64_in _ (by omega) | rfl)) ?_
       refine RK.As rfl ?_
       refine RK.D ?_
       refine ⟨i + 1, by omega, by omega, le_stL ⟨.refl _, .refl _, .refl _, Sub.int (by omega), trivial⟩ ⟨rfl, trivial⟩⟩
      ·have hb12_ := of_decide_eq_false hb12
       have hin : out.length ≤ i := by omega
       refine AWp_exit ?_
       refine AWp_sr hP ?_
       refine RK.M rfl ?_
       refine RK.V (op_len hT rfl rfl rfl (by rfl)) ?_
       refine RK.V (op_gtr rfl rfl) ?_
       refine RK.M rfl ?_
       refine RK.V (op_eql rfl rfl) ?_
       refine RK.V (op_beq hT rfl rfl rfl rfl) ?_
       refine RK.As rfl ?_
       refine RK.D ?_
       refine AWp_ret ?_
       refine ends_one rfl (.inr rfl) (res_tmp rfl) ?_ O_ends
       first | exact .refl _ | exact Sub.bool hlaw
end Go.Proofs.YtfdjankalhfceaaGreat
end
