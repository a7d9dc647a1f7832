/- Texts merged by program, in build order. -/
import Derived.Test.YtpaifigafaijpaaGreatDoorMD
import Derived.Test.YtpaifigafaijpaaGreatDoorMC
import Derived.Test.YtpaifigafaijpaaGreatDoorME
import Derived.Test.YtpaifigafaijpaaGreatDoorMB
section
/- chapter 9: Bezout, inverses -/
namespace Go.Proofs.YtpaifigafaijpaaGreatDoor
open Go Go.AM
set_option maxRecDepth 100000
set_option maxHeartbeats 1000000
set_option maxHeartbeats 4000000 in
theorem int_Bezout (a b : Int) (ha : L 30 a) (hb : L 30 b) :
  Call0 Tryz.prog 213 [I a, I b] (.t [PI ((Int.gcd a b : Nat) : Int), PI (bzU a b), PI (bzV a b)]) := by
 have ia : LB a 30 := ⟨ha⟩
 have ib : LB b 30 := ⟨hb⟩
 refine callM_of (np := 0) Tryz.func213 (by kernel_rfl) rfl rfl (Nat.le_of_ble_eq_true rfl) (fun m h => absurd rfl h) (fun m h => absurd rfl h) rfl ?_
 refine AWp_sr hP ?_
 refine RK.alc guard_none (op_box rfl rfl) ?_
 refine RK.alc guard_none (op_box rfl rfl) ?_
 refine RK.alc guard_none (op_alloc hT rfl rfl) ?_
 refine RK.alc guard_none (op_alloc hT rfl rfl) ?_
 refine RK.alc guard_none (op_alloc hT rfl rfl) ?_
 refine RK.D ?_
 refine AWp_seq ?_
 refine AWp_sr hP ?_
 refine RK.F hT rfl rfl rfl rfl rfl rfl ?_
 refine RK.V (op_load_one hT rfl rfl rfl rfl (by first | rfl | exact vget (by omega))) ?_
 refine RK.V (op_len hT rfl rfl rfl rfl) ?_
 refine RK.V (op_eql rfl rfl) ?_
 refine RK.D ?_
 refine AWp_cond rfl (fun hb1 => ?_) (fun hb1 => ?_)
 ·have hb1_ := bT hb1
  have hb0 : b = 0 := wl_len_zero.1 hb1_
  refine AWp_sr hP ?_
  refine RK.G2 hT rfl rfl rfl rfl rfl rfl ?_
  refine RK.V (Eff.call0 (int_Abs _)) ?_
  refine RK.G2 hT rfl rfl rfl rfl rfl rfl ?_
  refine RK.V (Eff.call0 (int_Sign _)) ?_
  refine RK.V (Eff.call0 (int_Of _ (by unfold sgn; split <;> (try split) <;> decide))) ?_
  refine RK.V (op_build_st hT rfl rfl rfl (es := [_, _]) rfl) ?_
  refine RK.S hT rfl rfl rfl rfl rfl rfl rfl ?_
  refine RK.S hT rfl rfl rfl rfl rfl rfl rfl ?_
  refine RK.S hT rfl rfl rfl rfl rfl rfl rfl ?_
  refine RK.D ?_
  refine AWp_ret ?_
  refine ends_three rfl (.inr rfl) (res_cell_agg hT rfl rfl rfl rfl (cs := [_, _]) rfl rfl) (res_cell_agg hT rfl rfl rfl rfl (cs := [_, _]) rfl rfl) (res_cell_agg hT rfl rfl rfl rfl (cs := [_, _]) rfl rfl) ?_ O_ends
  exact Sub.of_eq (bz_0 hb0)
 ·have hb1_ := bF hb1
  have hb0 : b ≠ 0 := fun e => hb1_ (wl_len_zero.2 e)
  refine AWp_skip ?_
  refine AWp_sr hP ?_
  refine RK.G2 hT rfl rfl rfl rfl rfl rfl ?_
  refine RK.V (Eff.call0 (int_Abs _)) ?_
  refine RK.G2 hT rfl rfl rfl rfl rfl rfl ?_
  refine RK.G2 hT rfl rfl rfl rfl rfl rfl ?_
  refine RK.V (Eff.call0 (int_mod _ _ lz lz hb0)) ?_
  refine RK.alc guard_none (op_alloc hT rfl rfl) ?_
  refine RK.alc guard_none (op_alloc hT rfl rfl) ?_
  refine RK.S hT rfl rfl rfl rfl rfl rfl rfl ?_
  refine RK.S hT rfl rfl rfl rfl rfl rfl rfl ?_
  refine RK.D ?_
  refine AWp_sr hP ?_
  refine RK.alc guard_none (op_alloc hT rfl rfl) ?_
  refine RK.D ?_
  refine AWp_sr hP ?_
  refine RK.V (Eff.call0 (int_Of 1 (by decide))) ?_
  refine RK.alc guard_none (op_alloc hT rfl rfl) ?_
  refine RK.S hT rfl rfl rfl rfl rfl rfl rfl ?_
  refine RK.D ?_
  refine AWp_seq ?_
  refine AWp_block ?_
  refine AWp_loop (ι := Int × Int × Int × Int) (fun p => stL [(2, .loc 2 0), (3, .loc 3 0), (4, .loc 4 0), (5, .loc 5 0), (6, .loc 6 0), (7, .loc 7 0), (8, .loc 8 0), (9, .loc 9 0), (10, .loc 10 0)] [(2, ⟨false, 1, 36, [zn (a), zm (a)]⟩), (3, ⟨false, 1, 36, [zn (b), zm (b)]⟩), (4, ⟨false, 1, 36, [zn (0), zm (0)]⟩), (5, ⟨false, 1, 36, [zn (0), zm (0)]⟩), (6, ⟨false, 1, 36, [zn (0), zm (0)]⟩), (7, ⟨false, 1, 36, [zn (p.1), zm (p.1)]⟩), (8, ⟨false, 1, 36, [zn (p.2.1), zm (p.2.1)]⟩), (9, ⟨false, 1, 36, [zn (p.2.2.1), zm (p.2.2.1)]⟩), (10, ⟨false, 1, 36, [zn (p.2.2.2), zm (p.2.2.2)]⟩)]) (fun p => BzI a b p.1 p.2.1 p.2.2.1 p.2.2.2) (fun p => p.2.1.natAbs) ((b.natAbs : Int), a % b, 0, 1) (BzI.start hb0) (le_stL ⟨.refl _, .refl _, .refl _, .refl _, .refl _, .refl _, .refl _, .refl _, .refl _, trivial⟩ ⟨rfl, rfl, rfl, rfl, rfl, rfl, rfl, rfl, rfl, trivial⟩) ?_
  intro p i
  have vb := i.vb
  have i1 : LB p.1 30 := ⟨L.of_le hb (by have := i.gb; have := i.g0; omega)⟩
  have i2 : LB p.2.1 30 := ⟨L.of_le hb (by have := i.xb; have := i.x0; omega)⟩
  have i3 : LB p.2.2.1 30 := ⟨L.of_le hb (by have := i.ub; omega)⟩
  have i4 : LB p.2.2.2 30 := ⟨L.of_le hb (by omega)⟩
  refine AWp_seq ?_
  refine AWp_sr hP ?_
  refine RK.F hT rfl rfl rfl rfl rfl rfl ?_
  refine RK.V (op_load_one hT rfl rfl rfl rfl (by first | rfl | exact vget (by omega))) ?_
  refine RK.V (op_len hT rfl rfl rfl rfl) ?_
  refine RK.V (op_gtr rfl rfl) ?_
  refine RK.D ?_
  refine AWp_cond rfl (fun hb2 => ?_) (fun hb2 => ?_)
  ·have hb2_ := of_decide_eq_true hb2
   have hx : p.2.1 ≠ 0 := fun e => by rw [e] at hb2_; exact absurd hb2_ (by decide)
   refine AWp_skip ?_
   refine AWp_block ?_
   refine AWp_sr hP ?_
   refine RK.G2 hT rfl rfl rfl rfl rfl rfl ?_
   refine RK.G2 hT rfl rfl rfl rfl rfl rfl ?_
   refine RK.V (Eff.call0 (int_DivMod _ _ lz lz hx)) ?_
   refine RK.V (op_move (rfl : _ = AV.t _)) ?_
   refine RK.V (op_extract rfl (v := .a _) rfl) ?_
   refine RK.V (op_extract rfl (v := .a _) rfl) ?_
   refine RK.V (op_extract rfl (v := .c _) rfl) ?_
   refine RK.alc guard_none (op_alloc hT rfl rfl) ?_
   refine RK.alc guard_none (op_alloc hT rfl rfl) ?_
   refine RK.S hT rfl rfl rfl rfl rfl rfl rfl ?_
   refine RK.S hT rfl rfl rfl rfl rfl rfl rfl ?_
   refine RK.As rfl ?_
   refine RK.D ?_
   refine AWp_sr hP ?_
   refine RK.G2 hT rfl rfl rfl rfl rfl rfl ?_
   refine RK.G2 hT rfl rfl rfl rfl rfl rfl ?_
   refine RK.S hT rfl rfl rfl rfl rfl rfl rfl ?_
   refine RK.S hT rfl rfl rfl rfl rfl rfl rfl ?_
   refine RK.D ?_
   refine AWp_region hP ?_
   refine RK.G2 hT rfl rfl rfl rfl rfl rfl ?_
   refine RK.G2 hT rfl rfl rfl rfl rfl rfl ?_
   refine RK.G2 hT rfl rfl rfl rfl rfl rfl ?_
   refine RK.G2 hT rfl rfl rfl rfl rfl rfl ?_
   refine RK.V (Eff.call0 (int_Mul _ _ lz lz)) ?_
   refine RK.V (Eff.call0 (int_Sub _ _ lz lz)) ?_
   refine RK.S hT rfl rfl rfl rfl rfl rfl rfl ?_
   refine RK.S hT rfl rfl rfl rfl rfl rfl rfl ?_
   refine RK.D ?_
   refine ⟨(p.2.1, p.1 % p.2.1, p.2.2.2, p.2.2.1 - p.1 / p.2.1 * p.2.2.2), (i.next hx).1, (i.next hx).2, le_stL ⟨.refl _, .refl _, .refl _, .refl _, .refl _, .refl _, .refl _, .refl _, .refl _, trivial⟩ ⟨rfl, rfl, rfl, rfl, rfl, rfl, rfl, rfl, rfl, trivial⟩⟩
  ·have hb2_ := of_decide_eq_false hb2
   have hx0 : p.2.1 = 0 := wl_len_zero.1 (by omega)
   obtain ⟨e1, e2⟩ := i.stop hb0 hx0
   have hper : b / p.1 ≠ 0 := by rw [e1]; exact per_ne hb0
   have hg0 : p.1 ≠ 0 := by have := i.g0; omega
   have ip : LB (b / p.1) 30 := ⟨L.of_le hb (Int.natAbs_ediv_le_natAbs b p.1)⟩
   have iu : LB (p.2.2.1 % (b / p.1)) 30 := ⟨by rw [e2]; exact L.of_le hb (by have := bzU_b (a := a) hb0; omega)⟩
   refine AWp_exit ?_
   refine AWp_sr hP ?_
   refine RK.G2 hT rfl rfl rfl rfl rfl rfl ?_
   refine RK.G2 hT rfl rfl rfl rfl rfl rfl ?_
   refine RK.V (Eff.call0 (int_DivMod _ _ lz lz hg0)) ?_
   refine RK.V (op_move (rfl : _ = AV.t _)) ?_
   refine RK.V (op_extract rfl (v := .a _) rfl) ?_
   refine RK.V (op_extract rfl (v := .a _) rfl) ?_
   refine RK.V (op_extract rfl (v := .c _) rfl) ?_
   refine RK.alc guard_none (op_alloc hT rfl rfl) ?_
   refine RK.alc guard_none (op_alloc hT rfl rfl) ?_
   refine RK.S hT rfl rfl rfl rfl rfl rfl rfl ?_
   refine RK.S hT rfl rfl rfl rfl rfl rfl rfl ?_
   refine RK.As rfl ?_
   refine RK.D ?_
   refine AWp_sr hP ?_
   refine RK.G2 hT rfl rfl rfl rfl rfl rfl ?_
   refine RK.G2 hT rfl rfl rfl rfl rfl rfl ?_
   refine RK.V (Eff.call0 (int_mod _ _ lz lz hper)) ?_
   refine RK.S hT rfl rfl rfl rfl rfl rfl rfl ?_
   refine RK.D ?_
   refine AWp_sr hP ?_
   refine RK.G2 hT rfl rfl rfl rfl rfl rfl ?_
   refine RK.G2 hT rfl rfl rfl rfl rfl rfl ?_
   refine RK.G2 hT rfl rfl rfl rfl rfl rfl ?_
   refine RK.V (Eff.call0 (int_Mul _ _ lz lz)) ?_
   refine RK.V (Eff.call0 (int_Sub _ _ lz lz)) ?_
   refine RK.G2 hT rfl rfl rfl rfl rfl rfl ?_
   refine RK.V (Eff.call0 (int_DivMod _ _ lz lz hb0)) ?_
   refine RK.V (op_move (rfl : _ = AV.t _)) ?_
   refine RK.V (op_extract rfl (v := .a _) rfl) ?_
   refine RK.V (op_extract rfl (v := .a _) rfl) ?_
   refine RK.V (op_extract rfl (v := .c _) rfl) ?_
   refine RK.alc guard_none (op_alloc hT rfl rfl) ?_
   refine RK.alc guard_none (op_alloc hT rfl rfl) ?_
   refine RK.S hT rfl rfl rfl rfl rfl rfl rfl ?_
   refine RK.S hT rfl rfl rfl rfl rfl rfl rfl ?_
   refine RK.As rfl ?_
   refine RK.D ?_
   refine AWp_sr hP ?_
   refine RK.G2 hT rfl rfl rfl rfl rfl rfl ?_
   refine RK.G2 hT rfl rfl rfl rfl rfl rfl ?_
   refine RK.G2 hT rfl rfl rfl rfl rfl rfl ?_
   refine RK.S hT rfl rfl rfl rfl rfl rfl rfl ?_
   refine RK.S hT rfl rfl rfl rfl rfl rfl rfl ?_
   refine RK.S hT rfl rfl rfl rfl rfl rfl rfl ?_
   refine RK.D ?_
   refine AWp_ret ?_
   refine ends_three rfl (.inr rfl) (res_cell_agg hT rfl rfl rfl rfl (cs := [_, _]) rfl rfl) (res_cell_agg hT rfl rfl rfl rfl (cs := [_, _]) rfl rfl) (res_cell_agg hT rfl rfl rfl rfl (cs := [_, _]) rfl rfl) ?_ O_ends
   exact Sub.of_eq (bz_res i hb0 hx0)
set_option maxHeartbeats 4000000 in
theorem r_Bezout (a b : Int) (ha : L 30 a) (hb : L 30 b) :
  Call0 Tryz.prog 168 [I a, I b] (.t [PI ((Int.gcd a b : Nat) : Int), PI (bzU a b), PI (bzV a b)]) := by
 have ia : LB a 30 := ⟨ha⟩
 have ib : LB b 30 := ⟨hb⟩
 have iab : LB (b.natAbs : Int) 30 := ⟨hb.abs⟩
 refine callM_of (np := 0) Tryz.func168 (by kernel_rfl) rfl rfl (Nat.le_of_ble_eq_true rfl) (fun m h => absurd rfl h) (fun m h => absurd rfl h) rfl ?_
 refine AWp_sr hP ?_
 refine RK.alc guard_none (op_box rfl rfl) ?_
 refine RK.alc guard_none (op_box rfl rfl) ?_
 refine RK.alc guard_none (op_alloc hT rfl rfl) ?_
 refine RK.alc guard_none (op_alloc hT rfl rfl) ?_
 refine RK.alc guard_none (op_alloc hT rfl rfl) ?_
 refine RK.D ?_
 refine AWp_seq ?_
 refine AWp_sr hP ?_
 refine RK.F hT rfl rfl rfl rfl rfl rfl ?_
 refine RK.V (op_load_one hT rfl rfl rfl rfl (by first | rfl | exact vget (by omega))) ?_
 refine RK.V (op_len hT rfl rfl rfl rfl) ?_
 refine RK.V (op_eql rfl rfl) ?_
 refine RK.D ?_
 refine AWp_cond rfl (fun hb1 => ?_) (fun hb1 => ?_)
 ·have hb1_ := bT hb1
  have hb0 : b = 0 := wl_len_zero.1 hb1_
  refine AWp_sr hP ?_
  refine RK.G2 hT rfl rfl rfl rfl rfl rfl ?_
  refine RK.V (Eff.call0 (r_Abs _)) ?_
  refine RK.G2 hT rfl rfl rfl rfl rfl rfl ?_
  refine RK.V (Eff.call0 (r_Sign _)) ?_
  refine RK.V (Eff.call0 (r_Of _ (by unfold sgn; split <;> (try split) <;> decide))) ?_
  refine RK.V (op_build_st hT rfl rfl rfl (es := [_, _]) rfl) ?_
  refine RK.S hT rfl rfl rfl rfl rfl rfl rfl ?_
  refine RK.S hT rfl rfl rfl rfl rfl rfl rfl ?_
  refine RK.S hT rfl rfl rfl rfl rfl rfl rfl ?_
  refine RK.D ?_
  refine AWp_ret ?_
  refine ends_three rfl (.inr rfl) (res_cell_agg hT rfl rfl rfl rfl (cs := [_, _]) rfl rfl) (res_cell_agg hT rfl rfl rfl rfl (cs := [_, _]) rfl rfl) (res_cell_agg hT rfl rfl rfl rfl (cs := [_, _]) rfl rfl) ?_ O_ends
  exact Sub.of_eq (bz_0 hb0)
 ·have hb1_ := bF hb1
  have hb0 : b ≠ 0 := fun e => hb1_ (wl_len_zero.2 e)
  refine AWp_skip ?_
  refine AWp_sr hP ?_
  refine RK.G2 hT rfl rfl rfl rfl rfl rfl ?_
  refine RK.V (Eff.call0 (r_Abs _)) ?_
  refine RK.alc guard_none (op_alloc hT rfl rfl) ?_
  refine RK.S hT rfl rfl rfl rfl rfl rfl rfl ?_
  refine RK.D ?_
  refine AWp_sr hP ?_
  refine RK.G2 hT rfl rfl rfl rfl rfl rfl ?_
  refine RK.G2 hT rfl rfl rfl rfl rfl rfl ?_
  refine RK.V (Eff.call0 (r_Mod _ _ lz lz (by omega))) ?_
  refine RK.alc guard_none (op_alloc hT rfl rfl) ?_
  refine RK.S hT rfl rfl rfl rfl rfl rfl rfl ?_
  refine RK.D ?_
  refine AWp_sr hP ?_
  refine RK.G2 hT rfl rfl rfl rfl rfl rfl ?_
  refine RK.alc guard_none (op_alloc hT rfl rfl) ?_
  refine RK.S hT rfl rfl rfl rfl rfl rfl rfl ?_
  refine RK.D ?_
  refine AWp_sr hP ?_
  refine RK.V (Eff.call0 (r_Of 1 (by decide))) ?_
  refine RK.alc guard_none (op_alloc hT rfl rfl) ?_
  refine RK.S hT rfl rfl rfl rfl rfl rfl rfl ?_
  refine RK.D ?_
  refine AWp_sr hP ?_
  refine RK.V (op_build_st hT rfl rfl rfl (es := [_, _]) rfl) ?_
  refine RK.alc guard_none (op_alloc hT rfl rfl) ?_
  refine RK.S hT rfl rfl rfl rfl rfl rfl rfl ?_
  refine RK.D ?_
  refine AWp_seq ?_
  refine AWp_block ?_
  refine AWp_loop (ι := Int × Int × Int × Int) (fun p => stL [(2, .loc 2 0), (3, .loc 3 0), (4, .loc 4 0), (5, .loc 5 0), (6, .loc 6 0), (7, .loc 7 0), (8, .loc 8 0), (9, .loc 9 0), (10, .loc 10 0), (11, .loc 11 0)] [(2, ⟨false, 1, 36, [zn (a), zm (a)]⟩), (3, ⟨false, 1, 36, [zn (b), zm (b)]⟩), (4, ⟨false, 1, 36, [zn (0), zm (0)]⟩), (5, ⟨false, 1, 36, [zn (0), zm (0)]⟩), (6, ⟨false, 1, 36, [zn (0), zm (0)]⟩), (7, ⟨false, 1, 36, [zn ((b.natAbs : Int)), zm ((b.natAbs : Int))]⟩), (8, ⟨false, 1, 36, [zn (p.2.1), zm (p.2.1)]⟩), (9, ⟨false, 1, 36, [zn (p.1), zm (p.1)]⟩), (10, ⟨false, 1, 36, [zn (p.2.2.2), zm (p.2.2.2)]⟩), (11, ⟨false, 1, 36, [zn (p.2.2.1), zm (p.2.2.1)]⟩)]) (fun p => BzI a b p.1 p.2.1 p.2.2.1 p.2.2.2) (fun p => p.2.1.natAbs) ((b.natAbs : Int), a % (b.natAbs : Int), 0, 1) (BzI.startA hb0) (le_stL ⟨.refl _, .refl _, .refl _, .refl _, .refl _, .refl _, .refl _, .refl _, .refl _, .refl _, trivial⟩ ⟨rfl, rfl, rfl, rfl, rfl, rfl, rfl, rfl, rfl, rfl, trivial⟩) ?_
  intro p i
  have vb := i.vb
  have i1 : LB p.1 30 := ⟨L.of_le hb (by have := i.gb; have := i.g0; omega)⟩
  have i2 : LB p.2.1 30 := ⟨L.of_le hb (by have := i.xb; have := i.x0; omega)⟩
  have i3 : LB p.2.2.1 30 := ⟨L.of_le hb (by have := i.ub; omega)⟩
  have i4 : LB p.2.2.2 30 := ⟨L.of_le hb (by omega)⟩
  refine AWp_seq ?_
  refine AWp_sr hP ?_
  refine RK.F hT rfl rfl rfl rfl rfl rfl ?_
  refine RK.V (op_load_one hT rfl rfl rfl rfl (by first | rfl | exact vget (by omega))) ?_
  refine RK.V (op_len hT rfl rfl rfl rfl) ?_
  refine RK.V (op_gtr rfl rfl) ?_
  refine RK.D ?_
  refine AWp_cond rfl (fun hb2 => ?_) (fun hb2 => ?_)
  ·have hb2_ := of_decide_eq_true hb2
   have hx : p.2.1 ≠ 0 := fun e => by rw [e] at hb2_; exact absurd hb2_ (by decide)
   refine AWp_skip ?_
   refine AWp_block ?_
   refine AWp_sr hP ?_
   refine RK.G2 hT rfl rfl rfl rfl rfl rfl ?_
   refine RK.G2 hT rfl rfl rfl rfl rfl rfl ?_
   refine RK.V (Eff.call0 (r_DivMod _ _ lz lz hx)) ?_
   refine RK.V (op_move (rfl : _ = AV.t _)) ?_
   refine RK.V (op_extract rfl (v := .a _) rfl) ?_
   refine RK.V (op_extract rfl (v := .a _) rfl) ?_
   refine RK.V (op_extract rfl (v := .c _) rfl) ?_
   refine RK.alc guard_none (op_alloc hT rfl rfl) ?_
   refine RK.alc guard_none (op_alloc hT rfl rfl) ?_
   refine RK.S hT rfl rfl rfl rfl rfl rfl rfl ?_
   refine RK.S hT rfl rfl rfl rfl rfl rfl rfl ?_
   refine RK.As rfl ?_
   refine RK.D ?_
   refine AWp_sr hP ?_
   refine RK.G2 hT rfl rfl rfl rfl rfl rfl ?_
   refine RK.G2 hT rfl rfl rfl rfl rfl rfl ?_
   refine RK.G2 hT rfl rfl rfl rfl rfl rfl ?_
   refine RK.V (Eff.call0 (r_Mul _ _ lz lz)) ?_
   refine RK.V (Eff.call0 (r_Sub _ _ lz lz)) ?_
   refine RK.alc guard_none (op_alloc hT rfl rfl) ?_
   refine RK.S hT rfl rfl rfl rfl rfl rfl rfl ?_
   refine RK.D ?_
   refine AWp_sr hP ?_
   refine RK.G2 hT rfl rfl rfl rfl rfl rfl ?_
   refine RK.S hT rfl rfl rfl rfl rfl rfl rfl ?_
   refine RK.D ?_
   refine AWp_sr hP ?_
   refine RK.G2 hT rfl rfl rfl rfl rfl rfl ?_
   refine RK.S hT rfl rfl rfl rfl rfl rfl rfl ?_
   refine RK.D ?_
   refine AWp_sr hP ?_
   refine RK.G2 hT rfl rfl rfl rfl rfl rfl ?_
   refine RK.S hT rfl rfl rfl rfl rfl rfl rfl ?_
   refine RK.D ?_
   refine AWp_region hP ?_
   refine RK.G2 hT rfl rfl rfl rfl rfl rfl ?_
   refine RK.S hT rfl rfl rfl rfl rfl rfl rfl ?_
   refine RK.D ?_
   refine ⟨(p.2.1, p.1 % p.2.1, p.2.2.2, p.2.2.1 - p.1 / p.2.1 * p.2.2.2), (i.next hx).1, (i.next hx).2, le_stL ⟨.refl _, .refl _, .refl _, .refl _, .refl _, .refl _, .refl _, .refl _, .refl _, .refl _, trivial⟩ ⟨rfl, rfl, rfl, rfl, rfl, rfl, rfl, rfl, rfl, rfl, trivial⟩⟩
  ·have hb2_ := of_decide_eq_false hb2
   have hx0 : p.2.1 = 0 := wl_len_zero.1 (by omega)
   have hdv := i.dvd hb0 hx0
   have hg0 : p.1 ≠ 0 := by have := i.g0; omega
   obtain ⟨e1, e2⟩ := i.stop hb0 hx0
   have hper : (b.natAbs : Int) / p.1 ≠ 0 := by
    obtain ⟨q, hq⟩ := hdv
    have hn : ((b.natAbs : Int)) = p.1 * (q.natAbs : Int) := by rw [hq, Int.natAbs_mul, Int.natCast_mul, show ((p.1.natAbs : Nat) : Int) = p.1 by have := i.g0; omega]
    rw [hn, Int.mul_ediv_cancel_left _ hg0]
    intro z
    have : q = 0 := by omega
    rw [this, Int.mul_zero] at hq
    exact hb0 hq
   have ip : LB ((b.natAbs : Int) / p.1) 30 := ⟨L.ediv iab.le⟩
   have iu : LB (p.2.2.1 % ((b.natAbs : Int) / p.1)) 30 := ⟨by rw [abs_per _ hdv i.g0, e2]; exact L.of_le hb (by have := bzU_b (a := a) hb0; omega)⟩
   refine AWp_exit ?_
   refine AWp_sr hP ?_
   refine RK.G2 hT rfl rfl rfl rfl rfl rfl ?_
   refine RK.alc guard_none (op_alloc hT rfl rfl) ?_
   refine RK.S hT rfl rfl rfl rfl rfl rfl rfl ?_
   refine RK.D ?_
   refine AWp_sr hP ?_
   refine RK.G2 hT rfl rfl rfl rfl rfl rfl ?_
   refine RK.G2 hT rfl rfl rfl rfl rfl rfl ?_
   refine RK.G2 hT rfl rfl rfl rfl rfl rfl ?_
   refine RK.V (Eff.call0 (r_Div _ _ lz lz hg0)) ?_
   refine RK.V (Eff.call0 (r_Mod _ _ lz lz hper)) ?_
   refine RK.S hT rfl rfl rfl rfl rfl rfl rfl ?_
   refine RK.D ?_
   refine AWp_sr hP ?_
   refine RK.G2 hT rfl rfl rfl rfl rfl rfl ?_
   refine RK.G2 hT rfl rfl rfl rfl rfl rfl ?_
   refine RK.G2 hT rfl rfl rfl rfl rfl rfl ?_
   refine RK.G2 hT rfl rfl rfl rfl rfl rfl ?_
   refine RK.G2 hT rfl rfl rfl rfl rfl rfl ?_
   refine RK.V (Eff.call0 (r_Mul _ _ lz lz)) ?_
   refine RK.V (Eff.call0 (r_Sub _ _ lz lz)) ?_
   refine RK.G2 hT rfl rfl rfl rfl rfl rfl ?_
   refine RK.V (Eff.call0 (r_Div _ _ lz lz hb0)) ?_
   refine RK.S hT rfl rfl rfl rfl rfl rfl rfl ?_
   refine RK.S hT rfl rfl rfl rfl rfl rfl rfl ?_
   refine RK.S hT rfl rfl rfl rfl rfl rfl rfl ?_
   refine RK.D ?_
   refine AWp_ret ?_
   refine ends_three rfl (.inr rfl) (res_cell_agg hT rfl rfl rfl rfl (cs := [_, _]) rfl rfl) (res_cell_agg hT rfl rfl rfl rfl (cs := [_, _]) rfl rfl) (res_cell_agg hT rfl rfl rfl rfl (cs := [_, _]) rfl rfl) ?_ O_ends
   exact Sub.of_eq (bz_resA i hb0 hx0)
end Go.Proofs.YtpaifigafaijpaaGreatDoor
end

section
/- chapter 9: composition -/
namespace Go.Proofs.YtpaifigafaijpaaGreatDoor
open Go Go.AM
set_option maxRecDepth 100000
set_option maxHeartbeats 1000000
theorem m_Inv (a m : Int) (ha : L 30 a) (hm : L 30 m) (h0 : 0 < m) (h1 : Int.gcd a m = 1) :
  Call0 Tryz.prog 173 [I a, I m] (.t [PI (bzU (a % m) m % m), PE 0]) := by
 have ia : LB a 30 := ⟨ha⟩
 have im : LB m 30 := ⟨hm⟩
 have e1 : ((Int.gcd (a % m) m : Nat) : Int) = 1 := by rw [Int.gcd_comm, gcd_step, h1]; rfl
 have iu : LB (bzU (a % m) m) 30 := ⟨L.of_le hm (by have := bzU_b (a := a % m) (b := m) (by omega); omega)⟩
 refine callM_of (np := 0) Tryz.func173 (by kernel_rfl) rfl rfl (Nat.le_of_ble_eq_true rfl) (fun m h => absurd rfl h) (fun m h => absurd rfl h) rfl ?_
 refine AWp_sr hP ?_
 refine RK.alc guard_none (op_box rfl rfl) ?_
 refine RK.alc guard_none (op_box rfl rfl) ?_
 refine RK.alc guard_none (op_alloc hT rfl rfl) ?_
 refine RK.As rfl ?_
 refine RK.D ?_
 refine AWp_seq ?_
 refine AWp_sr hP ?_
 refine RK.G2 hT rfl rfl rfl rfl rfl rfl ?_
 refine RK.V (Eff.call0 (int_Sign _)) ?_
 refine RK.V (op_lss rfl rfl) ?_
 refine RK.D ?_
 refine AWp_cond_false rfl (decide_eq_false (by have := sgn_gt_iff.2 h0; omega)) ?_
 refine AWp_skip ?_
 refine AWp_sr hP ?_
 refine RK.G2 hT rfl rfl rfl rfl rfl rfl ?_
 refine RK.G2 hT rfl rfl rfl rfl rfl rfl ?_
 refine RK.V (Eff.call0 (m_mod _ _ lz lz (by omega))) ?_
 refine RK.G2 hT rfl rfl rfl rfl rfl rfl ?_
 refine RK.V (Eff.call0 (int_Bezout _ _ lz lz)) ?_
 refine RK.V (op_move (rfl : _ = AV.t _)) ?_
 refine RK.V (op_extract rfl (v := .a _) rfl) ?_
 refine RK.V (op_extract rfl (v := .a _) rfl) ?_
 refine RK.V (op_extract rfl (v := .a _) rfl) ?_
 refine RK.alc guard_none (op_alloc hT rfl rfl) ?_
 refine RK.alc guard_none (op_alloc hT rfl rfl) ?_
 refine RK.alc guard_none (op_alloc hT rfl rfl) ?_
 refine RK.S hT rfl rfl rfl rfl rfl rfl rfl ?_
 refine RK.S hT rfl rfl rfl rfl rfl rfl rfl ?_
 refine RK.S hT rfl rfl rfl rfl rfl rfl rfl ?_
 refine RK.D ?_
 refine AWp_seq ?_
 refine AWp_sr hP ?_
 refine RK.G2 hT rfl rfl rfl rfl rfl rfl ?_
 refine RK.V (Eff.call0 (m_one _)) ?_
 refine RK.V (op_unot rfl) ?_
 refine RK.D ?_
 refine AWp_cond_false rfl (congrArg not (decide_eq_true e1)) ?_
 refine AWp_skip ?_
 refine AWp_sr hP ?_
 refine RK.G2 hT rfl rfl rfl rfl rfl rfl ?_
 refine RK.G2 hT rfl rfl rfl rfl rfl rfl ?_
 refine RK.V (Eff.call0 (m_mod _ _ lz lz (by omega))) ?_
 refine RK.S hT rfl rfl rfl rfl rfl rfl rfl ?_
 refine RK.As rfl ?_
 refine RK.D ?_
 refine AWp_ret ?_
 refine ends_two rfl (.inr rfl) (res_cell_agg hT rfl rfl rfl rfl (cs := [_, _]) rfl rfl) (res_tmp rfl) ?_ O_ends
 exact .refl _
theorem m_Mod (a m : Int) (ha : L 40 a) (hm : L 40 m) (h0 : 0 < m) :
  Call0 Tryz.prog 174 [I a, I m] (.t [PI (a % m), PE 0]) := by
 have ia : LB a 40 := ⟨ha⟩
 have im : LB m 40 := ⟨hm⟩
 refine callM_of (np := 0) Tryz.func174 (by kernel_rfl) rfl rfl (Nat.le_of_ble_eq_true rfl) (fun m h => absurd rfl h) (fun m h => absurd rfl h) rfl ?_
 refine AWp_sr hP ?_
 refine RK.alc guard_none (op_box rfl rfl) ?_
 refine RK.alc guard_none (op_box rfl rfl) ?_
 refine RK.alc guard_none (op_alloc hT rfl rfl) ?_
 refine RK.As rfl ?_
 refine RK.D ?_
 refine AWp_seq ?_
 refine AWp_sr hP ?_
 refine RK.G2 hT rfl rfl rfl rfl rfl rfl ?_
 refine RK.V (Eff.call0 (int_Sign _)) ?_
 refine RK.V (op_lss rfl rfl) ?_
 refine RK.D ?_
 refine AWp_cond_false rfl (decide_eq_false (by have := sgn_gt_iff.2 h0; omega)) ?_
 refine AWp_skip ?_
 refine AWp_sr hP ?_
 refine RK.G2 hT rfl rfl rfl rfl rfl rfl ?_
 refine RK.G2 hT rfl rfl rfl rfl rfl rfl ?_
 refine RK.V (Eff.call0 (m_mod _ _ lz lz (by omega))) ?_
 refine RK.S hT rfl rfl rfl rfl rfl rfl rfl ?_
 refine RK.As rfl ?_
 refine RK.D ?_
 refine AWp_ret ?_
 refine ends_two rfl (.inr rfl) (res_cell_agg hT rfl rfl rfl rfl (cs := [_, _]) rfl rfl) (res_tmp rfl) ?_ O_ends
 exact .refl _
theorem co_of (z : Int) (hz : InI64 z) :
  Call0 Tryz.prog 118 [Z z] (I z) := by
 refine callM_of (np := 0) Tryz.func118 (by kernel_rfl) rfl rfl (Nat.le_of_ble_eq_true rfl) (fun m h => absurd rfl h) (fun m h => absurd rfl h) rfl ?_
 refine AWp_sr hP ?_
 refine RK.alc guard_none (op_alloc hT rfl rfl) ?_
 refine RK.D ?_
 refine AWp_sr hP ?_
 refine RK.M rfl ?_
 refine RK.V (Eff.call0 (int_Of z hz)) ?_
 refine RK.S hT rfl rfl rfl rfl rfl rfl rfl ?_
 refine RK.D ?_
 refine AWp_ret ?_
 refine ends_one rfl (.inr rfl) (res_cell_agg hT rfl rfl rfl rfl (cs := [_, _]) rfl rfl) ?_ O_ends
 exact .refl _
theorem co_isOne (x : Int) :
  Call0 Tryz.prog 214 [I x] (B (decide (x = 1))) := by
 refine callM_of (np := 0) Tryz.func214 (by kernel_rfl) rfl rfl (Nat.le_of_ble_eq_true rfl) (fun m h => absurd rfl h) (fun m h => absurd rfl h) rfl ?_
 refine AWp_sr hP ?_
 refine RK.alc guard_none (op_box rfl rfl) ?_
 refine RK.As rfl ?_
 refine RK.D ?_
 refine AWp_sr hP ?_
 refine RK.G2 hT rfl rfl rfl rfl rfl rfl ?_
 refine RK.V (Eff.call0 (co_of _ (by first | assumption | decide))) ?_
 refine RK.V (Eff.call0 (int_Cmp _ _)) ?_
 refine RK.V (op_eql rfl rfl) ?_
 refine RK.As rfl ?_
 refine RK.D ?_
 refine AWp_ret ?_
 refine ends_one rfl (.inr rfl) (res_tmp rfl) ?_ O_ends
 exact Sub.bool (by rw [Bool.eq_iff_iff]; simp [cmpI_eq_zero])
theorem co_equal (a b c p q r : Int) :
  Call0 Tryz.prog 116 [FA a b c, FA p q r] (B (decide (a = p ∧ b = q ∧ c = r))) := by
 refine callM_of (np := 0) Tryz.func116 (by kernel_rfl) rfl rfl (Nat.le_of_ble_eq_true rfl) (fun m h => absurd rfl h) (fun m h => absurd rfl h) rfl ?_
 refine AWp_sr hP ?_
 refine RK.alc guard_none (op_box rfl rfl) ?_
 refine RK.alc guard_none (op_box rfl rfl) ?_
 refine RK.As rfl ?_
 refine RK.D ?_
 refine AWp_sr hP ?_
 refine RK.F hT rfl rfl rfl rfl rfl rfl ?_
 refine RK.G2 hT rfl rfl rfl rfl rfl rfl ?_
 refine RK.F hT rfl rfl rfl rfl rfl rfl ?_
 refine RK.G2 hT rfl rfl rfl rfl rfl rfl ?_
 refine RK.V (Eff.call0 (int_Cmp _ _)) ?_
 refine RK.V (op_eql rfl rfl) ?_
 refine RK.M rfl ?_
 refine RK.split (t := 11) rfl (fun hg1 => ?_) (fun hg1 => ?_)
 ·have hg1_ := bT hg1
  refine RK.val (guard_yes rfl rfl hg1) (op_field_loc hT rfl rfl rfl rfl rfl rfl) ?_
  refine RK.val (guard_yes rfl rfl hg1) (op_load_agg hT rfl rfl rfl rfl (cs := [_, _]) rfl rfl) ?_
  refine RK.val (guard_yes rfl rfl hg1) (op_field_loc hT rfl rfl rfl rfl rfl rfl) ?_
  refine RK.val (guard_yes rfl rfl hg1) (op_load_agg hT rfl rfl rfl rfl (cs := [_, _]) rfl rfl) ?_
  refine RK.val (guard_yes rfl rfl hg1) (Eff.call0 (int_Cmp _ _)) ?_
  refine RK.val (guard_yes rfl rfl hg1) (op_eql rfl rfl) ?_
  refine RK.V (op_pick_t rfl hg1 (rfl : _ = AV.p (.c _))) ?_
  refine RK.M rfl ?_
  refine RK.split (t := 19) rfl (fun hg2 => ?_) (fun hg2 => ?_)
  ·have hg2_ := bT hg2
   refine RK.val (guard_yes rfl rfl hg2) (op_field_loc hT rfl rfl rfl rfl rfl rfl) ?_
   refine RK.val (guard_yes rfl rfl hg2) (op_load_agg hT rfl rfl rfl rfl (cs := [_, _]) rfl rfl) ?_
   refine RK.val (guard_yes rfl rfl hg2) (op_field_loc hT rfl rfl rfl rfl rfl rfl) ?_
   refine RK.val (guard_yes rfl rfl hg2) (op_load_agg hT rfl rfl rfl rfl (cs := [_, _]) rfl rfl) ?_
   refine RK.val (guard_yes rfl rfl hg2) (Eff.call0 (int_Cmp _ _)) ?_
   refine RK.val (guard_yes rfl rfl hg2) (op_eql rfl rfl) ?_
   refine RK.V (op_pick_t rfl hg2 (rfl : _ = AV.p (.c _))) ?_
   refine RK.As rfl ?_
   refine RK.D ?_
   refine AWp_ret ?_
   refine ends_one rfl (.inr rfl) (res_tmp rfl) ?_ O_ends
   exact Sub.bool (eqc_3 hg1 hg2)
  ·have hg2_ := bF hg2
   refine RK.skip (guard_no rfl rfl hg2) ?_
   refine RK.skip (guard_no rfl rfl hg2) ?_
   refine RK.skip (guard_no rfl rfl hg2) ?_
   refine RK.skip (guard_no rfl rfl hg2) ?_
   refine RK.skip (guard_no rfl rfl hg2) ?_
   refine RK.skip (guard_no rfl rfl hg2) ?_
   refine RK.V (op_pick_f rfl hg2 (rfl : _ = AV.p (.c _))) ?_
   refine RK.As rfl ?_
   refine RK.D ?_
   refine AWp_ret ?_
   refine ends_one rfl (.inr rfl) (res_tmp rfl) ?_ O_ends
   exact Sub.bool (eqc_2 hg1 hg2)
 ·have hg1_ := bF hg1
  refine RK.skip (guard_no rfl rfl hg1) ?_
  refine RK.skip (guard_no rfl rfl hg1) ?_
  refine RK.skip (guard_no rfl rfl hg1) ?_
  refine RK.skip (guard_no rfl rfl hg1) ?_
  refine RK.skip (guard_no rfl rfl hg1) ?_
  refine RK.skip (guard_no rfl rfl hg1) ?_
  refine RK.V (op_pick_f rfl hg1 (rfl : _ = AV.p (.c _))) ?_
  refine RK.M rfl ?_
  refine RK.skip (guard_no rfl rfl rfl) ?_
  refine RK.skip (guard_no rfl rfl rfl) ?_
  refine RK.skip (guard_no rfl rfl rfl) ?_
  refine RK.skip (guard_no rfl rfl rfl) ?_
  refine RK.skip (guard_no rfl rfl rfl) ?_
  refine RK.skip (guard_no rfl rfl rfl) ?_
  refine RK.V (op_pick_f rfl rfl (rfl : _ = AV.p (.c _))) ?_
  refine RK.As rfl ?_
  refine RK.D ?_
  refine AWp_ret ?_
  refine ends_one rfl (.inr rfl) (res_tmp rfl) ?_ O_ends
  exact Sub.bool (eqc_1 hg1)
theorem co_refused (a b c : Int) (ha : L 20 a) (hb : L 20 b) (hc : L 20 c) :
  Call0 Tryz.prog 113 [FA a b c] (.p (PE (rfE ⟨a, b, c⟩))) := by
 have ia : LB a 20 := ⟨ha⟩
 have ib : LB b 20 := ⟨hb⟩
 have ic : LB c 20 := ⟨hc⟩
 refine callM_of (np := 0) Tryz.func113 (by kernel_rfl) rfl rfl (Nat.le_of_ble_eq_true rfl) (fun m h => absurd rfl h) (fun m h => absurd rfl h) rfl ?_
 refine AWp_sr hP ?_
 refine RK.alc guard_none (op_box rfl rfl) ?_
 refine RK.As rfl ?_
 refine RK.D ?_
 refine AWp_sr hP ?_
 refine RK.G6 hT rfl rfl rfl rfl rfl rfl ?_
 refine RK.V (Eff.call0 (q_Check _ _ _ lz lz lz)) ?_
 refine RK.As rfl ?_
 refine RK.D ?_
 refine AWp_seq ?_
 refine AWp_block ?_
 refine AWp_sr hP ?_
 refine RK.M rfl ?_
 refine RK.V (op_neq rfl rfl) ?_
 refine RK.As rfl ?_
 refine RK.D ?_
 refine AWp_cond rfl (fun hb1 => ?_) (fun hb1 => ?_)
 ·have hb1_ := bneT hb1
  refine AWp_sr hP ?_
  refine RK.M rfl ?_
  refine RK.As rfl ?_
  refine RK.D ?_
  refine AWp_ret ?_
  refine ends_one rfl (.inr rfl) (res_tmp rfl) ?_ O_ends
  exact Sub.of_eq (congrArg (fun x => AV.p (PE x)) (rfE_1 (f := ⟨a, b, c⟩) (bneq hb1)))
 ·have hb1_ := bneF hb1
  refine AWp_sr hP ?_
  refine RK.G6 hT rfl rfl rfl rfl rfl rfl ?_
  refine RK.V (Eff.call0 (q_Disc _ _ _ lz lz lz)) ?_
  refine RK.V (Eff.call0 (int_Sign _)) ?_
  refine RK.V (op_gtr rfl rfl) ?_
  refine RK.As rfl ?_
  refine RK.D ?_
  refine AWp_cond rfl (fun hb2 => ?_) (fun hb2 => ?_)
  ·have hb2_ := of_decide_eq_true hb2
   refine AWp_sr hP ?_
   refine RK.As rfl ?_
   refine RK.D ?_
   refine AWp_ret ?_
   refine ends_one rfl (.inr rfl) (res_tmp rfl) ?_ O_ends
   exact Sub.of_eq (congrArg (fun x => AV.p (PE x)) (rfE_2 (f := ⟨a, b, c⟩) (bneqF hb1) hb2_))
  ·have hb2_ := of_decide_eq_false hb2
   refine AWp_sr hP ?_
   refine RK.G6 hT rfl rfl rfl rfl rfl rfl ?_
   refine RK.V (Eff.call0 (q_Primitive _ _ _ lz lz lz)) ?_
   refine RK.V (op_unot rfl) ?_
   refine RK.As rfl ?_
   refine RK.D ?_
   refine AWp_cond rfl (fun hb3 => ?_) (fun hb3 => ?_)
   ·have hb3_ := (notT hb3)
    refine AWp_sr hP ?_
    refine RK.As rfl ?_
    refine RK.D ?_
    refine AWp_ret ?_
    refine ends_one rfl (.inr rfl) (res_tmp rfl) ?_ O_ends
    exact Sub.of_eq (congrArg (fun x => AV.p (PE x)) (rfE_3 (f := ⟨a, b, c⟩) (bneqF hb1) hb2_ (notT hb3)))
   ·have hb3_ := (notF hb3)
    refine AWp_skip ?_
    refine AWp_sr hP ?_
    refine RK.As rfl ?_
    refine RK.D ?_
    refine AWp_ret ?_
    refine ends_one rfl (.inr rfl) (res_tmp rfl) ?_ O_ends
    exact Sub.of_eq (congrArg (fun x => AV.p (PE x)) (rfE_4 (f := ⟨a, b, c⟩) (bneqF hb1) hb2_ (notF hb3)))
theorem co_reduced (a b c : Int) (ha : L 26 a) (hb : L 26 b) (hc : L 26 c) :
  Call0 Tryz.prog 121 [FA a b c] (FA (rdF a b c).a (rdF a b c).b (rdF a b c).c) := by
 have ia : LB a 26 := ⟨ha⟩
 have ib : LB b 26 := ⟨hb⟩
 have ic : LB c 26 := ⟨hc⟩
 refine callM_of (np := 0) Tryz.func121 (by kernel_rfl) rfl rfl (Nat.le_of_ble_eq_true rfl) (fun m h => absurd rfl h) (fun m h => absurd rfl h) rfl ?_
 refine AWp_sr hP ?_
 refine RK.alc guard_none (op_box rfl rfl) ?_
 refine RK.alc guard_none (op_alloc hT rfl rfl) ?_
 refine RK.D ?_
 refine AWp_sr hP ?_
 refine RK.G6 hT rfl rfl rfl rfl rfl rfl ?_
 refine RK.V (Eff.call0 (q_Reduce _ _ _ lz lz lz)) ?_
 refine RK.V (op_move (rfl : _ = AV.t _)) ?_
 refine RK.V (op_extract rfl (v := .a _) rfl) ?_
 refine RK.V (op_extract rfl (v := .a _) rfl) ?_
 refine RK.V (op_extract rfl (v := .c _) rfl) ?_
 refine RK.alc guard_none (op_alloc hT rfl rfl) ?_
 refine RK.alc guard_none (op_alloc hT rfl rfl) ?_
 refine RK.S hT rfl rfl rfl rfl rfl rfl rfl ?_
 refine RK.S hT rfl rfl rfl rfl rfl rfl rfl ?_
 refine RK.As rfl ?_
 refine RK.D ?_
 refine AWp_sr hP ?_
 refine RK.G6 hT rfl rfl rfl rfl rfl rfl ?_
 refine RK.S hT rfl rfl rfl rfl rfl rfl rfl ?_
 refine RK.D ?_
 refine AWp_ret ?_
 refine ends_one rfl (.inr rfl) (res_cell_agg hT rfl rfl rfl rfl (cs := [_, _, _, _, _, _]) rfl rfl) ?_ O_ends
 exact .refl _
theorem co_principal (a b c : Int) (ha : L 20 a) (hb : L 20 b) (hc : L 20 c) :
  Call0 Tryz.prog 114 [FA a b c] (FA (prF (dsc a b c)).a (prF (dsc a b c)).b (prF (dsc a b c)).c) := by
 have ia : LB a 20 := ⟨ha⟩
 have ib : LB b 20 := ⟨hb⟩
 have ic : LB c 20 := ⟨hc⟩
 refine callM_of (np := 0) Tryz.func114 (by kernel_rfl) rfl rfl (Nat.le_of_ble_eq_true rfl) (fun m h => absurd rfl h) (fun m h => absurd rfl h) rfl ?_
 refine AWp_sr hP ?_
 refine RK.alc guard_none (op_box rfl rfl) ?_
 refine RK.alc guard_none (op_alloc hT rfl rfl) ?_
 refine RK.D ?_
 refine AWp_sr hP ?_
 refine RK.G6 hT rfl rfl rfl rfl rfl rfl ?_
 refine RK.V (Eff.call0 (q_Disc _ _ _ lz lz lz)) ?_
 refine RK.V (Eff.call0 (q_Principal _ lz)) ?_
 refine RK.V (op_move (rfl : _ = AV.t _)) ?_
 refine RK.V (op_extract rfl (v := .a _) rfl) ?_
 refine RK.V (op_extract rfl (v := .c _) rfl) ?_
 refine RK.alc guard_none (op_alloc hT rfl rfl) ?_
 refine RK.S hT rfl rfl rfl rfl rfl rfl rfl ?_
 refine RK.As rfl ?_
 refine RK.D ?_
 refine AWp_sr hP ?_
 refine RK.G6 hT rfl rfl rfl rfl rfl rfl ?_
 refine RK.S hT rfl rfl rfl rfl rfl rfl rfl ?_
 refine RK.D ?_
 refine AWp_ret ?_
 refine ends_one rfl (.inr rfl) (res_cell_agg hT rfl rfl rfl rfl (cs := [_, _, _, _, _, _]) rfl rfl) ?_ O_ends
 exact .refl _
set_option maxHeartbeats 8000000 in
theorem co_coprime (f : Fm) (w : Int) (hfa : L 6 f.a) (hfb : L 6 f.b) (hfc : L 6 f.c) (hw : L 6 w) (h0 : w ≠ 0) (pf : prim f.a f.b f.c = true) :
  Call0 Tryz.prog 172 [FA f.a f.b f.c, I w] (FA (cpF f w).a (cpF f w).b (cpF f w).c) := by
 have ifa : LB f.a 6 := ⟨hfa⟩
 have ifb : LB f.b 6 := ⟨hfb⟩
 have ifc : LB f.c 6 := ⟨hfc⟩
 have iw : LB w 6 := ⟨hw⟩
 obtain ⟨hR, hN1, hN2⟩ := cp_ex pf h0 hw
 refine callM_of (np := 0) Tryz.func172 (by kernel_rfl) rfl rfl (Nat.le_of_ble_eq_true rfl) (fun m h => absurd rfl h) (fun m h => absurd rfl h) rfl ?_
 refine AWp_sr hP ?_
 refine RK.alc guard_none (op_box rfl rfl) ?_
 refine RK.alc guard_none (op_box rfl rfl) ?_
 refine RK.alc guard_none (op_alloc hT rfl rfl) ?_
 refine RK.D ?_
 refine AWp_sr hP ?_
 refine RK.As rfl ?_
 refine RK.D ?_
 refine AWp_block ?_
 refine AWp_loop (ι := Nat) (fun k => stL [(2, .loc 2 0), (3, .loc 3 0), (4, .loc 4 0), (5, Z (k : Int))] [(2, ⟨false, 1, 53, FL f.a f.b f.c⟩), (3, ⟨false, 1, 36, [zn (w), zm (w)]⟩), (4, ⟨false, 1, 53, FL 0 0 0⟩)]) (fun k => CpI f w k) (fun k => 9100000000000000000 - k) 1 (CpI.start hN1) (le_stL ⟨.refl _, .refl _, .refl _, .refl _, trivial⟩ ⟨rfl, rfl, rfl, trivial⟩) ?_
 intro k i
 have kb := i.nb
 have k1 := i.n1
 refine AWp_seq ?_
 refine AWp_block ?_
 refine AWp_sr hP ?_
 refine RK.M rfl ?_
 refine RK.V (op_add rfl rfl (by first | exact IntWalk.i64_in _ (by omega) | rfl)) ?_
 refine RK.M rfl ?_
 refine RK.D ?_
 refine AWp_block ?_
 refine AWp_loop (ι := Nat) (fun x => stL [(2, .loc 2 0), (3, .loc 3 0), (4, .loc 4 0), (5, Z (k : Int)), (14, Z ((k : Int) + 1)), (15, Z (x : Int))] [(2, ⟨false, 1, 53, FL f.a f.b f.c⟩), (3, ⟨false, 1, 36, [zn (w), zm (w)]⟩), (4, ⟨false, 1, 53, FL 0 0 0⟩)]) (fun x => x ≤ k + 1 ∧ ∀ y, y < x → cpG f w k y = false) (fun x => k + 1 - x) 0 ⟨by omega, fun y hy => by omega⟩ (le_stL ⟨.refl _, .refl _, .refl _, .refl _, Sub.int (by omega), .refl _, trivial⟩ ⟨rfl, rfl, rfl, trivial⟩) ?_
 rintro x ⟨hx, hno⟩
 refine AWp_sr hP ?_
 refine RK.V (op_lss rfl rfl) ?_
 refine RK.D ?_
 refine AWp_seq ?_
 refine AWp_cond rfl (fun hb1 => ?_) (fun hb1 => ?_)
 ·have hb1_ := of_decide_eq_true hb1
  have jx : InI64 (x : Int) := by unfold InI64; omega
  have jy : InI64 ((k : Int) - x) := by unfold InI64; omega
  have ix : LB (x : Int) 6 := ⟨L6_of (by omega)⟩
  have iy : LB ((k : Int) - x) 6 := ⟨L6_of (by omega)⟩
  obtain ⟨iu, iv⟩ := bz_L6 (x := (x : Int)) (y := (k : Int) - x) (by omega) (by omega)
  refine AWp_skip ?_
  refine AWp_seq ?_
  refine AWp_block ?_
  refine AWp_sr hP ?_
  refine RK.M rfl ?_
  refine RK.As rfl ?_
  refine RK.D ?_
  refine AWp_sr hP ?_
  refine RK.M rfl ?_
  refine RK.M rfl ?_
  refine RK.V (op_sub rfl rfl (by first | exact IntWalk.i64_in _ (by omega) | rfl)) ?_
  refine RK.As rfl ?_
  refine RK.D ?_
  refine AWp_sr hP ?_
  refine RK.M rfl ?_
  refine RK.V (Eff.call0 (co_of _ jx)) ?_
  refine RK.M rfl ?_
  refine RK.V (Eff.call0 (co_of _ jy)) ?_
  refine RK.V (Eff.call0 (int_Bezout _ _ lz lz)) ?_
  refine RK.V (op_move (rfl : _ = AV.t _)) ?_
  refine RK.V (op_extract rfl (v := .a _) rfl) ?_
  refine RK.V (op_extract rfl (v := .a _) rfl) ?_
  refine RK.V (op_extract rfl (v := .a _) rfl) ?_
  refine RK.alc guard_none (op_alloc hT rfl rfl) ?_
  refine RK.alc guard_none (op_alloc hT rfl rfl) ?_
  refine RK.alc guard_none (op_alloc hT rfl rfl) ?_
  refine RK.S hT rfl rfl rfl rfl rfl rfl rfl ?_
  refine RK.S hT rfl rfl rfl rfl rfl rfl rfl ?_
  refine RK.S hT rfl rfl rfl rfl rfl rfl rfl ?_
  refine RK.D ?_
  refine AWp_sr hP ?_
  refine RK.G2 hT rfl rfl rfl rfl rfl rfl ?_
  refine RK.V (Eff.call0 (co_isOne _)) ?_
  refine RK.M rfl ?_
  refine RK.split (t := 32) rfl (fun hg2 => ?_) (fun hg2 => ?_)
  ·refine RK.val (guard_yes rfl rfl hg2) (op_load_agg hT rfl rfl rfl rfl (cs := [_, _, _, _, _, _]) rfl rfl) ?_
   refine RK.val (guard_yes rfl rfl hg2) (op_move (rfl : _ = AV.p (.c _))) ?_
   refine RK.val (guard_yes rfl rfl hg2) (Eff.call0 (co_of _ jx)) ?_
   refine RK.val (guard_yes rfl rfl hg2) (op_move (rfl : _ = AV.p (.c _))) ?_
   refine RK.val (guard_yes rfl rfl hg2) (Eff.call0 (co_of _ jy)) ?_
   refine RK.val (guard_yes rfl rfl hg2) (Eff.call0 (q_Value _ _ _ _ _ lz lz lz lz lz)) ?_
   refine RK.val (guard_yes rfl rfl hg2) (op_load_agg hT rfl rfl rfl rfl (cs := [_, _]) rfl rfl) ?_
   refine RK.val (guard_yes rfl rfl hg2) (Eff.call0 (int_Gcd _ _ lz lz)) ?_
   refine RK.val (guard_yes rfl rfl hg2) (Eff.call0 (co_isOne _)) ?_
   refine RK.V (op_pick_t rfl hg2 (rfl : _ = AV.p (.c _))) ?_
   refine RK.D ?_
   refine AWp_cond rfl (fun hb3 => ?_) (fun hb3 => ?_)
   ·refine AWp_sr hP ?_
    refine RK.G6 hT rfl rfl rfl rfl rfl rfl ?_
    refine RK.M rfl ?_
    refine RK.V (Eff.call0 (co_of _ jx)) ?_
    refine RK.G2 hT rfl rfl rfl rfl rfl rfl ?_
    refine RK.V (Eff.call0 (int_Neg _)) ?_
    refine RK.M rfl ?_
    refine RK.V (Eff.call0 (co_of _ jy)) ?_
    refine RK.G2 hT rfl rfl rfl rfl rfl rfl ?_
    refine RK.V (op_build_st hT rfl rfl rfl (es := [_, _, _, _, _, _, _, _]) rfl) ?_
    refine RK.V (Eff.call0 (q_Apply _ _ _ _ _ _ _ lz lz lz lz lz lz lz)) ?_
    refine RK.S hT rfl rfl rfl rfl rfl rfl rfl ?_
    refine RK.D ?_
    refine AWp_ret ?_
    refine ends_one rfl (.inr rfl) (res_cell_agg hT rfl rfl rfl rfl (cs := [_, _, _, _, _, _]) rfl rfl) ?_ O_ends
    obtain ⟨q1, q2⟩ := i.found hN2 (by omega) hno (cpG_yes hg2 hb3)
    exact Sub.of_eq (cp_found q1 q2)
   ·refine AWp_skip ?_
    refine AWp_region hP ?_
    refine RK.V (op_add rfl rfl (by first | exact IntWalk.i64_in _ (by omega) | rfl)) ?_
    refine RK.M rfl ?_
    refine RK.D ?_
    refine ⟨x + 1, ⟨by omega, ext_no hno (cpG_no2 hb3)⟩, by omega, le_stL ⟨.refl _, .refl _, .refl _, .refl _, .refl _, Sub.int (by omega), trivial⟩ ⟨rfl, rfl, rfl, trivial⟩⟩
  ·refine RK.skip (guard_no rfl rfl hg2) ?_
   refine RK.skip (guard_no rfl rfl hg2) ?_
   refine RK.skip (guard_no rfl rfl hg2) ?_
   refine RK.skip (guard_no rfl rfl hg2) ?_
   refine RK.skip (guard_no rfl rfl hg2) ?_
   refine RK.skip (guard_no rfl rfl hg2) ?_
   refine RK.skip (guard_no rfl rfl hg2) ?_
   refine RK.skip (guard_no rfl rfl hg2) ?_
   refine RK.skip (guard_no rfl rfl hg2) ?_
   refine RK.V (op_pick_f rfl hg2 (rfl : _ = AV.p (.c _))) ?_
   refine RK.D ?_
   refine AWp_cond_false rfl rfl ?_
   refine AWp_skip ?_
   refine AWp_region hP ?_
   refine RK.V (op_add rfl rfl (by first | exact IntWalk.i64_in _ (by omega) | rfl)) ?_
   refine RK.M rfl ?_
   refine RK.D ?_
   refine ⟨x + 1, ⟨by omega, ext_no hno (cpG_no1 hg2)⟩, by omega, le_stL ⟨.refl _, .refl _, .refl _, .refl _, .refl _, Sub.int (by omega), trivial⟩ ⟨rfl, rfl, rfl, trivial⟩⟩
 ·have hb1_ := of_decide_eq_false hb1
  refine AWp_exit ?_
  refine AWp_region hP ?_
  refine RK.M rfl ?_
  refine RK.V (op_add rfl rfl (by first | exact IntWalk.i64_in _ (by omega) | rfl)) ?_
  refine RK.As rfl ?_
  refine RK.D ?_
  refine ⟨k + 1, i.next hN2 (fun y hy => hno y (by omega)), by omega, le_stL ⟨.refl _, .refl _, .refl _, Sub.int (by omega), trivial⟩ ⟨rfl, rfl, rfl, trivial⟩⟩
set_option maxHeartbeats 8000000 in
theorem co_product (f g : Fm) (hf : Cl (dsc f.a f.b f.c) f) (hg : Cl (dsc f.a f.b f.c) g) (hfa : L 6 f.a) (hfb : L 6 f.b) (hfc : L 6 f.c) (hga : L 6 g.a) (hgb : L 6 g.b) (hgc : L 6 g.c) :
  Call0 Tryz.prog 123 [FA f.a f.b f.c, FA g.a g.b g.c] (FA (mlt f g).a (mlt f g).b (mlt f g).c) := by
 have ifa : LB f.a 6 := ⟨hfa⟩
 have ifb : LB f.b 6 := ⟨hfb⟩
 have ifc : LB f.c 6 := ⟨hfc⟩
 have iga : LB g.a 6 := ⟨hga⟩
 have igb : LB g.b 6 := ⟨hgb⟩
 have igc : LB g.c 6 := ⟨hgc⟩
 have hfa0 : f.a ≠ 0 := by have := hf.pos.1; omega
 obtain ⟨hG, eG, hGc⟩ := cpF_cl hg hfa0 hfa
 obtain ⟨gLa, gLb, gLc⟩ := cpF_L hg.prim hfa0 hfa hga hgb hgc
 have cC := co_coprime g f.a hga hgb hgc hfa hfa0 hg.prim
 have hfin := prod_mlt hf hg hG eG hGc
 generalize cpF g f.a = G at hG eG hGc gLa gLb gLc cC hfin
 have hGa0 : 0 < G.a := hG.pos.1
 have iu : LB (bzU (f.a % G.a) G.a % G.a) 14 := ⟨L.of_le gLa.le (by have := Int.emod_nonneg (bzU (f.a % G.a) G.a) (show G.a ≠ 0 by omega); have := Int.emod_lt_of_pos (bzU (f.a % G.a) G.a) hGa0; omega)⟩
 have hA4 : 4 * (f.a * G.a) ≠ 0 := by have := Int.mul_pos hf.pos.1 hGa0; omega
 have cI := m_Inv f.a G.a lz lz hGa0 (by rw [Int.gcd_comm]; exact hGc)
 generalize bzU (f.a % G.a) G.a % G.a = i at iu cI hfin
 refine callM_of (np := 0) Tryz.func123 (by kernel_rfl) rfl rfl (Nat.le_of_ble_eq_true rfl) (fun m h => absurd rfl h) (fun m h => absurd rfl h) rfl ?_
 refine AWp_sr hP ?_
 refine RK.alc guard_none (op_box rfl rfl) ?_
 refine RK.alc guard_none (op_box rfl rfl) ?_
 refine RK.alc guard_none (op_alloc hT rfl rfl) ?_
 refine RK.D ?_
 refine AWp_sr hP ?_
 refine RK.G6 hT rfl rfl rfl rfl rfl rfl ?_
 refine RK.F hT rfl rfl rfl rfl rfl rfl ?_
 refine RK.G2 hT rfl rfl rfl rfl rfl rfl ?_
 refine RK.V (Eff.call0 cC) ?_
 refine RK.S hT rfl rfl rfl rfl rfl rfl rfl ?_
 refine RK.D ?_
 refine AWp_sr hP ?_
 refine RK.G6 hT rfl rfl rfl rfl rfl rfl ?_
 refine RK.V (Eff.call0 (q_Disc _ _ _ lz lz lz)) ?_
 refine RK.alc guard_none (op_alloc hT rfl rfl) ?_
 refine RK.S hT rfl rfl rfl rfl rfl rfl rfl ?_
 refine RK.D ?_
 refine AWp_sr hP ?_
 refine RK.F hT rfl rfl rfl rfl rfl rfl ?_
 refine RK.G2 hT rfl rfl rfl rfl rfl rfl ?_
 refine RK.F hT rfl rfl rfl rfl rfl rfl ?_
 refine RK.G2 hT rfl rfl rfl rfl rfl rfl ?_
 refine RK.V (Eff.call0 (int_Sub _ _ lz lz)) ?_
 refine RK.V (Eff.call0 (co_of 2 (by decide))) ?_
 refine RK.V (Eff.call0 (int_DivMod _ _ lz lz (by decide))) ?_
 refine RK.V (op_move (rfl : _ = AV.t _)) ?_
 refine RK.V (op_extract rfl (v := .a _) rfl) ?_
 refine RK.V (op_extract rfl (v := .a _) rfl) ?_
 refine RK.V (op_extract rfl (v := .c _) rfl) ?_
 refine RK.alc guard_none (op_alloc hT rfl rfl) ?_
 refine RK.alc guard_none (op_alloc hT rfl rfl) ?_
 refine RK.S hT rfl rfl rfl rfl rfl rfl rfl ?_
 refine RK.S hT rfl rfl rfl rfl rfl rfl rfl ?_
 refine RK.As rfl ?_
 refine RK.D ?_
 refine AWp_sr hP ?_
 refine RK.F hT rfl rfl rfl rfl rfl rfl ?_
 refine RK.G2 hT rfl rfl rfl rfl rfl rfl ?_
 refine RK.F hT rfl rfl rfl rfl rfl rfl ?_
 refine RK.G2 hT rfl rfl rfl rfl rfl rfl ?_
 refine RK.V (Eff.call0 cI) ?_
 refine RK.V (op_move (rfl : _ = AV.t _)) ?_
 refine RK.V (op_extract rfl (v := .a _) rfl) ?_
 refine RK.V (op_extract rfl (v := .c _) rfl) ?_
 refine RK.alc guard_none (op_alloc hT rfl rfl) ?_
 refine RK.S hT rfl rfl rfl rfl rfl rfl rfl ?_
 refine RK.As rfl ?_
 refine RK.D ?_
 refine AWp_sr hP ?_
 refine RK.G2 hT rfl rfl rfl rfl rfl rfl ?_
 refine RK.G2 hT rfl rfl rfl rfl rfl rfl ?_
 refine RK.V (Eff.call0 (int_Mul _ _ lz lz)) ?_
 refine RK.F hT rfl rfl rfl rfl rfl rfl ?_
 refine RK.G2 hT rfl rfl rfl rfl rfl rfl ?_
 refine RK.V (Eff.call0 (m_Mod _ _ lz lz hGa0)) ?_
 refine RK.V (op_move (rfl : _ = AV.t _)) ?_
 refine RK.V (op_extract rfl (v := .a _) rfl) ?_
 refine RK.V (op_extract rfl (v := .c _) rfl) ?_
 refine RK.alc guard_none (op_alloc hT rfl rfl) ?_
 refine RK.S hT rfl rfl rfl rfl rfl rfl rfl ?_
 refine RK.As rfl ?_
 refine RK.D ?_
 refine AWp_sr hP ?_
 refine RK.F hT rfl rfl rfl rfl rfl rfl ?_
 refine RK.G2 hT rfl rfl rfl rfl rfl rfl ?_
 refine RK.F hT rfl rfl rfl rfl rfl rfl ?_
 refine RK.G2 hT rfl rfl rfl rfl rfl rfl ?_
 refine RK.V (Eff.call0 (int_Mul _ _ lz lz)) ?_
 refine RK.alc guard_none (op_alloc hT rfl rfl) ?_
 refine RK.S hT rfl rfl rfl rfl rfl rfl rfl ?_
 refine RK.D ?_
 refine AWp_sr hP ?_
 refine RK.F hT rfl rfl rfl rfl rfl rfl ?_
 refine RK.G2 hT rfl rfl rfl rfl rfl rfl ?_
 refine RK.V (Eff.call0 (co_of 2 (by decide))) ?_
 refine RK.F hT rfl rfl rfl rfl rfl rfl ?_
 refine RK.G2 hT rfl rfl rfl rfl rfl rfl ?_
 refine RK.G2 hT rfl rfl rfl rfl rfl rfl ?_
 refine RK.V (Eff.call0 (int_Mul _ _ lz lz)) ?_
 refine RK.V (Eff.call0 (int_Mul _ _ lz lz)) ?_
 refine RK.V (Eff.call0 (int_Add _ _ lz lz)) ?_
 refine RK.alc guard_none (op_alloc hT rfl rfl) ?_
 refine RK.S hT rfl rfl rfl rfl rfl rfl rfl ?_
 refine RK.D ?_
 refine AWp_sr hP ?_
 refine RK.G2 hT rfl rfl rfl rfl rfl rfl ?_
 refine RK.G2 hT rfl rfl rfl rfl rfl rfl ?_
 refine RK.V (Eff.call0 (int_Mul _ _ lz lz)) ?_
 refine RK.G2 hT rfl rfl rfl rfl rfl rfl ?_
 refine RK.V (Eff.call0 (int_Sub _ _ lz lz)) ?_
 refine RK.V (Eff.call0 (co_of 4 (by decide))) ?_
 refine RK.G2 hT rfl rfl rfl rfl rfl rfl ?_
 refine RK.V (Eff.call0 (int_Mul _ _ lz lz)) ?_
 refine RK.V (Eff.call0 (int_DivMod _ _ lz lz hA4)) ?_
 refine RK.V (op_move (rfl : _ = AV.t _)) ?_
 refine RK.V (op_extract rfl (v := .a _) rfl) ?_
 refine RK.V (op_extract rfl (v := .a _) rfl) ?_
 refine RK.V (op_extract rfl (v := .c _) rfl) ?_
 refine RK.alc guard_none (op_alloc hT rfl rfl) ?_
 refine RK.alc guard_none (op_alloc hT rfl rfl) ?_
 refine RK.S hT rfl rfl rfl rfl rfl rfl rfl ?_
 refine RK.S hT rfl rfl rfl rfl rfl rfl rfl ?_
 refine RK.As rfl ?_
 refine RK.D ?_
 refine AWp_sr hP ?_
 refine RK.G2 hT rfl rfl rfl rfl rfl rfl ?_
 refine RK.G2 hT rfl rfl rfl rfl rfl rfl ?_
 refine RK.G2 hT rfl rfl rfl rfl rfl rfl ?_
 refine RK.V (op_build_st hT rfl rfl rfl (es := [_, _, _, _, _, _]) rfl) ?_
 refine RK.V (Eff.call0 (co_reduced _ _ _ lz lz lz)) ?_
 refine RK.S hT rfl rfl rfl rfl rfl rfl rfl ?_
 refine RK.D ?_
 refine AWp_ret ?_
 refine ends_one rfl (.inr rfl) (res_cell_agg hT rfl rfl rfl rfl (cs := [_, _, _, _, _, _]) rfl rfl) ?_ O_ends
 exact Sub.of_eq (by rw [← hfin])
set_option maxHeartbeats 8000000 in
theorem co_Compose (f g : Fm) (hfa : L 6 f.a) (hfb : L 6 f.b) (hfc : L 6 f.c) (hga : L 6 g.a) (hgb : L 6 g.b) (hgc : L 6 g.c) :
  Call0 Tryz.prog 68 [FA f.a f.b f.c, FA g.a g.b g.c] (.t [PF (cmV f g), PE (cmE f g)]) := by
 have ifa : LB f.a 6 := ⟨hfa⟩
 have ifb : LB f.b 6 := ⟨hfb⟩
 have ifc : LB f.c 6 := ⟨hfc⟩
 have iga : LB g.a 6 := ⟨hga⟩
 have igb : LB g.b 6 := ⟨hgb⟩
 have igc : LB g.c 6 := ⟨hgc⟩
 refine callM_of (np := 0) Tryz.func68 (by kernel_rfl) rfl rfl (Nat.le_of_ble_eq_true rfl) (fun m h => absurd rfl h) (fun m h => absurd rfl h) rfl ?_
 refine AWp_sr hP ?_
 refine RK.alc guard_none (op_box rfl rfl) ?_
 refine RK.alc guard_none (op_box rfl rfl) ?_
 refine RK.alc guard_none (op_alloc hT rfl rfl) ?_
 refine RK.As rfl ?_
 refine RK.D ?_
 refine AWp_seq ?_
 refine AWp_sr hP ?_
 refine RK.G6 hT rfl rfl rfl rfl rfl rfl ?_
 refine RK.G6 hT rfl rfl rfl rfl rfl rfl ?_
 refine RK.V (op_bslice hT rfl rfl rfl (es := [_, _, _, _, _, _, _, _, _, _, _, _]) rfl rfl rfl) ?_
 refine RK.V (op_len hT rfl rfl rfl (by rfl)) ?_
 refine RK.M rfl ?_
 refine RK.D ?_
 refine AWp_block ?_
 refine AWp_loop (ι := Nat) (fun k => stL [(2, .loc 2 0), (3, .loc 3 0), (4, .loc 4 0), (11, .p (.c (FS [f, g]))), (12, Z 2), (13, Z (k : Int))] [(2, ⟨false, 1, 53, FL f.a f.b f.c⟩), (3, ⟨false, 1, 53, FL g.a g.b g.c⟩), (4, ⟨false, 1, 53, FL 0 0 0⟩)]) (fun k => k ≤ 2 ∧ ∀ j, j < k → rfE ([f, g].getD j ⟨0, 0, 0⟩) = 0) (fun k => 2 - k) 0 ⟨by omega, fun j hj => by omega⟩ (le_stL ⟨.refl _, .refl _, .refl _, .refl _, .refl _, .refl _, trivial⟩ ⟨rfl, rfl, rfl, trivial⟩) ?_
 rintro k ⟨hk, hno⟩
 refine AWp_sr hP ?_
 refine RK.V (op_lss rfl rfl) ?_
 refine RK.D ?_
 refine AWp_seq ?_
 refine AWp_cond rfl (fun hb1 => ?_) (fun hb1 => ?_)
 ·have hb1_ := of_decide_eq_true hb1
  have hk2 : (k : Int) < 2 := hb1_
  obtain ⟨q1, q2, q3⟩ : L 20 ([f, g].getD k ⟨0, 0, 0⟩).a ∧ L 20 ([f, g].getD k ⟨0, 0, 0⟩).b ∧ L 20 ([f, g].getD k ⟨0, 0, 0⟩).c := by
   rcases two_get (f := f) (g := g) hk2 with ⟨_, e⟩ | ⟨_, e⟩ <;> rw [e] <;> exact ⟨lz, lz, lz⟩
  refine AWp_skip ?_
  refine AWp_seq ?_
  refine AWp_block ?_
  refine AWp_sr hP ?_
  refine RK.V (op_indexF hT rfl rfl rfl rfl rfl rfl (by simp; omega)) ?_
  refine RK.V (op_load_ip_agg hT rfl rfl rfl (cs := FC ([f, g].getD k ⟨0, 0, 0⟩)) rfl rfl) ?_
  refine RK.alc guard_none (op_alloc hT rfl rfl) ?_
  refine RK.S hT rfl rfl rfl rfl rfl rfl rfl ?_
  refine RK.D ?_
  refine AWp_sr hP ?_
  refine RK.G6 hT rfl rfl rfl rfl rfl rfl ?_
  refine RK.V (Eff.call0 (co_refused _ _ _ q1 q2 q3)) ?_
  refine RK.As rfl ?_
  refine RK.D ?_
  refine AWp_sr hP ?_
  refine RK.M rfl ?_
  refine RK.V (op_neq rfl rfl) ?_
  refine RK.D ?_
  refine AWp_cond rfl (fun hb2 => ?_) (fun hb2 => ?_)
  ·have hb2_ := bneT hb2
   refine AWp_sr hP ?_
   refine RK.V (op_build_st hT rfl rfl rfl (es := [_, _, _, _, _, _]) rfl) ?_
   refine RK.M rfl ?_
   refine RK.S hT rfl rfl rfl rfl rfl rfl rfl ?_
   refine RK.As rfl ?_
   refine RK.D ?_
   refine AWp_ret ?_
   refine ends_two rfl (.inr rfl) (res_cell_agg hT rfl rfl rfl rfl (cs := [_, _, _, _, _, _]) rfl rfl) (res_tmp rfl) ?_ O_ends
   exact Sub.of_eq (cm_res (cm_loop hk2 hno hb2_) hb2_)
  ·have hb2_ := bneF hb2
   refine AWp_skip ?_
   refine AWp_region hP ?_
   refine RK.V (op_add rfl rfl (by first | exact IntWalk.i64_in _ (by omega) | rfl)) ?_
   refine RK.M rfl ?_
   refine RK.D ?_
   refine ⟨k + 1, ⟨by omega, ext_0 hno hb2_⟩, by omega, le_stL ⟨.refl _, .refl _, .refl _, .refl _, .refl _, Sub.int (by omega), trivial⟩ ⟨rfl, rfl, rfl, trivial⟩⟩
 ·have hb1_ := of_decide_eq_false hb1
  have r0 : rfE f = 0 := hno 0 (by omega)
  have r1 : rfE g = 0 := hno 1 (by omega)
  refine AWp_exit ?_
  refine AWp_seq ?_
  refine AWp_sr hP ?_
  refine RK.G6 hT rfl rfl rfl rfl rfl rfl ?_
  refine RK.V (Eff.call0 (q_Disc _ _ _ lz lz lz)) ?_
  refine RK.G6 hT rfl rfl rfl rfl rfl rfl ?_
  refine RK.V (Eff.call0 (q_Disc _ _ _ lz lz lz)) ?_
  refine RK.V (Eff.call0 (int_Cmp _ _)) ?_
  refine RK.V (op_neq rfl rfl) ?_
  refine RK.D ?_
  refine AWp_cond rfl (fun hb3 => ?_) (fun hb3 => ?_)
  ·have hb3_ := bneT hb3
   refine AWp_sr hP ?_
   refine RK.V (op_build_st hT rfl rfl rfl (es := [_, _, _, _, _, _]) rfl) ?_
   refine RK.S hT rfl rfl rfl rfl rfl rfl rfl ?_
   refine RK.As rfl ?_
   refine RK.D ?_
   refine AWp_ret ?_
   refine ends_two rfl (.inr rfl) (res_cell_agg hT rfl rfl rfl rfl (cs := [_, _, _, _, _, _]) rfl rfl) (res_tmp rfl) ?_ O_ends
   exact Sub.of_eq (cm_res (cm_e3 r0 r1 (fun e => hb3_ (cmpI_eq_zero.2 e))) (by decide))
  ·have hb3_ := bneF hb3
   have hdd : dsc f.a f.b f.c = dsc g.a g.b g.c := cmpI_eq_zero.1 hb3_
   have hcm := cm_e4 r0 r1 hdd
   obtain ⟨cl1, cl2⟩ := cmE_cl hcm
   refine AWp_skip ?_
   refine AWp_sr hP ?_
   refine RK.G6 hT rfl rfl rfl rfl rfl rfl ?_
   refine RK.G6 hT rfl rfl rfl rfl rfl rfl ?_
   refine RK.V (Eff.call0 (co_product f g cl1 cl2 hfa hfb hfc hga hgb hgc)) ?_
   refine RK.S hT rfl rfl rfl rfl rfl rfl rfl ?_
   refine RK.As rfl ?_
   refine RK.D ?_
   refine AWp_ret ?_
   refine ends_two rfl (.inr rfl) (res_cell_agg hT rfl rfl rfl rfl (cs := [_, _, _, _, _, _]) rfl rfl) (res_tmp rfl) ?_ O_ends
   exact Sub.of_eq (cm_ok hcm)
end Go.Proofs.YtpaifigafaijpaaGreatDoor
end

section
/- chapter 9: powers; the reference -/
namespace Go.Proofs.YtpaifigafaijpaaGreatDoor
open Go Go.AM
set_option maxRecDepth 100000
set_option maxHeartbeats 1000000
theorem co_productD (D : Int) (f g : Fm) (hf : Cl D f) (hg : Cl D g) (hfa : L 6 f.a) (hfb : L 6 f.b) (hfc : L 6 f.c) (hga : L 6 g.a) (hgb : L 6 g.b) (hgc : L 6 g.c) : Call0 Tryz.prog 123 [FA f.a f.b f.c, FA g.a g.b g.c] (FA (mlt f g).a (mlt f g).b (mlt f g).c) := by
 have e := hf.disc
 subst e
 exact co_product f g hf hg hfa hfb hfc hga hgb hgc
theorem r9_Refused (a b c : Int) (ha : L 20 a) (hb : L 20 b) (hc : L 20 c) :
  Call0 Tryz.prog 109 [FA a b c] (.p (PE (rfE ⟨a, b, c⟩))) := by
 have ia : LB a 20 := ⟨ha⟩
 have ib : LB b 20 := ⟨hb⟩
 have ic : LB c 20 := ⟨hc⟩
 refine callM_of (np := 0) Tryz.func109 (by kernel_rfl) rfl rfl (Nat.le_of_ble_eq_true rfl) (fun m h => absurd rfl h) (fun m h => absurd rfl h) rfl ?_
 refine AWp_sr hP ?_
 refine RK.alc guard_none (op_box rfl rfl) ?_
 refine RK.As rfl ?_
 refine RK.D ?_
 refine AWp_sr hP ?_
 refine RK.G6 hT rfl rfl rfl rfl rfl rfl ?_
 refine RK.V (Eff.call0 (r8_Check _ _ _ lz lz lz)) ?_
 refine RK.As rfl ?_
 refine RK.D ?_
 refine AWp_seq ?_
 refine AWp_sr hP ?_
 refine RK.M rfl ?_
 refine RK.V (op_neq rfl rfl) ?_
 refine RK.D ?_
 refine AWp_cond rfl (fun hb1 => ?_) (fun hb1 => ?_)
 ·have hb1_ := bneT hb1
  refine AWp_sr hP ?_
  refine RK.M rfl ?_
  refine RK.As rfl ?_
  refine RK.D ?_
  refine AWp_ret ?_
  refine ends_one rfl (.inr rfl) (res_tmp rfl) ?_ O_ends
  exact Sub.of_eq (congrArg (fun x => AV.p (PE x)) (rfE_1 (f := ⟨a, b, c⟩) (bneq hb1)))
 ·have hb1_ := bneF hb1
  refine AWp_skip ?_
  refine AWp_seq ?_
  refine AWp_sr hP ?_
  refine RK.G6 hT rfl rfl rfl rfl rfl rfl ?_
  refine RK.V (Eff.call0 (r8_Disc _ _ _ lz lz lz)) ?_
  refine RK.V (Eff.call0 (r_Sign _)) ?_
  refine RK.V (op_gtr rfl rfl) ?_
  refine RK.D ?_
  refine AWp_cond rfl (fun hb2 => ?_) (fun hb2 => ?_)
  ·have hb2_ := of_decide_eq_true hb2
   refine AWp_sr hP ?_
   refine RK.As rfl ?_
   refine RK.D ?_
   refine AWp_ret ?_
   refine ends_one rfl (.inr rfl) (res_tmp rfl) ?_ O_ends
   exact Sub.of_eq (congrArg (fun x => AV.p (PE x)) (rfE_2 (f := ⟨a, b, c⟩) (bneqF hb1) hb2_))
  ·have hb2_ := of_decide_eq_false hb2
   refine AWp_skip ?_
   refine AWp_seq ?_
   refine AWp_sr hP ?_
   refine RK.G6 hT rfl rfl rfl rfl rfl rfl ?_
   refine RK.V (Eff.call0 (r8_Primitive _ _ _ lz lz lz)) ?_
   refine RK.V (op_unot rfl) ?_
   refine RK.D ?_
   refine AWp_cond rfl (fun hb3 => ?_) (fun hb3 => ?_)
   ·have hb3_ := (notT hb3)
    refine AWp_sr hP ?_
    refine RK.As rfl ?_
    refine RK.D ?_
    refine AWp_ret ?_
    refine ends_one rfl (.inr rfl) (res_tmp rfl) ?_ O_ends
    exact Sub.of_eq (congrArg (fun x => AV.p (PE x)) (rfE_3 (f := ⟨a, b, c⟩) (bneqF hb1) hb2_ (notT hb3)))
   ·have hb3_ := (notF hb3)
    refine AWp_skip ?_
    refine AWp_sr hP ?_
    refine RK.As rfl ?_
    refine RK.D ?_
    refine AWp_ret ?_
    refine ends_one rfl (.inr rfl) (res_tmp rfl) ?_ O_ends
    exact Sub.of_eq (congrArg (fun x => AV.p (PE x)) (rfE_4 (f := ⟨a, b, c⟩) (bneqF hb1) hb2_ (notF hb3)))
theorem r9_Reduced (a b c : Int) (ha : L 25 a) (hb : L 25 b) (hc : L 25 c) :
  Call0 Tryz.prog 126 [FA a b c] (FA (rdF a b c).a (rdF a b c).b (rdF a b c).c) := by
 have ia : LB a 25 := ⟨ha⟩
 have ib : LB b 25 := ⟨hb⟩
 have ic : LB c 25 := ⟨hc⟩
 refine callM_of (np := 0) Tryz.func126 (by kernel_rfl) rfl rfl (Nat.le_of_ble_eq_true rfl) (fun m h => absurd rfl h) (fun m h => absurd rfl h) rfl ?_
 refine AWp_sr hP ?_
 refine RK.alc guard_none (op_box rfl rfl) ?_
 refine RK.alc guard_none (op_alloc hT rfl rfl) ?_
 refine RK.D ?_
 refine AWp_sr hP ?_
 refine RK.G6 hT rfl rfl rfl rfl rfl rfl ?_
 refine RK.V (Eff.call0 (r8_Reduce _ _ _ lz lz lz)) ?_
 refine RK.V (op_move (rfl : _ = AV.t _)) ?_
 refine RK.V (op_extract rfl (v := .a _) rfl) ?_
 refine RK.V (op_extract rfl (v := .a _) rfl) ?_
 refine RK.V (op_extract rfl (v := .c _) rfl) ?_
 refine RK.alc guard_none (op_alloc hT rfl rfl) ?_
 refine RK.alc guard_none (op_alloc hT rfl rfl) ?_
 refine RK.S hT rfl rfl rfl rfl rfl rfl rfl ?_
 refine RK.S hT rfl rfl rfl rfl rfl rfl rfl ?_
 refine RK.As rfl ?_
 refine RK.D ?_
 refine AWp_sr hP ?_
 refine RK.G6 hT rfl rfl rfl rfl rfl rfl ?_
 refine RK.S hT rfl rfl rfl rfl rfl rfl rfl ?_
 refine RK.D ?_
 refine AWp_ret ?_
 refine ends_one rfl (.inr rfl) (res_cell_agg hT rfl rfl rfl rfl (cs := [_, _, _, _, _, _]) rfl rfl) ?_ O_ends
 exact .refl _
theorem r8_Principal (d : Int) (hd : L 40 d) :
  Call0 Tryz.prog 139 [I d] (.t [PF (prF d), PE (prE d)]) := by
 have id_ : LB d 40 := ⟨hd⟩
 refine callM_of (np := 0) Tryz.func139 (by kernel_rfl) rfl rfl (Nat.le_of_ble_eq_true rfl) (fun m h => absurd rfl h) (fun m h => absurd rfl h) rfl ?_
 refine AWp_sr hP ?_
 refine RK.alc guard_none (op_box rfl rfl) ?_
 refine RK.alc guard_none (op_alloc hT rfl rfl) ?_
 refine RK.As rfl ?_
 refine RK.D ?_
 refine AWp_sr hP ?_
 refine RK.G2 hT rfl rfl rfl rfl rfl rfl ?_
 refine RK.V (Eff.call0 (r_Of _ (by first | assumption | decide))) ?_
 refine RK.V (Eff.call0 (r_Mod _ _ lz lz (by decide))) ?_
 refine RK.alc guard_none (op_alloc hT rfl rfl) ?_
 refine RK.S hT rfl rfl rfl rfl rfl rfl rfl ?_
 refine RK.D ?_
 refine AWp_seq ?_
 refine AWp_sr hP ?_
 refine RK.G2 hT rfl rfl rfl rfl rfl rfl ?_
 refine RK.V (Eff.call0 (r_Of _ (by first | assumption | decide))) ?_
 refine RK.V (Eff.call0 (r_Cmp _ _)) ?_
 refine RK.V (op_gtr rfl rfl) ?_
 refine RK.M rfl ?_
 refine RK.split (t := 12) rfl (fun hg1 => ?_) (fun hg1 => ?_)
 ·have hg1_ := of_decide_eq_true hg1
  refine RK.skip (guard_no rfl rfl hg1) ?_
  refine RK.skip (guard_no rfl rfl hg1) ?_
  refine RK.V (op_pick_t rfl hg1 (rfl : _ = AV.p (.c _))) ?_
  refine RK.D ?_
  refine AWp_cond_true rfl rfl ?_
  refine AWp_sr hP ?_
  refine RK.V (op_build_st hT rfl rfl rfl (es := [_, _, _, _, _, _]) rfl) ?_
  refine RK.S hT rfl rfl rfl rfl rfl rfl rfl ?_
  refine RK.As rfl ?_
  refine RK.D ?_
  refine AWp_ret ?_
  refine ends_two rfl (.inr rfl) (res_cell_agg hT rfl rfl rfl rfl (cs := [_, _, _, _, _, _]) rfl rfl) (res_tmp rfl) ?_ O_ends
  exact Sub.of_eq (pr_no (.inl (cmpI_gt_zero.1 hg1_)))
 ·have hg1_ := of_decide_eq_false hg1
  refine RK.val (guard_yes rfl rfl hg1) (op_load_agg hT rfl rfl rfl rfl (cs := [_, _]) rfl rfl) ?_
  refine RK.val (guard_yes rfl rfl hg1) (Eff.call0 (r8_Square _ lz)) ?_
  refine RK.V (op_pick_f rfl hg1 (rfl : _ = AV.p (.c _))) ?_
  refine RK.D ?_
  refine AWp_cond rfl (fun hb2 => ?_) (fun hb2 => ?_)
  ·refine AWp_sr hP ?_
   refine RK.V (op_build_st hT rfl rfl rfl (es := [_, _, _, _, _, _]) rfl) ?_
   refine RK.S hT rfl rfl rfl rfl rfl rfl rfl ?_
   refine RK.As rfl ?_
   refine RK.D ?_
   refine AWp_ret ?_
   refine ends_two rfl (.inr rfl) (res_cell_agg hT rfl rfl rfl rfl (cs := [_, _, _, _, _, _]) rfl rfl) (res_tmp rfl) ?_ O_ends
   exact Sub.of_eq (pr_no (.inr hb2))
  ·refine AWp_skip ?_
   refine AWp_sr hP ?_
   refine RK.V (Eff.call0 (r_Of _ (by first | assumption | decide))) ?_
   refine RK.G2 hT rfl rfl rfl rfl rfl rfl ?_
   refine RK.G2 hT rfl rfl rfl rfl rfl rfl ?_
   refine RK.G2 hT rfl rfl rfl rfl rfl rfl ?_
   refine RK.V (Eff.call0 (r_Sub _ _ lz lz)) ?_
   refine RK.V (Eff.call0 (r_Of _ (by first | assumption | decide))) ?_
   refine RK.V (Eff.call0 (r_Div _ _ lz lz (by decide))) ?_
   refine RK.V (op_build_st hT rfl rfl rfl (es := [_, _, _, _, _, _]) rfl) ?_
   refine RK.S hT rfl rfl rfl rfl rfl rfl rfl ?_
   refine RK.As rfl ?_
   refine RK.D ?_
   refine AWp_ret ?_
   refine ends_two rfl (.inr rfl) (res_cell_agg hT rfl rfl rfl rfl (cs := [_, _, _, _, _, _]) rfl rfl) (res_tmp rfl) ?_ O_ends
   exact Sub.of_eq (by rw [pr_c]; exact pr_yes (fun x => hg1_ (cmpI_gt_zero.2 x)) hb2)
theorem r9_Principal (a b c : Int) (ha : L 20 a) (hb : L 20 b) (hc : L 20 c) :
  Call0 Tryz.prog 119 [FA a b c] (FA (prF (dsc a b c)).a (prF (dsc a b c)).b (prF (dsc a b c)).c) := by
 have ia : LB a 20 := ⟨ha⟩
 have ib : LB b 20 := ⟨hb⟩
 have ic : LB c 20 := ⟨hc⟩
 refine callM_of (np := 0) Tryz.func119 (by kernel_rfl) rfl rfl (Nat.le_of_ble_eq_true rfl) (fun m h => absurd rfl h) (fun m h => absurd rfl h) rfl ?_
 refine AWp_sr hP ?_
 refine RK.alc guard_none (op_box rfl rfl) ?_
 refine RK.alc guard_none (op_alloc hT rfl rfl) ?_
 refine RK.D ?_
 refine AWp_sr hP ?_
 refine RK.G6 hT rfl rfl rfl rfl rfl rfl ?_
 refine RK.V (Eff.call0 (r8_Disc _ _ _ lz lz lz)) ?_
 refine RK.V (Eff.call0 (r8_Principal _ lz)) ?_
 refine RK.V (op_move (rfl : _ = AV.t _)) ?_
 refine RK.V (op_extract rfl (v := .a _) rfl) ?_
 refine RK.V (op_extract rfl (v := .c _) rfl) ?_
 refine RK.alc guard_none (op_alloc hT rfl rfl) ?_
 refine RK.S hT rfl rfl rfl rfl rfl rfl rfl ?_
 refine RK.As rfl ?_
 refine RK.D ?_
 refine AWp_sr hP ?_
 refine RK.G6 hT rfl rfl rfl rfl rfl rfl ?_
 refine RK.S hT rfl rfl rfl rfl rfl rfl rfl ?_
 refine RK.D ?_
 refine AWp_ret ?_
 refine ends_one rfl (.inr rfl) (res_cell_agg hT rfl rfl rfl rfl (cs := [_, _, _, _, _, _]) rfl rfl) ?_ O_ends
 exact .refl _
set_option maxHeartbeats 8000000 in
theorem r9_Product (f g : Fm) (hf : Cl (dsc f.a f.b f.c) f) (hg : Cl (dsc f.a f.b f.c) g) (hfa : L 6 f.a) (hfb : L 6 f.b) (hfc : L 6 f.c) (hga : L 6 g.a) (hgb : L 6 g.b) (hgc : L 6 g.c) :
  Call0 Tryz.prog 110 [FA f.a f.b f.c, FA g.a g.b g.c] (FA (mlt f g).a (mlt f g).b (mlt f g).c) := by
 have ifa : LB f.a 6 := ⟨hfa⟩
 have ifb : LB f.b 6 := ⟨hfb⟩
 have ifc : LB f.c 6 := ⟨hfc⟩
 have iga : LB g.a 6 := ⟨hga⟩
 have igb : LB g.b 6 := ⟨hgb⟩
 have igc : LB g.c 6 := ⟨hgc⟩
 have cB1 := r_Bezout f.a g.a lz lz
 have cB2 := r_Bezout (Int.gcd f.a g.a : Nat) ((f.b + g.b) / 2) (LB_gcd hfa hga |>.le.mono (by decide)) lz
 have ix : LB (bzU f.a g.a) 7 := ⟨L_suc hga (bzU_le _ _)⟩
 have iy : LB (bzV f.a g.a) 7 := ⟨L_suc hfa (bzV_le _ _)⟩
 have ih : LB ((Int.gcd f.a g.a : Nat) : Int) 6 := LB_gcd hfa hga
 have is0 : LB ((f.b + g.b) / 2) 7 := ⟨lz⟩
 have iu : LB (bzU (Int.gcd f.a g.a : Nat) ((f.b + g.b) / 2)) 8 := ⟨L_suc is0.le (bzU_le _ _)⟩
 have iz : LB (bzV (Int.gcd f.a g.a : Nat) ((f.b + g.b) / 2)) 8 := ⟨L_suc (ih.le.mono (by decide)) (bzV_le _ _)⟩
 have ie : LB ((Int.gcd ((Int.gcd f.a g.a : Nat) : Int) ((f.b + g.b) / 2) : Nat) : Int) 7 := LB_gcd (ih.le.mono (by decide)) is0.le
 obtain ⟨hfin, he0, hA4⟩ := ref_mlt hf hg rfl rfl rfl rfl rfl rfl rfl rfl
 have hee : ∀ e : Int, e ≠ 0 → e * e ≠ 0 := fun e h => Int.mul_ne_zero h h
 have hee := hee _ he0
 generalize (Int.gcd ((Int.gcd f.a g.a : Nat) : Int) ((f.b + g.b) / 2) : Nat) = e at *
 generalize bzU (Int.gcd f.a g.a : Nat) ((f.b + g.b) / 2) = u at *
 generalize bzV (Int.gcd f.a g.a : Nat) ((f.b + g.b) / 2) = z at *
 generalize bzU f.a g.a = x at *
 generalize bzV f.a g.a = y at *
 refine callM_of (np := 0) Tryz.func110 (by kernel_rfl) rfl rfl (Nat.le_of_ble_eq_true rfl) (fun m h => absurd rfl h) (fun m h => absurd rfl h) rfl ?_
 refine AWp_sr hP ?_
 refine RK.alc guard_none (op_box rfl rfl) ?_
 refine RK.alc guard_none (op_box rfl rfl) ?_
 refine RK.alc guard_none (op_alloc hT rfl rfl) ?_
 refine RK.D ?_
 refine AWp_sr hP ?_
 refine RK.G6 hT rfl rfl rfl rfl rfl rfl ?_
 refine RK.V (Eff.call0 (r8_Disc _ _ _ lz lz lz)) ?_
 refine RK.V (Eff.call0 (r_Of 2 (by decide))) ?_
 refine RK.alc guard_none (op_alloc hT rfl rfl) ?_
 refine RK.alc guard_none (op_alloc hT rfl rfl) ?_
 refine RK.S hT rfl rfl rfl rfl rfl rfl rfl ?_
 refine RK.S hT rfl rfl rfl rfl rfl rfl rfl ?_
 refine RK.D ?_
 refine AWp_sr hP ?_
 refine RK.F hT rfl rfl rfl rfl rfl rfl ?_
 refine RK.G2 hT rfl rfl rfl rfl rfl rfl ?_
 refine RK.F hT rfl rfl rfl rfl rfl rfl ?_
 refine RK.G2 hT rfl rfl rfl rfl rfl rfl ?_
 refine RK.V (Eff.call0 (r_Add _ _ lz lz)) ?_
 refine RK.G2 hT rfl rfl rfl rfl rfl rfl ?_
 refine RK.V (Eff.call0 (r_Div _ _ lz lz (by decide))) ?_
 refine RK.alc guard_none (op_alloc hT rfl rfl) ?_
 refine RK.S hT rfl rfl rfl rfl rfl rfl rfl ?_
 refine RK.D ?_
 refine AWp_sr hP ?_
 refine RK.F hT rfl rfl rfl rfl rfl rfl ?_
 refine RK.G2 hT rfl rfl rfl rfl rfl rfl ?_
 refine RK.F hT rfl rfl rfl rfl rfl rfl ?_
 refine RK.G2 hT rfl rfl rfl rfl rfl rfl ?_
 refine RK.V (Eff.call0 cB1) ?_
 refine RK.V (op_move (rfl : _ = AV.t _)) ?_
 refine RK.V (op_extract rfl (v := .a _) rfl) ?_
 refine RK.V (op_extract rfl (v := .a _) rfl) ?_
 refine RK.V (op_extract rfl (v := .a _) rfl) ?_
 refine RK.alc guard_none (op_alloc hT rfl rfl) ?_
 refine RK.alc guard_none (op_alloc hT rfl rfl) ?_
 refine RK.alc guard_none (op_alloc hT rfl rfl) ?_
 refine RK.S hT rfl rfl rfl rfl rfl rfl rfl ?_
 refine RK.S hT rfl rfl rfl rfl rfl rfl rfl ?_
 refine RK.S hT rfl rfl rfl rfl rfl rfl rfl ?_
 refine RK.D ?_
 refine AWp_sr hP ?_
 refine RK.G2 hT rfl rfl rfl rfl rfl rfl ?_
 refine RK.G2 hT rfl rfl rfl rfl rfl rfl ?_
 refine RK.V (Eff.call0 cB2) ?_
 refine RK.V (op_move (rfl : _ = AV.t _)) ?_
 refine RK.V (op_extract rfl (v := .a _) rfl) ?_
 refine RK.V (op_extract rfl (v := .a _) rfl) ?_
 refine RK.V (op_extract rfl (v := .a _) rfl) ?_
 refine RK.alc guard_none (op_alloc hT rfl rfl) ?_
 refine RK.alc guard_none (op_alloc hT rfl rfl) ?_
 refine RK.alc guard_none (op_alloc hT rfl rfl) ?_
 refine RK.S hT rfl rfl rfl rfl rfl rfl rfl ?_
 refine RK.S hT rfl rfl rfl rfl rfl rfl rfl ?_
 refine RK.S hT rfl rfl rfl rfl rfl rfl rfl ?_
 refine RK.D ?_
 refine AWp_sr hP ?_
 refine RK.F hT rfl rfl rfl rfl rfl rfl ?_
 refine RK.G2 hT rfl rfl rfl rfl rfl rfl ?_
 refine RK.F hT rfl rfl rfl rfl rfl rfl ?_
 refine RK.G2 hT rfl rfl rfl rfl rfl rfl ?_
 refine RK.V (Eff.call0 (r_Mul _ _ lz lz)) ?_
 refine RK.G2 hT rfl rfl rfl rfl rfl rfl ?_
 refine RK.G2 hT rfl rfl rfl rfl rfl rfl ?_
 refine RK.V (Eff.call0 (r_Mul _ _ lz lz)) ?_
 refine RK.V (Eff.call0 (r_Div _ _ lz lz hee)) ?_
 refine RK.alc guard_none (op_alloc hT rfl rfl) ?_
 refine RK.S hT rfl rfl rfl rfl rfl rfl rfl ?_
 refine RK.D ?_
 refine AWp_le (t := stL [(2, .loc 2 0), (3, .loc 3 0), (4, .loc 4 0), (5, .loc 5 0), (6, .loc 6 0), (7, .loc 7 0), (8, .loc 8 0), (9, .loc 9 0), (10, .loc 10 0), (11, .loc 11 0), (12, .loc 12 0), (13, .loc 13 0), (14, .loc 14 0)] [(2, ⟨false, 1, 53, FL f.a f.b f.c⟩), (3, ⟨false, 1, 53, FL g.a g.b g.c⟩), (4, ⟨false, 1, 53, FL 0 0 0⟩), (5, ⟨false, 1, 36, [zn (dsc f.a f.b f.c), zm (dsc f.a f.b f.c)]⟩), (6, ⟨false, 1, 36, [zn (2), zm (2)]⟩), (7, ⟨false, 1, 36, [zn ((f.b + g.b) / 2), zm ((f.b + g.b) / 2)]⟩), (8, ⟨false, 1, 36, [zn (((Int.gcd f.a g.a : Nat) : Int)), zm (((Int.gcd f.a g.a : Nat) : Int))]⟩), (9, ⟨false, 1, 36, [zn (x), zm (x)]⟩), (10, ⟨false, 1, 36, [zn (y), zm (y)]⟩), (11, ⟨false, 1, 36, [zn ((e : Int)), zm ((e : Int))]⟩), (12, ⟨false, 1, 36, [zn (u), zm (u)]⟩), (13, ⟨false, 1, 36, [zn (z), zm (z)]⟩), (14, ⟨false, 1, 36, [zn (f.a * g.a / (e * e)), zm (f.a * g.a / (e * e))]⟩)]) (le_stL ⟨.refl _, .refl _, .refl _, .refl _, .refl _, .refl _, .refl _, .refl _, .refl _, .refl _, .refl _, .refl _, .refl _, trivial⟩ ⟨rfl, rfl, rfl, rfl, rfl, rfl, rfl, rfl, rfl, rfl, rfl, rfl, rfl, trivial⟩) ?_
 refine AWp_sr hP ?_
 refine RK.G2 hT rfl rfl rfl rfl rfl rfl ?_
 refine RK.G2 hT rfl rfl rfl rfl rfl rfl ?_
 refine RK.V (Eff.call0 (r_Mul _ _ lz lz)) ?_
 refine RK.F hT rfl rfl rfl rfl rfl rfl ?_
 refine RK.G2 hT rfl rfl rfl rfl rfl rfl ?_
 refine RK.V (Eff.call0 (r_Mul _ _ lz lz)) ?_
 refine RK.F hT rfl rfl rfl rfl rfl rfl ?_
 refine RK.G2 hT rfl rfl rfl rfl rfl rfl ?_
 refine RK.V (Eff.call0 (r_Mul _ _ lz lz)) ?_
 refine RK.alc guard_none (op_alloc hT rfl rfl) ?_
 refine RK.S hT rfl rfl rfl rfl rfl rfl rfl ?_
 refine RK.D ?_
 refine AWp_sr hP ?_
 refine RK.G2 hT rfl rfl rfl rfl rfl rfl ?_
 refine RK.G2 hT rfl rfl rfl rfl rfl rfl ?_
 refine RK.V (Eff.call0 (r_Mul _ _ lz lz)) ?_
 refine RK.F hT rfl rfl rfl rfl rfl rfl ?_
 refine RK.G2 hT rfl rfl rfl rfl rfl rfl ?_
 refine RK.V (Eff.call0 (r_Mul _ _ lz lz)) ?_
 refine RK.F hT rfl rfl rfl rfl rfl rfl ?_
 refine RK.G2 hT rfl rfl rfl rfl rfl rfl ?_
 refine RK.V (Eff.call0 (r_Mul _ _ lz lz)) ?_
 refine RK.alc guard_none (op_alloc hT rfl rfl) ?_
 refine RK.S hT rfl rfl rfl rfl rfl rfl rfl ?_
 refine RK.D ?_
 refine AWp_sr hP ?_
 refine RK.G2 hT rfl rfl rfl rfl rfl rfl ?_
 refine RK.F hT rfl rfl rfl rfl rfl rfl ?_
 refine RK.G2 hT rfl rfl rfl rfl rfl rfl ?_
 refine RK.F hT rfl rfl rfl rfl rfl rfl ?_
 refine RK.G2 hT rfl rfl rfl rfl rfl rfl ?_
 refine RK.V (Eff.call0 (r_Mul _ _ lz lz)) ?_
 refine RK.G2 hT rfl rfl rfl rfl rfl rfl ?_
 refine RK.V (Eff.call0 (r_Add _ _ lz lz)) ?_
 refine RK.G2 hT rfl rfl rfl rfl rfl rfl ?_
 refine RK.V (Eff.call0 (r_Div _ _ lz lz (by decide))) ?_
 refine RK.V (Eff.call0 (r_Mul _ _ lz lz)) ?_
 refine RK.alc guard_none (op_alloc hT rfl rfl) ?_
 refine RK.S hT rfl rfl rfl rfl rfl rfl rfl ?_
 refine RK.D ?_
 refine AWp_le (t := stL [(2, .loc 2 0), (3, .loc 3 0), (4, .loc 4 0), (5, .loc 5 0), (6, .loc 6 0), (7, .loc 7 0), (8, .loc 8 0), (9, .loc 9 0), (10, .loc 10 0), (11, .loc 11 0), (12, .loc 12 0), (13, .loc 13 0), (14, .loc 14 0), (15, .loc 15 0), (16, .loc 16 0), (17, .loc 17 0)] [(2, ⟨false, 1, 53, FL f.a f.b f.c⟩), (3, ⟨false, 1, 53, FL g.a g.b g.c⟩), (4, ⟨false, 1, 53, FL 0 0 0⟩), (5, ⟨false, 1, 36, [zn (dsc f.a f.b f.c), zm (dsc f.a f.b f.c)]⟩), (6, ⟨false, 1, 36, [zn (2), zm (2)]⟩), (7, ⟨false, 1, 36, [zn ((f.b + g.b) / 2), zm ((f.b + g.b) / 2)]⟩), (8, ⟨false, 1, 36, [zn (((Int.gcd f.a g.a : Nat) : Int)), zm (((Int.gcd f.a g.a : Nat) : Int))]⟩), (9, ⟨false, 1, 36, [zn (x), zm (x)]⟩), (10, ⟨false, 1, 36, [zn (y), zm (y)]⟩), (11, ⟨false, 1, 36, [zn ((e : Int)), zm ((e : Int))]⟩), (12, ⟨false, 1, 36, [zn (u), zm (u)]⟩), (13, ⟨false, 1, 36, [zn (z), zm (z)]⟩), (14, ⟨false, 1, 36, [zn (f.a * g.a / (e * e)), zm (f.a * g.a / (e * e))]⟩), (15, ⟨false, 1, 36, [zn (u * x * f.a * g.b), zm (u * x * f.a * g.b)]⟩), (16, ⟨false, 1, 36, [zn (u * y * g.a * f.b), zm (u * y * g.a * f.b)]⟩), (17, ⟨false, 1, 36, [zn (z * ((f.b * g.b + dsc f.a f.b f.c) / 2)), zm (z * ((f.b * g.b + dsc f.a f.b f.c) / 2))]⟩)]) (le_stL ⟨.refl _, .refl _, .refl _, .refl _, .refl _, .refl _, .refl _, .refl _, .refl _, .refl _, .refl _, .refl _, .refl _, .refl _, .refl _, .refl _, trivial⟩ ⟨rfl, rfl, rfl, rfl, rfl, rfl, rfl, rfl, rfl, rfl, rfl, rfl, rfl, rfl, rfl, rfl, trivial⟩) ?_
 refine AWp_sr hP ?_
 refine RK.G2 hT rfl rfl rfl rfl rfl rfl ?_
 refine RK.G2 hT rfl rfl rfl rfl rfl rfl ?_
 refine RK.V (Eff.call0 (r_Add _ _ lz lz)) ?_
 refine RK.G2 hT rfl rfl rfl rfl rfl rfl ?_
 refine RK.V (Eff.call0 (r_Add _ _ lz lz)) ?_
 refine RK.G2 hT rfl rfl rfl rfl rfl rfl ?_
 refine RK.V (Eff.call0 (r_Div _ _ lz lz he0)) ?_
 refine RK.alc guard_none (op_alloc hT rfl rfl) ?_
 refine RK.S hT rfl rfl rfl rfl rfl rfl rfl ?_
 refine RK.D ?_
 refine AWp_sr hP ?_
 refine RK.G2 hT rfl rfl rfl rfl rfl rfl ?_
 refine RK.G2 hT rfl rfl rfl rfl rfl rfl ?_
 refine RK.V (Eff.call0 (r_Mul _ _ lz lz)) ?_
 refine RK.G2 hT rfl rfl rfl rfl rfl rfl ?_
 refine RK.V (Eff.call0 (r_Sub _ _ lz lz)) ?_
 refine RK.V (Eff.call0 (r_Of 4 (by decide))) ?_
 refine RK.G2 hT rfl rfl rfl rfl rfl rfl ?_
 refine RK.V (Eff.call0 (r_Mul _ _ lz lz)) ?_
 refine RK.V (Eff.call0 (r_Div _ _ lz lz hA4)) ?_
 refine RK.alc guard_none (op_alloc hT rfl rfl) ?_
 refine RK.S hT rfl rfl rfl rfl rfl rfl rfl ?_
 refine RK.D ?_
 refine AWp_sr hP ?_
 refine RK.G2 hT rfl rfl rfl rfl rfl rfl ?_
 refine RK.G2 hT rfl rfl rfl rfl rfl rfl ?_
 refine RK.G2 hT rfl rfl rfl rfl rfl rfl ?_
 refine RK.V (op_build_st hT rfl rfl rfl (es := [_, _, _, _, _, _]) rfl) ?_
 refine RK.V (Eff.call0 (r9_Reduced _ _ _ lz lz lz)) ?_
 refine RK.S hT rfl rfl rfl rfl rfl rfl rfl ?_
 refine RK.D ?_
 refine AWp_ret ?_
 refine ends_one rfl (.inr rfl) (res_cell_agg hT rfl rfl rfl rfl (cs := [_, _, _, _, _, _]) rfl rfl) ?_ O_ends
 exact Sub.of_eq (by rw [← hfin])
theorem r9_ProductD (D : Int) (f g : Fm) (hf : Cl D f) (hg : Cl D g) (hfa : L 6 f.a) (hfb : L 6 f.b) (hfc : L 6 f.c) (hga : L 6 g.a) (hgb : L 6 g.b) (hgc : L 6 g.c) : Call0 Tryz.prog 110 [FA f.a f.b f.c, FA g.a g.b g.c] (FA (mlt f g).a (mlt f g).b (mlt f g).c) := by
 have e := hf.disc
 subst e
 exact r9_Product f g hf hg hfa hfb hfc hga hgb hgc
end Go.Proofs.YtpaifigafaijpaaGreatDoor
end

section
/- chapter 9: powers -/
namespace Go.Proofs.YtpaifigafaijpaaGreatDoor
open Go Go.AM
set_option maxRecDepth 100000
set_option maxHeartbeats 1000000
set_option maxHeartbeats 8000000 in
theorem co_raise (D : Int) (f o x : Fm) (n : Int) (hf : Cl D f) (ho : o = prP D) (hx : x = f.rd) (_h0 : 0 ≤ n) (hn : L 30 n) (hD : n = 0 ∨ -1000000000000000000 ≤ D) :
  Call0 Tryz.prog 171 [FA o.a o.b o.c, FA x.a x.b x.c, I n, .p (.c (.v (.func (.func 123) #[] #[])))] (FA (pw D f n.natAbs).a (pw D f n.natAbs).b (pw D f n.natAbs).c) := by
 subst ho hx
 have hbl := blen_gen hn
 refine callM_of (np := 0) Tryz.func171 (by kernel_rfl) rfl rfl (Nat.le_of_ble_eq_true rfl) (fun m h => absurd rfl h) (fun m h => absurd rfl h) rfl ?_
 refine AWp_sr hP ?_
 refine RK.alc guard_none (op_box rfl rfl) ?_
 refine RK.alc guard_none (op_box rfl rfl) ?_
 refine RK.alc guard_none (op_box rfl rfl) ?_
 refine RK.alc guard_none (op_alloc hT rfl rfl) ?_
 refine RK.D ?_
 refine AWp_seq ?_
 refine AWp_sr hP ?_
 refine RK.G2 hT rfl rfl rfl rfl rfl rfl ?_
 refine RK.V (Eff.call0 (int_Bits _)) ?_
 refine RK.M rfl ?_
 refine RK.D ?_
 refine AWp_block ?_
 refine AWp_loop (ι := Nat) (fun i => stL [(3, .p (.c (.v (.func (.func 123) #[] #[])))), (4, .loc 4 0), (5, .loc 5 0), (6, .loc 6 0), (8, .loc 8 0), (11, Z (blen n.natAbs : Nat)), (12, Z (i : Int))] [(4, ⟨false, 1, 53, FL (pw D f (n.natAbs % 2 ^ i)).a (pw D f (n.natAbs % 2 ^ i)).b (pw D f (n.natAbs % 2 ^ i)).c⟩), (5, ⟨false, 1, 53, FL (pw D f (2 ^ i)).a (pw D f (2 ^ i)).b (pw D f (2 ^ i)).c⟩), (6, ⟨false, 1, 36, [zn (n), zm (n)]⟩), (8, ⟨false, 1, 53, FL 0 0 0⟩)]) (fun i => i ≤ blen n.natAbs) (fun i => blen n.natAbs - i) 0 (Nat.zero_le _) (le_stL ⟨.refl _, .refl _, .refl _, .refl _, .refl _, .refl _, .refl _, trivial⟩ ⟨Eq.trans rfl (congrArg (fun x : Fm => some (⟨false, 1, 53, FL x.a x.b x.c⟩ : Blk)) (up_start.symm)), Eq.trans rfl (congrArg (fun x : Fm => some (⟨false, 1, 53, FL x.a x.b x.c⟩ : Blk)) ((pw_one hf).symm)), rfl, rfl, trivial⟩) ?_
 intro i hib
 refine AWp_sr hP ?_
 refine RK.V (op_lss rfl rfl) ?_
 refine RK.D ?_
 refine AWp_seq ?_
 refine AWp_cond rfl (fun hb1 => ?_) (fun hb1 => ?_)
 ·have hb1_ := of_decide_eq_true hb1
  have hi : i < blen n.natAbs := by omega
  have hlen := wl_len_bit hi
  have hD1 : -1000000000000000000 ≤ D := hD.resolve_left (fun e => by rw [e] at hi; exact absurd hi (by simp [blen]))
  obtain ⟨a1, a2, a3⟩ := red_L6 (pw_cl hf (n.natAbs % 2 ^ i)).1 (pw_cl hf (n.natAbs % 2 ^ i)).2 hD1
  obtain ⟨b1, b2, b3⟩ := red_L6 (pw_cl hf (2 ^ i)).1 (pw_cl hf (2 ^ i)).2 hD1
  refine AWp_skip ?_
  refine AWp_seq ?_
  refine AWp_block ?_
  refine AWp_sr hP ?_
  refine RK.M rfl ?_
  refine RK.As rfl ?_
  refine RK.D ?_
  refine AWp_seq_cut (ι := Unit) (fun _ => stL [(3, .p (.c (.v (.func (.func 123) #[] #[])))), (4, .loc 4 0), (5, .loc 5 0), (6, .loc 6 0), (8, .loc 8 0), (11, Z (blen n.natAbs : Nat)), (12, Z (i : Int))] [(4, ⟨false, 1, 53, FL (pw D f (n.natAbs % 2 ^ (i + 1))).a (pw D f (n.natAbs % 2 ^ (i + 1))).b (pw D f (n.natAbs % 2 ^ (i + 1))).c⟩), (5, ⟨false, 1, 53, FL (pw D f (2 ^ i)).a (pw D f (2 ^ i)).b (pw D f (2 ^ i)).c⟩), (6, ⟨false, 1, 36, [zn (n), zm (n)]⟩), (8, ⟨false, 1, 53, FL 0 0 0⟩)]) (fun _ => True) ?_ ?_
  ·refine AWp_sr hP ?_
   refine RK.F hT rfl rfl rfl rfl rfl rfl ?_
   refine RK.V (op_load_one hT rfl rfl rfl rfl (by first | rfl | exact vget (by omega))) ?_
   refine RK.M rfl ?_
   refine RK.V (op_quo rfl rfl (by decide) (c := ((i / 32 : Nat) : Int)) (by rw [Int.tdiv_eq_ediv_of_nonneg (by omega), IntWalk.i64_in _ (by omega)]; omega)) ?_
   refine RK.V (op_index_WN (n := i / 32) hT rfl rfl rfl rfl rfl rfl hlen) ?_
   refine RK.V (op_load_ip_one hT rfl rfl rfl (wget hlen)) ?_
   refine RK.M rfl ?_
   refine RK.V (op_rem rfl rfl (by decide) (c := ((i % 32 : Nat) : Int)) (by rw [Int.tmod_eq_emod_of_nonneg (by omega)]; omega)) ?_
   refine RK.V (op_shrN (j := i % 32) (m := (wl n.natAbs).getD (i / 32) 0) rfl rfl (by have := Nat.mod_lt i (show 32 > 0 by decide); show _ ≤ 32; omega)) ?_
   refine RK.V (op_andN (m := (wl n.natAbs).getD (i / 32) 0 / 2 ^ (i % 32)) (n := 1) rfl rfl rfl (lt32 (dig_lt _ _ _)) (by decide)) ?_
   refine RK.V (op_eql rfl rfl) ?_
   refine RK.D ?_
   refine AWp_cond rfl (fun hb2 => ?_) (fun hb2 => ?_)
   ·have hb2_ := bT hb2
    refine AWp_region hP ?_
    refine RK.M rfl ?_
    refine RK.G6 hT rfl rfl rfl rfl rfl rfl ?_
    refine RK.G6 hT rfl rfl rfl rfl rfl rfl ?_
    refine RK.V (Eff.callF rfl (co_productD D _ _ (pw_cl hf _).1 (pw_cl hf _).1 a1 a2 a3 b1 b2 b3)) ?_
    refine RK.S hT rfl rfl rfl rfl rfl rfl rfl ?_
    refine RK.D ?_
    refine ⟨(), trivial, le_stL ⟨.refl _, .refl _, .refl _, .refl _, .refl _, .refl _, .refl _, trivial⟩ ⟨Eq.trans rfl (congrArg (fun x : Fm => some (⟨false, 1, 53, FL x.a x.b x.c⟩ : Blk)) (up_yes hf (bit_yes hb2))), rfl, rfl, rfl, trivial⟩⟩
   ·have hb2_ := bF hb2
    refine AWp_skip ?_
    refine ⟨(), trivial, le_stL ⟨.refl _, .refl _, .refl _, .refl _, .refl _, .refl _, .refl _, trivial⟩ ⟨Eq.trans rfl (congrArg (fun x : Fm => some (⟨false, 1, 53, FL x.a x.b x.c⟩ : Blk)) (up_no (bit_no hb2))), rfl, rfl, rfl, trivial⟩⟩
  intro _ _
  refine AWp_region hP ?_
  refine RK.M rfl ?_
  refine RK.G6 hT rfl rfl rfl rfl rfl rfl ?_
  refine RK.G6 hT rfl rfl rfl rfl rfl rfl ?_
  refine RK.V (Eff.callF rfl (co_productD D _ _ (pw_cl hf _).1 (pw_cl hf _).1 b1 b2 b3 b1 b2 b3)) ?_
  refine RK.S hT rfl rfl rfl rfl rfl rfl rfl ?_
  refine RK.D ?_
  refine AWp_region hP ?_
  refine RK.V (op_add rfl rfl (by first | exact IntWalk.i64_in _ (by omega) | rfl)) ?_
  refine RK.M rfl ?_
  refine RK.D ?_
  refine ⟨i + 1, by omega, by omega, le_stL ⟨.refl _, .refl _, .refl _, .refl _, .refl _, .refl _, Sub.int (by omega), trivial⟩ ⟨rfl, Eq.trans rfl (congrArg (fun x : Fm => some (⟨false, 1, 53, FL x.a x.b x.c⟩ : Blk)) (up_sq hf i)), rfl, rfl, trivial⟩⟩
 ·have hb1_ := of_decide_eq_false hb1
  refine AWp_exit ?_
  refine AWp_sr hP ?_
  refine RK.G6 hT rfl rfl rfl rfl rfl rfl ?_
  refine RK.S hT rfl rfl rfl rfl rfl rfl rfl ?_
  refine RK.D ?_
  refine AWp_ret ?_
  refine ends_one rfl (.inr rfl) (res_cell_agg hT rfl rfl rfl rfl (cs := [_, _, _, _, _, _]) rfl rfl) ?_ O_ends
  exact Sub.of_eq (by rw [show i = blen n.natAbs by omega, up_end])
set_option maxHeartbeats 4000000 in
theorem co_power (f : Fm) (n : Int) (hf : Cl (dsc f.a f.b f.c) f) (hfa : L 6 f.a) (hfb : L 6 f.b) (hfc : L 6 f.c) (hn : L 20 n) (hD : n = 0 ∨ -1000000000000000000 ≤ (dsc f.a f.b f.c)) :
  Call0 Tryz.prog 117 [FA f.a f.b f.c, I n] (FA (zpw (dsc f.a f.b f.c) f n).a (zpw (dsc f.a f.b f.c) f n).b (zpw (dsc f.a f.b f.c) f n).c) := by
 have ifa : LB f.a 6 := ⟨hfa⟩
 have ifb : LB f.b 6 := ⟨hfb⟩
 have ifc : LB f.c 6 := ⟨hfc⟩
 have in_ : LB n 20 := ⟨hn⟩
 refine callM_of (np := 0) Tryz.func117 (by kernel_rfl) rfl rfl (Nat.le_of_ble_eq_true rfl) (fun m h => absurd rfl h) (fun m h => absurd rfl h) rfl ?_
 refine AWp_sr hP ?_
 refine RK.alc guard_none (op_box rfl rfl) ?_
 refine RK.alc guard_none (op_box rfl rfl) ?_
 refine RK.alc guard_none (op_alloc hT rfl rfl) ?_
 refine RK.D ?_
 refine AWp_seq_cut (ι := Fm × Int) (fun p => stL [(2, .loc 2 0), (3, .loc 3 0), (4, .loc 4 0)] [(2, ⟨false, 1, 53, FL p.1.a p.1.b p.1.c⟩), (3, ⟨false, 1, 36, [zn (p.2), zm (p.2)]⟩), (4, ⟨false, 1, 53, FL 0 0 0⟩)]) (fun p => SgI f n p) ?_ ?_
 ·refine AWp_sr hP ?_
  refine RK.F hT rfl rfl rfl rfl rfl rfl ?_
  refine RK.V (op_load_one hT rfl rfl rfl rfl (by first | rfl | exact vget (by omega))) ?_
  refine RK.D ?_
  refine AWp_cond rfl (fun hb1 => ?_) (fun hb1 => ?_)
  ·refine AWp_region hP ?_
   refine RK.F hT rfl rfl rfl rfl rfl rfl ?_
   refine RK.G2 hT rfl rfl rfl rfl rfl rfl ?_
   refine RK.V (Eff.call0 (int_Neg _)) ?_
   refine RK.G2 hT rfl rfl rfl rfl rfl rfl ?_
   refine RK.V (Eff.call0 (int_Neg _)) ?_
   refine RK.F hT rfl rfl rfl rfl rfl rfl ?_
   refine RK.S hT rfl rfl rfl rfl rfl rfl rfl ?_
   refine RK.S hT rfl rfl rfl rfl rfl rfl rfl ?_
   refine RK.D ?_
   refine ⟨(f.mi, -n), .inl ⟨of_decide_eq_true hb1, rfl, rfl⟩, le_stL ⟨.refl _, .refl _, .refl _, trivial⟩ ⟨rfl, rfl, rfl, trivial⟩⟩
  ·refine AWp_skip ?_
   refine ⟨(f, n), .inr ⟨of_decide_eq_false hb1, rfl, rfl⟩, le_stL ⟨.refl _, .refl _, .refl _, trivial⟩ ⟨rfl, rfl, rfl, trivial⟩⟩
 rintro p hS
 obtain ⟨hcl, hz, hp0, hpn⟩ := hS.cl hf
 obtain ⟨l1, l2, l3⟩ := hS.L hfa hfb hfc
 have j1 : LB p.1.a 6 := ⟨l1⟩
 have j2 : LB p.1.b 6 := ⟨l2⟩
 have j3 : LB p.1.c 6 := ⟨l3⟩
 have j4 : L 30 p.2 := L.of_le (hn.mono (by decide)) (by omega)
 have j5 : LB p.2 30 := ⟨j4⟩
 have hbl := blen_gen j4
 have ho : prF (dsc p.1.a p.1.b p.1.c) = prP (dsc f.a f.b f.c) := by rw [hcl.disc]; exact (prF_prP hf).1
 have hD2 : p.2 = 0 ∨ -1000000000000000000 ≤ (dsc f.a f.b f.c) := hD.imp (fun e => by omega) (fun e => e)
 refine AWp_sr hP ?_
 refine RK.G6 hT rfl rfl rfl rfl rfl rfl ?_
 refine RK.V (Eff.call0 (co_principal _ _ _ lz lz lz)) ?_
 refine RK.G6 hT rfl rfl rfl rfl rfl rfl ?_
 refine RK.V (Eff.call0 (co_reduced _ _ _ lz lz lz)) ?_
 refine RK.G2 hT rfl rfl rfl rfl rfl rfl ?_
 refine RK.V (Eff.call0 (co_raise (dsc f.a f.b f.c) p.1 _ _ p.2 hcl ho rfl hp0 j4 hD2)) ?_
 refine RK.S hT rfl rfl rfl rfl rfl rfl rfl ?_
 refine RK.D ?_
 refine AWp_ret ?_
 refine ends_one rfl (.inr rfl) (res_cell_agg hT rfl rfl rfl rfl (cs := [_, _, _, _, _, _]) rfl rfl) ?_ O_ends
 exact Sub.of_eq (by rw [hz])
set_option maxHeartbeats 8000000 in
theorem r9_Raised (f : Fm) (n : Int) (hf : Cl (dsc f.a f.b f.c) f) (hfa : L 6 f.a) (hfb : L 6 f.b) (hfc : L 6 f.c) (hn : L 20 n) (hD : n = 0 ∨ -1000000000000000000 ≤ (dsc f.a f.b f.c)) :
  Call0 Tryz.prog 111 [FA f.a f.b f.c, I n] (FA (zpw (dsc f.a f.b f.c) f n).a (zpw (dsc f.a f.b f.c) f n).b (zpw (dsc f.a f.b f.c) f n).c) := by
 have ifa : LB f.a 6 := ⟨hfa⟩
 have ifb : LB f.b 6 := ⟨hfb⟩
 have ifc : LB f.c 6 := ⟨hfc⟩
 have in_ : LB n 20 := ⟨hn⟩
 refine callM_of (np := 0) Tryz.func111 (by kernel_rfl) rfl rfl (Nat.le_of_ble_eq_true rfl) (fun m h => absurd rfl h) (fun m h => absurd rfl h) rfl ?_
 refine AWp_sr hP ?_
 refine RK.alc guard_none (op_box rfl rfl) ?_
 refine RK.alc guard_none (op_box rfl rfl) ?_
 refine RK.alc guard_none (op_alloc hT rfl rfl) ?_
 refine RK.D ?_
 refine AWp_seq_cut (ι := Fm × Int) (fun p => stL [(2, .loc 2 0), (3, .loc 3 0), (4, .loc 4 0)] [(2, ⟨false, 1, 53, FL p.1.a p.1.b p.1.c⟩), (3, ⟨false, 1, 36, [zn (p.2), zm (p.2)]⟩), (4, ⟨false, 1, 53, FL 0 0 0⟩)]) (fun p => SgI f n p) ?_ ?_
 ·refine AWp_sr hP ?_
  refine RK.G2 hT rfl rfl rfl rfl rfl rfl ?_
  refine RK.V (Eff.call0 (r_Sign _)) ?_
  refine RK.V (op_lss rfl rfl) ?_
  refine RK.D ?_
  refine AWp_cond rfl (fun hb1 => ?_) (fun hb1 => ?_)
  ·have hb1_ := of_decide_eq_true hb1
   refine AWp_sr hP ?_
   refine RK.F hT rfl rfl rfl rfl rfl rfl ?_
   refine RK.G2 hT rfl rfl rfl rfl rfl rfl ?_
   refine RK.F hT rfl rfl rfl rfl rfl rfl ?_
   refine RK.G2 hT rfl rfl rfl rfl rfl rfl ?_
   refine RK.V (Eff.call0 (r_Neg _)) ?_
   refine RK.F hT rfl rfl rfl rfl rfl rfl ?_
   refine RK.G2 hT rfl rfl rfl rfl rfl rfl ?_
   refine RK.V (op_build_st hT rfl rfl rfl (es := [_, _, _, _, _, _]) rfl) ?_
   refine RK.S hT rfl rfl rfl rfl rfl rfl rfl ?_
   refine RK.D ?_
   refine AWp_region hP ?_
   refine RK.G2 hT rfl rfl rfl rfl rfl rfl ?_
   refine RK.V (Eff.call0 (r_Neg _)) ?_
   refine RK.S hT rfl rfl rfl rfl rfl rfl rfl ?_
   refine RK.D ?_
   refine ⟨(f.mi, -n), .inl ⟨sgn_lt_iff.1 hb1_, rfl, rfl⟩, le_stL ⟨.refl _, .refl _, .refl _, trivial⟩ ⟨rfl, rfl, rfl, trivial⟩⟩
  ·have hb1_ := of_decide_eq_false hb1
   refine AWp_skip ?_
   refine ⟨(f, n), .inr ⟨fun h => hb1_ (sgn_lt_iff.2 h), rfl, rfl⟩, le_stL ⟨.refl _, .refl _, .refl _, trivial⟩ ⟨rfl, rfl, rfl, trivial⟩⟩
 rintro p hS
 obtain ⟨hcl, hz, hp0, hpn⟩ := hS.cl hf
 obtain ⟨l1, l2, l3⟩ := hS.L hfa hfb hfc
 have j1 : LB p.1.a 6 := ⟨l1⟩
 have j2 : LB p.1.b 6 := ⟨l2⟩
 have j3 : LB p.1.c 6 := ⟨l3⟩
 have j4 : L 30 p.2 := L.of_le (hn.mono (by decide)) (by omega)
 have j5 : LB p.2 30 := ⟨j4⟩
 have hbl := blen_gen j4
 have ho : prF (dsc p.1.a p.1.b p.1.c) = prP (dsc f.a f.b f.c) := by rw [hcl.disc]; exact (prF_prP hf).1
 have hD2 : p.2 = 0 ∨ -1000000000000000000 ≤ (dsc f.a f.b f.c) := hD.imp (fun e => by omega) (fun e => e)
 refine AWp_sr hP ?_
 refine RK.G6 hT rfl rfl rfl rfl rfl rfl ?_
 refine RK.V (Eff.call0 (r9_Principal _ _ _ lz lz lz)) ?_
 refine RK.alc guard_none (op_alloc hT rfl rfl) ?_
 refine RK.S hT rfl rfl rfl rfl rfl rfl rfl ?_
 refine RK.D ?_
 refine AWp_seq ?_
 refine AWp_sr hP ?_
 refine RK.G2 hT rfl rfl rfl rfl rfl rfl ?_
 refine RK.V (Eff.call0 (r_Bits _ lz)) ?_
 refine RK.V (op_sub rfl rfl (by first | exact IntWalk.i64_in _ (by omega) | rfl)) ?_
 refine RK.As rfl ?_
 refine RK.D ?_
 refine AWp_block ?_
 refine AWp_loop (ι := Nat) (fun k => stL [(2, .loc 2 0), (3, .loc 3 0), (4, .loc 4 0), (5, .loc 5 0), (6, Z ((k : Int) - 1))] [(2, ⟨false, 1, 53, FL p.1.a p.1.b p.1.c⟩), (3, ⟨false, 1, 36, [zn (p.2), zm (p.2)]⟩), (4, ⟨false, 1, 53, FL 0 0 0⟩), (5, ⟨false, 1, 53, FL (pw (dsc f.a f.b f.c) p.1 (p.2.natAbs / 2 ^ k)).a (pw (dsc f.a f.b f.c) p.1 (p.2.natAbs / 2 ^ k)).b (pw (dsc f.a f.b f.c) p.1 (p.2.natAbs / 2 ^ k)).c⟩)]) (fun k => k ≤ blen p.2.natAbs) (fun k => k) (blen p.2.natAbs) (Nat.le_refl _) (le_stL ⟨.refl _, .refl _, .refl _, .refl _, .refl _, trivial⟩ ⟨rfl, rfl, rfl, Eq.trans rfl (congrArg (fun x : Fm => some (⟨false, 1, 53, FL x.a x.b x.c⟩ : Blk)) (ho.trans dn_start.symm)), trivial⟩) ?_
 intro k hkb
 refine AWp_seq ?_
 refine AWp_sr hP ?_
 refine RK.M rfl ?_
 refine RK.V (op_geq rfl rfl) ?_
 refine RK.D ?_
 refine AWp_cond rfl (fun hb2 => ?_) (fun hb2 => ?_)
 ·have hb2_ := of_decide_eq_true hb2
  have hk1 : 1 ≤ k := by omega
  have hi : k - 1 < blen p.2.natAbs := by omega
  have hlen := wl_len_bit hi
  have hD1 : -1000000000000000000 ≤ (dsc f.a f.b f.c) := hD2.resolve_left (fun e => by rw [e] at hi; exact absurd hi (by simp [blen]))
  obtain ⟨a1, a2, a3⟩ := red_L6 (pw_cl hcl (p.2.natAbs / 2 ^ k)).1 (pw_cl hcl (p.2.natAbs / 2 ^ k)).2 hD1
  obtain ⟨b1, b2, b3⟩ := red_L6 (mlt_cl (pw_cl hcl (p.2.natAbs / 2 ^ k)).1 (pw_cl hcl (p.2.natAbs / 2 ^ k)).1) (mlt_rd (pw_cl hcl (p.2.natAbs / 2 ^ k)).1 (pw_cl hcl (p.2.natAbs / 2 ^ k)).1) hD1
  refine AWp_skip ?_
  refine AWp_seq_cut (ι := Unit) (fun _ => stL [(2, .loc 2 0), (3, .loc 3 0), (4, .loc 4 0), (5, .loc 5 0), (6, Z ((k : Int) - 1))] [(2, ⟨false, 1, 53, FL p.1.a p.1.b p.1.c⟩), (3, ⟨false, 1, 36, [zn (p.2), zm (p.2)]⟩), (4, ⟨false, 1, 53, FL 0 0 0⟩), (5, ⟨false, 1, 53, FL (pw (dsc f.a f.b f.c) p.1 (p.2.natAbs / 2 ^ (k - 1))).a (pw (dsc f.a f.b f.c) p.1 (p.2.natAbs / 2 ^ (k - 1))).b (pw (dsc f.a f.b f.c) p.1 (p.2.natAbs / 2 ^ (k - 1))).c⟩)]) (fun _ => True) ?_ ?_
  ·refine AWp_block ?_
   refine AWp_sr hP ?_
   refine RK.G6 hT rfl rfl rfl rfl rfl rfl ?_
   refine RK.G6 hT rfl rfl rfl rfl rfl rfl ?_
   refine RK.V (Eff.call0 (r9_ProductD (dsc f.a f.b f.c) _ _ (pw_cl hcl _).1 (pw_cl hcl _).1 a1 a2 a3 a1 a2 a3)) ?_
   refine RK.S hT rfl rfl rfl rfl rfl rfl rfl ?_
   refine RK.D ?_
   refine AWp_sr hP ?_
   refine RK.F hT rfl rfl rfl rfl rfl rfl ?_
   refine RK.V (op_load_one hT rfl rfl rfl rfl (by first | rfl | exact vget (by omega))) ?_
   refine RK.M rfl ?_
   refine RK.V (op_quo rfl rfl (by decide) (c := (((k - 1) / 32 : Nat) : Int)) (by rw [Int.tdiv_eq_ediv_of_nonneg (by omega), IntWalk.i64_in _ (by omega)]; omega)) ?_
   refine RK.V (op_index_WN (n := (k - 1) / 32) hT rfl rfl rfl rfl rfl rfl hlen) ?_
   refine RK.V (op_load_ip_one hT rfl rfl rfl (wget hlen)) ?_
   refine RK.M rfl ?_
   refine RK.V (op_rem rfl rfl (by decide) (c := (((k - 1) % 32 : Nat) : Int)) (by rw [Int.tmod_eq_emod_of_nonneg (by omega)]; omega)) ?_
   refine RK.V (op_conv hT rfl rfl rfl rfl (by first | exact IntWalk.u64_in _ (by omega) | exact IntWalk.u32_in _ (by omega))) ?_
   refine RK.V (op_shrN (j := (k - 1) % 32) (m := (wl p.2.natAbs).getD ((k - 1) / 32) 0) rfl rfl (by have := Nat.mod_lt (k - 1) (show 32 > 0 by decide); show _ ≤ 32; omega)) ?_
   refine RK.V (op_andN (m := (wl p.2.natAbs).getD ((k - 1) / 32) 0 / 2 ^ ((k - 1) % 32)) (n := 1) rfl rfl rfl (lt32 (dig_lt _ _ _)) (by decide)) ?_
   refine RK.V (op_eql rfl rfl) ?_
   refine RK.D ?_
   refine AWp_cond rfl (fun hb3 => ?_) (fun hb3 => ?_)
   ·have hb3_ := bT hb3
    refine AWp_region hP ?_
    refine RK.G6 hT rfl rfl rfl rfl rfl rfl ?_
    refine RK.G6 hT rfl rfl rfl rfl rfl rfl ?_
    refine RK.V (Eff.call0 (r9_ProductD (dsc f.a f.b f.c) _ _ (mlt_cl (pw_cl hcl _).1 (pw_cl hcl _).1) hcl b1 b2 b3 l1 l2 l3)) ?_
    refine RK.S hT rfl rfl rfl rfl rfl rfl rfl ?_
    refine RK.D ?_
    refine ⟨(), trivial, le_stL ⟨.refl _, .refl _, .refl _, .refl _, .refl _, trivial⟩ ⟨rfl, rfl, rfl, Eq.trans rfl (congrArg (fun x : Fm => some (⟨false, 1, 53, FL x.a x.b x.c⟩ : Blk)) (dn_yes hcl hk1 (bit_yes hb3))), trivial⟩⟩
   ·have hb3_ := bF hb3
    refine AWp_skip ?_
    refine ⟨(), trivial, le_stL ⟨.refl _, .refl _, .refl _, .refl _, .refl _, trivial⟩ ⟨rfl, rfl, rfl, Eq.trans rfl (congrArg (fun x : Fm => some (⟨false, 1, 53, FL x.a x.b x.c⟩ : Blk)) (dn_no hcl hk1 (bit_no hb3))), trivial⟩⟩
  intro _ _
  refine AWp_region hP ?_
  refine RK.M rfl ?_
  refine RK.V (op_sub rfl rfl (by first | exact IntWalk.i64_in _ (by omega) | rfl)) ?_
  refine RK.As rfl ?_
  refine RK.D ?_
  refine ⟨k - 1, by omega, by omega, le_stL ⟨.refl _, .refl _, .refl _, .refl _, Sub.int (by omega), trivial⟩ ⟨rfl, rfl, rfl, rfl, trivial⟩⟩
 ·have hb2_ := of_decide_eq_false hb2
  refine AWp_exit ?_
  refine AWp_sr hP ?_
  refine RK.G6 hT rfl rfl rfl rfl rfl rfl ?_
  refine RK.S hT rfl rfl rfl rfl rfl rfl rfl ?_
  refine RK.D ?_
  refine AWp_ret ?_
  refine ends_one rfl (.inr rfl) (res_cell_agg hT rfl rfl rfl rfl (cs := [_, _, _, _, _, _]) rfl rfl) ?_ O_ends
  exact Sub.of_eq (by rw [show k = 0 by omega, Nat.pow_zero, Nat.div_one, hz])
theorem co_Power (f : Fm) (n : Int) (hfa : L 6 f.a) (hfb : L 6 f.b) (hfc : L 6 f.c) (hn : L 20 n) (hD : rfE f = 0 → n = 0 ∨ -1000000000000000000 ≤ (dsc f.a f.b f.c)) :
  Call0 Tryz.prog 112 [FA f.a f.b f.c, I n] (.t [PF (pwV f n), PE (rfE f)]) := by
 have ifa : LB f.a 6 := ⟨hfa⟩
 have ifb : LB f.b 6 := ⟨hfb⟩
 have ifc : LB f.c 6 := ⟨hfc⟩
 have in_ : LB n 20 := ⟨hn⟩
 refine callM_of (np := 0) Tryz.func112 (by kernel_rfl) rfl rfl (Nat.le_of_ble_eq_true rfl) (fun m h => absurd rfl h) (fun m h => absurd rfl h) rfl ?_
 refine AWp_sr hP ?_
 refine RK.alc guard_none (op_box rfl rfl) ?_
 refine RK.alc guard_none (op_box rfl rfl) ?_
 refine RK.alc guard_none (op_alloc hT rfl rfl) ?_
 refine RK.As rfl ?_
 refine RK.D ?_
 refine AWp_seq ?_
 refine AWp_sr hP ?_
 refine RK.G6 hT rfl rfl rfl rfl rfl rfl ?_
 refine RK.V (Eff.call0 (co_refused _ _ _ lz lz lz)) ?_
 refine RK.As rfl ?_
 refine RK.D ?_
 refine AWp_sr hP ?_
 refine RK.M rfl ?_
 refine RK.V (op_neq rfl rfl) ?_
 refine RK.D ?_
 refine AWp_cond rfl (fun hb1 => ?_) (fun hb1 => ?_)
 ·have hb1_ := bneT hb1
  refine AWp_sr hP ?_
  refine RK.V (op_build_st hT rfl rfl rfl (es := [_, _, _, _, _, _]) rfl) ?_
  refine RK.M rfl ?_
  refine RK.S hT rfl rfl rfl rfl rfl rfl rfl ?_
  refine RK.As rfl ?_
  refine RK.D ?_
  refine AWp_ret ?_
  refine ends_two rfl (.inr rfl) (res_cell_agg hT rfl rfl rfl rfl (cs := [_, _, _, _, _, _]) rfl rfl) (res_tmp rfl) ?_ O_ends
  exact Sub.of_eq (pw_err hb1_)
 ·have hb1_ := bneF hb1
  have h0 : rfE f = 0 := hb1_
  refine AWp_skip ?_
  refine AWp_sr hP ?_
  refine RK.G6 hT rfl rfl rfl rfl rfl rfl ?_
  refine RK.G2 hT rfl rfl rfl rfl rfl rfl ?_
  refine RK.V (Eff.call0 (co_power f n (rfE_cl h0) hfa hfb hfc hn (hD h0))) ?_
  refine RK.S hT rfl rfl rfl rfl rfl rfl rfl ?_
  refine RK.As rfl ?_
  refine RK.D ?_
  refine AWp_ret ?_
  refine ends_two rfl (.inr rfl) (res_cell_agg hT rfl rfl rfl rfl (cs := [_, _, _, _, _, _]) rfl rfl) (res_tmp rfl) ?_ O_ends
  exact Sub.of_eq (pw_ok h0)
theorem r9_Power (f : Fm) (n : Int) (hfa : L 6 f.a) (hfb : L 6 f.b) (hfc : L 6 f.c) (hn : L 20 n) (hD : rfE f = 0 → n = 0 ∨ -1000000000000000000 ≤ (dsc f.a f.b f.c)) :
  Call0 Tryz.prog 44 [FA f.a f.b f.c, I n] (.t [PF (pwV f n), PE (rfE f)]) := by
 have ifa : LB f.a 6 := ⟨hfa⟩
 have ifb : LB f.b 6 := ⟨hfb⟩
 have ifc : LB f.c 6 := ⟨hfc⟩
 have in_ : LB n 20 := ⟨hn⟩
 refine callM_of (np := 0) Tryz.func44 (by kernel_rfl) rfl rfl (Nat.le_of_ble_eq_true rfl) (fun m h => absurd rfl h) (fun m h => absurd rfl h) rfl ?_
 refine AWp_sr hP ?_
 refine RK.alc guard_none (op_box rfl rfl) ?_
 refine RK.alc guard_none (op_box rfl rfl) ?_
 refine RK.alc guard_none (op_alloc hT rfl rfl) ?_
 refine RK.As rfl ?_
 refine RK.D ?_
 refine AWp_sr hP ?_
 refine RK.G6 hT rfl rfl rfl rfl rfl rfl ?_
 refine RK.V (Eff.call0 (r9_Refused _ _ _ lz lz lz)) ?_
 refine RK.As rfl ?_
 refine RK.D ?_
 refine AWp_seq ?_
 refine AWp_sr hP ?_
 refine RK.M rfl ?_
 refine RK.V (op_neq rfl rfl) ?_
 refine RK.D ?_
 refine AWp_cond rfl (fun hb1 => ?_) (fun hb1 => ?_)
 ·have hb1_ := bneT hb1
  refine AWp_sr hP ?_
  refine RK.V (op_build_st hT rfl rfl rfl (es := [_, _, _, _, _, _]) rfl) ?_
  refine RK.M rfl ?_
  refine RK.S hT rfl rfl rfl rfl rfl rfl rfl ?_
  refine RK.As rfl ?_
  refine RK.D ?_
  refine AWp_ret ?_
  refine ends_two rfl (.inr rfl) (res_cell_agg hT rfl rfl rfl rfl (cs := [_, _, _, _, _, _]) rfl rfl) (res_tmp rfl) ?_ O_ends
  exact Sub.of_eq (pw_err hb1_)
 ·have hb1_ := bneF hb1
  have h0 : rfE f = 0 := hb1_
  refine AWp_skip ?_
  refine AWp_sr hP ?_
  refine RK.G6 hT rfl rfl rfl rfl rfl rfl ?_
  refine RK.G2 hT rfl rfl rfl rfl rfl rfl ?_
  refine RK.V (Eff.call0 (r9_Raised f n (rfE_cl h0) hfa hfb hfc hn (hD h0))) ?_
  refine RK.S hT rfl rfl rfl rfl rfl rfl rfl ?_
  refine RK.As rfl ?_
  refine RK.D ?_
  refine AWp_ret ?_
  refine ends_two rfl (.inr rfl) (res_cell_agg hT rfl rfl rfl rfl (cs := [_, _, _, _, _, _]) rfl rfl) (res_tmp rfl) ?_ O_ends
  exact Sub.of_eq (pw_ok h0)
set_option maxHeartbeats 8000000 in
theorem r9_Compose (f g : Fm) (hfa : L 6 f.a) (hfb : L 6 f.b) (hfc : L 6 f.c) (hga : L 6 g.a) (hgb : L 6 g.b) (hgc : L 6 g.c) :
  Call0 Tryz.prog 43 [FA f.a f.b f.c, FA g.a g.b g.c] (.t [PF (cmV f g), PE (cmE f g)]) := by
 have ifa : LB f.a 6 := ⟨hfa⟩
 have ifb : LB f.b 6 := ⟨hfb⟩
 have ifc : LB f.c 6 := ⟨hfc⟩
 have iga : LB g.a 6 := ⟨hga⟩
 have igb : LB g.b 6 := ⟨hgb⟩
 have igc : LB g.c 6 := ⟨hgc⟩
 refine callM_of (np := 0) Tryz.func43 (by kernel_rfl) rfl rfl (Nat.le_of_ble_eq_true rfl) (fun m h => absurd rfl h) (fun m h => absurd rfl h) rfl ?_
 refine AWp_sr hP ?_
 refine RK.alc guard_none (op_box rfl rfl) ?_
 refine RK.alc guard_none (op_box rfl rfl) ?_
 refine RK.alc guard_none (op_alloc hT rfl rfl) ?_
 refine RK.As rfl ?_
 refine RK.D ?_
 refine AWp_sr hP ?_
 refine RK.G6 hT rfl rfl rfl rfl rfl rfl ?_
 refine RK.V (Eff.call0 (r9_Refused _ _ _ lz lz lz)) ?_
 refine RK.As rfl ?_
 refine RK.D ?_
 refine AWp_seq_cut (ι := Unit) (fun _ => stL [(2, .loc 2 0), (3, .loc 3 0), (4, .loc 4 0), (6, .p (PE (cmE1 f g)))] [(2, ⟨false, 1, 53, FL f.a f.b f.c⟩), (3, ⟨false, 1, 53, FL g.a g.b g.c⟩), (4, ⟨false, 1, 53, FL 0 0 0⟩)]) (fun _ => True) ?_ ?_
 ·refine AWp_sr hP ?_
  refine RK.M rfl ?_
  refine RK.V (op_eql rfl rfl) ?_
  refine RK.D ?_
  refine AWp_cond rfl (fun hb1 => ?_) (fun hb1 => ?_)
  ·have hb1_ := bT hb1
   refine AWp_region hP ?_
   refine RK.G6 hT rfl rfl rfl rfl rfl rfl ?_
   refine RK.V (Eff.call0 (r9_Refused _ _ _ lz lz lz)) ?_
   refine RK.As rfl ?_
   refine RK.D ?_
   refine ⟨(), trivial, le_stL ⟨.refl _, .refl _, .refl _, Sub.int (ce_1 hb1_), trivial⟩ ⟨rfl, rfl, rfl, trivial⟩⟩
  ·have hb1_ := bF hb1
   refine AWp_skip ?_
   refine ⟨(), trivial, le_stL ⟨.refl _, .refl _, .refl _, Sub.int (ce_2 hb1_), trivial⟩ ⟨rfl, rfl, rfl, trivial⟩⟩
 intro _ _
 refine AWp_seq_cut (ι := Unit) (fun _ => stL [(2, .loc 2 0), (3, .loc 3 0), (4, .loc 4 0), (6, .p (PE (cmE f g)))] [(2, ⟨false, 1, 53, FL f.a f.b f.c⟩), (3, ⟨false, 1, 53, FL g.a g.b g.c⟩), (4, ⟨false, 1, 53, FL 0 0 0⟩)]) (fun _ => True) ?_ ?_
 ·refine AWp_sr hP ?_
  refine RK.M rfl ?_
  refine RK.V (op_eql rfl rfl) ?_
  refine RK.M rfl ?_
  refine RK.split (t := 15) rfl (fun hg2 => ?_) (fun hg2 => ?_)
  ·have hg2_ := bT hg2
   refine RK.val (guard_yes rfl rfl hg2) (op_load_agg hT rfl rfl rfl rfl (cs := [_, _, _, _, _, _]) rfl rfl) ?_
   refine RK.val (guard_yes rfl rfl hg2) (Eff.call0 (r8_Disc _ _ _ lz lz lz)) ?_
   refine RK.val (guard_yes rfl rfl hg2) (op_load_agg hT rfl rfl rfl rfl (cs := [_, _, _, _, _, _]) rfl rfl) ?_
   refine RK.val (guard_yes rfl rfl hg2) (Eff.call0 (r8_Disc _ _ _ lz lz lz)) ?_
   refine RK.val (guard_yes rfl rfl hg2) (Eff.call0 (r_Same _ _)) ?_
   refine RK.val (guard_yes rfl rfl hg2) (op_unot rfl) ?_
   refine RK.V (op_pick_t rfl hg2 (rfl : _ = AV.p (.c _))) ?_
   refine RK.D ?_
   refine AWp_cond rfl (fun hb3 => ?_) (fun hb3 => ?_)
   ·have hb3_ := (notT hb3)
    refine AWp_region hP ?_
    refine RK.As rfl ?_
    refine RK.D ?_
    refine ⟨(), trivial, le_stL ⟨.refl _, .refl _, .refl _, Sub.int (ce_3 (bT hg2) (of_decide_eq_false (notT hb3))), trivial⟩ ⟨rfl, rfl, rfl, trivial⟩⟩
   ·have hb3_ := (notF hb3)
    refine AWp_skip ?_
    refine ⟨(), trivial, le_stL ⟨.refl _, .refl _, .refl _, Sub.int (ce_4 (bT hg2) (of_decide_eq_true (notF hb3))), trivial⟩ ⟨rfl, rfl, rfl, trivial⟩⟩
  ·have hg2_ := bF hg2
   refine RK.skip (guard_no rfl rfl hg2) ?_
   refine RK.skip (guard_no rfl rfl hg2) ?_
   refine RK.skip (guard_no rfl rfl hg2) ?_
   refine RK.skip (guard_no rfl rfl hg2) ?_
   refine RK.skip (guard_no rfl rfl hg2) ?_
   refine RK.skip (guard_no rfl rfl hg2) ?_
   refine RK.V (op_pick_f rfl hg2 (rfl : _ = AV.p (.c _))) ?_
   refine RK.D ?_
   refine AWp_cond_false rfl rfl ?_
   refine AWp_skip ?_
   refine ⟨(), trivial, le_stL ⟨.refl _, .refl _, .refl _, Sub.int (ce_5 (bF hg2)), trivial⟩ ⟨rfl, rfl, rfl, trivial⟩⟩
 intro _ _
 refine AWp_seq ?_
 refine AWp_sr hP ?_
 refine RK.M rfl ?_
 refine RK.V (op_neq rfl rfl) ?_
 refine RK.D ?_
 refine AWp_cond rfl (fun hb4 => ?_) (fun hb4 => ?_)
 ·have hb4_ := bneT hb4
  refine AWp_sr hP ?_
  refine RK.V (op_build_st hT rfl rfl rfl (es := [_, _, _, _, _, _]) rfl) ?_
  refine RK.M rfl ?_
  refine RK.S hT rfl rfl rfl rfl rfl rfl rfl ?_
  refine RK.As rfl ?_
  refine RK.D ?_
  refine AWp_ret ?_
  refine ends_two rfl (.inr rfl) (res_cell_agg hT rfl rfl rfl rfl (cs := [_, _, _, _, _, _]) rfl rfl) (res_tmp rfl) ?_ O_ends
  exact Sub.of_eq (cm_res rfl hb4_)
 ·have hb4_ := bneF hb4
  have hcm : cmE f g = 0 := hb4_
  obtain ⟨cl1, cl2⟩ := cmE_cl hcm
  refine AWp_skip ?_
  refine AWp_sr hP ?_
  refine RK.G6 hT rfl rfl rfl rfl rfl rfl ?_
  refine RK.G6 hT rfl rfl rfl rfl rfl rfl ?_
  refine RK.V (Eff.call0 (r9_Product f g cl1 cl2 hfa hfb hfc hga hgb hgc)) ?_
  refine RK.S hT rfl rfl rfl rfl rfl rfl rfl ?_
  refine RK.As rfl ?_
  refine RK.D ?_
  refine AWp_ret ?_
  refine ends_two rfl (.inr rfl) (res_cell_agg hT rfl rfl rfl rfl (cs := [_, _, _, _, _, _]) rfl rfl) (res_tmp rfl) ?_ O_ends
  exact Sub.of_eq (cm_ok hcm)
end Go.Proofs.YtpaifigafaijpaaGreatDoor
end

section
/- chapter 9: orders -/
namespace Go.Proofs.YtpaifigafaijpaaGreatDoor
open Go Go.AM
set_option maxRecDepth 100000
set_option maxHeartbeats 1000000
theorem co_ends (f o : Fm) (k : Int) (hf : Cl (dsc f.a f.b f.c) f) (hfa : L 6 f.a) (hfb : L 6 f.b) (hfc : L 6 f.c) (ho : o = prP (dsc f.a f.b f.c)) (hk : InI64 k) (hD : -1000000000000000000 ≤ (dsc f.a f.b f.c)) :
  Call0 Tryz.prog 115 [Z k, .ip (FL f.a f.b f.c), .ip (FL o.a o.b o.c)] (B (decide (zpw (dsc f.a f.b f.c) f k = prP (dsc f.a f.b f.c)))) := by
 subst ho
 have ik : L 20 k := (show L 6 k by unfold L; unfold InI64 at hk; omega).mono (by decide)
 refine callM_of (np := 0) Tryz.func115 (by kernel_rfl) rfl rfl (Nat.le_of_ble_eq_true rfl) (fun m h => absurd rfl h) (fun m h => absurd rfl h) rfl ?_
 refine AWp_sr hP ?_
 refine RK.As rfl ?_
 refine RK.D ?_
 refine AWp_sr hP ?_
 refine RK.V (op_load_ip_agg hT rfl rfl rfl (cs := [_, _, _, _, _, _]) rfl rfl) ?_
 refine RK.M rfl ?_
 refine RK.V (Eff.call0 (co_of _ hk)) ?_
 refine RK.V (Eff.call0 (co_power f k hf hfa hfb hfc ik (.inr hD))) ?_
 refine RK.V (op_load_ip_agg hT rfl rfl rfl (cs := [_, _, _, _, _, _]) rfl rfl) ?_
 refine RK.V (Eff.call0 (co_equal _ _ _ _ _ _)) ?_
 refine RK.As rfl ?_
 refine RK.D ?_
 refine AWp_ret ?_
 refine ends_one rfl (.inr rfl) (res_tmp rfl) ?_ O_ends
 exact Sub.bool (by rw [Bool.eq_iff_iff, decide_eq_true_iff, decide_eq_true_iff]; exact fm_eq)
set_option maxHeartbeats 8000000 in
theorem co_Order (f : Fm) (h : Int) (hfa : L 6 f.a) (hfb : L 6 f.b) (hfc : L 6 f.c) (hh : -1000000000 ≤ h ∧ h ≤ 1000000000) (hDr : rfE f = 0 → -1000000000000000000 ≤ (dsc f.a f.b f.c)) :
  Call0 Tryz.prog 48 [FA f.a f.b f.c, Z h] (.t [PE (orV f h), PE (orE f h)]) := by
 have ifa : LB f.a 6 := ⟨hfa⟩
 have ifb : LB f.b 6 := ⟨hfb⟩
 have ifc : LB f.c 6 := ⟨hfc⟩
 have jh : InI64 h := by unfold InI64; omega
 refine callM_of (np := 0) Tryz.func48 (by kernel_rfl) rfl rfl (Nat.le_of_ble_eq_true rfl) (fun m h => absurd rfl h) (fun m h => absurd rfl h) rfl ?_
 refine AWp_sr hP ?_
 refine RK.alc guard_none (op_box rfl rfl) ?_
 refine RK.As rfl ?_
 refine RK.As rfl ?_
 refine RK.D ?_
 refine AWp_seq ?_
 refine AWp_sr hP ?_
 refine RK.G6 hT rfl rfl rfl rfl rfl rfl ?_
 refine RK.V (Eff.call0 (co_refused _ _ _ lz lz lz)) ?_
 refine RK.As rfl ?_
 refine RK.D ?_
 refine AWp_sr hP ?_
 refine RK.M rfl ?_
 refine RK.V (op_neq rfl rfl) ?_
 refine RK.D ?_
 refine AWp_cond rfl (fun hb1 => ?_) (fun hb1 => ?_)
 ·have hb1_ := bneT hb1
  refine AWp_sr hP ?_
  refine RK.M rfl ?_
  refine RK.As rfl ?_
  refine RK.As rfl ?_
  refine RK.D ?_
  refine AWp_ret ?_
  refine ends_two rfl (.inr rfl) (res_tmp rfl) (res_tmp rfl) ?_ O_ends
  exact Sub.of_eq (or_err hb1_)
 ·have hb1_ := bneF hb1
  have h0 : rfE f = 0 := hb1_
  have cl := rfE_cl h0
  have hD1 := hDr h0
  have hpr : prF (dsc f.a f.b f.c) = prP (dsc f.a f.b f.c) := (prF_prP cl).1
  refine AWp_skip ?_
  refine AWp_sr hP ?_
  refine RK.G6 hT rfl rfl rfl rfl rfl rfl ?_
  refine RK.V (Eff.call0 (co_principal _ _ _ lz lz lz)) ?_
  refine RK.alc guard_none (op_alloc hT rfl rfl) ?_
  refine RK.S hT rfl rfl rfl rfl rfl rfl rfl ?_
  refine RK.D ?_
  refine AWp_freezeBox (t := 2) rfl rfl ?_
  refine AWp_freezeBox (t := 7) rfl rfl ?_
  refine AWp_sr hP ?_
  refine RK.V (op_makeFunc2 rfl rfl) ?_
  refine RK.V (op_assign (rfl : _ = AV.fn _ _)) ?_
  refine RK.D ?_
  refine AWp_seq ?_
  refine AWp_sr hP ?_
  refine RK.M rfl ?_
  refine RK.V (op_lss rfl rfl) ?_
  refine RK.M rfl ?_
  refine RK.split (t := 21) rfl (fun hg2 => ?_) (fun hg2 => ?_)
  ·have hg2_ := of_decide_eq_true hg2
   refine RK.skip (guard_no rfl rfl hg2) ?_
   refine RK.skip (guard_no rfl rfl hg2) ?_
   refine RK.skip (guard_no rfl rfl hg2) ?_
   refine RK.skip (guard_no rfl rfl hg2) ?_
   refine RK.V (op_pick_t rfl hg2 (rfl : _ = AV.p (.c _))) ?_
   refine RK.D ?_
   refine AWp_cond_true rfl rfl ?_
   refine AWp_sr hP ?_
   refine RK.As rfl ?_
   refine RK.As rfl ?_
   refine RK.D ?_
   refine AWp_ret ?_
   refine ends_two rfl (.inr rfl) (res_tmp rfl) (res_tmp rfl) ?_ O_ends
   exact Sub.of_eq (or_no h0 (orB_lt hg2))
  ·have hg2_ := of_decide_eq_false hg2
   refine RK.val (guard_yes rfl rfl hg2) (op_move (rfl : _ = AV.fn _ _)) ?_
   refine RK.val (guard_yes rfl rfl hg2) (op_move (rfl : _ = AV.p (.c _))) ?_
   refine RK.val (guard_yes rfl rfl hg2) (Eff.callC rfl (co_ends f _ h cl hfa hfb hfc hpr jh hD1)) ?_
   refine RK.val (guard_yes rfl rfl hg2) (op_unot rfl) ?_
   refine RK.V (op_pick_f rfl hg2 (rfl : _ = AV.p (.c _))) ?_
   refine RK.D ?_
   refine AWp_cond rfl (fun hb3 => ?_) (fun hb3 => ?_)
   ·have hb3_ := (notT hb3)
    refine AWp_sr hP ?_
    refine RK.As rfl ?_
    refine RK.As rfl ?_
    refine RK.D ?_
    refine AWp_ret ?_
    refine ends_two rfl (.inr rfl) (res_tmp rfl) (res_tmp rfl) ?_ O_ends
    exact Sub.of_eq (or_no h0 (orB_ne hb3))
   ·have hb3_ := (notF hb3)
    have hB := orB_mk hg2 hb3
    have g1 := (orB_ord hB).1
    have g2 := (orB_ord hB).2
    refine (Ord.ex (n := h.toNat) (by omega) g2).elim (fun o hoo => ?_)
    have hO := hoo.1
    have hle := hoo.2
    have hdv := (hO.iff cl h.toNat).1 g2
    refine AWp_skip ?_
    refine AWp_seq ?_
    refine AWp_sr hP ?_
    refine RK.M rfl ?_
    refine RK.As rfl ?_
    refine RK.As rfl ?_
    refine RK.D ?_
    refine AWp_block ?_
    refine AWp_loop (ι := Nat × Nat × Nat) (fun p => stL [(1, Z (p.1 : Int)), (8, .fn 115 [FL f.a f.b f.c, FL (prF (dsc f.a f.b f.c)).a (prF (dsc f.a f.b f.c)).b (prF (dsc f.a f.b f.c)).c]), (9, Z (p.2.2 : Int)), (10, Z (p.2.1 : Int))] []) (fun p => OrI o p.1 p.2.1 p.2.2 ∧ (p.2.1 = 1 ∨ p.2.2 ≤ p.2.1) ∧ p.1 ≤ 1000000000 ∧ p.2.1 ≤ 1000000000) (fun p => orM p.2.1 p.2.2) (h.toNat, h.toNat, 2) ⟨OrI.start (by omega) hdv, by simp only; omega, by simp only; omega, by simp only; omega⟩ (le_stL ⟨Sub.int (by simp only; omega), .refl _, .refl _, Sub.int (by simp only; omega), trivial⟩ trivial) ?_
    rintro p ⟨i, hdm0, hb1p, hb2p⟩
    have d22 := i.d2
    refine AWp_seq ?_
    refine AWp_sr hP ?_
    refine RK.M rfl ?_
    refine RK.V (op_gtr rfl rfl) ?_
    refine RK.D ?_
    refine AWp_cond rfl (fun hb4 => ?_) (fun hb4 => ?_)
    ·have hb4_ := of_decide_eq_true hb4
     have hm1 : 1 < p.2.1 := by omega
     have hdm : p.2.2 ≤ p.2.1 := by omega
     refine AWp_skip ?_
     refine AWp_seq ?_
     refine AWp_block ?_
     refine AWp_seq_cut (ι := Nat) (fun d1 => stL [(1, Z (p.1 : Int)), (8, .fn 115 [FL f.a f.b f.c, FL (prF (dsc f.a f.b f.c)).a (prF (dsc f.a f.b f.c)).b (prF (dsc f.a f.b f.c)).c]), (9, Z (d1 : Int)), (10, Z (p.2.1 : Int))] []) (fun d1 => OrI o p.1 p.2.1 d1 ∧ d1 ≤ p.2.1 ∧ p.2.2 ≤ d1) ?_ ?_
     ·refine AWp_sr hP ?_
      refine RK.M rfl ?_
      refine RK.M rfl ?_
      refine RK.M rfl ?_
      refine RK.V (op_quo rfl rfl (by omega) (c := ((p.2.1 / p.2.2 : Nat) : Int)) (quoN (by omega) (by omega))) ?_
      refine RK.V (op_gtr rfl rfl) ?_
      refine RK.D ?_
      refine AWp_cond rfl (fun hb5 => ?_) (fun hb5 => ?_)
      ·have hb5_ := of_decide_eq_true hb5
       refine AWp_region hP ?_
       refine RK.M rfl ?_
       refine RK.As rfl ?_
       refine RK.D ?_
       refine ⟨p.2.1, ⟨i.jump (lt_sq (by have := i.d2; omega) hb5_) hm1, Nat.le_refl _, hdm⟩, le_stL ⟨.refl _, .refl _, .refl _, .refl _, trivial⟩ trivial⟩
      ·have hb5_ := of_decide_eq_false hb5
       refine AWp_skip ?_
       refine ⟨p.2.2, ⟨i, hdm, Nat.le_refl _⟩, le_stL ⟨.refl _, .refl _, .refl _, .refl _, trivial⟩ trivial⟩
     rintro d1 ⟨i1, hd1, hd2⟩
     have d12 := i1.d2
     refine AWp_block ?_
     refine AWp_loop (ι := Nat × Nat) (fun r => stL [(1, Z (r.1 : Int)), (8, .fn 115 [FL f.a f.b f.c, FL (prF (dsc f.a f.b f.c)).a (prF (dsc f.a f.b f.c)).b (prF (dsc f.a f.b f.c)).c]), (9, Z (d1 : Int)), (10, Z (r.2 : Int))] []) (fun r => OrI o r.1 r.2 d1 ∧ r.2 ≤ p.2.1 ∧ r.1 ≤ 1000000000) (fun r => r.2) (p.1, p.2.1) ⟨i1, Nat.le_refl _, hb1p⟩ (le_stL ⟨.refl _, .refl _, .refl _, .refl _, trivial⟩ trivial) ?_
     rintro r ⟨j, hr2, hr1⟩
     refine AWp_seq ?_
     refine AWp_sr hP ?_
     refine RK.M rfl ?_
     refine RK.M rfl ?_
     refine RK.V (op_rem rfl rfl (by omega) (c := ((r.2 % d1 : Nat) : Int)) remN) ?_
     refine RK.V (op_eql rfl rfl) ?_
     refine RK.D ?_
     refine AWp_cond rfl (fun hb6 => ?_) (fun hb6 => ?_)
     ·have hb6_ := bT hb6
      have hdvd := dvd_of_rem hb6_
      have q1 := Nat.div_le_self r.1 d1
      have v1 := (j.div hdvd).1
      have v2 := (j.div hdvd).2.1
      have v4 := (j.div hdvd).2.2.2
      have jq : InI64 ((r.1 / d1 : Nat) : Int) := natI64 (Nat.le_trans q1 hr1)
      refine AWp_skip ?_
      refine AWp_block ?_
      refine AWp_sr hP ?_
      refine RK.M rfl ?_
      refine RK.M rfl ?_
      refine RK.V (op_quo rfl rfl (by omega) (c := ((r.2 / d1 : Nat) : Int)) (quoN (by omega) (by omega))) ?_
      refine RK.As rfl ?_
      refine RK.D ?_
      refine AWp_sr hP ?_
      refine RK.V (op_move (rfl : _ = AV.fn _ _)) ?_
      refine RK.M rfl ?_
      refine RK.M rfl ?_
      refine RK.V (op_quo rfl rfl (by omega) (c := ((r.1 / d1 : Nat) : Int)) (quoN (by omega) (by omega))) ?_
      refine RK.V (Eff.callC rfl (co_ends f _ _ cl hfa hfb hfc hpr jq hD1)) ?_
      refine RK.D ?_
      refine AWp_cond rfl (fun hb7 => ?_) (fun hb7 => ?_)
      ·refine AWp_region hP ?_
       refine RK.M rfl ?_
       refine RK.M rfl ?_
       refine RK.V (op_quo rfl rfl (by omega) (c := ((r.1 / d1 : Nat) : Int)) (quoN (by omega) (by omega))) ?_
       refine RK.As rfl ?_
       refine RK.D ?_
       refine ⟨(r.1 / d1, r.2 / d1), ⟨v1 (ord_dvd hO cl hb7), by simp only; omega, by simp only; omega⟩, v4, le_stL ⟨.refl _, .refl _, .refl _, .refl _, trivial⟩ trivial⟩
      ·refine AWp_skip ?_
       refine ⟨(r.1, r.2 / d1), ⟨v2 (ord_ndvd hO cl hb7), by simp only; omega, hr1⟩, v4, le_stL ⟨.refl _, .refl _, .refl _, .refl _, trivial⟩ trivial⟩
     ·have hb6_ := bF hb6
      have hnd := j.next (ndvd_of_rem hb6_)
      refine AWp_exit ?_
      refine AWp_region hP ?_
      refine RK.M rfl ?_
      refine RK.V (op_add rfl rfl (by first | exact IntWalk.i64_in _ (by omega) | rfl)) ?_
      refine RK.As rfl ?_
      refine RK.D ?_
      refine ⟨(r.1, r.2, d1 + 1), ⟨hnd.1, hnd.2, by simp only; omega, by simp only; omega⟩, orM_lt hm1 hdm hd2 hr2 hnd.2, le_stL ⟨.refl _, .refl _, Sub.int (by simp only; omega), .refl _, trivial⟩ trivial⟩
    ·have hb4_ := of_decide_eq_false hb4
     refine AWp_exit ?_
     refine AWp_sr hP ?_
     refine RK.M rfl ?_
     refine RK.As rfl ?_
     refine RK.As rfl ?_
     refine RK.D ?_
     refine AWp_ret ?_
     refine ends_two rfl (.inr rfl) (res_tmp rfl) (res_tmp rfl) ?_ O_ends
     have hfin := i.fin (by omega)
     exact Sub.of_eq (by rw [hfin]; exact or_yes h0 hB hO)
set_option maxHeartbeats 4000000 in
theorem r9_Least (f : Fm) (o : Nat) (hf : Cl (dsc f.a f.b f.c) f) (hfa : L 6 f.a) (hfb : L 6 f.b) (hfc : L 6 f.c) (hO : Ord (dsc f.a f.b f.c) f o) (hb : o ≤ 1000000000) (hD : -1000000000000000000 ≤ (dsc f.a f.b f.c)) :
  Call0 Tryz.prog 120 [FA f.a f.b f.c] (Z (o : Int)) := by
 have ifa : LB f.a 6 := ⟨hfa⟩
 have ifb : LB f.b 6 := ⟨hfb⟩
 have ifc : LB f.c 6 := ⟨hfc⟩
 have hpr : prF (dsc f.a f.b f.c) = prP (dsc f.a f.b f.c) := (prF_prP hf).1
 have ho1 := hO.o1
 refine callM_of (np := 0) Tryz.func120 (by kernel_rfl) rfl rfl (Nat.le_of_ble_eq_true rfl) (fun m h => absurd rfl h) (fun m h => absurd rfl h) rfl ?_
 refine AWp_sr hP ?_
 refine RK.alc guard_none (op_box rfl rfl) ?_
 refine RK.As rfl ?_
 refine RK.D ?_
 refine AWp_sr hP ?_
 refine RK.G6 hT rfl rfl rfl rfl rfl rfl ?_
 refine RK.V (Eff.call0 (r9_Reduced _ _ _ lz lz lz)) ?_
 refine RK.G6 hT rfl rfl rfl rfl rfl rfl ?_
 refine RK.V (Eff.call0 (r9_Principal _ _ _ lz lz lz)) ?_
 refine RK.alc guard_none (op_alloc hT rfl rfl) ?_
 refine RK.alc guard_none (op_alloc hT rfl rfl) ?_
 refine RK.As rfl ?_
 refine RK.S hT rfl rfl rfl rfl rfl rfl rfl ?_
 refine RK.S hT rfl rfl rfl rfl rfl rfl rfl ?_
 refine RK.D ?_
 refine AWp_seq ?_
 refine AWp_block ?_
 refine AWp_loop (ι := Nat) (fun k => stL [(1, .loc 1 0), (3, Z (k : Int)), (4, .loc 4 0), (5, .loc 5 0)] [(1, ⟨false, 1, 53, FL f.a f.b f.c⟩), (4, ⟨false, 1, 53, FL (pw (dsc f.a f.b f.c) f k).a (pw (dsc f.a f.b f.c) f k).b (pw (dsc f.a f.b f.c) f k).c⟩), (5, ⟨false, 1, 53, FL (prF (dsc f.a f.b f.c)).a (prF (dsc f.a f.b f.c)).b (prF (dsc f.a f.b f.c)).c⟩)]) (fun k => 1 ≤ k ∧ k ≤ o) (fun k => o - k) 1 ⟨by omega, ho1⟩ (le_stL ⟨.refl _, .refl _, .refl _, .refl _, trivial⟩ ⟨rfl, Eq.trans rfl (congrArg (fun x : Fm => some (⟨false, 1, 53, FL x.a x.b x.c⟩ : Blk)) ((pw_one hf).symm)), rfl, trivial⟩) ?_
 rintro k ⟨hk1, hk2⟩
 refine AWp_seq ?_
 refine AWp_sr hP ?_
 refine RK.G6 hT rfl rfl rfl rfl rfl rfl ?_
 refine RK.G6 hT rfl rfl rfl rfl rfl rfl ?_
 refine RK.V (Eff.call0 (r8_Equal _ _ _ _ _ _)) ?_
 refine RK.V (op_unot rfl) ?_
 refine RK.D ?_
 refine AWp_cond rfl (fun hb1 => ?_) (fun hb1 => ?_)
 ·have hb1_ := (notT hb1)
  have hne : ¬ pw (dsc f.a f.b f.c) f k = prF (dsc f.a f.b f.c) := fun e => of_decide_eq_false (notT hb1) (fm_eq.2 e)
  rw [hpr] at hne
  have hlt : k < o := by
   rcases Nat.lt_or_ge k o with c | c
   ·exact c
   ·exact absurd ((show k = o by omega) ▸ hO.eq) hne
  obtain ⟨a1, a2, a3⟩ := red_L6 (pw_cl hf k).1 (pw_cl hf k).2 hD
  refine AWp_skip ?_
  refine AWp_block ?_
  refine AWp_sr hP ?_
  refine RK.G6 hT rfl rfl rfl rfl rfl rfl ?_
  refine RK.G6 hT rfl rfl rfl rfl rfl rfl ?_
  refine RK.V (Eff.call0 (r9_ProductD (dsc f.a f.b f.c) _ _ (pw_cl hf _).1 hf a1 a2 a3 hfa hfb hfc)) ?_
  refine RK.S hT rfl rfl rfl rfl rfl rfl rfl ?_
  refine RK.D ?_
  refine AWp_region hP ?_
  refine RK.M rfl ?_
  refine RK.V (op_add rfl rfl (by first | exact IntWalk.i64_in _ (by omega) | rfl)) ?_
  refine RK.As rfl ?_
  refine RK.D ?_
  refine ⟨k + 1, by omega, by omega, le_stL ⟨.refl _, Sub.int (by omega), .refl _, .refl _, trivial⟩ ⟨rfl, rfl, rfl, trivial⟩⟩
 ·have hb1_ := (notF hb1)
  have he : pw (dsc f.a f.b f.c) f k = prF (dsc f.a f.b f.c) := fm_eq.1 (of_decide_eq_true (notF hb1))
  rw [hpr] at he
  have hko : k = o := by
   rcases (show k < o ∨ k = o by omega) with c | c
   ·exact absurd he (hO.ls k hk1 c)
   ·exact c
  refine AWp_exit ?_
  refine AWp_sr hP ?_
  refine RK.M rfl ?_
  refine RK.As rfl ?_
  refine RK.D ?_
  refine AWp_ret ?_
  refine ends_one rfl (.inr rfl) (res_tmp rfl) ?_ O_ends
  exact Sub.int (by omega)
set_option maxHeartbeats 8000000 in
theorem r9_Order (f : Fm) (h : Int) (hfa : L 6 f.a) (hfb : L 6 f.b) (hfc : L 6 f.c) (hh : -1000000000 ≤ h ∧ h ≤ 1000000000) (hDr : rfE f = 0 → -1000000000000000000 ≤ (dsc f.a f.b f.c)) :
  Call0 Tryz.prog 49 [FA f.a f.b f.c, Z h] (.t [PE (orV f h), PE (orE f h)]) := by
 have ifa : LB f.a 6 := ⟨hfa⟩
 have ifb : LB f.b 6 := ⟨hfb⟩
 have ifc : LB f.c 6 := ⟨hfc⟩
 have jh : InI64 h := by unfold InI64; omega
 have ih : L 20 h := (show L 6 h by unfold L; omega).mono (by decide)
 refine callM_of (np := 0) Tryz.func49 (by kernel_rfl) rfl rfl (Nat.le_of_ble_eq_true rfl) (fun m h => absurd rfl h) (fun m h => absurd rfl h) rfl ?_
 refine AWp_sr hP ?_
 refine RK.alc guard_none (op_box rfl rfl) ?_
 refine RK.As rfl ?_
 refine RK.As rfl ?_
 refine RK.D ?_
 refine AWp_sr hP ?_
 refine RK.G6 hT rfl rfl rfl rfl rfl rfl ?_
 refine RK.V (Eff.call0 (r9_Refused _ _ _ lz lz lz)) ?_
 refine RK.As rfl ?_
 refine RK.D ?_
 refine AWp_seq ?_
 refine AWp_sr hP ?_
 refine RK.M rfl ?_
 refine RK.V (op_neq rfl rfl) ?_
 refine RK.D ?_
 refine AWp_cond rfl (fun hb1 => ?_) (fun hb1 => ?_)
 ·have hb1_ := bneT hb1
  refine AWp_sr hP ?_
  refine RK.M rfl ?_
  refine RK.As rfl ?_
  refine RK.As rfl ?_
  refine RK.D ?_
  refine AWp_ret ?_
  refine ends_two rfl (.inr rfl) (res_tmp rfl) (res_tmp rfl) ?_ O_ends
  exact Sub.of_eq (or_err hb1_)
 ·have hb1_ := bneF hb1
  have h0 : rfE f = 0 := hb1_
  have cl := rfE_cl h0
  have hD1 := hDr h0
  have hpr : prF (dsc f.a f.b f.c) = prP (dsc f.a f.b f.c) := (prF_prP cl).1
  refine AWp_skip ?_
  refine AWp_seq ?_
  refine AWp_sr hP ?_
  refine RK.M rfl ?_
  refine RK.V (op_lss rfl rfl) ?_
  refine RK.M rfl ?_
  refine RK.split (t := 14) rfl (fun hg2 => ?_) (fun hg2 => ?_)
  ·have hg2_ := of_decide_eq_true hg2
   refine RK.skip (guard_no rfl rfl hg2) ?_
   refine RK.skip (guard_no rfl rfl hg2) ?_
   refine RK.skip (guard_no rfl rfl hg2) ?_
   refine RK.skip (guard_no rfl rfl hg2) ?_
   refine RK.skip (guard_no rfl rfl hg2) ?_
   refine RK.skip (guard_no rfl rfl hg2) ?_
   refine RK.skip (guard_no rfl rfl hg2) ?_
   refine RK.skip (guard_no rfl rfl hg2) ?_
   refine RK.V (op_pick_t rfl hg2 (rfl : _ = AV.p (.c _))) ?_
   refine RK.D ?_
   refine AWp_cond_true rfl rfl ?_
   refine AWp_sr hP ?_
   refine RK.As rfl ?_
   refine RK.As rfl ?_
   refine RK.D ?_
   refine AWp_ret ?_
   refine ends_two rfl (.inr rfl) (res_tmp rfl) (res_tmp rfl) ?_ O_ends
   exact Sub.of_eq (or_no h0 (orB_lt hg2))
  ·have hg2_ := of_decide_eq_false hg2
   refine RK.val (guard_yes rfl rfl hg2) (op_load_agg hT rfl rfl rfl rfl (cs := [_, _, _, _, _, _]) rfl rfl) ?_
   refine RK.val (guard_yes rfl rfl hg2) (op_move (rfl : _ = AV.p (.c _))) ?_
   refine RK.val (guard_yes rfl rfl hg2) (Eff.call0 (r_Of _ jh)) ?_
   refine RK.val (guard_yes rfl rfl hg2) (Eff.call0 (r9_Raised f h cl hfa hfb hfc ih (.inr hD1))) ?_
   refine RK.val (guard_yes rfl rfl hg2) (op_load_agg hT rfl rfl rfl rfl (cs := [_, _, _, _, _, _]) rfl rfl) ?_
   refine RK.val (guard_yes rfl rfl hg2) (Eff.call0 (r9_Principal _ _ _ lz lz lz)) ?_
   refine RK.val (guard_yes rfl rfl hg2) (Eff.call0 (r8_Equal _ _ _ _ _ _)) ?_
   refine RK.val (guard_yes rfl rfl hg2) (op_unot rfl) ?_
   refine RK.V (op_pick_f rfl hg2 (rfl : _ = AV.p (.c _))) ?_
   refine RK.D ?_
   refine AWp_cond rfl (fun hb3 => ?_) (fun hb3 => ?_)
   ·have hb3_ := (notT hb3)
    have hne : decide (zpw (dsc f.a f.b f.c) f h = prP (dsc f.a f.b f.c)) = false := decide_eq_false (fun e => of_decide_eq_false (notT hb3) (fm_eq.2 (by rw [hpr]; exact e)))
    refine AWp_sr hP ?_
    refine RK.As rfl ?_
    refine RK.As rfl ?_
    refine RK.D ?_
    refine AWp_ret ?_
    refine ends_two rfl (.inr rfl) (res_tmp rfl) (res_tmp rfl) ?_ O_ends
    exact Sub.of_eq (or_no h0 (orB_ne (by rw [hne]; rfl)))
   ·have hb3_ := (notF hb3)
    have heq : decide (zpw (dsc f.a f.b f.c) f h = prP (dsc f.a f.b f.c)) = true := decide_eq_true (by have := fm_eq.1 (of_decide_eq_true (notF hb3)); rw [hpr] at this; exact this)
    have hB := orB_mk hg2 (by rw [heq]; rfl)
    have g1 := (orB_ord hB).1
    have g2 := (orB_ord hB).2
    refine (Ord.ex (n := h.toNat) (by omega) g2).elim (fun o hoo => ?_)
    have hO := hoo.1
    have hle := hoo.2
    refine AWp_skip ?_
    refine AWp_sr hP ?_
    refine RK.G6 hT rfl rfl rfl rfl rfl rfl ?_
    refine RK.V (Eff.call0 (r9_Least f o cl hfa hfb hfc hO (by omega) hD1)) ?_
    refine RK.As rfl ?_
    refine RK.As rfl ?_
    refine RK.D ?_
    refine AWp_ret ?_
    refine ends_two rfl (.inr rfl) (res_tmp rfl) (res_tmp rfl) ?_ O_ends
    exact Sub.of_eq (or_yes h0 hB hO)
end Go.Proofs.YtpaifigafaijpaaGreatDoor
end

section
/- chapter 9: roots -/
namespace Go.Proofs.YtpaifigafaijpaaGreatDoor
open Go Go.AM
set_option maxRecDepth 100000
set_option maxHeartbeats 1000000
theorem r9_SameList (l m : List Fm) (hl : (l.length : Int) ≤ 1000000000) :
  Call0 Tryz.prog 52 [.p (.c (FS l)), .p (.c (FS m))] (B (decide (l = m))) := by
 refine callM_of (np := 0) Tryz.func52 (by kernel_rfl) rfl rfl (Nat.le_of_ble_eq_true rfl) (fun m h => absurd rfl h) (fun m h => absurd rfl h) rfl ?_
 refine AWp_sr hP ?_
 refine RK.As rfl ?_
 refine RK.D ?_
 refine AWp_seq ?_
 refine AWp_sr hP ?_
 refine RK.M rfl ?_
 refine RK.V (op_len hT rfl rfl rfl (by rfl)) ?_
 refine RK.M rfl ?_
 refine RK.V (op_len hT rfl rfl rfl (by rfl)) ?_
 refine RK.V (op_neq rfl rfl) ?_
 refine RK.D ?_
 refine AWp_cond rfl (fun hb1 => ?_) (fun hb1 => ?_)
 ·have hb1_ := bneT hb1
  refine AWp_sr hP ?_
  refine RK.As rfl ?_
  refine RK.D ?_
  refine AWp_ret ?_
  refine ends_one rfl (.inr rfl) (res_tmp rfl) ?_ O_ends
  exact Sub.bool (len_ne hb1_)
 ·have hb1_ := bneF hb1
  refine AWp_skip ?_
  refine AWp_seq ?_
  refine AWp_sr hP ?_
  refine RK.As rfl ?_
  refine RK.D ?_
  refine AWp_block ?_
  refine AWp_loop (ι := Nat) (fun k => stL [(0, .p (.c (FS l))), (1, .p (.c (FS m))), (5, Z (k : Int))] []) (fun k => SmI l m k) (fun k => l.length - k) 0 (SmI.start l m) (le_stL ⟨.refl _, .refl _, .refl _, trivial⟩ trivial) ?_
  intro k hI
  have hk := hI.k1
  refine AWp_seq ?_
  refine AWp_sr hP ?_
  refine RK.M rfl ?_
  refine RK.M rfl ?_
  refine RK.V (op_len hT rfl rfl rfl (by rfl)) ?_
  refine RK.V (op_lss rfl rfl) ?_
  refine RK.D ?_
  refine AWp_cond rfl (fun hb2 => ?_) (fun hb2 => ?_)
  ·have hb2_ := of_decide_eq_true hb2
   refine AWp_skip ?_
   refine AWp_seq ?_
   refine AWp_block ?_
   refine AWp_sr hP ?_
   refine RK.M rfl ?_
   refine RK.M rfl ?_
   refine RK.V (op_indexF hT rfl rfl rfl rfl rfl rfl (by omega)) ?_
   refine RK.V (op_load_ip_agg hT rfl rfl rfl (cs := FC (l.getD k ⟨0, 0, 0⟩)) rfl rfl) ?_
   refine RK.M rfl ?_
   refine RK.M rfl ?_
   refine RK.V (op_indexF hT rfl rfl rfl rfl rfl rfl (by omega)) ?_
   refine RK.V (op_load_ip_agg hT rfl rfl rfl (cs := FC (m.getD k ⟨0, 0, 0⟩)) rfl rfl) ?_
   refine RK.V (Eff.call0 (r8_Equal ((l.getD k ⟨0, 0, 0⟩)).a ((l.getD k ⟨0, 0, 0⟩)).b ((l.getD k ⟨0, 0, 0⟩)).c (m.getD k ⟨0, 0, 0⟩).a (m.getD k ⟨0, 0, 0⟩).b (m.getD k ⟨0, 0, 0⟩).c)) ?_
   refine RK.V (op_unot rfl) ?_
   refine RK.D ?_
   refine AWp_cond rfl (fun hb3 => ?_) (fun hb3 => ?_)
   ·have hb3_ := (notT hb3)
    refine AWp_sr hP ?_
    refine RK.As rfl ?_
    refine RK.D ?_
    refine AWp_ret ?_
    refine ends_one rfl (.inr rfl) (res_tmp rfl) ?_ O_ends
    exact Sub.bool (SmI.no (l := l) (m := m) (k := k) (notT hb3))
   ·have hb3_ := (notF hb3)
    refine AWp_skip ?_
    refine AWp_region hP ?_
    refine RK.M rfl ?_
    refine RK.V (op_add rfl rfl (by first | exact IntWalk.i64_in _ (by omega) | rfl)) ?_
    refine RK.As rfl ?_
    refine RK.D ?_
    refine ⟨k + 1, hI.next (by omega) (notF hb3), by omega, le_stL ⟨.refl _, .refl _, Sub.int (by omega), trivial⟩ trivial⟩
  ·have hb2_ := of_decide_eq_false hb2
   refine AWp_exit ?_
   refine AWp_sr hP ?_
   refine RK.As rfl ?_
   refine RK.D ?_
   refine AWp_ret ?_
   refine ends_one rfl (.inr rfl) (res_tmp rfl) ?_ O_ends
   exact Sub.bool (hI.yes hb1_ hb2_)
set_option maxHeartbeats 8000000 in
theorem r9_RootsIn (f : Fm) (l : List Fm) (hfa : L 6 f.a) (hfb : L 6 f.b) (hfc : L 6 f.c) (hl : ∀ g ∈ l, L 6 g.a ∧ L 6 g.b ∧ L 6 g.c) (hl2 : (l.length : Int) ≤ 1000000) :
  Call0 Tryz.prog 51 [FA f.a f.b f.c, .p (.c (FS l))] (.p (.a [FS (rtsL f l), .v (.int .i64 (rtsE f l))])) := by
 have ifa : LB f.a 6 := ⟨hfa⟩
 have ifb : LB f.b 6 := ⟨hfb⟩
 have ifc : LB f.c 6 := ⟨hfc⟩
 refine callM_of (np := 0) Tryz.func51 (by kernel_rfl) rfl rfl (Nat.le_of_ble_eq_true rfl) (fun m h => absurd rfl h) (fun m h => absurd rfl h) rfl ?_
 refine AWp_sr hP ?_
 refine RK.alc guard_none (op_box rfl rfl) ?_
 refine RK.alc guard_none (op_alloc hT rfl rfl) ?_
 refine RK.D ?_
 refine AWp_sr hP ?_
 refine RK.G6 hT rfl rfl rfl rfl rfl rfl ?_
 refine RK.V (Eff.call0 (r9_Refused _ _ _ lz lz lz)) ?_
 refine RK.As rfl ?_
 refine RK.D ?_
 refine AWp_seq ?_
 refine AWp_sr hP ?_
 refine RK.M rfl ?_
 refine RK.V (op_neq rfl rfl) ?_
 refine RK.D ?_
 refine AWp_cond rfl (fun hb1 => ?_) (fun hb1 => ?_)
 ·have hb1_ := bneT hb1
  refine AWp_sr hP ?_
  refine RK.M rfl ?_
  refine RK.V (op_build_st hT rfl rfl rfl (es := [_, _]) rfl) ?_
  refine RK.S hT rfl rfl rfl rfl rfl rfl rfl ?_
  refine RK.D ?_
  refine AWp_ret ?_
  refine ends_one rfl (.inr rfl) (res_cell_agg hT rfl rfl rfl rfl (cs := [_, _]) rfl rfl) ?_ O_ends
  have e := rts_1 (l := l) hb1_
  exact Sub.of_eq (by rw [e.1, e.2]; rfl)
 ·have hb1_ := bneF hb1
  have h0 : rfE f = 0 := hb1_
  have cl := rfE_cl h0
  refine AWp_skip ?_
  refine AWp_seq ?_
  refine AWp_sr hP ?_
  refine RK.M rfl ?_
  refine RK.V (op_len hT rfl rfl rfl (by rfl)) ?_
  refine RK.V (op_gtr rfl rfl) ?_
  refine RK.D ?_
  refine AWp_cond rfl (fun hb2 => ?_) (fun hb2 => ?_)
  ·have hb2_ := of_decide_eq_true hb2
   refine AWp_sr hP ?_
   refine RK.V (op_build_st hT rfl rfl rfl (es := [_, _]) rfl) ?_
   refine RK.S hT rfl rfl rfl rfl rfl rfl rfl ?_
   refine RK.D ?_
   refine AWp_ret ?_
   refine ends_one rfl (.inr rfl) (res_cell_agg hT rfl rfl rfl rfl (cs := [_, _]) rfl rfl) ?_ O_ends
   have e := rts_2 h0 hb2_
   exact Sub.of_eq (by rw [e.1, e.2]; rfl)
  ·have hb2_ := of_decide_eq_false hb2
   refine AWp_skip ?_
   refine AWp_sr hP ?_
   refine RK.G6 hT rfl rfl rfl rfl rfl rfl ?_
   refine RK.V (Eff.call0 (r9_Reduced _ _ _ lz lz lz)) ?_
   refine RK.alc guard_none (op_bslice_vec hT rfl rfl rfl (es := []) rfl rfl rfl) ?_
   refine RK.alc guard_none (op_alloc hT rfl rfl) ?_
   refine RK.S hT rfl rfl rfl rfl rfl rfl rfl ?_
   refine RK.V (op_assign (rfl : _ = AV.vec _)) ?_
   refine RK.D ?_
   refine AWp_rn 23 1000 rfl rfl rfl ?_
   refine AWp_seq ?_
   refine AWp_sr hP ?_
   refine RK.As rfl ?_
   refine RK.D ?_
   refine AWp_block ?_
   refine AWp_loop (ι := Nat) (fun k => stL [(1, .p (.c (FS l))), (2, .loc 2 0), (4, .loc 4 0), (6, .loc 6 0), (7, .vec 1000), (8, Z (k : Int))] [(2, ⟨false, 1, 53, FL f.a f.b f.c⟩), (4, ⟨false, 1, 86, [.sl 0 [], .v (.int .i64 0)]⟩), (6, ⟨false, 1, 53, FL f.rd.a f.rd.b f.rd.c⟩), (1000, FB 53 (rtK f l k))]) (fun k => k ≤ l.length) (fun k => l.length - k) 0 (Nat.zero_le _) (le_stL ⟨.refl _, .refl _, .refl _, .refl _, .refl _, .refl _, trivial⟩ ⟨rfl, rfl, rfl, rfl, trivial⟩) ?_
   intro k hk
   refine AWp_seq ?_
   refine AWp_sr hP ?_
   refine RK.M rfl ?_
   refine RK.M rfl ?_
   refine RK.V (op_len hT rfl rfl rfl (by rfl)) ?_
   refine RK.V (op_lss rfl rfl) ?_
   refine RK.D ?_
   refine AWp_cond rfl (fun hb3 => ?_) (fun hb3 => ?_)
   ·have hb3_ := of_decide_eq_true hb3
    have h6 := hl _ (getD_mem (l := l) (k := k) hb3_)
    have iGa : LB (l.getD k ⟨0, 0, 0⟩).a 6 := ⟨h6.1⟩
    have iGb : LB (l.getD k ⟨0, 0, 0⟩).b 6 := ⟨h6.2.1⟩
    have iGc : LB (l.getD k ⟨0, 0, 0⟩).c 6 := ⟨h6.2.2⟩
    refine AWp_skip ?_
    refine AWp_seq ?_
    refine AWp_block ?_
    refine AWp_sr hP ?_
    refine RK.M rfl ?_
    refine RK.M rfl ?_
    refine RK.V (op_indexF hT rfl rfl rfl rfl rfl rfl (by omega)) ?_
    refine RK.V (op_load_ip_agg hT rfl rfl rfl (cs := FC (l.getD k ⟨0, 0, 0⟩)) rfl rfl) ?_
    refine RK.M rfl ?_
    refine RK.M rfl ?_
    refine RK.V (op_indexF hT rfl rfl rfl rfl rfl rfl (by omega)) ?_
    refine RK.V (op_load_ip_agg hT rfl rfl rfl (cs := FC (l.getD k ⟨0, 0, 0⟩)) rfl rfl) ?_
    refine RK.V (Eff.call0 (r9_Compose _ _ h6.1 h6.2.1 h6.2.2 h6.1 h6.2.1 h6.2.2)) ?_
    refine RK.V (op_move (rfl : _ = AV.t _)) ?_
    refine RK.V (op_extract rfl (v := .a _) rfl) ?_
    refine RK.V (op_extract rfl (v := .c _) rfl) ?_
    refine RK.alc guard_none (op_alloc hT rfl rfl) ?_
    refine RK.S hT rfl rfl rfl rfl rfl rfl rfl ?_
    refine RK.As rfl ?_
    refine RK.D ?_
    refine AWp_sr hP ?_
    refine RK.M rfl ?_
    refine RK.V (op_eql rfl rfl) ?_
    refine RK.M rfl ?_
    refine RK.split (t := 44) rfl (fun hg4 => ?_) (fun hg4 => ?_)
    ·have hg4_ := bT hg4
     refine RK.val (guard_yes rfl rfl hg4) (op_move (rfl : _ = AV.p (.c _))) ?_
     refine RK.val (guard_yes rfl rfl hg4) (op_move (rfl : _ = AV.p (.c _))) ?_
     refine RK.val (guard_yes rfl rfl hg4) (op_indexF hT rfl rfl rfl rfl rfl rfl (by omega)) ?_
     refine RK.val (guard_yes rfl rfl hg4) (op_load_ip_agg hT rfl rfl rfl (cs := FC (l.getD k ⟨0, 0, 0⟩)) rfl rfl) ?_
     refine RK.val (guard_yes rfl rfl hg4) (Eff.call0 (r8_Disc _ _ _ lz lz lz)) ?_
     refine RK.val (guard_yes rfl rfl hg4) (op_load_agg hT rfl rfl rfl rfl (cs := [_, _, _, _, _, _]) rfl rfl) ?_
     refine RK.val (guard_yes rfl rfl hg4) (Eff.call0 (r8_Disc _ _ _ lz lz lz)) ?_
     refine RK.val (guard_yes rfl rfl hg4) (Eff.call0 (r_Same _ _)) ?_
     refine RK.V (op_pick_t rfl hg4 (rfl : _ = AV.p (.c _))) ?_
     refine RK.M rfl ?_
     refine RK.split (t := 54) rfl (fun hg5 => ?_) (fun hg5 => ?_)
     ·refine RK.val (guard_yes rfl rfl hg5) (op_load_agg hT rfl rfl rfl rfl (cs := [_, _, _, _, _, _]) rfl rfl) ?_
      refine RK.val (guard_yes rfl rfl hg5) (op_load_agg hT rfl rfl rfl rfl (cs := [_, _, _, _, _, _]) rfl rfl) ?_
      refine RK.val (guard_yes rfl rfl hg5) (Eff.call0 (r8_Equal _ _ _ _ _ _)) ?_
      refine RK.V (op_pick_t rfl hg5 (rfl : _ = AV.p (.c _))) ?_
      refine RK.D ?_
      refine AWp_cond rfl (fun hb6 => ?_) (fun hb6 => ?_)
      ·refine AWp_region hP ?_
       refine RK.V (op_move (rfl : _ = AV.vec _)) ?_
       refine RK.M rfl ?_
       refine RK.M rfl ?_
       refine RK.V (op_indexF hT rfl rfl rfl rfl rfl rfl (by omega)) ?_
       refine RK.V (op_load_ip_agg hT rfl rfl rfl (cs := FC (l.getD k ⟨0, 0, 0⟩)) rfl rfl) ?_
       refine RK.V (op_bslice hT rfl rfl rfl (es := [_, _, _, _, _, _]) rfl rfl rfl) ?_
       refine RK.app guard_none (op_appendF hT rfl rfl rfl rfl rfl rfl rfl (f := (l.getD k ⟨0, 0, 0⟩)) rfl (by have := rtK_len (f := f) (l := l) (k := k); omega) (by decide)) ?_
       refine RK.V (op_assign (rfl : _ = AV.vec _)) ?_
       refine RK.D ?_
       refine AWp_rn 65 1000 rfl rfl rfl ?_
       refine AWp_region hP ?_
       refine RK.M rfl ?_
       refine RK.V (op_add rfl rfl (by first | exact IntWalk.i64_in _ (by omega) | rfl)) ?_
       refine RK.As rfl ?_
       refine RK.D ?_
       refine ⟨k + 1, by omega, by omega, le_stL ⟨.refl _, .refl _, .refl _, .refl _, .refl _, Sub.int (by omega), trivial⟩ ⟨rfl, rfl, rfl, Eq.trans rfl (congrArg (fun x => some (FB 53 x)) (rtK_yes hb3_ (rtB_4 hg4 hg5 hb6))), trivial⟩⟩
      ·refine AWp_skip ?_
       refine AWp_region hP ?_
       refine RK.M rfl ?_
       refine RK.V (op_add rfl rfl (by first | exact IntWalk.i64_in _ (by omega) | rfl)) ?_
       refine RK.As rfl ?_
       refine RK.D ?_
       refine ⟨k + 1, by omega, by omega, le_stL ⟨.refl _, .refl _, .refl _, .refl _, .refl _, Sub.int (by omega), trivial⟩ ⟨rfl, rfl, rfl, Eq.trans rfl (congrArg (fun x => some (FB 53 x)) (rtK_no hb3_ (rtB_3 hg4 hb6))), trivial⟩⟩
     ·refine RK.skip (guard_no rfl rfl hg5) ?_
      refine RK.skip (guard_no rfl rfl hg5) ?_
      refine RK.skip (guard_no rfl rfl hg5) ?_
      refine RK.V (op_pick_f rfl hg5 (rfl : _ = AV.p (.c _))) ?_
      refine RK.D ?_
      refine AWp_cond_false rfl rfl ?_
      refine AWp_skip ?_
      refine AWp_region hP ?_
      refine RK.M rfl ?_
      refine RK.V (op_add rfl rfl (by first | exact IntWalk.i64_in _ (by omega) | rfl)) ?_
      refine RK.As rfl ?_
      refine RK.D ?_
      refine ⟨k + 1, by omega, by omega, le_stL ⟨.refl _, .refl _, .refl _, .refl _, .refl _, Sub.int (by omega), trivial⟩ ⟨rfl, rfl, rfl, Eq.trans rfl (congrArg (fun x => some (FB 53 x)) (rtK_no hb3_ (rtB_2 hg5))), trivial⟩⟩
    ·have hg4_ := bF hg4
     refine RK.skip (guard_no rfl rfl hg4) ?_
     refine RK.skip (guard_no rfl rfl hg4) ?_
     refine RK.skip (guard_no rfl rfl hg4) ?_
     refine RK.skip (guard_no rfl rfl hg4) ?_
     refine RK.skip (guard_no rfl rfl hg4) ?_
     refine RK.skip (guard_no rfl rfl hg4) ?_
     refine RK.skip (guard_no rfl rfl hg4) ?_
     refine RK.skip (guard_no rfl rfl hg4) ?_
     refine RK.V (op_pick_f rfl hg4 (rfl : _ = AV.p (.c _))) ?_
     refine RK.M rfl ?_
     refine RK.skip (guard_no rfl rfl rfl) ?_
     refine RK.skip (guard_no rfl rfl rfl) ?_
     refine RK.skip (guard_no rfl rfl rfl) ?_
     refine RK.V (op_pick_f rfl rfl (rfl : _ = AV.p (.c _))) ?_
     refine RK.D ?_
     refine AWp_cond_false rfl rfl ?_
     refine AWp_skip ?_
     refine AWp_region hP ?_
     refine RK.M rfl ?_
     refine RK.V (op_add rfl rfl (by first | exact IntWalk.i64_in _ (by omega) | rfl)) ?_
     refine RK.As rfl ?_
     refine RK.D ?_
     refine ⟨k + 1, by omega, by omega, le_stL ⟨.refl _, .refl _, .refl _, .refl _, .refl _, Sub.int (by omega), trivial⟩ ⟨rfl, rfl, rfl, Eq.trans rfl (congrArg (fun x => some (FB 53 x)) (rtK_no hb3_ (rtB_1 hg4))), trivial⟩⟩
   ·have hb3_ := of_decide_eq_false hb3
    refine AWp_exit ?_
    refine AWp_freezeF (t := 7) rfl rfl ?_
    refine AWp_sr hP ?_
    refine RK.M rfl ?_
    refine RK.V (op_build_st hT rfl rfl rfl (es := [_, _]) rfl) ?_
    refine RK.S hT rfl rfl rfl rfl rfl rfl rfl ?_
    refine RK.D ?_
    refine AWp_ret ?_
    refine ends_one rfl (.inr rfl) (res_cell_agg hT rfl rfl rfl rfl (cs := [_, _]) rfl rfl) ?_ O_ends
    have e := rts_3 h0 hb2_
    exact Sub.of_eq (by rw [e.1, e.2, rtK_end hb3_])
theorem l_product (f g : Fm) (hfa : L 6 f.a) (hfb : L 6 f.b) (hfc : L 6 f.c) (hga : L 6 g.a) (hgb : L 6 g.b) (hgc : L 6 g.c) :
  Call0 Tryz.prog 46 [FA f.a f.b f.c, FA g.a g.b g.c] (.p (.a (FL (cmV f g).a (cmV f g).b (cmV f g).c ++ [.v (.int .i64 (cmE f g))]))) := by
 refine callM_of (np := 0) Tryz.func46 (by kernel_rfl) rfl rfl (Nat.le_of_ble_eq_true rfl) (fun m h => absurd rfl h) (fun m h => absurd rfl h) rfl ?_
 refine AWp_sr hP ?_
 refine RK.alc guard_none (op_box rfl rfl) ?_
 refine RK.alc guard_none (op_box rfl rfl) ?_
 refine RK.alc guard_none (op_alloc hT rfl rfl) ?_
 refine RK.D ?_
 refine AWp_sr hP ?_
 refine RK.G6 hT rfl rfl rfl rfl rfl rfl ?_
 refine RK.G6 hT rfl rfl rfl rfl rfl rfl ?_
 refine RK.V (Eff.call0 (co_Compose _ _ hfa hfb hfc hga hgb hgc)) ?_
 refine RK.V (op_move (rfl : _ = AV.t _)) ?_
 refine RK.V (op_extract rfl (v := .a _) rfl) ?_
 refine RK.V (op_extract rfl (v := .c _) rfl) ?_
 refine RK.alc guard_none (op_alloc hT rfl rfl) ?_
 refine RK.S hT rfl rfl rfl rfl rfl rfl rfl ?_
 refine RK.As rfl ?_
 refine RK.D ?_
 refine AWp_sr hP ?_
 refine RK.G6 hT rfl rfl rfl rfl rfl rfl ?_
 refine RK.M rfl ?_
 refine RK.V (op_build_st hT rfl rfl rfl (es := [_, _, _, _, _, _, _]) rfl) ?_
 refine RK.S hT rfl rfl rfl rfl rfl rfl rfl ?_
 refine RK.D ?_
 refine AWp_ret ?_
 refine ends_one rfl (.inr rfl) (res_cell_agg hT rfl rfl rfl rfl (cs := [_, _, _, _, _, _, _]) rfl rfl) ?_ O_ends
 exact .refl _
theorem l_power (f : Fm) (n : Int) (hfa : L 6 f.a) (hfb : L 6 f.b) (hfc : L 6 f.c) (hn : L 20 n) (hD : rfE f = 0 → n = 0 ∨ -1000000000000000000 ≤ (dsc f.a f.b f.c)) :
  Call0 Tryz.prog 47 [FA f.a f.b f.c, I n] (.p (.a (FL (pwV f n).a (pwV f n).b (pwV f n).c ++ [.v (.int .i64 (rfE f))]))) := by
 refine callM_of (np := 0) Tryz.func47 (by kernel_rfl) rfl rfl (Nat.le_of_ble_eq_true rfl) (fun m h => absurd rfl h) (fun m h => absurd rfl h) rfl ?_
 refine AWp_sr hP ?_
 refine RK.alc guard_none (op_box rfl rfl) ?_
 refine RK.alc guard_none (op_box rfl rfl) ?_
 refine RK.alc guard_none (op_alloc hT rfl rfl) ?_
 refine RK.D ?_
 refine AWp_sr hP ?_
 refine RK.G6 hT rfl rfl rfl rfl rfl rfl ?_
 refine RK.G2 hT rfl rfl rfl rfl rfl rfl ?_
 refine RK.V (Eff.call0 (co_Power _ _ hfa hfb hfc hn hD)) ?_
 refine RK.V (op_move (rfl : _ = AV.t _)) ?_
 refine RK.V (op_extract rfl (v := .a _) rfl) ?_
 refine RK.V (op_extract rfl (v := .c _) rfl) ?_
 refine RK.alc guard_none (op_alloc hT rfl rfl) ?_
 refine RK.S hT rfl rfl rfl rfl rfl rfl rfl ?_
 refine RK.As rfl ?_
 refine RK.D ?_
 refine AWp_sr hP ?_
 refine RK.G6 hT rfl rfl rfl rfl rfl rfl ?_
 refine RK.M rfl ?_
 refine RK.V (op_build_st hT rfl rfl rfl (es := [_, _, _, _, _, _, _]) rfl) ?_
 refine RK.S hT rfl rfl rfl rfl rfl rfl rfl ?_
 refine RK.D ?_
 refine AWp_ret ?_
 refine ends_one rfl (.inr rfl) (res_cell_agg hT rfl rfl rfl rfl (cs := [_, _, _, _, _, _, _]) rfl rfl) ?_ O_ends
 exact .refl _
end Go.Proofs.YtpaifigafaijpaaGreatDoor
end

section
/- chapter 9: roots -/
namespace Go.Proofs.YtpaifigafaijpaaGreatDoor
open Go Go.AM
set_option maxRecDepth 100000
set_option maxHeartbeats 1000000
theorem sl_IndexFunc0 (F : FuncId) (caps : List (List DV)) (p : Fm → Bool) (l : List Fm) (hl : (l.length : Int) ≤ 1000000) (hc : ∀ g, g ∈ l → Call0 Tryz.prog F (.p (.a (FC g)) :: caps.map .ip) (B (p g))) :
  CallM Tryz.prog 175 [.vec 0, .fn F caps] (upd O 0 (some (FB 53 l))) (Z (fiV p l)) (upd O 0 (some (FB 53 l))) := by
 refine callM_of (np := 1) Tryz.func175 (by kernel_rfl) rfl rfl (Nat.le_of_ble_eq_true rfl) upd1_lt upd1_dom rfl ?_
 refine AWp_sr hP ?_
 refine RK.As rfl ?_
 refine RK.D ?_
 refine AWp_seq ?_
 refine AWp_sr hP ?_
 refine RK.V (op_move (rfl : _ = AV.vec _)) ?_
 refine RK.V (op_len_vecF hT rfl rfl rfl rfl) ?_
 refine RK.M rfl ?_
 refine RK.D ?_
 refine AWp_block ?_
 refine AWp_loop (ι := Nat) (fun k => stL [(0, .vec 0), (1, .fn F caps), (7, Z (l.length : Int)), (8, Z (k : Int))] [(0, FB 53 l)]) (fun k => k ≤ l.length ∧ k ≤ l.findIdx p) (fun k => l.length - k) 0 ⟨Nat.zero_le _, Nat.zero_le _⟩ (le_stL ⟨.refl _, .refl _, .refl _, .refl _, trivial⟩ ⟨rfl, trivial⟩) ?_
 rintro k ⟨hk1, hk2⟩
 refine AWp_sr hP ?_
 refine RK.V (op_lss rfl rfl) ?_
 refine RK.D ?_
 refine AWp_seq ?_
 refine AWp_cond rfl (fun hb1 => ?_) (fun hb1 => ?_)
 ·have hb1_ := of_decide_eq_true hb1
  refine AWp_skip ?_
  refine AWp_seq ?_
  refine AWp_block ?_
  refine AWp_sr hP ?_
  refine RK.M rfl ?_
  refine RK.As rfl ?_
  refine RK.D ?_
  refine AWp_sr hP ?_
  refine RK.V (op_move (rfl : _ = AV.fn _ _)) ?_
  refine RK.V (op_move (rfl : _ = AV.vec _)) ?_
  refine RK.M rfl ?_
  refine RK.V (op_index_vecF hT (n := k) rfl rfl rfl rfl rfl rfl rfl (by omega)) ?_
  refine RK.V (op_load_vecF hT (n := k) rfl rfl rfl rfl rfl (by omega)) ?_
  refine RK.V (Eff.callC rfl (hc (l.getD k ⟨0, 0, 0⟩) (getD_mem (by omega)))) ?_
  refine RK.D ?_
  refine AWp_cond rfl (fun hb2 => ?_) (fun hb2 => ?_)
  ·refine AWp_sr hP ?_
   refine RK.M rfl ?_
   refine RK.As rfl ?_
   refine RK.D ?_
   refine AWp_ret ?_
   refine ends_one rfl (.inr rfl) (res_tmp rfl) ?_ (own_end1 ?_)
   exact Sub.int (fi_yes hk2 hb1_ hb2).symm
   exact rfl
  ·refine AWp_skip ?_
   refine AWp_region hP ?_
   refine RK.V (op_add rfl rfl (by first | exact IntWalk.i64_in _ (by omega) | rfl)) ?_
   refine RK.M rfl ?_
   refine RK.D ?_
   have hn2 := fi_no hk2 hb1_ hb2
   refine ⟨k + 1, ⟨by omega, hn2⟩, by omega, le_stL ⟨.refl _, .refl _, .refl _, Sub.int (by omega), trivial⟩ ⟨rfl, trivial⟩⟩
 ·have hb1_ := of_decide_eq_false hb1
  refine AWp_exit ?_
  refine AWp_sr hP ?_
  refine RK.As rfl ?_
  refine RK.D ?_
  refine AWp_ret ?_
  refine ends_one rfl (.inr rfl) (res_tmp rfl) ?_ (own_end1 ?_)
  exact Sub.int (fi_end hk2 hb1_).symm
  exact rfl
set_option maxHeartbeats 4000000 in
theorem sl_DeleteFunc0 (F : FuncId) (caps : List (List DV)) (p : Fm → Bool) (l : List Fm) (hl : (l.length : Int) ≤ 1000000) (hc : ∀ g, g ∈ l → Call0 Tryz.prog F (.p (.a (FC g)) :: caps.map .ip) (B (p g))) :
  CallM Tryz.prog 124 [.vec 0, .fn F caps] (upd O 0 (some (FB 53 l))) (.p (.c (FS (l.filter fun g => !p g)))) (O) := by
 refine callM_of (np := 1) Tryz.func124 (by kernel_rfl) rfl rfl (Nat.le_of_ble_eq_true rfl) upd1_lt (fun m h => absurd rfl h) rfl ?_
 refine AWp_sr hP ?_
 refine RK.As rfl ?_
 refine RK.D ?_
 refine AWp_sr hP ?_
 refine RK.V (op_move (rfl : _ = AV.vec _)) ?_
 refine RK.V (op_move (rfl : _ = AV.fn _ _)) ?_
 refine RK.mut guard_none (Eff.call (rd := [0]) (sl_IndexFunc0 F caps p l hl hc) (own1 rfl) upd1_mem) ?_
 refine RK.As rfl ?_
 refine RK.D ?_
 refine AWp_seq ?_
 refine AWp_sr hP ?_
 refine RK.M rfl ?_
 refine RK.V (op_eql rfl rfl) ?_
 refine RK.D ?_
 refine AWp_cond rfl (fun hb1 => ?_) (fun hb1 => ?_)
 ·have hb1_ := bT hb1
  refine AWp_freezeF (t := 0) rfl rfl ?_
  refine AWp_sr hP ?_
  refine RK.M rfl ?_
  refine RK.As rfl ?_
  refine RK.D ?_
  refine AWp_ret ?_
  refine ends_one rfl (.inr rfl) (res_tmp rfl) ?_ O_ends
  exact Sub.of_eq (by rw [fi_none hb1_])
 ·have hb1_ := bF hb1
  refine (fi_some hb1_).elim (fun i0 hh => ?_)
  have e1 := hh.1
  have e2 := hh.2.1
  refine AWp_skip ?_
  refine AWp_seq ?_
  refine AWp_sr hP ?_
  refine RK.M rfl ?_
  refine RK.V (op_add rfl rfl (by first | exact IntWalk.i64_in _ (by omega) | rfl)) ?_
  refine RK.As rfl ?_
  refine RK.D ?_
  refine AWp_block ?_
  refine AWp_loop (ι := Nat × Nat × List Fm) (fun q => stL [(0, .vec 0), (1, .fn F caps), (5, Z (q.1 : Int)), (6, Z (q.2.1 : Int))] [(0, FB 53 q.2.2)]) (fun q => DlI p l q.1 q.2.1 q.2.2) (fun q => l.length - q.2.1) (i0, i0 + 1, l) (DlI.start e2 hh.2.2.1 hh.2.2.2) (le_stL ⟨.refl _, .refl _, Sub.int e1, Sub.int (by rw [e1]; simp only; omega), trivial⟩ ⟨rfl, trivial⟩) ?_
  rintro q hI
  refine AWp_seq ?_
  refine AWp_sr hP ?_
  refine RK.M rfl ?_
  refine RK.V (op_move (rfl : _ = AV.vec _)) ?_
  refine RK.V (op_len_vecF hT rfl rfl rfl rfl) ?_
  refine RK.V (op_lss rfl rfl) ?_
  refine RK.D ?_
  refine AWp_cond rfl (fun hb2 => ?_) (fun hb2 => ?_)
  ·have hb2_ := of_decide_eq_true hb2
   have hsl := hI.sl
   have hjl : (q.2.1 : Int) < l.length := by omega
   have hij := hI.ij
   refine AWp_skip ?_
   refine AWp_seq ?_
   refine AWp_block ?_
   refine AWp_sr hP ?_
   refine RK.V (op_move (rfl : _ = AV.vec _)) ?_
   refine RK.M rfl ?_
   refine RK.V (op_index_vecF hT (n := q.2.1) rfl rfl rfl rfl rfl rfl rfl (by omega)) ?_
   refine RK.V (op_load_vecF hT (n := q.2.1) rfl rfl rfl rfl rfl (by omega)) ?_
   refine RK.alc guard_none (op_alloc hT rfl rfl) ?_
   refine RK.S hT rfl rfl rfl rfl rfl rfl rfl ?_
   refine RK.D ?_
   refine AWp_sr hP ?_
   refine RK.V (op_move (rfl : _ = AV.fn _ _)) ?_
   refine RK.G6 hT rfl rfl rfl rfl rfl rfl ?_
   refine RK.V (Eff.callC rfl (hc (q.2.2.getD q.2.1 ⟨0, 0, 0⟩) (by rw [hI.get]; exact getD_mem hjl))) ?_
   refine RK.V (op_unot rfl) ?_
   refine RK.D ?_
   refine AWp_cond rfl (fun hb3 => ?_) (fun hb3 => ?_)
   ·have hb3_ := (notT hb3)
    refine AWp_sr hP ?_
    refine RK.V (op_move (rfl : _ = AV.vec _)) ?_
    refine RK.M rfl ?_
    refine RK.G6 hT rfl rfl rfl rfl rfl rfl ?_
    refine RK.V (op_index_vecF hT (n := q.1) rfl rfl rfl rfl rfl rfl rfl (by omega)) ?_
    refine RK.sto guard_none (op_store_vecF hT (n := q.1) (g := (q.2.2.getD q.2.1 ⟨0, 0, 0⟩)) rfl rfl rfl rfl rfl (by omega)) ?_
    refine RK.D ?_
    refine AWp_region hP ?_
    refine RK.M rfl ?_
    refine RK.V (op_add rfl rfl (by first | exact IntWalk.i64_in _ (by omega) | rfl)) ?_
    refine RK.As rfl ?_
    refine RK.D ?_
    refine AWp_region hP ?_
    refine RK.M rfl ?_
    refine RK.V (op_add rfl rfl (by first | exact IntWalk.i64_in _ (by omega) | rfl)) ?_
    refine RK.As rfl ?_
    refine RK.D ?_
    have hy := hI.yes hjl (by rw [← hI.get]; exact notT hb3)
    refine ⟨(q.1 + 1, q.2.1 + 1, q.2.2.set q.1 (l.getD q.2.1 ⟨0, 0, 0⟩)), hy, by simp only; omega, le_stL ⟨.refl _, .refl _, Sub.int (by simp only; omega), Sub.int (by simp only; omega), trivial⟩ ⟨Eq.trans rfl (congrArg (fun x => some (FB 53 (q.2.2.set q.1 x))) hI.get), trivial⟩⟩
   ·have hb3_ := (notF hb3)
    refine AWp_skip ?_
    refine AWp_region hP ?_
    refine RK.M rfl ?_
    refine RK.V (op_add rfl rfl (by first | exact IntWalk.i64_in _ (by omega) | rfl)) ?_
    refine RK.As rfl ?_
    refine RK.D ?_
    have hy := hI.no hjl (by rw [← hI.get]; exact notF hb3)
    refine ⟨(q.1, q.2.1 + 1, q.2.2), hy, by simp only; omega, le_stL ⟨.refl _, .refl _, .refl _, Sub.int (by simp only; omega), trivial⟩ ⟨rfl, trivial⟩⟩
  ·have hb2_ := of_decide_eq_false hb2
   have hsl := hI.sl
   have fin1 := (hI.fin (by omega)).1
   have fin2 := (hI.fin (by omega)).2
   refine AWp_exit ?_
   refine AWp_seq ?_
   refine AWp_clearF hT (m := 0) rfl rfl rfl rfl rfl rfl rfl fin2 rfl rfl rfl (fun zs hz => ?_)
   refine AWp_freeze (t := 0) (n := q.2.2.length) rfl rfl rfl (zs_len hz fin2) (Nat.zero_lt_succ 5) ?_
   refine AWp_sr hP ?_
   refine RK.M rfl ?_
   refine RK.M rfl ?_
   refine RK.V (op_slice_h hT rfl rfl rfl rfl (by rfl) rfl (zs_len hz fin2).symm ⟨by omega, by omega⟩ (zs_take fin2)) ?_
   refine RK.As rfl ?_
   refine RK.D ?_
   refine AWp_ret ?_
   refine ends_one rfl (.inr rfl) (res_tmp rfl) ?_ O_ends
   exact Sub.of_eq (dl_end fin2 fin1)
theorem sl_DeleteFunc (m : Nat) (F : FuncId) (caps : List (List DV)) (p : Fm → Bool) (l : List Fm) (hl : (l.length : Int) ≤ 1000000) (hc : ∀ g, g ∈ l → Call0 Tryz.prog F (.p (.a (FC g)) :: caps.map .ip) (B (p g))) : CallM Tryz.prog 124 [.vec m, .fn F caps] (upd O m (some (FB 53 l))) (.p (.c (FS (l.filter fun g => !p g)))) O := CallM.ren1O m (sl_DeleteFunc0 F caps p l hl hc) rfl rfl
theorem sl_Clone (l : List Fm) (hl : (l.length : Int) ≤ 1000000) (h0 : 0 < l.length) :
  CallV Tryz.prog 125 [.p (.c (FS l))] (FB 53 l) := by
 refine callV_of Tryz.func125 (by kernel_rfl) rfl rfl (Nat.le_of_ble_eq_true rfl) ?_
 refine AWp_sr hP ?_
 refine RK.As rfl ?_
 refine RK.D ?_
 refine AWp_seq ?_
 refine AWp_sr hP ?_
 refine RK.M rfl ?_
 refine RK.V (op_eqnilF hT rfl rfl rfl h0) ?_
 refine RK.D ?_
 refine AWp_cond_false rfl rfl ?_
 refine AWp_skip ?_
 refine AWp_sr hP ?_
 refine RK.alc guard_none (op_bslice_vec hT rfl rfl rfl (es := []) rfl rfl rfl) ?_
 refine RK.M rfl ?_
 refine RK.app guard_none (op_appendFS hT rfl rfl rfl rfl rfl rfl rfl rfl (by omega) (by decide)) ?_
 refine RK.V (op_assign (rfl : _ = AV.vec _)) ?_
 refine RK.D ?_
 refine AWp_ret ?_
 refine ⟨.inr rfl, _, _, rfl, rfl, ?_⟩
 exact rfl
set_option maxHeartbeats 4000000 in
theorem co_Roots1 (f g : Fm) (d : Int) (w : Fm) (hd : d = dsc f.a f.b f.c) (hw : w = f.rd) (hdl : L 40 d) (hga : L 6 g.a) (hgb : L 6 g.b) (hgc : L 6 g.c) :
  Call0 Tryz.prog 122 [FA g.a g.b g.c, .ip [zn d, zm d], .ip (FL w.a w.b w.c)] (B (!rtB f g)) := by
 have iga : LB g.a 6 := ⟨hga⟩
 have igb : LB g.b 6 := ⟨hgb⟩
 have igc : LB g.c 6 := ⟨hgc⟩
 have idl : LB d 40 := ⟨hdl⟩
 refine callM_of (np := 0) Tryz.func122 (by kernel_rfl) rfl rfl (Nat.le_of_ble_eq_true rfl) (fun m h => absurd rfl h) (fun m h => absurd rfl h) rfl ?_
 refine AWp_sr hP ?_
 refine RK.alc guard_none (op_box rfl rfl) ?_
 refine RK.As rfl ?_
 refine RK.D ?_
 refine AWp_sr hP ?_
 refine RK.G6 hT rfl rfl rfl rfl rfl rfl ?_
 refine RK.V (Eff.call0 (co_refused _ _ _ lz lz lz)) ?_
 refine RK.V (op_neq rfl rfl) ?_
 refine RK.M rfl ?_
 refine RK.split (t := 8) rfl (fun hg1 => ?_) (fun hg1 => ?_)
 ·have hg1_ := bneT hg1
  refine RK.skip (guard_no rfl rfl hg1) ?_
  refine RK.skip (guard_no rfl rfl hg1) ?_
  refine RK.skip (guard_no rfl rfl hg1) ?_
  refine RK.skip (guard_no rfl rfl hg1) ?_
  refine RK.skip (guard_no rfl rfl hg1) ?_
  refine RK.V (op_pick_t rfl hg1 (rfl : _ = AV.p (.c _))) ?_
  refine RK.M rfl ?_
  refine RK.skip (guard_no rfl rfl rfl) ?_
  refine RK.skip (guard_no rfl rfl rfl) ?_
  refine RK.skip (guard_no rfl rfl rfl) ?_
  refine RK.skip (guard_no rfl rfl rfl) ?_
  refine RK.skip (guard_no rfl rfl rfl) ?_
  refine RK.skip (guard_no rfl rfl rfl) ?_
  refine RK.V (op_pick_t rfl rfl (rfl : _ = AV.p (.c _))) ?_
  refine RK.As rfl ?_
  refine RK.D ?_
  refine AWp_ret ?_
  refine ends_one rfl (.inr rfl) (res_tmp rfl) ?_ O_ends
  exact Sub.bool (rtN_1 hg1_)
 ·have hg1_ := bneF hg1
  refine RK.val (guard_yes rfl rfl hg1) (op_load_agg hT rfl rfl rfl rfl (cs := [_, _, _, _, _, _]) rfl rfl) ?_
  refine RK.val (guard_yes rfl rfl hg1) (Eff.call0 (q_Disc _ _ _ lz lz lz)) ?_
  refine RK.val (guard_yes rfl rfl hg1) (op_load_ip_agg hT rfl rfl rfl (cs := [_, _]) rfl rfl) ?_
  refine RK.val (guard_yes rfl rfl hg1) (Eff.call0 (int_Cmp _ _)) ?_
  refine RK.val (guard_yes rfl rfl hg1) (op_neq rfl rfl) ?_
  refine RK.V (op_pick_f rfl hg1 (rfl : _ = AV.p (.c _))) ?_
  refine RK.M rfl ?_
  refine RK.split (t := 15) rfl (fun hg2 => ?_) (fun hg2 => ?_)
  ·have hg2_ := bneT hg2
   refine RK.skip (guard_no rfl rfl hg2) ?_
   refine RK.skip (guard_no rfl rfl hg2) ?_
   refine RK.skip (guard_no rfl rfl hg2) ?_
   refine RK.skip (guard_no rfl rfl hg2) ?_
   refine RK.skip (guard_no rfl rfl hg2) ?_
   refine RK.skip (guard_no rfl rfl hg2) ?_
   refine RK.V (op_pick_t rfl hg2 (rfl : _ = AV.p (.c _))) ?_
   refine RK.As rfl ?_
   refine RK.D ?_
   refine AWp_ret ?_
   refine ends_one rfl (.inr rfl) (res_tmp rfl) ?_ O_ends
   exact Sub.bool (rtN_2 hd hg2_)
  ·have hg2_ := bneF hg2
   refine RK.val (guard_yes rfl rfl hg2) (op_load_agg hT rfl rfl rfl rfl (cs := [_, _, _, _, _, _]) rfl rfl) ?_
   refine RK.val (guard_yes rfl rfl hg2) (op_load_agg hT rfl rfl rfl rfl (cs := [_, _, _, _, _, _]) rfl rfl) ?_
   refine RK.val (guard_yes rfl rfl hg2) (Eff.call0 (co_product g g (rfE_cl hg1_) (rfE_cl hg1_) hga hgb hgc hga hgb hgc)) ?_
   refine RK.val (guard_yes rfl rfl hg2) (op_load_ip_agg hT rfl rfl rfl (cs := [_, _, _, _, _, _]) rfl rfl) ?_
   refine RK.val (guard_yes rfl rfl hg2) (Eff.call0 (co_equal _ _ _ _ _ _)) ?_
   refine RK.val (guard_yes rfl rfl hg2) (op_unot rfl) ?_
   refine RK.V (op_pick_f rfl hg2 (rfl : _ = AV.p (.c _))) ?_
   refine RK.As rfl ?_
   refine RK.D ?_
   refine AWp_ret ?_
   refine ends_one rfl (.inr rfl) (res_tmp rfl) ?_ O_ends
   exact Sub.bool (rtN_3 hd hw hg1_ hg2_)
set_option maxHeartbeats 4000000 in
theorem co_Roots (f : Fm) (l : List Fm) (hfa : L 6 f.a) (hfb : L 6 f.b) (hfc : L 6 f.c) (hl : ∀ g ∈ l, L 6 g.a ∧ L 6 g.b ∧ L 6 g.c) (hl2 : (l.length : Int) ≤ 1000000) (hl0 : 0 < l.length) :
  Call0 Tryz.prog 50 [FA f.a f.b f.c, .p (.c (FS l))] (.t [.c (FS (rtsL f l)), PE (rtsE f l)]) := by
 have ifa : LB f.a 6 := ⟨hfa⟩
 have ifb : LB f.b 6 := ⟨hfb⟩
 have ifc : LB f.c 6 := ⟨hfc⟩
 refine callM_of (np := 0) Tryz.func50 (by kernel_rfl) rfl rfl (Nat.le_of_ble_eq_true rfl) (fun m h => absurd rfl h) (fun m h => absurd rfl h) rfl ?_
 refine AWp_sr hP ?_
 refine RK.alc guard_none (op_box rfl rfl) ?_
 refine RK.As rfl ?_
 refine RK.As rfl ?_
 refine RK.D ?_
 refine AWp_seq ?_
 refine AWp_sr hP ?_
 refine RK.G6 hT rfl rfl rfl rfl rfl rfl ?_
 refine RK.V (Eff.call0 (co_refused _ _ _ lz lz lz)) ?_
 refine RK.As rfl ?_
 refine RK.D ?_
 refine AWp_sr hP ?_
 refine RK.M rfl ?_
 refine RK.V (op_neq rfl rfl) ?_
 refine RK.D ?_
 refine AWp_cond rfl (fun hb1 => ?_) (fun hb1 => ?_)
 ·have hb1_ := bneT hb1
  refine AWp_sr hP ?_
  refine RK.M rfl ?_
  refine RK.As rfl ?_
  refine RK.As rfl ?_
  refine RK.D ?_
  refine AWp_ret ?_
  refine ends_two rfl (.inr rfl) (res_tmp rfl) (res_tmp rfl) ?_ O_ends
  exact rts_sub (rts_1 hb1_)
 ·have hb1_ := bneF hb1
  have h0 : rfE f = 0 := hb1_
  refine AWp_skip ?_
  refine AWp_seq ?_
  refine AWp_sr hP ?_
  refine RK.M rfl ?_
  refine RK.V (op_len hT rfl rfl rfl (by rfl)) ?_
  refine RK.V (op_gtr rfl rfl) ?_
  refine RK.D ?_
  refine AWp_cond rfl (fun hb2 => ?_) (fun hb2 => ?_)
  ·have hb2_ := of_decide_eq_true hb2
   refine AWp_sr hP ?_
   refine RK.As rfl ?_
   refine RK.As rfl ?_
   refine RK.D ?_
   refine AWp_ret ?_
   refine ends_two rfl (.inr rfl) (res_tmp rfl) (res_tmp rfl) ?_ O_ends
   exact rts_sub (rts_2 h0 hb2_)
  ·have hb2_ := of_decide_eq_false hb2
   refine AWp_skip ?_
   refine AWp_sr hP ?_
   refine RK.G6 hT rfl rfl rfl rfl rfl rfl ?_
   refine RK.V (Eff.call0 (co_reduced _ _ _ lz lz lz)) ?_
   refine RK.G6 hT rfl rfl rfl rfl rfl rfl ?_
   refine RK.V (Eff.call0 (q_Disc _ _ _ lz lz lz)) ?_
   refine RK.alc guard_none (op_alloc hT rfl rfl) ?_
   refine RK.alc guard_none (op_alloc hT rfl rfl) ?_
   refine RK.S hT rfl rfl rfl rfl rfl rfl rfl ?_
   refine RK.S hT rfl rfl rfl rfl rfl rfl rfl ?_
   refine RK.D ?_
   refine AWp_freezeBox (t := 7) rfl rfl ?_
   refine AWp_freezeBox (t := 8) rfl rfl ?_
   refine AWp_sr hP ?_
   refine RK.V (op_makeFunc2 rfl rfl) ?_
   refine RK.V (op_assign (rfl : _ = AV.fn _ _)) ?_
   refine RK.D ?_
   refine AWp_sr hP ?_
   refine RK.M rfl ?_
   refine RK.alc guard_none (Eff.callV (sl_Clone l hl2 hl0)) ?_
   refine RK.V (op_move (rfl : _ = AV.fn _ _)) ?_
   refine RK.mut guard_none (Eff.call (rd := [24]) (sl_DeleteFunc 24 122 _ (fun g => !rtB f g) l hl2 (fun g hg => co_Roots1 f g (dsc f.a f.b f.c) (rdF f.a f.b f.c) rfl rfl lz (hl g hg).1 (hl g hg).2.1 (hl g hg).2.2)) (own1 rfl) upd1_mem) ?_
   refine RK.As rfl ?_
   refine RK.As rfl ?_
   refine RK.D ?_
   refine AWp_ret ?_
   refine ends_two rfl (.inr rfl) (res_tmp rfl) (res_tmp rfl) ?_ O_ends
   exact Sub.of_eq (rts_fin (rts_3 h0 hb2_))
end Go.Proofs.YtpaifigafaijpaaGreatDoor
end

section
/- square roots to a prime -/
namespace Go.Proofs.YtpaifigafaijpaaGreatDoor
open Go Go.AM
set_option maxRecDepth 100000
set_option maxHeartbeats 1000000
theorem m_half1 (a b c d w p : Int) (h0 : 0 < p) (ha : L 10 a) (hb : L 10 b) (hc : L 10 c) (hd : L 10 d) (hw : L 10 w) (hp : L 10 p) :
  Call0 Tryz.prog 248 [I a, I b, I c, I d, .ip [zn w, zm w], .ip [zn p, zm p]] (.t [PI (hmM w p (a, b) (c, d)).1, PI (hmM w p (a, b) (c, d)).2]) := by
 have ia : LB a 10 := ⟨ha⟩
 have ib : LB b 10 := ⟨hb⟩
 have ic : LB c 10 := ⟨hc⟩
 have id : LB d 10 := ⟨hd⟩
 have iw : LB w 10 := ⟨hw⟩
 have ip : LB p 10 := ⟨hp⟩
 refine callM_of (np := 0) Tryz.func248 (by kernel_rfl) rfl rfl (Nat.le_of_ble_eq_true rfl) (fun m h => absurd rfl h) (fun m h => absurd rfl h) rfl ?_
 refine AWp_sr hP ?_
 refine RK.alc guard_none (op_box rfl rfl) ?_
 refine RK.alc guard_none (op_box rfl rfl) ?_
 refine RK.alc guard_none (op_box rfl rfl) ?_
 refine RK.alc guard_none (op_box rfl rfl) ?_
 refine RK.alc guard_none (op_alloc hT rfl rfl) ?_
 refine RK.alc guard_none (op_alloc hT rfl rfl) ?_
 refine RK.D ?_
 refine AWp_sr hP ?_
 refine RK.G2 hT rfl rfl rfl rfl rfl rfl ?_
 refine RK.G2 hT rfl rfl rfl rfl rfl rfl ?_
 refine RK.V (Eff.call0 (int_Mul _ _ lz lz)) ?_
 refine RK.V (op_load_ip_agg hT rfl rfl rfl (cs := [_, _]) rfl rfl) ?_
 refine RK.G2 hT rfl rfl rfl rfl rfl rfl ?_
 refine RK.G2 hT rfl rfl rfl rfl rfl rfl ?_
 refine RK.V (Eff.call0 (int_Mul _ _ lz lz)) ?_
 refine RK.V (Eff.call0 (int_Mul _ _ lz lz)) ?_
 refine RK.V (Eff.call0 (int_Add _ _ lz lz)) ?_
 refine RK.V (op_load_ip_agg hT rfl rfl rfl (cs := [_, _]) rfl rfl) ?_
 refine RK.V (Eff.call0 (m_mod _ _ lz lz (by omega))) ?_
 refine RK.G2 hT rfl rfl rfl rfl rfl rfl ?_
 refine RK.G2 hT rfl rfl rfl rfl rfl rfl ?_
 refine RK.V (Eff.call0 (int_Mul _ _ lz lz)) ?_
 refine RK.G2 hT rfl rfl rfl rfl rfl rfl ?_
 refine RK.G2 hT rfl rfl rfl rfl rfl rfl ?_
 refine RK.V (Eff.call0 (int_Mul _ _ lz lz)) ?_
 refine RK.V (Eff.call0 (int_Add _ _ lz lz)) ?_
 refine RK.V (op_load_ip_agg hT rfl rfl rfl (cs := [_, _]) rfl rfl) ?_
 refine RK.V (Eff.call0 (m_mod _ _ lz lz (by omega))) ?_
 refine RK.S hT rfl rfl rfl rfl rfl rfl rfl ?_
 refine RK.S hT rfl rfl rfl rfl rfl rfl rfl ?_
 refine RK.D ?_
 refine AWp_ret ?_
 refine ends_two rfl (.inr rfl) (res_cell_agg hT rfl rfl rfl rfl (cs := [_, _]) rfl rfl) (res_cell_agg hT rfl rfl rfl rfl (cs := [_, _]) rfl rfl) ?_ O_ends
 exact .refl _
set_option maxHeartbeats 4000000 in
theorem m_half (t w p : Int) (h0 : 0 < p) (ht : L 10 t) (hw : L 10 w) (hp : L 10 p) :
  Call0 Tryz.prog 244 [I t, I w, I p] (I (hfV t w p)) := by
 have it : LB t 10 := ⟨ht⟩
 have iw : LB w 10 := ⟨hw⟩
 have ip : LB p 10 := ⟨hp⟩
 have iN : LB ((p + 1) / 2) 10 := ⟨L.of_le hp (by omega)⟩
 have hbl := blen_gen iN.le
 refine callM_of (np := 0) Tryz.func244 (by kernel_rfl) rfl rfl (Nat.le_of_ble_eq_true rfl) (fun m h => absurd rfl h) (fun m h => absurd rfl h) rfl ?_
 refine AWp_sr hP ?_
 refine RK.alc guard_none (op_box rfl rfl) ?_
 refine RK.alc guard_none (op_box rfl rfl) ?_
 refine RK.alc guard_none (op_box rfl rfl) ?_
 refine RK.alc guard_none (op_alloc hT rfl rfl) ?_
 refine RK.D ?_
 refine AWp_sr hP ?_
 refine RK.G2 hT rfl rfl rfl rfl rfl rfl ?_
 refine RK.V (Eff.call0 (m_of _ (by first | assumption | decide))) ?_
 refine RK.V (Eff.call0 (int_Add _ _ lz lz)) ?_
 refine RK.V (Eff.call0 (m_of _ (by first | assumption | decide))) ?_
 refine RK.V (Eff.call0 (m_div _ _ lz lz (by first | assumption | decide))) ?_
 refine RK.alc guard_none (op_alloc hT rfl rfl) ?_
 refine RK.S hT rfl rfl rfl rfl rfl rfl rfl ?_
 refine RK.D ?_
 refine AWp_sr hP ?_
 refine RK.V (Eff.call0 (m_of _ (by first | assumption | decide))) ?_
 refine RK.V (op_build_st hT rfl rfl rfl (es := [_, _]) rfl) ?_
 refine RK.alc guard_none (op_alloc hT rfl rfl) ?_
 refine RK.alc guard_none (op_alloc hT rfl rfl) ?_
 refine RK.S hT rfl rfl rfl rfl rfl rfl rfl ?_
 refine RK.S hT rfl rfl rfl rfl rfl rfl rfl ?_
 refine RK.D ?_
 refine AWp_sr hP ?_
 refine RK.G2 hT rfl rfl rfl rfl rfl rfl ?_
 refine RK.V (Eff.call0 (m_of _ (by first | assumption | decide))) ?_
 refine RK.alc guard_none (op_alloc hT rfl rfl) ?_
 refine RK.alc guard_none (op_alloc hT rfl rfl) ?_
 refine RK.S hT rfl rfl rfl rfl rfl rfl rfl ?_
 refine RK.S hT rfl rfl rfl rfl rfl rfl rfl ?_
 refine RK.D ?_
 refine AWp_freezeBox (t := 4) rfl rfl ?_
 refine AWp_freezeBox (t := 5) rfl rfl ?_
 refine AWp_sr hP ?_
 refine RK.V (op_makeFunc2 rfl rfl) ?_
 refine RK.V (op_assign (rfl : _ = AV.fn _ _)) ?_
 refine RK.D ?_
 refine AWp_seq ?_
 refine AWp_sr hP ?_
 refine RK.G2 hT rfl rfl rfl rfl rfl rfl ?_
 refine RK.V (Eff.call0 (int_Bits _)) ?_
 refine RK.M rfl ?_
 refine RK.D ?_
 refine AWp_block ?_
 refine AWp_loop (ι := Nat) (fun i => stL [(6, .loc 6 0), (7, .loc 7 0), (8, .loc 8 0), (9, .loc 9 0), (10, .loc 10 0), (11, .loc 11 0), (12, .fn 248 [[zn w, zm w], [zn p, zm p]]), (25, Z (blen ((p + 1) / 2).natAbs : Nat)), (26, Z (i : Int))] [(6, ⟨false, 1, 36, [zn (0), zm (0)]⟩), (7, ⟨false, 1, 36, [zn (((p + 1) / 2)), zm (((p + 1) / 2))]⟩), (8, ⟨false, 1, 36, [zn ((hfS w p ((p + 1) / 2).natAbs t (i)).1.1), zm ((hfS w p ((p + 1) / 2).natAbs t (i)).1.1)]⟩), (9, ⟨false, 1, 36, [zn ((hfS w p ((p + 1) / 2).natAbs t (i)).1.2), zm ((hfS w p ((p + 1) / 2).natAbs t (i)).1.2)]⟩), (10, ⟨false, 1, 36, [zn ((hfS w p ((p + 1) / 2).natAbs t (i)).2.1), zm ((hfS w p ((p + 1) / 2).natAbs t (i)).2.1)]⟩), (11, ⟨false, 1, 36, [zn ((hfS w p ((p + 1) / 2).natAbs t (i)).2.2), zm ((hfS w p ((p + 1) / 2).natAbs t (i)).2.2)]⟩)]) (fun i => i ≤ blen ((p + 1) / 2).natAbs) (fun i => blen ((p + 1) / 2).natAbs - i) 0 (Nat.zero_le _) (le_stL ⟨.refl _, .refl _, .refl _, .refl _, .refl _, .refl _, .refl _, .refl _, .refl _, trivial⟩ ⟨rfl, rfl, rfl, rfl, rfl, rfl, trivial⟩) ?_
 intro i hib
 have hL := hfS_L (w := w) (n := ((p + 1) / 2).natAbs) hp h0 ht i
 have q1 := hL.1.1
 have q2 := hL.1.2
 have q3 := hL.2.1
 have q4 := hL.2.2
 refine AWp_sr hP ?_
 refine RK.V (op_lss rfl rfl) ?_
 refine RK.D ?_
 refine AWp_seq ?_
 refine AWp_cond rfl (fun hb1 => ?_) (fun hb1 => ?_)
 ·have hb1_ := of_decide_eq_true hb1
  have hi : i < blen ((p + 1) / 2).natAbs := by omega
  have hlen := wl_len_bit hi
  refine AWp_skip ?_
  refine AWp_seq ?_
  refine AWp_block ?_
  refine AWp_sr hP ?_
  refine RK.M rfl ?_
  refine RK.As rfl ?_
  refine RK.D ?_
  refine AWp_seq_cut (ι := Unit) (fun _ => stL [(6, .loc 6 0), (7, .loc 7 0), (8, .loc 8 0), (9, .loc 9 0), (10, .loc 10 0), (11, .loc 11 0), (12, .fn 248 [[zn w, zm w], [zn p, zm p]]), (25, Z (blen ((p + 1) / 2).natAbs : Nat)), (26, Z (i : Int))] [(6, ⟨false, 1, 36, [zn (0), zm (0)]⟩), (7, ⟨false, 1, 36, [zn (((p + 1) / 2)), zm (((p + 1) / 2))]⟩), (8, ⟨false, 1, 36, [zn ((hfS w p ((p + 1) / 2).natAbs t (i + 1)).1.1), zm ((hfS w p ((p + 1) / 2).natAbs t (i + 1)).1.1)]⟩), (9, ⟨false, 1, 36, [zn ((hfS w p ((p + 1) / 2).natAbs t (i + 1)).1.2), zm ((hfS w p ((p + 1) / 2).natAbs t (i + 1)).1.2)]⟩), (10, ⟨false, 1, 36, [zn ((hfS w p ((p + 1) / 2).natAbs t (i)).2.1), zm ((hfS w p ((p + 1) / 2).natAbs t (i)).2.1)]⟩), (11, ⟨false, 1, 36, [zn ((hfS w p ((p + 1) / 2).natAbs t (i)).2.2), zm ((hfS w p ((p + 1) / 2).natAbs t (i)).2.2)]⟩)]) (fun _ => True) ?_ ?_
  ·refine AWp_sr hP ?_
   refine RK.F hT rfl rfl rfl rfl rfl rfl ?_
   refine RK.V (op_load_one hT rfl rfl rfl rfl (by first | rfl | exact vget (by omega))) ?_
   refine RK.M rfl ?_
   refine RK.V (op_quo rfl rfl (by decide) (c := ((i / 32 : Nat) : Int)) (by rw [Int.tdiv_eq_ediv_of_nonneg (by omega), IntWalk.i64_in _ (by omega)]; omega)) ?_
   refine RK.V (op_index_WN (n := i / 32) hT rfl rfl rfl rfl rfl rfl hlen) ?_
   refine RK.V (op_load_ip_one hT rfl rfl rfl (wget hlen)) ?_
   refine RK.M rfl ?_
   refine RK.V (op_rem rfl rfl (by decide) (c := ((i % 32 : Nat) : Int)) (by rw [Int.tmod_eq_emod_of_nonneg (by omega)]; omega)) ?_
   refine RK.V (op_shrN (j := i % 32) (m := (wl ((p + 1) / 2).natAbs).getD (i / 32) 0) rfl rfl (by have := Nat.mod_lt i (show 32 > 0 by decide); show _ ≤ 32; omega)) ?_
   refine RK.V (op_andN (m := (wl ((p + 1) / 2).natAbs).getD (i / 32) 0 / 2 ^ (i % 32)) (n := 1) rfl rfl rfl (lt32 (dig_lt _ _ _)) (by decide)) ?_
   refine RK.V (op_eql rfl rfl) ?_
   refine RK.D ?_
   refine AWp_cond rfl (fun hb2 => ?_) (fun hb2 => ?_)
   ·have hb2_ := bT hb2
    refine AWp_region hP ?_
    refine RK.V (op_move (rfl : _ = AV.fn _ _)) ?_
    refine RK.G2 hT rfl rfl rfl rfl rfl rfl ?_
    refine RK.G2 hT rfl rfl rfl rfl rfl rfl ?_
    refine RK.G2 hT rfl rfl rfl rfl rfl rfl ?_
    refine RK.G2 hT rfl rfl rfl rfl rfl rfl ?_
    refine RK.V (Eff.callC rfl (m_half1 _ _ _ _ w p h0 q1 q2 q3 q4 hw hp)) ?_
    refine RK.V (op_move (rfl : _ = AV.t _)) ?_
    refine RK.V (op_extract rfl (v := .a _) rfl) ?_
    refine RK.V (op_extract rfl (v := .a _) rfl) ?_
    refine RK.S hT rfl rfl rfl rfl rfl rfl rfl ?_
    refine RK.S hT rfl rfl rfl rfl rfl rfl rfl ?_
    refine RK.D ?_
    refine ⟨(), trivial, le_stL ⟨.refl _, .refl _, .refl _, .refl _, .refl _, .refl _, .refl _, .refl _, .refl _, trivial⟩ ⟨rfl, rfl, Eq.trans rfl (congrArg (fun x : Int => some (⟨false, 1, 36, [zn x, zm x]⟩ : Blk)) (congrArg Prod.fst (hf_yes (bit_yes hb2)))), Eq.trans rfl (congrArg (fun x : Int => some (⟨false, 1, 36, [zn x, zm x]⟩ : Blk)) (congrArg Prod.snd (hf_yes (bit_yes hb2)))), rfl, rfl, trivial⟩⟩
   ·have hb2_ := bF hb2
    refine AWp_skip ?_
    refine ⟨(), trivial, le_stL ⟨.refl _, .refl _, .refl _, .refl _, .refl _, .refl _, .refl _, .refl _, .refl _, trivial⟩ ⟨rfl, rfl, Eq.trans rfl (congrArg (fun x : Int => some (⟨false, 1, 36, [zn x, zm x]⟩ : Blk)) (congrArg Prod.fst (hf_no (bit_no hb2)))), Eq.trans rfl (congrArg (fun x : Int => some (⟨false, 1, 36, [zn x, zm x]⟩ : Blk)) (congrArg Prod.snd (hf_no (bit_no hb2)))), rfl, rfl, trivial⟩⟩
  intro _ _
  refine AWp_region hP ?_
  refine RK.V (op_move (rfl : _ = AV.fn _ _)) ?_
  refine RK.G2 hT rfl rfl rfl rfl rfl rfl ?_
  refine RK.G2 hT rfl rfl rfl rfl rfl rfl ?_
  refine RK.G2 hT rfl rfl rfl rfl rfl rfl ?_
  refine RK.G2 hT rfl rfl rfl rfl rfl rfl ?_
  refine RK.V (Eff.callC rfl (m_half1 _ _ _ _ w p h0 q3 q4 q3 q4 hw hp)) ?_
  refine RK.V (op_move (rfl : _ = AV.t _)) ?_
  refine RK.V (op_extract rfl (v := .a _) rfl) ?_
  refine RK.V (op_extract rfl (v := .a _) rfl) ?_
  refine RK.S hT rfl rfl rfl rfl rfl rfl rfl ?_
  refine RK.S hT rfl rfl rfl rfl rfl rfl rfl ?_
  refine RK.D ?_
  refine AWp_region hP ?_
  refine RK.V (op_add rfl rfl (by first | exact IntWalk.i64_in _ (by omega) | rfl)) ?_
  refine RK.M rfl ?_
  refine RK.D ?_
  refine ⟨i + 1, by omega, by omega, le_stL ⟨.refl _, .refl _, .refl _, .refl _, .refl _, .refl _, .refl _, .refl _, Sub.int (by omega), trivial⟩ ⟨rfl, rfl, rfl, rfl, rfl, rfl, trivial⟩⟩
 ·have hb1_ := of_decide_eq_false hb1
  refine AWp_exit ?_
  refine AWp_sr hP ?_
  refine RK.G2 hT rfl rfl rfl rfl rfl rfl ?_
  refine RK.S hT rfl rfl rfl rfl rfl rfl rfl ?_
  refine RK.D ?_
  refine AWp_ret ?_
  refine ends_one rfl (.inr rfl) (res_cell_agg hT rfl rfl rfl rfl (cs := [_, _]) rfl rfl) ?_ O_ends
  exact Sub.of_eq (by unfold hfV; rw [show i = blen ((p + 1) / 2).natAbs by omega])
set_option maxHeartbeats 8000000 in
theorem m_Sqrt (a p : Int) (h2 : 2 ≤ p) (ha : L 10 a) (hp : L 10 p) (hst : oddB p = true → a % p ≠ 0 → kr (a % p) p = 1 → sqStop (a % p) p (sqT (a % p) p) = true) :
  Call0 Tryz.prog 223 [I a, I p] (.t [PI (sqV (a % p) p), PE (sqE (a % p) p)]) := by
 have ia : LB a 10 := ⟨ha⟩
 have ip : LB p 10 := ⟨hp⟩
 have h0 : 0 < p := by omega
 have iam : LB (a % p) 10 := ⟨hp.of_le (by have := Int.emod_nonneg a (show p ≠ 0 by omega); have := Int.emod_lt_of_pos a h0; omega)⟩
 refine callM_of (np := 0) Tryz.func223 (by kernel_rfl) rfl rfl (Nat.le_of_ble_eq_true rfl) (fun m h => absurd rfl h) (fun m h => absurd rfl h) rfl ?_
 refine AWp_sr hP ?_
 refine RK.alc guard_none (op_box rfl rfl) ?_
 refine RK.alc guard_none (op_box rfl rfl) ?_
 refine RK.alc guard_none (op_alloc hT rfl rfl) ?_
 refine RK.As rfl ?_
 refine RK.D ?_
 refine AWp_scope ?_
 refine AWp_seq ?_
 refine AWp_sr hP ?_
 refine RK.G2 hT rfl rfl rfl rfl rfl rfl ?_
 refine RK.V (Eff.call0 (m_of _ (by first | assumption | decide))) ?_
 refine RK.V (Eff.call0 (int_Cmp _ _)) ?_
 refine RK.V (op_lss rfl rfl) ?_
 refine RK.D ?_
 refine AWp_cond_false rfl (decide_eq_false (fun e => by have := cmpI_lt_zero.1 e; omega)) ?_
 refine AWp_skip ?_
 refine AWp_sr hP ?_
 refine RK.G2 hT rfl rfl rfl rfl rfl rfl ?_
 refine RK.G2 hT rfl rfl rfl rfl rfl rfl ?_
 refine RK.V (Eff.call0 (m_mod _ _ lz lz (by omega))) ?_
 refine RK.S hT rfl rfl rfl rfl rfl rfl rfl ?_
 refine RK.D ?_
 refine AWp_seq ?_
 refine AWp_sr hP ?_
 refine RK.G2 hT rfl rfl rfl rfl rfl rfl ?_
 refine RK.V (Eff.call0 (m_odd _)) ?_
 refine RK.V (op_unot rfl) ?_
 refine RK.M rfl ?_
 refine RK.split (t := 21) rfl (fun hg1 => ?_) (fun hg1 => ?_)
 ·have hg1_ := (notT hg1)
  refine RK.skip (guard_no rfl rfl hg1) ?_
  refine RK.skip (guard_no rfl rfl hg1) ?_
  refine RK.skip (guard_no rfl rfl hg1) ?_
  refine RK.V (op_pick_t rfl hg1 (rfl : _ = AV.p (.c _))) ?_
  refine RK.D ?_
  refine AWp_cond_true rfl rfl ?_
  refine AWp_sr hP ?_
  refine RK.G2 hT rfl rfl rfl rfl rfl rfl ?_
  refine RK.S hT rfl rfl rfl rfl rfl rfl rfl ?_
  refine RK.As rfl ?_
  refine RK.D ?_
  refine AWp_ret ?_
  refine ends_two rfl (.inr rfl) (res_cell_agg hT rfl rfl rfl rfl (cs := [_, _]) rfl rfl) (res_tmp rfl) ?_ O_ends
  exact Sub.of_eq (sq_e1 (.inl hg1_))
 ·have hg1_ := (notF hg1)
  refine RK.val (guard_yes rfl rfl hg1) (op_load_agg hT rfl rfl rfl rfl (cs := [_, _]) rfl rfl) ?_
  refine RK.val (guard_yes rfl rfl hg1) (Eff.call0 (int_Sign _)) ?_
  refine RK.val (guard_yes rfl rfl hg1) (op_eql rfl rfl) ?_
  refine RK.V (op_pick_f rfl hg1 (rfl : _ = AV.p (.c _))) ?_
  refine RK.D ?_
  refine AWp_cond rfl (fun hb2 => ?_) (fun hb2 => ?_)
  ·have hb2_ := bT hb2
   refine AWp_sr hP ?_
   refine RK.G2 hT rfl rfl rfl rfl rfl rfl ?_
   refine RK.S hT rfl rfl rfl rfl rfl rfl rfl ?_
   refine RK.As rfl ?_
   refine RK.D ?_
   refine AWp_ret ?_
   refine ends_two rfl (.inr rfl) (res_cell_agg hT rfl rfl rfl rfl (cs := [_, _]) rfl rfl) (res_tmp rfl) ?_ O_ends
   exact Sub.of_eq (sq_e1 (.inr (sgn_zero_iff.1 hb2_)))
  ·have hb2_ := bF hb2
   have hOd : ¬ oddB p = false := by rw [hg1_]; decide
   have hAz : (a % p) ≠ 0 := fun e => hb2_ (sgn_zero_iff.2 e)
   refine AWp_skip ?_
   refine AWp_seq ?_
   refine AWp_sr hP ?_
   refine RK.G2 hT rfl rfl rfl rfl rfl rfl ?_
   refine RK.G2 hT rfl rfl rfl rfl rfl rfl ?_
   refine RK.V (Eff.call0 (m_Kronecker _ _ lz lz)) ?_
   refine RK.V (op_neq rfl rfl) ?_
   refine RK.D ?_
   refine AWp_cond rfl (fun hb3 => ?_) (fun hb3 => ?_)
   ·have hb3_ := bneT hb3
    refine AWp_sr hP ?_
    refine RK.V (op_build_st hT rfl rfl rfl (es := [_, _]) rfl) ?_
    refine RK.S hT rfl rfl rfl rfl rfl rfl rfl ?_
    refine RK.As rfl ?_
    refine RK.D ?_
    refine AWp_ret ?_
    refine ends_two rfl (.inr rfl) (res_cell_agg hT rfl rfl rfl rfl (cs := [_, _]) rfl rfl) (res_tmp rfl) ?_ O_ends
    exact Sub.of_eq (sq_e2 hOd hAz hb3_)
   ·have hb3_ := bneF hb3
    have hTs := hst hg1_ hAz hb3_
    refine AWp_skip ?_
    refine AWp_sr hP ?_
    refine RK.V (op_build_st hT rfl rfl rfl (es := [_, _]) rfl) ?_
    refine RK.alc guard_none (op_alloc hT rfl rfl) ?_
    refine RK.S hT rfl rfl rfl rfl rfl rfl rfl ?_
    refine RK.D ?_
    refine AWp_sr hP ?_
    refine RK.G2 hT rfl rfl rfl rfl rfl rfl ?_
    refine RK.V (Eff.call0 (int_Neg _)) ?_
    refine RK.G2 hT rfl rfl rfl rfl rfl rfl ?_
    refine RK.V (Eff.call0 (m_mod _ _ lz lz (by omega))) ?_
    refine RK.alc guard_none (op_alloc hT rfl rfl) ?_
    refine RK.S hT rfl rfl rfl rfl rfl rfl rfl ?_
    refine RK.D ?_
    refine AWp_seq ?_
    refine AWp_label ?_
    refine AWp_seq_cut (ι := Unit) (fun _ => stL [(2, .loc 2 0), (3, .loc 3 0), (4, .loc 4 0), (6, .loc 6 0), (7, .loc 7 0)] [(2, ⟨false, 1, 36, [zn ((a % p)), zm ((a % p))]⟩), (3, ⟨false, 1, 36, [zn (p), zm (p)]⟩), (4, ⟨false, 1, 36, [zn (0), zm (0)]⟩), (6, ⟨false, 1, 36, [zn (((sqT (a % p) p) : Nat)), zm (((sqT (a % p) p) : Nat))]⟩), (7, ⟨false, 1, 36, [zn (sqW (a % p) p (sqT (a % p) p)), zm (sqW (a % p) p (sqT (a % p) p))]⟩)]) (fun _ => True) ?_ ?_
    ·refine AWp_block ?_
     refine AWp_loop (ι := Nat) (fun t => stL [(2, .loc 2 0), (3, .loc 3 0), (4, .loc 4 0), (6, .loc 6 0), (7, .loc 7 0)] [(2, ⟨false, 1, 36, [zn ((a % p)), zm ((a % p))]⟩), (3, ⟨false, 1, 36, [zn (p), zm (p)]⟩), (4, ⟨false, 1, 36, [zn (0), zm (0)]⟩), (6, ⟨false, 1, 36, [zn ((t : Nat)), zm ((t : Nat))]⟩), (7, ⟨false, 1, 36, [zn (sqW (a % p) p t), zm (sqW (a % p) p t)]⟩)]) (fun t => SqI (a % p) p t) (fun t => 2000 - t) 0 SqI.start (le_stL ⟨.refl _, .refl _, .refl _, .refl _, .refl _, trivial⟩ ⟨rfl, rfl, rfl, rfl, Eq.trans rfl (congrArg (fun x : Int => some (⟨false, 1, 36, [zn x, zm x]⟩ : Blk)) (sqW0)), trivial⟩) ?_
     intro t hI
     have hle := hI.le
     have iT : LB ((t : Nat) : Int) 10 := ⟨(show L 6 _ by unfold L; omega).mono (by decide)⟩
     have iW : LB (sqW (a % p) p t) 10 := ⟨sqW_L hp h0⟩
     refine AWp_block ?_
     refine AWp_seq ?_
     refine AWp_block ?_
     refine AWp_sr hP ?_
     refine RK.G2 hT rfl rfl rfl rfl rfl rfl ?_
     refine RK.V (Eff.call0 (int_Sign _)) ?_
     refine RK.V (op_eql rfl rfl) ?_
     refine RK.As rfl ?_
     refine RK.D ?_
     refine AWp_cond rfl (fun hb4 => ?_) (fun hb4 => ?_)
     ·have hb4_ := bT hb4
      refine AWp_exit ?_
      have et := hI.stop (sqStop_z hb4_)
      refine ⟨(), trivial, le_stL ⟨.refl _, .refl _, .refl _, .refl _, .refl _, trivial⟩ ⟨rfl, rfl, rfl, Eq.trans rfl (congrArg (fun x : Int => some (⟨false, 1, 36, [zn x, zm x]⟩ : Blk)) (congrArg (fun t : Nat => (t : Int)) et)), Eq.trans rfl (congrArg (fun x : Int => some (⟨false, 1, 36, [zn x, zm x]⟩ : Blk)) (congrArg (sqW (a % p) p) et)), trivial⟩⟩
     ·have hb4_ := bF hb4
      refine AWp_sr hP ?_
      refine RK.G2 hT rfl rfl rfl rfl rfl rfl ?_
      refine RK.G2 hT rfl rfl rfl rfl rfl rfl ?_
      refine RK.V (Eff.call0 (m_Kronecker _ _ lz lz)) ?_
      refine RK.V (op_eql rfl rfl) ?_
      refine RK.As rfl ?_
      refine RK.D ?_
      refine AWp_cond rfl (fun hb5 => ?_) (fun hb5 => ?_)
      ·have hb5_ := bT hb5
       refine AWp_exit ?_
       have et := hI.stop (sqStop_k hb5_)
       refine ⟨(), trivial, le_stL ⟨.refl _, .refl _, .refl _, .refl _, .refl _, trivial⟩ ⟨rfl, rfl, rfl, Eq.trans rfl (congrArg (fun x : Int => some (⟨false, 1, 36, [zn x, zm x]⟩ : Blk)) (congrArg (fun t : Nat => (t : Int)) et)), Eq.trans rfl (congrArg (fun x : Int => some (⟨false, 1, 36, [zn x, zm x]⟩ : Blk)) (congrArg (sqW (a % p) p) et)), trivial⟩⟩
      ·have hb5_ := bF hb5
       refine AWp_skip ?_
       refine AWp_sr hP ?_
       refine RK.G2 hT rfl rfl rfl rfl rfl rfl ?_
       refine RK.V (Eff.call0 (m_of _ (by first | assumption | decide))) ?_
       refine RK.V (Eff.call0 (int_Add _ _ lz lz)) ?_
       refine RK.S hT rfl rfl rfl rfl rfl rfl rfl ?_
       refine RK.D ?_
       refine AWp_region hP ?_
       refine RK.G2 hT rfl rfl rfl rfl rfl rfl ?_
       refine RK.G2 hT rfl rfl rfl rfl rfl rfl ?_
       refine RK.V (Eff.call0 (int_Mul _ _ lz lz)) ?_
       refine RK.G2 hT rfl rfl rfl rfl rfl rfl ?_
       refine RK.V (Eff.call0 (int_Sub _ _ lz lz)) ?_
       refine RK.G2 hT rfl rfl rfl rfl rfl rfl ?_
       refine RK.V (Eff.call0 (m_mod _ _ lz lz (by omega))) ?_
       refine RK.S hT rfl rfl rfl rfl rfl rfl rfl ?_
       refine RK.D ?_
       have hn := hI.next (sqStop_n hb4_ hb5_) hTs
       refine ⟨t + 1, hn.1, by omega, le_stL ⟨.refl _, .refl _, .refl _, .refl _, .refl _, trivial⟩ ⟨rfl, rfl, rfl, Eq.trans rfl (congrArg (fun x : Int => some (⟨false, 1, 36, [zn x, zm x]⟩ : Blk)) ((Int.natCast_add t 1).symm)), Eq.trans rfl (congrArg (fun x : Int => some (⟨false, 1, 36, [zn x, zm x]⟩ : Blk)) (sqW_succ)), trivial⟩⟩
    intro _ _
    have iT : LB (((sqT (a % p) p) : Nat) : Int) 10 := ⟨sqT_L⟩
    have iW : LB (sqW (a % p) p (sqT (a % p) p)) 10 := ⟨sqW_L hp h0⟩
    have iR : LB (sqR0 (a % p) p) 10 := ⟨sqR0_L hp h0⟩
    refine AWp_sr hP ?_
    refine RK.G2 hT rfl rfl rfl rfl rfl rfl ?_
    refine RK.alc guard_none (op_alloc hT rfl rfl) ?_
    refine RK.S hT rfl rfl rfl rfl rfl rfl rfl ?_
    refine RK.D ?_
    refine AWp_seq_cut (ι := Unit) (fun _ => stL [(3, .loc 3 0), (4, .loc 4 0), (8, .loc 8 0)] [(3, ⟨false, 1, 36, [zn (p), zm (p)]⟩), (4, ⟨false, 1, 36, [zn (0), zm (0)]⟩), (8, ⟨false, 1, 36, [zn (sqR0 (a % p) p), zm (sqR0 (a % p) p)]⟩)]) (fun _ => True) ?_ ?_
    ·refine AWp_sr hP ?_
     refine RK.G2 hT rfl rfl rfl rfl rfl rfl ?_
     refine RK.V (Eff.call0 (int_Sign _)) ?_
     refine RK.V (op_neq rfl rfl) ?_
     refine RK.D ?_
     refine AWp_cond rfl (fun hb6 => ?_) (fun hb6 => ?_)
     ·have hb6_ := bneT hb6
      refine AWp_region hP ?_
      refine RK.G2 hT rfl rfl rfl rfl rfl rfl ?_
      refine RK.G2 hT rfl rfl rfl rfl rfl rfl ?_
      refine RK.G2 hT rfl rfl rfl rfl rfl rfl ?_
      refine RK.V (Eff.call0 (m_half _ _ _ h0 lz lz lz)) ?_
      refine RK.S hT rfl rfl rfl rfl rfl rfl rfl ?_
      refine RK.D ?_
      refine ⟨(), trivial, le_stL ⟨.refl _, .refl _, .refl _, trivial⟩ ⟨rfl, rfl, Eq.trans rfl (congrArg (fun x : Int => some (⟨false, 1, 36, [zn x, zm x]⟩ : Blk)) (sqR0_n hb6_)), trivial⟩⟩
     ·have hb6_ := bneF hb6
      refine AWp_skip ?_
      refine ⟨(), trivial, le_stL ⟨.refl _, .refl _, .refl _, trivial⟩ ⟨rfl, rfl, Eq.trans rfl (congrArg (fun x : Int => some (⟨false, 1, 36, [zn x, zm x]⟩ : Blk)) (sqR0_z hb6_)), trivial⟩⟩
    intro _ _
    refine AWp_seq ?_
    refine AWp_sr hP ?_
    refine RK.G2 hT rfl rfl rfl rfl rfl rfl ?_
    refine RK.V (Eff.call0 (int_Neg _)) ?_
    refine RK.G2 hT rfl rfl rfl rfl rfl rfl ?_
    refine RK.V (Eff.call0 (m_mod _ _ lz lz (by omega))) ?_
    refine RK.alc guard_none (op_alloc hT rfl rfl) ?_
    refine RK.S hT rfl rfl rfl rfl rfl rfl rfl ?_
    refine RK.D ?_
    refine AWp_sr hP ?_
    refine RK.G2 hT rfl rfl rfl rfl rfl rfl ?_
    refine RK.G2 hT rfl rfl rfl rfl rfl rfl ?_
    refine RK.V (Eff.call0 (int_Cmp _ _)) ?_
    refine RK.V (op_lss rfl rfl) ?_
    refine RK.D ?_
    refine AWp_cond rfl (fun hb7 => ?_) (fun hb7 => ?_)
    ·have hb7_ := of_decide_eq_true hb7
     refine AWp_region hP ?_
     refine RK.G2 hT rfl rfl rfl rfl rfl rfl ?_
     refine RK.S hT rfl rfl rfl rfl rfl rfl rfl ?_
     refine RK.D ?_
     refine AWp_sr hP ?_
     refine RK.G2 hT rfl rfl rfl rfl rfl rfl ?_
     refine RK.S hT rfl rfl rfl rfl rfl rfl rfl ?_
     refine RK.As rfl ?_
     refine RK.D ?_
     refine AWp_ret ?_
     refine ends_two rfl (.inr rfl) (res_cell_agg hT rfl rfl rfl rfl (cs := [_, _]) rfl rfl) (res_tmp rfl) ?_ O_ends
     exact Sub.of_eq (sq_e3 hOd hAz hb3_ (sqR1_y hb7_))
    ·have hb7_ := of_decide_eq_false hb7
     refine AWp_skip ?_
     refine AWp_sr hP ?_
     refine RK.G2 hT rfl rfl rfl rfl rfl rfl ?_
     refine RK.S hT rfl rfl rfl rfl rfl rfl rfl ?_
     refine RK.As rfl ?_
     refine RK.D ?_
     refine AWp_ret ?_
     refine ends_two rfl (.inr rfl) (res_cell_agg hT rfl rfl rfl rfl (cs := [_, _]) rfl rfl) (res_tmp rfl) ?_ O_ends
     exact Sub.of_eq (sq_e3 hOd hAz hb3_ (sqR1_n hb7_))
end Go.Proofs.YtpaifigafaijpaaGreatDoor
end

section
/- sorting -/
namespace Go.Proofs.YtpaifigafaijpaaGreatDoor
open Go Go.AM
set_option maxRecDepth 100000
set_option maxHeartbeats 1000000
theorem cmp_isNaN (x : Int) :
  Call0 Tryz.prog 177 [Z x] (B false) := by
 refine callM_of (np := 0) Tryz.func177 (by kernel_rfl) rfl rfl (Nat.le_of_ble_eq_true rfl) (fun m h => absurd rfl h) (fun m h => absurd rfl h) rfl ?_
 refine AWp_sr hP ?_
 refine RK.As rfl ?_
 refine RK.D ?_
 refine AWp_sr hP ?_
 refine RK.M rfl ?_
 refine RK.M rfl ?_
 refine RK.V (op_neq rfl rfl) ?_
 refine RK.As rfl ?_
 refine RK.D ?_
 refine AWp_ret ?_
 refine ends_one rfl (.inr rfl) (res_tmp rfl) ?_ O_ends
 exact Sub.bool (by simp)
theorem cmp_Less (x y : Int) :
  Call0 Tryz.prog 255 [Z x, Z y] (B (decide (x < y))) := by
 refine callM_of (np := 0) Tryz.func255 (by kernel_rfl) rfl rfl (Nat.le_of_ble_eq_true rfl) (fun m h => absurd rfl h) (fun m h => absurd rfl h) rfl ?_
 refine AWp_sr hP ?_
 refine RK.As rfl ?_
 refine RK.D ?_
 refine AWp_sr hP ?_
 refine RK.M rfl ?_
 refine RK.V (Eff.call0 (cmp_isNaN _)) ?_
 refine RK.M rfl ?_
 refine RK.skip (guard_no rfl rfl rfl) ?_
 refine RK.skip (guard_no rfl rfl rfl) ?_
 refine RK.skip (guard_no rfl rfl rfl) ?_
 refine RK.V (op_pick_f rfl rfl (rfl : _ = AV.p (.c _))) ?_
 refine RK.M rfl ?_
 refine RK.val (guard_yes rfl rfl rfl) (op_move (rfl : _ = AV.p (.c _))) ?_
 refine RK.val (guard_yes rfl rfl rfl) (op_move (rfl : _ = AV.p (.c _))) ?_
 refine RK.val (guard_yes rfl rfl rfl) (op_lss rfl rfl) ?_
 refine RK.V (op_pick_f rfl rfl (rfl : _ = AV.p (.c _))) ?_
 refine RK.As rfl ?_
 refine RK.D ?_
 refine AWp_ret ?_
 refine ends_one rfl (.inr rfl) (res_tmp rfl) ?_ O_ends
 exact .refl _
theorem co_isPrime (x : Int) (h1 : 2 ≤ x) (h2 : x ≤ 1000000) :
  Call0 Tryz.prog 189 [Z x] (B (primeB x)) := by
 refine callM_of (np := 0) Tryz.func189 (by kernel_rfl) rfl rfl (Nat.le_of_ble_eq_true rfl) (fun m h => absurd rfl h) (fun m h => absurd rfl h) rfl ?_
 refine AWp_sr hP ?_
 refine RK.As rfl ?_
 refine RK.D ?_
 refine AWp_seq ?_
 refine AWp_sr hP ?_
 refine RK.As rfl ?_
 refine RK.D ?_
 refine AWp_block ?_
 refine AWp_loop (ι := Int) (fun d => stL [(0, Z x), (3, Z d)] []) (fun d => 2 ≤ d ∧ d ≤ 1001 ∧ primeGo x (1002 - d).toNat d = primeB x) (fun d => (1002 - d).toNat) 2 ⟨by decide, by decide, rfl⟩ (le_stL ⟨.refl _, .refl _, trivial⟩ trivial) ?_
 rintro d ⟨hd1, hd2, hd3⟩
 have qs := sq_b (x := d) (m := 1001) (by omega)
 refine AWp_seq ?_
 refine AWp_sr hP ?_
 refine RK.M rfl ?_
 refine RK.M rfl ?_
 refine RK.V (op_mul rfl rfl (by first | exact IntWalk.i64_in _ (by omega) | rfl)) ?_
 refine RK.M rfl ?_
 refine RK.V (op_leq rfl rfl) ?_
 refine RK.D ?_
 refine AWp_cond rfl (fun hb1 => ?_) (fun hb1 => ?_)
 ·have hb1_ := of_decide_eq_true hb1
  refine AWp_skip ?_
  refine AWp_seq ?_
  refine AWp_block ?_
  refine AWp_sr hP ?_
  refine RK.M rfl ?_
  refine RK.M rfl ?_
  refine RK.V (op_rem rfl rfl (by omega) (c := x % d) (Int.tmod_eq_emod_of_nonneg (by omega))) ?_
  refine RK.V (op_eql rfl rfl) ?_
  refine RK.D ?_
  refine AWp_cond rfl (fun hb2 => ?_) (fun hb2 => ?_)
  ·have hb2_ := bT hb2
   refine AWp_sr hP ?_
   refine RK.As rfl ?_
   refine RK.D ?_
   refine AWp_ret ?_
   refine ends_one rfl (.inr rfl) (res_tmp rfl) ?_ O_ends
   exact Sub.bool (prm_no hd3 (by omega) hb1_ hb2_)
  ·have hb2_ := bF hb2
   refine AWp_skip ?_
   refine AWp_region hP ?_
   refine RK.M rfl ?_
   refine RK.V (op_add rfl rfl (by first | exact IntWalk.i64_in _ (by omega) | rfl)) ?_
   refine RK.As rfl ?_
   refine RK.D ?_
   have := pr_le hd1 hb1_ h2
   refine ⟨d + 1, ⟨by omega, by omega, pr_go hd3 (by omega) hb1_ hb2_⟩, by omega, le_stL ⟨.refl _, .refl _, trivial⟩ trivial⟩
 ·have hb1_ := of_decide_eq_false hb1
  refine AWp_exit ?_
  refine AWp_sr hP ?_
  refine RK.M rfl ?_
  refine RK.V (op_gtr rfl rfl) ?_
  refine RK.As rfl ?_
  refine RK.D ?_
  refine AWp_ret ?_
  refine ends_one rfl (.inr rfl) (res_tmp rfl) ?_ O_ends
  exact Sub.bool (prm_yes hd3 (by omega) hb1_ h1)
theorem len64 (x : Nat) (hx : x < 256) :
  Call0 Tryz.prog 206 [.p (.c (.v (.int .u64 ((x : Nat) : Int))))] (Z (blen x)) := by
 have h8 := blen8_le (m := x) (by omega)
 refine callM_of (np := 0) Tryz.func206 (by kernel_rfl) rfl rfl (Nat.le_of_ble_eq_true rfl) (fun m h => absurd rfl h) (fun m h => absurd rfl h) rfl ?_
 refine AWp_sr hP ?_
 refine RK.As rfl ?_
 refine RK.D ?_
 refine AWp_seq ?_
 refine AWp_sr hP ?_
 refine RK.M rfl ?_
 refine RK.V (op_geq rfl rfl) ?_
 refine RK.D ?_
 refine AWp_cond_false rfl (decide_eq_false (by omega)) ?_
 refine AWp_skip ?_
 refine AWp_seq ?_
 refine AWp_sr hP ?_
 refine RK.M rfl ?_
 refine RK.V (op_geq rfl rfl) ?_
 refine RK.D ?_
 refine AWp_cond_false rfl (decide_eq_false (by omega)) ?_
 refine AWp_skip ?_
 refine AWp_seq ?_
 refine AWp_sr hP ?_
 refine RK.M rfl ?_
 refine RK.V (op_geq rfl rfl) ?_
 refine RK.D ?_
 refine AWp_cond_false rfl (decide_eq_false (by omega)) ?_
 refine AWp_skip ?_
 refine AWp_sr hP ?_
 refine RK.M rfl ?_
 refine RK.M rfl ?_
 refine RK.V (op_conv hT rfl rfl rfl rfl (IntWalk.u8_in _ (by omega))) ?_
 refine RK.V (op_len8 rfl rfl (by omega)) ?_
 refine RK.V (op_conv hT rfl rfl rfl rfl (IntWalk.i64_in _ (by omega))) ?_
 refine RK.V (op_add rfl rfl (IntWalk.i64_in _ (by omega))) ?_
 refine RK.As rfl ?_
 refine RK.D ?_
 refine AWp_ret ?_
 refine ends_one rfl (.inr rfl) (res_tmp rfl) ?_ O_ends
 exact Sub.int (by omega)
theorem bits_Len (x : Nat) (hx : x < 256) :
  Call0 Tryz.prog 152 [.p (.c (.v (.int .u64 ((x : Nat) : Int))))] (Z (blen x)) := by
 refine callM_of (np := 0) Tryz.func152 (by kernel_rfl) rfl rfl (Nat.le_of_ble_eq_true rfl) (fun m h => absurd rfl h) (fun m h => absurd rfl h) rfl ?_
 refine AWp_sr hP ?_
 refine RK.As rfl ?_
 refine RK.D ?_
 refine AWp_seq ?_
 refine AWp_cond_false rfl rfl ?_
 refine AWp_skip ?_
 refine AWp_sr hP ?_
 refine RK.M rfl ?_
 refine RK.V (Eff.call0 (len64 _ (by omega))) ?_
 refine RK.As rfl ?_
 refine RK.D ?_
 refine AWp_ret ?_
 refine ends_one rfl (.inr rfl) (res_tmp rfl) ?_ O_ends
 exact .refl _
theorem sl_insertion3 (x y z : Int) (h1 : x ≤ y) (h2 : y ≤ z) :
  Call0 Tryz.prog 249 [.p (.c (.sl 3 [.v (.int .i64 x), .v (.int .i64 y), .v (.int .i64 z)])), Z 0, Z 3] (.t []) := by
 refine callM_of (np := 0) Tryz.func249 (by kernel_rfl) rfl rfl (Nat.le_of_ble_eq_true rfl) (fun m h => absurd rfl h) (fun m h => absurd rfl h) rfl ?_
 refine AWp_sr hP ?_
 refine RK.M rfl ?_
 refine RK.V (op_add rfl rfl (by first | exact IntWalk.i64_in _ (by omega) | rfl)) ?_
 refine RK.As rfl ?_
 refine RK.D ?_
 refine AWp_block ?_
 refine AWp_unroll 3 ?_
 refine AWp_seq ?_
 refine AWp_sr hP ?_
 refine RK.M rfl ?_
 refine RK.M rfl ?_
 refine RK.V (op_lss rfl rfl) ?_
 refine RK.D ?_
 refine AWp_cond_true rfl (by decide) ?_
 refine AWp_skip ?_
 refine AWp_seq ?_
 refine AWp_block ?_
 refine AWp_sr hP ?_
 refine RK.M rfl ?_
 refine RK.As rfl ?_
 refine RK.D ?_
 refine AWp_block ?_
 refine AWp_unroll 1 ?_
 refine AWp_seq ?_
 refine AWp_sr hP ?_
 refine RK.M rfl ?_
 refine RK.M rfl ?_
 refine RK.V (op_gtr rfl rfl) ?_
 refine RK.M rfl ?_
 refine RK.val (guard_yes rfl rfl (by decide)) (op_move (rfl : _ = AV.p (.c _))) ?_
 refine RK.val (guard_yes rfl rfl (by decide)) (op_move (rfl : _ = AV.p (.c _))) ?_
 refine RK.val (guard_yes rfl rfl (by decide)) (op_index_sl hT rfl rfl rfl rfl (by rfl) rfl (by omega) (by simp)) ?_
 refine RK.val (guard_yes rfl rfl (by decide)) (op_load_ip_one hT rfl rfl rfl rfl) ?_
 refine RK.val (guard_yes rfl rfl (by decide)) (op_move (rfl : _ = AV.p (.c _))) ?_
 refine RK.val (guard_yes rfl rfl (by decide)) (op_move (rfl : _ = AV.p (.c _))) ?_
 refine RK.val (guard_yes rfl rfl (by decide)) (op_sub rfl rfl (by first | exact IntWalk.i64_in _ (by omega) | rfl)) ?_
 refine RK.val (guard_yes rfl rfl (by decide)) (op_index_sl hT rfl rfl rfl rfl (by rfl) rfl (by omega) (by simp)) ?_
 refine RK.val (guard_yes rfl rfl (by decide)) (op_load_ip_one hT rfl rfl rfl rfl) ?_
 refine RK.val (guard_yes rfl rfl (by decide)) (Eff.call0 (cmp_Less _ _)) ?_
 refine RK.V (op_pick_t rfl (by decide) (rfl : _ = AV.p (.c _))) ?_
 refine RK.D ?_
 refine AWp_cond_false rfl (decide_eq_false (by omega)) ?_
 refine AWp_exit ?_
 refine AWp_region hP ?_
 refine RK.M rfl ?_
 refine RK.V (op_add rfl rfl (by first | exact IntWalk.i64_in _ (by omega) | rfl)) ?_
 refine RK.As rfl ?_
 refine RK.D ?_
 refine AWp_seq ?_
 refine AWp_sr hP ?_
 refine RK.M rfl ?_
 refine RK.M rfl ?_
 refine RK.V (op_lss rfl rfl) ?_
 refine RK.D ?_
 refine AWp_cond_true rfl (by decide) ?_
 refine AWp_skip ?_
 refine AWp_seq ?_
 refine AWp_block ?_
 refine AWp_sr hP ?_
 refine RK.M rfl ?_
 refine RK.As rfl ?_
 refine RK.D ?_
 refine AWp_block ?_
 refine AWp_unroll 1 ?_
 refine AWp_seq ?_
 refine AWp_sr hP ?_
 refine RK.M rfl ?_
 refine RK.M rfl ?_
 refine RK.V (op_gtr rfl rfl) ?_
 refine RK.M rfl ?_
 refine RK.val (guard_yes rfl rfl (by decide)) (op_move (rfl : _ = AV.p (.c _))) ?_
 refine RK.val (guard_yes rfl rfl (by decide)) (op_move (rfl : _ = AV.p (.c _))) ?_
 refine RK.val (guard_yes rfl rfl (by decide)) (op_index_sl hT rfl rfl rfl rfl (by rfl) rfl (by omega) (by simp)) ?_
 refine RK.val (guard_yes rfl rfl (by decide)) (op_load_ip_one hT rfl rfl rfl rfl) ?_
 refine RK.val (guard_yes rfl rfl (by decide)) (op_move (rfl : _ = AV.p (.c _))) ?_
 refine RK.val (guard_yes rfl rfl (by decide)) (op_move (rfl : _ = AV.p (.c _))) ?_
 refine RK.val (guard_yes rfl rfl (by decide)) (op_sub rfl rfl (by first | exact IntWalk.i64_in _ (by omega) | rfl)) ?_
 refine RK.val (guard_yes rfl rfl (by decide)) (op_index_sl hT rfl rfl rfl rfl (by rfl) rfl (by omega) (by simp)) ?_
 refine RK.val (guard_yes rfl rfl (by decide)) (op_load_ip_one hT rfl rfl rfl rfl) ?_
 refine RK.val (guard_yes rfl rfl (by decide)) (Eff.call0 (cmp_Less _ _)) ?_
 refine RK.V (op_pick_t rfl (by decide) (rfl : _ = AV.p (.c _))) ?_
 refine RK.D ?_
 refine AWp_cond_false rfl (decide_eq_false (by omega)) ?_
 refine AWp_exit ?_
 refine AWp_region hP ?_
 refine RK.M rfl ?_
 refine RK.V (op_add rfl rfl (by first | exact IntWalk.i64_in _ (by omega) | rfl)) ?_
 refine RK.As rfl ?_
 refine RK.D ?_
 refine AWp_seq ?_
 refine AWp_sr hP ?_
 refine RK.M rfl ?_
 refine RK.M rfl ?_
 refine RK.V (op_lss rfl rfl) ?_
 refine RK.D ?_
 refine AWp_cond_false rfl (by decide) ?_
 refine AWp_exit ?_
 refine ends_none rfl (.inl rfl)  ?_ O_ends
 exact .refl _
theorem sl_pdq3 (x y z l : Int) (h1 : x ≤ y) (h2 : y ≤ z) :
  Call0 Tryz.prog 245 [.p (.c (.sl 3 [.v (.int .i64 x), .v (.int .i64 y), .v (.int .i64 z)])), Z 0, Z 3, Z l] (.t []) := by
 refine callM_of (np := 0) Tryz.func245 (by kernel_rfl) rfl rfl (Nat.le_of_ble_eq_true rfl) (fun m h => absurd rfl h) (fun m h => absurd rfl h) rfl ?_
 refine AWp_sr hP ?_
 refine RK.As rfl ?_
 refine RK.D ?_
 refine AWp_sr hP ?_
 refine RK.As rfl ?_
 refine RK.D ?_
 refine AWp_block ?_
 refine AWp_unroll 1 ?_
 refine AWp_block ?_
 refine AWp_sr hP ?_
 refine RK.M rfl ?_
 refine RK.M rfl ?_
 refine RK.V (op_sub rfl rfl (by first | exact IntWalk.i64_in _ (by omega) | rfl)) ?_
 refine RK.As rfl ?_
 refine RK.D ?_
 refine AWp_seq ?_
 refine AWp_sr hP ?_
 refine RK.M rfl ?_
 refine RK.V (op_leq rfl rfl) ?_
 refine RK.D ?_
 refine AWp_cond_true rfl (by decide) ?_
 refine AWp_sr hP ?_
 refine RK.M rfl ?_
 refine RK.M rfl ?_
 refine RK.M rfl ?_
 refine RK.V (Eff.call0 (sl_insertion3 x y z h1 h2)) ?_
 refine RK.D ?_
 refine AWp_ret ?_
 refine ends_none rfl (.inr rfl)  ?_ O_ends
 exact .refl _
theorem sl_Sort3 (x y z : Int) (h1 : x ≤ y) (h2 : y ≤ z) :
  Call0 Tryz.prog 224 [.p (.c (.sl 3 [.v (.int .i64 x), .v (.int .i64 y), .v (.int .i64 z)]))] (.t []) := by
 refine callM_of (np := 0) Tryz.func224 (by kernel_rfl) rfl rfl (Nat.le_of_ble_eq_true rfl) (fun m h => absurd rfl h) (fun m h => absurd rfl h) rfl ?_
 refine AWp_sr hP ?_
 refine RK.M rfl ?_
 refine RK.V (op_len hT rfl rfl rfl (by rfl)) ?_
 refine RK.As rfl ?_
 refine RK.D ?_
 refine AWp_region hP ?_
 refine RK.M rfl ?_
 refine RK.M rfl ?_
 refine RK.M rfl ?_
 refine RK.V (op_conv hT rfl rfl rfl rfl (c := ((3 : Nat) : Int)) rfl) ?_
 refine RK.V (Eff.call0 (bits_Len 3 (by decide))) ?_
 refine RK.V (Eff.call0 (sl_pdq3 x y z _ h1 h2)) ?_
 refine RK.D ?_
 refine ends_none rfl (.inl rfl)  ?_ O_ends
 exact .refl _
theorem sl_Index3 (F : FuncId) (caps : List (List DV)) (p : Int → Bool) (x y z : Int) (hx : Call0 Tryz.prog F (Z x :: caps.map .ip) (B (p x))) (hy : Call0 Tryz.prog F (Z y :: caps.map .ip) (B (p y))) (hp : p x = false → p y = true) :
  Call0 Tryz.prog 225 [.p (.c (.sl 3 [.v (.int .i64 x), .v (.int .i64 y), .v (.int .i64 z)])), .fn F caps] (Z (if p x then 0 else 1)) := by
 refine callM_of (np := 0) Tryz.func225 (by kernel_rfl) rfl rfl (Nat.le_of_ble_eq_true rfl) (fun m h => absurd rfl h) (fun m h => absurd rfl h) rfl ?_
 refine AWp_sr hP ?_
 refine RK.As rfl ?_
 refine RK.D ?_
 refine AWp_seq ?_
 refine AWp_sr hP ?_
 refine RK.M rfl ?_
 refine RK.V (op_len hT rfl rfl rfl (by rfl)) ?_
 refine RK.M rfl ?_
 refine RK.D ?_
 refine AWp_block ?_
 refine AWp_unroll 2 ?_
 refine AWp_sr hP ?_
 refine RK.V (op_lss rfl rfl) ?_
 refine RK.D ?_
 refine AWp_seq ?_
 refine AWp_cond_true rfl (by decide) ?_
 refine AWp_skip ?_
 refine AWp_seq ?_
 refine AWp_block ?_
 refine AWp_sr hP ?_
 refine RK.M rfl ?_
 refine RK.As rfl ?_
 refine RK.D ?_
 refine AWp_sr hP ?_
 refine RK.V (op_move (rfl : _ = AV.fn _ _)) ?_
 refine RK.M rfl ?_
 refine RK.M rfl ?_
 refine RK.V (op_index_sl hT rfl rfl rfl rfl (by rfl) rfl (by omega) (by simp)) ?_
 refine RK.V (op_load_ip_one hT rfl rfl rfl rfl) ?_
 refine RK.V (Eff.callC rfl hx) ?_
 refine RK.D ?_
 refine AWp_cond rfl (fun hb1 => ?_) (fun hb1 => ?_)
 ·refine AWp_sr hP ?_
  refine RK.M rfl ?_
  refine RK.As rfl ?_
  refine RK.D ?_
  refine AWp_ret ?_
  refine ends_one rfl (.inr rfl) (res_tmp rfl) ?_ O_ends
  exact Sub.int (by rw [if_pos hb1])
 ·refine AWp_skip ?_
  refine AWp_region hP ?_
  refine RK.V (op_add rfl rfl (by first | exact IntWalk.i64_in _ (by omega) | rfl)) ?_
  refine RK.M rfl ?_
  refine RK.D ?_
  refine AWp_sr hP ?_
  refine RK.V (op_lss rfl rfl) ?_
  refine RK.D ?_
  refine AWp_seq ?_
  refine AWp_cond_true rfl (by decide) ?_
  refine AWp_skip ?_
  refine AWp_seq ?_
  refine AWp_block ?_
  refine AWp_sr hP ?_
  refine RK.M rfl ?_
  refine RK.As rfl ?_
  refine RK.D ?_
  refine AWp_sr hP ?_
  refine RK.V (op_move (rfl : _ = AV.fn _ _)) ?_
  refine RK.M rfl ?_
  refine RK.M rfl ?_
  refine RK.V (op_index_sl hT rfl rfl rfl rfl (by rfl) rfl (by omega) (by simp)) ?_
  refine RK.V (op_load_ip_one hT rfl rfl rfl rfl) ?_
  refine RK.V (Eff.callC rfl hy) ?_
  refine RK.D ?_
  refine AWp_cond_true rfl (hp hb1) ?_
  refine AWp_sr hP ?_
  refine RK.M rfl ?_
  refine RK.As rfl ?_
  refine RK.D ?_
  refine AWp_ret ?_
  refine ends_one rfl (.inr rfl) (res_tmp rfl) ?_ O_ends
  exact Sub.int (by rw [if_neg (by rw [hb1]; decide)]; decide)
theorem co_middle1 (v m : Int) (h0 : 0 ≤ v) :
  Call0 Tryz.prog 226 [Z v, .ip [.v (.int .i64 m)]] (B (decide (v % 2 = m))) := by
 refine callM_of (np := 0) Tryz.func226 (by kernel_rfl) rfl rfl (Nat.le_of_ble_eq_true rfl) (fun m h => absurd rfl h) (fun m h => absurd rfl h) rfl ?_
 refine AWp_sr hP ?_
 refine RK.As rfl ?_
 refine RK.D ?_
 refine AWp_sr hP ?_
 refine RK.M rfl ?_
 refine RK.V (op_rem rfl rfl (by decide) (c := v % 2) (Int.tmod_eq_emod_of_nonneg (by omega))) ?_
 refine RK.V (op_load_ip_one hT rfl rfl rfl rfl) ?_
 refine RK.V (op_eql rfl rfl) ?_
 refine RK.As rfl ?_
 refine RK.D ?_
 refine AWp_ret ?_
 refine ends_one rfl (.inr rfl) (res_tmp rfl) ?_ O_ends
 exact Sub.bool (by rw [Bool.eq_iff_iff]; simp)
end Go.Proofs.YtpaifigafaijpaaGreatDoor
end

section
/- the middle coefficient -/
namespace Go.Proofs.YtpaifigafaijpaaGreatDoor
open Go Go.AM
set_option maxRecDepth 100000
set_option maxHeartbeats 1000000
set_option maxHeartbeats 4000000 in
theorem co_middle (d p : Int) (h3 : 3 ≤ p) (hp6 : p ≤ 1048576) (ho : p % 2 = 1) (hd : L 10 d) (hst : oddB p = true → d % p ≠ 0 → kr (d % p) p = 1 → sqStop (d % p) p (sqT (d % p) p) = true) (hr : 0 ≤ sqV (d % p) p ∧ 2 * sqV (d % p) p ≤ p) :
  Call0 Tryz.prog 190 [I d, Z p] (.t [.c (.v (.int .i64 (mdV d p))), PB (decide (sqE (d % p) p = 0))]) := by
 have id : LB d 10 := ⟨hd⟩
 have ip : LB p 10 := ⟨(show L 6 p by unfold L; omega).mono (by decide)⟩
 have jp : InI64 p := by unfold InI64; omega
 have hr1 := hr.1
 have hr2 := hr.2
 refine callM_of (np := 0) Tryz.func190 (by kernel_rfl) rfl rfl (Nat.le_of_ble_eq_true rfl) (fun m h => absurd rfl h) (fun m h => absurd rfl h) rfl ?_
 refine AWp_sr hP ?_
 refine RK.alc guard_none (op_box rfl rfl) ?_
 refine RK.As rfl ?_
 refine RK.As rfl ?_
 refine RK.D ?_
 refine AWp_sr hP ?_
 refine RK.alc guard_none (op_alloc hT rfl rfl) ?_
 refine RK.S hT rfl rfl rfl rfl rfl rfl rfl ?_
 refine RK.D ?_
 refine AWp_seq_cut (ι := Unit) (fun _ => stL [(1, Z p), (2, .loc 2 0), (6, .loc 6 0)] [(2, ⟨false, 1, 36, [zn (d), zm (d)]⟩), (6, ⟨false, 1, 3, [.v (.int .i64 (mdP d))]⟩)]) (fun _ => True) ?_ ?_
 ·refine AWp_sr hP ?_
  refine RK.F hT rfl rfl rfl rfl rfl rfl ?_
  refine RK.V (op_load_one hT rfl rfl rfl rfl (by first | rfl | exact vget (by omega))) ?_
  refine RK.V (op_len hT rfl rfl rfl rfl) ?_
  refine RK.V (op_gtr rfl rfl) ?_
  refine RK.M rfl ?_
  refine RK.split (t := 19) rfl (fun hg1 => ?_) (fun hg1 => ?_)
  ·have hg1_ := of_decide_eq_true hg1
   refine RK.val (guard_yes rfl rfl hg1) (op_field_loc hT rfl rfl rfl rfl rfl rfl) ?_
   refine RK.val (guard_yes rfl rfl hg1) (op_load_one hT rfl rfl rfl rfl (by first | rfl | exact vget (by omega))) ?_
   refine RK.val (guard_yes rfl rfl hg1) (by first | exact op_index_WN hT rfl rfl rfl rfl rfl rfl (by omega) | exact op_index_sl hT rfl rfl rfl rfl rfl rfl (by omega) (by first | exact W_ne (by omega) | simp)) ?_
   refine RK.val (guard_yes rfl rfl hg1) (op_load_ip_one hT rfl rfl rfl (by first | rfl | exact wget (by omega))) ?_
   refine RK.val (guard_yes rfl rfl hg1) (op_andN (m := (wl d.natAbs).getD 0 0) (n := 1) rfl rfl rfl (lt32 ((wl_ok d.natAbs).getD 0)) (by decide)) ?_
   refine RK.val (guard_yes rfl rfl hg1) (op_eql rfl rfl) ?_
   refine RK.V (op_pick_t rfl hg1 (rfl : _ = AV.p (.c _))) ?_
   refine RK.D ?_
   refine AWp_cond rfl (fun hb2 => ?_) (fun hb2 => ?_)
   ·have hb2_ := bT hb2
    refine AWp_region hP ?_
    refine RK.S hT rfl rfl rfl rfl rfl rfl rfl ?_
    refine RK.D ?_
    refine ⟨(), trivial, le_stL ⟨.refl _, .refl _, .refl _, trivial⟩ ⟨rfl, Eq.trans rfl (congrArg (fun x : Int => some (⟨false, 1, 3, [.v (.int .i64 x)]⟩ : Blk)) (mdP_odd ((odd_yes hg1_).symm.trans hb2))), trivial⟩⟩
   ·have hb2_ := bF hb2
    refine AWp_skip ?_
    refine ⟨(), trivial, le_stL ⟨.refl _, .refl _, .refl _, trivial⟩ ⟨rfl, Eq.trans rfl (congrArg (fun x : Int => some (⟨false, 1, 3, [.v (.int .i64 x)]⟩ : Blk)) (mdP_even ((odd_yes hg1_).symm.trans hb2))), trivial⟩⟩
  ·have hg1_ := of_decide_eq_false hg1
   refine RK.skip (guard_no rfl rfl hg1) ?_
   refine RK.skip (guard_no rfl rfl hg1) ?_
   refine RK.skip (guard_no rfl rfl hg1) ?_
   refine RK.skip (guard_no rfl rfl hg1) ?_
   refine RK.skip (guard_no rfl rfl hg1) ?_
   refine RK.skip (guard_no rfl rfl hg1) ?_
   refine RK.V (op_pick_f rfl hg1 (rfl : _ = AV.p (.c _))) ?_
   refine RK.D ?_
   refine AWp_cond_false rfl rfl ?_
   refine AWp_skip ?_
   refine ⟨(), trivial, le_stL ⟨.refl _, .refl _, .refl _, trivial⟩ ⟨rfl, Eq.trans rfl (congrArg (fun x : Int => some (⟨false, 1, 3, [.v (.int .i64 x)]⟩ : Blk)) (mdP_even (odd_no hg1_).symm)), trivial⟩⟩
 intro _ _
 refine AWp_seq ?_
 refine AWp_sr hP ?_
 refine RK.M rfl ?_
 refine RK.V (op_eql rfl rfl) ?_
 refine RK.D ?_
 refine AWp_cond_false rfl (decide_eq_false (by omega)) ?_
 refine AWp_skip ?_
 refine AWp_sr hP ?_
 refine RK.G2 hT rfl rfl rfl rfl rfl rfl ?_
 refine RK.M rfl ?_
 refine RK.V (Eff.call0 (co_of _ (by first | assumption | decide))) ?_
 refine RK.V (Eff.call0 (m_Sqrt d p (by omega) lz lz hst)) ?_
 refine RK.V (op_move (rfl : _ = AV.t _)) ?_
 refine RK.V (op_extract rfl (v := .a _) rfl) ?_
 refine RK.V (op_extract rfl (v := .c _) rfl) ?_
 refine RK.alc guard_none (op_alloc hT rfl rfl) ?_
 refine RK.S hT rfl rfl rfl rfl rfl rfl rfl ?_
 refine RK.As rfl ?_
 refine RK.D ?_
 refine AWp_seq ?_
 refine AWp_sr hP ?_
 refine RK.M rfl ?_
 refine RK.V (op_neq rfl rfl) ?_
 refine RK.D ?_
 refine AWp_cond rfl (fun hb3 => ?_) (fun hb3 => ?_)
 ·have hb3_ := bneT hb3
  refine AWp_sr hP ?_
  refine RK.As rfl ?_
  refine RK.As rfl ?_
  refine RK.D ?_
  refine AWp_ret ?_
  refine ends_two rfl (.inr rfl) (res_tmp rfl) (res_tmp rfl) ?_ O_ends
  exact Sub.of_eq (md_no hb3_)
 ·have hb3_ := bneF hb3
  refine AWp_skip ?_
  refine AWp_sr hP ?_
  refine RK.G2 hT rfl rfl rfl rfl rfl rfl ?_
  refine RK.V (Eff.call0 (int_Low _ (by omega) (by omega))) ?_
  refine RK.V (op_move (rfl : _ = AV.t _)) ?_
  refine RK.V (op_extract rfl (v := .c _) rfl) ?_
  refine RK.V (op_extract rfl (v := .c _) rfl) ?_
  refine RK.As rfl ?_
  refine RK.As rfl ?_
  refine RK.D ?_
  refine AWp_sr hP ?_
  refine RK.M rfl ?_
  refine RK.M rfl ?_
  refine RK.M rfl ?_
  refine RK.V (op_sub rfl rfl (by first | exact IntWalk.i64_in _ (by omega) | rfl)) ?_
  refine RK.M rfl ?_
  refine RK.M rfl ?_
  refine RK.V (op_add rfl rfl (by first | exact IntWalk.i64_in _ (by omega) | rfl)) ?_
  refine RK.V (op_bslice hT rfl rfl rfl (es := [_, _, _]) rfl rfl rfl) ?_
  refine RK.As rfl ?_
  refine RK.D ?_
  refine AWp_sr hP ?_
  refine RK.M rfl ?_
  refine RK.V (Eff.call0 (sl_Sort3 _ _ _ (by omega) (by omega))) ?_
  refine RK.D ?_
  refine AWp_freezeBox (t := 6) rfl rfl ?_
  refine AWp_sr hP ?_
  refine RK.M rfl ?_
  refine RK.M rfl ?_
  refine RK.V (op_makeFunc rfl) ?_
  refine RK.V (Eff.call0 (sl_Index3 226 [[.v (.int .i64 (mdP d))]] (fun v : Int => decide (v % 2 = mdP d)) _ _ _ (co_middle1 _ _ (by omega)) (co_middle1 _ _ (by omega)) (md_other ho))) ?_
  refine RK.V (op_index_sl hT rfl rfl rfl rfl (by rfl) rfl (ix3b _) (by simp)) ?_
  refine RK.V (op_load_ip_one hT rfl rfl rfl ix3) ?_
  refine RK.As rfl ?_
  refine RK.As rfl ?_
  refine RK.D ?_
  refine AWp_ret ?_
  refine ends_two rfl (.inr rfl) (res_tmp rfl) (res_tmp rfl) ?_ O_ends
  exact Sub.of_eq (md_yes hb3_)
end Go.Proofs.YtpaifigafaijpaaGreatDoor
end

section
/- compose.Prime over odd primes -/
namespace Go.Proofs.YtpaifigafaijpaaGreatDoor
open Go Go.AM
set_option maxRecDepth 100000
set_option maxHeartbeats 1000000
set_option maxHeartbeats 4000000 in
theorem co_Prime (d p : Int) (h3 : 3 ≤ p) (hp6 : p < 1048576) (ho : p % 2 = 1) (hd : L 10 d) (hst : oddB p = true → d % p ≠ 0 → kr (d % p) p = 1 → sqStop (d % p) p (sqT (d % p) p) = true) (hr : 0 ≤ sqV (d % p) p ∧ 2 * sqV (d % p) p ≤ p) (hp1 : p ≤ 1000000) :
  Call0 Tryz.prog 145 [I d, Z p] (.t [PF (pmV d p), PE (pmE d p)]) := by
 have id : LB d 10 := ⟨hd⟩
 have ip : LB p 10 := ⟨(show L 6 p by unfold L; omega).mono (by decide)⟩
 have jp : InI64 p := by unfold InI64; omega
 have hm := mdV_b hr
 have hm1 := hm.1
 have hm2 := hm.2
 have hs := sq_bp hm (by omega)
 have im : LB (mdV d p) 10 := ⟨(show L 6 _ by unfold L; omega).mono (by decide)⟩
 have jm : InI64 (mdV d p) := by unfold InI64; omega
 have js : InI64 (mdV d p * mdV d p) := by unfold InI64; omega
 have j4 : InI64 (4 * p) := by unfold InI64; omega
 have iq : LB ((mdV d p * mdV d p - d) / (4 * p)) 20 := ⟨L.of_le (show L 20 (mdV d p * mdV d p - d) from lz) (by have := Int.natAbs_ediv_le_natAbs (mdV d p * mdV d p - d) (4 * p); omega)⟩
 refine callM_of (np := 0) Tryz.func145 (by kernel_rfl) rfl rfl (Nat.le_of_ble_eq_true rfl) (fun m h => absurd rfl h) (fun m h => absurd rfl h) rfl ?_
 refine AWp_sr hP ?_
 refine RK.alc guard_none (op_box rfl rfl) ?_
 refine RK.alc guard_none (op_alloc hT rfl rfl) ?_
 refine RK.As rfl ?_
 refine RK.D ?_
 refine AWp_seq ?_
 refine AWp_sr hP ?_
 refine RK.G2 hT rfl rfl rfl rfl rfl rfl ?_
 refine RK.V (Eff.call0 (q_Principal _ lz)) ?_
 refine RK.V (op_move (rfl : _ = AV.t _)) ?_
 refine RK.V (op_extract rfl (v := .a _) rfl) ?_
 refine RK.V (op_extract rfl (v := .c _) rfl) ?_
 refine RK.alc guard_none (op_alloc hT rfl rfl) ?_
 refine RK.S hT rfl rfl rfl rfl rfl rfl rfl ?_
 refine RK.As rfl ?_
 refine RK.D ?_
 refine AWp_sr hP ?_
 refine RK.M rfl ?_
 refine RK.V (op_neq rfl rfl) ?_
 refine RK.M rfl ?_
 refine RK.split (t := 21) rfl (fun hg1 => ?_) (fun hg1 => ?_)
 ·have hg1_ := bneT hg1
  refine RK.skip (guard_no rfl rfl hg1) ?_
  refine RK.skip (guard_no rfl rfl hg1) ?_
  refine RK.skip (guard_no rfl rfl hg1) ?_
  refine RK.V (op_pick_t rfl hg1 (rfl : _ = AV.p (.c _))) ?_
  refine RK.D ?_
  refine AWp_cond_true rfl rfl ?_
  refine AWp_sr hP ?_
  refine RK.V (op_build_st hT rfl rfl rfl (es := [_, _, _, _, _, _]) rfl) ?_
  refine RK.S hT rfl rfl rfl rfl rfl rfl rfl ?_
  refine RK.As rfl ?_
  refine RK.D ?_
  refine AWp_ret ?_
  refine ends_two rfl (.inr rfl) (res_cell_agg hT rfl rfl rfl rfl (cs := [_, _, _, _, _, _]) rfl rfl) (res_tmp rfl) ?_ O_ends
  exact Sub.of_eq (pm_err (pm_5a hg1_) (by decide))
 ·have hg1_ := bneF hg1
  refine RK.val (guard_yes rfl rfl hg1) (op_field_loc hT rfl rfl rfl rfl rfl rfl) ?_
  refine RK.val (guard_yes rfl rfl hg1) (op_load_one hT rfl rfl rfl rfl (by first | rfl | exact vget (by omega))) ?_
  refine RK.val (guard_yes rfl rfl hg1) (op_unot rfl) ?_
  refine RK.V (op_pick_f rfl hg1 (rfl : _ = AV.p (.c _))) ?_
  refine RK.D ?_
  refine AWp_cond rfl (fun hb2 => ?_) (fun hb2 => ?_)
  ·have hb2_ := (notT hb2)
   refine AWp_sr hP ?_
   refine RK.V (op_build_st hT rfl rfl rfl (es := [_, _, _, _, _, _]) rfl) ?_
   refine RK.S hT rfl rfl rfl rfl rfl rfl rfl ?_
   refine RK.As rfl ?_
   refine RK.D ?_
   refine AWp_ret ?_
   refine ends_two rfl (.inr rfl) (res_cell_agg hT rfl rfl rfl rfl (cs := [_, _, _, _, _, _]) rfl rfl) (res_tmp rfl) ?_ O_ends
   exact Sub.of_eq (pm_err (pm_5b (of_decide_eq_false hb2_)) (by decide))
  ·have hb2_ := (notF hb2)
   refine AWp_skip ?_
   refine AWp_seq ?_
   refine AWp_sr hP ?_
   refine RK.M rfl ?_
   refine RK.V (op_geq rfl rfl) ?_
   refine RK.M rfl ?_
   refine RK.val (guard_yes rfl rfl (decide_eq_false (by omega))) (op_move (rfl : _ = AV.p (.c _))) ?_
   refine RK.val (guard_yes rfl rfl (decide_eq_false (by omega))) (Eff.call0 (co_isPrime _ (by omega) (by omega))) ?_
   refine RK.val (guard_yes rfl rfl (decide_eq_false (by omega))) (op_unot rfl) ?_
   refine RK.V (op_pick_f rfl (decide_eq_false (by omega)) (rfl : _ = AV.p (.c _))) ?_
   refine RK.D ?_
   refine AWp_cond rfl (fun hb4 => ?_) (fun hb4 => ?_)
   ·have hb4_ := (notT hb4)
    refine AWp_sr hP ?_
    refine RK.V (op_build_st hT rfl rfl rfl (es := [_, _, _, _, _, _]) rfl) ?_
    refine RK.S hT rfl rfl rfl rfl rfl rfl rfl ?_
    refine RK.As rfl ?_
    refine RK.D ?_
    refine AWp_ret ?_
    refine ends_two rfl (.inr rfl) (res_cell_agg hT rfl rfl rfl rfl (cs := [_, _, _, _, _, _]) rfl rfl) (res_tmp rfl) ?_ O_ends
    exact Sub.of_eq (pm_err (pm_7 hg1_ (of_decide_eq_true hb2_) hb4_) (by decide))
   ·have hb4_ := (notF hb4)
    refine AWp_skip ?_
    refine AWp_sr hP ?_
    refine RK.G2 hT rfl rfl rfl rfl rfl rfl ?_
    refine RK.M rfl ?_
    refine RK.V (Eff.call0 (co_middle d p h3 (by omega) ho hd hst hr)) ?_
    refine RK.V (op_move (rfl : _ = AV.t _)) ?_
    refine RK.V (op_extract rfl (v := .c _) rfl) ?_
    refine RK.V (op_extract rfl (v := .c _) rfl) ?_
    refine RK.As rfl ?_
    refine RK.As rfl ?_
    refine RK.D ?_
    refine AWp_seq ?_
    refine AWp_sr hP ?_
    refine RK.M rfl ?_
    refine RK.V (op_unot rfl) ?_
    refine RK.D ?_
    refine AWp_cond rfl (fun hb5 => ?_) (fun hb5 => ?_)
    ·have hb5_ := (notT hb5)
     refine AWp_sr hP ?_
     refine RK.V (op_build_st hT rfl rfl rfl (es := [_, _, _, _, _, _]) rfl) ?_
     refine RK.S hT rfl rfl rfl rfl rfl rfl rfl ?_
     refine RK.As rfl ?_
     refine RK.D ?_
     refine AWp_ret ?_
     refine ends_two rfl (.inr rfl) (res_cell_agg hT rfl rfl rfl rfl (cs := [_, _, _, _, _, _]) rfl rfl) (res_tmp rfl) ?_ O_ends
     exact Sub.of_eq (pm_err (pm_6a hg1_ (of_decide_eq_true hb2_) hb4_ (of_decide_eq_false hb5_)) (by decide))
    ·have hb5_ := (notF hb5)
     refine AWp_skip ?_
     refine AWp_sr hP ?_
     refine RK.M rfl ?_
     refine RK.M rfl ?_
     refine RK.V (op_mul rfl rfl (by first | exact IntWalk.i64_in _ (by omega) | rfl)) ?_
     refine RK.V (Eff.call0 (co_of _ (by first | assumption | decide))) ?_
     refine RK.G2 hT rfl rfl rfl rfl rfl rfl ?_
     refine RK.V (Eff.call0 (int_Sub _ _ lz lz)) ?_
     refine RK.M rfl ?_
     refine RK.V (op_mul rfl rfl (by first | exact IntWalk.i64_in _ (by omega) | rfl)) ?_
     refine RK.V (Eff.call0 (co_of _ (by first | assumption | decide))) ?_
     refine RK.V (Eff.call0 (int_DivMod _ _ lz lz (by omega))) ?_
     refine RK.V (op_move (rfl : _ = AV.t _)) ?_
     refine RK.V (op_extract rfl (v := .a _) rfl) ?_
     refine RK.V (op_extract rfl (v := .a _) rfl) ?_
     refine RK.V (op_extract rfl (v := .c _) rfl) ?_
     refine RK.alc guard_none (op_alloc hT rfl rfl) ?_
     refine RK.alc guard_none (op_alloc hT rfl rfl) ?_
     refine RK.S hT rfl rfl rfl rfl rfl rfl rfl ?_
     refine RK.S hT rfl rfl rfl rfl rfl rfl rfl ?_
     refine RK.As rfl ?_
     refine RK.D ?_
     refine AWp_sr hP ?_
     refine RK.M rfl ?_
     refine RK.V (Eff.call0 (co_of _ (by first | assumption | decide))) ?_
     refine RK.M rfl ?_
     refine RK.V (Eff.call0 (co_of _ (by first | assumption | decide))) ?_
     refine RK.G2 hT rfl rfl rfl rfl rfl rfl ?_
     refine RK.V (op_build_st hT rfl rfl rfl (es := [_, _, _, _, _, _]) rfl) ?_
     refine RK.alc guard_none (op_alloc hT rfl rfl) ?_
     refine RK.S hT rfl rfl rfl rfl rfl rfl rfl ?_
     refine RK.D ?_
     refine AWp_seq ?_
     refine AWp_sr hP ?_
     refine RK.G6 hT rfl rfl rfl rfl rfl rfl ?_
     refine RK.V (Eff.call0 (q_Primitive _ _ _ lz lz lz)) ?_
     refine RK.V (op_unot rfl) ?_
     refine RK.D ?_
     refine AWp_cond rfl (fun hb6 => ?_) (fun hb6 => ?_)
     ·have hb6_ := (notT hb6)
      refine AWp_sr hP ?_
      refine RK.V (op_build_st hT rfl rfl rfl (es := [_, _, _, _, _, _]) rfl) ?_
      refine RK.S hT rfl rfl rfl rfl rfl rfl rfl ?_
      refine RK.As rfl ?_
      refine RK.D ?_
      refine AWp_ret ?_
      refine ends_two rfl (.inr rfl) (res_cell_agg hT rfl rfl rfl rfl (cs := [_, _, _, _, _, _]) rfl rfl) (res_tmp rfl) ?_ O_ends
      exact Sub.of_eq (pm_err (pm_6b hg1_ (of_decide_eq_true hb2_) hb4_ (of_decide_eq_true hb5_) hb6_) (by decide))
     ·have hb6_ := (notF hb6)
      refine AWp_skip ?_
      refine AWp_sr hP ?_
      refine RK.G6 hT rfl rfl rfl rfl rfl rfl ?_
      refine RK.V (Eff.call0 (co_reduced _ _ _ lz lz lz)) ?_
      refine RK.S hT rfl rfl rfl rfl rfl rfl rfl ?_
      refine RK.As rfl ?_
      refine RK.D ?_
      refine AWp_ret ?_
      refine ends_two rfl (.inr rfl) (res_cell_agg hT rfl rfl rfl rfl (cs := [_, _, _, _, _, _]) rfl rfl) (res_tmp rfl) ?_ O_ends
      exact Sub.of_eq (pm_0 hg1_ (of_decide_eq_true hb2_) hb4_ (of_decide_eq_true hb5_) hb6_)
end Go.Proofs.YtpaifigafaijpaaGreatDoor
end

section
/- chapter 9: prime, is, same -/
namespace Go.Proofs.YtpaifigafaijpaaGreatDoor
open Go Go.AM
set_option maxRecDepth 100000
set_option maxHeartbeats 1000000
theorem l_prime (d p : Int) (h3 : 3 ≤ p) (hp6 : p < 1048576) (ho : p % 2 = 1) (hd : L 10 d) (hst : oddB p = true → d % p ≠ 0 → kr (d % p) p = 1 → sqStop (d % p) p (sqT (d % p) p) = true) (hr : 0 ≤ sqV (d % p) p ∧ 2 * sqV (d % p) p ≤ p) (hp1 : p ≤ 1000000) :
  Call0 Tryz.prog 65 [I d, Z p] (.p (.a (FL (pmV d p).a (pmV d p).b (pmV d p).c ++ [.v (.int .i64 (pmE d p))]))) := by
 refine callM_of (np := 0) Tryz.func65 (by kernel_rfl) rfl rfl (Nat.le_of_ble_eq_true rfl) (fun m h => absurd rfl h) (fun m h => absurd rfl h) rfl ?_
 refine AWp_sr hP ?_
 refine RK.alc guard_none (op_box rfl rfl) ?_
 refine RK.alc guard_none (op_alloc hT rfl rfl) ?_
 refine RK.D ?_
 refine AWp_sr hP ?_
 refine RK.G2 hT rfl rfl rfl rfl rfl rfl ?_
 refine RK.M rfl ?_
 refine RK.V (Eff.call0 (co_Prime d p h3 hp6 ho hd hst hr hp1)) ?_
 refine RK.V (op_move (rfl : _ = AV.t _)) ?_
 refine RK.V (op_extract rfl (v := .a _) rfl) ?_
 refine RK.V (op_extract rfl (v := .c _) rfl) ?_
 refine RK.alc guard_none (op_alloc hT rfl rfl) ?_
 refine RK.S hT rfl rfl rfl rfl rfl rfl rfl ?_
 refine RK.As rfl ?_
 refine RK.D ?_
 refine AWp_sr hP ?_
 refine RK.G6 hT rfl rfl rfl rfl rfl rfl ?_
 refine RK.M rfl ?_
 refine RK.V (op_build_st hT rfl rfl rfl (es := [_, _, _, _, _, _, _]) rfl) ?_
 refine RK.S hT rfl rfl rfl rfl rfl rfl rfl ?_
 refine RK.D ?_
 refine AWp_ret ?_
 refine ends_one rfl (.inr rfl) (res_cell_agg hT rfl rfl rfl rfl (cs := [_, _, _, _, _, _, _]) rfl rfl) ?_ O_ends
 exact .refl _
theorem l_is (f g : Fm) (e : Int) :
  Call0 Tryz.prog 58 [.p (.a (FL f.a f.b f.c ++ [.v (.int .i64 e)])), FA g.a g.b g.c] (B (decide (e = 0) && decide (f = g))) := by
 refine callM_of (np := 0) Tryz.func58 (by kernel_rfl) rfl rfl (Nat.le_of_ble_eq_true rfl) (fun m h => absurd rfl h) (fun m h => absurd rfl h) rfl ?_
 refine AWp_sr hP ?_
 refine RK.alc guard_none (op_box rfl rfl) ?_
 refine RK.alc guard_none (op_box rfl rfl) ?_
 refine RK.As rfl ?_
 refine RK.D ?_
 refine AWp_sr hP ?_
 refine RK.F hT rfl rfl rfl rfl rfl rfl ?_
 refine RK.V (op_load_one hT rfl rfl rfl rfl (by first | rfl | exact vget (by omega))) ?_
 refine RK.V (op_eql rfl rfl) ?_
 refine RK.M rfl ?_
 refine RK.split (t := 8) rfl (fun hg1 => ?_) (fun hg1 => ?_)
 ·have hg1_ := bT hg1
  refine RK.val (guard_yes rfl rfl hg1) (op_field_loc hT rfl rfl rfl rfl rfl rfl) ?_
  refine RK.val (guard_yes rfl rfl hg1) (op_load_agg hT rfl rfl rfl rfl (cs := [_, _, _, _, _, _]) rfl rfl) ?_
  refine RK.val (guard_yes rfl rfl hg1) (op_load_agg hT rfl rfl rfl rfl (cs := [_, _, _, _, _, _]) rfl rfl) ?_
  refine RK.val (guard_yes rfl rfl hg1) (Eff.call0 (r8_Equal _ _ _ _ _ _)) ?_
  refine RK.V (op_pick_t rfl hg1 (rfl : _ = AV.p (.c _))) ?_
  refine RK.As rfl ?_
  refine RK.D ?_
  refine AWp_ret ?_
  refine ends_one rfl (.inr rfl) (res_tmp rfl) ?_ O_ends
  exact Sub.bool (is_1 hg1_)
 ·have hg1_ := bF hg1
  refine RK.skip (guard_no rfl rfl hg1) ?_
  refine RK.skip (guard_no rfl rfl hg1) ?_
  refine RK.skip (guard_no rfl rfl hg1) ?_
  refine RK.skip (guard_no rfl rfl hg1) ?_
  refine RK.V (op_pick_f rfl hg1 (rfl : _ = AV.p (.c _))) ?_
  refine RK.As rfl ?_
  refine RK.D ?_
  refine AWp_ret ?_
  refine ends_one rfl (.inr rfl) (res_tmp rfl) ?_ O_ends
  exact Sub.bool (is_2 hg1_)
theorem l_same (f g : Fm) (e k : Int) :
  Call0 Tryz.prog 45 [.p (.a (FL f.a f.b f.c ++ [.v (.int .i64 e)])), FA g.a g.b g.c, Z k] (B (decide (e = k) && decide (f = g))) := by
 refine callM_of (np := 0) Tryz.func45 (by kernel_rfl) rfl rfl (Nat.le_of_ble_eq_true rfl) (fun m h => absurd rfl h) (fun m h => absurd rfl h) rfl ?_
 refine AWp_sr hP ?_
 refine RK.alc guard_none (op_box rfl rfl) ?_
 refine RK.alc guard_none (op_box rfl rfl) ?_
 refine RK.As rfl ?_
 refine RK.D ?_
 refine AWp_sr hP ?_
 refine RK.F hT rfl rfl rfl rfl rfl rfl ?_
 refine RK.V (op_load_one hT rfl rfl rfl rfl (by first | rfl | exact vget (by omega))) ?_
 refine RK.M rfl ?_
 refine RK.V (op_eql rfl rfl) ?_
 refine RK.M rfl ?_
 refine RK.split (t := 11) rfl (fun hg1 => ?_) (fun hg1 => ?_)
 ·have hg1_ := bT hg1
  refine RK.val (guard_yes rfl rfl hg1) (op_field_loc hT rfl rfl rfl rfl rfl rfl) ?_
  refine RK.val (guard_yes rfl rfl hg1) (op_load_agg hT rfl rfl rfl rfl (cs := [_, _, _, _, _, _]) rfl rfl) ?_
  refine RK.val (guard_yes rfl rfl hg1) (op_load_agg hT rfl rfl rfl rfl (cs := [_, _, _, _, _, _]) rfl rfl) ?_
  refine RK.val (guard_yes rfl rfl hg1) (Eff.call0 (r8_Equal _ _ _ _ _ _)) ?_
  refine RK.V (op_pick_t rfl hg1 (rfl : _ = AV.p (.c _))) ?_
  refine RK.As rfl ?_
  refine RK.D ?_
  refine AWp_ret ?_
  refine ends_one rfl (.inr rfl) (res_tmp rfl) ?_ O_ends
  exact Sub.bool (is_1 hg1_)
 ·have hg1_ := bF hg1
  refine RK.skip (guard_no rfl rfl hg1) ?_
  refine RK.skip (guard_no rfl rfl hg1) ?_
  refine RK.skip (guard_no rfl rfl hg1) ?_
  refine RK.skip (guard_no rfl rfl hg1) ?_
  refine RK.V (op_pick_f rfl hg1 (rfl : _ = AV.p (.c _))) ?_
  refine RK.As rfl ?_
  refine RK.D ?_
  refine AWp_ret ?_
  refine ends_one rfl (.inr rfl) (res_tmp rfl) ?_ O_ends
  exact Sub.bool (is_2 hg1_)
theorem l_prime3 : Call0 Tryz.prog 65 [I (-23), Z 3] (.p (.a (FL 2 (-1) 3 ++ [.v (.int .i64 0)]))) := by
 have h := l_prime (-23) 3 (by decide) (by decide) (by decide) ((show L 6 (-23) by unfold L; decide).mono (by decide)) (fun _ _ _ => by decide +kernel) (by decide +kernel) (by decide)
 have e1 : pmV (-23) 3 = ⟨2, -1, 3⟩ := by decide +kernel
 have e2 : pmE (-23) 3 = 0 := by decide +kernel
 rw [e1, e2] at h
 exact h
theorem l_prime5 : Call0 Tryz.prog 65 [I (-23), Z 5] (.p (.a (FL 0 0 0 ++ [.v (.int .i64 6)]))) := by
 have h := l_prime (-23) 5 (by decide) (by decide) (by decide) ((show L 6 (-23) by unfold L; decide).mono (by decide)) (fun _ _ _ => by decide +kernel) (by decide +kernel) (by decide)
 have e1 : pmV (-23) 5 = ⟨0, 0, 0⟩ := by decide +kernel
 have e2 : pmE (-23) 5 = 6 := by decide +kernel
 rw [e1, e2] at h
 exact h
end Go.Proofs.YtpaifigafaijpaaGreatDoor
end

section
/- chapter 9: the examples -/
namespace Go.Proofs.YtpaifigafaijpaaGreatDoor
open Go Go.AM
set_option maxRecDepth 100000
set_option maxHeartbeats 1000000
set_option maxHeartbeats 8000000 in
theorem l_examples  :
  Call0 Tryz.prog 42 [] (B true) := by
 refine callM_of (np := 0) Tryz.func42 (by kernel_rfl) rfl rfl (Nat.le_of_ble_eq_true rfl) (fun m h => absurd rfl h) (fun m h => absurd rfl h) rfl ?_
 refine AWp_sr hP ?_
 refine RK.As rfl ?_
 refine RK.D ?_
 refine AWp_sr hP ?_
 refine RK.V (Eff.call0 (r8_Of _ _ _ (by first | assumption | decide) (by first | assumption | decide) (by first | assumption | decide))) ?_
 refine RK.V (Eff.call0 (r8_Of _ _ _ (by first | assumption | decide) (by first | assumption | decide) (by first | assumption | decide))) ?_
 refine RK.V (Eff.call0 (r8_Of _ _ _ (by first | assumption | decide) (by first | assumption | decide) (by first | assumption | decide))) ?_
 refine RK.alc guard_none (op_alloc hT rfl rfl) ?_
 refine RK.alc guard_none (op_alloc hT rfl rfl) ?_
 refine RK.alc guard_none (op_alloc hT rfl rfl) ?_
 refine RK.S hT rfl rfl rfl rfl rfl rfl rfl ?_
 refine RK.S hT rfl rfl rfl rfl rfl rfl rfl ?_
 refine RK.S hT rfl rfl rfl rfl rfl rfl rfl ?_
 refine RK.D ?_
 refine AWp_sr hP ?_
 refine RK.G6 hT rfl rfl rfl rfl rfl rfl ?_
 refine RK.V (Eff.call0 (co_Order ⟨2, 1, 3⟩ 6 (by unfold L; decide) (by unfold L; decide) (by unfold L; decide)  (by decide) (fun _ => by decide))) ?_
 refine RK.V (op_move (rfl : _ = AV.t _)) ?_
 refine RK.V (op_extract rfl (v := .c _) rfl) ?_
 refine RK.V (op_extract rfl (v := .c _) rfl) ?_
 refine RK.As rfl ?_
 refine RK.As rfl ?_
 refine RK.D ?_
 refine AWp_sr hP ?_
 refine RK.G6 hT rfl rfl rfl rfl rfl rfl ?_
 refine RK.V (Eff.call0 (co_Order ⟨2, 1, 3⟩ 4 (by unfold L; decide) (by unfold L; decide) (by unfold L; decide)  (by decide) (fun _ => by decide))) ?_
 refine RK.V (op_move (rfl : _ = AV.t _)) ?_
 refine RK.V (op_extract rfl (v := .c _) rfl) ?_
 refine RK.V (op_extract rfl (v := .c _) rfl) ?_
 refine RK.As rfl ?_
 refine RK.As rfl ?_
 refine RK.D ?_
 refine AWp_sr hP ?_
 refine RK.G6 hT rfl rfl rfl rfl rfl rfl ?_
 refine RK.G6 hT rfl rfl rfl rfl rfl rfl ?_
 refine RK.G6 hT rfl rfl rfl rfl rfl rfl ?_
 refine RK.G6 hT rfl rfl rfl rfl rfl rfl ?_
 refine RK.V (op_bslice hT rfl rfl rfl (es := [_, _, _, _, _, _, _, _, _, _, _, _, _, _, _, _, _, _]) rfl rfl rfl) ?_
 refine RK.V (Eff.call0 (co_Roots ⟨2, 1, 3⟩ [⟨1, 1, 6⟩, ⟨2, 1, 3⟩, ⟨2, -1, 3⟩] (by unfold L; decide) (by unfold L; decide) (by unfold L; decide)  (by unfold L; decide) (by decide) (by decide))) ?_
 refine RK.V (op_move (rfl : _ = AV.t _)) ?_
 refine RK.V (op_extract rfl (v := .c _) rfl) ?_
 refine RK.V (op_extract rfl (v := .c _) rfl) ?_
 refine RK.As rfl ?_
 refine RK.As rfl ?_
 refine RK.D ?_
 refine AWp_sr hP ?_
 refine RK.V (Eff.call0 (r_Of _ (by first | assumption | decide))) ?_
 refine RK.V (Eff.call0 l_prime5) ?_
 refine RK.alc guard_none (op_alloc hT rfl rfl) ?_
 refine RK.S hT rfl rfl rfl rfl rfl rfl rfl ?_
 refine RK.D ?_
 refine AWp_sr hP ?_
 refine RK.G6 hT rfl rfl rfl rfl rfl rfl ?_
 refine RK.V (Eff.call0 (r8_Of _ _ _ (by first | assumption | decide) (by first | assumption | decide) (by first | assumption | decide))) ?_
 refine RK.V (Eff.call0 (l_product ⟨2, 1, 3⟩ ⟨1, 0, 1⟩ (by unfold L; decide) (by unfold L; decide) (by unfold L; decide)  (by unfold L; decide) (by unfold L; decide) (by unfold L; decide) )) ?_
 refine RK.alc guard_none (op_alloc hT rfl rfl) ?_
 refine RK.S hT rfl rfl rfl rfl rfl rfl rfl ?_
 refine RK.D ?_
 refine AWp_seq ?_
 refine AWp_sr hP ?_
 refine RK.M rfl ?_
 refine RK.V (op_neq rfl rfl) ?_
 refine RK.M rfl ?_
 refine RK.val (guard_yes rfl rfl (by decide +kernel)) (op_move (rfl : _ = AV.p (.c _))) ?_
 refine RK.val (guard_yes rfl rfl (by decide +kernel)) (op_neq rfl rfl) ?_
 refine RK.V (op_pick_f rfl (by decide +kernel) (rfl : _ = AV.p (.c _))) ?_
 refine RK.M rfl ?_
 refine RK.val (guard_yes rfl rfl (by decide +kernel)) (op_move (rfl : _ = AV.p (.c _))) ?_
 refine RK.val (guard_yes rfl rfl (by decide +kernel)) (op_neq rfl rfl) ?_
 refine RK.V (op_pick_f rfl (by decide +kernel) (rfl : _ = AV.p (.c _))) ?_
 refine RK.M rfl ?_
 refine RK.val (guard_yes rfl rfl (by decide +kernel)) (op_move (rfl : _ = AV.p (.c _))) ?_
 refine RK.val (guard_yes rfl rfl (by decide +kernel)) (op_neq rfl rfl) ?_
 refine RK.V (op_pick_f rfl (by decide +kernel) (rfl : _ = AV.p (.c _))) ?_
 refine RK.M rfl ?_
 refine RK.val (guard_yes rfl rfl (by decide +kernel)) (op_field_loc hT rfl rfl rfl rfl rfl rfl) ?_
 refine RK.val (guard_yes rfl rfl (by decide +kernel)) (op_load_one hT rfl rfl rfl rfl (by first | rfl | exact vget (by omega))) ?_
 refine RK.val (guard_yes rfl rfl (by decide +kernel)) (op_neq rfl rfl) ?_
 refine RK.V (op_pick_f rfl (by decide +kernel) (rfl : _ = AV.p (.c _))) ?_
 refine RK.M rfl ?_
 refine RK.val (guard_yes rfl rfl (by decide +kernel)) (op_field_loc hT rfl rfl rfl rfl rfl rfl) ?_
 refine RK.val (guard_yes rfl rfl (by decide +kernel)) (op_load_one hT rfl rfl rfl rfl (by first | rfl | exact vget (by omega))) ?_
 refine RK.val (guard_yes rfl rfl (by decide +kernel)) (op_neq rfl rfl) ?_
 refine RK.V (op_pick_f rfl (by decide +kernel) (rfl : _ = AV.p (.c _))) ?_
 refine RK.M rfl ?_
 refine RK.val (guard_yes rfl rfl (by decide +kernel)) (Eff.call0 (r8_Of _ _ _ (by first | assumption | decide) (by first | assumption | decide) (by first | assumption | decide))) ?_
 refine RK.val (guard_yes rfl rfl (by decide +kernel)) (op_load_agg hT rfl rfl rfl rfl (cs := [_, _, _, _, _, _]) rfl rfl) ?_
 refine RK.val (guard_yes rfl rfl (by decide +kernel)) (Eff.call0 (l_product ⟨2, 0, 2⟩ ⟨2, 1, 3⟩ (by unfold L; decide) (by unfold L; decide) (by unfold L; decide)  (by unfold L; decide) (by unfold L; decide) (by unfold L; decide) )) ?_
 refine RK.val (guard_yes rfl rfl (by decide +kernel)) (op_field_one hT rfl rfl rfl rfl rfl rfl rfl) ?_
 refine RK.val (guard_yes rfl rfl (by decide +kernel)) (op_neq rfl rfl) ?_
 refine RK.V (op_pick_f rfl (by decide +kernel) (rfl : _ = AV.p (.c _))) ?_
 refine RK.D ?_
 refine AWp_cond_false rfl (by decide +kernel) ?_
 refine AWp_skip ?_
 refine AWp_sr hP ?_
 refine RK.G6 hT rfl rfl rfl rfl rfl rfl ?_
 refine RK.G6 hT rfl rfl rfl rfl rfl rfl ?_
 refine RK.V (Eff.call0 (l_product ⟨2, 1, 3⟩ ⟨2, 1, 3⟩ (by unfold L; decide) (by unfold L; decide) (by unfold L; decide)  (by unfold L; decide) (by unfold L; decide) (by unfold L; decide) )) ?_
 refine RK.G6 hT rfl rfl rfl rfl rfl rfl ?_
 refine RK.V (Eff.call0 (l_is (cmV ⟨2, 1, 3⟩ ⟨2, 1, 3⟩) ⟨2, -1, 3⟩ (cmE ⟨2, 1, 3⟩ ⟨2, 1, 3⟩))) ?_
 refine RK.M rfl ?_
 refine RK.val (guard_yes rfl rfl (by decide +kernel)) (op_load_agg hT rfl rfl rfl rfl (cs := [_, _, _, _, _, _]) rfl rfl) ?_
 refine RK.val (guard_yes rfl rfl (by decide +kernel)) (op_load_agg hT rfl rfl rfl rfl (cs := [_, _, _, _, _, _]) rfl rfl) ?_
 refine RK.val (guard_yes rfl rfl (by decide +kernel)) (Eff.call0 (l_product ⟨2, 1, 3⟩ ⟨2, -1, 3⟩ (by unfold L; decide) (by unfold L; decide) (by unfold L; decide)  (by unfold L; decide) (by unfold L; decide) (by unfold L; decide) )) ?_
 refine RK.val (guard_yes rfl rfl (by decide +kernel)) (op_load_agg hT rfl rfl rfl rfl (cs := [_, _, _, _, _, _]) rfl rfl) ?_
 refine RK.val (guard_yes rfl rfl (by decide +kernel)) (Eff.call0 (l_is (cmV ⟨2, 1, 3⟩ ⟨2, -1, 3⟩) ⟨1, 1, 6⟩ (cmE ⟨2, 1, 3⟩ ⟨2, -1, 3⟩))) ?_
 refine RK.V (op_pick_t rfl (by decide +kernel) (rfl : _ = AV.p (.c _))) ?_
 refine RK.M rfl ?_
 refine RK.val (guard_yes rfl rfl (by decide +kernel)) (op_load_agg hT rfl rfl rfl rfl (cs := [_, _, _, _, _, _]) rfl rfl) ?_
 refine RK.val (guard_yes rfl rfl (by decide +kernel)) (Eff.call0 (r_Of _ (by first | assumption | decide))) ?_
 refine RK.val (guard_yes rfl rfl (by decide +kernel)) (Eff.call0 (l_power ⟨2, 1, 3⟩ (-1) (by unfold L; decide) (by unfold L; decide) (by unfold L; decide)  ((show L 6 (-1) by unfold L; decide).mono (by decide)) (fun _ => .inr (by decide)))) ?_
 refine RK.val (guard_yes rfl rfl (by decide +kernel)) (op_load_agg hT rfl rfl rfl rfl (cs := [_, _, _, _, _, _]) rfl rfl) ?_
 refine RK.val (guard_yes rfl rfl (by decide +kernel)) (Eff.call0 (l_is (pwV ⟨2, 1, 3⟩ (-1)) ⟨2, -1, 3⟩ (rfE ⟨2, 1, 3⟩))) ?_
 refine RK.V (op_pick_t rfl (by decide +kernel) (rfl : _ = AV.p (.c _))) ?_
 refine RK.M rfl ?_
 refine RK.val (guard_yes rfl rfl (by decide +kernel)) (Eff.call0 (r_Of _ (by first | assumption | decide))) ?_
 refine RK.val (guard_yes rfl rfl (by decide +kernel)) (Eff.call0 l_prime3) ?_
 refine RK.val (guard_yes rfl rfl (by decide +kernel)) (op_load_agg hT rfl rfl rfl rfl (cs := [_, _, _, _, _, _]) rfl rfl) ?_
 refine RK.val (guard_yes rfl rfl (by decide +kernel)) (Eff.call0 (l_is ⟨2, -1, 3⟩ ⟨2, -1, 3⟩ 0)) ?_
 refine RK.V (op_pick_t rfl (by decide +kernel) (rfl : _ = AV.p (.c _))) ?_
 refine RK.M rfl ?_
 refine RK.val (guard_yes rfl rfl (by decide +kernel)) (op_move (rfl : _ = AV.p (.c _))) ?_
 refine RK.val (guard_yes rfl rfl (by decide +kernel)) (op_load_agg hT rfl rfl rfl rfl (cs := [_, _, _, _, _, _]) rfl rfl) ?_
 refine RK.val (guard_yes rfl rfl (by decide +kernel)) (op_bslice hT rfl rfl rfl (es := [_, _, _, _, _, _]) rfl rfl rfl) ?_
 refine RK.val (guard_yes rfl rfl (by decide +kernel)) (Eff.call0 (r9_SameList (rtsL ⟨2, 1, 3⟩ [⟨1, 1, 6⟩, ⟨2, 1, 3⟩, ⟨2, -1, 3⟩]) [⟨2, -1, 3⟩] (by decide +kernel))) ?_
 refine RK.V (op_pick_t rfl (by decide +kernel) (rfl : _ = AV.p (.c _))) ?_
 refine RK.As rfl ?_
 refine RK.D ?_
 refine AWp_ret ?_
 refine ends_one rfl (.inr rfl) (res_tmp rfl) ?_ O_ends
 exact Sub.bool (by decide +kernel)
end Go.Proofs.YtpaifigafaijpaaGreatDoor
end

section
/- (nothing here) -/
end
