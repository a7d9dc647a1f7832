/- Texts merged by program, in build order. -/
import Derived.Test.YtkdfinfdocdpoaaDoorMT
import Derived.Test.YtkdfinfdocdpoaaDoorME
import Derived.Test.YtkdfinfdocdpoaaDoorMG
import Derived.Test.YtkdfinfdocdpoaaDoorMJ
import Derived.Test.YtkdfinfdocdpoaaDoorMC
import Derived.RangeFuncBox
import Derived.RangeFuncWrites
import Derived.RangeFuncLeaves
import Derived.Shelf.Abstract
import Derived.WalkKit
import Derived.OwnWalkIn
import Derived.TacticsInMore
import Derived.LoopNIn
import Derived.LoopIn
import Derived.Lib.Hide
import Derived.Test.YtkdfinfdocdpoaaDoorRows
import Derived.Test.YtkdfinfdocdpoaaDoorTie
import Derived.Test.YtkdfinfdocdpoaaDoorCards
section
/- integer.Low at numbers from 2^63 on -/
namespace Go.Proofs.YtkdfinfdocdpoaaDoor
open Go Go.AM Go.RowKit Go.Shelf
attribute [local go_sem] Oper.semAt_some
namespace Low
def bigV (neg : Bool) (m : Nat) : Int := bif neg && decide (m = 9223372036854775808) then -9223372036854775808 else 0
def bigO (neg : Bool) (m : Nat) : Bool := neg && decide (m = 9223372036854775808)
set_option maxRecDepth 100000 in
set_option maxHeartbeats 4000000 in
/-- the loop, and what it leaves -/
theorem Low_big (F : Fence) (n : Nat) (h3 : F.fn 45) (h5 : F.fn 69) (h7 : F.fn 85) (hro : F.round = none) (hn : 3 ≤ n) (neg : Bool) (a : Option Addr) (cap : Nat) (zs : List Nat) (hz : zs.length ≤ 2) (hw : ∀ x ∈ upto (bk zs) zs.length, x.2 < 4294967296) (hm : 9223372036854775808 ≤ wv zs ∧ wv zs < 18446744073709551616) (w : World) (hI : Words (w.heap.size + 1) w.heap.size w a zs) :
    CallsIn F n Tryd.prog 45 #[.agg #[.bool neg, .slice a zs.length cap]] w fun e W' => e = .returned (.tuple #[.int .i64 (bigV neg (wv zs)), .bool (bigO neg (wv zs))]) ∧ Below w.heap.size w W' := by
  have h1 : 1 ≤ n := by omega
  refine callsIn_of_wp_marks Tryd.func45 rfl h3 ?_ hro
  simp only [Tryd.ntmps45, List.size_toArray, List.length_cons, List.length_nil, Nat.reduceAdd, Nat.reduceSub, Array.replicate_succ, Array.replicate_zero, List.push_toArray, List.append_toArray, List.nil_append, List.cons_append]
  have hz2 : decide ((zs.length : Int) > 2) = false := by simp; omega
  gi_wp2_with (gi_at_call 69; refine (backward_in F (n - 1) h5 hro _ _ _ _).mono ?_; rintro e w' ⟨rfl, rfl⟩)
  clear hz2
  have T3 := three w (.cells #[.bool neg, .slice a zs.length cap] 35) (.cells #[.int .u64 0] 68) (.cells #[.slice a zs.length cap] 33)
  have bA : (((w.alloc (.cells #[.bool neg, .slice a zs.length cap] 35)).alloc (.cells #[.int .u64 0] 68)).alloc (.cells #[.slice a zs.length cap] 33)).cell? ⟨w.heap.size, 0, none⟩ = some (.bool neg) := by simp only [World.cell?, T3.1]; rfl
  have bV : (((w.alloc (.cells #[.bool neg, .slice a zs.length cap] 35)).alloc (.cells #[.int .u64 0] 68)).alloc (.cells #[.slice a zs.length cap] 33)).cell? ⟨w.heap.size + 1, 0, none⟩ = some (.int .u64 0) := by simp only [World.cell?, T3.2.1]; rfl
  have bF : (((w.alloc (.cells #[.bool neg, .slice a zs.length cap] 35)).alloc (.cells #[.int .u64 0] 68)).alloc (.cells #[.slice a zs.length cap] 33)).frozen? ⟨w.heap.size + 1, 0, none⟩ = false := by simp only [World.frozen?, T3.2.1]; rfl
  have bS : (((w.alloc (.cells #[.bool neg, .slice a zs.length cap] 35)).alloc (.cells #[.int .u64 0] 68)).alloc (.cells #[.slice a zs.length cap] 33)).cell? ⟨w.heap.size + 1 + 1, 0, none⟩ = some (.slice a zs.length cap) := by simp only [World.cell?, T3.2.2]; rfl
  clear T3
  have hB0 : Below w.heap.size w (((w.alloc (.cells #[.bool neg, .slice a zs.length cap] 35)).alloc (.cells #[.int .u64 0] 68)).alloc (.cells #[.slice a zs.length cap] 33)) := (((Below.refl _ w).alloc (Nat.le_refl _) _).alloc (by simp) _).alloc (by simp; omega) _
  have hsz : (((w.alloc (.cells #[.bool neg, .slice a zs.length cap] 35)).alloc (.cells #[.int .u64 0] 68)).alloc (.cells #[.slice a zs.length cap] 33)).heap.size = w.heap.size + 3 := by simp
  refine wpIn_rangeFunc_ownG hro h1 (gf := 85) (lb := #[.pointer (some ⟨w.heap.size + 1 + 1, 0, none⟩)]) rfl h7 (enters_of Tryd.func85 (by kernel_rfl) rfl)
    (stops F (n - 1) h7 hro (by omega) (w.heap.size + 1 + 1) (w.heap.size + 1) (w.heap.size + 3) cap a zs (by omega) _ (by rw [hsz]; omega) (by omega) (by omega) (by rw [hsz]; omega) bS ((hI.below hB0 (Nat.le_refl _)).more (by omega))) KB.trans (KB.put (by rw [hsz]; omega)) (Below.refl _ _) (fun _ => rfl)
    (fun pre W => (W.cell? ⟨w.heap.size, 0, none⟩ = some (.bool neg) ∧ (∃ v : Int, W.cell? ⟨w.heap.size + 1, 0, none⟩ = some (.int .u64 v) ∧ ((∀ x ∈ pre, x.2 < 4294967296) → v = (acc pre : Nat))) ∧ W.frozen? ⟨w.heap.size + 1, 0, none⟩ = false) ∧ Below w.heap.size w W)
    (fun _ _ _ => False)
    (OwnFrom.and (Own.from (fun s A B row hs hg hr => by obtain ⟨e1, ⟨v, e2, e3⟩, e4⟩ := hs; exact ⟨cell_kept e1 hg hr, ⟨v, cell_kept e2 hg hr, e3⟩, (frozen_kept e2 hg hr).trans e4⟩) _) (ownFrom_below (Nat.le_refl _) (by rw [hsz]; omega)))
    (fun _ _ _ _ _ hs _ _ => hs)
    ⟨⟨bA, ⟨0, bV, fun _ => rfl⟩, bF⟩, hB0⟩
    (fun x => { tmps := #[.agg #[.bool neg, .slice a zs.length cap], .pointer (some ⟨w.heap.size, 0, none⟩), .int .i64 0, .bool false, .pointer (some ⟨w.heap.size + 1, 0, none⟩), undef, .int .u32 (x.2 : Int), undef, .pointer (some ⟨w.heap.size, 1, none⟩), .slice a zs.length cap, .int .i64 zs.length, .bool false, .pointer (some ⟨w.heap.size, 1, none⟩), .slice a zs.length cap, .func (.func 85) #[] #[.pointer (some ⟨w.heap.size + 1 + 1, 0, none⟩)], .int .i64 x.1, .int .u32 (x.2 : Int), undef, undef, undef, undef, undef, undef, undef, undef, undef, undef, undef, undef, undef, undef, undef, undef, undef, undef, undef, undef, undef], defers := [] }) ?assign ?body ?done ?stop
  case assign =>
    intro l x W K hK
    gi_wp2
    exact hK
  case body =>
    rintro l pre x W ⟨⟨hA, ⟨v, hc, hv⟩, hf⟩, hB⟩ hlen
    gi_wp2
    refine ⟨(KeepsOthers.setCell _ _ _).from _, KB.set _ _ _ _ _, ⟨(cell_set_other _ _ (by simp)).trans hA, ⟨_, World.cell?_setCell_same' _ _ _ (by rw [hc]; rfl), fun hb => ?_⟩, by rw [World.frozen?_setCell]; exact hf⟩, hB.setCell (p := ⟨w.heap.size + 1, 0, none⟩) (by simp) _⟩
    rw [hv (fun y hy => hb y (List.mem_append_left _ hy)), acc_snoc]
    have h8 := acc_lt pre (fun y hy => hb y (List.mem_append_left _ hy))
    have h9 : 4294967296 ^ pre.length ≤ 4294967296 ^ 1 := Nat.pow_le_pow_right (by decide) (by omega)
    exact or_acc (by omega) (hb x (by simp))
  case done =>
    rintro D ys W hD rfl ⟨⟨hA, ⟨v, hc, hv⟩, hf⟩, hB⟩ hK
    have hv := hv hw
    rw [acc_all zs hz] at hv
    subst hv
    generalize hmz : wv zs = m at *
    have Hz := Lib.hid hmz
    clear hmz
    clear bA bV bF bS hB0
    have hx : wrap64 (m : Int) = (m : Int) - 18446744073709551616 := by simp only [wrap64]; first | omega | (simp; omega)
    cases neg
    · have d1 : (wrap64 (m : Int) != 0) = true := by rw [hx]; simp; omega
      have d2 : decide (wrap64 (m : Int) < 0) = true := by rw [hx]; simp; omega
      clear hx
      gi_wp2
      refine ⟨by simp, .inl ⟨_, _, rfl, run_takeDeferred hK, ?_⟩⟩
      refine ⟨.tuple #[.int .i64 (0), .bool false], by simp [results, Tryd.results45, go_sem], ?_, hB.trans (belowK_b (w := w) (Nat.le_refl _) W D _ _ (by rw [hsz] at hD; omega) hK rfl rfl)⟩
      rw [Hz.out]
      rfl
    · have hy : wrap64 (0 - wrap64 (m : Int)) = if m = 9223372036854775808 then -9223372036854775808 else 18446744073709551616 - (m : Int) := by rw [hx]; simp only [wrap64]; split <;> omega
      have hy' : wrap64 (-wrap64 (m : Int)) = if m = 9223372036854775808 then -9223372036854775808 else 18446744073709551616 - (m : Int) := by rw [hx]; simp only [wrap64]; split <;> omega
      clear hx
      by_cases g : m = 9223372036854775808
      · rw [if_pos g] at hy hy'
        have d1 : (wrap64 (-wrap64 (m : Int)) != 0) = true := by rw [hy']; decide
        have d2 : decide (wrap64 (-wrap64 (m : Int)) < 0) = true := by rw [hy']; decide
        have e1 : bigV true m = wrap64 (-wrap64 (m : Int)) := by rw [hy']; unfold bigV; rw [decide_eq_true g]; rfl
        have e2 : bigO true m = true := by unfold bigO; rw [decide_eq_true g]; rfl
        clear hy hy' g
        gi_wp2
        refine ⟨by simp, .inl ⟨_, _, rfl, run_takeDeferred hK, ?_⟩⟩
        refine ⟨.tuple #[.int .i64 (wrap64 (-wrap64 (m : Int))), .bool true], by simp [results, Tryd.results45, go_sem], ?_, hB.trans (belowK_b (w := w) (Nat.le_refl _) W D _ _ (by rw [hsz] at hD; omega) hK rfl rfl)⟩
        rw [Hz.out]
        rw [e1, e2]
      · rw [if_neg g] at hy hy'
        have d1 : (wrap64 (-wrap64 (m : Int)) != 0) = true := by rw [hy']; simp; omega
        have d2 : decide (wrap64 (-wrap64 (m : Int)) < 0) = false := by rw [hy']; simp; omega
        have d1' : (wrap64 (0 - wrap64 (m : Int)) != 0) = true := by rw [hy]; simp; omega
        have d2' : decide (wrap64 (0 - wrap64 (m : Int)) < 0) = false := by rw [hy]; simp; omega
        clear hy hy'
        have e1 : bigV true m = 0 := by unfold bigV; rw [decide_eq_false g]; rfl
        have e2 : bigO true m = false := by unfold bigO; rw [decide_eq_false g]; rfl
        clear g
        gi_wp2
        refine ⟨by simp, .inl ⟨_, _, rfl, run_takeDeferred hK, ?_⟩⟩
        refine ⟨.tuple #[.int .i64 (0), .bool false], by simp [results, Tryd.results45, go_sem], ?_, hB.trans (belowK_b (w := w) (Nat.le_refl _) W D _ _ (by rw [hsz] at hD; omega) hK rfl rfl)⟩
        rw [Hz.out]
        rw [e1, e2]
  case stop =>
    rintro D c pre W _ _ h _
    exact h.elim
theorem bigO_lw {x : Int} (hx : 9223372036854775808 ≤ x.natAbs) : bigO (decide (x < 0)) x.natAbs = lwO x := by
  unfold bigO lwO
  rw [Bool.eq_iff_iff, Bool.and_eq_true, decide_eq_true_iff, decide_eq_true_iff, decide_eq_true_iff]
  omega
theorem bigV_lw {x : Int} (hx : 9223372036854775808 ≤ x.natAbs) : bigV (decide (x < 0)) x.natAbs = lwV x := by
  have h := bigO_lw hx
  unfold bigV lwV
  unfold bigO at h
  rw [h]
  cases g : lwO x
  · rfl
  · unfold lwO at g
    rw [decide_eq_true_iff] at g
    simp only [cond_true, if_true]
    omega
end Low
theorem int_LowM (x : Int) (hx : 9223372036854775808 ≤ x.natAbs ∧ x.natAbs < 18446744073709551616) : Call0 Tryd.prog 45 [I x] (.t [.c (.v (.int .i64 (lwV x))), PB (lwO x)]) := by
  refine ⟨⟨_, Tryd.func45, rfl, rfl⟩, ?_⟩
  intro h r w cargs hra hbf
  have hm := hx
  have hlen : (wl x.natAbs).length ≤ 2 := wl_len_le (k := 2) (by omega)
  obtain ⟨v, hv⟩ : ∃ v, cargs.toList = [v] := by
    cases hc : cargs.toList with
    | nil => rw [hc] at hra; exact hra.elim
    | cons v l => cases l with
      | nil => exact ⟨v, rfl⟩
      | cons y l => rw [hc] at hra; exact hra.2.elim
  rw [hv] at hra
  obtain ⟨cs, rfl, hs, hd⟩ := hra.1
  simp only [DReps] at hd
  obtain ⟨⟨y0, e0, d0⟩, ⟨y1, e1, d1⟩, _⟩ := hd
  simp only [zn, DRep] at d0
  simp only [zm, DRep] at d1
  obtain ⟨rfl, _⟩ := d0
  obtain ⟨a, cap, rfl, _, _, hw⟩ := d1
  have hcs : cs = #[.bool (decide (x < 0)), .slice a (wl x.natAbs).length cap] := by
    apply Array.ext_getElem?
    intro i
    match i with
    | 0 => rw [e0]; rfl
    | 1 => rw [show (1 : Nat) = 0 + 1 from rfl, e1]; rfl
    | i + 2 => rw [Array.getElem?_eq_none (by rw [hs]; simp), Array.getElem?_eq_none (by simp)]
  have hca : cargs = #[.agg #[.bool (decide (x < 0)), .slice a (wl x.natAbs).length cap]] := by
    rw [← Array.toArray_toList (xs := cargs), hv, hcs]
  have hW : Low.Words (w.heap.size + 1) w.heap.size w a (wl x.natAbs) := by
    rcases hw with hw | ⟨b, off, c, e, fr, rfl, hb, hr⟩
    · left
      exact List.map_eq_nil_iff.1 hw
    · right
      have hbw := hbf.hi _ _ hb
      have hlt : b < w.heap.size := (Array.getElem?_eq_some_iff.1 hbw).1
      refine ⟨b, off, rfl, hlt, by omega, fun j hj => ?_⟩
      obtain ⟨y, hy1, hy2⟩ := hr.get j (w32 ((wl x.natAbs)[j]?.getD 0)) (by simp [hj])
      simp only [w32, DRep] at hy2
      simp only [World.cell?, hbw]
      rw [hy1, hy2.1]; rfl
  rw [hca]
  have hbk : ∀ y ∈ Low.upto (Low.bk (wl x.natAbs)) (wl x.natAbs).length, y.2 < 4294967296 := by
    intro y hy
    unfold Low.upto at hy
    obtain ⟨k, hk, rfl⟩ := List.mem_map.1 hy
    unfold Low.bk
    have := (wl_ok x.natAbs).getD ((wl x.natAbs).length - 1 - k)
    rw [List.getD_eq_getElem?_getD] at this
    exact this
  refine Calls.mono (callsIn_wide.1 (Low.Low_big Fence.wide 3 trivial trivial trivial rfl (Nat.le_refl _) (decide (x < 0)) a cap (wl x.natAbs) hlen hbk (by rw [wv_wl]; exact hm) w hW)) ?_
  rintro e w' ⟨rfl, hB⟩
  refine ⟨_, h, rfl, ⟨[.int .i64 (Low.bigV (decide (x < 0)) (wv (wl x.natAbs))), .bool (Low.bigO (decide (x < 0)) (wv (wl x.natAbs)))], rfl, ⟨?_, ?_, trivial⟩⟩, ?_⟩
  · rw [wv_wl, Low.bigV_lw hx.1]
    simp only [PRep, DRep]; exact ⟨trivial, rfl⟩
  · rw [wv_wl, Low.bigO_lw hx.1]
    simp only [PRep, DRep]; exact ⟨trivial, rfl⟩
  · have old : ∀ k ob, h k = some ob → w'.heap[k]? = some ob := fun k ob e => by
      have h1 := hbf.hi k ob e
      rw [hB.block k (Array.getElem?_eq_some_iff.1 h1).1]; exact h1
    exact ⟨fun m b e => (by cases e), fun m hm => absurd rfl hm, old, fun m k hm => absurd rfl hm, hB.os, hB.tape, hB.output, hB.size, fun k hk _ => hB.block k hk, .refl _, fun k hk => .inl hk⟩
end Go.Proofs.YtkdfinfdocdpoaaDoor
end

section
/- chapter 11: refusals -/
namespace Go.Proofs.YtkdfinfdocdpoaaDoor
open Go Go.AM

/- algorist/integer.Low -/
set_option maxHeartbeats 1000000 in
set_option maxRecDepth 100000 in
theorem int_LowL (x : Int) (hx : 18446744073709551616 ≤ x.natAbs) :
    Call0 Tryd.prog 45 [I x] (.t [.c (.v (.int .i64 (lwV x))), PB (lwO x)]) := by
  have hl : ¬ (wl x.natAbs).length ≤ 2 := fun h => by have := lt_two h; omega
  refine callM_of (np := 0) Tryd.func45 (by kernel_rfl) rfl rfl (Nat.le_of_ble_eq_true rfl) (fun m h => absurd rfl h) (fun m h => absurd rfl h) rfl ?_
  refine AWp_seq ?_
  refine AWp_region hP ?_
  refine RK.alc guard_none (op_box rfl rfl) ?_
  refine RK.val guard_none (op_assign (rfl : _ = AV.p (.c _))) ?_
  refine RK.val guard_none (op_assign (rfl : _ = AV.p (.c _))) ?_
  refine RK.done (by kernel_rfl) ?_
  refine AWp_seq ?_
  refine AWp_seq ?_
  refine AWp_region hP ?_
  refine RK.val guard_none (op_field_loc hT rfl rfl rfl rfl rfl rfl) ?_
  refine RK.val guard_none (op_load_one hT rfl rfl rfl rfl (by first | rfl | exact vget (by omega))) ?_
  refine RK.val guard_none (op_len hT rfl rfl rfl rfl) ?_
  refine RK.val guard_none (op_gtr rfl rfl) ?_
  refine RK.done (by kernel_rfl) ?_
  refine AWp_cond_true rfl (decide_eq_true (by omega)) ?_
  refine AWp_seq ?_
  refine AWp_region hP ?_
  refine RK.val guard_none (op_assign (rfl : _ = AV.p (.c _))) ?_
  refine RK.val guard_none (op_assign (rfl : _ = AV.p (.c _))) ?_
  refine RK.done (by kernel_rfl) ?_
  refine AWp_ret ?_
  refine ends_two rfl (.inr rfl) (res_tmp rfl) (res_tmp rfl) ?_ O_ends
  exact Sub.of_eq (lw_no (by omega))

theorem int_LowA (x : Int) : Call0 Tryd.prog 45 [I x] (.t [.c (.v (.int .i64 (lwV x))), PB (lwO x)]) := by
  by_cases h : x.natAbs < 9223372036854775808
  · have h1 := int_Low x (by omega) (by omega)
    have h2 := lwO_yes (a := x) (by omega)
    rw [h2.1, h2.2]; exact h1
  · by_cases h1 : x.natAbs < 18446744073709551616
    · exact int_LowM x (by omega)
    · exact int_LowL x (by omega)

/- algorist/count.size -/
set_option maxHeartbeats 1000000 in
set_option maxRecDepth 100000 in
theorem c_sizeA (d : Int) (hd : L 30 d) :
    Call0 Tryd.prog 42 [I d] (.t [PE (szN d), PE (szE d)]) := by
  have id0 : LB d 30 := ⟨hd⟩
  have hm0 := Int.emod_nonneg d (show (4 : Int) ≠ 0 by omega)
  have hm1 := Int.emod_lt_of_pos d (show (0 : Int) < 4 by omega)
  refine callM_of (np := 0) Tryd.func42 (by kernel_rfl) rfl rfl (Nat.le_of_ble_eq_true rfl) (fun m h => absurd rfl h) (fun m h => absurd rfl h) rfl ?_
  refine AWp_seq ?_
  refine AWp_region hP ?_
  refine RK.alc guard_none (op_box rfl rfl) ?_
  refine RK.val guard_none (op_assign (rfl : _ = AV.p (.c _))) ?_
  refine RK.val guard_none (op_assign (rfl : _ = AV.p (.c _))) ?_
  refine RK.done (by kernel_rfl) ?_
  refine AWp_seq ?_
  refine AWp_region hP ?_
  refine RK.val guard_none (op_load_agg hT rfl rfl rfl rfl (cs := [_, _]) rfl rfl) ?_
  refine RK.val guard_none (Eff.call0 (c_number _ (by first | assumption | decide))) ?_
  refine RK.val guard_none (Eff.call0 (int_DivMod _ _ lz lz (by decide))) ?_
  refine RK.val guard_none (op_move (rfl : _ = AV.t _)) ?_
  refine RK.val guard_none (op_extract rfl (v := .a _) rfl) ?_
  refine RK.val guard_none (op_extract rfl (v := .a _) rfl) ?_
  refine RK.val guard_none (op_extract rfl (v := .c _) rfl) ?_
  refine RK.alc guard_none (op_alloc hT rfl rfl) ?_
  refine RK.alc guard_none (op_alloc hT rfl rfl) ?_
  refine RK.sto guard_none (op_store hT rfl rfl rfl rfl rfl rfl (cs := [_, _]) rfl) ?_
  refine RK.sto guard_none (op_store hT rfl rfl rfl rfl rfl rfl (cs := [_, _]) rfl) ?_
  refine RK.val guard_none (op_assign (rfl : _ = AV.p (.c _))) ?_
  refine RK.done (by kernel_rfl) ?_
  refine AWp_seq ?_
  refine AWp_seq ?_
  refine AWp_region hP ?_
  refine RK.val guard_none (op_load_agg hT rfl rfl rfl rfl (cs := [_, _]) rfl rfl) ?_
  refine RK.val guard_none (Eff.call0 (int_Sign _)) ?_
  refine RK.val guard_none (op_geq rfl rfl) ?_
  refine RK.val guard_none (op_move (rfl : _ = AV.p (.c _))) ?_
  refine RK.split (t := 19) rfl (fun hg1 => ?_) (fun hg1 => ?_)
  · have hg1_ := of_decide_eq_true hg1
    refine RK.skip (guard_no rfl rfl hg1) ?_
    refine RK.skip (guard_no rfl rfl hg1) ?_
    refine RK.skip (guard_no rfl rfl hg1) ?_
    refine RK.skip (guard_no rfl rfl hg1) ?_
    refine RK.val guard_none (op_pick_t rfl hg1 (rfl : _ = AV.p (.c _))) ?_
    refine RK.done (by kernel_rfl) ?_
    refine AWp_cond_true rfl rfl ?_
    refine AWp_seq ?_
    refine AWp_region hP ?_
    refine RK.val guard_none (op_assign (rfl : _ = AV.p (.c _))) ?_
    refine RK.val guard_none (op_assign (rfl : _ = AV.p (.c _))) ?_
    refine RK.done (by kernel_rfl) ?_
    refine AWp_ret ?_
    refine ends_two rfl (.inr rfl) (res_tmp rfl) (res_tmp rfl) ?_ O_ends
    exact Sub.of_eq (sz_5 (.inl (sgn_ge_iff.1 hg1_)))
  · have hg1_ := of_decide_eq_false hg1
    refine RK.val (guard_yes rfl rfl hg1) (op_load_agg hT rfl rfl rfl rfl (cs := [_, _]) rfl rfl) ?_
    refine RK.val (guard_yes rfl rfl hg1) (Eff.call0 (c_number _ (by first | assumption | decide))) ?_
    refine RK.val (guard_yes rfl rfl hg1) (Eff.call0 (int_Cmp _ _)) ?_
    refine RK.val (guard_yes rfl rfl hg1) (op_gtr rfl rfl) ?_
    refine RK.val guard_none (op_pick_f rfl hg1 (rfl : _ = AV.p (.c _))) ?_
    refine RK.done (by kernel_rfl) ?_
    refine AWp_cond rfl (fun hb2 => ?_) (fun hb2 => ?_)
    · have hb2_ := of_decide_eq_true hb2
      refine AWp_seq ?_
      refine AWp_region hP ?_
      refine RK.val guard_none (op_assign (rfl : _ = AV.p (.c _))) ?_
      refine RK.val guard_none (op_assign (rfl : _ = AV.p (.c _))) ?_
      refine RK.done (by kernel_rfl) ?_
      refine AWp_ret ?_
      refine ends_two rfl (.inr rfl) (res_tmp rfl) (res_tmp rfl) ?_ O_ends
      exact Sub.of_eq (sz_5 (.inr (cmpI_gt_zero.1 hb2_)))
    · have hb2_ := of_decide_eq_false hb2
      have hg0 : ¬ 0 ≤ d := fun h => hg1_ (sgn_ge_iff.2 h)
      refine AWp_skip ?_
      refine AWp_seq ?_
      refine AWp_region hP ?_
      refine RK.val guard_none (op_load_agg hT rfl rfl rfl rfl (cs := [_, _]) rfl rfl) ?_
      refine RK.val guard_none (Eff.call0 (int_Neg _)) ?_
      refine RK.val guard_none (Eff.call0 (int_LowA _)) ?_
      refine RK.val guard_none (op_move (rfl : _ = AV.t _)) ?_
      refine RK.val guard_none (op_extract rfl (v := .c _) rfl) ?_
      refine RK.val guard_none (op_extract rfl (v := .c _) rfl) ?_
      refine RK.val guard_none (op_assign (rfl : _ = AV.p (.c _))) ?_
      refine RK.val guard_none (op_assign (rfl : _ = AV.p (.c _))) ?_
      refine RK.done (by kernel_rfl) ?_
      refine AWp_seq ?_
      refine AWp_seq ?_
      refine AWp_region hP ?_
      refine RK.val guard_none (op_move (rfl : _ = AV.p (.c _))) ?_
      refine RK.val guard_none (op_unot rfl) ?_
      refine RK.val guard_none (op_move (rfl : _ = AV.p (.c _))) ?_
      refine RK.split (t := 33) rfl (fun hg3 => ?_) (fun hg3 => ?_)
      · have hg3_ := (notT hg3)
        have hlo := lwO_f (notT hg3)
        refine RK.skip (guard_no rfl rfl hg3) ?_
        refine RK.skip (guard_no rfl rfl hg3) ?_
        refine RK.val guard_none (op_pick_t rfl hg3 (rfl : _ = AV.p (.c _))) ?_
        refine RK.done (by kernel_rfl) ?_
        refine AWp_cond_true rfl rfl ?_
        refine AWp_seq ?_
        refine AWp_region hP ?_
        refine RK.val guard_none (op_assign (rfl : _ = AV.p (.c _))) ?_
        refine RK.val guard_none (op_assign (rfl : _ = AV.p (.c _))) ?_
        refine RK.done (by kernel_rfl) ?_
        refine AWp_ret ?_
        refine ends_two rfl (.inr rfl) (res_tmp rfl) (res_tmp rfl) ?_ O_ends
        exact Sub.of_eq (sz_2 (fun x => x.elim hg0 (fun h => hb2_ (cmpI_gt_zero.2 h))) (by omega))
      · have hg3_ := (notF hg3)
        have hly := lwO_yes (lwO_iff.1 (notF hg3))
        refine RK.val (guard_yes rfl rfl hg3) (op_move (rfl : _ = AV.p (.c _))) ?_
        refine RK.val (guard_yes rfl rfl hg3) (op_gtr rfl rfl) ?_
        refine RK.val guard_none (op_pick_f rfl hg3 (rfl : _ = AV.p (.c _))) ?_
        refine RK.done (by kernel_rfl) ?_
        refine AWp_cond rfl (fun hb4 => ?_) (fun hb4 => ?_)
        · have hb4_ := of_decide_eq_true hb4
          refine AWp_seq ?_
          refine AWp_region hP ?_
          refine RK.val guard_none (op_assign (rfl : _ = AV.p (.c _))) ?_
          refine RK.val guard_none (op_assign (rfl : _ = AV.p (.c _))) ?_
          refine RK.done (by kernel_rfl) ?_
          refine AWp_ret ?_
          refine ends_two rfl (.inr rfl) (res_tmp rfl) (res_tmp rfl) ?_ O_ends
          exact Sub.of_eq (sz_2 (fun x => x.elim hg0 (fun h => hb2_ (cmpI_gt_zero.2 h))) (by have := hly.2; omega))
        · have hb4_ := of_decide_eq_false hb4
          refine AWp_skip ?_
          refine AWp_seq ?_
          refine AWp_region hP ?_
          refine RK.val guard_none (op_move (rfl : _ = AV.p (.c _))) ?_
          refine RK.val guard_none (op_assign (rfl : _ = AV.p (.c _))) ?_
          refine RK.val guard_none (op_assign (rfl : _ = AV.p (.c _))) ?_
          refine RK.done (by kernel_rfl) ?_
          refine AWp_ret ?_
          refine ends_two rfl (.inr rfl) (res_tmp rfl) (res_tmp rfl) ?_ O_ends
          exact Sub.of_eq (by rw [hly.2]; exact sz_0 (fun x => x.elim hg0 (fun h => hb2_ (cmpI_gt_zero.2 h))) (by have := hly.2; omega))

/- algorist/count.list -/
set_option maxHeartbeats 1000000 in
set_option maxRecDepth 100000 in
theorem c_listE (d : Int) (hd : L 30 d) (hE : szE d ≠ 0) (W : FuncId) :
    Call0 Tryd.prog 37 [I d, .p (.c (.v (.func (.func W) #[] #[])))] (.t [.c (FS []), PE (szE d)]) := by
  refine callM_of (np := 0) Tryd.func37 (by kernel_rfl) rfl rfl (Nat.le_of_ble_eq_true rfl) (fun m h => absurd rfl h) (fun m h => absurd rfl h) rfl ?_
  refine AWp_seq ?_
  refine AWp_region hP ?_
  refine RK.alc guard_none (op_box rfl rfl) ?_
  refine RK.alc guard_none (op_box rfl rfl) ?_
  refine RK.val guard_none (op_assign (rfl : _ = AV.p (.c _))) ?_
  refine RK.val guard_none (op_assign (rfl : _ = AV.p (.c _))) ?_
  refine RK.done (by kernel_rfl) ?_
  refine AWp_seq ?_
  refine AWp_region hP ?_
  refine RK.val guard_none (op_load_agg hT rfl rfl rfl rfl (cs := [_, _]) rfl rfl) ?_
  refine RK.val guard_none (Eff.call0 (c_sizeA _ hd)) ?_
  refine RK.val guard_none (op_move (rfl : _ = AV.t _)) ?_
  refine RK.val guard_none (op_extract rfl (v := .c _) rfl) ?_
  refine RK.val guard_none (op_extract rfl (v := .c _) rfl) ?_
  refine RK.val guard_none (op_assign (rfl : _ = AV.p (.c _))) ?_
  refine RK.val guard_none (op_assign (rfl : _ = AV.p (.c _))) ?_
  refine RK.done (by kernel_rfl) ?_
  refine AWp_seq ?_
  refine AWp_seq ?_
  refine AWp_region hP ?_
  refine RK.val guard_none (op_move (rfl : _ = AV.p (.c _))) ?_
  refine RK.val guard_none (op_neq rfl rfl) ?_
  refine RK.done (by kernel_rfl) ?_
  refine AWp_cond_true rfl (by simpa using hE) ?_
  refine AWp_seq ?_
  refine AWp_region hP ?_
  refine RK.val guard_none (op_move (rfl : _ = AV.p (.c _))) ?_
  refine RK.val guard_none (op_assign (rfl : _ = AV.p (.c _))) ?_
  refine RK.val guard_none (op_assign (rfl : _ = AV.p (.c _))) ?_
  refine RK.done (by kernel_rfl) ?_
  refine AWp_ret ?_
  refine ends_two rfl (.inr rfl) (res_tmp rfl) (res_tmp rfl) ?_ O_ends
  exact Sub.tup ⟨DSub.nil_sl, DSub.refl _, trivial⟩

/- algorist/count.All -/
set_option maxHeartbeats 1000000 in
set_option maxRecDepth 100000 in
theorem c_AllE (d : Int) (hd : L 30 d) (hE : szE d ≠ 0) :
    Call0 Tryd.prog 12 [I d] (.t [.c (FS []), PE (szE d)]) := by
  refine callM_of (np := 0) Tryd.func12 (by kernel_rfl) rfl rfl (Nat.le_of_ble_eq_true rfl) (fun m h => absurd rfl h) (fun m h => absurd rfl h) rfl ?_
  refine AWp_seq ?_
  refine AWp_region hP ?_
  refine RK.alc guard_none (op_box rfl rfl) ?_
  refine RK.val guard_none (op_assign (rfl : _ = AV.p (.c _))) ?_
  refine RK.val guard_none (op_assign (rfl : _ = AV.p (.c _))) ?_
  refine RK.done (by kernel_rfl) ?_
  refine AWp_seq ?_
  refine AWp_region hP ?_
  refine RK.val guard_none (op_load_agg hT rfl rfl rfl rfl (cs := [_, _]) rfl rfl) ?_
  refine RK.val guard_none (Eff.call0 (c_listE _ hd hE _)) ?_
  refine RK.val guard_none (op_extract rfl (v := .c _) rfl) ?_
  refine RK.val guard_none (op_extract rfl (v := .c _) rfl) ?_
  refine RK.val guard_none (op_assign (rfl : _ = AV.p (.c _))) ?_
  refine RK.val guard_none (op_assign (rfl : _ = AV.p (.c _))) ?_
  refine RK.done (by kernel_rfl) ?_
  refine AWp_ret ?_
  refine ends_two rfl (.inr rfl) (res_tmp rfl) (res_tmp rfl) ?_ O_ends
  exact .refl _

/- algorist/count.Reduced -/
set_option maxHeartbeats 1000000 in
set_option maxRecDepth 100000 in
theorem c_ReducedE (d : Int) (hd : L 30 d) (hE : szE d ≠ 0) :
    Call0 Tryd.prog 15 [I d] (.t [.c (FS []), PE (szE d)]) := by
  refine callM_of (np := 0) Tryd.func15 (by kernel_rfl) rfl rfl (Nat.le_of_ble_eq_true rfl) (fun m h => absurd rfl h) (fun m h => absurd rfl h) rfl ?_
  refine AWp_seq ?_
  refine AWp_region hP ?_
  refine RK.alc guard_none (op_box rfl rfl) ?_
  refine RK.val guard_none (op_assign (rfl : _ = AV.p (.c _))) ?_
  refine RK.val guard_none (op_assign (rfl : _ = AV.p (.c _))) ?_
  refine RK.done (by kernel_rfl) ?_
  refine AWp_seq ?_
  refine AWp_region hP ?_
  refine RK.val guard_none (op_load_agg hT rfl rfl rfl rfl (cs := [_, _]) rfl rfl) ?_
  refine RK.val guard_none (Eff.call0 (c_listE _ hd hE _)) ?_
  refine RK.val guard_none (op_extract rfl (v := .c _) rfl) ?_
  refine RK.val guard_none (op_extract rfl (v := .c _) rfl) ?_
  refine RK.val guard_none (op_assign (rfl : _ = AV.p (.c _))) ?_
  refine RK.val guard_none (op_assign (rfl : _ = AV.p (.c _))) ?_
  refine RK.done (by kernel_rfl) ?_
  refine AWp_ret ?_
  refine ends_two rfl (.inr rfl) (res_tmp rfl) (res_tmp rfl) ?_ O_ends
  exact .refl _

/- algorist/count.Class -/
set_option maxHeartbeats 1000000 in
set_option maxRecDepth 100000 in
theorem c_ClassE (d : Int) (hd : L 30 d) (hE : szE d ≠ 0) :
    Call0 Tryd.prog 19 [I d] (.t [PE 0, PE (szE d)]) := by
  refine callM_of (np := 0) Tryd.func19 (by kernel_rfl) rfl rfl (Nat.le_of_ble_eq_true rfl) (fun m h => absurd rfl h) (fun m h => absurd rfl h) rfl ?_
  refine AWp_seq ?_
  refine AWp_region hP ?_
  refine RK.alc guard_none (op_box rfl rfl) ?_
  refine RK.val guard_none (op_assign (rfl : _ = AV.p (.c _))) ?_
  refine RK.val guard_none (op_assign (rfl : _ = AV.p (.c _))) ?_
  refine RK.done (by kernel_rfl) ?_
  refine AWp_seq ?_
  refine AWp_region hP ?_
  refine RK.val guard_none (op_load_agg hT rfl rfl rfl rfl (cs := [_, _]) rfl rfl) ?_
  refine RK.val guard_none (Eff.call0 (c_sizeA _ hd)) ?_
  refine RK.val guard_none (op_move (rfl : _ = AV.t _)) ?_
  refine RK.val guard_none (op_extract rfl (v := .c _) rfl) ?_
  refine RK.val guard_none (op_extract rfl (v := .c _) rfl) ?_
  refine RK.val guard_none (op_assign (rfl : _ = AV.p (.c _))) ?_
  refine RK.val guard_none (op_assign (rfl : _ = AV.p (.c _))) ?_
  refine RK.done (by kernel_rfl) ?_
  refine AWp_seq ?_
  refine AWp_seq ?_
  refine AWp_region hP ?_
  refine RK.val guard_none (op_move (rfl : _ = AV.p (.c _))) ?_
  refine RK.val guard_none (op_neq rfl rfl) ?_
  refine RK.done (by kernel_rfl) ?_
  refine AWp_cond_true rfl (by simpa using hE) ?_
  refine AWp_seq ?_
  refine AWp_region hP ?_
  refine RK.val guard_none (op_move (rfl : _ = AV.p (.c _))) ?_
  refine RK.val guard_none (op_assign (rfl : _ = AV.p (.c _))) ?_
  refine RK.val guard_none (op_assign (rfl : _ = AV.p (.c _))) ?_
  refine RK.done (by kernel_rfl) ?_
  refine AWp_ret ?_
  refine ends_two rfl (.inr rfl) (res_tmp rfl) (res_tmp rfl) ?_ O_ends
  exact .refl _

/- algorist/count.Conductor -/
set_option maxHeartbeats 1000000 in
set_option maxRecDepth 100000 in
theorem c_ConductorE (d : Int) (hd : L 30 d) (hE : szE d ≠ 0) :
    Call0 Tryd.prog 25 [I d] (.t [PI 0, PI 0, PE (szE d)]) := by
  refine callM_of (np := 0) Tryd.func25 (by kernel_rfl) rfl rfl (Nat.le_of_ble_eq_true rfl) (fun m h => absurd rfl h) (fun m h => absurd rfl h) rfl ?_
  refine AWp_seq ?_
  refine AWp_region hP ?_
  refine RK.alc guard_none (op_box rfl rfl) ?_
  refine RK.alc guard_none (op_alloc hT rfl rfl) ?_
  refine RK.alc guard_none (op_alloc hT rfl rfl) ?_
  refine RK.val guard_none (op_assign (rfl : _ = AV.p (.c _))) ?_
  refine RK.done (by kernel_rfl) ?_
  refine AWp_seq ?_
  refine AWp_region hP ?_
  refine RK.val guard_none (op_load_agg hT rfl rfl rfl rfl (cs := [_, _]) rfl rfl) ?_
  refine RK.val guard_none (Eff.call0 (c_sizeA _ hd)) ?_
  refine RK.val guard_none (op_move (rfl : _ = AV.t _)) ?_
  refine RK.val guard_none (op_extract rfl (v := .c _) rfl) ?_
  refine RK.val guard_none (op_extract rfl (v := .c _) rfl) ?_
  refine RK.val guard_none (op_assign (rfl : _ = AV.p (.c _))) ?_
  refine RK.val guard_none (op_assign (rfl : _ = AV.p (.c _))) ?_
  refine RK.done (by kernel_rfl) ?_
  refine AWp_seq ?_
  refine AWp_seq ?_
  refine AWp_region hP ?_
  refine RK.val guard_none (op_move (rfl : _ = AV.p (.c _))) ?_
  refine RK.val guard_none (op_neq rfl rfl) ?_
  refine RK.done (by kernel_rfl) ?_
  refine AWp_cond_true rfl (by simpa using hE) ?_
  refine AWp_seq ?_
  refine AWp_region hP ?_
  refine RK.val guard_none (op_build_st hT rfl rfl rfl (es := [_, _]) rfl) ?_
  refine RK.val guard_none (op_build_st hT rfl rfl rfl (es := [_, _]) rfl) ?_
  refine RK.val guard_none (op_move (rfl : _ = AV.p (.c _))) ?_
  refine RK.sto guard_none (op_store hT rfl rfl rfl rfl rfl rfl (cs := [_, _]) rfl) ?_
  refine RK.sto guard_none (op_store hT rfl rfl rfl rfl rfl rfl (cs := [_, _]) rfl) ?_
  refine RK.val guard_none (op_assign (rfl : _ = AV.p (.c _))) ?_
  refine RK.done (by kernel_rfl) ?_
  refine AWp_ret ?_
  refine ends_three rfl (.inr rfl) (res_cell_agg hT rfl rfl rfl rfl (cs := [_, _]) rfl rfl) (res_cell_agg hT rfl rfl rfl rfl (cs := [_, _]) rfl rfl) (res_tmp rfl) ?_ O_ends
  exact .refl _

/- algorist/count.Ratio -/
set_option maxHeartbeats 1000000 in
set_option maxRecDepth 100000 in
theorem c_RatioE (d : Int) (hd : L 30 d) (hE : szE d ≠ 0) :
    Call0 Tryd.prog 18 [I d, I 1] (.t [PI 0, PE (szE d)]) := by
  have id0 : LB d 30 := ⟨hd⟩
  have cs : Call0 Tryd.prog 42 [I (d * (1 * 1))] (.t [PE (szN d), PE (szE d)]) := by
    have e : d * (1 * 1) = d := by omega
    rw [e]; exact c_sizeA d hd
  refine callM_of (np := 0) Tryd.func18 (by kernel_rfl) rfl rfl (Nat.le_of_ble_eq_true rfl) (fun m h => absurd rfl h) (fun m h => absurd rfl h) rfl ?_
  refine AWp_seq ?_
  refine AWp_region hP ?_
  refine RK.alc guard_none (op_box rfl rfl) ?_
  refine RK.alc guard_none (op_box rfl rfl) ?_
  refine RK.alc guard_none (op_alloc hT rfl rfl) ?_
  refine RK.val guard_none (op_assign (rfl : _ = AV.p (.c _))) ?_
  refine RK.done (by kernel_rfl) ?_
  refine AWp_seq ?_
  refine AWp_region hP ?_
  refine RK.val guard_none (op_load_agg hT rfl rfl rfl rfl (cs := [_, _]) rfl rfl) ?_
  refine RK.val guard_none (Eff.call0 (c_sizeA _ hd)) ?_
  refine RK.val guard_none (op_move (rfl : _ = AV.t _)) ?_
  refine RK.val guard_none (op_extract rfl (v := .c _) rfl) ?_
  refine RK.val guard_none (op_extract rfl (v := .c _) rfl) ?_
  refine RK.val guard_none (op_assign (rfl : _ = AV.p (.c _))) ?_
  refine RK.val guard_none (op_assign (rfl : _ = AV.p (.c _))) ?_
  refine RK.done (by kernel_rfl) ?_
  refine AWp_seq ?_
  refine AWp_block ?_
  refine AWp_seq ?_
  refine AWp_region hP ?_
  refine RK.val guard_none (op_move (rfl : _ = AV.p (.c _))) ?_
  refine RK.val guard_none (op_eql rfl rfl) ?_
  refine RK.val guard_none (op_assign (rfl : _ = AV.p (.c _))) ?_
  refine RK.done (by kernel_rfl) ?_
  refine AWp_cond rfl (fun hb1 => ?_) (fun hb1 => ?_)
  · have hb1_ := bT hb1
    refine AWp_seq ?_
    refine AWp_region hP ?_
    refine RK.val guard_none (op_build_st hT rfl rfl rfl (es := [_, _]) rfl) ?_
    refine RK.val guard_none (op_move (rfl : _ = AV.p (.c _))) ?_
    refine RK.sto guard_none (op_store hT rfl rfl rfl rfl rfl rfl (cs := [_, _]) rfl) ?_
    refine RK.val guard_none (op_assign (rfl : _ = AV.p (.c _))) ?_
    refine RK.done (by kernel_rfl) ?_
    refine AWp_ret ?_
    refine ends_two rfl (.inr rfl) (res_cell_agg hT rfl rfl rfl rfl (cs := [_, _]) rfl rfl) (res_tmp rfl) ?_ O_ends
    exact .refl _
  · have hb1_ := bF hb1
    refine AWp_seq ?_
    refine AWp_region hP ?_
    refine RK.val guard_none (op_load_agg hT rfl rfl rfl rfl (cs := [_, _]) rfl rfl) ?_
    refine RK.val guard_none (Eff.call0 (int_Sign _)) ?_
    refine RK.val guard_none (op_lss rfl rfl) ?_
    refine RK.val guard_none (op_assign (rfl : _ = AV.p (.c _))) ?_
    refine RK.done (by kernel_rfl) ?_
    refine AWp_cond_false rfl (by decide) ?_
    refine AWp_skip ?_
    refine AWp_seq ?_
    refine AWp_seq ?_
    refine AWp_region hP ?_
    refine RK.val guard_none (op_load_agg hT rfl rfl rfl rfl (cs := [_, _]) rfl rfl) ?_
    refine RK.val guard_none (op_load_agg hT rfl rfl rfl rfl (cs := [_, _]) rfl rfl) ?_
    refine RK.val guard_none (op_load_agg hT rfl rfl rfl rfl (cs := [_, _]) rfl rfl) ?_
    refine RK.val guard_none (Eff.call0 (int_Mul _ _ lz lz)) ?_
    refine RK.val guard_none (Eff.call0 (int_Mul _ _ lz lz)) ?_
    refine RK.val guard_none (Eff.call0 cs) ?_
    refine RK.val guard_none (op_move (rfl : _ = AV.t _)) ?_
    refine RK.val guard_none (op_extract rfl (v := .c _) rfl) ?_
    refine RK.val guard_none (op_extract rfl (v := .c _) rfl) ?_
    refine RK.val guard_none (op_assign (rfl : _ = AV.p (.c _))) ?_
    refine RK.val guard_none (op_assign (rfl : _ = AV.p (.c _))) ?_
    refine RK.done (by kernel_rfl) ?_
    refine AWp_seq ?_
    refine AWp_region hP ?_
    refine RK.val guard_none (op_move (rfl : _ = AV.p (.c _))) ?_
    refine RK.val guard_none (op_neq rfl rfl) ?_
    refine RK.done (by kernel_rfl) ?_
    refine AWp_cond_true rfl (by simpa using hE) ?_
    refine AWp_seq ?_
    refine AWp_region hP ?_
    refine RK.val guard_none (op_build_st hT rfl rfl rfl (es := [_, _]) rfl) ?_
    refine RK.val guard_none (op_move (rfl : _ = AV.p (.c _))) ?_
    refine RK.sto guard_none (op_store hT rfl rfl rfl rfl rfl rfl (cs := [_, _]) rfl) ?_
    refine RK.val guard_none (op_assign (rfl : _ = AV.p (.c _))) ?_
    refine RK.done (by kernel_rfl) ?_
    refine AWp_ret ?_
    refine ends_two rfl (.inr rfl) (res_cell_agg hT rfl rfl rfl rfl (cs := [_, _]) rfl rfl) (res_tmp rfl) ?_ O_ends
    exact .refl _

/- algorist/count.Hurwitz -/
set_option maxHeartbeats 1000000 in
set_option maxRecDepth 100000 in
theorem c_HurwitzN (m : Int) (h : m < 0) :
    Call0 Tryd.prog 21 [I m] (.t [PI 0, PE 1]) := by
  refine callM_of (np := 0) Tryd.func21 (by kernel_rfl) rfl rfl (Nat.le_of_ble_eq_true rfl) (fun m h => absurd rfl h) (fun m h => absurd rfl h) rfl ?_
  refine AWp_seq ?_
  refine AWp_region hP ?_
  refine RK.alc guard_none (op_box rfl rfl) ?_
  refine RK.alc guard_none (op_alloc hT rfl rfl) ?_
  refine RK.val guard_none (op_assign (rfl : _ = AV.p (.c _))) ?_
  refine RK.done (by kernel_rfl) ?_
  refine AWp_seq ?_
  refine AWp_region hP ?_
  refine RK.val guard_none (op_load_agg hT rfl rfl rfl rfl (cs := [_, _]) rfl rfl) ?_
  refine RK.val guard_none (Eff.call0 (int_LowA _)) ?_
  refine RK.val guard_none (op_move (rfl : _ = AV.t _)) ?_
  refine RK.val guard_none (op_extract rfl (v := .c _) rfl) ?_
  refine RK.val guard_none (op_extract rfl (v := .c _) rfl) ?_
  refine RK.val guard_none (op_assign (rfl : _ = AV.p (.c _))) ?_
  refine RK.val guard_none (op_assign (rfl : _ = AV.p (.c _))) ?_
  refine RK.done (by kernel_rfl) ?_
  refine AWp_seq ?_
  refine AWp_block ?_
  refine AWp_seq ?_
  refine AWp_region hP ?_
  refine RK.val guard_none (op_load_agg hT rfl rfl rfl rfl (cs := [_, _]) rfl rfl) ?_
  refine RK.val guard_none (Eff.call0 (int_Sign _)) ?_
  refine RK.val guard_none (op_lss rfl rfl) ?_
  refine RK.val guard_none (op_assign (rfl : _ = AV.p (.c _))) ?_
  refine RK.done (by kernel_rfl) ?_
  refine AWp_cond_true rfl (decide_eq_true (sgn_lt_iff.2 h)) ?_
  refine AWp_seq ?_
  refine AWp_region hP ?_
  refine RK.val guard_none (op_build_st hT rfl rfl rfl (es := [_, _]) rfl) ?_
  refine RK.sto guard_none (op_store hT rfl rfl rfl rfl rfl rfl (cs := [_, _]) rfl) ?_
  refine RK.val guard_none (op_assign (rfl : _ = AV.p (.c _))) ?_
  refine RK.done (by kernel_rfl) ?_
  refine AWp_ret ?_
  refine ends_two rfl (.inr rfl) (res_cell_agg hT rfl rfl rfl rfl (cs := [_, _]) rfl rfl) (res_tmp rfl) ?_ O_ends
  exact .refl _

/- algorist/count.Hurwitz -/
set_option maxHeartbeats 1000000 in
set_option maxRecDepth 100000 in
theorem c_HurwitzB (m : Int) (h : 4194304 < m) :
    Call0 Tryd.prog 21 [I m] (.t [PI 0, PE 2]) := by
  refine callM_of (np := 0) Tryd.func21 (by kernel_rfl) rfl rfl (Nat.le_of_ble_eq_true rfl) (fun m h => absurd rfl h) (fun m h => absurd rfl h) rfl ?_
  refine AWp_seq ?_
  refine AWp_region hP ?_
  refine RK.alc guard_none (op_box rfl rfl) ?_
  refine RK.alc guard_none (op_alloc hT rfl rfl) ?_
  refine RK.val guard_none (op_assign (rfl : _ = AV.p (.c _))) ?_
  refine RK.done (by kernel_rfl) ?_
  refine AWp_seq ?_
  refine AWp_region hP ?_
  refine RK.val guard_none (op_load_agg hT rfl rfl rfl rfl (cs := [_, _]) rfl rfl) ?_
  refine RK.val guard_none (Eff.call0 (int_LowA _)) ?_
  refine RK.val guard_none (op_move (rfl : _ = AV.t _)) ?_
  refine RK.val guard_none (op_extract rfl (v := .c _) rfl) ?_
  refine RK.val guard_none (op_extract rfl (v := .c _) rfl) ?_
  refine RK.val guard_none (op_assign (rfl : _ = AV.p (.c _))) ?_
  refine RK.val guard_none (op_assign (rfl : _ = AV.p (.c _))) ?_
  refine RK.done (by kernel_rfl) ?_
  refine AWp_seq ?_
  refine AWp_block ?_
  refine AWp_seq ?_
  refine AWp_region hP ?_
  refine RK.val guard_none (op_load_agg hT rfl rfl rfl rfl (cs := [_, _]) rfl rfl) ?_
  refine RK.val guard_none (Eff.call0 (int_Sign _)) ?_
  refine RK.val guard_none (op_lss rfl rfl) ?_
  refine RK.val guard_none (op_assign (rfl : _ = AV.p (.c _))) ?_
  refine RK.done (by kernel_rfl) ?_
  refine AWp_cond_false rfl (decide_eq_false (fun g => absurd (sgn_lt_iff.1 g) (by omega))) ?_
  refine AWp_seq ?_
  refine AWp_region hP ?_
  refine RK.val guard_none (op_move (rfl : _ = AV.p (.c _))) ?_
  refine RK.val guard_none (op_unot rfl) ?_
  refine RK.val guard_none (op_move (rfl : _ = AV.p (.c _))) ?_
  refine RK.split (t := 21) rfl (fun hg1 => ?_) (fun hg1 => ?_)
  · have hg1_ := (notT hg1)
    refine RK.skip (guard_no rfl rfl hg1) ?_
    refine RK.skip (guard_no rfl rfl hg1) ?_
    refine RK.val guard_none (op_pick_t rfl hg1 (rfl : _ = AV.p (.c _))) ?_
    refine RK.val guard_none (op_assign (rfl : _ = AV.p (.c _))) ?_
    refine RK.done (by kernel_rfl) ?_
    refine AWp_cond_true rfl rfl ?_
    refine AWp_seq ?_
    refine AWp_region hP ?_
    refine RK.val guard_none (op_build_st hT rfl rfl rfl (es := [_, _]) rfl) ?_
    refine RK.sto guard_none (op_store hT rfl rfl rfl rfl rfl rfl (cs := [_, _]) rfl) ?_
    refine RK.val guard_none (op_assign (rfl : _ = AV.p (.c _))) ?_
    refine RK.done (by kernel_rfl) ?_
    refine AWp_ret ?_
    refine ends_two rfl (.inr rfl) (res_cell_agg hT rfl rfl rfl rfl (cs := [_, _]) rfl rfl) (res_tmp rfl) ?_ O_ends
    exact .refl _
  · have hg1_ := (notF hg1)
    have hly := lwO_yes (lwO_iff.1 (notF hg1))
    have hgt : decide (4194304 < lwV m) = true := decide_eq_true (by rw [hly.2]; exact h)
    refine RK.val (guard_yes rfl rfl hg1) (op_move (rfl : _ = AV.p (.c _))) ?_
    refine RK.val (guard_yes rfl rfl hg1) (op_gtr rfl rfl) ?_
    refine RK.val guard_none (op_pick_f rfl hg1 (rfl : _ = AV.p (.c _))) ?_
    refine RK.val guard_none (op_assign (rfl : _ = AV.p (.c _))) ?_
    refine RK.done (by kernel_rfl) ?_
    refine AWp_cond_true rfl hgt ?_
    refine AWp_seq ?_
    refine AWp_region hP ?_
    refine RK.val guard_none (op_build_st hT rfl rfl rfl (es := [_, _]) rfl) ?_
    refine RK.sto guard_none (op_store hT rfl rfl rfl rfl rfl rfl (cs := [_, _]) rfl) ?_
    refine RK.val guard_none (op_assign (rfl : _ = AV.p (.c _))) ?_
    refine RK.done (by kernel_rfl) ?_
    refine AWp_ret ?_
    refine ends_two rfl (.inr rfl) (res_cell_agg hT rfl rfl rfl rfl (cs := [_, _]) rfl rfl) (res_tmp rfl) ?_ O_ends
    exact .refl _

end Go.Proofs.YtkdfinfdocdpoaaDoor
end

section
/- chapter 11: CountRefuses -/
namespace Go.Proofs.YtkdfinfdocdpoaaDoor
open Go Go.AM

/- algorist/algoristlaw11.CountRefuses -/
set_option maxHeartbeats 8000000 in
set_option maxRecDepth 100000 in
theorem l_CountRefuses (s : Bool) (ws : List Nat) (hw : okW ws) :
    Call0 Tryd.prog 9 [.p (.a [.v (.bool s), W ws])] (B true) := by
  have hL := md_L (n := s) hw
  have cM : Call0 Tryd.prog 30 [.p (.a [.v (.bool s), W ws]), Z 2] (I (md s ws)) := r_Made s ws 2 hw (by decide)
  generalize md s ws = d at cM hL
  have i6 : LB d 6 := ⟨hL⟩
  have hd : L 30 d := lz
  have hm0 := Int.emod_nonneg d (show (4 : Int) ≠ 0 by omega)
  have hm1 := Int.emod_lt_of_pos d (show (0 : Int) < 4 by omega)
  have cl := r_Low (d % 4) lz
  have hly := lwO_yes (a := d % 4) (by omega)
  rw [hly.1, hly.2] at cl
  have hab : LB ((d.natAbs : Nat) : Int) 6 := ⟨by unfold L at hL ⊢; simpa using hL⟩
  have ie : LB ((4194304 : Int) + 1) 6 := ⟨by unfold L; decide⟩
  have hcase := szE_cases d
  refine callM_of (np := 0) Tryd.func9 (by kernel_rfl) rfl rfl (Nat.le_of_ble_eq_true rfl) (fun m h => absurd rfl h) (fun m h => absurd rfl h) rfl ?_
  refine AWp_seq ?_
  refine AWp_region hP ?_
  refine RK.alc guard_none (op_box rfl rfl) ?_
  refine RK.val guard_none (op_assign (rfl : _ = AV.p (.c _))) ?_
  refine RK.done (by kernel_rfl) ?_
  refine AWp_seq ?_
  refine AWp_region hP ?_
  refine RK.val guard_none (Eff.call0 l_examples) ?_
  refine RK.val guard_none (op_assign (rfl : _ = AV.p (.c _))) ?_
  refine RK.done (by kernel_rfl) ?_
  refine AWp_seq ?_
  refine AWp_seq ?_
  refine AWp_region hP ?_
  refine RK.val guard_none (op_move (rfl : _ = AV.p (.c _))) ?_
  refine RK.val guard_none (op_unot rfl) ?_
  refine RK.done (by kernel_rfl) ?_
  refine AWp_cond_false rfl rfl ?_
  refine AWp_skip ?_
  refine AWp_seq ?_
  refine AWp_region hP ?_
  refine RK.val guard_none (op_load_agg hT rfl rfl rfl rfl (cs := [_, _]) rfl rfl) ?_
  refine RK.val guard_none (Eff.call0 cM) ?_
  refine RK.alc guard_none (op_alloc hT rfl rfl) ?_
  refine RK.sto guard_none (op_store hT rfl rfl rfl rfl rfl rfl (cs := [_, _]) rfl) ?_
  refine RK.done (by kernel_rfl) ?_
  refine AWp_seq ?_
  refine AWp_region hP ?_
  refine RK.val guard_none (op_load_agg hT rfl rfl rfl rfl (cs := [_, _]) rfl rfl) ?_
  refine RK.val guard_none (Eff.call0 (r_Of _ (by first | assumption | decide))) ?_
  refine RK.val guard_none (Eff.call0 (r_Mod _ _ lz lz (by decide))) ?_
  refine RK.val guard_none (Eff.call0 cl) ?_
  refine RK.val guard_none (op_move (rfl : _ = AV.t _)) ?_
  refine RK.val guard_none (op_extract rfl (v := .c _) rfl) ?_
  refine RK.val guard_none (op_extract rfl (v := .c _) rfl) ?_
  refine RK.val guard_none (op_assign (rfl : _ = AV.p (.c _))) ?_
  refine RK.val guard_none (op_assign (rfl : _ = AV.p (.c _))) ?_
  refine RK.done (by kernel_rfl) ?_
  refine AWp_seq ?_
  refine AWp_region hP ?_
  refine RK.val guard_none (op_assign (rfl : _ = AV.p (.c _))) ?_
  refine RK.done (by kernel_rfl) ?_
  refine AWp_seq_cut (ι := Unit) (fun _ => stL [(3, .p (.c (.v (.bool true)))), (4, .loc 4 0), (7, .p (PE (szE d)))] [(4, ⟨false, 1, 35, [zn (d), zm (d)]⟩)]) (fun _ => True) ?_ ?_
  · refine AWp_seq ?_
    refine AWp_region hP ?_
    refine RK.val guard_none (op_load_agg hT rfl rfl rfl rfl (cs := [_, _]) rfl rfl) ?_
    refine RK.val guard_none (Eff.call0 (r_Sign _)) ?_
    refine RK.val guard_none (op_geq rfl rfl) ?_
    refine RK.val guard_none (op_move (rfl : _ = AV.p (.c _))) ?_
    refine RK.split (t := 44) rfl (fun hg1 => ?_) (fun hg1 => ?_)
    · have hg1_ := of_decide_eq_true hg1
      refine RK.skip (guard_no rfl rfl hg1) ?_
      refine RK.skip (guard_no rfl rfl hg1) ?_
      refine RK.val guard_none (op_pick_t rfl hg1 (rfl : _ = AV.p (.c _))) ?_
      refine RK.done (by kernel_rfl) ?_
      refine AWp_cond_true rfl rfl ?_
      refine AWp_region hP ?_
      refine RK.val guard_none (op_assign (rfl : _ = AV.p (.c _))) ?_
      refine RK.done (by kernel_rfl) ?_
      refine ⟨(), trivial, le_stL ⟨.refl _, .refl _, Sub.int (by have := sgn_ge_iff.1 hg1_; omega), trivial⟩ ⟨rfl, trivial⟩⟩
    · have hg1_ := of_decide_eq_false hg1
      refine RK.val (guard_yes rfl rfl hg1) (op_move (rfl : _ = AV.p (.c _))) ?_
      refine RK.val (guard_yes rfl rfl hg1) (op_gtr rfl rfl) ?_
      refine RK.val guard_none (op_pick_f rfl hg1 (rfl : _ = AV.p (.c _))) ?_
      refine RK.done (by kernel_rfl) ?_
      refine AWp_cond rfl (fun hb2 => ?_) (fun hb2 => ?_)
      · have hb2_ := of_decide_eq_true hb2
        refine AWp_region hP ?_
        refine RK.val guard_none (op_assign (rfl : _ = AV.p (.c _))) ?_
        refine RK.done (by kernel_rfl) ?_
        refine ⟨(), trivial, le_stL ⟨.refl _, .refl _, Sub.int (by omega), trivial⟩ ⟨rfl, trivial⟩⟩
      · have hb2_ := of_decide_eq_false hb2
        refine AWp_seq ?_
        refine AWp_region hP ?_
        refine RK.val guard_none (op_load_agg hT rfl rfl rfl rfl (cs := [_, _]) rfl rfl) ?_
        refine RK.val guard_none (Eff.call0 r11_Edge) ?_
        refine RK.val guard_none (op_uneg rfl (by first | exact IntWalk.i64_in _ (by omega) | rfl)) ?_
        refine RK.val guard_none (Eff.call0 (r_Of _ (by decide))) ?_
        refine RK.val guard_none (Eff.call0 (r_Cmp _ _)) ?_
        refine RK.val guard_none (op_lss rfl rfl) ?_
        refine RK.done (by kernel_rfl) ?_
        refine AWp_cond rfl (fun hb3 => ?_) (fun hb3 => ?_)
        · have hb3_ := of_decide_eq_true hb3
          refine AWp_region hP ?_
          refine RK.val guard_none (op_assign (rfl : _ = AV.p (.c _))) ?_
          refine RK.done (by kernel_rfl) ?_
          refine ⟨(), trivial, le_stL ⟨.refl _, .refl _, Sub.int (by have hg0 : ¬ 0 ≤ d := (fun h => hg1_ (sgn_ge_iff.2 h)); have h2 := cmpI_lt_zero.1 hb3_; omega), trivial⟩ ⟨rfl, trivial⟩⟩
        · have hb3_ := of_decide_eq_false hb3
          refine AWp_skip ?_
          refine ⟨(), trivial, le_stL ⟨.refl _, .refl _, Sub.int (by have hg0 : ¬ 0 ≤ d := (fun h => hg1_ (sgn_ge_iff.2 h)); have h2 : ¬ d < 0 - 4194304 := (fun h => hb3_ (cmpI_lt_zero.2 h)); omega), trivial⟩ ⟨rfl, trivial⟩⟩
  intro _ _
  refine AWp_seq ?_
  refine AWp_seq ?_
  refine AWp_region hP ?_
  refine RK.val guard_none (op_move (rfl : _ = AV.p (.c _))) ?_
  refine RK.val guard_none (op_eql rfl rfl) ?_
  refine RK.done (by kernel_rfl) ?_
  refine AWp_cond rfl (fun hb4 => ?_) (fun hb4 => ?_)
  · have hb4_ := bT hb4
    have hz0 := hb4_
    have q1 := c_Ratio d 0 (by omega) (by omega)
    rw [rtE_0 hz0 0 (by omega)] at q1
    have q2 := c_Ratio d (-3) (by omega) (by omega)
    rw [rtE_0 hz0 (-3) (by omega)] at q2
    have q3 := c_Ratio d 4096 (by omega) (by omega)
    rw [rtE_big hz0 (by omega)] at q3
    refine AWp_seq ?_
    refine AWp_region hP ?_
    refine RK.val guard_none (op_load_agg hT rfl rfl rfl rfl (cs := [_, _]) rfl rfl) ?_
    refine RK.val guard_none (Eff.call0 (r_Of _ (by first | assumption | decide))) ?_
    refine RK.val guard_none (Eff.call0 q1) ?_
    refine RK.val guard_none (op_move (rfl : _ = AV.t _)) ?_
    refine RK.val guard_none (op_extract rfl (v := .a _) rfl) ?_
    refine RK.val guard_none (op_extract rfl (v := .c _) rfl) ?_
    refine RK.alc guard_none (op_alloc hT rfl rfl) ?_
    refine RK.sto guard_none (op_store hT rfl rfl rfl rfl rfl rfl (cs := [_, _]) rfl) ?_
    refine RK.val guard_none (op_assign (rfl : _ = AV.p (.c _))) ?_
    refine RK.done (by kernel_rfl) ?_
    refine AWp_seq ?_
    refine AWp_region hP ?_
    refine RK.val guard_none (op_load_agg hT rfl rfl rfl rfl (cs := [_, _]) rfl rfl) ?_
    refine RK.val guard_none (Eff.call0 (r_Of _ (by first | assumption | decide))) ?_
    refine RK.val guard_none (Eff.call0 q2) ?_
    refine RK.val guard_none (op_move (rfl : _ = AV.t _)) ?_
    refine RK.val guard_none (op_extract rfl (v := .a _) rfl) ?_
    refine RK.val guard_none (op_extract rfl (v := .c _) rfl) ?_
    refine RK.alc guard_none (op_alloc hT rfl rfl) ?_
    refine RK.sto guard_none (op_store hT rfl rfl rfl rfl rfl rfl (cs := [_, _]) rfl) ?_
    refine RK.val guard_none (op_assign (rfl : _ = AV.p (.c _))) ?_
    refine RK.done (by kernel_rfl) ?_
    refine AWp_seq ?_
    refine AWp_region hP ?_
    refine RK.val guard_none (op_load_agg hT rfl rfl rfl rfl (cs := [_, _]) rfl rfl) ?_
    refine RK.val guard_none (Eff.call0 (r_Of _ (by first | assumption | decide))) ?_
    refine RK.val guard_none (Eff.call0 q3) ?_
    refine RK.val guard_none (op_move (rfl : _ = AV.t _)) ?_
    refine RK.val guard_none (op_extract rfl (v := .a _) rfl) ?_
    refine RK.val guard_none (op_extract rfl (v := .c _) rfl) ?_
    refine RK.alc guard_none (op_alloc hT rfl rfl) ?_
    refine RK.sto guard_none (op_store hT rfl rfl rfl rfl rfl rfl (cs := [_, _]) rfl) ?_
    refine RK.val guard_none (op_assign (rfl : _ = AV.p (.c _))) ?_
    refine RK.done (by kernel_rfl) ?_
    refine AWp_seq ?_
    refine AWp_region hP ?_
    refine RK.val guard_none (op_move (rfl : _ = AV.p (.c _))) ?_
    refine RK.val guard_none (op_eql rfl rfl) ?_
    refine RK.val guard_none (op_move (rfl : _ = AV.p (.c _))) ?_
    refine RK.val (guard_yes rfl rfl rfl) (op_move (rfl : _ = AV.p (.c _))) ?_
    refine RK.val (guard_yes rfl rfl rfl) (op_eql rfl rfl) ?_
    refine RK.val guard_none (op_pick_t rfl rfl (rfl : _ = AV.p (.c _))) ?_
    refine RK.val guard_none (op_move (rfl : _ = AV.p (.c _))) ?_
    refine RK.val (guard_yes rfl rfl rfl) (op_move (rfl : _ = AV.p (.c _))) ?_
    refine RK.val (guard_yes rfl rfl rfl) (op_eql rfl rfl) ?_
    refine RK.val guard_none (op_pick_t rfl rfl (rfl : _ = AV.p (.c _))) ?_
    refine RK.val guard_none (op_move (rfl : _ = AV.p (.c _))) ?_
    refine RK.val (guard_yes rfl rfl rfl) (op_move (rfl : _ = AV.p (.c _))) ?_
    refine RK.val guard_none (op_pick_t rfl rfl (rfl : _ = AV.p (.c _))) ?_
    refine RK.val guard_none (op_assign (rfl : _ = AV.p (.c _))) ?_
    refine RK.done (by kernel_rfl) ?_
    refine AWp_ret ?_
    refine ends_one rfl (.inr rfl) (res_tmp rfl) ?_ O_ends
    exact .refl _
  · have hb4_ := bF hb4
    have hE := hb4_
    refine AWp_skip ?_
    refine AWp_seq ?_
    refine AWp_region hP ?_
    refine RK.val guard_none (op_load_agg hT rfl rfl rfl rfl (cs := [_, _]) rfl rfl) ?_
    refine RK.val guard_none (Eff.call0 (c_ReducedE _ hd hE)) ?_
    refine RK.val guard_none (op_move (rfl : _ = AV.t _)) ?_
    refine RK.val guard_none (op_extract rfl (v := .c _) rfl) ?_
    refine RK.val guard_none (op_extract rfl (v := .c _) rfl) ?_
    refine RK.val guard_none (op_assign (rfl : _ = AV.p (.c _))) ?_
    refine RK.val guard_none (op_assign (rfl : _ = AV.p (.c _))) ?_
    refine RK.done (by kernel_rfl) ?_
    refine AWp_seq ?_
    refine AWp_region hP ?_
    refine RK.val guard_none (op_load_agg hT rfl rfl rfl rfl (cs := [_, _]) rfl rfl) ?_
    refine RK.val guard_none (Eff.call0 (c_AllE _ hd hE)) ?_
    refine RK.val guard_none (op_move (rfl : _ = AV.t _)) ?_
    refine RK.val guard_none (op_extract rfl (v := .c _) rfl) ?_
    refine RK.val guard_none (op_extract rfl (v := .c _) rfl) ?_
    refine RK.val guard_none (op_assign (rfl : _ = AV.p (.c _))) ?_
    refine RK.val guard_none (op_assign (rfl : _ = AV.p (.c _))) ?_
    refine RK.done (by kernel_rfl) ?_
    refine AWp_seq ?_
    refine AWp_region hP ?_
    refine RK.val guard_none (op_load_agg hT rfl rfl rfl rfl (cs := [_, _]) rfl rfl) ?_
    refine RK.val guard_none (Eff.call0 (c_ClassE _ hd hE)) ?_
    refine RK.val guard_none (op_move (rfl : _ = AV.t _)) ?_
    refine RK.val guard_none (op_extract rfl (v := .c _) rfl) ?_
    refine RK.val guard_none (op_extract rfl (v := .c _) rfl) ?_
    refine RK.val guard_none (op_assign (rfl : _ = AV.p (.c _))) ?_
    refine RK.val guard_none (op_assign (rfl : _ = AV.p (.c _))) ?_
    refine RK.done (by kernel_rfl) ?_
    refine AWp_seq ?_
    refine AWp_region hP ?_
    refine RK.val guard_none (op_load_agg hT rfl rfl rfl rfl (cs := [_, _]) rfl rfl) ?_
    refine RK.val guard_none (Eff.call0 (c_ConductorE _ hd hE)) ?_
    refine RK.val guard_none (op_move (rfl : _ = AV.t _)) ?_
    refine RK.val guard_none (op_extract rfl (v := .a _) rfl) ?_
    refine RK.val guard_none (op_extract rfl (v := .a _) rfl) ?_
    refine RK.val guard_none (op_extract rfl (v := .c _) rfl) ?_
    refine RK.alc guard_none (op_alloc hT rfl rfl) ?_
    refine RK.alc guard_none (op_alloc hT rfl rfl) ?_
    refine RK.sto guard_none (op_store hT rfl rfl rfl rfl rfl rfl (cs := [_, _]) rfl) ?_
    refine RK.sto guard_none (op_store hT rfl rfl rfl rfl rfl rfl (cs := [_, _]) rfl) ?_
    refine RK.val guard_none (op_assign (rfl : _ = AV.p (.c _))) ?_
    refine RK.done (by kernel_rfl) ?_
    refine AWp_seq ?_
    refine AWp_region hP ?_
    refine RK.val guard_none (op_load_agg hT rfl rfl rfl rfl (cs := [_, _]) rfl rfl) ?_
    refine RK.val guard_none (Eff.call0 (r_Of _ (by first | assumption | decide))) ?_
    refine RK.val guard_none (Eff.call0 (c_RatioE _ hd hE)) ?_
    refine RK.val guard_none (op_move (rfl : _ = AV.t _)) ?_
    refine RK.val guard_none (op_extract rfl (v := .a _) rfl) ?_
    refine RK.val guard_none (op_extract rfl (v := .c _) rfl) ?_
    refine RK.alc guard_none (op_alloc hT rfl rfl) ?_
    refine RK.sto guard_none (op_store hT rfl rfl rfl rfl rfl rfl (cs := [_, _]) rfl) ?_
    refine RK.val guard_none (op_assign (rfl : _ = AV.p (.c _))) ?_
    refine RK.done (by kernel_rfl) ?_
    refine AWp_seq ?_
    refine AWp_seq ?_
    refine AWp_region hP ?_
    refine RK.val guard_none (op_move (rfl : _ = AV.p (.c _))) ?_
    refine RK.val guard_none (op_len hT rfl rfl rfl (by rfl)) ?_
    refine RK.val guard_none (op_move (rfl : _ = AV.p (.c _))) ?_
    refine RK.val guard_none (op_len hT rfl rfl rfl (by rfl)) ?_
    refine RK.val guard_none (op_add rfl rfl (c := 0) (by first | rfl | decide)) ?_
    refine RK.val guard_none (op_move (rfl : _ = AV.p (.c _))) ?_
    refine RK.val guard_none (op_add rfl rfl (c := 0) (by first | rfl | decide)) ?_
    refine RK.val guard_none (op_field_loc hT rfl rfl rfl rfl rfl rfl) ?_
    refine RK.val guard_none (op_load_one hT rfl rfl rfl rfl (by first | rfl | exact vget (by omega))) ?_
    refine RK.val guard_none (op_len hT rfl rfl rfl (by rfl)) ?_
    refine RK.val guard_none (op_add rfl rfl (c := 0) (by first | rfl | decide)) ?_
    refine RK.val guard_none (op_field_loc hT rfl rfl rfl rfl rfl rfl) ?_
    refine RK.val guard_none (op_load_one hT rfl rfl rfl rfl (by first | rfl | exact vget (by omega))) ?_
    refine RK.val guard_none (op_len hT rfl rfl rfl (by rfl)) ?_
    refine RK.val guard_none (op_add rfl rfl (c := 0) (by first | rfl | decide)) ?_
    refine RK.val guard_none (op_field_loc hT rfl rfl rfl rfl rfl rfl) ?_
    refine RK.val guard_none (op_load_one hT rfl rfl rfl rfl (by first | rfl | exact vget (by omega))) ?_
    refine RK.val guard_none (op_len hT rfl rfl rfl (by rfl)) ?_
    refine RK.val guard_none (op_add rfl rfl (c := 0) (by first | rfl | decide)) ?_
    refine RK.val guard_none (op_gtr rfl rfl) ?_
    refine RK.val guard_none (op_move (rfl : _ = AV.p (.c _))) ?_
    refine RK.val (guard_yes rfl rfl rfl) (op_move (rfl : _ = AV.p (.c _))) ?_
    refine RK.val (guard_yes rfl rfl rfl) (op_move (rfl : _ = AV.p (.c _))) ?_
    refine RK.val (guard_yes rfl rfl rfl) (op_neq rfl rfl) ?_
    refine RK.val guard_none (op_pick_f rfl rfl (rfl : _ = AV.p (.c _))) ?_
    refine RK.val guard_none (op_move (rfl : _ = AV.p (.c _))) ?_
    refine RK.val (guard_yes rfl rfl (by simp)) (op_move (rfl : _ = AV.p (.c _))) ?_
    refine RK.val (guard_yes rfl rfl (by simp)) (op_move (rfl : _ = AV.p (.c _))) ?_
    refine RK.val (guard_yes rfl rfl (by simp)) (op_neq rfl rfl) ?_
    refine RK.val guard_none (op_pick_f rfl (by simp) (rfl : _ = AV.p (.c _))) ?_
    refine RK.val guard_none (op_move (rfl : _ = AV.p (.c _))) ?_
    refine RK.val (guard_yes rfl rfl (by simp)) (op_move (rfl : _ = AV.p (.c _))) ?_
    refine RK.val (guard_yes rfl rfl (by simp)) (op_move (rfl : _ = AV.p (.c _))) ?_
    refine RK.val (guard_yes rfl rfl (by simp)) (op_neq rfl rfl) ?_
    refine RK.val guard_none (op_pick_f rfl (by simp) (rfl : _ = AV.p (.c _))) ?_
    refine RK.val guard_none (op_move (rfl : _ = AV.p (.c _))) ?_
    refine RK.val (guard_yes rfl rfl (by simp)) (op_move (rfl : _ = AV.p (.c _))) ?_
    refine RK.val (guard_yes rfl rfl (by simp)) (op_move (rfl : _ = AV.p (.c _))) ?_
    refine RK.val (guard_yes rfl rfl (by simp)) (op_neq rfl rfl) ?_
    refine RK.val guard_none (op_pick_f rfl (by simp) (rfl : _ = AV.p (.c _))) ?_
    refine RK.val guard_none (op_move (rfl : _ = AV.p (.c _))) ?_
    refine RK.val (guard_yes rfl rfl (by simp)) (op_move (rfl : _ = AV.p (.c _))) ?_
    refine RK.val (guard_yes rfl rfl (by simp)) (op_move (rfl : _ = AV.p (.c _))) ?_
    refine RK.val (guard_yes rfl rfl (by simp)) (op_neq rfl rfl) ?_
    refine RK.val guard_none (op_pick_f rfl (by simp) (rfl : _ = AV.p (.c _))) ?_
    refine RK.done (by kernel_rfl) ?_
    refine AWp_cond_false rfl (by simp) ?_
    refine AWp_skip ?_
    refine AWp_seq ?_
    refine AWp_region hP ?_
    refine RK.val guard_none (op_load_agg hT rfl rfl rfl rfl (cs := [_, _]) rfl rfl) ?_
    refine RK.val guard_none (Eff.call0 (r_Abs _)) ?_
    refine RK.val guard_none (Eff.call0 (r_Of _ (by first | assumption | decide))) ?_
    refine RK.val guard_none (Eff.call0 (r_Add _ _ lz lz)) ?_
    refine RK.val guard_none (Eff.call0 (r_Neg _)) ?_
    refine RK.val guard_none (Eff.call0 (c_HurwitzN _ (by omega))) ?_
    refine RK.val guard_none (op_move (rfl : _ = AV.t _)) ?_
    refine RK.val guard_none (op_extract rfl (v := .a _) rfl) ?_
    refine RK.val guard_none (op_extract rfl (v := .c _) rfl) ?_
    refine RK.alc guard_none (op_alloc hT rfl rfl) ?_
    refine RK.sto guard_none (op_store hT rfl rfl rfl rfl rfl rfl (cs := [_, _]) rfl) ?_
    refine RK.val guard_none (op_assign (rfl : _ = AV.p (.c _))) ?_
    refine RK.done (by kernel_rfl) ?_
    refine AWp_seq ?_
    refine AWp_region hP ?_
    refine RK.val guard_none (op_load_agg hT rfl rfl rfl rfl (cs := [_, _]) rfl rfl) ?_
    refine RK.val guard_none (Eff.call0 (r_Abs _)) ?_
    refine RK.val guard_none (Eff.call0 r11_Edge) ?_
    refine RK.val guard_none (op_add rfl rfl (by first | exact IntWalk.i64_in _ (by omega) | rfl)) ?_
    refine RK.val guard_none (Eff.call0 (r_Of _ (by decide))) ?_
    refine RK.val guard_none (Eff.call0 (r_Add _ _ lz lz)) ?_
    refine RK.val guard_none (Eff.call0 (c_HurwitzB _ (by omega))) ?_
    refine RK.val guard_none (op_move (rfl : _ = AV.t _)) ?_
    refine RK.val guard_none (op_extract rfl (v := .a _) rfl) ?_
    refine RK.val guard_none (op_extract rfl (v := .c _) rfl) ?_
    refine RK.alc guard_none (op_alloc hT rfl rfl) ?_
    refine RK.sto guard_none (op_store hT rfl rfl rfl rfl rfl rfl (cs := [_, _]) rfl) ?_
    refine RK.val guard_none (op_assign (rfl : _ = AV.p (.c _))) ?_
    refine RK.done (by kernel_rfl) ?_
    refine AWp_seq ?_
    refine AWp_region hP ?_
    refine RK.val guard_none (op_move (rfl : _ = AV.p (.c _))) ?_
    refine RK.val guard_none (op_eql rfl rfl) ?_
    refine RK.val guard_none (op_move (rfl : _ = AV.p (.c _))) ?_
    refine RK.val (guard_yes rfl rfl rfl) (op_move (rfl : _ = AV.p (.c _))) ?_
    refine RK.val (guard_yes rfl rfl rfl) (op_eql rfl rfl) ?_
    refine RK.val guard_none (op_pick_t rfl rfl (rfl : _ = AV.p (.c _))) ?_
    refine RK.val guard_none (op_move (rfl : _ = AV.p (.c _))) ?_
    refine RK.val (guard_yes rfl rfl rfl) (op_move (rfl : _ = AV.p (.c _))) ?_
    refine RK.val guard_none (op_pick_t rfl rfl (rfl : _ = AV.p (.c _))) ?_
    refine RK.val guard_none (op_assign (rfl : _ = AV.p (.c _))) ?_
    refine RK.done (by kernel_rfl) ?_
    refine AWp_ret ?_
    refine ends_one rfl (.inr rfl) (res_tmp rfl) ?_ O_ends
    exact .refl _

end Go.Proofs.YtkdfinfdocdpoaaDoor
end

section
/- The law 'CountRefuses': for every input the call returns true and its arguments read as they did. No condition. -/
namespace Go.Proofs.YtkdfinfdocdpoaaDoor.countRefuses
open Go Go.AM Go.RowKit

theorem own : ownKnob Tryd.prog.godebug = none := by kernel_rfl
theorem lo : laidOutB Tryd.prog = true := by kernel_rfl
theorem o4 {H : Type} {enc : TypeId × Value → H} {W : World} : Opens enc Tryd.prog W 4 [.b] :=
  opens_bool Tryd.underlying4
theorem o33 {H : Type} {enc : TypeId × Value → H} {W : World} : Opens enc Tryd.prog W 33 [.s] :=
  opens_words Tryd.underlying33 Tryd.underlying70 (by kernel_rfl) (by kernel_rfl)
theorem o60 {H : Type} {enc : TypeId × Value → H} {W : World} : Opens enc Tryd.prog W 60 [.b, .s] :=
  by
  refine opens_struct Tryd.underlying60 ?_ (by kernel_rfl)
  show OpensF _ _ _ 0 (_ :: _ :: []) ([.b] ++ ([.s] ++ []))
  exact opensF_cons rfl o4 (by kernel_rfl) (opensF_cons rfl o33 (by kernel_rfl) opensF_nil)
set_option maxRecDepth 100000 in
theorem opened {H : Type} {enc : TypeId × Value → H} {W : World} : ArgsData enc Tryd.prog W Tryd.f9 9 := by
  refine args1 (rfl : Tryd.f9.params = #[60]) ?_
  intro v0 e0 p0 base hv0 ht0 hw0
  obtain ⟨d0, l0, r0⟩ := arg_agg (by rw [Tryd.underlying60]) o60 hv0 ht0 hw0
  obtain ⟨b0_0, s0_0, c0_0, rfl, w0_0, l0_0⟩ := l0.bs
  obtain rfl := l0_0.nil
  refine ⟨[_], ⟨r0, trivial⟩, ?_⟩
  exact l_CountRefuses _ _ w0_0

abbrev laidL : List (String × DataW Unit) := [("algorist/modular.signs", Rows.laid_algorist_modular_signs)]
set_option maxRecDepth 100000 in
theorem door_met (os : Os) (args : Array Value) : laidMetH Tryd.prog laidL ((World.doorLaid Tryd.prog 400 os).forCall (fun _ _ => 0) ⟨#[], args, []⟩).memory :=
  laidMetH_of_parts3 (fuel := 8) (laidMet_of_run' 8 (by kernel_rfl) (by kernel_rfl)) (by kernel_rfl) (by kernel_rfl)
theorem glob_ok (W : World) (h : laidMetH Tryd.prog laidL W) : GlOK (wh W) := by
  have hh := laid_ints (P := Tryd.prog) (W := W) (n := "algorist/modular.signs") (g := 0) (k := .i64) (xs := [0, 1, 0, -1, 0, -1, 0, 1]) (ty := 88) (e := 3) h (MakeChecks.laidMetH_plain _ _ _ (by kernel_rfl)) (by kernel_rfl) (by kernel_rfl) Tryd.underlying88 Tryd.underlying3 (by kernel_rfl)
  intro p hp
  simp only [glist, List.mem_cons, List.not_mem_nil, or_false] at hp
  subst hp
  exact hh

set_option maxRecDepth 100000 in
theorem lifted (os : Os) (started : os.Started) (H : Type) (enc : TypeId × Value → H) :
    ReturnsInHanded {} Tryd.checked os 9 .any (fun w args => (Rows.countRefusesSpec.pre enc Tryd.prog Tryd.f9 [] false w args ∧ laidMetH Tryd.prog laidL w) ∧ sizedMet enc Tryd.prog Tryd.f9 (OpenSpec.ofChange Rows.countRefusesSpec) false w args) (Rows.countRefusesSpec.post enc Tryd.prog Tryd.f9 false true false false) :=
  law_row_laid (C := Tryd.checked) own started (by kernel_rfl) Tryd.func9
    (ChangeSpec.witness_shaped (enc := enc) (C := Tryd.checked) (os := os) (X := fun w _ => laidMetH Tryd.prog laidL w) false (World.doorLaid Tryd.prog 400 os) #[.agg #[.bool false, .slice none 0 0]] 24 rfl (World.shaped_of_RefB (by kernel_rfl) (by kernel_rfl)) (by kernel_rfl) (by kernel_rfl) (by kernel_rfl) (door_met os _))
    lo (fun t ht => by
      have e : Tryd.f9.params.toList = [60] := rfl
      rw [e] at ht
      simp only [List.mem_cons, List.not_mem_nil, or_false] at ht
      subst ht 
      exact ⟨by kernel_rfl, Nat.le_of_ble_eq_true (by kernel_rfl)⟩)
    rfl (fun ds hd => by
      have e : ds.length = 1 := hd
      match ds, e with
      | [x0], _ => exact ⟨rfl, rfl, rfl⟩)
    rfl Tryd.underlying4 (fun W => opened) glob_ok

theorem over : Rows.countRefusesRow.holds Tryd.pinned (OpenSpec.ofChange Rows.countRefusesSpec) :=
  OpenClaim.holds_of_wide 9 Tryd.f9 rfl rfl rfl rfl rfl rfl rfl ⟨rfl, rfl, rfl, rfl, rfl⟩ rfl rfl rfl rfl rfl (by kernel_rfl) Tryd.func9 (by kernel_rfl)
    (of_decide_eq_true (by kernel_rfl)) (by unfold Func.isWrapper; first | (rw [if_pos (by decide +kernel)]; kernel_rfl) | (rw [if_neg (by decide +kernel)]; exact ⟨rfl, rfl⟩))
    (fun os started H enc _ => lifted os started H enc)

theorem row_proved : Rows.CountRefusesSaid := over

theorem proved : Rows.CountRefusesCardSaid :=
  Claim7.holds_tied_plain_at .later [] [.data] true (true, "4b7c0a518a4d789cebb104cf870566f82ccc4300e3a3677923114b2bb8c739b5") false
    row_proved (fun _ h => by cases h) (by kernel_rfl) (fun _ h => by cases h) countRefuses_row_tie rfl ⟨rfl, rfl⟩ (by kernel_rfl) rfl
    (fun f fn hf hfn => by
      obtain rfl : f = 9 := Option.some.inj ((show Tryd.prog.funcNamed Rows.countRefusesRow.func = some 9 by kernel_rfl).symm.trans hf) |>.symm
      obtain rfl : fn = Tryd.f9 := (Option.some.inj (Tryd.func9.symm.trans hfn)).symm
      exact ⟨by kernel_rfl, fun j t ht => by
        have hm : t ∈ [60] := by simpa using Array.mem_of_getElem? ht
        have hall : ([60].all fun u => !Tryd.prog.wantsStandIn u) = true := by kernel_rfl
        exact (show Tryd.prog.wantsStandIn t = false by simpa using List.all_eq_true.1 hall t hm)⟩)
    (by kernel_rfl)
end Go.Proofs.YtkdfinfdocdpoaaDoor.countRefuses
end
