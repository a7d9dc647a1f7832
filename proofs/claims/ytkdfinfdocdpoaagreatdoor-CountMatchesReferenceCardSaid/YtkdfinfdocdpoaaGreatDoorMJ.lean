/- Texts merged by program, in build order. -/
import Derived.Test.YtkdfinfdocdpoaaGreatDoorMT
import Derived.Test.YtkdfinfdocdpoaaGreatDoorME
import Derived.Test.YtkdfinfdocdpoaaGreatDoorMG
import Derived.Test.YtkdfinfdocdpoaaGreatDoorMI
import Derived.RangeFuncBox
import Derived.RangeFuncWrites
import Derived.RangeFuncLeaves
import Derived.Shelf.Abstract
import Derived.WalkKit
import Derived.OwnWalkIn
import Derived.TacticsInMore
import Derived.LoopNIn
import Derived.LoopIn
import Derived.Lib.Hide
section
/- integer.Low at numbers from 2^63 on -/
namespace Go.Proofs.YtkdfinfdocdpoaaGreatDoor
open Go Go.AM Go.RowKit Go.Shelf
attribute [local go_sem] Oper.semAt_some
namespace Low
def bigV (neg : Bool) (m : Nat) : Int := bif neg && decide (m = 9223372036854775808) then -9223372036854775808 else 0
def bigO (neg : Bool) (m : Nat) : Bool := neg && decide (m = 9223372036854775808)
set_option maxRecDepth 100000 in
set_option maxHeartbeats 4000000 in
/-- the loop, and what it leaves -/
theorem Low_big (F : Fence) (n : Nat) (h3 : F.fn 46) (h5 : F.fn 76) (h7 : F.fn 105) (hro : F.round = none) (hn : 3 ≤ n) (neg : Bool) (a : Option Addr) (cap : Nat) (zs : List Nat) (hz : zs.length ≤ 2) (hw : ∀ x ∈ upto (bk zs) zs.length, x.2 < 4294967296) (hm : 9223372036854775808 ≤ wv zs ∧ wv zs < 18446744073709551616) (w : World) (hI : Words (w.heap.size + 1) w.heap.size w a zs) :
    CallsIn F n Tryz.prog 46 #[.agg #[.bool neg, .slice a zs.length cap]] w fun e W' => e = .returned (.tuple #[.int .i64 (bigV neg (wv zs)), .bool (bigO neg (wv zs))]) ∧ Below w.heap.size w W' := by
  have h1 : 1 ≤ n := by omega
  refine callsIn_of_wp_marks Tryz.func46 rfl h3 ?_ hro
  simp only [Tryz.ntmps46, List.size_toArray, List.length_cons, List.length_nil, Nat.reduceAdd, Nat.reduceSub, Array.replicate_succ, Array.replicate_zero, List.push_toArray, List.append_toArray, List.nil_append, List.cons_append]
  have hz2 : decide ((zs.length : Int) > 2) = false := by simp; omega
  gi_wp2_with (gi_at_call 76; refine (backward_in F (n - 1) h5 hro _ _ _ _).mono ?_; rintro e w' ⟨rfl, rfl⟩)
  clear hz2
  have T3 := three w (.cells #[.bool neg, .slice a zs.length cap] 28) (.cells #[.int .u64 0] 93) (.cells #[.slice a zs.length cap] 23)
  have bA : (((w.alloc (.cells #[.bool neg, .slice a zs.length cap] 28)).alloc (.cells #[.int .u64 0] 93)).alloc (.cells #[.slice a zs.length cap] 23)).cell? ⟨w.heap.size, 0, none⟩ = some (.bool neg) := by simp only [World.cell?, T3.1]; rfl
  have bV : (((w.alloc (.cells #[.bool neg, .slice a zs.length cap] 28)).alloc (.cells #[.int .u64 0] 93)).alloc (.cells #[.slice a zs.length cap] 23)).cell? ⟨w.heap.size + 1, 0, none⟩ = some (.int .u64 0) := by simp only [World.cell?, T3.2.1]; rfl
  have bF : (((w.alloc (.cells #[.bool neg, .slice a zs.length cap] 28)).alloc (.cells #[.int .u64 0] 93)).alloc (.cells #[.slice a zs.length cap] 23)).frozen? ⟨w.heap.size + 1, 0, none⟩ = false := by simp only [World.frozen?, T3.2.1]; rfl
  have bS : (((w.alloc (.cells #[.bool neg, .slice a zs.length cap] 28)).alloc (.cells #[.int .u64 0] 93)).alloc (.cells #[.slice a zs.length cap] 23)).cell? ⟨w.heap.size + 1 + 1, 0, none⟩ = some (.slice a zs.length cap) := by simp only [World.cell?, T3.2.2]; rfl
  clear T3
  have hB0 : Below w.heap.size w (((w.alloc (.cells #[.bool neg, .slice a zs.length cap] 28)).alloc (.cells #[.int .u64 0] 93)).alloc (.cells #[.slice a zs.length cap] 23)) := (((Below.refl _ w).alloc (Nat.le_refl _) _).alloc (by simp) _).alloc (by simp; omega) _
  have hsz : (((w.alloc (.cells #[.bool neg, .slice a zs.length cap] 28)).alloc (.cells #[.int .u64 0] 93)).alloc (.cells #[.slice a zs.length cap] 23)).heap.size = w.heap.size + 3 := by simp
  refine wpIn_rangeFunc_ownG hro h1 (gf := 105) (lb := #[.pointer (some ⟨w.heap.size + 1 + 1, 0, none⟩)]) rfl h7 (enters_of Tryz.func105 (by kernel_rfl) rfl)
    (stops F (n - 1) h7 hro (by omega) (w.heap.size + 1 + 1) (w.heap.size + 1) (w.heap.size + 3) cap a zs (by omega) _ (by rw [hsz]; omega) (by omega) (by omega) (by rw [hsz]; omega) bS ((hI.below hB0 (Nat.le_refl _)).more (by omega))) KB.trans (KB.put (by rw [hsz]; omega)) (Below.refl _ _) (fun _ => rfl)
    (fun pre W => (W.cell? ⟨w.heap.size, 0, none⟩ = some (.bool neg) ∧ (∃ v : Int, W.cell? ⟨w.heap.size + 1, 0, none⟩ = some (.int .u64 v) ∧ ((∀ x ∈ pre, x.2 < 4294967296) → v = (acc pre : Nat))) ∧ W.frozen? ⟨w.heap.size + 1, 0, none⟩ = false) ∧ Below w.heap.size w W)
    (fun _ _ _ => False)
    (OwnFrom.and (Own.from (fun s A B row hs hg hr => by obtain ⟨e1, ⟨v, e2, e3⟩, e4⟩ := hs; exact ⟨cell_kept e1 hg hr, ⟨v, cell_kept e2 hg hr, e3⟩, (frozen_kept e2 hg hr).trans e4⟩) _) (ownFrom_below (Nat.le_refl _) (by rw [hsz]; omega)))
    (fun _ _ _ _ _ hs _ _ => hs)
    ⟨⟨bA, ⟨0, bV, fun _ => rfl⟩, bF⟩, hB0⟩
    (fun x => { tmps := #[.agg #[.bool neg, .slice a zs.length cap], .pointer (some ⟨w.heap.size, 0, none⟩), .int .i64 0, .bool false, .pointer (some ⟨w.heap.size + 1, 0, none⟩), undef, .int .u32 (x.2 : Int), undef, .pointer (some ⟨w.heap.size, 1, none⟩), .slice a zs.length cap, .int .i64 zs.length, .bool false, .pointer (some ⟨w.heap.size, 1, none⟩), .slice a zs.length cap, .func (.func 105) #[] #[.pointer (some ⟨w.heap.size + 1 + 1, 0, none⟩)], .int .i64 x.1, .int .u32 (x.2 : Int), undef, undef, undef, undef, undef, undef, undef, undef, undef, undef, undef, undef, undef, undef, undef, undef, undef, undef, undef, undef, undef], defers := [] }) ?assign ?body ?done ?stop
  case assign =>
    intro l x W K hK
    gi_wp2
    exact hK
  case body =>
    rintro l pre x W ⟨⟨hA, ⟨v, hc, hv⟩, hf⟩, hB⟩ hlen
    gi_wp2
    refine ⟨(KeepsOthers.setCell _ _ _).from _, KB.set _ _ _ _ _, ⟨(cell_set_other _ _ (by simp)).trans hA, ⟨_, World.cell?_setCell_same' _ _ _ (by rw [hc]; rfl), fun hb => ?_⟩, by rw [World.frozen?_setCell]; exact hf⟩, hB.setCell (p := ⟨w.heap.size + 1, 0, none⟩) (by simp) _⟩
    rw [hv (fun y hy => hb y (List.mem_append_left _ hy)), acc_snoc]
    have h8 := acc_lt pre (fun y hy => hb y (List.mem_append_left _ hy))
    have h9 : 4294967296 ^ pre.length ≤ 4294967296 ^ 1 := Nat.pow_le_pow_right (by decide) (by omega)
    exact or_acc (by omega) (hb x (by simp))
  case done =>
    rintro D ys W hD rfl ⟨⟨hA, ⟨v, hc, hv⟩, hf⟩, hB⟩ hK
    have hv := hv hw
    rw [acc_all zs hz] at hv
    subst hv
    generalize hmz : wv zs = m at *
    have Hz := Lib.hid hmz
    clear hmz
    clear bA bV bF bS hB0
    have hx : wrap64 (m : Int) = (m : Int) - 18446744073709551616 := by simp only [wrap64]; first | omega | (simp; omega)
    cases neg
    · have d1 : (wrap64 (m : Int) != 0) = true := by rw [hx]; simp; omega
      have d2 : decide (wrap64 (m : Int) < 0) = true := by rw [hx]; simp; omega
      clear hx
      gi_wp2
      refine ⟨by simp, .inl ⟨_, _, rfl, run_takeDeferred hK, ?_⟩⟩
      refine ⟨.tuple #[.int .i64 (0), .bool false], by simp [results, Tryz.results46, go_sem], ?_, hB.trans (belowK_b (w := w) (Nat.le_refl _) W D _ _ (by rw [hsz] at hD; omega) hK rfl rfl)⟩
      rw [Hz.out]
      rfl
    · have hy : wrap64 (0 - wrap64 (m : Int)) = if m = 9223372036854775808 then -9223372036854775808 else 18446744073709551616 - (m : Int) := by rw [hx]; simp only [wrap64]; split <;> omega
      have hy' : wrap64 (-wrap64 (m : Int)) = if m = 9223372036854775808 then -9223372036854775808 else 18446744073709551616 - (m : Int) := by rw [hx]; simp only [wrap64]; split <;> omega
      clear hx
      by_cases g : m = 9223372036854775808
      · rw [if_pos g] at hy hy'
        have d1 : (wrap64 (-wrap64 (m : Int)) != 0) = true := by rw [hy']; decide
        have d2 : decide (wrap64 (-wrap64 (m : Int)) < 0) = true := by rw [hy']; decide
        have e1 : bigV true m = wrap64 (-wrap64 (m : Int)) := by rw [hy']; unfold bigV; rw [decide_eq_true g]; rfl
        have e2 : bigO true m = true := by unfold bigO; rw [decide_eq_true g]; rfl
        clear hy hy' g
        gi_wp2
        refine ⟨by simp, .inl ⟨_, _, rfl, run_takeDeferred hK, ?_⟩⟩
        refine ⟨.tuple #[.int .i64 (wrap64 (-wrap64 (m : Int))), .bool true], by simp [results, Tryz.results46, go_sem], ?_, hB.trans (belowK_b (w := w) (Nat.le_refl _) W D _ _ (by rw [hsz] at hD; omega) hK rfl rfl)⟩
        rw [Hz.out]
        rw [e1, e2]
      · rw [if_neg g] at hy hy'
        have d1 : (wrap64 (-wrap64 (m : Int)) != 0) = true := by rw [hy']; simp; omega
        have d2 : decide (wrap64 (-wrap64 (m : Int)) < 0) = false := by rw [hy']; simp; omega
        have d1' : (wrap64 (0 - wrap64 (m : Int)) != 0) = true := by rw [hy]; simp; omega
        have d2' : decide (wrap64 (0 - wrap64 (m : Int)) < 0) = false := by rw [hy]; simp; omega
        clear hy hy'
        have e1 : bigV true m = 0 := by unfold bigV; rw [decide_eq_false g]; rfl
        have e2 : bigO true m = false := by unfold bigO; rw [decide_eq_false g]; rfl
        clear g
        gi_wp2
        refine ⟨by simp, .inl ⟨_, _, rfl, run_takeDeferred hK, ?_⟩⟩
        refine ⟨.tuple #[.int .i64 (0), .bool false], by simp [results, Tryz.results46, go_sem], ?_, hB.trans (belowK_b (w := w) (Nat.le_refl _) W D _ _ (by rw [hsz] at hD; omega) hK rfl rfl)⟩
        rw [Hz.out]
        rw [e1, e2]
  case stop =>
    rintro D c pre W _ _ h _
    exact h.elim
theorem bigO_lw {x : Int} (hx : 9223372036854775808 ≤ x.natAbs) : bigO (decide (x < 0)) x.natAbs = lwO x := by
  unfold bigO lwO
  rw [Bool.eq_iff_iff, Bool.and_eq_true, decide_eq_true_iff, decide_eq_true_iff, decide_eq_true_iff]
  omega
theorem bigV_lw {x : Int} (hx : 9223372036854775808 ≤ x.natAbs) : bigV (decide (x < 0)) x.natAbs = lwV x := by
  have h := bigO_lw hx
  unfold bigV lwV
  unfold bigO at h
  rw [h]
  cases g : lwO x
  · rfl
  · unfold lwO at g
    rw [decide_eq_true_iff] at g
    simp only [cond_true, if_true]
    omega
end Low
theorem int_LowM (x : Int) (hx : 9223372036854775808 ≤ x.natAbs ∧ x.natAbs < 18446744073709551616) : Call0 Tryz.prog 46 [I x] (.t [.c (.v (.int .i64 (lwV x))), PB (lwO x)]) := by
  refine ⟨⟨_, Tryz.func46, rfl, rfl⟩, ?_⟩
  intro h r w cargs hra hbf
  have hm := hx
  have hlen : (wl x.natAbs).length ≤ 2 := wl_len_le (k := 2) (by omega)
  obtain ⟨v, hv⟩ : ∃ v, cargs.toList = [v] := by
    cases hc : cargs.toList with
    | nil => rw [hc] at hra; exact hra.elim
    | cons v l => cases l with
      | nil => exact ⟨v, rfl⟩
      | cons y l => rw [hc] at hra; exact hra.2.elim
  rw [hv] at hra
  obtain ⟨cs, rfl, hs, hd⟩ := hra.1
  simp only [DReps] at hd
  obtain ⟨⟨y0, e0, d0⟩, ⟨y1, e1, d1⟩, _⟩ := hd
  simp only [zn, DRep] at d0
  simp only [zm, DRep] at d1
  obtain ⟨rfl, _⟩ := d0
  obtain ⟨a, cap, rfl, _, _, hw⟩ := d1
  have hcs : cs = #[.bool (decide (x < 0)), .slice a (wl x.natAbs).length cap] := by
    apply Array.ext_getElem?
    intro i
    match i with
    | 0 => rw [e0]; rfl
    | 1 => rw [show (1 : Nat) = 0 + 1 from rfl, e1]; rfl
    | i + 2 => rw [Array.getElem?_eq_none (by rw [hs]; simp), Array.getElem?_eq_none (by simp)]
  have hca : cargs = #[.agg #[.bool (decide (x < 0)), .slice a (wl x.natAbs).length cap]] := by
    rw [← Array.toArray_toList (xs := cargs), hv, hcs]
  have hW : Low.Words (w.heap.size + 1) w.heap.size w a (wl x.natAbs) := by
    rcases hw with hw | ⟨b, off, c, e, fr, rfl, hb, hr⟩
    · left
      exact List.map_eq_nil_iff.1 hw
    · right
      have hbw := hbf.hi _ _ hb
      have hlt : b < w.heap.size := (Array.getElem?_eq_some_iff.1 hbw).1
      refine ⟨b, off, rfl, hlt, by omega, fun j hj => ?_⟩
      obtain ⟨y, hy1, hy2⟩ := hr.get j (w32 ((wl x.natAbs)[j]?.getD 0)) (by simp [hj])
      simp only [w32, DRep] at hy2
      simp only [World.cell?, hbw]
      rw [hy1, hy2.1]; rfl
  rw [hca]
  have hbk : ∀ y ∈ Low.upto (Low.bk (wl x.natAbs)) (wl x.natAbs).length, y.2 < 4294967296 := by
    intro y hy
    unfold Low.upto at hy
    obtain ⟨k, hk, rfl⟩ := List.mem_map.1 hy
    unfold Low.bk
    have := (wl_ok x.natAbs).getD ((wl x.natAbs).length - 1 - k)
    rw [List.getD_eq_getElem?_getD] at this
    exact this
  refine Calls.mono (callsIn_wide.1 (Low.Low_big Fence.wide 3 trivial trivial trivial rfl (Nat.le_refl _) (decide (x < 0)) a cap (wl x.natAbs) hlen hbk (by rw [wv_wl]; exact hm) w hW)) ?_
  rintro e w' ⟨rfl, hB⟩
  refine ⟨_, h, rfl, ⟨[.int .i64 (Low.bigV (decide (x < 0)) (wv (wl x.natAbs))), .bool (Low.bigO (decide (x < 0)) (wv (wl x.natAbs)))], rfl, ⟨?_, ?_, trivial⟩⟩, ?_⟩
  · rw [wv_wl, Low.bigV_lw hx.1]
    simp only [PRep, DRep]; exact ⟨trivial, rfl⟩
  · rw [wv_wl, Low.bigO_lw hx.1]
    simp only [PRep, DRep]; exact ⟨trivial, rfl⟩
  · have old : ∀ k ob, h k = some ob → w'.heap[k]? = some ob := fun k ob e => by
      have h1 := hbf.hi k ob e
      rw [hB.block k (Array.getElem?_eq_some_iff.1 h1).1]; exact h1
    exact ⟨fun m b e => (by cases e), fun m hm => absurd rfl hm, old, fun m k hm => absurd rfl hm, hB.os, hB.tape, hB.output, hB.size, fun k hk _ => hB.block k hk, .refl _, fun k hk => .inl hk⟩
end Go.Proofs.YtkdfinfdocdpoaaGreatDoor
end

section
/- chapter 11: examples, Kronecker -/
namespace Go.Proofs.YtkdfinfdocdpoaaGreatDoor
open Go Go.AM

/- algorist/algoristlaw11.examples -/
set_option maxHeartbeats 4000000 in
set_option maxRecDepth 100000 in
theorem l_examples  :
    Call0 Tryz.prog 6 [] (B true) := by
  have e1 := c_Reduced (-23) (by omega)
  rw [ex1, ex1e] at e1
  have e2 := c_All (-12) (by omega)
  rw [ex2, ex2e] at e2
  have e3 := c_Class (-23) (by omega)
  rw [ex3, ex1e] at e3
  have e4 := c_Hurwitz 12 (by omega)
  rw [ex4, ex4e] at e4
  have e5 := c_Hurwitz 0 (by omega)
  rw [ex5, ex5e] at e5
  have e6 := c_Ratio (-3) 2 (by omega) (by omega)
  rw [ex6, ex6e] at e6
  have e7 := c_Class 5 (by omega)
  rw [ex7] at e7
  have e8 := c_Class (-4194308) (by omega)
  rw [ex8] at e8
  have sa := r11_Same ([⟨1, 1, 6⟩, ⟨2, -1, 3⟩, ⟨2, 1, 3⟩] : List Fm) ([⟨1, 1, 6⟩, ⟨2, -1, 3⟩, ⟨2, 1, 3⟩] : List Fm) (by decide)
  rw [show decide (([⟨1, 1, 6⟩, ⟨2, -1, 3⟩, ⟨2, 1, 3⟩] : List Fm) = ([⟨1, 1, 6⟩, ⟨2, -1, 3⟩, ⟨2, 1, 3⟩] : List Fm)) = true from decide_eq_true rfl] at sa
  have sb := r11_Same ([⟨1, 0, 3⟩, ⟨2, 2, 2⟩] : List Fm) ([⟨1, 0, 3⟩, ⟨2, 2, 2⟩] : List Fm) (by decide)
  rw [show decide (([⟨1, 0, 3⟩, ⟨2, 2, 2⟩] : List Fm) = ([⟨1, 0, 3⟩, ⟨2, 2, 2⟩] : List Fm)) = true from decide_eq_true rfl] at sb
  generalize clE 5 = z7 at e7
  generalize clE (-4194308) = z8 at e8
  refine callM_of (np := 0) Tryz.func6 (by kernel_rfl) rfl rfl (Nat.le_of_ble_eq_true rfl) (fun m h => absurd rfl h) (fun m h => absurd rfl h) rfl ?_
  refine AWp_seq ?_
  refine AWp_region hP ?_
  refine RK.val guard_none (op_assign (rfl : _ = AV.p (.c _))) ?_
  refine RK.done (by kernel_rfl) ?_
  refine AWp_seq ?_
  refine AWp_region hP ?_
  refine RK.val guard_none (Eff.call0 (r_Of _ (by first | assumption | decide))) ?_
  refine RK.val guard_none (Eff.call0 e1) ?_
  refine RK.val guard_none (op_move (rfl : _ = AV.t _)) ?_
  refine RK.val guard_none (op_extract rfl (v := .c _) rfl) ?_
  refine RK.val guard_none (op_extract rfl (v := .c _) rfl) ?_
  refine RK.val guard_none (op_assign (rfl : _ = AV.p (.c _))) ?_
  refine RK.val guard_none (op_assign (rfl : _ = AV.p (.c _))) ?_
  refine RK.done (by kernel_rfl) ?_
  refine AWp_seq ?_
  refine AWp_region hP ?_
  refine RK.val guard_none (Eff.call0 (r_Of _ (by first | assumption | decide))) ?_
  refine RK.val guard_none (Eff.call0 e2) ?_
  refine RK.val guard_none (op_move (rfl : _ = AV.t _)) ?_
  refine RK.val guard_none (op_extract rfl (v := .c _) rfl) ?_
  refine RK.val guard_none (op_extract rfl (v := .c _) rfl) ?_
  refine RK.val guard_none (op_assign (rfl : _ = AV.p (.c _))) ?_
  refine RK.val guard_none (op_assign (rfl : _ = AV.p (.c _))) ?_
  refine RK.done (by kernel_rfl) ?_
  refine AWp_seq ?_
  refine AWp_region hP ?_
  refine RK.val guard_none (Eff.call0 (r_Of _ (by first | assumption | decide))) ?_
  refine RK.val guard_none (Eff.call0 e3) ?_
  refine RK.val guard_none (op_move (rfl : _ = AV.t _)) ?_
  refine RK.val guard_none (op_extract rfl (v := .c _) rfl) ?_
  refine RK.val guard_none (op_extract rfl (v := .c _) rfl) ?_
  refine RK.val guard_none (op_assign (rfl : _ = AV.p (.c _))) ?_
  refine RK.val guard_none (op_assign (rfl : _ = AV.p (.c _))) ?_
  refine RK.done (by kernel_rfl) ?_
  refine AWp_seq ?_
  refine AWp_region hP ?_
  refine RK.val guard_none (Eff.call0 (r_Of _ (by first | assumption | decide))) ?_
  refine RK.val guard_none (Eff.call0 e4) ?_
  refine RK.val guard_none (op_move (rfl : _ = AV.t _)) ?_
  refine RK.val guard_none (op_extract rfl (v := .a _) rfl) ?_
  refine RK.val guard_none (op_extract rfl (v := .c _) rfl) ?_
  refine RK.alc guard_none (op_alloc hT rfl rfl) ?_
  refine RK.sto guard_none (op_store hT rfl rfl rfl rfl rfl rfl (cs := [_, _]) rfl) ?_
  refine RK.val guard_none (op_assign (rfl : _ = AV.p (.c _))) ?_
  refine RK.done (by kernel_rfl) ?_
  refine AWp_seq ?_
  refine AWp_region hP ?_
  refine RK.val guard_none (Eff.call0 (r_Of _ (by first | assumption | decide))) ?_
  refine RK.val guard_none (Eff.call0 e5) ?_
  refine RK.val guard_none (op_move (rfl : _ = AV.t _)) ?_
  refine RK.val guard_none (op_extract rfl (v := .a _) rfl) ?_
  refine RK.val guard_none (op_extract rfl (v := .c _) rfl) ?_
  refine RK.alc guard_none (op_alloc hT rfl rfl) ?_
  refine RK.sto guard_none (op_store hT rfl rfl rfl rfl rfl rfl (cs := [_, _]) rfl) ?_
  refine RK.val guard_none (op_assign (rfl : _ = AV.p (.c _))) ?_
  refine RK.done (by kernel_rfl) ?_
  refine AWp_seq ?_
  refine AWp_region hP ?_
  refine RK.val guard_none (Eff.call0 (r_Of _ (by first | assumption | decide))) ?_
  refine RK.val guard_none (Eff.call0 (r_Of _ (by first | assumption | decide))) ?_
  refine RK.val guard_none (Eff.call0 e6) ?_
  refine RK.val guard_none (op_move (rfl : _ = AV.t _)) ?_
  refine RK.val guard_none (op_extract rfl (v := .a _) rfl) ?_
  refine RK.val guard_none (op_extract rfl (v := .c _) rfl) ?_
  refine RK.alc guard_none (op_alloc hT rfl rfl) ?_
  refine RK.sto guard_none (op_store hT rfl rfl rfl rfl rfl rfl (cs := [_, _]) rfl) ?_
  refine RK.val guard_none (op_assign (rfl : _ = AV.p (.c _))) ?_
  refine RK.done (by kernel_rfl) ?_
  refine AWp_seq ?_
  refine AWp_region hP ?_
  refine RK.val guard_none (Eff.call0 (r_Of _ (by first | assumption | decide))) ?_
  refine RK.val guard_none (Eff.call0 e7) ?_
  refine RK.val guard_none (op_move (rfl : _ = AV.t _)) ?_
  refine RK.val guard_none (op_extract rfl (v := .c _) rfl) ?_
  refine RK.val guard_none (op_extract rfl (v := .c _) rfl) ?_
  refine RK.val guard_none (op_assign (rfl : _ = AV.p (.c _))) ?_
  refine RK.val guard_none (op_assign (rfl : _ = AV.p (.c _))) ?_
  refine RK.done (by kernel_rfl) ?_
  refine AWp_seq ?_
  refine AWp_region hP ?_
  refine RK.val guard_none (Eff.call0 (r_Of _ (by first | assumption | decide))) ?_
  refine RK.val guard_none (Eff.call0 e8) ?_
  refine RK.val guard_none (op_move (rfl : _ = AV.t _)) ?_
  refine RK.val guard_none (op_extract rfl (v := .c _) rfl) ?_
  refine RK.val guard_none (op_extract rfl (v := .c _) rfl) ?_
  refine RK.val guard_none (op_assign (rfl : _ = AV.p (.c _))) ?_
  refine RK.val guard_none (op_assign (rfl : _ = AV.p (.c _))) ?_
  refine RK.done (by kernel_rfl) ?_
  refine AWp_seq ?_
  refine AWp_seq ?_
  refine AWp_region hP ?_
  refine RK.val guard_none (op_move (rfl : _ = AV.p (.c _))) ?_
  refine RK.val guard_none (op_neq rfl rfl) ?_
  refine RK.val guard_none (op_move (rfl : _ = AV.p (.c _))) ?_
  refine RK.val (guard_yes rfl rfl rfl) (op_move (rfl : _ = AV.p (.c _))) ?_
  refine RK.val (guard_yes rfl rfl rfl) (op_neq rfl rfl) ?_
  refine RK.val guard_none (op_pick_f rfl rfl (rfl : _ = AV.p (.c _))) ?_
  refine RK.val guard_none (op_move (rfl : _ = AV.p (.c _))) ?_
  refine RK.val (guard_yes rfl rfl rfl) (op_move (rfl : _ = AV.p (.c _))) ?_
  refine RK.val (guard_yes rfl rfl rfl) (op_neq rfl rfl) ?_
  refine RK.val guard_none (op_pick_f rfl rfl (rfl : _ = AV.p (.c _))) ?_
  refine RK.val guard_none (op_move (rfl : _ = AV.p (.c _))) ?_
  refine RK.val (guard_yes rfl rfl rfl) (op_move (rfl : _ = AV.p (.c _))) ?_
  refine RK.val (guard_yes rfl rfl rfl) (op_neq rfl rfl) ?_
  refine RK.val guard_none (op_pick_f rfl rfl (rfl : _ = AV.p (.c _))) ?_
  refine RK.val guard_none (op_move (rfl : _ = AV.p (.c _))) ?_
  refine RK.val (guard_yes rfl rfl rfl) (op_move (rfl : _ = AV.p (.c _))) ?_
  refine RK.val (guard_yes rfl rfl rfl) (op_neq rfl rfl) ?_
  refine RK.val guard_none (op_pick_f rfl rfl (rfl : _ = AV.p (.c _))) ?_
  refine RK.val guard_none (op_move (rfl : _ = AV.p (.c _))) ?_
  refine RK.val (guard_yes rfl rfl rfl) (op_move (rfl : _ = AV.p (.c _))) ?_
  refine RK.val (guard_yes rfl rfl rfl) (op_neq rfl rfl) ?_
  refine RK.val guard_none (op_pick_f rfl rfl (rfl : _ = AV.p (.c _))) ?_
  refine RK.val guard_none (op_move (rfl : _ = AV.p (.c _))) ?_
  refine RK.val (guard_yes rfl rfl rfl) (op_move (rfl : _ = AV.p (.c _))) ?_
  refine RK.val (guard_yes rfl rfl rfl) (op_neq rfl rfl) ?_
  refine RK.val guard_none (op_pick_f rfl rfl (rfl : _ = AV.p (.c _))) ?_
  refine RK.val guard_none (op_move (rfl : _ = AV.p (.c _))) ?_
  refine RK.val (guard_yes rfl rfl rfl) (op_move (rfl : _ = AV.p (.c _))) ?_
  refine RK.val (guard_yes rfl rfl rfl) (op_neq rfl rfl) ?_
  refine RK.val guard_none (op_pick_f rfl rfl (rfl : _ = AV.p (.c _))) ?_
  refine RK.val guard_none (op_move (rfl : _ = AV.p (.c _))) ?_
  refine RK.val (guard_yes rfl rfl rfl) (op_move (rfl : _ = AV.p (.c _))) ?_
  refine RK.val (guard_yes rfl rfl rfl) (op_neq rfl rfl) ?_
  refine RK.val guard_none (op_pick_f rfl rfl (rfl : _ = AV.p (.c _))) ?_
  refine RK.done (by kernel_rfl) ?_
  refine AWp_cond_false rfl rfl ?_
  refine AWp_skip ?_
  refine AWp_seq ?_
  refine AWp_region hP ?_
  refine RK.val guard_none (op_move (rfl : _ = AV.p (.c _))) ?_
  refine RK.val guard_none (Eff.call0 (r8_Of _ _ _ (by first | assumption | decide) (by first | assumption | decide) (by first | assumption | decide))) ?_
  refine RK.val guard_none (Eff.call0 (r8_Of _ _ _ (by first | assumption | decide) (by first | assumption | decide) (by first | assumption | decide))) ?_
  refine RK.val guard_none (Eff.call0 (r8_Of _ _ _ (by first | assumption | decide) (by first | assumption | decide) (by first | assumption | decide))) ?_
  refine RK.val guard_none (op_bslice hT rfl rfl rfl (es := [_, _, _, _, _, _, _, _, _, _, _, _, _, _, _, _, _, _]) rfl rfl rfl) ?_
  refine RK.val guard_none (Eff.call0 sa) ?_
  refine RK.val guard_none (op_move (rfl : _ = AV.p (.c _))) ?_
  refine RK.val (guard_yes rfl rfl rfl) (op_move (rfl : _ = AV.p (.c _))) ?_
  refine RK.val (guard_yes rfl rfl rfl) (Eff.call0 (r8_Of _ _ _ (by first | assumption | decide) (by first | assumption | decide) (by first | assumption | decide))) ?_
  refine RK.val (guard_yes rfl rfl rfl) (Eff.call0 (r8_Of _ _ _ (by first | assumption | decide) (by first | assumption | decide) (by first | assumption | decide))) ?_
  refine RK.val (guard_yes rfl rfl rfl) (op_bslice hT rfl rfl rfl (es := [_, _, _, _, _, _, _, _, _, _, _, _]) rfl rfl rfl) ?_
  refine RK.val (guard_yes rfl rfl rfl) (Eff.call0 sb) ?_
  refine RK.val guard_none (op_pick_t rfl rfl (rfl : _ = AV.p (.c _))) ?_
  refine RK.val guard_none (op_move (rfl : _ = AV.p (.c _))) ?_
  refine RK.val (guard_yes rfl rfl rfl) (op_load_agg hT rfl rfl rfl rfl (cs := [_, _]) rfl rfl) ?_
  refine RK.val (guard_yes rfl rfl rfl) (Eff.call0 (r_Of _ (by first | assumption | decide))) ?_
  refine RK.val (guard_yes rfl rfl rfl) (Eff.call0 (r_Same _ _)) ?_
  refine RK.val guard_none (op_pick_t rfl rfl (rfl : _ = AV.p (.c _))) ?_
  refine RK.val guard_none (op_move (rfl : _ = AV.p (.c _))) ?_
  refine RK.val (guard_yes rfl rfl rfl) (op_load_agg hT rfl rfl rfl rfl (cs := [_, _]) rfl rfl) ?_
  refine RK.val (guard_yes rfl rfl rfl) (Eff.call0 (r_Of _ (by first | assumption | decide))) ?_
  refine RK.val (guard_yes rfl rfl rfl) (Eff.call0 (r_Same _ _)) ?_
  refine RK.val guard_none (op_pick_t rfl rfl (rfl : _ = AV.p (.c _))) ?_
  refine RK.val guard_none (op_move (rfl : _ = AV.p (.c _))) ?_
  refine RK.val (guard_yes rfl rfl rfl) (op_load_agg hT rfl rfl rfl rfl (cs := [_, _]) rfl rfl) ?_
  refine RK.val (guard_yes rfl rfl rfl) (Eff.call0 (r_Of _ (by first | assumption | decide))) ?_
  refine RK.val (guard_yes rfl rfl rfl) (Eff.call0 (r_Same _ _)) ?_
  refine RK.val guard_none (op_pick_t rfl rfl (rfl : _ = AV.p (.c _))) ?_
  refine RK.val guard_none (op_assign (rfl : _ = AV.p (.c _))) ?_
  refine RK.done (by kernel_rfl) ?_
  refine AWp_ret ?_
  refine ends_one rfl (.inr rfl) (res_tmp rfl) ?_ O_ends
  exact .refl _

end Go.Proofs.YtkdfinfdocdpoaaGreatDoor
end

section
/- Reduced forms by their contents. -/
namespace Go.AM
open Go Go.RowKit
/-- a reduced form of the discriminant -n -/
structure RedT (n : Int) (t : Tr) : Prop where
  a1 : 1 ≤ t.a
  b1 : 1 - t.a ≤ t.b
  b2 : t.b ≤ t.a
  ac : t.a ≤ t.c
  bc : ¬ (t.b < 0 ∧ t.a = t.c)
  ds : 4 * t.a * t.c = t.b * t.b + n
theorem mem_row_of {n a b' : Int} : ∀ (k : Nat) (b : Int), b ≤ b' → b' < b + k → okT n a b' = true → (⟨a, b', (b' * b' + n) / (4 * a)⟩ : Tr) ∈ rowT n a k b
  | 0, b, h, h1, _ => by omega
  | k + 1, b, h, h1, h2 => by
    unfold rowT
    rw [List.mem_append]
    by_cases e : b = b'
    · subst e; rw [if_pos h2]; exact .inl (by simp)
    · exact .inr (mem_row_of k (b + 1) (by omega) (by omega) h2)
theorem sq3_le {a b : Int} (h1 : 1 ≤ a) (h : a ≤ b) : 3 * a * a ≤ 3 * b * b := by
  have : a * a ≤ b * b := Int.mul_le_mul h h (by omega) (by omega)
  rw [Int.mul_assoc, Int.mul_assoc]; omega
theorem mem_all_of {n a' b' : Int} : ∀ (k : Nat) (a : Int), 1 ≤ a → a ≤ a' → a' < a + k → 3 * a' * a' ≤ n → 1 - a' ≤ b' → b' ≤ a' → okT n a' b' = true → (⟨a', b', (b' * b' + n) / (4 * a')⟩ : Tr) ∈ allT n k a
  | 0, a, _, h, h1, _, _, _, _ => by omega
  | k + 1, a, h0, h, h1, h2, h3, h4, h5 => by
    unfold allT
    have h6 := sq3_le h0 h
    rw [if_pos (by omega), List.mem_append]
    by_cases e : a = a'
    · subst e; exact .inl (mem_row_of _ _ h3 (by omega) h5)
    · exact .inr (mem_all_of k (a + 1) (by omega) (by omega) (by omega) h2 h3 h4 h5)
theorem RedT.sq {n : Int} {t : Tr} (h : RedT n t) : 3 * t.a * t.a ≤ n := by
  have h1 := h.ds
  have h2 : t.a * t.a ≤ t.a * t.c := Int.mul_le_mul_of_nonneg_left h.ac (by have := h.a1; omega)
  have h3 := sq_b (x := t.b) (m := t.a) (by have := h.b1; have := h.b2; omega)
  rw [Int.mul_assoc] at h1 ⊢
  omega
theorem okT_iff {n a b : Int} : okT n a b = true ↔ (b * b + n) % (4 * a) = 0 ∧ a ≤ (b * b + n) / (4 * a) ∧ ¬ (b < 0 ∧ a = (b * b + n) / (4 * a)) := by
  unfold okT
  simp only [Bool.and_eq_true, decide_eq_true_iff, Bool.not_eq_true', Bool.and_eq_false_iff, decide_eq_false_iff_not]
  constructor
  · rintro ⟨h1, h2, h3⟩; exact ⟨h1, h2, fun x => h3.elim (fun g => g x.1) (fun g => g x.2)⟩
  · rintro ⟨h1, h2, h3⟩; exact ⟨h1, h2, by by_cases g : b < 0; exact .inr (fun e => h3 ⟨g, e⟩); exact .inl g⟩
theorem trs_iff {n : Int} (hn : n ≤ 4194304) (t : Tr) : t ∈ trs n ↔ RedT n t := by
  constructor
  · intro h
    have k := trs_mem h
    refine ⟨k.a1, k.b1, k.b2, k.ac, k.bc, ?_⟩
    have e := Int.mul_ediv_add_emod (t.b * t.b + n) (4 * t.a)
    rw [k.md, ← k.c] at e
    omega
  · intro h
    have h1 := h.sq
    have h2 := aT_le h.a1 h1 hn
    have hd : (t.b * t.b + n) / (4 * t.a) = t.c := by rw [← h.ds]; exact Int.mul_ediv_cancel_left _ (by have := h.a1; omega)
    have hm : (t.b * t.b + n) % (4 * t.a) = 0 := by rw [← h.ds]; exact Int.mul_emod_right _ _
    have h3 := mem_all_of (n := n) (a' := t.a) (b' := t.b) 2000 1 (by omega) h.a1 (by omega) h1 h.b1 h.b2 (okT_iff.2 ⟨hm, by rw [hd]; exact h.ac, by rw [hd]; exact h.bc⟩)
    rw [hd] at h3
    exact h3
theorem row_nodup {n a : Int} : ∀ (k : Nat) (b : Int), (rowT n a k b).Nodup
  | 0, b => by unfold rowT; exact List.nodup_nil
  | k + 1, b => by
    unfold rowT
    rw [List.nodup_append]
    refine ⟨by split <;> simp, row_nodup k (b + 1), fun x hx y hy e => ?_⟩
    split at hx
    · simp only [List.mem_singleton] at hx
      obtain ⟨b', h1, _, _, rfl⟩ := mem_rowT hy
      subst hx
      have := congrArg Tr.b e
      simp only at this
      omega
    · cases hx
theorem all_nodup {n : Int} : ∀ (k : Nat) (a : Int), 1 ≤ a → (allT n k a).Nodup
  | 0, a, _ => by unfold allT; exact List.nodup_nil
  | k + 1, a, h => by
    unfold allT
    split
    · rw [List.nodup_append]
      refine ⟨row_nodup _ _, all_nodup k (a + 1) (by omega), fun x hx y hy e => ?_⟩
      obtain ⟨b', _, _, _, rfl⟩ := mem_rowT hx
      obtain ⟨a1, b1, g1, _, _, _, _, _, rfl⟩ := mem_allT (by omega) hy
      have := congrArg Tr.a e
      simp only at this
      omega
    · exact List.nodup_nil
theorem trs_nodup (n : Int) : (trs n).Nodup := all_nodup 2000 1 (by omega)
/-- contents -/
def gT (t : Tr) : Nat := Int.gcd (Int.gcd t.a t.b : Nat) t.c
theorem prT_g (t : Tr) : prT t = decide (gT t = 1) := rfl
def sc (m : Int) (t : Tr) : Tr := ⟨m * t.a, m * t.b, m * t.c⟩
theorem gT_sc (m : Nat) (t : Tr) : gT (sc m t) = m * gT t := by
  unfold gT sc
  simp only
  rw [Int.gcd_mul_left, Int.natAbs_natCast, Int.natCast_mul, Int.gcd_mul_left, Int.natAbs_natCast]
theorem gT_dvd (t : Tr) : (gT t : Int) ∣ t.a ∧ (gT t : Int) ∣ t.b ∧ (gT t : Int) ∣ t.c := by
  have h1 : (gT t : Int) ∣ ((Int.gcd t.a t.b : Nat) : Int) := Int.gcd_dvd_left ..
  exact ⟨Int.dvd_trans h1 (Int.gcd_dvd_left ..), Int.dvd_trans h1 (Int.gcd_dvd_right ..), Int.gcd_dvd_right ..⟩
theorem sc_red {m N : Int} {t : Tr} (hm : 1 ≤ m) : RedT (m * m * N) (sc m t) ↔ RedT N t := by
  have e1 : ∀ x y : Int, m * x ≤ m * y ↔ x ≤ y := fun x y => Int.mul_le_mul_left (by omega)
  have e2 : ∀ x y : Int, m * x < m * y ↔ x < y := fun x y => Int.mul_lt_mul_left (by omega)
  have e3 : ∀ x y : Int, m * x = m * y ↔ x = y := fun x y => Int.mul_eq_mul_left_iff (by omega)
  have d : 4 * (m * t.a) * (m * t.c) = m * m * (4 * t.a * t.c) := by simp only [Int.mul_assoc, Int.mul_left_comm, Int.mul_comm]
  have d2 : m * t.b * (m * t.b) + m * m * N = m * m * (t.b * t.b + N) := by
    rw [Int.mul_add]
    congr 1
    simp only [Int.mul_assoc, Int.mul_left_comm]
  have hmm : m * m ≠ 0 := by
    have : 1 * 1 ≤ m * m := Int.mul_le_mul hm hm (by omega) (by omega)
    omega
  constructor
  · rintro ⟨h1, h2, h3, h4, h5, h6⟩
    simp only [sc] at h1 h2 h3 h4 h5 h6
    have a1 : 0 < t.a := by
      have := (e2 0 t.a).1 (by omega)
      exact this
    have b1 : -t.a < t.b := (e2 _ _).1 (by rw [Int.mul_neg]; omega)
    refine ⟨a1, by omega, (e1 _ _).1 h3, (e1 _ _).1 h4, ?_, ?_⟩
    · rintro ⟨g1, g2⟩
      refine h5 ⟨?_, by rw [g2]⟩
      have := (e2 t.b 0).2 g1
      omega
    · rw [d, d2] at h6
      exact Int.eq_of_mul_eq_mul_left hmm h6
  · rintro ⟨h1, h2, h3, h4, h5, h6⟩
    have g1 := (e2 0 t.a).2 (by omega)
    have g2 := (e2 (-t.a) t.b).2 (by omega)
    rw [Int.mul_neg] at g2
    refine ⟨by show 1 ≤ m * t.a; omega, by show 1 - m * t.a ≤ m * t.b; omega, (e1 _ _).2 h3, (e1 _ _).2 h4, ?_, ?_⟩
    · rintro ⟨g3, g4⟩
      have g3' : m * t.b < 0 := g3
      refine h5 ⟨(e2 t.b 0).1 (by omega), (e3 _ _).1 g4⟩
    · show 4 * (m * t.a) * (m * t.c) = m * t.b * (m * t.b) + m * m * N
      rw [d, d2, h6]
theorem red_mod {n : Int} {t : Tr} (h : RedT n t) : n % 4 = 0 ∨ n % 4 = 3 := by
  have h1 := h.ds
  rw [Int.mul_assoc] at h1
  have h2 : t.b % 2 = 0 ∨ t.b % 2 = 1 := by omega
  generalize t.a * t.c = x at h1
  rcases h2 with g | g
  · obtain ⟨q, hq⟩ : ∃ q, t.b = 2 * q := ⟨t.b / 2, by omega⟩
    have e : t.b * t.b = 4 * (q * q) := by rw [hq, Int.mul_assoc, Int.mul_left_comm q 2 q]; omega
    omega
  · obtain ⟨q, hq⟩ : ∃ q, t.b = 2 * q + 1 := ⟨t.b / 2, by omega⟩
    have e : t.b * t.b = 4 * (q * q) + 4 * q + 1 := by
      have e0 : 2 * q * (2 * q) = 4 * (q * q) := by rw [Int.mul_assoc, Int.mul_left_comm q 2 q]; omega
      rw [hq, Int.mul_add, Int.add_mul, e0, Int.mul_one, Int.one_mul]; omega
    omega
theorem red_pos {n : Int} {t : Tr} (h : RedT n t) : 0 < n := by
  have h1 := h.sq
  have h2 := sq3_le (show (1 : Int) ≤ 1 by omega) h.a1
  omega
theorem red_isD {n : Int} {t : Tr} (h : RedT n t) : isD n = true := by
  unfold isD
  rw [decide_eq_true (red_pos h), Bool.true_and, Bool.or_eq_true, decide_eq_true_iff, decide_eq_true_iff]
  exact red_mod h
theorem sc_div {t : Tr} {m : Int} (h1 : m ∣ t.a) (h2 : m ∣ t.b) (h3 : m ∣ t.c) : ∃ s, t = sc m s := by
  obtain ⟨x, hx⟩ := h1
  obtain ⟨y, hy⟩ := h2
  obtain ⟨z, hz⟩ := h3
  exact ⟨⟨x, y, z⟩, by cases t; simp_all [sc]⟩
theorem sc_n {n m : Int} {s : Tr} (h : RedT n (sc m s)) : n = m * m * (4 * s.a * s.c - s.b * s.b) := by
  have h1 := h.ds
  simp only [sc] at h1
  have d : 4 * (m * s.a) * (m * s.c) = m * m * (4 * s.a * s.c) := by simp only [Int.mul_assoc, Int.mul_left_comm, Int.mul_comm]
  have d2 : m * s.b * (m * s.b) = m * m * (s.b * s.b) := by simp only [Int.mul_assoc, Int.mul_left_comm]
  rw [d, d2] at h1
  rw [Int.mul_sub]
  omega
/-- whether m is asked -/
def asks (n m : Int) : Bool := decide (n % (m * m) = 0) && isD (n / (m * m))
theorem mm_pos {m : Int} (h : 1 ≤ m) : 1 ≤ m * m := by
  have : 1 * 1 ≤ m * m := Int.mul_le_mul h h (by omega) (by omega)
  omega
theorem part_iff {n : Int} {m : Nat} (hm : 1 ≤ m) (hn : n ≤ 4194304) (hn0 : 0 ≤ n) (t : Tr) :
    (t ∈ trs n ∧ gT t = m) ↔ asks n m = true ∧ ∃ s, s ∈ (trs (n / (m * m))).filter prT ∧ sc m s = t := by
  have hmm := mm_pos (m := (m : Int)) (by omega)
  have hq : n / ((m : Int) * m) ≤ 4194304 := Int.le_trans (Int.ediv_le_self _ hn0) hn
  rw [trs_iff hn]
  constructor
  · rintro ⟨h, hg⟩
    obtain ⟨d1, d2, d3⟩ := gT_dvd t
    rw [hg] at d1 d2 d3
    obtain ⟨s, rfl⟩ := sc_div d1 d2 d3
    have e := sc_n h
    generalize 4 * s.a * s.c - s.b * s.b = N at e
    subst e
    have hd : (m : Int) * m * N / ((m : Int) * m) = N := Int.mul_ediv_cancel_left _ (by omega)
    have hr := (sc_red (m := (m : Int)) (by omega)).1 h
    rw [gT_sc] at hg
    have hg1 : gT s = 1 := Nat.eq_of_mul_eq_mul_left (show 0 < m by omega) (by omega)
    refine ⟨?_, s, ?_, rfl⟩
    · unfold asks; rw [hd, red_isD hr, decide_eq_true (Int.mul_emod_right _ _)]; rfl
    · rw [hd, List.mem_filter, trs_iff (by rw [← hd]; exact hq), prT_g]
      exact ⟨hr, decide_eq_true hg1⟩
  · rintro ⟨ha, s, hs, rfl⟩
    unfold asks at ha
    rw [Bool.and_eq_true, decide_eq_true_iff] at ha
    have e := Int.mul_ediv_add_emod n ((m : Int) * m)
    rw [ha.1, Int.add_zero] at e
    rw [List.mem_filter, trs_iff hq, prT_g, decide_eq_true_iff] at hs
    refine ⟨?_, by rw [gT_sc, hs.2, Nat.mul_one]⟩
    rw [← e]
    exact (sc_red (by omega)).2 hs.1
theorem sc_inj {m : Int} (hm : 1 ≤ m) {s t : Tr} (h : sc m s = sc m t) : s = t := by
  have e3 : ∀ x y : Int, m * x = m * y → x = y := fun x y => (Int.mul_eq_mul_left_iff (by omega)).1
  unfold sc at h
  cases s; cases t
  simp only [Tr.mk.injEq] at h ⊢
  exact ⟨e3 _ _ h.1, e3 _ _ h.2.1, e3 _ _ h.2.2⟩
/-- the primitive ones of the quotient -/
def prs (n : Int) (m : Nat) : List Tr := if asks n m = true then (trs (n / ((m : Int) * m))).filter prT else []
theorem part_perm {n : Int} {m : Nat} (hm : 1 ≤ m) (hn : n ≤ 4194304) (hn0 : 0 ≤ n) :
    ((trs n).filter fun t => decide (gT t = m)).Perm ((prs n m).map (sc m)) := by
  refine (List.perm_ext_iff_of_nodup ?_ ?_).2 (fun t => ?_)
  · exact (trs_nodup n).filter _
  · refine List.Pairwise.map (R := (· ≠ ·)) _ (fun a b h e => h (sc_inj (by omega) e)) ?_
    unfold prs
    split
    · exact (trs_nodup _).filter _
    · exact List.Pairwise.nil
  · rw [List.mem_filter, decide_eq_true_iff, part_iff hm hn hn0, List.mem_map]
    unfold prs
    by_cases h : asks n m = true
    · rw [if_pos h]; exact ⟨fun x => x.2, fun x => ⟨h, x⟩⟩
    · rw [if_neg h]; constructor
      · intro x; exact absurd x.1 h
      · rintro ⟨s, hs, _⟩; cases hs
theorem sumI_perm {l m : List Int} (h : l.Perm m) : sumI l = sumI m := by
  induction h with
  | nil => rfl
  | cons x _ ih => simp only [sumI, ih]
  | swap x y l => simp only [sumI]; omega
  | trans _ _ h1 h2 => exact h1.trans h2
/-- sums over 1 .. k -/
def bigS (f : Nat → Int) : Nat → Int
  | 0 => 0
  | k + 1 => bigS f k + f (k + 1)
theorem bigS_add (f g : Nat → Int) : ∀ k, bigS (fun i => f i + g i) k = bigS f k + bigS g k
  | 0 => rfl
  | k + 1 => by simp only [bigS, bigS_add f g k]; omega
theorem bigS_zero : ∀ k, bigS (fun _ => 0) k = 0
  | 0 => rfl
  | k + 1 => by simp only [bigS, bigS_zero k]; rfl
theorem bigS_congr {f g : Nat → Int} : ∀ {k : Nat}, (∀ i, 1 ≤ i → i ≤ k → f i = g i) → bigS f k = bigS g k
  | 0, _ => rfl
  | k + 1, h => by
    simp only [bigS]
    rw [bigS_congr (k := k) (fun i a b => h i a (by omega)), h (k + 1) (by omega) (by omega)]
theorem bigS_one (g : Nat) (x : Int) : ∀ k, bigS (fun i => if g = i then x else 0) k = if 1 ≤ g ∧ g ≤ k then x else 0
  | 0 => by rw [if_neg (by omega)]; rfl
  | k + 1 => by
    simp only [bigS]
    rw [bigS_one g x k]
    by_cases h : g = k + 1
    · subst h; rw [if_neg (by omega), if_pos rfl, if_pos (by omega)]; omega
    · rw [if_neg h]
      by_cases h1 : 1 ≤ g ∧ g ≤ k
      · rw [if_pos h1, if_pos (by omega)]; omega
      · rw [if_neg h1, if_neg (by omega)]; rfl
theorem sum_split (T : Tr → Int) (k : Nat) : ∀ (l : List Tr), (∀ t ∈ l, 1 ≤ gT t ∧ gT t ≤ k) → sumI (l.map T) = bigS (fun i => sumI ((l.filter fun t => decide (gT t = i)).map T)) k
  | [], _ => by
    simp only [List.filter_nil, List.map_nil, sumI]
    exact (bigS_zero k).symm
  | t :: l, h => by
    have h1 := sum_split T k l (fun x hx => h x (List.mem_cons_of_mem _ hx))
    have h2 := h t (List.mem_cons_self)
    have e : ∀ i, sumI (((t :: l).filter fun t => decide (gT t = i)).map T) = (if gT t = i then T t else 0) + sumI ((l.filter fun t => decide (gT t = i)).map T) := fun i => by
      rw [List.filter_cons]
      by_cases g : gT t = i
      · rw [if_pos (decide_eq_true g), if_pos g]; rfl
      · rw [if_neg (by simpa using g), if_neg g]; omega
    rw [bigS_congr (fun i _ _ => e i), bigS_add, bigS_one, if_pos h2, ← h1]
    rfl
theorem gT_le {n : Int} {t : Tr} {k : Nat} (h : RedT n t) (hk : n < ((k : Int) + 1) * (k + 1)) : 1 ≤ gT t ∧ gT t ≤ k := by
  obtain ⟨d1, d2, d3⟩ := gT_dvd t
  have h0 : 1 ≤ gT t := by
    rcases Nat.eq_zero_or_pos (gT t) with g | g
    · rw [g] at d1
      have := h.a1
      have := Int.zero_dvd.1 d1
      omega
    · exact g
  refine ⟨h0, ?_⟩
  obtain ⟨s, hs⟩ := sc_div d1 d2 d3
  rw [hs] at h
  have e := sc_n h
  have hp := red_pos h
  generalize 4 * s.a * s.c - s.b * s.b = N at e
  generalize gT t = g at *
  rcases Nat.lt_or_ge k g with hlt | hge
  · have h3 : ((k : Int) + 1) * (k + 1) ≤ (g : Int) * g := Int.mul_le_mul (by omega) (by omega) (by omega) (by omega)
    have h4 : 1 ≤ N := by
      rcases Int.lt_or_le N 1 with q | q
      · have := Int.mul_nonpos_of_nonneg_of_nonpos (show 0 ≤ (g : Int) * g from Int.mul_nonneg (by omega) (by omega)) (show N ≤ 0 by omega)
        omega
      · exact q
    have h5 : (g : Int) * g * 1 ≤ (g : Int) * g * N := Int.mul_le_mul_of_nonneg_left h4 (Int.mul_nonneg (by omega) (by omega))
    omega
  · exact hge
theorem part_sum {n : Int} {k : Nat} (T : Tr → Int) (hn : n ≤ 4194304) (hn0 : 0 ≤ n) (hk : n < ((k : Int) + 1) * (k + 1)) :
    sumI ((trs n).map T) = bigS (fun i => sumI ((prs n i).map fun s => T (sc i s))) k := by
  rw [sum_split T k (trs n) (fun t ht => gT_le ((trs_iff hn t).1 ht) hk)]
  refine bigS_congr (fun i h1 h2 => ?_)
  rw [sumI_perm ((part_perm h1 hn hn0).map T), List.map_map]
  rfl
end Go.AM
end

section
/- The sums over the quotients by squares. -/
namespace Go.AM
open Go Go.RowKit
def wN (n : Int) : Int := if n = 3 then 4 else if n = 4 then 6 else 12
theorem wT_sc {m : Int} (hm : 1 ≤ m) (t : Tr) : wT (sc m t) = wT t := by
  have e3 : ∀ x y : Int, m * x = m * y ↔ x = y := fun x y => Int.mul_eq_mul_left_iff (by omega)
  have e0 : ∀ x : Int, m * x = 0 ↔ x = 0 := fun x => by have := e3 x 0; rwa [Int.mul_zero] at this
  unfold wT sc
  simp only [e3, e0]
theorem wT_prim {n : Int} {t : Tr} (h : RedT n t) (hg : gT t = 1) : wT t = wN n := by
  have ha := h.a1; have hb := h.b1; have hb2 := h.b2; have hc := h.ac; have hd := h.ds; have hs := h.sq
  have key : n = 3 ∨ n = 4 → t.a = 1 := fun hn => by
    rcases Int.lt_or_le 1 t.a with g | g
    · have := sq3_le (show (1 : Int) ≤ 2 by omega) (show 2 ≤ t.a by omega)
      omega
    · omega
  have k3 : n = 3 → t.a = t.b ∧ t.b = t.c := fun hn => by
    have a1 := key (.inl hn)
    rw [a1] at hd hb hb2 ⊢
    rcases (show t.b = 0 ∨ t.b = 1 by omega) with g | g <;> rw [g] at hd ⊢ <;> omega
  have k4 : n = 4 → t.b = 0 ∧ t.a = t.c := fun hn => by
    have a1 := key (.inr hn)
    rw [a1] at hd hb hb2 ⊢
    rcases (show t.b = 0 ∨ t.b = 1 by omega) with g | g <;> rw [g] at hd ⊢ <;> omega
  unfold wT
  by_cases c1 : t.a = t.b ∧ t.b = t.c
  · rw [if_pos c1]
    have e : gT t = t.a.natAbs := by
      unfold gT; rw [← c1.1, Int.gcd_self, ← c1.2, ← c1.1]
      show Nat.gcd _ _ = _
      rw [Int.natAbs_natCast, Nat.gcd_self]
    have a1 : t.a = 1 := by omega
    rw [← c1.2, ← c1.1, a1] at hd
    have : n = 3 := by omega
    unfold wN; rw [if_pos this]
  · rw [if_neg c1]
    have n3 : n ≠ 3 := fun e => c1 (k3 e)
    by_cases c2 : t.b = 0 ∧ t.a = t.c
    · rw [if_pos c2]
      have e : gT t = t.a.natAbs := by
        unfold gT; rw [c2.1, Int.gcd_zero_right, ← c2.2]
        show Nat.gcd _ _ = _
        rw [Int.natAbs_natCast, Nat.gcd_self]
      have a1 : t.a = 1 := by omega
      rw [c2.1, ← c2.2, a1] at hd
      have : n = 4 := by omega
      unfold wN; rw [if_neg n3, if_pos this]
    · rw [if_neg c2]
      have n4 : n ≠ 4 := fun e => c2 (k4 e)
      unfold wN; rw [if_neg n3, if_neg n4]
theorem sumI_const {l : List Tr} {T : Tr → Int} {w : Int} (h : ∀ t ∈ l, T t = w) : sumI (l.map T) = w * (l.length : Nat) := by
  induction l with
  | nil => simp [sumI]
  | cons x l ih =>
    simp only [List.map_cons, sumI]
    rw [ih (fun t ht => h t (List.mem_cons_of_mem _ ht)), h x List.mem_cons_self, List.length_cons, Int.natCast_add, Int.mul_add]
    simp; omega
/-- a term of the law -/
def hTm (n m : Int) : Int := if asks n m = true then wN (n / (m * m)) * cls (n / (m * m)) else 0
def hS (n m : Int) : Int := bigS (fun i => hTm n (i : Int)) (m - 1).toNat
theorem bigS_next {f : Nat → Int} {m : Int} (h : 1 ≤ m) : bigS f (m + 1 - 1).toNat = bigS f (m - 1).toNat + f m.toNat := by
  rw [show (m + 1 - 1).toNat = (m - 1).toNat + 1 by omega, bigS, show (m - 1).toNat + 1 = m.toNat by omega]
theorem hS_next {n m : Int} (h : 1 ≤ m) : hS n (m + 1) = hS n m + hTm n m := by
  unfold hS; rw [bigS_next h, Int.toNat_of_nonneg (by omega)]
theorem hS_1 (n : Int) : hS n 1 = 0 := rfl
theorem m_le44 {n m : Int} (_h1 : 1 ≤ m) (h : m * m ≤ n) (hn : n ≤ 2003) : m ≤ 44 := by
  rcases Int.lt_or_le 44 m with g | g
  · have : (45 : Int) * 45 ≤ m * m := Int.mul_le_mul (by omega) (by omega) (by omega) (by omega)
    omega
  · exact g
theorem hTm_b (n m : Int) : 0 ≤ hTm n m ∧ hTm n m ≤ 96048000 := by
  unfold hTm
  have h := cls_b (n / (m * m))
  have hw : wN (n / (m * m)) = 4 ∨ wN (n / (m * m)) = 6 ∨ wN (n / (m * m)) = 12 := by
    unfold wN; split
    · exact .inl rfl
    · split
      · exact .inr (.inl rfl)
      · exact .inr (.inr rfl)
  split
  · rcases hw with e | e | e <;> rw [e] <;> omega
  · omega
theorem bigS_b {f : Nat → Int} {B : Int} (h : ∀ i, 0 ≤ f i ∧ f i ≤ B) : ∀ k : Nat, 0 ≤ bigS f k ∧ bigS f k ≤ B * k
  | 0 => by simp [bigS]
  | k + 1 => by
    have h1 := bigS_b h k
    have h2 := h (k + 1)
    simp only [bigS]
    rw [Int.natCast_add, Int.mul_add]
    simp only [Int.natCast_one, Int.mul_one]
    omega
theorem hS_b {n m : Int} (h : 1 ≤ m) : 0 ≤ hS n m ∧ hS n m ≤ 96048000 * (m - 1) := by
  have := bigS_b (fun i => hTm_b n (i : Int)) (m - 1).toNat
  rw [Int.toNat_of_nonneg (by omega)] at this
  exact this
theorem hz_hws {n : Int} (h1 : 1 ≤ n) (h2 : n ≤ 4194304) : hzV n = hws n := by
  unfold hzV
  rw [hz_small (by omega) h2, if_neg (by simp), if_neg (by omega)]
  split
  · rename_i g
    have : trs n = [] := by
      rw [List.eq_nil_iff_forall_not_mem]
      intro t ht
      have := red_mod ((trs_iff h2 t).1 ht)
      omega
    unfold hws; rw [this]; rfl
  · rfl
theorem hurw {n m : Int} (h1 : 1 ≤ n) (h2 : n ≤ 4194304) (hm : 1 ≤ m) (h : n < m * m) : hS n m = hzV n := by
  rw [hz_hws h1 h2]
  unfold hws hS
  have e : (((m - 1).toNat : Nat) : Int) + 1 = m := by omega
  rw [part_sum (k := (m - 1).toNat) wT h2 (by omega) (by rw [e]; exact h)]
  symm
  refine bigS_congr (fun i h3 h4 => ?_)
  have hq : n / ((i : Int) * i) ≤ 4194304 := Int.le_trans (Int.ediv_le_self _ (by omega)) h2
  rw [sumI_const (w := wN (n / ((i : Int) * i))) ?_]
  · unfold prs hTm cls
    split <;> simp
  · intro t ht
    unfold prs at ht
    split at ht
    · rw [List.mem_filter, trs_iff hq, prT_g, decide_eq_true_iff] at ht
      rw [wT_sc (by omega), wT_prim ht.1 ht.2]
    · cases ht
theorem asks_mk {n m : Int} (h : n % (m * m) = 0) (h1 : isD (n / (m * m)) = true) : asks n m = true := by unfold asks; rw [h1, decide_eq_true h]; rfl
theorem hS_no1 {n m : Int} (hm : 1 ≤ m) (h : n % (m * m) ≠ 0) : hS n m = hS n (m + 1) := by
  rw [hS_next hm]; unfold hTm asks; rw [decide_eq_false h]; simp
theorem hS_no2 {n m : Int} (hm : 1 ≤ m) (h : isD (n / (m * m)) = false) : hS n m = hS n (m + 1) := by
  rw [hS_next hm]; unfold hTm asks; rw [h]; simp
theorem hS_w {n m w : Int} (hm : 1 ≤ m) (h : n % (m * m) = 0) (h1 : isD (n / (m * m)) = true) (hw : wN (n / (m * m)) = w) : hS n m + w * cls (n / (m * m)) = hS n (m + 1) := by
  rw [hS_next hm]; unfold hTm; rw [asks_mk h h1, if_pos rfl, hw]
theorem wN_3 {n : Int} (h : n = 3) : wN n = 4 := by unfold wN; rw [if_pos h]
theorem wN_4 {n : Int} (h : n ≠ 3) (h1 : n = 4) : wN n = 6 := by unfold wN; rw [if_neg h, if_pos h1]
theorem wN_e {n : Int} (h : n ≠ 3) (h1 : n ≠ 4) : wN n = 12 := by unfold wN; rw [if_neg h, if_neg h1]
theorem szE_isD {n : Int} (h : isD n = true) (hn : n ≤ 4194304) : szE (-n) = 0 := by
  unfold isD at h
  rw [Bool.and_eq_true, Bool.or_eq_true, decide_eq_true_iff, decide_eq_true_iff, decide_eq_true_iff] at h
  unfold szE
  rw [if_neg (by omega), if_neg (by omega)]
theorem clE_isD {n : Int} (h : isD n = true) (hn : n ≤ 4194304) : clE (-n) = cls n := by
  unfold clE; rw [if_pos (szE_isD h hn), Int.neg_neg]
end Go.AM
end

section
/- Contents, plainly. -/
namespace Go.AM
open Go Go.RowKit
def prG (f : Fm) : Bool := prim f.a f.b f.c
theorem prG_fm (t : Tr) : prG t.fm = prT t := by
  unfold prG prim prT Tr.fm
  rw [Bool.eq_iff_iff, decide_eq_true_iff, decide_eq_true_iff]
  have e : Int.gcd t.a (Int.gcd t.b t.c : Int) = Int.gcd (Int.gcd t.a t.b : Nat) t.c := by
    unfold Int.gcd
    simp only [Int.natAbs_natCast, Nat.gcd_assoc]
  simp only
  rw [e]
theorem LW_pr (n : Int) : LW n prG = ((trs n).filter prT).map Tr.fm := by
  unfold LW
  rw [List.filter_map]
  congr 1
  refine List.filter_congr (fun t _ => prG_fm t)
theorem LW_all (n : Int) : LW n (fun _ => true) = (trs n).map Tr.fm := by
  unfold LW
  exact List.filter_eq_self.2 (fun _ _ => rfl)
theorem LW_len (n : Int) (p : Fm → Bool) : (LW n p).length ≤ 8004000 := by
  unfold LW
  have h1 := List.length_filter_le p ((trs n).map Tr.fm)
  rw [List.length_map] at h1
  have := trs_len n
  omega
theorem fm_inj {s t : Tr} (h : s.fm = t.fm) : s = t := by
  cases s; cases t
  simp only [Tr.fm, Fm.mk.injEq] at h ⊢
  exact Tr.mk.injEq .. ▸ h
theorem filter_one {f : Fm} : ∀ {l : List Fm}, l.Nodup → f ∈ l → (l.filter (eqG f)).length = 1
  | [], _, h => by cases h
  | x :: l, hd, h => by
    rw [List.nodup_cons] at hd
    rw [List.filter_cons]
    by_cases e : x = f
    · subst e
      rw [if_pos (eqG_iff.2 rfl), List.length_cons]
      have : l.filter (eqG x) = [] := by
        rw [List.filter_eq_nil_iff]
        intro y hy hq
        rw [eqG_iff] at hq
        subst hq
        exact hd.1 hy
      rw [this]; rfl
    · rw [if_neg (fun g => e (eqG_iff.1 g))]
      rcases List.mem_cons.1 h with g | g
      · exact absurd g.symm e
      · exact filter_one hd.2 g
/-- a form of the quotient, m times, is one of all -/
theorem tms_one {n m : Int} (hm : 1 ≤ m) (hn : n ≤ 4194304) (hn0 : 0 ≤ n) (ha : asks n m = true) {p : Fm} (hp : p ∈ LW (n / (m * m)) prG) :
    tms (LW n (fun _ => true)) ⟨m * p.a, m * p.b, m * p.c⟩ = 1 := by
  rw [LW_pr, List.mem_map] at hp
  obtain ⟨s, hs, rfl⟩ := hp
  obtain ⟨k, rfl⟩ := Int.eq_ofNat_of_zero_le (show 0 ≤ m by omega)
  have h := (part_iff (m := k) (by omega) hn hn0 (sc k s)).2 ⟨ha, s, hs, rfl⟩
  unfold tms
  rw [LW_all, filter_one]
  · rfl
  · exact List.Pairwise.map (R := (· ≠ ·)) _ (fun a b h e => h (fm_inj e)) (trs_nodup n)
  · exact List.mem_map.2 ⟨_, h.1, rfl⟩
theorem getD_mem {l : List Fm} {k : Nat} (h : (k : Int) < l.length) : l.getD k ⟨0, 0, 0⟩ ∈ l := by
  rw [List.getD_eq_getElem?_getD, List.getElem?_eq_getElem (by omega), Option.getD_some]
  exact List.getElem_mem _
theorem LW_bound {n : Int} {q : Fm → Bool} {p : Fm} (h : p ∈ LW n q) (hn : n ≤ 4194304) : (0 < p.a ∧ p.a ≤ 2000) ∧ (-2000 ≤ p.b ∧ p.b ≤ 2000) ∧ 0 < p.c ∧ p.c ≤ 10000000 := by
  unfold LW at h
  obtain ⟨t, ht, rfl⟩ := List.mem_map.1 (List.mem_filter.1 h).1
  exact trs_bound ht hn
def cTm (n m : Int) : Int := if asks n m = true then ((LW (n / (m * m)) prG).length : Nat) else 0
def cS (n m : Int) : Int := bigS (fun i => cTm n (i : Int)) (m - 1).toNat
theorem cS_next {n m : Int} (h : 1 ≤ m) : cS n (m + 1) = cS n m + cTm n m := by
  unfold cS; rw [bigS_next h, Int.toNat_of_nonneg (by omega)]
theorem cTm_b (n m : Int) : 0 ≤ cTm n m ∧ cTm n m ≤ 8004000 := by
  unfold cTm
  have h := LW_len (n / (m * m)) prG
  split <;> omega
theorem cS_b {n m : Int} (h : 1 ≤ m) : 0 ≤ cS n m ∧ cS n m ≤ 8004000 * (m - 1) := by
  have := bigS_b (fun i => cTm_b n (i : Int)) (m - 1).toNat
  rw [Int.toNat_of_nonneg (by omega)] at this
  exact this
theorem cS_no1 {n m : Int} (hm : 1 ≤ m) (h : n % (m * m) ≠ 0) : cS n m = cS n (m + 1) := by
  rw [cS_next hm]; unfold cTm asks; rw [decide_eq_false h]; simp
theorem cS_no2 {n m : Int} (hm : 1 ≤ m) (h : isD (n / (m * m)) = false) : cS n m = cS n (m + 1) := by
  rw [cS_next hm]; unfold cTm asks; rw [h]; simp
theorem cS_w {n m : Int} (hm : 1 ≤ m) (h : asks n m = true) : cS n m + ((LW (n / (m * m)) prG).length : Nat) = cS n (m + 1) := by
  rw [cS_next hm]; unfold cTm; rw [if_pos h]
theorem contents_all {n m : Int} (h1 : 1 ≤ n) (h2 : n ≤ 4194304) (hm : 1 ≤ m) (h : n < m * m) : cS n m = ((LW n (fun _ => true)).length : Nat) := by
  have e : (((m - 1).toNat : Nat) : Int) + 1 = m := by omega
  have h3 := part_sum (n := n) (k := (m - 1).toNat) (fun _ => 1) h2 (by omega) (by rw [e]; exact h)
  rw [sumI_const (w := 1) (fun _ _ => rfl), Int.one_mul] at h3
  rw [LW_all, List.length_map, h3]
  unfold cS
  refine bigS_congr (fun i h4 h5 => ?_)
  rw [sumI_const (w := 1) (fun _ _ => rfl), Int.one_mul]
  unfold cTm prs
  rw [LW_pr, List.length_map]
  split <;> rfl
end Go.AM
end

section
/- Conductors, plainly. -/
namespace Go.AM
open Go Go.RowKit
theorem nsq4 (v : Nat) (h : v % 2 = 1) : (v * v) % 4 = 1 := by
  rw [Nat.mul_mod]
  rcases (show v % 4 = 1 ∨ v % 4 = 3 by omega) with e | e <;> rw [e]
theorem nmul4 (r s : Nat) (h : s % 4 = 1) : (r * s) % 4 = r % 4 := by rw [Nat.mul_mod, h]; simp
theorem con_nt {M h W q : Nat} (hM0 : 0 < M) (hh : 0 < h) (e : M * (h * h) = W * W * q) (hq : q % 4 = 0 ∨ q % 4 = 3) (hM : M % 4 = 0 ∨ M % 4 = 3)
    (mx : ∀ u r, M = u * u * r → (r % 4 = 0 ∨ r % 4 = 3) → u ≤ 1) : W ≤ h := by
  obtain ⟨u, v, hc, hw, hv⟩ := Nat.exists_coprime W h
  have hg : 0 < Nat.gcd W h := Nat.gcd_pos_of_pos_right _ hh
  generalize Nat.gcd W h = g at hw hv hg
  have hgg : 0 < g * g := Nat.mul_pos hg hg
  have e1 : (M * (v * v)) * (g * g) = (u * u * q) * (g * g) := by
    have a1 : M * (h * h) = (M * (v * v)) * (g * g) := by rw [hv]; simp only [Nat.mul_assoc, Nat.mul_left_comm]
    have a2 : W * W * q = (u * u * q) * (g * g) := by rw [hw]; simp only [Nat.mul_left_comm, Nat.mul_comm]
    rw [← a1, ← a2, e]
  have e2 : M * (v * v) = u * u * q := Nat.eq_of_mul_eq_mul_right hgg e1
  have hcc : Nat.Coprime (u * u) (v * v) := Nat.Coprime.mul_left (Nat.Coprime.mul_right hc hc) (Nat.Coprime.mul_right hc hc)
  have hd : u * u ∣ M := hcc.dvd_of_dvd_mul_right (show u * u ∣ M * (v * v) from ⟨q, e2⟩)
  obtain ⟨r, hr⟩ := hd
  have hv0 : 0 < v := by
    rcases Nat.eq_zero_or_pos v with z | z
    · rw [z, Nat.zero_mul] at hv; omega
    · exact z
  have hu0 : 0 < u * u := by
    rcases Nat.eq_zero_or_pos (u * u) with z | z
    · rw [z, Nat.zero_mul] at hr; omega
    · exact z
  have e3 : r * (v * v) = q := by
    rw [hr, Nat.mul_assoc] at e2
    exact Nat.eq_of_mul_eq_mul_left hu0 e2
  by_cases hr4 : r % 4 = 0 ∨ r % 4 = 3
  · have h1 := mx u r hr hr4
    rw [hw, hv]
    have : u * g ≤ 1 * g := Nat.mul_le_mul_right g h1
    have : 1 * g ≤ v * g := Nat.mul_le_mul_right g hv0
    omega
  · exfalso
    rcases Nat.mod_two_eq_zero_or_one v with v2 | v2
    · rcases Nat.mod_two_eq_zero_or_one u with u2 | u2
      · have d1 : 2 ∣ Nat.gcd u v := Nat.dvd_gcd (Nat.dvd_of_mod_eq_zero u2) (Nat.dvd_of_mod_eq_zero v2)
        rw [hc] at d1
        exact absurd (Nat.le_of_dvd (by omega) d1) (by omega)
      · rw [hr, Nat.mul_comm, nmul4 _ _ (nsq4 u u2)] at hM
        exact hr4 hM
    · rw [← e3, nmul4 _ _ (nsq4 v v2)] at hq
      exact hr4 hq
section
variable {n : Int}
theorem cdGo_mem : ∀ (u : Nat) (k f : Int), cdGo n u k f = f ∨ (k ≤ cdGo n u k f ∧ cdB n (cdGo n u k f) = true)
  | 0, k, f => .inl rfl
  | u + 1, k, f => by
    unfold cdGo
    split
    · rcases cdGo_mem u (k + 1) (if cdB n k then k else f) with h | h
      · by_cases g : cdB n k = true
        · rw [if_pos g] at h ⊢; rw [h]; exact .inr ⟨Int.le_refl _, g⟩
        · rw [if_neg g] at h ⊢; exact .inl h
      · exact .inr ⟨by omega, h.2⟩
    · exact .inl rfl
theorem cdGo_ge {u : Nat} {k f : Int} (h : f < k) : f ≤ cdGo n u k f := by
  rcases cdGo_mem (n := n) u k f with e | e <;> omega
theorem cdGo_max : ∀ (u : Nat) (k f j : Int), 1 ≤ k → f < k → k ≤ j → j < k + u → j * j ≤ n → cdB n j = true → j ≤ cdGo n u k f
  | 0, k, f, j, _, _, h, h1, _, _ => by omega
  | u + 1, k, f, j, hk, hf, h, h1, h2, h3 => by
    unfold cdGo
    have h4 : k * k ≤ j * j := Int.mul_le_mul h h (by omega) (by omega)
    rw [if_pos (by omega)]
    by_cases e : k = j
    · subst e
      rw [if_pos h3]
      exact cdGo_ge (by omega)
    · refine cdGo_max u (k + 1) _ j (by omega) ?_ (by omega) (by omega) h2 h3
      split <;> omega
end
theorem cdB_iff {n k : Int} (hk : 1 ≤ k) : cdB n k = true ↔ ∃ q, n = k * k * q ∧ (q % 4 = 0 ∨ q % 4 = 3) := by
  have hkk := mm_pos hk
  unfold cdB
  rw [Bool.and_eq_true, Bool.or_eq_true, decide_eq_true_iff, decide_eq_true_iff, decide_eq_true_iff]
  constructor
  · rintro ⟨h1, h2⟩
    have e := Int.mul_ediv_add_emod n (k * k)
    rw [h1, Int.add_zero] at e
    exact ⟨_, e.symm, h2⟩
  · rintro ⟨q, rfl, h⟩
    rw [Int.mul_emod_right, Int.mul_ediv_cancel_left _ (by omega)]
    exact ⟨rfl, h⟩
theorem sq_le_n {k q n : Int} (hk : 1 ≤ k) (e : n = k * k * q) (hn : 0 < n) : k * k ≤ n ∧ 1 ≤ q := by
  have hkk := mm_pos hk
  have hq : 1 ≤ q := by
    rcases Int.lt_or_le q 1 with g | g
    · have := Int.mul_nonpos_of_nonneg_of_nonpos (show 0 ≤ k * k by omega) (show q ≤ 0 by omega)
      omega
    · exact g
  have : k * k * 1 ≤ k * k * q := Int.mul_le_mul_of_nonneg_left hq (by omega)
  exact ⟨by omega, hq⟩
theorem cdF_max {n j q : Int} (hn : 0 < n) (hn2 : n ≤ 4194304) (hj : 1 ≤ j) (e : n = j * j * q) (hq : q % 4 = 0 ∨ q % 4 = 3) : j ≤ cdF n := by
  have h1 := (sq_le_n hj e hn).1
  have hb := (cdB_iff hj).2 ⟨q, e, hq⟩
  unfold cdF
  by_cases g : j = 1
  · subst g; exact cdGo_ge (by omega)
  · have := cd_le (show 2 ≤ j by omega) h1 hn2
    exact cdGo_max 2100 2 1 j (by omega) (by omega) (by omega) (by omega) h1 hb
theorem isD_iff {n : Int} : isD n = true ↔ 0 < n ∧ (n % 4 = 0 ∨ n % 4 = 3) := by
  unfold isD; rw [Bool.and_eq_true, Bool.or_eq_true, decide_eq_true_iff, decide_eq_true_iff, decide_eq_true_iff]
theorem cdF_good {n : Int} (h : isD n = true) : 1 ≤ cdF n ∧ ∃ q, n = cdF n * cdF n * q ∧ isD q = true := by
  rw [isD_iff] at h
  have h1 : 1 ≤ cdF n := cdGo_ge (by omega)
  refine ⟨h1, ?_⟩
  have h2 : cdB n (cdF n) = true := by
    rcases cdGo_mem (n := n) 2100 2 1 with e | e
    · have e' : cdF n = 1 := e
      rw [e', cdB_iff (by omega)]
      exact ⟨n, by omega, h.2⟩
    · exact e.2
  obtain ⟨q, e, hq⟩ := (cdB_iff h1).1 h2
  exact ⟨q, e, isD_iff.2 ⟨(sq_le_n h1 e h.1).2, hq⟩⟩
/-- the conductor of a quotient by the square of the conductor -/
theorem cdF_fund {n q : Int} (h : isD n = true) (hn : n ≤ 4194304) (e : n = cdF n * cdF n * q) (hq : isD q = true) : cdF q = 1 := by
  have h1 := (cdF_good h).1
  obtain ⟨g1, r, er, hr⟩ := cdF_good hq
  rw [isD_iff] at h hr
  have e2 : n = (cdF n * cdF q) * (cdF n * cdF q) * r := by
    have : (cdF n * cdF q) * (cdF n * cdF q) * r = cdF n * cdF n * (cdF q * cdF q * r) := by simp only [Int.mul_assoc, Int.mul_left_comm]
    rw [this, ← er]; exact e
  have h2 : 1 * 1 ≤ cdF n * cdF q := Int.mul_le_mul h1 g1 (by omega) (by omega)
  have h3 := cdF_max h.1 hn (by omega) e2 hr.2
  have h4 : cdF n * 1 ≤ cdF n * cdF q := Int.mul_le_mul_of_nonneg_left g1 (by omega)
  rcases Int.lt_or_le 1 (cdF q) with g | g
  · have h5 : cdF n * 2 ≤ cdF n * cdF q := Int.mul_le_mul_of_nonneg_left (by omega) (by omega)
    omega
  · omega
theorem cdF_mul {M h : Int} (hM : isD M = true) (h1 : cdF M = 1) (hh : 1 ≤ h) (hb : M * (h * h) ≤ 4194304) (hM2 : M ≤ 4194304) : isD (M * (h * h)) = true ∧ cdF (M * (h * h)) = h := by
  have hMi := isD_iff.1 hM
  have hhh := mm_pos hh
  have hpos : 0 < M * (h * h) := Int.mul_pos hMi.1 (by omega)
  have hD : isD (M * (h * h)) = true := by
    rw [isD_iff]
    refine ⟨hpos, ?_⟩
    rw [Int.mul_emod]
    have : (h * h) % 4 = 0 ∨ (h * h) % 4 = 1 := by
      rw [Int.mul_emod]
      have := Int.emod_nonneg h (show (4 : Int) ≠ 0 by omega)
      have := Int.emod_lt_of_pos h (show (0 : Int) < 4 by omega)
      rcases (show h % 4 = 0 ∨ h % 4 = 1 ∨ h % 4 = 2 ∨ h % 4 = 3 by omega) with e | e | e | e <;> rw [e] <;> decide
    rcases this with e | e <;> rw [e] <;> omega
  refine ⟨hD, ?_⟩
  have low : h ≤ cdF (M * (h * h)) := cdF_max hpos hb hh (by rw [Int.mul_comm]) hMi.2
  obtain ⟨w1, q, eq, hq⟩ := cdF_good hD
  have hqi := isD_iff.1 hq
  generalize cdF (M * (h * h)) = W at low w1 eq
  obtain ⟨m, rfl⟩ := Int.eq_ofNat_of_zero_le (show 0 ≤ M by omega)
  obtain ⟨a, rfl⟩ := Int.eq_ofNat_of_zero_le (show 0 ≤ h by omega)
  obtain ⟨w, rfl⟩ := Int.eq_ofNat_of_zero_le (show 0 ≤ W by omega)
  obtain ⟨r, rfl⟩ := Int.eq_ofNat_of_zero_le (show 0 ≤ q by omega)
  have en : m * (a * a) = w * w * r := by exact_mod_cast eq
  have := con_nt (M := m) (h := a) (W := w) (q := r) (by omega) (by omega) en (by omega) (by omega) (fun u s es hs => by
    rcases Nat.eq_zero_or_pos u with z | z
    · omega
    · have := cdF_max (n := (m : Int)) (j := (u : Int)) (q := (s : Int)) (by omega) hM2 (by omega) (by exact_mod_cast es) (by omega)
      rw [h1] at this
      omega)
  omega
theorem szE_of_isD {d n : Int} (e : d = -n) (h : isD n = true) (hn : n ≤ 4194304) : szE d = 0 := by rw [e]; exact szE_isD h hn
theorem cd_of {d n q f : Int} (e : d = -n) (h : isD n = true) (hn : n ≤ 4194304) (hf : cdF n = f) (hf1 : 1 ≤ f) (hq : n = f * f * q) : szE d = 0 ∧ cdD d = -q ∧ cdV d = f := by
  have hs := szE_of_isD e h hn
  have hff := mm_pos hf1
  refine ⟨hs, ?_, ?_⟩
  · unfold cdD; rw [if_pos hs, e, Int.neg_neg, hf]
    rw [hq, Int.mul_ediv_cancel_left _ (by omega)]
  · unfold cdV; rw [if_pos hs, e, Int.neg_neg, hf]
theorem cd_all {N g : Int} (hN : isD N = true) (hb : N ≤ 2003) (hg : 1 ≤ g ∧ g ≤ 30) :
    ∃ M F : Int, (1 ≤ M ∧ M ≤ 2003) ∧ (1 ≤ F ∧ F ≤ 2003) ∧ -M * (F * F) = -N ∧ (szE (-N) = 0 ∧ cdD (-N) = -M ∧ cdV (-N) = F) ∧ (szE (-M) = 0 ∧ cdD (-M) = -M ∧ cdV (-M) = 1) ∧
      (szE (-N * (g * g)) = 0 ∧ cdD (-N * (g * g)) = -M ∧ cdV (-N * (g * g)) = F * g) := by
  obtain ⟨h1, M, e, hM⟩ := cdF_good hN
  have hf := cdF_fund hN (by omega) e hM
  generalize hF : cdF N = F at h1 e hf
  have hNi := isD_iff.1 hN
  have hMi := isD_iff.1 hM
  have hFF := mm_pos h1
  have b1 := sq_le_n h1 e hNi.1
  have b2 : M ≤ N := by
    have : 1 * M ≤ F * F * M := Int.mul_le_mul_of_nonneg_right hFF (by omega)
    omega
  have b3 : F * 1 ≤ F * F := Int.mul_le_mul_of_nonneg_left h1 (by omega)
  have hgs := sq_b (x := g) (m := 30) (by omega)
  have hFg : 1 * 1 ≤ F * g := Int.mul_le_mul h1 hg.1 (by omega) (by omega)
  have eg : M * (F * g * (F * g)) = N * (g * g) := by rw [e]; simp only [Int.mul_assoc, Int.mul_left_comm]
  have hng : N * (g * g) ≤ 2003 * (30 * 30) := Int.mul_le_mul hb hgs.2 hgs.1 (by omega)
  have hm := cdF_mul hM hf (show 1 ≤ F * g by omega) (by rw [eg]; omega) (by omega)
  rw [eg] at hm
  refine ⟨M, F, by omega, by omega, ?_, cd_of rfl hN (by omega) hF h1 e, cd_of rfl hM (by omega) hf (by omega) (by omega), cd_of (by rw [Int.neg_mul]) hm.1 (by omega) hm.2 (by omega) ?_⟩
  · rw [Int.neg_mul, e, Int.mul_comm]
  · rw [← eg, Int.mul_comm]
end Go.AM
end

section
/- Numbers of any size: read low, refused. -/
namespace Go.AM
open Go Go.RowKit
theorem lwO_yes {a : Int} (h : -9223372036854775808 ≤ a ∧ a < 9223372036854775808) : lwO a = true ∧ lwV a = a := by
  have e : lwO a = true := by unfold lwO; rw [decide_eq_true_iff]; exact h
  exact ⟨e, by unfold lwV; rw [if_pos e]⟩
theorem lwO_iff {a : Int} : lwO a = true ↔ -9223372036854775808 ≤ a ∧ a < 9223372036854775808 := by unfold lwO; rw [decide_eq_true_iff]
theorem lwO_f {a : Int} (h : lwO a = false) : ¬ (-9223372036854775808 ≤ a ∧ a < 9223372036854775808) := by unfold lwO at h; rwa [decide_eq_false_iff_not] at h
/-- what a law wants of a number that is refused -/
theorem szE_cases (d : Int) : szE d = 5 ∧ (0 ≤ d ∨ d % 4 > 1) ∨ szE d = 2 ∧ d < 0 ∧ d % 4 ≤ 1 ∧ -d > 4194304 ∨ szE d = 0 ∧ d < 0 ∧ d % 4 ≤ 1 ∧ -d ≤ 4194304 := by
  unfold szE
  by_cases h : 0 ≤ d ∨ d % 4 > 1
  · rw [if_pos h]; exact .inl ⟨rfl, h⟩
  · rw [if_neg h]
    by_cases h1 : -d > 4194304
    · rw [if_pos h1]; exact .inr (.inl ⟨rfl, by omega, by omega, h1⟩)
    · rw [if_neg h1]; exact .inr (.inr ⟨rfl, by omega, by omega, by omega⟩)
theorem rtE_0 {d : Int} (h : szE d = 0) (f : Int) (hf : f < 1) : rtE d f = 1 := by
  unfold rtE; rw [if_neg (by omega), if_pos hf]
theorem rtE_big {d : Int} (h : szE d = 0) (h3 : d < 0) : rtE d 4096 = 2 := by
  have e : szE (d * (4096 * 4096)) = 2 := by
    unfold szE
    rw [if_neg (by omega), if_pos (by omega)]
  unfold rtE; rw [if_neg (by omega), if_neg (by omega), e]
end Go.AM
end

section
/- The lists of reduced forms: sorted, reduced, complete. -/
namespace Go.AM
open Go Go.RowKit
theorem RedT.dsc {n : Int} {t : Tr} (h : RedT n t) : dsc t.a t.b t.c = -n := by
  have := h.ds
  unfold AM.dsc; omega
theorem RedT.pos {n : Int} {t : Tr} (h : RedT n t) : t.fm.pos := by
  refine ⟨by have := h.a1; show 0 < t.a; omega, ?_⟩
  show AM.dsc t.a t.b t.c < 0
  rw [h.dsc]
  have := red_pos h
  omega
theorem RedT.rd {n : Int} {t : Tr} (h : RedT n t) : Rd t.fm := by
  obtain ⟨h1, h2, h3, h4, h5, h6⟩ := h
  refine ⟨by show 0 < t.a; omega, by show (t.b.natAbs : Int) ≤ t.a; omega, h4, ?_⟩
  show ((t.b.natAbs : Int) < t.a ∧ t.a < t.c) ∨ 0 ≤ t.b
  by_cases g : t.b < 0
  · exact .inl ⟨by omega, by
      rcases Int.lt_or_le t.a t.c with q | q
      · exact q
      · exact absurd ⟨g, by omega⟩ h5⟩
  · exact .inr (by omega)
theorem RedT.rdd {n : Int} {t : Tr} (h : RedT n t) : rdd t.a t.b t.c = true := by
  have hr := h.rd
  exact (red_iff h.pos).2 ⟨hr.b, hr.c, hr.s⟩
theorem Rd.redT {f : Fm} (h : Rd f) : RedT (-(AM.dsc f.a f.b f.c)) ⟨f.a, f.b, f.c⟩ := by
  have h1 := h.a
  have h2 := h.b
  have h3 := h.c
  have h4 := h.s
  refine ⟨by show 1 ≤ f.a; omega, by show 1 - f.a ≤ f.b; omega, by show f.b ≤ f.a; omega, h3, ?_, ?_⟩
  · rintro ⟨g1, g2⟩
    have g1' : f.b < 0 := g1
    have g2' : f.a = f.c := g2
    omega
  · show 4 * f.a * f.c = f.b * f.b + -(AM.dsc f.a f.b f.c)
    unfold AM.dsc; omega
theorem LW_mem {n : Int} {q : Fm → Bool} {f : Fm} (hn : n ≤ 4194304) : f ∈ LW n q ↔ RedT n ⟨f.a, f.b, f.c⟩ ∧ q f = true := by
  unfold LW
  rw [List.mem_filter, List.mem_map]
  constructor
  · rintro ⟨⟨t, ht, rfl⟩, hq⟩
    exact ⟨(trs_iff hn t).1 ht, hq⟩
  · rintro ⟨h, hq⟩
    exact ⟨⟨_, (trs_iff hn _).2 h, rfl⟩, hq⟩
theorem LW_nodup (n : Int) (q : Fm → Bool) : (LW n q).Nodup := by
  unfold LW
  refine List.Pairwise.filter _ ?_
  exact List.Pairwise.map (R := (· ≠ ·)) _ (fun a b h e => h (fm_inj e)) (trs_nodup n)
theorem filter_none {f : Fm} {l : List Fm} (h : f ∉ l) : (l.filter (eqG f)).length = 0 := by
  have : l.filter (eqG f) = [] := by
    rw [List.filter_eq_nil_iff]
    intro y hy hq
    rw [eqG_iff] at hq
    subst hq
    exact h hy
  rw [this]; rfl
theorem tms_LW {n : Int} {q : Fm → Bool} {f : Fm} (hn : n ≤ 4194304) (h : RedT n ⟨f.a, f.b, f.c⟩) : tms (LW n q) f = if q f = true then 1 else 0 := by
  unfold tms
  by_cases hq : q f = true
  · rw [filter_one (LW_nodup n q) ((LW_mem hn).2 ⟨h, hq⟩), if_pos hq]; rfl
  · rw [filter_none (fun g => hq ((LW_mem hn).1 g).2), if_neg hq]; rfl
/-- a right form's reduced form is one of all, and, if it is primitive, one of the primitive ones -/
theorem comp_all {g : Fm} (hg : g.pos) (hn : -(AM.dsc g.a g.b g.c) ≤ 4194304) :
    tms (LW (-(AM.dsc g.a g.b g.c)) (fun _ => true)) (rdF g.a g.b g.c) = 1 ∧
    tms (LW (-(AM.dsc g.a g.b g.c)) prG) (rdF g.a g.b g.c) = if prim g.a g.b g.c = true then 1 else 0 := by
  obtain ⟨M, hM, e⟩ := rdF_app hg
  have hr := Rd.rdF hg
  have hd : AM.dsc (rdF g.a g.b g.c).a (rdF g.a g.b g.c).b (rdF g.a g.b g.c).c = AM.dsc g.a g.b g.c := by rw [e]; exact disc_T hM
  have hp : prim g.a g.b g.c = prG (rdF g.a g.b g.c) := by rw [e]; exact prim_app g (by rw [hM]; rfl)
  have h1 := hr.redT
  rw [hd] at h1
  constructor
  · rw [tms_LW hn h1, if_pos rfl]
  · rw [tms_LW hn h1, hp]
/-! sorted -/
def lsT (s t : Tr) : Prop := s.a < t.a ∨ s.a = t.a ∧ s.b < t.b
theorem row_lt {n a : Int} : ∀ (k : Nat) (b : Int), (rowT n a k b).Pairwise lsT
  | 0, b => by unfold rowT; exact List.Pairwise.nil
  | k + 1, b => by
    unfold rowT
    rw [List.pairwise_append]
    refine ⟨by split <;> simp, row_lt k (b + 1), fun x hx y hy => ?_⟩
    split at hx
    · simp only [List.mem_singleton] at hx
      obtain ⟨b', h1, _, _, rfl⟩ := mem_rowT hy
      subst hx
      exact .inr ⟨rfl, by show b < b'; omega⟩
    · cases hx
theorem all_lt {n : Int} : ∀ (k : Nat) (a : Int), 1 ≤ a → (allT n k a).Pairwise lsT
  | 0, a, _ => by unfold allT; exact List.Pairwise.nil
  | k + 1, a, h => by
    unfold allT
    split
    · rw [List.pairwise_append]
      refine ⟨row_lt _ _, all_lt k (a + 1) (by omega), fun x hx y hy => ?_⟩
      obtain ⟨b', _, _, _, rfl⟩ := mem_rowT hx
      obtain ⟨a1, b1, g1, _, _, _, _, _, rfl⟩ := mem_allT (by omega) hy
      exact .inl (by show a < a1; omega)
    · exact List.Pairwise.nil
def lsF (f g : Fm) : Bool := decide (f.a < g.a ∨ f.a = g.a ∧ (f.b < g.b ∨ f.b = g.b ∧ f.c < g.c))
theorem LW_lt (n : Int) (q : Fm → Bool) : (LW n q).Pairwise (fun f g => lsF f g = true) := by
  unfold LW
  refine List.Pairwise.filter _ ?_
  refine List.Pairwise.map (R := lsT) _ (fun a b h => ?_) (all_lt 2000 1 (by omega))
  unfold lsF
  rw [decide_eq_true_iff]
  rcases h with h | h
  · exact .inl h
  · exact .inr ⟨h.1, .inl h.2⟩
theorem LW_next {l : List Fm} (h : l.Pairwise (fun f g => lsF f g = true)) {k : Nat} (hk : ((k + 1 : Nat) : Int) < l.length) : lsF (l.getD k ⟨0, 0, 0⟩) (l.getD (k + 1) ⟨0, 0, 0⟩) = true := by
  have h1 := (List.pairwise_iff_getElem.1 h) k (k + 1) (by omega) (by omega) (by omega)
  rw [List.getD_eq_getElem?_getD, List.getD_eq_getElem?_getD, List.getElem?_eq_getElem (by omega), List.getElem?_eq_getElem (by omega)]
  exact h1
theorem LW_facts {n : Int} {q : Fm → Bool} {f : Fm} (hn : n ≤ 4194304) (h : f ∈ LW n q) : rdd f.a f.b f.c = true ∧ dsc f.a f.b f.c = -n := by
  have h1 := ((LW_mem hn).1 h).1
  exact ⟨h1.rdd, h1.dsc⟩
theorem LW_filter (n : Int) : (LW n (fun _ => true)).filter prG = LW n prG := by
  rw [LW_all]; rfl
theorem cls_LW (n : Int) : cls n = ((LW n prG).length : Nat) := by
  rw [LW_pr, List.length_map]; rfl
theorem cls_pos {n : Int} (h : isD n = true) (hn : n ≤ 4194304) : 1 ≤ cls n := by
  have hi := isD_iff.1 h
  have key : ∃ t, RedT n t ∧ gT t = 1 := by
    rcases hi.2 with g | g
    · refine ⟨⟨1, 0, n / 4⟩, ⟨by show (1 : Int) ≤ 1; decide, by show (1 : Int) - 1 ≤ 0; decide, by show (0 : Int) ≤ 1; decide, by show 1 ≤ n / 4; omega, by rintro ⟨x, _⟩; exact absurd (show (0 : Int) < 0 from x) (by decide), by show 4 * 1 * (n / 4) = 0 * 0 + n; omega⟩, ?_⟩
      show Int.gcd ((Int.gcd 1 0 : Nat) : Int) (n / 4) = 1
      rw [show Int.gcd 1 0 = 1 by decide]
      exact Int.one_gcd
    · refine ⟨⟨1, 1, (n + 1) / 4⟩, ⟨by show (1 : Int) ≤ 1; decide, by show (1 : Int) - 1 ≤ 1; decide, by show (1 : Int) ≤ 1; decide, by show 1 ≤ (n + 1) / 4; omega, by rintro ⟨x, _⟩; exact absurd (show (1 : Int) < 0 from x) (by decide), by show 4 * 1 * ((n + 1) / 4) = 1 * 1 + n; omega⟩, ?_⟩
      show Int.gcd ((Int.gcd 1 1 : Nat) : Int) ((n + 1) / 4) = 1
      rw [show Int.gcd 1 1 = 1 by decide]
      exact Int.one_gcd
  obtain ⟨t, h1, h2⟩ := key
  have hm : t ∈ (trs n).filter prT := by
    rw [List.mem_filter, prT_g, decide_eq_true_iff]
    exact ⟨(trs_iff hn t).2 h1, h2⟩
  have := List.length_pos_of_mem hm
  unfold cls
  omega
end Go.AM
end

section
/- For the walks over lists: sorted neighbours, filtered beginnings, multiples. -/
namespace Go.AM
open Go Go.RowKit
def lsG (f g : Fm) : Prop := f.a < g.a ∨ f.a = g.a ∧ f.b < g.b
theorem LW_ltG (n : Int) (q : Fm → Bool) : (LW n q).Pairwise lsG := by
  unfold LW
  refine List.Pairwise.filter _ ?_
  exact List.Pairwise.map (R := lsT) _ (fun a b h => h) (all_lt 2000 1 (by omega))
theorem ls_prev {l : List Fm} (h : l.Pairwise lsG) {k : Nat} (h0 : 0 < (k : Int)) (hk : (k : Int) < l.length) : lsG (l.getD ((k : Int) - 1).toNat ⟨0, 0, 0⟩) (l.getD k ⟨0, 0, 0⟩) := by
  have e : ((k : Int) - 1).toNat = k - 1 := by omega
  rw [e]
  have h1 := (List.pairwise_iff_getElem.1 h) (k - 1) k (by omega) (by omega) (by omega)
  rw [List.getD_eq_getElem?_getD, List.getD_eq_getElem?_getD, List.getElem?_eq_getElem (by omega), List.getElem?_eq_getElem (by omega)]
  exact h1
theorem ls22 {a b p q : Int} (h : a < p ∨ a = p ∧ b < q) (hg : decide (cmpI a p < 0) = false) : (cmpI a p == 0) = true := by
  have h1 : ¬ a < p := fun x => of_decide_eq_false hg (cmpI_lt_zero.2 x)
  have e : a = p := by omega
  rw [e, cmpI_self]; rfl
theorem ls25 {a b p q : Int} (h : a < p ∨ a = p ∧ b < q) (hg : decide (cmpI a p < 0) = false) : decide (cmpI b q < 0) = true := by
  have h1 : ¬ a < p := fun x => of_decide_eq_false hg (cmpI_lt_zero.2 x)
  exact decide_eq_true (cmpI_lt_zero.2 (by omega))
def fK (l : List Fm) (k : Nat) : List Fm := (l.take k).filter prG
theorem fK_yes {l : List Fm} {k : Nat} (h : (k : Int) < l.length) (e : prG (l.getD k ⟨0, 0, 0⟩) = true) : fK l k ++ [l.getD k ⟨0, 0, 0⟩] = fK l (k + 1) := by
  unfold fK; rw [take_getD (by omega), List.filter_append, List.filter_cons, if_pos e]; rfl
theorem fK_no {l : List Fm} {k : Nat} (h : (k : Int) < l.length) (e : prG (l.getD k ⟨0, 0, 0⟩) = false) : fK l k = fK l (k + 1) := by
  unfold fK; rw [take_getD (by omega), List.filter_append, List.filter_cons, if_neg (by rw [e]; decide)]; simp
theorem fK_end {l : List Fm} {k : Nat} (h : ¬ (k : Int) < l.length) : fK l k = l.filter prG := by
  unfold fK; rw [List.take_of_length_le (by omega)]
theorem fK_len {l : List Fm} {k : Nat} : (fK l k).length ≤ k := by
  unfold fK
  have := List.length_filter_le prG (l.take k)
  rw [List.length_take] at this
  omega
theorem dsc_k (k a b c : Int) : dsc (k * a) (k * b) (k * c) = k * k * dsc a b c := by unfold dsc; grind
theorem pos_k {k : Int} {f : Fm} (hk : 1 ≤ k) (h : f.pos) : Fm.pos ⟨k * f.a, k * f.b, k * f.c⟩ := by
  refine ⟨Int.mul_pos (by omega) h.1, ?_⟩
  show dsc (k * f.a) (k * f.b) (k * f.c) < 0
  rw [dsc_k]
  have h2 : dsc f.a f.b f.c < 0 := h.2
  exact Int.mul_neg_of_pos_of_neg (by have := mm_pos hk; omega) h2
theorem pos_sz {g : Fm} (hg : g.pos) (hn : -(dsc g.a g.b g.c) ≤ 4194304) : szE (dsc g.a g.b g.c) = 0 := by
  obtain ⟨M, hM, e⟩ := rdF_app hg
  have hr := (Rd.rdF hg).redT
  have hd : dsc (rdF g.a g.b g.c).a (rdF g.a g.b g.c).b (rdF g.a g.b g.c).c = dsc g.a g.b g.c := by rw [e]; exact disc_T hM
  rw [hd] at hr
  exact szE_of_isD (by omega) (red_isD hr) hn
end Go.AM
end

section
/- The reference's list of forms, by the same loops. -/
namespace Go.AM
open Go Go.RowKit
def rwF (n a : Int) (k : Nat) (b : Int) : List Fm := (rowT n a k b).map Tr.fm
def alF (n : Int) (k : Nat) (a : Int) : List Fm := (allT n k a).map Tr.fm
def fmL (n : Int) : List Fm := (trs n).map Tr.fm
section
variable {n a b : Int} {l : List Fm}
theorem fo_start (n : Int) : [] ++ alF n (2001 - 1 : Int).toNat 1 = fmL n := rfl
theorem fo_end (h : l ++ alF n (2001 - a).toNat a = fmL n) (ha : a ≤ 2000) (h1 : ¬ 3 * a * a ≤ n) : l = fmL n := by
  have e : (2001 - a).toNat = (2000 - a).toNat + 1 := by omega
  rw [e] at h
  unfold alF at h
  rw [allT, if_neg h1] at h
  simpa using h
theorem fo_in (h : l ++ alF n (2001 - a).toNat a = fmL n) (ha : 1 ≤ a ∧ a ≤ 2000) (h1 : 3 * a * a ≤ n) : l ++ (rwF n a (a + 1 - (1 - a)).toNat (1 - a) ++ alF n (2000 - a).toNat (a + 1)) = fmL n := by
  have e : (2001 - a).toNat = (2000 - a).toNat + 1 := by omega
  rw [e] at h
  unfold alF at h
  rw [allT, if_pos h1, List.map_append] at h
  rw [show (a + 1 - (1 - a)).toNat = (2 * a).toNat by omega]
  exact h
theorem fo_out (h : l ++ (rwF n a (a + 1 - b).toNat b ++ alF n (2000 - a).toNat (a + 1)) = fmL n) (hb : ¬ b ≤ a) : l ++ alF n (2001 - (a + 1)).toNat (a + 1) = fmL n := by
  have e : (a + 1 - b).toNat = 0 := by omega
  rw [e] at h
  have e2 : (2001 - (a + 1)).toNat = (2000 - a).toNat := by omega
  rw [e2]
  simpa [rwF, rowT] using h
theorem fo_no (h : l ++ (rwF n a (a + 1 - b).toNat b ++ alF n (2000 - a).toNat (a + 1)) = fmL n) (hb : b ≤ a) (ho : okT n a b = false) : l ++ (rwF n a (a + 1 - (b + 1)).toNat (b + 1) ++ alF n (2000 - a).toNat (a + 1)) = fmL n := by
  have e : (a + 1 - b).toNat = (a + 1 - (b + 1)).toNat + 1 := by omega
  rw [e] at h
  unfold rwF at h
  rw [rowT, if_neg (by rw [ho]; decide), List.nil_append] at h
  exact h
theorem fo_yes (h : l ++ (rwF n a (a + 1 - b).toNat b ++ alF n (2000 - a).toNat (a + 1)) = fmL n) (hb : b ≤ a) (ho : okT n a b = true) : (l ++ [⟨a, b, (b * b + n) / (4 * a)⟩]) ++ (rwF n a (a + 1 - (b + 1)).toNat (b + 1) ++ alF n (2000 - a).toNat (a + 1)) = fmL n := by
  have e : (a + 1 - b).toNat = (a + 1 - (b + 1)).toNat + 1 := by omega
  rw [e] at h
  unfold rwF at h
  rw [rowT, if_pos ho, List.map_append] at h
  rw [List.append_assoc]
  simpa [Tr.fm, rwF] using h
theorem ok_1 (h : (b * b + n) % (4 * a) ≠ 0) : okT n a b = false := by unfold okT; rw [decide_eq_false h]; rfl
theorem ok_2 (h : ¬ a ≤ (b * b + n) / (4 * a)) : okT n a b = false := by unfold okT; rw [decide_eq_false h]; simp
theorem ok_3 (h : (b * b + n) % (4 * a) = 0) (h1 : a ≤ (b * b + n) / (4 * a)) (h2 : 0 ≤ b ∨ a < (b * b + n) / (4 * a)) : okT n a b = true := okT_iff.2 ⟨h, h1, by omega⟩
theorem ok_4 (h1 : a ≤ (b * b + n) / (4 * a)) (h2 : ¬ 0 ≤ b) (h3 : ¬ a < (b * b + n) / (4 * a)) : okT n a b = false := by
  cases g : okT n a b
  · rfl
  · exact absurd ⟨by omega, by omega⟩ (okT_iff.1 g).2.2
theorem fo_a (_h1 : 1 ≤ a) (h : 3 * a * a ≤ n) (hn : n ≤ 5000) : a ≤ 40 := by
  rcases Int.lt_or_le 40 a with g | g
  · have := sq3_le (show (1 : Int) ≤ 41 by omega) (show 41 ≤ a by omega)
    omega
  · exact g
end
end Go.AM
end

section
/- The reference's conductor, by a search upwards. -/
namespace Go.AM
open Go Go.RowKit
structure SpI (N b f : Int) : Prop where
  f1 : 1 ≤ f
  b1 : 1 ≤ b
  bf : b ≤ f
  gd : b = 1 ∨ cdB N b = true
  mx : ∀ j, 1 ≤ j → j < f → cdB N j = true → j ≤ b
theorem SpI.start (N : Int) : SpI N 1 1 := ⟨by decide, by decide, by decide, .inl rfl, fun j h h1 _ => by omega⟩
theorem SpI.yes {N b f : Int} (i : SpI N b f) (h : cdB N f = true) : SpI N f (f + 1) :=
  ⟨by have := i.f1; omega, i.f1, by omega, .inr h, fun j _ h2 _ => by omega⟩
theorem SpI.no {N b f : Int} (i : SpI N b f) (h : cdB N f = false) : SpI N b (f + 1) :=
  ⟨by have := i.f1; omega, i.b1, by have := i.bf; omega, i.gd, fun j h1 h2 h3 => by
    by_cases e : j = f
    · subst e; rw [h] at h3; cases h3
    · exact i.mx j h1 (by omega) h3⟩
theorem SpI.fin {N b f : Int} (i : SpI N b f) (hN : isD N = true) (h4 : N ≤ 4194304) (h : ¬ f * f ≤ N) : b = cdF N := by
  obtain ⟨g1, q, e, hq⟩ := cdF_good hN
  have hNi := isD_iff.1 hN
  have hs := (sq_le_n g1 e hNi.1).1
  have hlt : cdF N < f := by
    rcases Int.lt_or_le (cdF N) f with g | g
    · exact g
    · have : f * f ≤ cdF N * cdF N := Int.mul_le_mul g g (by have := i.f1; omega) (by omega)
      omega
  have l1 := i.mx _ g1 hlt ((cdB_iff g1).2 ⟨q, e, (isD_iff.1 hq).2⟩)
  have l2 : b ≤ cdF N := by
    rcases i.gd with g | g
    · omega
    · obtain ⟨r, er, hr⟩ := (cdB_iff i.b1).1 g
      exact cdF_max hNi.1 h4 i.b1 er hr
  omega
theorem sp_yes {N f : Int} (hz : N % (f * f) = 0) (h : isD (N / (f * f)) = true) : cdB N f = true := by
  have hi := (isD_iff.1 h).2
  unfold cdB; rw [Bool.and_eq_true, Bool.or_eq_true, decide_eq_true_iff, decide_eq_true_iff, decide_eq_true_iff]
  exact ⟨hz, hi⟩
theorem sp_no {N f : Int} (hN : 1 ≤ N) (hf : 1 ≤ f) (_hz : N % (f * f) = 0) (h : isD (N / (f * f)) = false) : cdB N f = false := by
  cases g : cdB N f
  · rfl
  · obtain ⟨q, e, hq⟩ := (cdB_iff hf).1 g
    have h1 := (sq_le_n hf e (by omega)).2
    have hmm := mm_pos hf
    have e2 : N / (f * f) = q := by rw [e]; exact Int.mul_ediv_cancel_left _ (by omega)
    rw [e2] at h
    rw [isD_iff.2 ⟨by omega, hq⟩] at h
    cases h
theorem f_le71 {N f : Int} (_h1 : 1 ≤ f) (h : f * f ≤ N) (hn : N ≤ 5000) : f ≤ 71 := by
  rcases Int.lt_or_le 71 f with g | g
  · have : (72 : Int) * 72 ≤ f * f := Int.mul_le_mul (by omega) (by omega) (by omega) (by omega)
    omega
  · exact g
/-! the reference's sum of weights -/
def wF (f : Fm) : Int := wT ⟨f.a, f.b, f.c⟩
def tK (l : List Fm) (k : Nat) : Int := sumI ((l.take k).map wF)
theorem tK_next {l : List Fm} {k : Nat} (h : (k : Int) < l.length) : tK l (k + 1) = tK l k + wF (l.getD k ⟨0, 0, 0⟩) := by
  unfold tK; rw [take_getD (by omega), List.map_append, List.map_cons, List.map_nil, sumI_snoc]
theorem wF_b (f : Fm) : 0 ≤ wF f ∧ wF f ≤ 12 := wT_b _
theorem sumF_b : ∀ (l : List Fm), 0 ≤ sumI (l.map wF) ∧ sumI (l.map wF) ≤ 12 * (l.length : Nat)
  | [] => by simp [sumI]
  | f :: l => by
    have h := sumF_b l
    have h1 := wF_b f
    simp only [List.map_cons, sumI, List.length_cons]
    omega
theorem tK_b (l : List Fm) (k : Nat) : 0 ≤ tK l k ∧ tK l k ≤ 12 * (k : Int) := by
  unfold tK
  have h := sumF_b (l.take k)
  rw [List.length_take] at h
  omega
theorem tK_end {n : Int} {k : Nat} (h : ¬ (k : Int) < (fmL n).length) : tK (fmL n) k = hws n := by
  unfold tK hws
  rw [List.take_of_length_le (by omega)]
  unfold fmL
  rw [List.map_map]
  rfl
theorem tw_0 {n : Int} (h : n = 0) : -1 = hzV n := by subst h; decide +kernel
theorem tw_no {n : Int} (h : 0 ≤ n) (h1 : n ≤ 5000) (h0 : n ≠ 0) (hd : isD n = false) : 0 = hzV n := by
  have : n % 4 = 1 ∨ n % 4 = 2 := by
    by_cases g : n % 4 = 0 ∨ n % 4 = 3
    · rw [isD_iff.2 ⟨by omega, g⟩] at hd; cases hd
    · omega
  unfold hzV
  rw [hz_small h (by omega), if_neg (by simp), if_neg h0, if_pos this]
/-! for the law -/
theorem sz_isD {d : Int} (h : szE d = 0) : isD (szN d) = true := by
  obtain ⟨h1, h2, h3, h4⟩ := szE_0 h
  rw [h1, isD_iff]
  unfold szE at h
  by_cases g : 0 ≤ d ∨ d % 4 > 1
  · rw [if_pos g] at h; cases h
  · omega
/-- within the limits, but too large for the law -/
def farB (d : Int) : Bool := decide (5000 < d.natAbs ∧ d.natAbs ≤ 4194304)
theorem far_small {d : Int} (h : farB d = false) (h0 : szE d = 0) : -d ≤ 5000 := by
  unfold farB at h
  have h := of_decide_eq_false h
  have := szE_0 h0
  omega
theorem far_hz {d : Int} (h : farB d = false) (h1 : 0 ≤ -d) (h2 : -d ≤ 4194304) : -d ≤ 5000 := by
  unfold farB at h
  have h := of_decide_eq_false h
  omega
theorem far_1 {d : Int} (h : lwO ((d.natAbs : Nat) : Int) = true) (h1 : decide (lwV ((d.natAbs : Nat) : Int) > 5000) = true) : decide (lwV ((d.natAbs : Nat) : Int) ≤ 4194304) = farB d := by
  have hy := (lwO_yes (lwO_iff.1 h)).2
  rw [hy] at h1 ⊢
  have h1 := of_decide_eq_true h1
  unfold farB
  exact decide_eq_decide.2 ⟨fun x => ⟨by omega, by omega⟩, fun x => by omega⟩
theorem far_2 {d : Int} (h : lwO ((d.natAbs : Nat) : Int) = true) (h1 : decide (lwV ((d.natAbs : Nat) : Int) > 5000) = false) : false = farB d := by
  have hy := (lwO_yes (lwO_iff.1 h)).2
  rw [hy] at h1
  have h1 := of_decide_eq_false h1
  exact (decide_eq_false (fun x => by omega)).symm
theorem far_3 {d : Int} (h : lwO ((d.natAbs : Nat) : Int) = false) : false = farB d := by
  have := lwO_f h
  exact (decide_eq_false (fun x => by omega)).symm
def d2 (a b : Int) (k : Nat) : Int := if k = 0 then a else b
theorem d2_get {a b d : Int} {k : Nat} (hk : (k : Int) < 2) (e : d2 a b k = d) : ([zn a, zm a, zn b, zm b] : List DV).drop ((k : Int).toNat * 2) = [zn d, zm d] ++ (if k = 0 then [zn b, zm b] else []) := by
  subst e
  rcases (show k = 0 ∨ k = 1 by omega) with rfl | rfl <;> rfl
theorem cd_bb (d : Int) : (-4194304 ≤ cdD d ∧ cdD d ≤ 4194304) ∧ (-4194304 ≤ cdV d ∧ cdV d ≤ 4194304) := by
  unfold cdD cdV
  by_cases h : szE d = 0
  · rw [if_pos h, if_pos h]
    have hND := sz_isD h
    obtain ⟨hsn, hN1, hN2, hN3⟩ := szE_0 h
    rw [hsn] at hND
    obtain ⟨g1, q, e, hq⟩ := cdF_good hND
    have hs := sq_le_n g1 e hN1
    have qq := quo_b (n := -d) (x := cdF (-d) * cdF (-d)) (by omega) (mm_pos g1)
    have hff : cdF (-d) * 1 ≤ cdF (-d) * cdF (-d) := Int.mul_le_mul_of_nonneg_left g1 (by omega)
    omega
  · rw [if_neg h, if_neg h]; omega
theorem cl_len (d : Int) : clE d = (((if szE d = 0 then LW (-d) prG else []).length : Nat) : Int) := by
  unfold clE
  by_cases h : szE d = 0
  · rw [if_pos h, if_pos h, cls_LW]
  · rw [if_neg h, if_neg h]; rfl
end Go.AM
end

section
/- chapter 11: refusals -/
namespace Go.Proofs.YtkdfinfdocdpoaaGreatDoor
open Go Go.AM

/- algorist/integer.Low -/
set_option maxHeartbeats 1000000 in
set_option maxRecDepth 100000 in
theorem int_LowL (x : Int) (hx : 18446744073709551616 ≤ x.natAbs) :
    Call0 Tryz.prog 46 [I x] (.t [.c (.v (.int .i64 (lwV x))), PB (lwO x)]) := by
  have hl : ¬ (wl x.natAbs).length ≤ 2 := fun h => by have := lt_two h; omega
  refine callM_of (np := 0) Tryz.func46 (by kernel_rfl) rfl rfl (Nat.le_of_ble_eq_true rfl) (fun m h => absurd rfl h) (fun m h => absurd rfl h) rfl ?_
  refine AWp_seq ?_
  refine AWp_region hP ?_
  refine RK.alc guard_none (op_box rfl rfl) ?_
  refine RK.val guard_none (op_assign (rfl : _ = AV.p (.c _))) ?_
  refine RK.val guard_none (op_assign (rfl : _ = AV.p (.c _))) ?_
  refine RK.done (by kernel_rfl) ?_
  refine AWp_seq ?_
  refine AWp_seq ?_
  refine AWp_region hP ?_
  refine RK.val guard_none (op_field_loc hT rfl rfl rfl rfl rfl rfl) ?_
  refine RK.val guard_none (op_load_one hT rfl rfl rfl rfl (by first | rfl | exact vget (by omega))) ?_
  refine RK.val guard_none (op_len hT rfl rfl rfl rfl) ?_
  refine RK.val guard_none (op_gtr rfl rfl) ?_
  refine RK.done (by kernel_rfl) ?_
  refine AWp_cond_true rfl (decide_eq_true (by omega)) ?_
  refine AWp_seq ?_
  refine AWp_region hP ?_
  refine RK.val guard_none (op_assign (rfl : _ = AV.p (.c _))) ?_
  refine RK.val guard_none (op_assign (rfl : _ = AV.p (.c _))) ?_
  refine RK.done (by kernel_rfl) ?_
  refine AWp_ret ?_
  refine ends_two rfl (.inr rfl) (res_tmp rfl) (res_tmp rfl) ?_ O_ends
  exact Sub.of_eq (lw_no (by omega))

theorem int_LowA (x : Int) : Call0 Tryz.prog 46 [I x] (.t [.c (.v (.int .i64 (lwV x))), PB (lwO x)]) := by
  by_cases h : x.natAbs < 9223372036854775808
  · have h1 := int_Low x (by omega) (by omega)
    have h2 := lwO_yes (a := x) (by omega)
    rw [h2.1, h2.2]; exact h1
  · by_cases h1 : x.natAbs < 18446744073709551616
    · exact int_LowM x (by omega)
    · exact int_LowL x (by omega)

/- algorist/count.size -/
set_option maxHeartbeats 1000000 in
set_option maxRecDepth 100000 in
theorem c_sizeA (d : Int) (hd : L 30 d) :
    Call0 Tryz.prog 43 [I d] (.t [PE (szN d), PE (szE d)]) := by
  have id0 : LB d 30 := ⟨hd⟩
  have hm0 := Int.emod_nonneg d (show (4 : Int) ≠ 0 by omega)
  have hm1 := Int.emod_lt_of_pos d (show (0 : Int) < 4 by omega)
  refine callM_of (np := 0) Tryz.func43 (by kernel_rfl) rfl rfl (Nat.le_of_ble_eq_true rfl) (fun m h => absurd rfl h) (fun m h => absurd rfl h) rfl ?_
  refine AWp_seq ?_
  refine AWp_region hP ?_
  refine RK.alc guard_none (op_box rfl rfl) ?_
  refine RK.val guard_none (op_assign (rfl : _ = AV.p (.c _))) ?_
  refine RK.val guard_none (op_assign (rfl : _ = AV.p (.c _))) ?_
  refine RK.done (by kernel_rfl) ?_
  refine AWp_seq ?_
  refine AWp_region hP ?_
  refine RK.val guard_none (op_load_agg hT rfl rfl rfl rfl (cs := [_, _]) rfl rfl) ?_
  refine RK.val guard_none (Eff.call0 (c_number _ (by first | assumption | decide))) ?_
  refine RK.val guard_none (Eff.call0 (int_DivMod _ _ lz lz (by decide))) ?_
  refine RK.val guard_none (op_move (rfl : _ = AV.t _)) ?_
  refine RK.val guard_none (op_extract rfl (v := .a _) rfl) ?_
  refine RK.val guard_none (op_extract rfl (v := .a _) rfl) ?_
  refine RK.val guard_none (op_extract rfl (v := .c _) rfl) ?_
  refine RK.alc guard_none (op_alloc hT rfl rfl) ?_
  refine RK.alc guard_none (op_alloc hT rfl rfl) ?_
  refine RK.sto guard_none (op_store hT rfl rfl rfl rfl rfl rfl (cs := [_, _]) rfl) ?_
  refine RK.sto guard_none (op_store hT rfl rfl rfl rfl rfl rfl (cs := [_, _]) rfl) ?_
  refine RK.val guard_none (op_assign (rfl : _ = AV.p (.c _))) ?_
  refine RK.done (by kernel_rfl) ?_
  refine AWp_seq ?_
  refine AWp_seq ?_
  refine AWp_region hP ?_
  refine RK.val guard_none (op_load_agg hT rfl rfl rfl rfl (cs := [_, _]) rfl rfl) ?_
  refine RK.val guard_none (Eff.call0 (int_Sign _)) ?_
  refine RK.val guard_none (op_geq rfl rfl) ?_
  refine RK.val guard_none (op_move (rfl : _ = AV.p (.c _))) ?_
  refine RK.split (t := 19) rfl (fun hg1 => ?_) (fun hg1 => ?_)
  · have hg1_ := of_decide_eq_true hg1
    refine RK.skip (guard_no rfl rfl hg1) ?_
    refine RK.skip (guard_no rfl rfl hg1) ?_
    refine RK.skip (guard_no rfl rfl hg1) ?_
    refine RK.skip (guard_no rfl rfl hg1) ?_
    refine RK.val guard_none (op_pick_t rfl hg1 (rfl : _ = AV.p (.c _))) ?_
    refine RK.done (by kernel_rfl) ?_
    refine AWp_cond_true rfl rfl ?_
    refine AWp_seq ?_
    refine AWp_region hP ?_
    refine RK.val guard_none (op_assign (rfl : _ = AV.p (.c _))) ?_
    refine RK.val guard_none (op_assign (rfl : _ = AV.p (.c _))) ?_
    refine RK.done (by kernel_rfl) ?_
    refine AWp_ret ?_
    refine ends_two rfl (.inr rfl) (res_tmp rfl) (res_tmp rfl) ?_ O_ends
    exact Sub.of_eq (sz_5 (.inl (sgn_ge_iff.1 hg1_)))
  · have hg1_ := of_decide_eq_false hg1
    refine RK.val (guard_yes rfl rfl hg1) (op_load_agg hT rfl rfl rfl rfl (cs := [_, _]) rfl rfl) ?_
    refine RK.val (guard_yes rfl rfl hg1) (Eff.call0 (c_number _ (by first | assumption | decide))) ?_
    refine RK.val (guard_yes rfl rfl hg1) (Eff.call0 (int_Cmp _ _)) ?_
    refine RK.val (guard_yes rfl rfl hg1) (op_gtr rfl rfl) ?_
    refine RK.val guard_none (op_pick_f rfl hg1 (rfl : _ = AV.p (.c _))) ?_
    refine RK.done (by kernel_rfl) ?_
    refine AWp_cond rfl (fun hb2 => ?_) (fun hb2 => ?_)
    · have hb2_ := of_decide_eq_true hb2
      refine AWp_seq ?_
      refine AWp_region hP ?_
      refine RK.val guard_none (op_assign (rfl : _ = AV.p (.c _))) ?_
      refine RK.val guard_none (op_assign (rfl : _ = AV.p (.c _))) ?_
      refine RK.done (by kernel_rfl) ?_
      refine AWp_ret ?_
      refine ends_two rfl (.inr rfl) (res_tmp rfl) (res_tmp rfl) ?_ O_ends
      exact Sub.of_eq (sz_5 (.inr (cmpI_gt_zero.1 hb2_)))
    · have hb2_ := of_decide_eq_false hb2
      have hg0 : ¬ 0 ≤ d := fun h => hg1_ (sgn_ge_iff.2 h)
      refine AWp_skip ?_
      refine AWp_seq ?_
      refine AWp_region hP ?_
      refine RK.val guard_none (op_load_agg hT rfl rfl rfl rfl (cs := [_, _]) rfl rfl) ?_
      refine RK.val guard_none (Eff.call0 (int_Neg _)) ?_
      refine RK.val guard_none (Eff.call0 (int_LowA _)) ?_
      refine RK.val guard_none (op_move (rfl : _ = AV.t _)) ?_
      refine RK.val guard_none (op_extract rfl (v := .c _) rfl) ?_
      refine RK.val guard_none (op_extract rfl (v := .c _) rfl) ?_
      refine RK.val guard_none (op_assign (rfl : _ = AV.p (.c _))) ?_
      refine RK.val guard_none (op_assign (rfl : _ = AV.p (.c _))) ?_
      refine RK.done (by kernel_rfl) ?_
      refine AWp_seq ?_
      refine AWp_seq ?_
      refine AWp_region hP ?_
      refine RK.val guard_none (op_move (rfl : _ = AV.p (.c _))) ?_
      refine RK.val guard_none (op_unot rfl) ?_
      refine RK.val guard_none (op_move (rfl : _ = AV.p (.c _))) ?_
      refine RK.split (t := 33) rfl (fun hg3 => ?_) (fun hg3 => ?_)
      · have hg3_ := (notT hg3)
        have hlo := lwO_f (notT hg3)
        refine RK.skip (guard_no rfl rfl hg3) ?_
        refine RK.skip (guard_no rfl rfl hg3) ?_
        refine RK.val guard_none (op_pick_t rfl hg3 (rfl : _ = AV.p (.c _))) ?_
        refine RK.done (by kernel_rfl) ?_
        refine AWp_cond_true rfl rfl ?_
        refine AWp_seq ?_
        refine AWp_region hP ?_
        refine RK.val guard_none (op_assign (rfl : _ = AV.p (.c _))) ?_
        refine RK.val guard_none (op_assign (rfl : _ = AV.p (.c _))) ?_
        refine RK.done (by kernel_rfl) ?_
        refine AWp_ret ?_
        refine ends_two rfl (.inr rfl) (res_tmp rfl) (res_tmp rfl) ?_ O_ends
        exact Sub.of_eq (sz_2 (fun x => x.elim hg0 (fun h => hb2_ (cmpI_gt_zero.2 h))) (by omega))
      · have hg3_ := (notF hg3)
        have hly := lwO_yes (lwO_iff.1 (notF hg3))
        refine RK.val (guard_yes rfl rfl hg3) (op_move (rfl : _ = AV.p (.c _))) ?_
        refine RK.val (guard_yes rfl rfl hg3) (op_gtr rfl rfl) ?_
        refine RK.val guard_none (op_pick_f rfl hg3 (rfl : _ = AV.p (.c _))) ?_
        refine RK.done (by kernel_rfl) ?_
        refine AWp_cond rfl (fun hb4 => ?_) (fun hb4 => ?_)
        · have hb4_ := of_decide_eq_true hb4
          refine AWp_seq ?_
          refine AWp_region hP ?_
          refine RK.val guard_none (op_assign (rfl : _ = AV.p (.c _))) ?_
          refine RK.val guard_none (op_assign (rfl : _ = AV.p (.c _))) ?_
          refine RK.done (by kernel_rfl) ?_
          refine AWp_ret ?_
          refine ends_two rfl (.inr rfl) (res_tmp rfl) (res_tmp rfl) ?_ O_ends
          exact Sub.of_eq (sz_2 (fun x => x.elim hg0 (fun h => hb2_ (cmpI_gt_zero.2 h))) (by have := hly.2; omega))
        · have hb4_ := of_decide_eq_false hb4
          refine AWp_skip ?_
          refine AWp_seq ?_
          refine AWp_region hP ?_
          refine RK.val guard_none (op_move (rfl : _ = AV.p (.c _))) ?_
          refine RK.val guard_none (op_assign (rfl : _ = AV.p (.c _))) ?_
          refine RK.val guard_none (op_assign (rfl : _ = AV.p (.c _))) ?_
          refine RK.done (by kernel_rfl) ?_
          refine AWp_ret ?_
          refine ends_two rfl (.inr rfl) (res_tmp rfl) (res_tmp rfl) ?_ O_ends
          exact Sub.of_eq (by rw [hly.2]; exact sz_0 (fun x => x.elim hg0 (fun h => hb2_ (cmpI_gt_zero.2 h))) (by have := hly.2; omega))

/- algorist/count.list -/
set_option maxHeartbeats 1000000 in
set_option maxRecDepth 100000 in
theorem c_listE (d : Int) (hd : L 30 d) (hE : szE d ≠ 0) (W : FuncId) :
    Call0 Tryz.prog 39 [I d, .p (.c (.v (.func (.func W) #[] #[])))] (.t [.c (FS []), PE (szE d)]) := by
  refine callM_of (np := 0) Tryz.func39 (by kernel_rfl) rfl rfl (Nat.le_of_ble_eq_true rfl) (fun m h => absurd rfl h) (fun m h => absurd rfl h) rfl ?_
  refine AWp_seq ?_
  refine AWp_region hP ?_
  refine RK.alc guard_none (op_box rfl rfl) ?_
  refine RK.alc guard_none (op_box rfl rfl) ?_
  refine RK.val guard_none (op_assign (rfl : _ = AV.p (.c _))) ?_
  refine RK.val guard_none (op_assign (rfl : _ = AV.p (.c _))) ?_
  refine RK.done (by kernel_rfl) ?_
  refine AWp_seq ?_
  refine AWp_region hP ?_
  refine RK.val guard_none (op_load_agg hT rfl rfl rfl rfl (cs := [_, _]) rfl rfl) ?_
  refine RK.val guard_none (Eff.call0 (c_sizeA _ hd)) ?_
  refine RK.val guard_none (op_move (rfl : _ = AV.t _)) ?_
  refine RK.val guard_none (op_extract rfl (v := .c _) rfl) ?_
  refine RK.val guard_none (op_extract rfl (v := .c _) rfl) ?_
  refine RK.val guard_none (op_assign (rfl : _ = AV.p (.c _))) ?_
  refine RK.val guard_none (op_assign (rfl : _ = AV.p (.c _))) ?_
  refine RK.done (by kernel_rfl) ?_
  refine AWp_seq ?_
  refine AWp_seq ?_
  refine AWp_region hP ?_
  refine RK.val guard_none (op_move (rfl : _ = AV.p (.c _))) ?_
  refine RK.val guard_none (op_neq rfl rfl) ?_
  refine RK.done (by kernel_rfl) ?_
  refine AWp_cond_true rfl (by simpa using hE) ?_
  refine AWp_seq ?_
  refine AWp_region hP ?_
  refine RK.val guard_none (op_move (rfl : _ = AV.p (.c _))) ?_
  refine RK.val guard_none (op_assign (rfl : _ = AV.p (.c _))) ?_
  refine RK.val guard_none (op_assign (rfl : _ = AV.p (.c _))) ?_
  refine RK.done (by kernel_rfl) ?_
  refine AWp_ret ?_
  refine ends_two rfl (.inr rfl) (res_tmp rfl) (res_tmp rfl) ?_ O_ends
  exact Sub.tup ⟨DSub.nil_sl, DSub.refl _, trivial⟩

/- algorist/count.All -/
set_option maxHeartbeats 1000000 in
set_option maxRecDepth 100000 in
theorem c_AllE (d : Int) (hd : L 30 d) (hE : szE d ≠ 0) :
    Call0 Tryz.prog 12 [I d] (.t [.c (FS []), PE (szE d)]) := by
  refine callM_of (np := 0) Tryz.func12 (by kernel_rfl) rfl rfl (Nat.le_of_ble_eq_true rfl) (fun m h => absurd rfl h) (fun m h => absurd rfl h) rfl ?_
  refine AWp_seq ?_
  refine AWp_region hP ?_
  refine RK.alc guard_none (op_box rfl rfl) ?_
  refine RK.val guard_none (op_assign (rfl : _ = AV.p (.c _))) ?_
  refine RK.val guard_none (op_assign (rfl : _ = AV.p (.c _))) ?_
  refine RK.done (by kernel_rfl) ?_
  refine AWp_seq ?_
  refine AWp_region hP ?_
  refine RK.val guard_none (op_load_agg hT rfl rfl rfl rfl (cs := [_, _]) rfl rfl) ?_
  refine RK.val guard_none (Eff.call0 (c_listE _ hd hE _)) ?_
  refine RK.val guard_none (op_extract rfl (v := .c _) rfl) ?_
  refine RK.val guard_none (op_extract rfl (v := .c _) rfl) ?_
  refine RK.val guard_none (op_assign (rfl : _ = AV.p (.c _))) ?_
  refine RK.val guard_none (op_assign (rfl : _ = AV.p (.c _))) ?_
  refine RK.done (by kernel_rfl) ?_
  refine AWp_ret ?_
  refine ends_two rfl (.inr rfl) (res_tmp rfl) (res_tmp rfl) ?_ O_ends
  exact .refl _

/- algorist/count.Reduced -/
set_option maxHeartbeats 1000000 in
set_option maxRecDepth 100000 in
theorem c_ReducedE (d : Int) (hd : L 30 d) (hE : szE d ≠ 0) :
    Call0 Tryz.prog 10 [I d] (.t [.c (FS []), PE (szE d)]) := by
  refine callM_of (np := 0) Tryz.func10 (by kernel_rfl) rfl rfl (Nat.le_of_ble_eq_true rfl) (fun m h => absurd rfl h) (fun m h => absurd rfl h) rfl ?_
  refine AWp_seq ?_
  refine AWp_region hP ?_
  refine RK.alc guard_none (op_box rfl rfl) ?_
  refine RK.val guard_none (op_assign (rfl : _ = AV.p (.c _))) ?_
  refine RK.val guard_none (op_assign (rfl : _ = AV.p (.c _))) ?_
  refine RK.done (by kernel_rfl) ?_
  refine AWp_seq ?_
  refine AWp_region hP ?_
  refine RK.val guard_none (op_load_agg hT rfl rfl rfl rfl (cs := [_, _]) rfl rfl) ?_
  refine RK.val guard_none (Eff.call0 (c_listE _ hd hE _)) ?_
  refine RK.val guard_none (op_extract rfl (v := .c _) rfl) ?_
  refine RK.val guard_none (op_extract rfl (v := .c _) rfl) ?_
  refine RK.val guard_none (op_assign (rfl : _ = AV.p (.c _))) ?_
  refine RK.val guard_none (op_assign (rfl : _ = AV.p (.c _))) ?_
  refine RK.done (by kernel_rfl) ?_
  refine AWp_ret ?_
  refine ends_two rfl (.inr rfl) (res_tmp rfl) (res_tmp rfl) ?_ O_ends
  exact .refl _

/- algorist/count.Class -/
set_option maxHeartbeats 1000000 in
set_option maxRecDepth 100000 in
theorem c_ClassE (d : Int) (hd : L 30 d) (hE : szE d ≠ 0) :
    Call0 Tryz.prog 14 [I d] (.t [PE 0, PE (szE d)]) := by
  refine callM_of (np := 0) Tryz.func14 (by kernel_rfl) rfl rfl (Nat.le_of_ble_eq_true rfl) (fun m h => absurd rfl h) (fun m h => absurd rfl h) rfl ?_
  refine AWp_seq ?_
  refine AWp_region hP ?_
  refine RK.alc guard_none (op_box rfl rfl) ?_
  refine RK.val guard_none (op_assign (rfl : _ = AV.p (.c _))) ?_
  refine RK.val guard_none (op_assign (rfl : _ = AV.p (.c _))) ?_
  refine RK.done (by kernel_rfl) ?_
  refine AWp_seq ?_
  refine AWp_region hP ?_
  refine RK.val guard_none (op_load_agg hT rfl rfl rfl rfl (cs := [_, _]) rfl rfl) ?_
  refine RK.val guard_none (Eff.call0 (c_sizeA _ hd)) ?_
  refine RK.val guard_none (op_move (rfl : _ = AV.t _)) ?_
  refine RK.val guard_none (op_extract rfl (v := .c _) rfl) ?_
  refine RK.val guard_none (op_extract rfl (v := .c _) rfl) ?_
  refine RK.val guard_none (op_assign (rfl : _ = AV.p (.c _))) ?_
  refine RK.val guard_none (op_assign (rfl : _ = AV.p (.c _))) ?_
  refine RK.done (by kernel_rfl) ?_
  refine AWp_seq ?_
  refine AWp_seq ?_
  refine AWp_region hP ?_
  refine RK.val guard_none (op_move (rfl : _ = AV.p (.c _))) ?_
  refine RK.val guard_none (op_neq rfl rfl) ?_
  refine RK.done (by kernel_rfl) ?_
  refine AWp_cond_true rfl (by simpa using hE) ?_
  refine AWp_seq ?_
  refine AWp_region hP ?_
  refine RK.val guard_none (op_move (rfl : _ = AV.p (.c _))) ?_
  refine RK.val guard_none (op_assign (rfl : _ = AV.p (.c _))) ?_
  refine RK.val guard_none (op_assign (rfl : _ = AV.p (.c _))) ?_
  refine RK.done (by kernel_rfl) ?_
  refine AWp_ret ?_
  refine ends_two rfl (.inr rfl) (res_tmp rfl) (res_tmp rfl) ?_ O_ends
  exact .refl _

/- algorist/count.Conductor -/
set_option maxHeartbeats 1000000 in
set_option maxRecDepth 100000 in
theorem c_ConductorE (d : Int) (hd : L 30 d) (hE : szE d ≠ 0) :
    Call0 Tryz.prog 19 [I d] (.t [PI 0, PI 0, PE (szE d)]) := by
  refine callM_of (np := 0) Tryz.func19 (by kernel_rfl) rfl rfl (Nat.le_of_ble_eq_true rfl) (fun m h => absurd rfl h) (fun m h => absurd rfl h) rfl ?_
  refine AWp_seq ?_
  refine AWp_region hP ?_
  refine RK.alc guard_none (op_box rfl rfl) ?_
  refine RK.alc guard_none (op_alloc hT rfl rfl) ?_
  refine RK.alc guard_none (op_alloc hT rfl rfl) ?_
  refine RK.val guard_none (op_assign (rfl : _ = AV.p (.c _))) ?_
  refine RK.done (by kernel_rfl) ?_
  refine AWp_seq ?_
  refine AWp_region hP ?_
  refine RK.val guard_none (op_load_agg hT rfl rfl rfl rfl (cs := [_, _]) rfl rfl) ?_
  refine RK.val guard_none (Eff.call0 (c_sizeA _ hd)) ?_
  refine RK.val guard_none (op_move (rfl : _ = AV.t _)) ?_
  refine RK.val guard_none (op_extract rfl (v := .c _) rfl) ?_
  refine RK.val guard_none (op_extract rfl (v := .c _) rfl) ?_
  refine RK.val guard_none (op_assign (rfl : _ = AV.p (.c _))) ?_
  refine RK.val guard_none (op_assign (rfl : _ = AV.p (.c _))) ?_
  refine RK.done (by kernel_rfl) ?_
  refine AWp_seq ?_
  refine AWp_seq ?_
  refine AWp_region hP ?_
  refine RK.val guard_none (op_move (rfl : _ = AV.p (.c _))) ?_
  refine RK.val guard_none (op_neq rfl rfl) ?_
  refine RK.done (by kernel_rfl) ?_
  refine AWp_cond_true rfl (by simpa using hE) ?_
  refine AWp_seq ?_
  refine AWp_region hP ?_
  refine RK.val guard_none (op_build_st hT rfl rfl rfl (es := [_, _]) rfl) ?_
  refine RK.val guard_none (op_build_st hT rfl rfl rfl (es := [_, _]) rfl) ?_
  refine RK.val guard_none (op_move (rfl : _ = AV.p (.c _))) ?_
  refine RK.sto guard_none (op_store hT rfl rfl rfl rfl rfl rfl (cs := [_, _]) rfl) ?_
  refine RK.sto guard_none (op_store hT rfl rfl rfl rfl rfl rfl (cs := [_, _]) rfl) ?_
  refine RK.val guard_none (op_assign (rfl : _ = AV.p (.c _))) ?_
  refine RK.done (by kernel_rfl) ?_
  refine AWp_ret ?_
  refine ends_three rfl (.inr rfl) (res_cell_agg hT rfl rfl rfl rfl (cs := [_, _]) rfl rfl) (res_cell_agg hT rfl rfl rfl rfl (cs := [_, _]) rfl rfl) (res_tmp rfl) ?_ O_ends
  exact .refl _

/- algorist/count.Hurwitz -/
set_option maxHeartbeats 1000000 in
set_option maxRecDepth 100000 in
theorem c_HurwitzN (m : Int) (h : m < 0) :
    Call0 Tryz.prog 16 [I m] (.t [PI 0, PE 1]) := by
  refine callM_of (np := 0) Tryz.func16 (by kernel_rfl) rfl rfl (Nat.le_of_ble_eq_true rfl) (fun m h => absurd rfl h) (fun m h => absurd rfl h) rfl ?_
  refine AWp_seq ?_
  refine AWp_region hP ?_
  refine RK.alc guard_none (op_box rfl rfl) ?_
  refine RK.alc guard_none (op_alloc hT rfl rfl) ?_
  refine RK.val guard_none (op_assign (rfl : _ = AV.p (.c _))) ?_
  refine RK.done (by kernel_rfl) ?_
  refine AWp_seq ?_
  refine AWp_region hP ?_
  refine RK.val guard_none (op_load_agg hT rfl rfl rfl rfl (cs := [_, _]) rfl rfl) ?_
  refine RK.val guard_none (Eff.call0 (int_LowA _)) ?_
  refine RK.val guard_none (op_move (rfl : _ = AV.t _)) ?_
  refine RK.val guard_none (op_extract rfl (v := .c _) rfl) ?_
  refine RK.val guard_none (op_extract rfl (v := .c _) rfl) ?_
  refine RK.val guard_none (op_assign (rfl : _ = AV.p (.c _))) ?_
  refine RK.val guard_none (op_assign (rfl : _ = AV.p (.c _))) ?_
  refine RK.done (by kernel_rfl) ?_
  refine AWp_seq ?_
  refine AWp_block ?_
  refine AWp_seq ?_
  refine AWp_region hP ?_
  refine RK.val guard_none (op_load_agg hT rfl rfl rfl rfl (cs := [_, _]) rfl rfl) ?_
  refine RK.val guard_none (Eff.call0 (int_Sign _)) ?_
  refine RK.val guard_none (op_lss rfl rfl) ?_
  refine RK.val guard_none (op_assign (rfl : _ = AV.p (.c _))) ?_
  refine RK.done (by kernel_rfl) ?_
  refine AWp_cond_true rfl (decide_eq_true (sgn_lt_iff.2 h)) ?_
  refine AWp_seq ?_
  refine AWp_region hP ?_
  refine RK.val guard_none (op_build_st hT rfl rfl rfl (es := [_, _]) rfl) ?_
  refine RK.sto guard_none (op_store hT rfl rfl rfl rfl rfl rfl (cs := [_, _]) rfl) ?_
  refine RK.val guard_none (op_assign (rfl : _ = AV.p (.c _))) ?_
  refine RK.done (by kernel_rfl) ?_
  refine AWp_ret ?_
  refine ends_two rfl (.inr rfl) (res_cell_agg hT rfl rfl rfl rfl (cs := [_, _]) rfl rfl) (res_tmp rfl) ?_ O_ends
  exact .refl _

/- algorist/count.Hurwitz -/
set_option maxHeartbeats 1000000 in
set_option maxRecDepth 100000 in
theorem c_HurwitzB (m : Int) (h : 4194304 < m) :
    Call0 Tryz.prog 16 [I m] (.t [PI 0, PE 2]) := by
  refine callM_of (np := 0) Tryz.func16 (by kernel_rfl) rfl rfl (Nat.le_of_ble_eq_true rfl) (fun m h => absurd rfl h) (fun m h => absurd rfl h) rfl ?_
  refine AWp_seq ?_
  refine AWp_region hP ?_
  refine RK.alc guard_none (op_box rfl rfl) ?_
  refine RK.alc guard_none (op_alloc hT rfl rfl) ?_
  refine RK.val guard_none (op_assign (rfl : _ = AV.p (.c _))) ?_
  refine RK.done (by kernel_rfl) ?_
  refine AWp_seq ?_
  refine AWp_region hP ?_
  refine RK.val guard_none (op_load_agg hT rfl rfl rfl rfl (cs := [_, _]) rfl rfl) ?_
  refine RK.val guard_none (Eff.call0 (int_LowA _)) ?_
  refine RK.val guard_none (op_move (rfl : _ = AV.t _)) ?_
  refine RK.val guard_none (op_extract rfl (v := .c _) rfl) ?_
  refine RK.val guard_none (op_extract rfl (v := .c _) rfl) ?_
  refine RK.val guard_none (op_assign (rfl : _ = AV.p (.c _))) ?_
  refine RK.val guard_none (op_assign (rfl : _ = AV.p (.c _))) ?_
  refine RK.done (by kernel_rfl) ?_
  refine AWp_seq ?_
  refine AWp_block ?_
  refine AWp_seq ?_
  refine AWp_region hP ?_
  refine RK.val guard_none (op_load_agg hT rfl rfl rfl rfl (cs := [_, _]) rfl rfl) ?_
  refine RK.val guard_none (Eff.call0 (int_Sign _)) ?_
  refine RK.val guard_none (op_lss rfl rfl) ?_
  refine RK.val guard_none (op_assign (rfl : _ = AV.p (.c _))) ?_
  refine RK.done (by kernel_rfl) ?_
  refine AWp_cond_false rfl (decide_eq_false (fun g => absurd (sgn_lt_iff.1 g) (by omega))) ?_
  refine AWp_seq ?_
  refine AWp_region hP ?_
  refine RK.val guard_none (op_move (rfl : _ = AV.p (.c _))) ?_
  refine RK.val guard_none (op_unot rfl) ?_
  refine RK.val guard_none (op_move (rfl : _ = AV.p (.c _))) ?_
  refine RK.split (t := 21) rfl (fun hg1 => ?_) (fun hg1 => ?_)
  · have hg1_ := (notT hg1)
    refine RK.skip (guard_no rfl rfl hg1) ?_
    refine RK.skip (guard_no rfl rfl hg1) ?_
    refine RK.val guard_none (op_pick_t rfl hg1 (rfl : _ = AV.p (.c _))) ?_
    refine RK.val guard_none (op_assign (rfl : _ = AV.p (.c _))) ?_
    refine RK.done (by kernel_rfl) ?_
    refine AWp_cond_true rfl rfl ?_
    refine AWp_seq ?_
    refine AWp_region hP ?_
    refine RK.val guard_none (op_build_st hT rfl rfl rfl (es := [_, _]) rfl) ?_
    refine RK.sto guard_none (op_store hT rfl rfl rfl rfl rfl rfl (cs := [_, _]) rfl) ?_
    refine RK.val guard_none (op_assign (rfl : _ = AV.p (.c _))) ?_
    refine RK.done (by kernel_rfl) ?_
    refine AWp_ret ?_
    refine ends_two rfl (.inr rfl) (res_cell_agg hT rfl rfl rfl rfl (cs := [_, _]) rfl rfl) (res_tmp rfl) ?_ O_ends
    exact .refl _
  · have hg1_ := (notF hg1)
    have hly := lwO_yes (lwO_iff.1 (notF hg1))
    have hgt : decide (4194304 < lwV m) = true := decide_eq_true (by rw [hly.2]; exact h)
    refine RK.val (guard_yes rfl rfl hg1) (op_move (rfl : _ = AV.p (.c _))) ?_
    refine RK.val (guard_yes rfl rfl hg1) (op_gtr rfl rfl) ?_
    refine RK.val guard_none (op_pick_f rfl hg1 (rfl : _ = AV.p (.c _))) ?_
    refine RK.val guard_none (op_assign (rfl : _ = AV.p (.c _))) ?_
    refine RK.done (by kernel_rfl) ?_
    refine AWp_cond_true rfl hgt ?_
    refine AWp_seq ?_
    refine AWp_region hP ?_
    refine RK.val guard_none (op_build_st hT rfl rfl rfl (es := [_, _]) rfl) ?_
    refine RK.sto guard_none (op_store hT rfl rfl rfl rfl rfl rfl (cs := [_, _]) rfl) ?_
    refine RK.val guard_none (op_assign (rfl : _ = AV.p (.c _))) ?_
    refine RK.done (by kernel_rfl) ?_
    refine AWp_ret ?_
    refine ends_two rfl (.inr rfl) (res_cell_agg hT rfl rfl rfl rfl (cs := [_, _]) rfl rfl) (res_tmp rfl) ?_ O_ends
    exact .refl _

end Go.Proofs.YtkdfinfdocdpoaaGreatDoor
end

section
/- chapter 11: CountForms -/
namespace Go.Proofs.YtkdfinfdocdpoaaGreatDoor
open Go Go.AM

/- algorist/algoristref11.Primitive -/
set_option maxHeartbeats 1000000 in
set_option maxRecDepth 100000 in
theorem r11_Primitive (l : List Fm) (hl : (l.length : Int) ≤ 10000000) (hb : ∀ f ∈ l, (0 < f.a ∧ f.a ≤ 2000) ∧ (-2000 ≤ f.b ∧ f.b ≤ 2000) ∧ 0 < f.c ∧ f.c ≤ 10000000) :
    Call0 Tryz.prog 25 [.p (.c (FS l))] (.p (.c (FS (l.filter prG)))) := by
  refine callM_of (np := 0) Tryz.func25 (by kernel_rfl) rfl rfl (Nat.le_of_ble_eq_true rfl) (fun m h => absurd rfl h) (fun m h => absurd rfl h) rfl ?_
  refine AWp_seq ?_
  refine AWp_region hP ?_
  refine RK.val guard_none (op_assign (rfl : _ = AV.p (.c _))) ?_
  refine RK.done (by kernel_rfl) ?_
  refine AWp_seq ?_
  refine AWp_region hP ?_
  refine RK.alc guard_none (op_bslice_vec hT rfl rfl rfl (es := []) rfl rfl rfl) ?_
  refine RK.val guard_none (op_assign (rfl : _ = AV.vec _)) ?_
  refine RK.done (by kernel_rfl) ?_
  refine AWp_rn 5 1000 rfl rfl rfl ?_
  refine AWp_seq ?_
  refine AWp_seq ?_
  refine AWp_region hP ?_
  refine RK.val guard_none (op_assign (rfl : _ = AV.p (.c _))) ?_
  refine RK.done (by kernel_rfl) ?_
  refine AWp_block ?_
  refine AWp_loop (ι := Nat) (fun k => stL [(0, .p (.c (FS l))), (3, .vec 1000), (4, Z (k : Int))] [(1000, FB 49 (fK l k))]) (fun k => k ≤ l.length) (fun k => l.length - k) 0 (Nat.zero_le _) (le_stL ⟨.refl _, .refl _, .refl _, trivial⟩ ⟨rfl, trivial⟩) ?_
  intro k hk
  refine AWp_seq ?_
  refine AWp_seq ?_
  refine AWp_region hP ?_
  refine RK.val guard_none (op_move (rfl : _ = AV.p (.c _))) ?_
  refine RK.val guard_none (op_move (rfl : _ = AV.p (.c _))) ?_
  refine RK.val guard_none (op_len hT rfl rfl rfl (by rfl)) ?_
  refine RK.val guard_none (op_lss rfl rfl) ?_
  refine RK.done (by kernel_rfl) ?_
  refine AWp_cond rfl (fun hb1 => ?_) (fun hb1 => ?_)
  · have hb1_ := of_decide_eq_true hb1
    obtain ⟨⟨b1, b2⟩, ⟨b3, b4⟩, b5, b6⟩ := hb _ (getD_mem hb1_)
    have ia : LB (l.getD k ⟨0, 0, 0⟩).a 6 := ⟨by unfold L; omega⟩
    have ib : LB (l.getD k ⟨0, 0, 0⟩).b 6 := ⟨by unfold L; omega⟩
    have ic : LB (l.getD k ⟨0, 0, 0⟩).c 6 := ⟨by unfold L; omega⟩
    refine AWp_skip ?_
    refine AWp_seq ?_
    refine AWp_block ?_
    refine AWp_seq ?_
    refine AWp_region hP ?_
    refine RK.val guard_none (op_move (rfl : _ = AV.p (.c _))) ?_
    refine RK.val guard_none (op_move (rfl : _ = AV.p (.c _))) ?_
    refine RK.val guard_none (op_indexF hT rfl rfl rfl rfl rfl rfl (by omega)) ?_
    refine RK.val guard_none (op_load_ip_agg hT rfl rfl rfl (cs := FC (l.getD k ⟨0, 0, 0⟩)) rfl rfl) ?_
    refine RK.val guard_none (Eff.call0 (r8_Primitive _ _ _ lz lz lz)) ?_
    refine RK.done (by kernel_rfl) ?_
    refine AWp_cond rfl (fun hb2 => ?_) (fun hb2 => ?_)
    · refine AWp_region hP ?_
      refine RK.val guard_none (op_move (rfl : _ = AV.vec _)) ?_
      refine RK.val guard_none (op_move (rfl : _ = AV.p (.c _))) ?_
      refine RK.val guard_none (op_move (rfl : _ = AV.p (.c _))) ?_
      refine RK.val guard_none (op_indexF hT rfl rfl rfl rfl rfl rfl (by omega)) ?_
      refine RK.val guard_none (op_load_ip_agg hT rfl rfl rfl (cs := FC (l.getD k ⟨0, 0, 0⟩)) rfl rfl) ?_
      refine RK.val guard_none (op_bslice hT rfl rfl rfl (es := [_, _, _, _, _, _]) rfl rfl rfl) ?_
      refine RK.app guard_none (op_appendF hT rfl rfl rfl rfl rfl rfl rfl (f := l.getD k ⟨0, 0, 0⟩) rfl (by have := fK_len (l := l) (k := k); omega) (by decide)) ?_
      refine RK.val guard_none (op_assign (rfl : _ = AV.vec _)) ?_
      refine RK.done (by kernel_rfl) ?_
      refine AWp_rn 23 1000 rfl rfl rfl ?_
      refine AWp_region hP ?_
      refine RK.val guard_none (op_move (rfl : _ = AV.p (.c _))) ?_
      refine RK.val guard_none (op_add rfl rfl (by first | exact IntWalk.i64_in _ (by omega) | rfl)) ?_
      refine RK.val guard_none (op_assign (rfl : _ = AV.p (.c _))) ?_
      refine RK.done (by kernel_rfl) ?_
      refine ⟨k + 1, by omega, by omega, le_stL ⟨.refl _, .refl _, Sub.int (by omega), trivial⟩ ⟨Eq.trans rfl (congrArg (fun x => some (FB 49 x)) (fK_yes (by omega) hb2)), trivial⟩⟩
    · refine AWp_skip ?_
      refine AWp_region hP ?_
      refine RK.val guard_none (op_move (rfl : _ = AV.p (.c _))) ?_
      refine RK.val guard_none (op_add rfl rfl (by first | exact IntWalk.i64_in _ (by omega) | rfl)) ?_
      refine RK.val guard_none (op_assign (rfl : _ = AV.p (.c _))) ?_
      refine RK.done (by kernel_rfl) ?_
      refine ⟨k + 1, by omega, by omega, le_stL ⟨.refl _, .refl _, Sub.int (by omega), trivial⟩ ⟨Eq.trans rfl (congrArg (fun x => some (FB 49 x)) (fK_no (by omega) hb2)), trivial⟩⟩
  · have hb1_ := of_decide_eq_false hb1
    refine AWp_exit ?_
    refine AWp_seq ?_
    refine AWp_region hP ?_
    refine RK.val guard_none (op_move (rfl : _ = AV.vec _)) ?_
    refine RK.val guard_none (op_assign (rfl : _ = AV.vec _)) ?_
    refine RK.done (by kernel_rfl) ?_
    refine AWp_freezeF (t := 2) rfl rfl ?_
    refine AWp_ret ?_
    refine ends_one rfl (.inr rfl) (res_tmp rfl) ?_ O_ends
    exact Sub.of_eq (by rw [fK_end (by omega)])

end Go.Proofs.YtkdfinfdocdpoaaGreatDoor
end

section
/- chapter 11: the reference (under way) -/
namespace Go.Proofs.YtkdfinfdocdpoaaGreatDoor
open Go Go.AM

/- algorist/algoristref11.Forms -/
set_option maxHeartbeats 4000000 in
set_option maxRecDepth 100000 in
theorem r11_Forms (N : Int) (h3 : 1 ≤ N) (h4 : N ≤ 5000) :
    Call0 Tryz.prog 42 [Z N] (.p (.c (FS (fmL N)))) := by
  refine callM_of (np := 0) Tryz.func42 (by kernel_rfl) rfl rfl (Nat.le_of_ble_eq_true rfl) (fun m h => absurd rfl h) (fun m h => absurd rfl h) rfl ?_
  refine AWp_seq ?_
  refine AWp_region hP ?_
  refine RK.val guard_none (op_assign (rfl : _ = AV.p (.c _))) ?_
  refine RK.done (by kernel_rfl) ?_
  refine AWp_seq ?_
  refine AWp_region hP ?_
  refine RK.alc guard_none (op_bslice_vec hT rfl rfl rfl (es := []) rfl rfl rfl) ?_
  refine RK.val guard_none (op_assign (rfl : _ = AV.vec _)) ?_
  refine RK.done (by kernel_rfl) ?_
  refine AWp_rn 7 1000 rfl rfl rfl ?_
  refine AWp_seq ?_
  refine AWp_seq ?_
  refine AWp_region hP ?_
  refine RK.val guard_none (op_assign (rfl : _ = AV.p (.c _))) ?_
  refine RK.done (by kernel_rfl) ?_
  refine AWp_block ?_
  refine AWp_loop (ι := List Fm × Int) (fun p => stL [(0, Z N), (3, .vec 1000), (4, Z p.2)] [(1000, FB 49 p.1)]) (fun p => p.1 ++ alF N (2001 - p.2).toNat p.2 = fmL N ∧ 1 ≤ p.2 ∧ p.2 ≤ 41 ∧ (p.1.length : Int) ≤ 100 * p.2) (fun p => (100 - p.2).toNat) ([], 1) ⟨fo_start N, by decide, by decide, by decide⟩ (le_stL ⟨.refl _, .refl _, .refl _, trivial⟩ ⟨rfl, trivial⟩) ?_
  rintro p ⟨hI, ha1, ha2, hlen⟩
  have hsq := sq_b (x := p.2) (m := 41) (by omega)
  have h3a : 3 * p.2 * p.2 = 3 * (p.2 * p.2) := Int.mul_assoc ..
  refine AWp_seq ?_
  refine AWp_seq ?_
  refine AWp_region hP ?_
  refine RK.val guard_none (op_move (rfl : _ = AV.p (.c _))) ?_
  refine RK.val guard_none (op_mul rfl rfl (by first | exact IntWalk.i64_in _ (by omega) | rfl)) ?_
  refine RK.val guard_none (op_move (rfl : _ = AV.p (.c _))) ?_
  refine RK.val guard_none (op_mul rfl rfl (by first | exact IntWalk.i64_in _ (by omega) | rfl)) ?_
  refine RK.val guard_none (op_move (rfl : _ = AV.p (.c _))) ?_
  refine RK.val guard_none (op_leq rfl rfl) ?_
  refine RK.done (by kernel_rfl) ?_
  refine AWp_cond rfl (fun hb1 => ?_) (fun hb1 => ?_)
  · have hb1_ := of_decide_eq_true hb1
    have ha3 := fo_a ha1 hb1_ h4
    refine AWp_skip ?_
    refine AWp_seq ?_
    refine AWp_block ?_
    refine AWp_seq ?_
    refine AWp_region hP ?_
    refine RK.val guard_none (op_move (rfl : _ = AV.p (.c _))) ?_
    refine RK.val guard_none (op_sub rfl rfl (by first | exact IntWalk.i64_in _ (by omega) | rfl)) ?_
    refine RK.val guard_none (op_assign (rfl : _ = AV.p (.c _))) ?_
    refine RK.done (by kernel_rfl) ?_
    refine AWp_block ?_
    refine AWp_loop (ι := List Fm × Int) (fun q => stL [(0, Z N), (3, .vec 1000), (4, Z p.2), (5, Z q.2)] [(1000, FB 49 q.1)]) (fun q => q.1 ++ (rwF N p.2 (p.2 + 1 - q.2).toNat q.2 ++ alF N (2000 - p.2).toNat (p.2 + 1)) = fmL N ∧ 1 - p.2 ≤ q.2 ∧ q.2 ≤ p.2 + 1 ∧ (q.1.length : Int) ≤ 100 * p.2 + (q.2 + p.2)) (fun q => (p.2 + 1 - q.2).toNat) (p.1, 1 - p.2) ⟨fo_in hI ⟨ha1, by omega⟩ hb1_, by simp, by simp only; omega, by simp only; omega⟩ (le_stL ⟨.refl _, .refl _, .refl _, .refl _, trivial⟩ ⟨rfl, trivial⟩) ?_
    rintro q ⟨hJ, hq1, hq2, hql⟩
    refine AWp_seq ?_
    refine AWp_seq ?_
    refine AWp_region hP ?_
    refine RK.val guard_none (op_move (rfl : _ = AV.p (.c _))) ?_
    refine RK.val guard_none (op_move (rfl : _ = AV.p (.c _))) ?_
    refine RK.val guard_none (op_leq rfl rfl) ?_
    refine RK.done (by kernel_rfl) ?_
    refine AWp_cond rfl (fun hb2 => ?_) (fun hb2 => ?_)
    · have hb2_ := of_decide_eq_true hb2
      have qs := sq_b (x := q.2) (m := 41) (by omega)
      have qc : 0 ≤ (q.2 * q.2 + N) / (4 * p.2) ∧ (q.2 * q.2 + N) / (4 * p.2) ≤ 6700 := ⟨Int.ediv_nonneg (by omega) (by omega), Int.le_trans (Int.ediv_le_self _ (by omega)) (by omega)⟩
      have ja : InI64 p.2 := by unfold InI64; omega
      have jb : InI64 q.2 := by unfold InI64; omega
      have jc : InI64 ((q.2 * q.2 + N) / (4 * p.2)) := by unfold InI64; omega
      refine AWp_skip ?_
      refine AWp_seq ?_
      refine AWp_block ?_
      refine AWp_seq ?_
      refine AWp_region hP ?_
      refine RK.val guard_none (op_move (rfl : _ = AV.p (.c _))) ?_
      refine RK.val guard_none (op_move (rfl : _ = AV.p (.c _))) ?_
      refine RK.val guard_none (op_mul rfl rfl (by first | exact IntWalk.i64_in _ (by omega) | rfl)) ?_
      refine RK.val guard_none (op_move (rfl : _ = AV.p (.c _))) ?_
      refine RK.val guard_none (op_add rfl rfl (by first | exact IntWalk.i64_in _ (by omega) | rfl)) ?_
      refine RK.val guard_none (op_move (rfl : _ = AV.p (.c _))) ?_
      refine RK.val guard_none (op_mul rfl rfl (by first | exact IntWalk.i64_in _ (by omega) | rfl)) ?_
      refine RK.val guard_none (op_quo rfl rfl (by omega) (c := ((q.2 * q.2 + N) / (4 * p.2))) (by rw [Int.tdiv_eq_ediv_of_nonneg (by omega), IntWalk.i64_in _ (by omega)])) ?_
      refine RK.val guard_none (op_assign (rfl : _ = AV.p (.c _))) ?_
      refine RK.done (by kernel_rfl) ?_
      refine AWp_seq ?_
      refine AWp_region hP ?_
      refine RK.val guard_none (op_move (rfl : _ = AV.p (.c _))) ?_
      refine RK.val guard_none (op_move (rfl : _ = AV.p (.c _))) ?_
      refine RK.val guard_none (op_mul rfl rfl (by first | exact IntWalk.i64_in _ (by omega) | rfl)) ?_
      refine RK.val guard_none (op_move (rfl : _ = AV.p (.c _))) ?_
      refine RK.val guard_none (op_add rfl rfl (by first | exact IntWalk.i64_in _ (by omega) | rfl)) ?_
      refine RK.val guard_none (op_move (rfl : _ = AV.p (.c _))) ?_
      refine RK.val guard_none (op_mul rfl rfl (by first | exact IntWalk.i64_in _ (by omega) | rfl)) ?_
      refine RK.val guard_none (op_rem rfl rfl (by omega) (c := (q.2 * q.2 + N) % (4 * p.2)) (Int.tmod_eq_emod_of_nonneg (by omega))) ?_
      refine RK.val guard_none (op_eql rfl rfl) ?_
      refine RK.val guard_none (op_move (rfl : _ = AV.p (.c _))) ?_
      refine RK.split (t := 40) rfl (fun hg3 => ?_) (fun hg3 => ?_)
      · have hg3_ := bT hg3
        refine RK.val (guard_yes rfl rfl hg3) (op_move (rfl : _ = AV.p (.c _))) ?_
        refine RK.val (guard_yes rfl rfl hg3) (op_move (rfl : _ = AV.p (.c _))) ?_
        refine RK.val (guard_yes rfl rfl hg3) (op_geq rfl rfl) ?_
        refine RK.val guard_none (op_pick_t rfl hg3 (rfl : _ = AV.p (.c _))) ?_
        refine RK.val guard_none (op_move (rfl : _ = AV.p (.c _))) ?_
        refine RK.split (t := 45) rfl (fun hg4 => ?_) (fun hg4 => ?_)
        · have hg4_ := of_decide_eq_true hg4
          refine RK.val (guard_yes rfl rfl hg4) (op_move (rfl : _ = AV.p (.c _))) ?_
          refine RK.val (guard_yes rfl rfl hg4) (op_geq rfl rfl) ?_
          refine RK.val (guard_yes rfl rfl hg4) (op_move (rfl : _ = AV.p (.c _))) ?_
          refine RK.split (t := 48) rfl (fun hg5 => ?_) (fun hg5 => ?_)
          · have hg5_ := of_decide_eq_true hg5
            refine RK.skip (guard_no rfl rfl hg5) ?_
            refine RK.skip (guard_no rfl rfl hg5) ?_
            refine RK.skip (guard_no rfl rfl hg5) ?_
            refine RK.val (guard_yes rfl rfl hg4) (op_pick_t rfl hg5 (rfl : _ = AV.p (.c _))) ?_
            refine RK.val guard_none (op_pick_t rfl hg4 (rfl : _ = AV.p (.c _))) ?_
            refine RK.done (by kernel_rfl) ?_
            refine AWp_cond_true rfl rfl ?_
            refine AWp_region hP ?_
            refine RK.val guard_none (op_move (rfl : _ = AV.vec _)) ?_
            refine RK.val guard_none (op_move (rfl : _ = AV.p (.c _))) ?_
            refine RK.val guard_none (op_move (rfl : _ = AV.p (.c _))) ?_
            refine RK.val guard_none (op_move (rfl : _ = AV.p (.c _))) ?_
            refine RK.val guard_none (Eff.call0 (r8_Of _ _ _ ja jb jc)) ?_
            refine RK.val guard_none (op_bslice hT rfl rfl rfl (es := [_, _, _, _, _, _]) rfl rfl rfl) ?_
            refine RK.app guard_none (op_appendF hT rfl rfl rfl rfl rfl rfl rfl (f := ⟨p.2, q.2, ((q.2 * q.2 + N) / (4 * p.2))⟩) rfl (by omega) (by decide)) ?_
            refine RK.val guard_none (op_assign (rfl : _ = AV.vec _)) ?_
            refine RK.done (by kernel_rfl) ?_
            refine AWp_rn 60 1000 rfl rfl rfl ?_
            refine AWp_region hP ?_
            refine RK.val guard_none (op_move (rfl : _ = AV.p (.c _))) ?_
            refine RK.val guard_none (op_add rfl rfl (by first | exact IntWalk.i64_in _ (by omega) | rfl)) ?_
            refine RK.val guard_none (op_assign (rfl : _ = AV.p (.c _))) ?_
            refine RK.done (by kernel_rfl) ?_
            refine ⟨(q.1 ++ [⟨p.2, q.2, ((q.2 * q.2 + N) / (4 * p.2))⟩], q.2 + 1), ⟨fo_yes hJ hb2_ (ok_3 hg3_ hg4_ (.inl hg5_)), by simp only; omega, by simp only; omega, by simp only [List.length_append, List.length_singleton]; omega⟩, by simp only; omega, le_stL ⟨.refl _, .refl _, .refl _, .refl _, trivial⟩ ⟨rfl, trivial⟩⟩
          · have hg5_ := of_decide_eq_false hg5
            refine RK.val (guard_yes rfl rfl hg5) (op_move (rfl : _ = AV.p (.c _))) ?_
            refine RK.val (guard_yes rfl rfl hg5) (op_move (rfl : _ = AV.p (.c _))) ?_
            refine RK.val (guard_yes rfl rfl hg5) (op_lss rfl rfl) ?_
            refine RK.val (guard_yes rfl rfl hg4) (op_pick_f rfl hg5 (rfl : _ = AV.p (.c _))) ?_
            refine RK.val guard_none (op_pick_t rfl hg4 (rfl : _ = AV.p (.c _))) ?_
            refine RK.done (by kernel_rfl) ?_
            refine AWp_cond rfl (fun hb6 => ?_) (fun hb6 => ?_)
            · have hb6_ := of_decide_eq_true hb6
              refine AWp_region hP ?_
              refine RK.val guard_none (op_move (rfl : _ = AV.vec _)) ?_
              refine RK.val guard_none (op_move (rfl : _ = AV.p (.c _))) ?_
              refine RK.val guard_none (op_move (rfl : _ = AV.p (.c _))) ?_
              refine RK.val guard_none (op_move (rfl : _ = AV.p (.c _))) ?_
              refine RK.val guard_none (Eff.call0 (r8_Of _ _ _ ja jb jc)) ?_
              refine RK.val guard_none (op_bslice hT rfl rfl rfl (es := [_, _, _, _, _, _]) rfl rfl rfl) ?_
              refine RK.app guard_none (op_appendF hT rfl rfl rfl rfl rfl rfl rfl (f := ⟨p.2, q.2, ((q.2 * q.2 + N) / (4 * p.2))⟩) rfl (by omega) (by decide)) ?_
              refine RK.val guard_none (op_assign (rfl : _ = AV.vec _)) ?_
              refine RK.done (by kernel_rfl) ?_
              refine AWp_rn 60 1000 rfl rfl rfl ?_
              refine AWp_region hP ?_
              refine RK.val guard_none (op_move (rfl : _ = AV.p (.c _))) ?_
              refine RK.val guard_none (op_add rfl rfl (by first | exact IntWalk.i64_in _ (by omega) | rfl)) ?_
              refine RK.val guard_none (op_assign (rfl : _ = AV.p (.c _))) ?_
              refine RK.done (by kernel_rfl) ?_
              refine ⟨(q.1 ++ [⟨p.2, q.2, ((q.2 * q.2 + N) / (4 * p.2))⟩], q.2 + 1), ⟨fo_yes hJ hb2_ (ok_3 hg3_ hg4_ (.inr hb6_)), by simp only; omega, by simp only; omega, by simp only [List.length_append, List.length_singleton]; omega⟩, by simp only; omega, le_stL ⟨.refl _, .refl _, .refl _, .refl _, trivial⟩ ⟨rfl, trivial⟩⟩
            · have hb6_ := of_decide_eq_false hb6
              refine AWp_skip ?_
              refine AWp_region hP ?_
              refine RK.val guard_none (op_move (rfl : _ = AV.p (.c _))) ?_
              refine RK.val guard_none (op_add rfl rfl (by first | exact IntWalk.i64_in _ (by omega) | rfl)) ?_
              refine RK.val guard_none (op_assign (rfl : _ = AV.p (.c _))) ?_
              refine RK.done (by kernel_rfl) ?_
              refine ⟨(q.1, q.2 + 1), ⟨fo_no hJ hb2_ (ok_4 hg4_ hg5_ hb6_), by simp only; omega, by simp only; omega, by simp only; omega⟩, by simp only; omega, le_stL ⟨.refl _, .refl _, .refl _, .refl _, trivial⟩ ⟨rfl, trivial⟩⟩
        · have hg4_ := of_decide_eq_false hg4
          refine RK.skip (guard_no rfl rfl hg4) ?_
          refine RK.skip (guard_no rfl rfl hg4) ?_
          refine RK.skip (guard_no rfl rfl hg4) ?_
          refine RK.skip (guard_sk rfl rfl) ?_
          refine RK.skip (guard_sk rfl rfl) ?_
          refine RK.skip (guard_sk rfl rfl) ?_
          refine RK.skip (guard_no rfl rfl hg4) ?_
          refine RK.val guard_none (op_pick_f rfl hg4 (rfl : _ = AV.p (.c _))) ?_
          refine RK.done (by kernel_rfl) ?_
          refine AWp_cond_false rfl rfl ?_
          refine AWp_skip ?_
          refine AWp_region hP ?_
          refine RK.val guard_none (op_move (rfl : _ = AV.p (.c _))) ?_
          refine RK.val guard_none (op_add rfl rfl (by first | exact IntWalk.i64_in _ (by omega) | rfl)) ?_
          refine RK.val guard_none (op_assign (rfl : _ = AV.p (.c _))) ?_
          refine RK.done (by kernel_rfl) ?_
          refine ⟨(q.1, q.2 + 1), ⟨fo_no hJ hb2_ (ok_2 hg4_), by simp only; omega, by simp only; omega, by simp only; omega⟩, by simp only; omega, le_stL ⟨.refl _, .refl _, .refl _, .refl _, trivial⟩ ⟨rfl, trivial⟩⟩
      · have hg3_ := bF hg3
        refine RK.skip (guard_no rfl rfl hg3) ?_
        refine RK.skip (guard_no rfl rfl hg3) ?_
        refine RK.skip (guard_no rfl rfl hg3) ?_
        refine RK.val guard_none (op_pick_f rfl hg3 (rfl : _ = AV.p (.c _))) ?_
        refine RK.val guard_none (op_move (rfl : _ = AV.p (.c _))) ?_
        refine RK.skip (guard_no rfl rfl rfl) ?_
        refine RK.skip (guard_no rfl rfl rfl) ?_
        refine RK.skip (guard_no rfl rfl rfl) ?_
        refine RK.skip (guard_sk rfl rfl) ?_
        refine RK.skip (guard_sk rfl rfl) ?_
        refine RK.skip (guard_sk rfl rfl) ?_
        refine RK.skip (guard_no rfl rfl rfl) ?_
        refine RK.val guard_none (op_pick_f rfl rfl (rfl : _ = AV.p (.c _))) ?_
        refine RK.done (by kernel_rfl) ?_
        refine AWp_cond_false rfl rfl ?_
        refine AWp_skip ?_
        refine AWp_region hP ?_
        refine RK.val guard_none (op_move (rfl : _ = AV.p (.c _))) ?_
        refine RK.val guard_none (op_add rfl rfl (by first | exact IntWalk.i64_in _ (by omega) | rfl)) ?_
        refine RK.val guard_none (op_assign (rfl : _ = AV.p (.c _))) ?_
        refine RK.done (by kernel_rfl) ?_
        refine ⟨(q.1, q.2 + 1), ⟨fo_no hJ hb2_ (ok_1 hg3_), by simp only; omega, by simp only; omega, by simp only; omega⟩, by simp only; omega, le_stL ⟨.refl _, .refl _, .refl _, .refl _, trivial⟩ ⟨rfl, trivial⟩⟩
    · have hb2_ := of_decide_eq_false hb2
      refine AWp_exit ?_
      refine AWp_region hP ?_
      refine RK.val guard_none (op_move (rfl : _ = AV.p (.c _))) ?_
      refine RK.val guard_none (op_add rfl rfl (by first | exact IntWalk.i64_in _ (by omega) | rfl)) ?_
      refine RK.val guard_none (op_assign (rfl : _ = AV.p (.c _))) ?_
      refine RK.done (by kernel_rfl) ?_
      refine ⟨(q.1, p.2 + 1), ⟨fo_out hJ hb2_, by omega, by omega, by simp only; omega⟩, by simp only; omega, le_stL ⟨.refl _, .refl _, .refl _, trivial⟩ ⟨rfl, trivial⟩⟩
  · have hb1_ := of_decide_eq_false hb1
    refine AWp_exit ?_
    refine AWp_seq ?_
    refine AWp_region hP ?_
    refine RK.val guard_none (op_move (rfl : _ = AV.vec _)) ?_
    refine RK.val guard_none (op_assign (rfl : _ = AV.vec _)) ?_
    refine RK.done (by kernel_rfl) ?_
    refine AWp_freezeF (t := 2) rfl rfl ?_
    refine AWp_ret ?_
    refine ends_one rfl (.inr rfl) (res_tmp rfl) ?_ O_ends
    exact Sub.of_eq (by rw [fo_end hI (by omega) hb1_])

/- algorist/algoristref11.size -/
set_option maxHeartbeats 1000000 in
set_option maxRecDepth 100000 in
theorem r11_size (d : Int) (hd : L 30 d) :
    Call0 Tryz.prog 41 [I d] (.t [PE (szN d), PE (szE d)]) := by
  have id0 : LB d 30 := ⟨hd⟩
  have hm0 := Int.emod_nonneg d (show (4 : Int) ≠ 0 by omega)
  have hm1 := Int.emod_lt_of_pos d (show (0 : Int) < 4 by omega)
  have cl := r_Low (d % 4) lz
  have hly := lwO_yes (a := d % 4) (by omega)
  rw [hly.1, hly.2] at cl
  refine callM_of (np := 0) Tryz.func41 (by kernel_rfl) rfl rfl (Nat.le_of_ble_eq_true rfl) (fun m h => absurd rfl h) (fun m h => absurd rfl h) rfl ?_
  refine AWp_seq ?_
  refine AWp_region hP ?_
  refine RK.alc guard_none (op_box rfl rfl) ?_
  refine RK.val guard_none (op_assign (rfl : _ = AV.p (.c _))) ?_
  refine RK.val guard_none (op_assign (rfl : _ = AV.p (.c _))) ?_
  refine RK.done (by kernel_rfl) ?_
  refine AWp_seq ?_
  refine AWp_region hP ?_
  refine RK.val guard_none (op_load_agg hT rfl rfl rfl rfl (cs := [_, _]) rfl rfl) ?_
  refine RK.val guard_none (Eff.call0 (r_Of _ (by first | assumption | decide))) ?_
  refine RK.val guard_none (Eff.call0 (r_Mod _ _ lz lz (by decide))) ?_
  refine RK.val guard_none (Eff.call0 cl) ?_
  refine RK.val guard_none (op_move (rfl : _ = AV.t _)) ?_
  refine RK.val guard_none (op_extract rfl (v := .c _) rfl) ?_
  refine RK.val guard_none (op_extract rfl (v := .c _) rfl) ?_
  refine RK.val guard_none (op_assign (rfl : _ = AV.p (.c _))) ?_
  refine RK.val guard_none (op_assign (rfl : _ = AV.p (.c _))) ?_
  refine RK.done (by kernel_rfl) ?_
  refine AWp_seq ?_
  refine AWp_seq ?_
  refine AWp_region hP ?_
  refine RK.val guard_none (op_load_agg hT rfl rfl rfl rfl (cs := [_, _]) rfl rfl) ?_
  refine RK.val guard_none (Eff.call0 (r_Sign _)) ?_
  refine RK.val guard_none (op_geq rfl rfl) ?_
  refine RK.val guard_none (op_move (rfl : _ = AV.p (.c _))) ?_
  refine RK.split (t := 18) rfl (fun hg1 => ?_) (fun hg1 => ?_)
  · have hg1_ := of_decide_eq_true hg1
    refine RK.skip (guard_no rfl rfl hg1) ?_
    refine RK.skip (guard_no rfl rfl hg1) ?_
    refine RK.val guard_none (op_pick_t rfl hg1 (rfl : _ = AV.p (.c _))) ?_
    refine RK.val guard_none (op_move (rfl : _ = AV.p (.c _))) ?_
    refine RK.skip (guard_no rfl rfl rfl) ?_
    refine RK.skip (guard_no rfl rfl rfl) ?_
    refine RK.val guard_none (op_pick_t rfl rfl (rfl : _ = AV.p (.c _))) ?_
    refine RK.done (by kernel_rfl) ?_
    refine AWp_cond_true rfl rfl ?_
    refine AWp_seq ?_
    refine AWp_region hP ?_
    refine RK.val guard_none (op_assign (rfl : _ = AV.p (.c _))) ?_
    refine RK.val guard_none (op_assign (rfl : _ = AV.p (.c _))) ?_
    refine RK.done (by kernel_rfl) ?_
    refine AWp_ret ?_
    refine ends_two rfl (.inr rfl) (res_tmp rfl) (res_tmp rfl) ?_ O_ends
    exact Sub.of_eq (sz_5 (.inl (sgn_ge_iff.1 hg1_)))
  · have hg1_ := of_decide_eq_false hg1
    have hg0 : ¬ 0 ≤ d := fun h => hg1_ (sgn_ge_iff.2 h)
    refine RK.val (guard_yes rfl rfl hg1) (op_move (rfl : _ = AV.p (.c _))) ?_
    refine RK.val (guard_yes rfl rfl hg1) (op_unot rfl) ?_
    refine RK.val guard_none (op_pick_f rfl hg1 (rfl : _ = AV.p (.c _))) ?_
    refine RK.val guard_none (op_move (rfl : _ = AV.p (.c _))) ?_
    refine RK.val (guard_yes rfl rfl rfl) (op_move (rfl : _ = AV.p (.c _))) ?_
    refine RK.val (guard_yes rfl rfl rfl) (op_gtr rfl rfl) ?_
    refine RK.val guard_none (op_pick_f rfl rfl (rfl : _ = AV.p (.c _))) ?_
    refine RK.done (by kernel_rfl) ?_
    refine AWp_cond rfl (fun hb3 => ?_) (fun hb3 => ?_)
    · have hb3_ := of_decide_eq_true hb3
      refine AWp_seq ?_
      refine AWp_region hP ?_
      refine RK.val guard_none (op_assign (rfl : _ = AV.p (.c _))) ?_
      refine RK.val guard_none (op_assign (rfl : _ = AV.p (.c _))) ?_
      refine RK.done (by kernel_rfl) ?_
      refine AWp_ret ?_
      refine ends_two rfl (.inr rfl) (res_tmp rfl) (res_tmp rfl) ?_ O_ends
      exact Sub.of_eq (sz_5 (.inr hb3_))
    · have hb3_ := of_decide_eq_false hb3
      refine AWp_skip ?_
      refine AWp_seq ?_
      refine AWp_region hP ?_
      refine RK.val guard_none (op_load_agg hT rfl rfl rfl rfl (cs := [_, _]) rfl rfl) ?_
      refine RK.val guard_none (Eff.call0 (r_Neg _)) ?_
      refine RK.val guard_none (Eff.call0 (r_Low _ lz)) ?_
      refine RK.val guard_none (op_move (rfl : _ = AV.t _)) ?_
      refine RK.val guard_none (op_extract rfl (v := .c _) rfl) ?_
      refine RK.val guard_none (op_extract rfl (v := .c _) rfl) ?_
      refine RK.val guard_none (op_assign (rfl : _ = AV.p (.c _))) ?_
      refine RK.val guard_none (op_assign (rfl : _ = AV.p (.c _))) ?_
      refine RK.done (by kernel_rfl) ?_
      refine AWp_seq ?_
      refine AWp_seq ?_
      refine AWp_region hP ?_
      refine RK.val guard_none (op_move (rfl : _ = AV.p (.c _))) ?_
      refine RK.val guard_none (op_unot rfl) ?_
      refine RK.val guard_none (op_move (rfl : _ = AV.p (.c _))) ?_
      refine RK.split (t := 34) rfl (fun hg4 => ?_) (fun hg4 => ?_)
      · have hg4_ := (notT hg4)
        have hlo := lwO_f (notT hg4)
        refine RK.skip (guard_no rfl rfl hg4) ?_
        refine RK.skip (guard_no rfl rfl hg4) ?_
        refine RK.skip (guard_no rfl rfl hg4) ?_
        refine RK.val guard_none (op_pick_t rfl hg4 (rfl : _ = AV.p (.c _))) ?_
        refine RK.done (by kernel_rfl) ?_
        refine AWp_cond_true rfl rfl ?_
        refine AWp_seq ?_
        refine AWp_region hP ?_
        refine RK.val guard_none (op_assign (rfl : _ = AV.p (.c _))) ?_
        refine RK.val guard_none (op_assign (rfl : _ = AV.p (.c _))) ?_
        refine RK.done (by kernel_rfl) ?_
        refine AWp_ret ?_
        refine ends_two rfl (.inr rfl) (res_tmp rfl) (res_tmp rfl) ?_ O_ends
        exact Sub.of_eq (sz_2 (fun x => x.elim hg0 hb3_) (by omega))
      · have hg4_ := (notF hg4)
        have hlz := lwO_yes (lwO_iff.1 (notF hg4))
        refine RK.val (guard_yes rfl rfl hg4) (op_move (rfl : _ = AV.p (.c _))) ?_
        refine RK.val (guard_yes rfl rfl hg4) (Eff.call0 r11_Edge) ?_
        refine RK.val (guard_yes rfl rfl hg4) (op_gtr rfl rfl) ?_
        refine RK.val guard_none (op_pick_f rfl hg4 (rfl : _ = AV.p (.c _))) ?_
        refine RK.done (by kernel_rfl) ?_
        refine AWp_cond rfl (fun hb5 => ?_) (fun hb5 => ?_)
        · have hb5_ := of_decide_eq_true hb5
          refine AWp_seq ?_
          refine AWp_region hP ?_
          refine RK.val guard_none (op_assign (rfl : _ = AV.p (.c _))) ?_
          refine RK.val guard_none (op_assign (rfl : _ = AV.p (.c _))) ?_
          refine RK.done (by kernel_rfl) ?_
          refine AWp_ret ?_
          refine ends_two rfl (.inr rfl) (res_tmp rfl) (res_tmp rfl) ?_ O_ends
          exact Sub.of_eq (sz_2 (fun x => x.elim hg0 hb3_) (by have := hlz.2; omega))
        · have hb5_ := of_decide_eq_false hb5
          refine AWp_skip ?_
          refine AWp_seq ?_
          refine AWp_region hP ?_
          refine RK.val guard_none (op_move (rfl : _ = AV.p (.c _))) ?_
          refine RK.val guard_none (op_assign (rfl : _ = AV.p (.c _))) ?_
          refine RK.val guard_none (op_assign (rfl : _ = AV.p (.c _))) ?_
          refine RK.done (by kernel_rfl) ?_
          refine AWp_ret ?_
          refine ends_two rfl (.inr rfl) (res_tmp rfl) (res_tmp rfl) ?_ O_ends
          exact Sub.of_eq (by rw [hlz.2]; exact sz_0 (fun x => x.elim hg0 hb3_) (by have := hlz.2; omega))

/- algorist/algoristref11.Split -/
set_option maxHeartbeats 1000000 in
set_option maxRecDepth 100000 in
theorem r11_Split (N : Int) (h3 : 1 ≤ N) (h4 : N ≤ 5000) (hN : isD N = true) :
    Call0 Tryz.prog 52 [Z N] (.t [PE (N / (cdF N * cdF N)), PE (cdF N)]) := by
  refine callM_of (np := 0) Tryz.func52 (by kernel_rfl) rfl rfl (Nat.le_of_ble_eq_true rfl) (fun m h => absurd rfl h) (fun m h => absurd rfl h) rfl ?_
  refine AWp_seq ?_
  refine AWp_region hP ?_
  refine RK.val guard_none (op_assign (rfl : _ = AV.p (.c _))) ?_
  refine RK.val guard_none (op_assign (rfl : _ = AV.p (.c _))) ?_
  refine RK.done (by kernel_rfl) ?_
  refine AWp_seq ?_
  refine AWp_region hP ?_
  refine RK.val guard_none (op_assign (rfl : _ = AV.p (.c _))) ?_
  refine RK.done (by kernel_rfl) ?_
  refine AWp_seq ?_
  refine AWp_seq ?_
  refine AWp_region hP ?_
  refine RK.val guard_none (op_assign (rfl : _ = AV.p (.c _))) ?_
  refine RK.done (by kernel_rfl) ?_
  refine AWp_block ?_
  refine AWp_loop (ι := Int × Int) (fun p => stL [(0, Z N), (4, Z p.1), (5, Z p.2)] []) (fun p => SpI N p.1 p.2 ∧ p.2 ≤ 72) (fun p => (72 - p.2).toNat) (1, 1) ⟨SpI.start N, by decide⟩ (le_stL ⟨.refl _, .refl _, .refl _, trivial⟩ trivial) ?_
  rintro p ⟨i, hf2⟩
  have hf1 := i.f1
  have qs := sq_b (x := p.2) (m := 72) (by omega)
  have qp := mm_pos hf1
  refine AWp_seq ?_
  refine AWp_seq ?_
  refine AWp_region hP ?_
  refine RK.val guard_none (op_move (rfl : _ = AV.p (.c _))) ?_
  refine RK.val guard_none (op_move (rfl : _ = AV.p (.c _))) ?_
  refine RK.val guard_none (op_mul rfl rfl (by first | exact IntWalk.i64_in _ (by omega) | rfl)) ?_
  refine RK.val guard_none (op_move (rfl : _ = AV.p (.c _))) ?_
  refine RK.val guard_none (op_leq rfl rfl) ?_
  refine RK.done (by kernel_rfl) ?_
  refine AWp_cond rfl (fun hb1 => ?_) (fun hb1 => ?_)
  · have hb1_ := of_decide_eq_true hb1
    have hf7 := f_le71 hf1 hb1_ h4
    have qq := quo_b (n := N) (x := p.2 * p.2) (by omega) (by omega)
    refine AWp_skip ?_
    refine AWp_seq ?_
    refine AWp_block ?_
    refine AWp_seq ?_
    refine AWp_region hP ?_
    refine RK.val guard_none (op_move (rfl : _ = AV.p (.c _))) ?_
    refine RK.val guard_none (op_move (rfl : _ = AV.p (.c _))) ?_
    refine RK.val guard_none (op_move (rfl : _ = AV.p (.c _))) ?_
    refine RK.val guard_none (op_mul rfl rfl (by first | exact IntWalk.i64_in _ (by omega) | rfl)) ?_
    refine RK.val guard_none (op_rem rfl rfl (by omega) (c := N % (p.2 * p.2)) (Int.tmod_eq_emod_of_nonneg (by omega))) ?_
    refine RK.val guard_none (op_eql rfl rfl) ?_
    refine RK.val guard_none (op_move (rfl : _ = AV.p (.c _))) ?_
    refine RK.split (t := 19) rfl (fun hg2 => ?_) (fun hg2 => ?_)
    · have hg2_ := bT hg2
      refine RK.val (guard_yes rfl rfl hg2) (op_move (rfl : _ = AV.p (.c _))) ?_
      refine RK.val (guard_yes rfl rfl hg2) (op_move (rfl : _ = AV.p (.c _))) ?_
      refine RK.val (guard_yes rfl rfl hg2) (op_move (rfl : _ = AV.p (.c _))) ?_
      refine RK.val (guard_yes rfl rfl hg2) (op_mul rfl rfl (by first | exact IntWalk.i64_in _ (by omega) | rfl)) ?_
      refine RK.val (guard_yes rfl rfl hg2) (op_quo rfl rfl (by omega) (c := (N / (p.2 * p.2))) (by rw [Int.tdiv_eq_ediv_of_nonneg (by omega), IntWalk.i64_in _ (by omega)])) ?_
      refine RK.val (guard_yes rfl rfl hg2) (Eff.call0 (r11_Is _)) ?_
      refine RK.val guard_none (op_pick_t rfl hg2 (rfl : _ = AV.p (.c _))) ?_
      refine RK.done (by kernel_rfl) ?_
      refine AWp_cond rfl (fun hb3 => ?_) (fun hb3 => ?_)
      · refine AWp_region hP ?_
        refine RK.val guard_none (op_move (rfl : _ = AV.p (.c _))) ?_
        refine RK.val guard_none (op_assign (rfl : _ = AV.p (.c _))) ?_
        refine RK.done (by kernel_rfl) ?_
        refine AWp_region hP ?_
        refine RK.val guard_none (op_move (rfl : _ = AV.p (.c _))) ?_
        refine RK.val guard_none (op_add rfl rfl (by first | exact IntWalk.i64_in _ (by omega) | rfl)) ?_
        refine RK.val guard_none (op_assign (rfl : _ = AV.p (.c _))) ?_
        refine RK.done (by kernel_rfl) ?_
        refine ⟨(p.2, p.2 + 1), ⟨i.yes (sp_yes hg2_ hb3), by simp only; omega⟩, by simp only; omega, le_stL ⟨.refl _, .refl _, .refl _, trivial⟩ trivial⟩
      · refine AWp_skip ?_
        refine AWp_region hP ?_
        refine RK.val guard_none (op_move (rfl : _ = AV.p (.c _))) ?_
        refine RK.val guard_none (op_add rfl rfl (by first | exact IntWalk.i64_in _ (by omega) | rfl)) ?_
        refine RK.val guard_none (op_assign (rfl : _ = AV.p (.c _))) ?_
        refine RK.done (by kernel_rfl) ?_
        refine ⟨(p.1, p.2 + 1), ⟨i.no (sp_no h3 hf1 hg2_ hb3), by simp only; omega⟩, by simp only; omega, le_stL ⟨.refl _, .refl _, .refl _, trivial⟩ trivial⟩
    · have hg2_ := bF hg2
      refine RK.skip (guard_no rfl rfl hg2) ?_
      refine RK.skip (guard_no rfl rfl hg2) ?_
      refine RK.skip (guard_no rfl rfl hg2) ?_
      refine RK.skip (guard_no rfl rfl hg2) ?_
      refine RK.skip (guard_no rfl rfl hg2) ?_
      refine RK.skip (guard_no rfl rfl hg2) ?_
      refine RK.val guard_none (op_pick_f rfl hg2 (rfl : _ = AV.p (.c _))) ?_
      refine RK.done (by kernel_rfl) ?_
      refine AWp_cond_false rfl rfl ?_
      refine AWp_skip ?_
      refine AWp_region hP ?_
      refine RK.val guard_none (op_move (rfl : _ = AV.p (.c _))) ?_
      refine RK.val guard_none (op_add rfl rfl (by first | exact IntWalk.i64_in _ (by omega) | rfl)) ?_
      refine RK.val guard_none (op_assign (rfl : _ = AV.p (.c _))) ?_
      refine RK.done (by kernel_rfl) ?_
      refine ⟨(p.1, p.2 + 1), ⟨i.no (cdB_1 hg2_), by simp only; omega⟩, by simp only; omega, le_stL ⟨.refl _, .refl _, .refl _, trivial⟩ trivial⟩
  · have hb1_ := of_decide_eq_false hb1
    have hfin := i.fin hN (by omega) hb1_
    have q2 := sq_b (x := p.1) (m := 72) (by have := i.bf; have := i.b1; omega)
    have q3 := mm_pos i.b1
    have q4 := quo_b (n := N) (x := p.1 * p.1) (by omega) (by omega)
    refine AWp_exit ?_
    refine AWp_seq ?_
    refine AWp_region hP ?_
    refine RK.val guard_none (op_move (rfl : _ = AV.p (.c _))) ?_
    refine RK.val guard_none (op_move (rfl : _ = AV.p (.c _))) ?_
    refine RK.val guard_none (op_move (rfl : _ = AV.p (.c _))) ?_
    refine RK.val guard_none (op_mul rfl rfl (by first | exact IntWalk.i64_in _ (by omega) | rfl)) ?_
    refine RK.val guard_none (op_quo rfl rfl (by omega) (c := (N / (p.1 * p.1))) (by rw [Int.tdiv_eq_ediv_of_nonneg (by omega), IntWalk.i64_in _ (by omega)])) ?_
    refine RK.val guard_none (op_move (rfl : _ = AV.p (.c _))) ?_
    refine RK.val guard_none (op_assign (rfl : _ = AV.p (.c _))) ?_
    refine RK.val guard_none (op_assign (rfl : _ = AV.p (.c _))) ?_
    refine RK.done (by kernel_rfl) ?_
    refine AWp_ret ?_
    refine ends_two rfl (.inr rfl) (res_tmp rfl) (res_tmp rfl) ?_ O_ends
    exact Sub.of_eq (by rw [hfin])

/- algorist/algoristref11.Twelve -/
set_option maxHeartbeats 8000000 in
set_option maxRecDepth 100000 in
theorem r11_Twelve (N : Int) (h3 : 0 ≤ N) (h4 : N ≤ 5000) :
    Call0 Tryz.prog 51 [Z N] (Z (hzV N)) := by
  refine callM_of (np := 0) Tryz.func51 (by kernel_rfl) rfl rfl (Nat.le_of_ble_eq_true rfl) (fun m h => absurd rfl h) (fun m h => absurd rfl h) rfl ?_
  refine AWp_seq ?_
  refine AWp_region hP ?_
  refine RK.val guard_none (op_assign (rfl : _ = AV.p (.c _))) ?_
  refine RK.done (by kernel_rfl) ?_
  refine AWp_seq ?_
  refine AWp_seq ?_
  refine AWp_region hP ?_
  refine RK.val guard_none (op_move (rfl : _ = AV.p (.c _))) ?_
  refine RK.val guard_none (op_eql rfl rfl) ?_
  refine RK.done (by kernel_rfl) ?_
  refine AWp_cond rfl (fun hb1 => ?_) (fun hb1 => ?_)
  · have hb1_ := bT hb1
    refine AWp_seq ?_
    refine AWp_region hP ?_
    refine RK.val guard_none (op_assign (rfl : _ = AV.p (.c _))) ?_
    refine RK.done (by kernel_rfl) ?_
    refine AWp_ret ?_
    refine ends_one rfl (.inr rfl) (res_tmp rfl) ?_ O_ends
    exact Sub.int (tw_0 hb1_)
  · have hb1_ := bF hb1
    refine AWp_skip ?_
    refine AWp_seq ?_
    refine AWp_seq ?_
    refine AWp_region hP ?_
    refine RK.val guard_none (op_move (rfl : _ = AV.p (.c _))) ?_
    refine RK.val guard_none (Eff.call0 (r11_Is _)) ?_
    refine RK.val guard_none (op_unot rfl) ?_
    refine RK.done (by kernel_rfl) ?_
    refine AWp_cond rfl (fun hb2 => ?_) (fun hb2 => ?_)
    · have hb2_ := (notT hb2)
      refine AWp_seq ?_
      refine AWp_region hP ?_
      refine RK.val guard_none (op_assign (rfl : _ = AV.p (.c _))) ?_
      refine RK.done (by kernel_rfl) ?_
      refine AWp_ret ?_
      refine ends_one rfl (.inr rfl) (res_tmp rfl) ?_ O_ends
      exact Sub.int (tw_no h3 h4 hb1_ (notT hb2))
    · have hb2_ := (notF hb2)
      have hD := notF hb2
      have hNi := isD_iff.1 hD
      have cF := r11_Forms N (by omega) h4
      have hlen : (fmL N).length ≤ 8004000 := by unfold fmL; rw [List.length_map]; exact trs_len N
      have hend := fun (k : Nat) (h : ¬ (k : Int) < (fmL N).length) => tK_end (n := N) h
      have hzw := hz_hws (n := N) (by omega) (by omega)
      generalize fmL N = l at cF hlen hend
      refine AWp_skip ?_
      refine AWp_seq ?_
      refine AWp_region hP ?_
      refine RK.val guard_none (op_move (rfl : _ = AV.p (.c _))) ?_
      refine RK.val guard_none (Eff.call0 cF) ?_
      refine RK.val guard_none (op_assign (rfl : _ = AV.p (.c _))) ?_
      refine RK.val guard_none (op_assign (rfl : _ = AV.p (.c _))) ?_
      refine RK.done (by kernel_rfl) ?_
      refine AWp_seq ?_
      refine AWp_seq ?_
      refine AWp_region hP ?_
      refine RK.val guard_none (op_assign (rfl : _ = AV.p (.c _))) ?_
      refine RK.done (by kernel_rfl) ?_
      refine AWp_block ?_
      refine AWp_loop (ι := Nat) (fun k => stL [(3, Z (tK l k)), (4, .p (.c (FS l))), (5, Z (k : Int))] []) (fun k => k ≤ l.length) (fun k => l.length - k) 0 (Nat.zero_le _) (le_stL ⟨Sub.int rfl, .refl _, .refl _, trivial⟩ trivial) ?_
      intro k hk
      have hkb := tK_b l k
      refine AWp_seq ?_
      refine AWp_seq ?_
      refine AWp_region hP ?_
      refine RK.val guard_none (op_move (rfl : _ = AV.p (.c _))) ?_
      refine RK.val guard_none (op_move (rfl : _ = AV.p (.c _))) ?_
      refine RK.val guard_none (op_len hT rfl rfl rfl (by rfl)) ?_
      refine RK.val guard_none (op_lss rfl rfl) ?_
      refine RK.done (by kernel_rfl) ?_
      refine AWp_cond rfl (fun hb3 => ?_) (fun hb3 => ?_)
      · have hb3_ := of_decide_eq_true hb3
        refine AWp_skip ?_
        refine AWp_seq ?_
        refine AWp_block ?_
        refine AWp_seq ?_
        refine AWp_region hP ?_
        refine RK.val guard_none (op_move (rfl : _ = AV.p (.c _))) ?_
        refine RK.val guard_none (op_move (rfl : _ = AV.p (.c _))) ?_
        refine RK.val guard_none (op_indexF hT rfl rfl rfl rfl rfl rfl (by omega)) ?_
        refine RK.val guard_none (op_field_ip hT rfl rfl rfl rfl rfl rfl) ?_
        refine RK.val guard_none (op_load_ip_agg hT rfl rfl rfl (cs := [zn (l.getD k ⟨0, 0, 0⟩).a, zm (l.getD k ⟨0, 0, 0⟩).a]) rfl rfl) ?_
        refine RK.val guard_none (op_move (rfl : _ = AV.p (.c _))) ?_
        refine RK.val guard_none (op_move (rfl : _ = AV.p (.c _))) ?_
        refine RK.val guard_none (op_indexF hT rfl rfl rfl rfl rfl rfl (by omega)) ?_
        refine RK.val guard_none (op_field_ip hT rfl rfl rfl rfl rfl rfl) ?_
        refine RK.val guard_none (op_load_ip_agg hT rfl rfl rfl (cs := [zn (l.getD k ⟨0, 0, 0⟩).b, zm (l.getD k ⟨0, 0, 0⟩).b]) rfl rfl) ?_
        refine RK.val guard_none (op_move (rfl : _ = AV.p (.c _))) ?_
        refine RK.val guard_none (op_move (rfl : _ = AV.p (.c _))) ?_
        refine RK.val guard_none (op_indexF hT rfl rfl rfl rfl rfl rfl (by omega)) ?_
        refine RK.val guard_none (op_field_ip hT rfl rfl rfl rfl rfl rfl) ?_
        refine RK.val guard_none (op_load_ip_agg hT rfl rfl rfl (cs := [zn (l.getD k ⟨0, 0, 0⟩).c, zm (l.getD k ⟨0, 0, 0⟩).c]) rfl rfl) ?_
        refine RK.alc guard_none (op_alloc hT rfl rfl) ?_
        refine RK.alc guard_none (op_alloc hT rfl rfl) ?_
        refine RK.alc guard_none (op_alloc hT rfl rfl) ?_
        refine RK.sto guard_none (op_store hT rfl rfl rfl rfl rfl rfl (cs := [_, _]) rfl) ?_
        refine RK.sto guard_none (op_store hT rfl rfl rfl rfl rfl rfl (cs := [_, _]) rfl) ?_
        refine RK.sto guard_none (op_store hT rfl rfl rfl rfl rfl rfl (cs := [_, _]) rfl) ?_
        refine RK.done (by kernel_rfl) ?_
        refine AWp_block ?_
        refine AWp_seq ?_
        refine AWp_region hP ?_
        refine RK.val guard_none (op_load_agg hT rfl rfl rfl rfl (cs := [_, _]) rfl rfl) ?_
        refine RK.val guard_none (op_load_agg hT rfl rfl rfl rfl (cs := [_, _]) rfl rfl) ?_
        refine RK.val guard_none (Eff.call0 (r_Same _ _)) ?_
        refine RK.val guard_none (op_move (rfl : _ = AV.p (.c _))) ?_
        refine RK.split (t := 43) rfl (fun hg4 => ?_) (fun hg4 => ?_)
        · refine RK.val (guard_yes rfl rfl hg4) (op_load_agg hT rfl rfl rfl rfl (cs := [_, _]) rfl rfl) ?_
          refine RK.val (guard_yes rfl rfl hg4) (op_load_agg hT rfl rfl rfl rfl (cs := [_, _]) rfl rfl) ?_
          refine RK.val (guard_yes rfl rfl hg4) (Eff.call0 (r_Same _ _)) ?_
          refine RK.val guard_none (op_pick_t rfl hg4 (rfl : _ = AV.p (.c _))) ?_
          refine RK.val guard_none (op_assign (rfl : _ = AV.p (.c _))) ?_
          refine RK.done (by kernel_rfl) ?_
          refine AWp_cond rfl (fun hb5 => ?_) (fun hb5 => ?_)
          · refine AWp_region hP ?_
            refine RK.val guard_none (op_move (rfl : _ = AV.p (.c _))) ?_
            refine RK.val guard_none (op_add rfl rfl (by first | exact IntWalk.i64_in _ (by omega) | rfl)) ?_
            refine RK.val guard_none (op_assign (rfl : _ = AV.p (.c _))) ?_
            refine RK.done (by kernel_rfl) ?_
            refine AWp_region hP ?_
            refine RK.val guard_none (op_move (rfl : _ = AV.p (.c _))) ?_
            refine RK.val guard_none (op_add rfl rfl (by first | exact IntWalk.i64_in _ (by omega) | rfl)) ?_
            refine RK.val guard_none (op_assign (rfl : _ = AV.p (.c _))) ?_
            refine RK.done (by kernel_rfl) ?_
            refine ⟨k + 1, by omega, by omega, le_stL ⟨Sub.int (by rw [tK_next (by omega)]; exact congrArg (tK l k + ·) (wT_4 (t := ⟨(l.getD k ⟨0, 0, 0⟩).a, (l.getD k ⟨0, 0, 0⟩).b, (l.getD k ⟨0, 0, 0⟩).c⟩) (of_decide_eq_true hg4) (of_decide_eq_true hb5)).symm), .refl _, Sub.int (by omega), trivial⟩ trivial⟩
          · refine AWp_seq ?_
            refine AWp_region hP ?_
            refine RK.val guard_none (op_load_agg hT rfl rfl rfl rfl (cs := [_, _]) rfl rfl) ?_
            refine RK.val guard_none (Eff.call0 (r_Sign _)) ?_
            refine RK.val guard_none (op_eql rfl rfl) ?_
            refine RK.val guard_none (op_move (rfl : _ = AV.p (.c _))) ?_
            refine RK.split (t := 54) rfl (fun hg6 => ?_) (fun hg6 => ?_)
            · have hg6_ := bT hg6
              refine RK.val (guard_yes rfl rfl hg6) (op_load_agg hT rfl rfl rfl rfl (cs := [_, _]) rfl rfl) ?_
              refine RK.val (guard_yes rfl rfl hg6) (op_load_agg hT rfl rfl rfl rfl (cs := [_, _]) rfl rfl) ?_
              refine RK.val (guard_yes rfl rfl hg6) (Eff.call0 (r_Same _ _)) ?_
              refine RK.val guard_none (op_pick_t rfl hg6 (rfl : _ = AV.p (.c _))) ?_
              refine RK.val guard_none (op_assign (rfl : _ = AV.p (.c _))) ?_
              refine RK.done (by kernel_rfl) ?_
              refine AWp_cond rfl (fun hb7 => ?_) (fun hb7 => ?_)
              · refine AWp_region hP ?_
                refine RK.val guard_none (op_move (rfl : _ = AV.p (.c _))) ?_
                refine RK.val guard_none (op_add rfl rfl (by first | exact IntWalk.i64_in _ (by omega) | rfl)) ?_
                refine RK.val guard_none (op_assign (rfl : _ = AV.p (.c _))) ?_
                refine RK.done (by kernel_rfl) ?_
                refine AWp_region hP ?_
                refine RK.val guard_none (op_move (rfl : _ = AV.p (.c _))) ?_
                refine RK.val guard_none (op_add rfl rfl (by first | exact IntWalk.i64_in _ (by omega) | rfl)) ?_
                refine RK.val guard_none (op_assign (rfl : _ = AV.p (.c _))) ?_
                refine RK.done (by kernel_rfl) ?_
                refine ⟨k + 1, by omega, by omega, le_stL ⟨Sub.int (by rw [tK_next (by omega)]; exact congrArg (tK l k + ·) (wT_6 (t := ⟨(l.getD k ⟨0, 0, 0⟩).a, (l.getD k ⟨0, 0, 0⟩).b, (l.getD k ⟨0, 0, 0⟩).c⟩) (fun x => of_decide_eq_false hb5 x.2) (sgn_zero_iff.1 (bT hg6)) (of_decide_eq_true hb7)).symm), .refl _, Sub.int (by omega), trivial⟩ trivial⟩
              · refine AWp_region hP ?_
                refine RK.val guard_none (op_move (rfl : _ = AV.p (.c _))) ?_
                refine RK.val guard_none (op_add rfl rfl (by first | exact IntWalk.i64_in _ (by omega) | rfl)) ?_
                refine RK.val guard_none (op_assign (rfl : _ = AV.p (.c _))) ?_
                refine RK.done (by kernel_rfl) ?_
                refine AWp_region hP ?_
                refine RK.val guard_none (op_move (rfl : _ = AV.p (.c _))) ?_
                refine RK.val guard_none (op_add rfl rfl (by first | exact IntWalk.i64_in _ (by omega) | rfl)) ?_
                refine RK.val guard_none (op_assign (rfl : _ = AV.p (.c _))) ?_
                refine RK.done (by kernel_rfl) ?_
                refine ⟨k + 1, by omega, by omega, le_stL ⟨Sub.int (by rw [tK_next (by omega)]; exact congrArg (tK l k + ·) (wT_12 (t := ⟨(l.getD k ⟨0, 0, 0⟩).a, (l.getD k ⟨0, 0, 0⟩).b, (l.getD k ⟨0, 0, 0⟩).c⟩) (fun x => of_decide_eq_false hb5 x.2) (fun x => of_decide_eq_false hb7 x.2)).symm), .refl _, Sub.int (by omega), trivial⟩ trivial⟩
            · have hg6_ := bF hg6
              refine RK.skip (guard_no rfl rfl hg6) ?_
              refine RK.skip (guard_no rfl rfl hg6) ?_
              refine RK.skip (guard_no rfl rfl hg6) ?_
              refine RK.val guard_none (op_pick_f rfl hg6 (rfl : _ = AV.p (.c _))) ?_
              refine RK.val guard_none (op_assign (rfl : _ = AV.p (.c _))) ?_
              refine RK.done (by kernel_rfl) ?_
              refine AWp_cond_false rfl rfl ?_
              refine AWp_region hP ?_
              refine RK.val guard_none (op_move (rfl : _ = AV.p (.c _))) ?_
              refine RK.val guard_none (op_add rfl rfl (by first | exact IntWalk.i64_in _ (by omega) | rfl)) ?_
              refine RK.val guard_none (op_assign (rfl : _ = AV.p (.c _))) ?_
              refine RK.done (by kernel_rfl) ?_
              refine AWp_region hP ?_
              refine RK.val guard_none (op_move (rfl : _ = AV.p (.c _))) ?_
              refine RK.val guard_none (op_add rfl rfl (by first | exact IntWalk.i64_in _ (by omega) | rfl)) ?_
              refine RK.val guard_none (op_assign (rfl : _ = AV.p (.c _))) ?_
              refine RK.done (by kernel_rfl) ?_
              refine ⟨k + 1, by omega, by omega, le_stL ⟨Sub.int (by rw [tK_next (by omega)]; exact congrArg (tK l k + ·) (wT_12 (t := ⟨(l.getD k ⟨0, 0, 0⟩).a, (l.getD k ⟨0, 0, 0⟩).b, (l.getD k ⟨0, 0, 0⟩).c⟩) (fun x => of_decide_eq_false hb5 x.2) (fun x => bF hg6 (sgn_zero_iff.2 x.1))).symm), .refl _, Sub.int (by omega), trivial⟩ trivial⟩
        · refine RK.skip (guard_no rfl rfl hg4) ?_
          refine RK.skip (guard_no rfl rfl hg4) ?_
          refine RK.skip (guard_no rfl rfl hg4) ?_
          refine RK.val guard_none (op_pick_f rfl hg4 (rfl : _ = AV.p (.c _))) ?_
          refine RK.val guard_none (op_assign (rfl : _ = AV.p (.c _))) ?_
          refine RK.done (by kernel_rfl) ?_
          refine AWp_cond_false rfl rfl ?_
          refine AWp_seq ?_
          refine AWp_region hP ?_
          refine RK.val guard_none (op_load_agg hT rfl rfl rfl rfl (cs := [_, _]) rfl rfl) ?_
          refine RK.val guard_none (Eff.call0 (r_Sign _)) ?_
          refine RK.val guard_none (op_eql rfl rfl) ?_
          refine RK.val guard_none (op_move (rfl : _ = AV.p (.c _))) ?_
          refine RK.split (t := 54) rfl (fun hg8 => ?_) (fun hg8 => ?_)
          · have hg8_ := bT hg8
            refine RK.val (guard_yes rfl rfl hg8) (op_load_agg hT rfl rfl rfl rfl (cs := [_, _]) rfl rfl) ?_
            refine RK.val (guard_yes rfl rfl hg8) (op_load_agg hT rfl rfl rfl rfl (cs := [_, _]) rfl rfl) ?_
            refine RK.val (guard_yes rfl rfl hg8) (Eff.call0 (r_Same _ _)) ?_
            refine RK.val guard_none (op_pick_t rfl hg8 (rfl : _ = AV.p (.c _))) ?_
            refine RK.val guard_none (op_assign (rfl : _ = AV.p (.c _))) ?_
            refine RK.done (by kernel_rfl) ?_
            refine AWp_cond rfl (fun hb9 => ?_) (fun hb9 => ?_)
            · refine AWp_region hP ?_
              refine RK.val guard_none (op_move (rfl : _ = AV.p (.c _))) ?_
              refine RK.val guard_none (op_add rfl rfl (by first | exact IntWalk.i64_in _ (by omega) | rfl)) ?_
              refine RK.val guard_none (op_assign (rfl : _ = AV.p (.c _))) ?_
              refine RK.done (by kernel_rfl) ?_
              refine AWp_region hP ?_
              refine RK.val guard_none (op_move (rfl : _ = AV.p (.c _))) ?_
              refine RK.val guard_none (op_add rfl rfl (by first | exact IntWalk.i64_in _ (by omega) | rfl)) ?_
              refine RK.val guard_none (op_assign (rfl : _ = AV.p (.c _))) ?_
              refine RK.done (by kernel_rfl) ?_
              refine ⟨k + 1, by omega, by omega, le_stL ⟨Sub.int (by rw [tK_next (by omega)]; exact congrArg (tK l k + ·) (wT_6 (t := ⟨(l.getD k ⟨0, 0, 0⟩).a, (l.getD k ⟨0, 0, 0⟩).b, (l.getD k ⟨0, 0, 0⟩).c⟩) (fun x => of_decide_eq_false hg4 x.1) (sgn_zero_iff.1 (bT hg8)) (of_decide_eq_true hb9)).symm), .refl _, Sub.int (by omega), trivial⟩ trivial⟩
            · refine AWp_region hP ?_
              refine RK.val guard_none (op_move (rfl : _ = AV.p (.c _))) ?_
              refine RK.val guard_none (op_add rfl rfl (by first | exact IntWalk.i64_in _ (by omega) | rfl)) ?_
              refine RK.val guard_none (op_assign (rfl : _ = AV.p (.c _))) ?_
              refine RK.done (by kernel_rfl) ?_
              refine AWp_region hP ?_
              refine RK.val guard_none (op_move (rfl : _ = AV.p (.c _))) ?_
              refine RK.val guard_none (op_add rfl rfl (by first | exact IntWalk.i64_in _ (by omega) | rfl)) ?_
              refine RK.val guard_none (op_assign (rfl : _ = AV.p (.c _))) ?_
              refine RK.done (by kernel_rfl) ?_
              refine ⟨k + 1, by omega, by omega, le_stL ⟨Sub.int (by rw [tK_next (by omega)]; exact congrArg (tK l k + ·) (wT_12 (t := ⟨(l.getD k ⟨0, 0, 0⟩).a, (l.getD k ⟨0, 0, 0⟩).b, (l.getD k ⟨0, 0, 0⟩).c⟩) (fun x => of_decide_eq_false hg4 x.1) (fun x => of_decide_eq_false hb9 x.2)).symm), .refl _, Sub.int (by omega), trivial⟩ trivial⟩
          · have hg8_ := bF hg8
            refine RK.skip (guard_no rfl rfl hg8) ?_
            refine RK.skip (guard_no rfl rfl hg8) ?_
            refine RK.skip (guard_no rfl rfl hg8) ?_
            refine RK.val guard_none (op_pick_f rfl hg8 (rfl : _ = AV.p (.c _))) ?_
            refine RK.val guard_none (op_assign (rfl : _ = AV.p (.c _))) ?_
            refine RK.done (by kernel_rfl) ?_
            refine AWp_cond_false rfl rfl ?_
            refine AWp_region hP ?_
            refine RK.val guard_none (op_move (rfl : _ = AV.p (.c _))) ?_
            refine RK.val guard_none (op_add rfl rfl (by first | exact IntWalk.i64_in _ (by omega) | rfl)) ?_
            refine RK.val guard_none (op_assign (rfl : _ = AV.p (.c _))) ?_
            refine RK.done (by kernel_rfl) ?_
            refine AWp_region hP ?_
            refine RK.val guard_none (op_move (rfl : _ = AV.p (.c _))) ?_
            refine RK.val guard_none (op_add rfl rfl (by first | exact IntWalk.i64_in _ (by omega) | rfl)) ?_
            refine RK.val guard_none (op_assign (rfl : _ = AV.p (.c _))) ?_
            refine RK.done (by kernel_rfl) ?_
            refine ⟨k + 1, by omega, by omega, le_stL ⟨Sub.int (by rw [tK_next (by omega)]; exact congrArg (tK l k + ·) (wT_12 (t := ⟨(l.getD k ⟨0, 0, 0⟩).a, (l.getD k ⟨0, 0, 0⟩).b, (l.getD k ⟨0, 0, 0⟩).c⟩) (fun x => of_decide_eq_false hg4 x.1) (fun x => bF hg8 (sgn_zero_iff.2 x.1))).symm), .refl _, Sub.int (by omega), trivial⟩ trivial⟩
      · have hb3_ := of_decide_eq_false hb3
        refine AWp_exit ?_
        refine AWp_seq ?_
        refine AWp_region hP ?_
        refine RK.val guard_none (op_move (rfl : _ = AV.p (.c _))) ?_
        refine RK.val guard_none (op_assign (rfl : _ = AV.p (.c _))) ?_
        refine RK.done (by kernel_rfl) ?_
        refine AWp_ret ?_
        refine ends_one rfl (.inr rfl) (res_tmp rfl) ?_ O_ends
        exact Sub.int (by rw [hend k (by omega), hzw])

end Go.Proofs.YtkdfinfdocdpoaaGreatDoor
end
