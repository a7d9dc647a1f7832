/- Texts merged by program, in build order. -/
import Derived.Test.YtkdfinfdocdpoaaDoorMG
import Derived.Test.YtkdfinfdocdpoaaDoorMT
import Derived.Test.YtkdfinfdocdpoaaDoorMI

section
/- Kronecker's relation: a table of Hurwitz numbers, and the sums. -/
namespace Go.AM
open Go Go.RowKit
set_option maxRecDepth 100000
def hTab : List (List Int) := [[-1, 0, 0, 4, 6, 0, 0, 12, 12, 0, 0, 12, 16, 0, 0, 24, 18, 0, 0, 12, 24, 0, 0, 36, 24, 0, 0, 16, 24, 0, 0, 36],
  [36, 0, 0, 24, 30, 0, 0, 48, 24, 0, 0, 12, 48, 0, 0, 60, 40, 0, 0, 24, 24, 0, 0, 48, 48, 0, 0, 36, 48, 0, 0, 60],
  [42, 0, 0, 12, 48, 0, 0, 84, 36, 0, 0, 28, 48, 0, 0, 60, 72, 0, 0, 36, 48, 0, 0, 72, 24, 0, 0, 24, 72, 0, 0, 96],
  [72, 0, 0, 36, 30, 0, 0, 60, 72, 0, 0, 36, 64, 0, 0, 96, 48, 0, 0, 24, 72, 0, 0, 120, 48, 0, 0, 24, 72, 0, 0, 60],
  [84, 0, 0, 60, 48, 0, 0, 96, 48, 0, 0, 36, 96, 0, 0, 120, 90, 0, 0, 28, 24, 0, 0, 84, 72, 0, 0, 48, 96, 0, 0, 120],
  [72, 0, 0, 12, 96, 0, 0, 132, 48, 0, 0, 60, 48, 0, 0, 84, 120, 0, 0, 60, 72, 0, 0, 96, 48, 0, 0, 24, 120, 0, 0, 156],
  [88, 0, 0, 48, 54, 0, 0, 108, 84, 0, 0, 48, 96, 0, 0, 108, 72, 0, 0, 36, 72, 0, 0, 168, 96, 0, 0, 48, 96, 0, 0, 84],
  [144, 0, 0, 60, 48, 0, 0, 144, 24, 0, 0, 24, 144, 0, 0, 180, 96, 0, 0, 52, 72, 0, 0, 72, 96, 0, 0, 84, 120, 0, 0, 144],
  [90, 0, 0, 48, 96, 0, 0, 156, 96, 0, 0, 24, 48, 0, 0, 132, 144, 0, 0, 60, 96, 0, 0, 180, 48, 0, 0, 36, 168, 0, 0, 168],
  [108, 0, 0, 48, 48, 0, 0, 96, 120, 0, 0, 96, 112, 0, 0, 120, 120, 0, 0, 36, 96, 0, 0, 228, 48, 0, 0, 72, 120, 0, 0, 120],
  [168, 0, 0, 48, 102, 0, 0, 144, 48, 0, 0, 36, 144, 0, 0, 216, 144, 0, 0, 72, 48, 0, 0, 96, 120, 0, 0, 60, 144, 0, 0, 192],
  [72, 0, 0, 48, 144, 0, 0, 228, 120, 0, 0, 52, 96, 0, 0, 108, 144, 0, 0, 96, 48, 0, 0, 144, 96, 0, 0, 36, 192, 0, 0, 204],
  [168, 0, 0, 60, 48, 0, 0, 168, 108, 0, 0, 96, 144, 0, 0, 192, 90, 0, 0, 24, 168, 0, 0, 192, 48, 0, 0, 72, 120, 0, 0, 120],
  [216, 0, 0, 108, 96, 0, 0, 180, 72, 0, 0, 24, 144, 0, 0, 252, 160, 0, 0, 48, 72, 0, 0, 180, 144, 0, 0, 60, 192, 0, 0, 168],
  [96, 0, 0, 72, 96, 0, 0, 240, 96, 0, 0, 96, 96, 0, 0, 84, 216, 0, 0, 84, 120, 0, 0, 192, 72, 0, 0, 60, 240, 0, 0, 300],
  [144, 0, 0, 48, 78, 0, 0, 84, 120, 0, 0, 108, 96, 0, 0, 240, 144, 0, 0, 36, 144, 0, 0, 252, 144, 0, 0, 52, 120, 0, 0, 168],
  [180, 0, 0, 72, 144, 0, 0, 216, 48, 0, 0, 60, 240, 0, 0, 216, 144, 0, 0, 108, 48, 0, 0, 168, 168, 0, 0, 108, 192, 0, 0, 144],
  [144, 0, 0, 36, 96, 0, 0, 312, 96, 0, 0, 48, 144, 0, 0, 192, 240, 0, 0, 108, 96, 0, 0, 204, 48, 0, 0, 60, 240, 0, 0, 252],
  [210, 0, 0, 96, 96, 0, 0, 96, 192, 0, 0, 84, 112, 0, 0, 264, 72, 0, 0, 48, 168, 0, 0, 300, 120, 0, 0, 60, 168, 0, 0, 156],
  [216, 0, 0, 120, 144, 0, 0, 240, 96, 0, 0, 60, 192, 0, 0, 264, 192, 0, 0, 48, 72, 0, 0, 156, 96, 0, 0, 120, 240, 0, 0, 252],
  [168, 0, 0, 36, 192, 0, 0, 276, 108, 0, 0, 96, 48, 0, 0, 144, 288, 0, 0, 132, 96, 0, 0, 192, 120, 0, 0, 48, 264, 0, 0, 360],
  [144, 0, 0, 112, 78, 0, 0, 216, 144, 0, 0, 60, 240, 0, 0, 144, 120, 0, 0, 60, 168, 0, 0, 288, 144, 0, 0, 120, 168, 0, 0, 168],
  [264, 0, 0, 72, 48, 0, 0, 300, 96, 0, 0, 48, 240, 0, 0, 372, 216, 0, 0, 48, 120, 0, 0, 156, 144, 0, 0, 144, 192, 0, 0, 216],
  [144, 0, 0, 60, 192, 0, 0, 252, 144, 0, 0, 108, 96, 0, 0, 180, 240, 0, 0, 144, 192, 0, 0, 288, 48, 0, 0, 48, 312, 0, 0, 264],
  [184, 0, 0, 72, 48, 0, 0, 180, 240, 0, 0, 120, 192, 0, 0, 288, 162, 0, 0, 60, 120, 0, 0, 384, 120, 0, 0, 48, 216, 0, 0, 192],
  [252, 0, 0, 120, 144, 0, 0, 168, 72, 0, 0, 84, 192, 0, 0, 360, 240, 0, 0, 120, 96, 0, 0, 108, 240, 0, 0, 84, 216, 0, 0, 336],
  [168, 0, 0, 72, 240, 0, 0, 396, 96, 0, 0, 72, 144, 0, 0, 132, 216, 0, 0, 120, 96, 0, 0, 288, 72, 0, 0, 84, 336, 0, 0, 252],
  [288, 0, 0, 76, 96, 0, 0, 264, 120, 0, 0, 144, 192, 0, 0, 264, 192, 0, 0, 36, 192, 0, 0, 348, 144, 0, 0, 108, 168, 0, 0, 192],
  [336, 0, 0, 168, 150, 0, 0, 192, 96, 0, 0, 36, 240, 0, 0, 372, 144, 0, 0, 96, 120, 0, 0, 228, 240, 0, 0, 120, 288, 0, 0, 300],
  [72, 0, 0, 84, 144, 0, 0, 336, 216, 0, 0, 96, 96, 0, 0, 192, 360, 0, 0, 60, 144, 0, 0, 312, 96, 0, 0, 48, 360, 0, 0, 432],
  [192, 0, 0, 108, 144, 0, 0, 132, 132, 0, 0, 180, 208, 0, 0, 240, 216, 0, 0, 96, 168, 0, 0, 324, 144, 0, 0, 96, 144, 0, 0, 204],
  [288, 0, 0, 96, 144, 0, 0, 384, 144, 0, 0, 48, 336]]
def hOf (n : Int) : Int := (hTab.getD (n.toNat / 32) []).getD (n.toNat % 32) 0
def tabOK (s k : Nat) : Bool := (List.range k).all fun i => decide (hzV ((s + i : Nat) : Int) = hOf ((s + i : Nat) : Int))
theorem tab_0 : tabOK 0 200 = true := by decide +kernel
theorem tab_200 : tabOK 200 200 = true := by decide +kernel
theorem tab_400 : tabOK 400 100 = true := by decide +kernel
theorem tab_500 : tabOK 500 100 = true := by decide +kernel
theorem tab_600 : tabOK 600 100 = true := by decide +kernel
theorem tab_700 : tabOK 700 100 = true := by decide +kernel
theorem tab_800 : tabOK 800 50 = true := by decide +kernel
theorem tab_850 : tabOK 850 50 = true := by decide +kernel
theorem tab_900 : tabOK 900 50 = true := by decide +kernel
theorem tab_950 : tabOK 950 55 = true := by decide +kernel
theorem tab_get {s k n : Nat} (h : tabOK s k = true) (h1 : s ≤ n) (h2 : n < s + k) : hzV (n : Int) = hOf (n : Int) := by
  have := List.all_eq_true.1 h (n - s) (List.mem_range.2 (by omega))
  rw [decide_eq_true_iff, show s + (n - s) = n by omega] at this
  exact this
theorem hz_tab {n : Int} (h : 0 ≤ n) (h1 : n ≤ 1004) : hzV n = hOf n := by
  obtain ⟨m, rfl⟩ := Int.eq_ofNat_of_zero_le h
  by_cases g0 : m < 200
  · exact tab_get tab_0 (by omega) (by omega)
  by_cases g200 : m < 400
  · exact tab_get tab_200 (by omega) (by omega)
  by_cases g400 : m < 500
  · exact tab_get tab_400 (by omega) (by omega)
  by_cases g500 : m < 600
  · exact tab_get tab_500 (by omega) (by omega)
  by_cases g600 : m < 700
  · exact tab_get tab_600 (by omega) (by omega)
  by_cases g700 : m < 800
  · exact tab_get tab_700 (by omega) (by omega)
  by_cases g800 : m < 850
  · exact tab_get tab_800 (by omega) (by omega)
  by_cases g850 : m < 900
  · exact tab_get tab_850 (by omega) (by omega)
  by_cases g900 : m < 950
  · exact tab_get tab_900 (by omega) (by omega)
  exact tab_get tab_950 (by omega) (by omega)
def krOK (s k : Nat) : Bool := (List.range k).all fun i => !(decide (2 ≤ s + i) && primeB ((s + i : Nat) : Int)) || decide (kS hOf ((s + i : Nat) : Int) (4 * (s + i) + 1) = 24 * ((s + i : Nat) : Int))
theorem kro_0 : krOK 0 60 = true := by decide +kernel
theorem kro_60 : krOK 60 40 = true := by decide +kernel
theorem kro_100 : krOK 100 40 = true := by decide +kernel
theorem kro_140 : krOK 140 40 = true := by decide +kernel
theorem kro_180 : krOK 180 40 = true := by decide +kernel
theorem kro_220 : krOK 220 32 = true := by decide +kernel
theorem kr_get {s k p : Nat} (h : krOK s k = true) (h1 : s ≤ p) (h2 : p < s + k) (h3 : 2 ≤ p) (hp : primeB (p : Int) = true) : kS hOf (p : Int) (4 * p + 1) = 24 * (p : Int) := by
  have := List.all_eq_true.1 h (p - s) (List.mem_range.2 (by omega))
  simp only [show s + (p - s) = p by omega] at this
  rw [decide_eq_true h3, hp] at this
  simpa using this
theorem kron {p : Int} (h : 2 ≤ p) (h1 : p ≤ 251) (hp : primeB p = true) : kS hzV p (4 * p + 1).toNat = 24 * p := by
  rw [kS_congr (g := hOf) (fun n a b => hz_tab a (by omega))]
  obtain ⟨m, rfl⟩ := Int.eq_ofNat_of_zero_le (show 0 ≤ p by omega)
  rw [show (4 * (m : Int) + 1).toNat = 4 * m + 1 by omega]
  by_cases g0 : m < 60
  · exact kr_get kro_0 (by omega) (by omega) (by omega) hp
  by_cases g60 : m < 100
  · exact kr_get kro_60 (by omega) (by omega) (by omega) hp
  by_cases g100 : m < 140
  · exact kr_get kro_100 (by omega) (by omega) (by omega) hp
  by_cases g140 : m < 180
  · exact kr_get kro_140 (by omega) (by omega) (by omega) hp
  by_cases g180 : m < 220
  · exact kr_get kro_180 (by omega) (by omega) (by omega) hp
  exact kr_get kro_220 (by omega) (by omega) (by omega) hp
end Go.AM
end

section
/- chapter 11: examples, Kronecker -/
namespace Go.Proofs.YtkdfinfdocdpoaaDoor
open Go Go.AM

/- algorist/algoristlaw11.examples -/
set_option maxHeartbeats 4000000 in
set_option maxRecDepth 100000 in
theorem l_examples  :
    Call0 Tryd.prog 10 [] (B true) := by
  have e1 := c_Reduced (-23) (by omega)
  rw [ex1, ex1e] at e1
  have e2 := c_All (-12) (by omega)
  rw [ex2, ex2e] at e2
  have e3 := c_Class (-23) (by omega)
  rw [ex3, ex1e] at e3
  have e4 := c_Hurwitz 12 (by omega)
  rw [ex4, ex4e] at e4
  have e5 := c_Hurwitz 0 (by omega)
  rw [ex5, ex5e] at e5
  have e6 := c_Ratio (-3) 2 (by omega) (by omega)
  rw [ex6, ex6e] at e6
  have e7 := c_Class 5 (by omega)
  rw [ex7] at e7
  have e8 := c_Class (-4194308) (by omega)
  rw [ex8] at e8
  have sa := r11_Same ([⟨1, 1, 6⟩, ⟨2, -1, 3⟩, ⟨2, 1, 3⟩] : List Fm) ([⟨1, 1, 6⟩, ⟨2, -1, 3⟩, ⟨2, 1, 3⟩] : List Fm) (by decide)
  rw [show decide (([⟨1, 1, 6⟩, ⟨2, -1, 3⟩, ⟨2, 1, 3⟩] : List Fm) = ([⟨1, 1, 6⟩, ⟨2, -1, 3⟩, ⟨2, 1, 3⟩] : List Fm)) = true from decide_eq_true rfl] at sa
  have sb := r11_Same ([⟨1, 0, 3⟩, ⟨2, 2, 2⟩] : List Fm) ([⟨1, 0, 3⟩, ⟨2, 2, 2⟩] : List Fm) (by decide)
  rw [show decide (([⟨1, 0, 3⟩, ⟨2, 2, 2⟩] : List Fm) = ([⟨1, 0, 3⟩, ⟨2, 2, 2⟩] : List Fm)) = true from decide_eq_true rfl] at sb
  generalize clE 5 = z7 at e7
  generalize clE (-4194308) = z8 at e8
  refine callM_of (np := 0) Tryd.func10 (by kernel_rfl) rfl rfl (Nat.le_of_ble_eq_true rfl) (fun m h => absurd rfl h) (fun m h => absurd rfl h) rfl ?_
  refine AWp_seq ?_
  refine AWp_region hP ?_
  refine RK.val guard_none (op_assign (rfl : _ = AV.p (.c _))) ?_
  refine RK.done (by kernel_rfl) ?_
  refine AWp_seq ?_
  refine AWp_region hP ?_
  refine RK.val guard_none (Eff.call0 (r_Of _ (by first | assumption | decide))) ?_
  refine RK.val guard_none (Eff.call0 e1) ?_
  refine RK.val guard_none (op_move (rfl : _ = AV.t _)) ?_
  refine RK.val guard_none (op_extract rfl (v := .c _) rfl) ?_
  refine RK.val guard_none (op_extract rfl (v := .c _) rfl) ?_
  refine RK.val guard_none (op_assign (rfl : _ = AV.p (.c _))) ?_
  refine RK.val guard_none (op_assign (rfl : _ = AV.p (.c _))) ?_
  refine RK.done (by kernel_rfl) ?_
  refine AWp_seq ?_
  refine AWp_region hP ?_
  refine RK.val guard_none (Eff.call0 (r_Of _ (by first | assumption | decide))) ?_
  refine RK.val guard_none (Eff.call0 e2) ?_
  refine RK.val guard_none (op_move (rfl : _ = AV.t _)) ?_
  refine RK.val guard_none (op_extract rfl (v := .c _) rfl) ?_
  refine RK.val guard_none (op_extract rfl (v := .c _) rfl) ?_
  refine RK.val guard_none (op_assign (rfl : _ = AV.p (.c _))) ?_
  refine RK.val guard_none (op_assign (rfl : _ = AV.p (.c _))) ?_
  refine RK.done (by kernel_rfl) ?_
  refine AWp_seq ?_
  refine AWp_region hP ?_
  refine RK.val guard_none (Eff.call0 (r_Of _ (by first | assumption | decide))) ?_
  refine RK.val guard_none (Eff.call0 e3) ?_
  refine RK.val guard_none (op_move (rfl : _ = AV.t _)) ?_
  refine RK.val guard_none (op_extract rfl (v := .c _) rfl) ?_
  refine RK.val guard_none (op_extract rfl (v := .c _) rfl) ?_
  refine RK.val guard_none (op_assign (rfl : _ = AV.p (.c _))) ?_
  refine RK.val guard_none (op_assign (rfl : _ = AV.p (.c _))) ?_
  refine RK.done (by kernel_rfl) ?_
  refine AWp_seq ?_
  refine AWp_region hP ?_
  refine RK.val guard_none (Eff.call0 (r_Of _ (by first | assumption | decide))) ?_
  refine RK.val guard_none (Eff.call0 e4) ?_
  refine RK.val guard_none (op_move (rfl : _ = AV.t _)) ?_
  refine RK.val guard_none (op_extract rfl (v := .a _) rfl) ?_
  refine RK.val guard_none (op_extract rfl (v := .c _) rfl) ?_
  refine RK.alc guard_none (op_alloc hT rfl rfl) ?_
  refine RK.sto guard_none (op_store hT rfl rfl rfl rfl rfl rfl (cs := [_, _]) rfl) ?_
  refine RK.val guard_none (op_assign (rfl : _ = AV.p (.c _))) ?_
  refine RK.done (by kernel_rfl) ?_
  refine AWp_seq ?_
  refine AWp_region hP ?_
  refine RK.val guard_none (Eff.call0 (r_Of _ (by first | assumption | decide))) ?_
  refine RK.val guard_none (Eff.call0 e5) ?_
  refine RK.val guard_none (op_move (rfl : _ = AV.t _)) ?_
  refine RK.val guard_none (op_extract rfl (v := .a _) rfl) ?_
  refine RK.val guard_none (op_extract rfl (v := .c _) rfl) ?_
  refine RK.alc guard_none (op_alloc hT rfl rfl) ?_
  refine RK.sto guard_none (op_store hT rfl rfl rfl rfl rfl rfl (cs := [_, _]) rfl) ?_
  refine RK.val guard_none (op_assign (rfl : _ = AV.p (.c _))) ?_
  refine RK.done (by kernel_rfl) ?_
  refine AWp_seq ?_
  refine AWp_region hP ?_
  refine RK.val guard_none (Eff.call0 (r_Of _ (by first | assumption | decide))) ?_
  refine RK.val guard_none (Eff.call0 (r_Of _ (by first | assumption | decide))) ?_
  refine RK.val guard_none (Eff.call0 e6) ?_
  refine RK.val guard_none (op_move (rfl : _ = AV.t _)) ?_
  refine RK.val guard_none (op_extract rfl (v := .a _) rfl) ?_
  refine RK.val guard_none (op_extract rfl (v := .c _) rfl) ?_
  refine RK.alc guard_none (op_alloc hT rfl rfl) ?_
  refine RK.sto guard_none (op_store hT rfl rfl rfl rfl rfl rfl (cs := [_, _]) rfl) ?_
  refine RK.val guard_none (op_assign (rfl : _ = AV.p (.c _))) ?_
  refine RK.done (by kernel_rfl) ?_
  refine AWp_seq ?_
  refine AWp_region hP ?_
  refine RK.val guard_none (Eff.call0 (r_Of _ (by first | assumption | decide))) ?_
  refine RK.val guard_none (Eff.call0 e7) ?_
  refine RK.val guard_none (op_move (rfl : _ = AV.t _)) ?_
  refine RK.val guard_none (op_extract rfl (v := .c _) rfl) ?_
  refine RK.val guard_none (op_extract rfl (v := .c _) rfl) ?_
  refine RK.val guard_none (op_assign (rfl : _ = AV.p (.c _))) ?_
  refine RK.val guard_none (op_assign (rfl : _ = AV.p (.c _))) ?_
  refine RK.done (by kernel_rfl) ?_
  refine AWp_seq ?_
  refine AWp_region hP ?_
  refine RK.val guard_none (Eff.call0 (r_Of _ (by first | assumption | decide))) ?_
  refine RK.val guard_none (Eff.call0 e8) ?_
  refine RK.val guard_none (op_move (rfl : _ = AV.t _)) ?_
  refine RK.val guard_none (op_extract rfl (v := .c _) rfl) ?_
  refine RK.val guard_none (op_extract rfl (v := .c _) rfl) ?_
  refine RK.val guard_none (op_assign (rfl : _ = AV.p (.c _))) ?_
  refine RK.val guard_none (op_assign (rfl : _ = AV.p (.c _))) ?_
  refine RK.done (by kernel_rfl) ?_
  refine AWp_seq ?_
  refine AWp_seq ?_
  refine AWp_region hP ?_
  refine RK.val guard_none (op_move (rfl : _ = AV.p (.c _))) ?_
  refine RK.val guard_none (op_neq rfl rfl) ?_
  refine RK.val guard_none (op_move (rfl : _ = AV.p (.c _))) ?_
  refine RK.val (guard_yes rfl rfl rfl) (op_move (rfl : _ = AV.p (.c _))) ?_
  refine RK.val (guard_yes rfl rfl rfl) (op_neq rfl rfl) ?_
  refine RK.val guard_none (op_pick_f rfl rfl (rfl : _ = AV.p (.c _))) ?_
  refine RK.val guard_none (op_move (rfl : _ = AV.p (.c _))) ?_
  refine RK.val (guard_yes rfl rfl rfl) (op_move (rfl : _ = AV.p (.c _))) ?_
  refine RK.val (guard_yes rfl rfl rfl) (op_neq rfl rfl) ?_
  refine RK.val guard_none (op_pick_f rfl rfl (rfl : _ = AV.p (.c _))) ?_
  refine RK.val guard_none (op_move (rfl : _ = AV.p (.c _))) ?_
  refine RK.val (guard_yes rfl rfl rfl) (op_move (rfl : _ = AV.p (.c _))) ?_
  refine RK.val (guard_yes rfl rfl rfl) (op_neq rfl rfl) ?_
  refine RK.val guard_none (op_pick_f rfl rfl (rfl : _ = AV.p (.c _))) ?_
  refine RK.val guard_none (op_move (rfl : _ = AV.p (.c _))) ?_
  refine RK.val (guard_yes rfl rfl rfl) (op_move (rfl : _ = AV.p (.c _))) ?_
  refine RK.val (guard_yes rfl rfl rfl) (op_neq rfl rfl) ?_
  refine RK.val guard_none (op_pick_f rfl rfl (rfl : _ = AV.p (.c _))) ?_
  refine RK.val guard_none (op_move (rfl : _ = AV.p (.c _))) ?_
  refine RK.val (guard_yes rfl rfl rfl) (op_move (rfl : _ = AV.p (.c _))) ?_
  refine RK.val (guard_yes rfl rfl rfl) (op_neq rfl rfl) ?_
  refine RK.val guard_none (op_pick_f rfl rfl (rfl : _ = AV.p (.c _))) ?_
  refine RK.val guard_none (op_move (rfl : _ = AV.p (.c _))) ?_
  refine RK.val (guard_yes rfl rfl rfl) (op_move (rfl : _ = AV.p (.c _))) ?_
  refine RK.val (guard_yes rfl rfl rfl) (op_neq rfl rfl) ?_
  refine RK.val guard_none (op_pick_f rfl rfl (rfl : _ = AV.p (.c _))) ?_
  refine RK.val guard_none (op_move (rfl : _ = AV.p (.c _))) ?_
  refine RK.val (guard_yes rfl rfl rfl) (op_move (rfl : _ = AV.p (.c _))) ?_
  refine RK.val (guard_yes rfl rfl rfl) (op_neq rfl rfl) ?_
  refine RK.val guard_none (op_pick_f rfl rfl (rfl : _ = AV.p (.c _))) ?_
  refine RK.val guard_none (op_move (rfl : _ = AV.p (.c _))) ?_
  refine RK.val (guard_yes rfl rfl rfl) (op_move (rfl : _ = AV.p (.c _))) ?_
  refine RK.val (guard_yes rfl rfl rfl) (op_neq rfl rfl) ?_
  refine RK.val guard_none (op_pick_f rfl rfl (rfl : _ = AV.p (.c _))) ?_
  refine RK.done (by kernel_rfl) ?_
  refine AWp_cond_false rfl rfl ?_
  refine AWp_skip ?_
  refine AWp_seq ?_
  refine AWp_region hP ?_
  refine RK.val guard_none (op_move (rfl : _ = AV.p (.c _))) ?_
  refine RK.val guard_none (Eff.call0 (r8_Of _ _ _ (by first | assumption | decide) (by first | assumption | decide) (by first | assumption | decide))) ?_
  refine RK.val guard_none (Eff.call0 (r8_Of _ _ _ (by first | assumption | decide) (by first | assumption | decide) (by first | assumption | decide))) ?_
  refine RK.val guard_none (Eff.call0 (r8_Of _ _ _ (by first | assumption | decide) (by first | assumption | decide) (by first | assumption | decide))) ?_
  refine RK.val guard_none (op_bslice hT rfl rfl rfl (es := [_, _, _, _, _, _, _, _, _, _, _, _, _, _, _, _, _, _]) rfl rfl rfl) ?_
  refine RK.val guard_none (Eff.call0 sa) ?_
  refine RK.val guard_none (op_move (rfl : _ = AV.p (.c _))) ?_
  refine RK.val (guard_yes rfl rfl rfl) (op_move (rfl : _ = AV.p (.c _))) ?_
  refine RK.val (guard_yes rfl rfl rfl) (Eff.call0 (r8_Of _ _ _ (by first | assumption | decide) (by first | assumption | decide) (by first | assumption | decide))) ?_
  refine RK.val (guard_yes rfl rfl rfl) (Eff.call0 (r8_Of _ _ _ (by first | assumption | decide) (by first | assumption | decide) (by first | assumption | decide))) ?_
  refine RK.val (guard_yes rfl rfl rfl) (op_bslice hT rfl rfl rfl (es := [_, _, _, _, _, _, _, _, _, _, _, _]) rfl rfl rfl) ?_
  refine RK.val (guard_yes rfl rfl rfl) (Eff.call0 sb) ?_
  refine RK.val guard_none (op_pick_t rfl rfl (rfl : _ = AV.p (.c _))) ?_
  refine RK.val guard_none (op_move (rfl : _ = AV.p (.c _))) ?_
  refine RK.val (guard_yes rfl rfl rfl) (op_load_agg hT rfl rfl rfl rfl (cs := [_, _]) rfl rfl) ?_
  refine RK.val (guard_yes rfl rfl rfl) (Eff.call0 (r_Of _ (by first | assumption | decide))) ?_
  refine RK.val (guard_yes rfl rfl rfl) (Eff.call0 (r_Same _ _)) ?_
  refine RK.val guard_none (op_pick_t rfl rfl (rfl : _ = AV.p (.c _))) ?_
  refine RK.val guard_none (op_move (rfl : _ = AV.p (.c _))) ?_
  refine RK.val (guard_yes rfl rfl rfl) (op_load_agg hT rfl rfl rfl rfl (cs := [_, _]) rfl rfl) ?_
  refine RK.val (guard_yes rfl rfl rfl) (Eff.call0 (r_Of _ (by first | assumption | decide))) ?_
  refine RK.val (guard_yes rfl rfl rfl) (Eff.call0 (r_Same _ _)) ?_
  refine RK.val guard_none (op_pick_t rfl rfl (rfl : _ = AV.p (.c _))) ?_
  refine RK.val guard_none (op_move (rfl : _ = AV.p (.c _))) ?_
  refine RK.val (guard_yes rfl rfl rfl) (op_load_agg hT rfl rfl rfl rfl (cs := [_, _]) rfl rfl) ?_
  refine RK.val (guard_yes rfl rfl rfl) (Eff.call0 (r_Of _ (by first | assumption | decide))) ?_
  refine RK.val (guard_yes rfl rfl rfl) (Eff.call0 (r_Same _ _)) ?_
  refine RK.val guard_none (op_pick_t rfl rfl (rfl : _ = AV.p (.c _))) ?_
  refine RK.val guard_none (op_assign (rfl : _ = AV.p (.c _))) ?_
  refine RK.done (by kernel_rfl) ?_
  refine AWp_ret ?_
  refine ends_one rfl (.inr rfl) (res_tmp rfl) ?_ O_ends
  exact .refl _

/- algorist/algoristlaw11.CountKronecker -/
set_option maxHeartbeats 4000000 in
set_option maxRecDepth 100000 in
theorem l_CountKronecker (D : Nat) (_hD : D < 65536) :
    Call0 Tryd.prog 6 [.p (.c (.v (.int .u16 (D : Int))))] (B true) := by
  have d1 := Int.emod_nonneg (D : Int) (show (250 : Int) ≠ 0 by omega)
  have d2 := Int.emod_lt_of_pos (D : Int) (show (0 : Int) < 250 by omega)
  refine callM_of (np := 0) Tryd.func6 (by kernel_rfl) rfl rfl (Nat.le_of_ble_eq_true rfl) (fun m h => absurd rfl h) (fun m h => absurd rfl h) rfl ?_
  refine AWp_seq ?_
  refine AWp_region hP ?_
  refine RK.val guard_none (op_assign (rfl : _ = AV.p (.c _))) ?_
  refine RK.done (by kernel_rfl) ?_
  refine AWp_seq ?_
  refine AWp_region hP ?_
  refine RK.val guard_none (Eff.call0 l_examples) ?_
  refine RK.val guard_none (op_assign (rfl : _ = AV.p (.c _))) ?_
  refine RK.done (by kernel_rfl) ?_
  refine AWp_seq ?_
  refine AWp_seq ?_
  refine AWp_region hP ?_
  refine RK.val guard_none (op_move (rfl : _ = AV.p (.c _))) ?_
  refine RK.val guard_none (op_unot rfl) ?_
  refine RK.done (by kernel_rfl) ?_
  refine AWp_cond_false rfl rfl ?_
  refine AWp_skip ?_
  refine AWp_seq ?_
  refine AWp_region hP ?_
  refine RK.val guard_none (op_move (rfl : _ = AV.p (.c _))) ?_
  refine RK.val guard_none (op_rem rfl rfl (by decide) (c := (D : Int) % 250) (Int.tmod_eq_emod_of_nonneg (by omega))) ?_
  refine RK.val guard_none (op_conv hT rfl rfl rfl rfl (IntWalk.i64_in _ (by omega))) ?_
  refine RK.val guard_none (op_add rfl rfl (by first | exact IntWalk.i64_in _ (by omega) | rfl)) ?_
  refine RK.val guard_none (op_assign (rfl : _ = AV.p (.c _))) ?_
  refine RK.done (by kernel_rfl) ?_
  refine AWp_seq ?_
  refine AWp_block ?_
  refine AWp_loop (ι := Int) (fun p => stL [(3, .p (.c (.v (.bool true)))), (4, Z p)] []) (fun p => 2 ≤ p ∧ p ≤ 251) (fun p => (251 - p).toNat) (2 + (D : Int) % 250) (by omega) (le_stL ⟨.refl _, .refl _, trivial⟩ trivial) ?_
  rintro p ⟨hp1, hp2⟩
  refine AWp_seq ?_
  refine AWp_seq ?_
  refine AWp_region hP ?_
  refine RK.val guard_none (op_move (rfl : _ = AV.p (.c _))) ?_
  refine RK.val guard_none (Eff.call0 (r3_IsPrime _ (by omega) (by omega))) ?_
  refine RK.val guard_none (op_unot rfl) ?_
  refine RK.done (by kernel_rfl) ?_
  refine AWp_cond rfl (fun hb1 => ?_) (fun hb1 => ?_)
  · have hb1_ := (notT hb1)
    refine AWp_skip ?_
    refine AWp_block ?_
    refine AWp_region hP ?_
    refine RK.val guard_none (op_move (rfl : _ = AV.p (.c _))) ?_
    refine RK.val guard_none (op_add rfl rfl (by first | exact IntWalk.i64_in _ (by omega) | rfl)) ?_
    refine RK.val guard_none (op_assign (rfl : _ = AV.p (.c _))) ?_
    refine RK.done (by kernel_rfl) ?_
    have hne : p ≠ 251 := fun e => by
      rw [e, prime251] at hb1
      cases hb1
    refine ⟨p + 1, by omega, by omega, le_stL ⟨.refl _, .refl _, trivial⟩ trivial⟩
  · have hb1_ := (notF hb1)
    have hpr := notF hb1
    refine AWp_exit ?_
    refine AWp_seq ?_
    refine AWp_region hP ?_
    refine RK.val guard_none (Eff.call0 (r_Of 0 (by decide))) ?_
    refine RK.alc guard_none (op_alloc hT rfl rfl) ?_
    refine RK.sto guard_none (op_store hT rfl rfl rfl rfl rfl rfl (cs := [_, _]) rfl) ?_
    refine RK.done (by kernel_rfl) ?_
    refine AWp_seq ?_
    refine AWp_seq ?_
    refine AWp_region hP ?_
    refine RK.val guard_none (op_move (rfl : _ = AV.p (.c _))) ?_
    refine RK.val guard_none (op_mul rfl rfl (by first | exact IntWalk.i64_in _ (by omega) | rfl)) ?_
    refine RK.val guard_none (op_assign (rfl : _ = AV.p (.c _))) ?_
    refine RK.done (by kernel_rfl) ?_
    refine AWp_block ?_
    refine AWp_loop (ι := Nat) (fun k => stL [(3, .p (.c (.v (.bool true)))), (4, Z p), (5, .loc 5 0), (6, Z (-2 * p + (k : Int)))] [(5, ⟨false, 1, 35, [zn (kS hzV p k), zm (kS hzV p k)]⟩)]) (fun k => (k : Int) ≤ 4 * p + 1) (fun k => (4 * p + 1 - k).toNat) 0 (by omega) (le_stL ⟨.refl _, .refl _, .refl _, Sub.int (by omega), trivial⟩ ⟨rfl, trivial⟩) ?_
    intro k hk
    have hS := kS_b p k
    have qt := sq_b (x := (-2 * p + (k : Int))) (m := 503) (by omega)
    refine AWp_seq ?_
    refine AWp_seq ?_
    refine AWp_region hP ?_
    refine RK.val guard_none (op_move (rfl : _ = AV.p (.c _))) ?_
    refine RK.val guard_none (op_move (rfl : _ = AV.p (.c _))) ?_
    refine RK.val guard_none (op_mul rfl rfl (by first | exact IntWalk.i64_in _ (by omega) | rfl)) ?_
    refine RK.val guard_none (op_leq rfl rfl) ?_
    refine RK.done (by kernel_rfl) ?_
    refine AWp_cond rfl (fun hb2 => ?_) (fun hb2 => ?_)
    · have hb2_ := of_decide_eq_true hb2
      refine AWp_skip ?_
      refine AWp_seq ?_
      refine AWp_block ?_
      refine AWp_seq ?_
      refine AWp_seq ?_
      refine AWp_region hP ?_
      refine RK.val guard_none (op_move (rfl : _ = AV.p (.c _))) ?_
      refine RK.val guard_none (op_move (rfl : _ = AV.p (.c _))) ?_
      refine RK.val guard_none (op_mul rfl rfl (by first | exact IntWalk.i64_in _ (by omega) | rfl)) ?_
      refine RK.val guard_none (op_move (rfl : _ = AV.p (.c _))) ?_
      refine RK.val guard_none (op_mul rfl rfl (by first | exact IntWalk.i64_in _ (by omega) | rfl)) ?_
      refine RK.val guard_none (op_gtr rfl rfl) ?_
      refine RK.done (by kernel_rfl) ?_
      refine AWp_cond rfl (fun hb3 => ?_) (fun hb3 => ?_)
      · have hb3_ := of_decide_eq_true hb3
        refine AWp_exit ?_
        refine AWp_region hP ?_
        refine RK.val guard_none (op_move (rfl : _ = AV.p (.c _))) ?_
        refine RK.val guard_none (op_add rfl rfl (by first | exact IntWalk.i64_in _ (by omega) | rfl)) ?_
        refine RK.val guard_none (op_assign (rfl : _ = AV.p (.c _))) ?_
        refine RK.done (by kernel_rfl) ?_
        refine ⟨k + 1, by omega, by omega, le_stL ⟨.refl _, .refl _, .refl _, Sub.int (by omega), trivial⟩ ⟨Eq.trans rfl (congrArg (fun x => some (⟨false, 1, 35, [zn x, zm x]⟩ : Blk)) (kS_skip hb3_)), trivial⟩⟩
      · have hb3_ := of_decide_eq_false hb3
        have he := hz_small (m := 4 * p - (-2 * p + (k : Int)) * (-2 * p + (k : Int))) (by omega) (by omega)
        have hv := hzV_b (4 * p - (-2 * p + (k : Int)) * (-2 * p + (k : Int)))
        have ia : LB (kS hzV p k) 6 := ⟨by unfold L; omega⟩
        have ib : LB (hzV (4 * p - (-2 * p + (k : Int)) * (-2 * p + (k : Int)))) 6 := ⟨by unfold L; omega⟩
        refine AWp_skip ?_
        refine AWp_seq ?_
        refine AWp_region hP ?_
        refine RK.val guard_none (op_move (rfl : _ = AV.p (.c _))) ?_
        refine RK.val guard_none (op_mul rfl rfl (by first | exact IntWalk.i64_in _ (by omega) | rfl)) ?_
        refine RK.val guard_none (op_move (rfl : _ = AV.p (.c _))) ?_
        refine RK.val guard_none (op_move (rfl : _ = AV.p (.c _))) ?_
        refine RK.val guard_none (op_mul rfl rfl (by first | exact IntWalk.i64_in _ (by omega) | rfl)) ?_
        refine RK.val guard_none (op_sub rfl rfl (by first | exact IntWalk.i64_in _ (by omega) | rfl)) ?_
        refine RK.val guard_none (Eff.call0 (r_Of _ (by unfold InI64; omega))) ?_
        refine RK.val guard_none (Eff.call0 (c_Hurwitz _ (by omega))) ?_
        refine RK.val guard_none (op_move (rfl : _ = AV.t _)) ?_
        refine RK.val guard_none (op_extract rfl (v := .a _) rfl) ?_
        refine RK.val guard_none (op_extract rfl (v := .c _) rfl) ?_
        refine RK.alc guard_none (op_alloc hT rfl rfl) ?_
        refine RK.sto guard_none (op_store hT rfl rfl rfl rfl rfl rfl (cs := [_, _]) rfl) ?_
        refine RK.val guard_none (op_assign (rfl : _ = AV.p (.c _))) ?_
        refine RK.done (by kernel_rfl) ?_
        refine AWp_seq ?_
        refine AWp_seq ?_
        refine AWp_region hP ?_
        refine RK.val guard_none (op_move (rfl : _ = AV.p (.c _))) ?_
        refine RK.val guard_none (op_neq rfl rfl) ?_
        refine RK.done (by kernel_rfl) ?_
        refine AWp_cond_false rfl (by rw [he]; rfl) ?_
        refine AWp_skip ?_
        refine AWp_region hP ?_
        refine RK.val guard_none (op_load_agg hT rfl rfl rfl rfl (cs := [_, _]) rfl rfl) ?_
        refine RK.val guard_none (op_load_agg hT rfl rfl rfl rfl (cs := [_, _]) rfl rfl) ?_
        refine RK.val guard_none (Eff.call0 (r_Add _ _ lz lz)) ?_
        refine RK.sto guard_none (op_store hT rfl rfl rfl rfl rfl rfl (cs := [_, _]) rfl) ?_
        refine RK.done (by kernel_rfl) ?_
        refine AWp_region hP ?_
        refine RK.val guard_none (op_move (rfl : _ = AV.p (.c _))) ?_
        refine RK.val guard_none (op_add rfl rfl (by first | exact IntWalk.i64_in _ (by omega) | rfl)) ?_
        refine RK.val guard_none (op_assign (rfl : _ = AV.p (.c _))) ?_
        refine RK.done (by kernel_rfl) ?_
        refine ⟨k + 1, by omega, by omega, le_stL ⟨.refl _, .refl _, .refl _, Sub.int (by omega), trivial⟩ ⟨Eq.trans rfl (congrArg (fun x => some (⟨false, 1, 35, [zn x, zm x]⟩ : Blk)) (kS_add hb3_)), trivial⟩⟩
    · have hb2_ := of_decide_eq_false hb2
      have hkk : k = (4 * p + 1).toNat := by omega
      have hfin : decide (kS hzV p k = 24 * p) = true := by rw [hkk]; exact decide_eq_true (kron hp1 hp2 hpr)
      refine AWp_exit ?_
      refine AWp_seq ?_
      refine AWp_region hP ?_
      refine RK.val guard_none (op_load_agg hT rfl rfl rfl rfl (cs := [_, _]) rfl rfl) ?_
      refine RK.val guard_none (op_move (rfl : _ = AV.p (.c _))) ?_
      refine RK.val guard_none (op_mul rfl rfl (by first | exact IntWalk.i64_in _ (by omega) | rfl)) ?_
      refine RK.val guard_none (Eff.call0 (r_Of _ (by unfold InI64; omega))) ?_
      refine RK.val guard_none (Eff.call0 (r_Same _ _)) ?_
      refine RK.val guard_none (op_move (rfl : _ = AV.p (.c _))) ?_
      refine RK.val (guard_yes rfl rfl hfin) (op_move (rfl : _ = AV.p (.c _))) ?_
      refine RK.val guard_none (op_pick_t rfl hfin (rfl : _ = AV.p (.c _))) ?_
      refine RK.val guard_none (op_assign (rfl : _ = AV.p (.c _))) ?_
      refine RK.done (by kernel_rfl) ?_
      refine AWp_ret ?_
      refine ends_one rfl (.inr rfl) (res_tmp rfl) ?_ O_ends
      exact .refl _

end Go.Proofs.YtkdfinfdocdpoaaDoor
end

section
/- Reduced forms by their contents. -/
namespace Go.AM
open Go Go.RowKit
/-- a reduced form of the discriminant -n -/
structure RedT (n : Int) (t : Tr) : Prop where
  a1 : 1 ≤ t.a
  b1 : 1 - t.a ≤ t.b
  b2 : t.b ≤ t.a
  ac : t.a ≤ t.c
  bc : ¬ (t.b < 0 ∧ t.a = t.c)
  ds : 4 * t.a * t.c = t.b * t.b + n
theorem mem_row_of {n a b' : Int} : ∀ (k : Nat) (b : Int), b ≤ b' → b' < b + k → okT n a b' = true → (⟨a, b', (b' * b' + n) / (4 * a)⟩ : Tr) ∈ rowT n a k b
  | 0, b, h, h1, _ => by omega
  | k + 1, b, h, h1, h2 => by
    unfold rowT
    rw [List.mem_append]
    by_cases e : b = b'
    · subst e; rw [if_pos h2]; exact .inl (by simp)
    · exact .inr (mem_row_of k (b + 1) (by omega) (by omega) h2)
theorem sq3_le {a b : Int} (h1 : 1 ≤ a) (h : a ≤ b) : 3 * a * a ≤ 3 * b * b := by
  have : a * a ≤ b * b := Int.mul_le_mul h h (by omega) (by omega)
  rw [Int.mul_assoc, Int.mul_assoc]; omega
theorem mem_all_of {n a' b' : Int} : ∀ (k : Nat) (a : Int), 1 ≤ a → a ≤ a' → a' < a + k → 3 * a' * a' ≤ n → 1 - a' ≤ b' → b' ≤ a' → okT n a' b' = true → (⟨a', b', (b' * b' + n) / (4 * a')⟩ : Tr) ∈ allT n k a
  | 0, a, _, h, h1, _, _, _, _ => by omega
  | k + 1, a, h0, h, h1, h2, h3, h4, h5 => by
    unfold allT
    have h6 := sq3_le h0 h
    rw [if_pos (by omega), List.mem_append]
    by_cases e : a = a'
    · subst e; exact .inl (mem_row_of _ _ h3 (by omega) h5)
    · exact .inr (mem_all_of k (a + 1) (by omega) (by omega) (by omega) h2 h3 h4 h5)
theorem RedT.sq {n : Int} {t : Tr} (h : RedT n t) : 3 * t.a * t.a ≤ n := by
  have h1 := h.ds
  have h2 : t.a * t.a ≤ t.a * t.c := Int.mul_le_mul_of_nonneg_left h.ac (by have := h.a1; omega)
  have h3 := sq_b (x := t.b) (m := t.a) (by have := h.b1; have := h.b2; omega)
  rw [Int.mul_assoc] at h1 ⊢
  omega
theorem okT_iff {n a b : Int} : okT n a b = true ↔ (b * b + n) % (4 * a) = 0 ∧ a ≤ (b * b + n) / (4 * a) ∧ ¬ (b < 0 ∧ a = (b * b + n) / (4 * a)) := by
  unfold okT
  simp only [Bool.and_eq_true, decide_eq_true_iff, Bool.not_eq_true', Bool.and_eq_false_iff, decide_eq_false_iff_not]
  constructor
  · rintro ⟨h1, h2, h3⟩; exact ⟨h1, h2, fun x => h3.elim (fun g => g x.1) (fun g => g x.2)⟩
  · rintro ⟨h1, h2, h3⟩; exact ⟨h1, h2, by by_cases g : b < 0; exact .inr (fun e => h3 ⟨g, e⟩); exact .inl g⟩
theorem trs_iff {n : Int} (hn : n ≤ 4194304) (t : Tr) : t ∈ trs n ↔ RedT n t := by
  constructor
  · intro h
    have k := trs_mem h
    refine ⟨k.a1, k.b1, k.b2, k.ac, k.bc, ?_⟩
    have e := Int.mul_ediv_add_emod (t.b * t.b + n) (4 * t.a)
    rw [k.md, ← k.c] at e
    omega
  · intro h
    have h1 := h.sq
    have h2 := aT_le h.a1 h1 hn
    have hd : (t.b * t.b + n) / (4 * t.a) = t.c := by rw [← h.ds]; exact Int.mul_ediv_cancel_left _ (by have := h.a1; omega)
    have hm : (t.b * t.b + n) % (4 * t.a) = 0 := by rw [← h.ds]; exact Int.mul_emod_right _ _
    have h3 := mem_all_of (n := n) (a' := t.a) (b' := t.b) 2000 1 (by omega) h.a1 (by omega) h1 h.b1 h.b2 (okT_iff.2 ⟨hm, by rw [hd]; exact h.ac, by rw [hd]; exact h.bc⟩)
    rw [hd] at h3
    exact h3
theorem row_nodup {n a : Int} : ∀ (k : Nat) (b : Int), (rowT n a k b).Nodup
  | 0, b => by unfold rowT; exact List.nodup_nil
  | k + 1, b => by
    unfold rowT
    rw [List.nodup_append]
    refine ⟨by split <;> simp, row_nodup k (b + 1), fun x hx y hy e => ?_⟩
    split at hx
    · simp only [List.mem_singleton] at hx
      obtain ⟨b', h1, _, _, rfl⟩ := mem_rowT hy
      subst hx
      have := congrArg Tr.b e
      simp only at this
      omega
    · cases hx
theorem all_nodup {n : Int} : ∀ (k : Nat) (a : Int), 1 ≤ a → (allT n k a).Nodup
  | 0, a, _ => by unfold allT; exact List.nodup_nil
  | k + 1, a, h => by
    unfold allT
    split
    · rw [List.nodup_append]
      refine ⟨row_nodup _ _, all_nodup k (a + 1) (by omega), fun x hx y hy e => ?_⟩
      obtain ⟨b', _, _, _, rfl⟩ := mem_rowT hx
      obtain ⟨a1, b1, g1, _, _, _, _, _, rfl⟩ := mem_allT (by omega) hy
      have := congrArg Tr.a e
      simp only at this
      omega
    · exact List.nodup_nil
theorem trs_nodup (n : Int) : (trs n).Nodup := all_nodup 2000 1 (by omega)
/-- contents -/
def gT (t : Tr) : Nat := Int.gcd (Int.gcd t.a t.b : Nat) t.c
theorem prT_g (t : Tr) : prT t = decide (gT t = 1) := rfl
def sc (m : Int) (t : Tr) : Tr := ⟨m * t.a, m * t.b, m * t.c⟩
theorem gT_sc (m : Nat) (t : Tr) : gT (sc m t) = m * gT t := by
  unfold gT sc
  simp only
  rw [Int.gcd_mul_left, Int.natAbs_natCast, Int.natCast_mul, Int.gcd_mul_left, Int.natAbs_natCast]
theorem gT_dvd (t : Tr) : (gT t : Int) ∣ t.a ∧ (gT t : Int) ∣ t.b ∧ (gT t : Int) ∣ t.c := by
  have h1 : (gT t : Int) ∣ ((Int.gcd t.a t.b : Nat) : Int) := Int.gcd_dvd_left ..
  exact ⟨Int.dvd_trans h1 (Int.gcd_dvd_left ..), Int.dvd_trans h1 (Int.gcd_dvd_right ..), Int.gcd_dvd_right ..⟩
theorem sc_red {m N : Int} {t : Tr} (hm : 1 ≤ m) : RedT (m * m * N) (sc m t) ↔ RedT N t := by
  have e1 : ∀ x y : Int, m * x ≤ m * y ↔ x ≤ y := fun x y => Int.mul_le_mul_left (by omega)
  have e2 : ∀ x y : Int, m * x < m * y ↔ x < y := fun x y => Int.mul_lt_mul_left (by omega)
  have e3 : ∀ x y : Int, m * x = m * y ↔ x = y := fun x y => Int.mul_eq_mul_left_iff (by omega)
  have d : 4 * (m * t.a) * (m * t.c) = m * m * (4 * t.a * t.c) := by simp only [Int.mul_assoc, Int.mul_left_comm, Int.mul_comm]
  have d2 : m * t.b * (m * t.b) + m * m * N = m * m * (t.b * t.b + N) := by
    rw [Int.mul_add]
    congr 1
    simp only [Int.mul_assoc, Int.mul_left_comm]
  have hmm : m * m ≠ 0 := by
    have : 1 * 1 ≤ m * m := Int.mul_le_mul hm hm (by omega) (by omega)
    omega
  constructor
  · rintro ⟨h1, h2, h3, h4, h5, h6⟩
    simp only [sc] at h1 h2 h3 h4 h5 h6
    have a1 : 0 < t.a := by
      have := (e2 0 t.a).1 (by omega)
      exact this
    have b1 : -t.a < t.b := (e2 _ _).1 (by rw [Int.mul_neg]; omega)
    refine ⟨a1, by omega, (e1 _ _).1 h3, (e1 _ _).1 h4, ?_, ?_⟩
    · rintro ⟨g1, g2⟩
      refine h5 ⟨?_, by rw [g2]⟩
      have := (e2 t.b 0).2 g1
      omega
    · rw [d, d2] at h6
      exact Int.eq_of_mul_eq_mul_left hmm h6
  · rintro ⟨h1, h2, h3, h4, h5, h6⟩
    have g1 := (e2 0 t.a).2 (by omega)
    have g2 := (e2 (-t.a) t.b).2 (by omega)
    rw [Int.mul_neg] at g2
    refine ⟨by show 1 ≤ m * t.a; omega, by show 1 - m * t.a ≤ m * t.b; omega, (e1 _ _).2 h3, (e1 _ _).2 h4, ?_, ?_⟩
    · rintro ⟨g3, g4⟩
      have g3' : m * t.b < 0 := g3
      refine h5 ⟨(e2 t.b 0).1 (by omega), (e3 _ _).1 g4⟩
    · show 4 * (m * t.a) * (m * t.c) = m * t.b * (m * t.b) + m * m * N
      rw [d, d2, h6]
theorem red_mod {n : Int} {t : Tr} (h : RedT n t) : n % 4 = 0 ∨ n % 4 = 3 := by
  have h1 := h.ds
  rw [Int.mul_assoc] at h1
  have h2 : t.b % 2 = 0 ∨ t.b % 2 = 1 := by omega
  generalize t.a * t.c = x at h1
  rcases h2 with g | g
  · obtain ⟨q, hq⟩ : ∃ q, t.b = 2 * q := ⟨t.b / 2, by omega⟩
    have e : t.b * t.b = 4 * (q * q) := by rw [hq, Int.mul_assoc, Int.mul_left_comm q 2 q]; omega
    omega
  · obtain ⟨q, hq⟩ : ∃ q, t.b = 2 * q + 1 := ⟨t.b / 2, by omega⟩
    have e : t.b * t.b = 4 * (q * q) + 4 * q + 1 := by
      have e0 : 2 * q * (2 * q) = 4 * (q * q) := by rw [Int.mul_assoc, Int.mul_left_comm q 2 q]; omega
      rw [hq, Int.mul_add, Int.add_mul, e0, Int.mul_one, Int.one_mul]; omega
    omega
theorem red_pos {n : Int} {t : Tr} (h : RedT n t) : 0 < n := by
  have h1 := h.sq
  have h2 := sq3_le (show (1 : Int) ≤ 1 by omega) h.a1
  omega
theorem red_isD {n : Int} {t : Tr} (h : RedT n t) : isD n = true := by
  unfold isD
  rw [decide_eq_true (red_pos h), Bool.true_and, Bool.or_eq_true, decide_eq_true_iff, decide_eq_true_iff]
  exact red_mod h
theorem sc_div {t : Tr} {m : Int} (h1 : m ∣ t.a) (h2 : m ∣ t.b) (h3 : m ∣ t.c) : ∃ s, t = sc m s := by
  obtain ⟨x, hx⟩ := h1
  obtain ⟨y, hy⟩ := h2
  obtain ⟨z, hz⟩ := h3
  exact ⟨⟨x, y, z⟩, by cases t; simp_all [sc]⟩
theorem sc_n {n m : Int} {s : Tr} (h : RedT n (sc m s)) : n = m * m * (4 * s.a * s.c - s.b * s.b) := by
  have h1 := h.ds
  simp only [sc] at h1
  have d : 4 * (m * s.a) * (m * s.c) = m * m * (4 * s.a * s.c) := by simp only [Int.mul_assoc, Int.mul_left_comm, Int.mul_comm]
  have d2 : m * s.b * (m * s.b) = m * m * (s.b * s.b) := by simp only [Int.mul_assoc, Int.mul_left_comm]
  rw [d, d2] at h1
  rw [Int.mul_sub]
  omega
/-- whether m is asked -/
def asks (n m : Int) : Bool := decide (n % (m * m) = 0) && isD (n / (m * m))
theorem mm_pos {m : Int} (h : 1 ≤ m) : 1 ≤ m * m := by
  have : 1 * 1 ≤ m * m := Int.mul_le_mul h h (by omega) (by omega)
  omega
theorem part_iff {n : Int} {m : Nat} (hm : 1 ≤ m) (hn : n ≤ 4194304) (hn0 : 0 ≤ n) (t : Tr) :
    (t ∈ trs n ∧ gT t = m) ↔ asks n m = true ∧ ∃ s, s ∈ (trs (n / (m * m))).filter prT ∧ sc m s = t := by
  have hmm := mm_pos (m := (m : Int)) (by omega)
  have hq : n / ((m : Int) * m) ≤ 4194304 := Int.le_trans (Int.ediv_le_self _ hn0) hn
  rw [trs_iff hn]
  constructor
  · rintro ⟨h, hg⟩
    obtain ⟨d1, d2, d3⟩ := gT_dvd t
    rw [hg] at d1 d2 d3
    obtain ⟨s, rfl⟩ := sc_div d1 d2 d3
    have e := sc_n h
    generalize 4 * s.a * s.c - s.b * s.b = N at e
    subst e
    have hd : (m : Int) * m * N / ((m : Int) * m) = N := Int.mul_ediv_cancel_left _ (by omega)
    have hr := (sc_red (m := (m : Int)) (by omega)).1 h
    rw [gT_sc] at hg
    have hg1 : gT s = 1 := Nat.eq_of_mul_eq_mul_left (show 0 < m by omega) (by omega)
    refine ⟨?_, s, ?_, rfl⟩
    · unfold asks; rw [hd, red_isD hr, decide_eq_true (Int.mul_emod_right _ _)]; rfl
    · rw [hd, List.mem_filter, trs_iff (by rw [← hd]; exact hq), prT_g]
      exact ⟨hr, decide_eq_true hg1⟩
  · rintro ⟨ha, s, hs, rfl⟩
    unfold asks at ha
    rw [Bool.and_eq_true, decide_eq_true_iff] at ha
    have e := Int.mul_ediv_add_emod n ((m : Int) * m)
    rw [ha.1, Int.add_zero] at e
    rw [List.mem_filter, trs_iff hq, prT_g, decide_eq_true_iff] at hs
    refine ⟨?_, by rw [gT_sc, hs.2, Nat.mul_one]⟩
    rw [← e]
    exact (sc_red (by omega)).2 hs.1
theorem sc_inj {m : Int} (hm : 1 ≤ m) {s t : Tr} (h : sc m s = sc m t) : s = t := by
  have e3 : ∀ x y : Int, m * x = m * y → x = y := fun x y => (Int.mul_eq_mul_left_iff (by omega)).1
  unfold sc at h
  cases s; cases t
  simp only [Tr.mk.injEq] at h ⊢
  exact ⟨e3 _ _ h.1, e3 _ _ h.2.1, e3 _ _ h.2.2⟩
/-- the primitive ones of the quotient -/
def prs (n : Int) (m : Nat) : List Tr := if asks n m = true then (trs (n / ((m : Int) * m))).filter prT else []
theorem part_perm {n : Int} {m : Nat} (hm : 1 ≤ m) (hn : n ≤ 4194304) (hn0 : 0 ≤ n) :
    ((trs n).filter fun t => decide (gT t = m)).Perm ((prs n m).map (sc m)) := by
  refine (List.perm_ext_iff_of_nodup ?_ ?_).2 (fun t => ?_)
  · exact (trs_nodup n).filter _
  · refine List.Pairwise.map (R := (· ≠ ·)) _ (fun a b h e => h (sc_inj (by omega) e)) ?_
    unfold prs
    split
    · exact (trs_nodup _).filter _
    · exact List.Pairwise.nil
  · rw [List.mem_filter, decide_eq_true_iff, part_iff hm hn hn0, List.mem_map]
    unfold prs
    by_cases h : asks n m = true
    · rw [if_pos h]; exact ⟨fun x => x.2, fun x => ⟨h, x⟩⟩
    · rw [if_neg h]; constructor
      · intro x; exact absurd x.1 h
      · rintro ⟨s, hs, _⟩; cases hs
theorem sumI_perm {l m : List Int} (h : l.Perm m) : sumI l = sumI m := by
  induction h with
  | nil => rfl
  | cons x _ ih => simp only [sumI, ih]
  | swap x y l => simp only [sumI]; omega
  | trans _ _ h1 h2 => exact h1.trans h2
/-- sums over 1 .. k -/
def bigS (f : Nat → Int) : Nat → Int
  | 0 => 0
  | k + 1 => bigS f k + f (k + 1)
theorem bigS_add (f g : Nat → Int) : ∀ k, bigS (fun i => f i + g i) k = bigS f k + bigS g k
  | 0 => rfl
  | k + 1 => by simp only [bigS, bigS_add f g k]; omega
theorem bigS_zero : ∀ k, bigS (fun _ => 0) k = 0
  | 0 => rfl
  | k + 1 => by simp only [bigS, bigS_zero k]; rfl
theorem bigS_congr {f g : Nat → Int} : ∀ {k : Nat}, (∀ i, 1 ≤ i → i ≤ k → f i = g i) → bigS f k = bigS g k
  | 0, _ => rfl
  | k + 1, h => by
    simp only [bigS]
    rw [bigS_congr (k := k) (fun i a b => h i a (by omega)), h (k + 1) (by omega) (by omega)]
theorem bigS_one (g : Nat) (x : Int) : ∀ k, bigS (fun i => if g = i then x else 0) k = if 1 ≤ g ∧ g ≤ k then x else 0
  | 0 => by rw [if_neg (by omega)]; rfl
  | k + 1 => by
    simp only [bigS]
    rw [bigS_one g x k]
    by_cases h : g = k + 1
    · subst h; rw [if_neg (by omega), if_pos rfl, if_pos (by omega)]; omega
    · rw [if_neg h]
      by_cases h1 : 1 ≤ g ∧ g ≤ k
      · rw [if_pos h1, if_pos (by omega)]; omega
      · rw [if_neg h1, if_neg (by omega)]; rfl
theorem sum_split (T : Tr → Int) (k : Nat) : ∀ (l : List Tr), (∀ t ∈ l, 1 ≤ gT t ∧ gT t ≤ k) → sumI (l.map T) = bigS (fun i => sumI ((l.filter fun t => decide (gT t = i)).map T)) k
  | [], _ => by
    simp only [List.filter_nil, List.map_nil, sumI]
    exact (bigS_zero k).symm
  | t :: l, h => by
    have h1 := sum_split T k l (fun x hx => h x (List.mem_cons_of_mem _ hx))
    have h2 := h t (List.mem_cons_self)
    have e : ∀ i, sumI (((t :: l).filter fun t => decide (gT t = i)).map T) = (if gT t = i then T t else 0) + sumI ((l.filter fun t => decide (gT t = i)).map T) := fun i => by
      rw [List.filter_cons]
      by_cases g : gT t = i
      · rw [if_pos (decide_eq_true g), if_pos g]; rfl
      · rw [if_neg (by simpa using g), if_neg g]; omega
    rw [bigS_congr (fun i _ _ => e i), bigS_add, bigS_one, if_pos h2, ← h1]
    rfl
theorem gT_le {n : Int} {t : Tr} {k : Nat} (h : RedT n t) (hk : n < ((k : Int) + 1) * (k + 1)) : 1 ≤ gT t ∧ gT t ≤ k := by
  obtain ⟨d1, d2, d3⟩ := gT_dvd t
  have h0 : 1 ≤ gT t := by
    rcases Nat.eq_zero_or_pos (gT t) with g | g
    · rw [g] at d1
      have := h.a1
      have := Int.zero_dvd.1 d1
      omega
    · exact g
  refine ⟨h0, ?_⟩
  obtain ⟨s, hs⟩ := sc_div d1 d2 d3
  rw [hs] at h
  have e := sc_n h
  have hp := red_pos h
  generalize 4 * s.a * s.c - s.b * s.b = N at e
  generalize gT t = g at *
  rcases Nat.lt_or_ge k g with hlt | hge
  · have h3 : ((k : Int) + 1) * (k + 1) ≤ (g : Int) * g := Int.mul_le_mul (by omega) (by omega) (by omega) (by omega)
    have h4 : 1 ≤ N := by
      rcases Int.lt_or_le N 1 with q | q
      · have := Int.mul_nonpos_of_nonneg_of_nonpos (show 0 ≤ (g : Int) * g from Int.mul_nonneg (by omega) (by omega)) (show N ≤ 0 by omega)
        omega
      · exact q
    have h5 : (g : Int) * g * 1 ≤ (g : Int) * g * N := Int.mul_le_mul_of_nonneg_left h4 (Int.mul_nonneg (by omega) (by omega))
    omega
  · exact hge
theorem part_sum {n : Int} {k : Nat} (T : Tr → Int) (hn : n ≤ 4194304) (hn0 : 0 ≤ n) (hk : n < ((k : Int) + 1) * (k + 1)) :
    sumI ((trs n).map T) = bigS (fun i => sumI ((prs n i).map fun s => T (sc i s))) k := by
  rw [sum_split T k (trs n) (fun t ht => gT_le ((trs_iff hn t).1 ht) hk)]
  refine bigS_congr (fun i h1 h2 => ?_)
  rw [sumI_perm ((part_perm h1 hn hn0).map T), List.map_map]
  rfl
end Go.AM
end

section
/- The sums over the quotients by squares. -/
namespace Go.AM
open Go Go.RowKit
def wN (n : Int) : Int := if n = 3 then 4 else if n = 4 then 6 else 12
theorem wT_sc {m : Int} (hm : 1 ≤ m) (t : Tr) : wT (sc m t) = wT t := by
  have e3 : ∀ x y : Int, m * x = m * y ↔ x = y := fun x y => Int.mul_eq_mul_left_iff (by omega)
  have e0 : ∀ x : Int, m * x = 0 ↔ x = 0 := fun x => by have := e3 x 0; rwa [Int.mul_zero] at this
  unfold wT sc
  simp only [e3, e0]
theorem wT_prim {n : Int} {t : Tr} (h : RedT n t) (hg : gT t = 1) : wT t = wN n := by
  have ha := h.a1; have hb := h.b1; have hb2 := h.b2; have hc := h.ac; have hd := h.ds; have hs := h.sq
  have key : n = 3 ∨ n = 4 → t.a = 1 := fun hn => by
    rcases Int.lt_or_le 1 t.a with g | g
    · have := sq3_le (show (1 : Int) ≤ 2 by omega) (show 2 ≤ t.a by omega)
      omega
    · omega
  have k3 : n = 3 → t.a = t.b ∧ t.b = t.c := fun hn => by
    have a1 := key (.inl hn)
    rw [a1] at hd hb hb2 ⊢
    rcases (show t.b = 0 ∨ t.b = 1 by omega) with g | g <;> rw [g] at hd ⊢ <;> omega
  have k4 : n = 4 → t.b = 0 ∧ t.a = t.c := fun hn => by
    have a1 := key (.inr hn)
    rw [a1] at hd hb hb2 ⊢
    rcases (show t.b = 0 ∨ t.b = 1 by omega) with g | g <;> rw [g] at hd ⊢ <;> omega
  unfold wT
  by_cases c1 : t.a = t.b ∧ t.b = t.c
  · rw [if_pos c1]
    have e : gT t = t.a.natAbs := by
      unfold gT; rw [← c1.1, Int.gcd_self, ← c1.2, ← c1.1]
      show Nat.gcd _ _ = _
      rw [Int.natAbs_natCast, Nat.gcd_self]
    have a1 : t.a = 1 := by omega
    rw [← c1.2, ← c1.1, a1] at hd
    have : n = 3 := by omega
    unfold wN; rw [if_pos this]
  · rw [if_neg c1]
    have n3 : n ≠ 3 := fun e => c1 (k3 e)
    by_cases c2 : t.b = 0 ∧ t.a = t.c
    · rw [if_pos c2]
      have e : gT t = t.a.natAbs := by
        unfold gT; rw [c2.1, Int.gcd_zero_right, ← c2.2]
        show Nat.gcd _ _ = _
        rw [Int.natAbs_natCast, Nat.gcd_self]
      have a1 : t.a = 1 := by omega
      rw [c2.1, ← c2.2, a1] at hd
      have : n = 4 := by omega
      unfold wN; rw [if_neg n3, if_pos this]
    · rw [if_neg c2]
      have n4 : n ≠ 4 := fun e => c2 (k4 e)
      unfold wN; rw [if_neg n3, if_neg n4]
theorem sumI_const {l : List Tr} {T : Tr → Int} {w : Int} (h : ∀ t ∈ l, T t = w) : sumI (l.map T) = w * (l.length : Nat) := by
  induction l with
  | nil => simp [sumI]
  | cons x l ih =>
    simp only [List.map_cons, sumI]
    rw [ih (fun t ht => h t (List.mem_cons_of_mem _ ht)), h x List.mem_cons_self, List.length_cons, Int.natCast_add, Int.mul_add]
    simp; omega
/-- a term of the law -/
def hTm (n m : Int) : Int := if asks n m = true then wN (n / (m * m)) * cls (n / (m * m)) else 0
def hS (n m : Int) : Int := bigS (fun i => hTm n (i : Int)) (m - 1).toNat
theorem bigS_next {f : Nat → Int} {m : Int} (h : 1 ≤ m) : bigS f (m + 1 - 1).toNat = bigS f (m - 1).toNat + f m.toNat := by
  rw [show (m + 1 - 1).toNat = (m - 1).toNat + 1 by omega, bigS, show (m - 1).toNat + 1 = m.toNat by omega]
theorem hS_next {n m : Int} (h : 1 ≤ m) : hS n (m + 1) = hS n m + hTm n m := by
  unfold hS; rw [bigS_next h, Int.toNat_of_nonneg (by omega)]
theorem hS_1 (n : Int) : hS n 1 = 0 := rfl
theorem m_le44 {n m : Int} (_h1 : 1 ≤ m) (h : m * m ≤ n) (hn : n ≤ 2003) : m ≤ 44 := by
  rcases Int.lt_or_le 44 m with g | g
  · have : (45 : Int) * 45 ≤ m * m := Int.mul_le_mul (by omega) (by omega) (by omega) (by omega)
    omega
  · exact g
theorem hTm_b (n m : Int) : 0 ≤ hTm n m ∧ hTm n m ≤ 96048000 := by
  unfold hTm
  have h := cls_b (n / (m * m))
  have hw : wN (n / (m * m)) = 4 ∨ wN (n / (m * m)) = 6 ∨ wN (n / (m * m)) = 12 := by
    unfold wN; split
    · exact .inl rfl
    · split
      · exact .inr (.inl rfl)
      · exact .inr (.inr rfl)
  split
  · rcases hw with e | e | e <;> rw [e] <;> omega
  · omega
theorem bigS_b {f : Nat → Int} {B : Int} (h : ∀ i, 0 ≤ f i ∧ f i ≤ B) : ∀ k : Nat, 0 ≤ bigS f k ∧ bigS f k ≤ B * k
  | 0 => by simp [bigS]
  | k + 1 => by
    have h1 := bigS_b h k
    have h2 := h (k + 1)
    simp only [bigS]
    rw [Int.natCast_add, Int.mul_add]
    simp only [Int.natCast_one, Int.mul_one]
    omega
theorem hS_b {n m : Int} (h : 1 ≤ m) : 0 ≤ hS n m ∧ hS n m ≤ 96048000 * (m - 1) := by
  have := bigS_b (fun i => hTm_b n (i : Int)) (m - 1).toNat
  rw [Int.toNat_of_nonneg (by omega)] at this
  exact this
theorem hz_hws {n : Int} (h1 : 1 ≤ n) (h2 : n ≤ 4194304) : hzV n = hws n := by
  unfold hzV
  rw [hz_small (by omega) h2, if_neg (by simp), if_neg (by omega)]
  split
  · rename_i g
    have : trs n = [] := by
      rw [List.eq_nil_iff_forall_not_mem]
      intro t ht
      have := red_mod ((trs_iff h2 t).1 ht)
      omega
    unfold hws; rw [this]; rfl
  · rfl
theorem hurw {n m : Int} (h1 : 1 ≤ n) (h2 : n ≤ 4194304) (hm : 1 ≤ m) (h : n < m * m) : hS n m = hzV n := by
  rw [hz_hws h1 h2]
  unfold hws hS
  have e : (((m - 1).toNat : Nat) : Int) + 1 = m := by omega
  rw [part_sum (k := (m - 1).toNat) wT h2 (by omega) (by rw [e]; exact h)]
  symm
  refine bigS_congr (fun i h3 h4 => ?_)
  have hq : n / ((i : Int) * i) ≤ 4194304 := Int.le_trans (Int.ediv_le_self _ (by omega)) h2
  rw [sumI_const (w := wN (n / ((i : Int) * i))) ?_]
  · unfold prs hTm cls
    split <;> simp
  · intro t ht
    unfold prs at ht
    split at ht
    · rw [List.mem_filter, trs_iff hq, prT_g, decide_eq_true_iff] at ht
      rw [wT_sc (by omega), wT_prim ht.1 ht.2]
    · cases ht
theorem asks_mk {n m : Int} (h : n % (m * m) = 0) (h1 : isD (n / (m * m)) = true) : asks n m = true := by unfold asks; rw [h1, decide_eq_true h]; rfl
theorem hS_no1 {n m : Int} (hm : 1 ≤ m) (h : n % (m * m) ≠ 0) : hS n m = hS n (m + 1) := by
  rw [hS_next hm]; unfold hTm asks; rw [decide_eq_false h]; simp
theorem hS_no2 {n m : Int} (hm : 1 ≤ m) (h : isD (n / (m * m)) = false) : hS n m = hS n (m + 1) := by
  rw [hS_next hm]; unfold hTm asks; rw [h]; simp
theorem hS_w {n m w : Int} (hm : 1 ≤ m) (h : n % (m * m) = 0) (h1 : isD (n / (m * m)) = true) (hw : wN (n / (m * m)) = w) : hS n m + w * cls (n / (m * m)) = hS n (m + 1) := by
  rw [hS_next hm]; unfold hTm; rw [asks_mk h h1, if_pos rfl, hw]
theorem wN_3 {n : Int} (h : n = 3) : wN n = 4 := by unfold wN; rw [if_pos h]
theorem wN_4 {n : Int} (h : n ≠ 3) (h1 : n = 4) : wN n = 6 := by unfold wN; rw [if_neg h, if_pos h1]
theorem wN_e {n : Int} (h : n ≠ 3) (h1 : n ≠ 4) : wN n = 12 := by unfold wN; rw [if_neg h, if_neg h1]
theorem szE_isD {n : Int} (h : isD n = true) (hn : n ≤ 4194304) : szE (-n) = 0 := by
  unfold isD at h
  rw [Bool.and_eq_true, Bool.or_eq_true, decide_eq_true_iff, decide_eq_true_iff, decide_eq_true_iff] at h
  unfold szE
  rw [if_neg (by omega), if_neg (by omega)]
theorem clE_isD {n : Int} (h : isD n = true) (hn : n ≤ 4194304) : clE (-n) = cls n := by
  unfold clE; rw [if_pos (szE_isD h hn), Int.neg_neg]
end Go.AM
end

section
/- Contents, plainly. -/
namespace Go.AM
open Go Go.RowKit
def prG (f : Fm) : Bool := prim f.a f.b f.c
theorem prG_fm (t : Tr) : prG t.fm = prT t := by
  unfold prG prim prT Tr.fm
  rw [Bool.eq_iff_iff, decide_eq_true_iff, decide_eq_true_iff]
  have e : Int.gcd t.a (Int.gcd t.b t.c : Int) = Int.gcd (Int.gcd t.a t.b : Nat) t.c := by
    unfold Int.gcd
    simp only [Int.natAbs_natCast, Nat.gcd_assoc]
  simp only
  rw [e]
theorem LW_pr (n : Int) : LW n prG = ((trs n).filter prT).map Tr.fm := by
  unfold LW
  rw [List.filter_map]
  congr 1
  refine List.filter_congr (fun t _ => prG_fm t)
theorem LW_all (n : Int) : LW n (fun _ => true) = (trs n).map Tr.fm := by
  unfold LW
  exact List.filter_eq_self.2 (fun _ _ => rfl)
theorem LW_len (n : Int) (p : Fm → Bool) : (LW n p).length ≤ 8004000 := by
  unfold LW
  have h1 := List.length_filter_le p ((trs n).map Tr.fm)
  rw [List.length_map] at h1
  have := trs_len n
  omega
theorem fm_inj {s t : Tr} (h : s.fm = t.fm) : s = t := by
  cases s; cases t
  simp only [Tr.fm, Fm.mk.injEq] at h ⊢
  exact Tr.mk.injEq .. ▸ h
theorem filter_one {f : Fm} : ∀ {l : List Fm}, l.Nodup → f ∈ l → (l.filter (eqG f)).length = 1
  | [], _, h => by cases h
  | x :: l, hd, h => by
    rw [List.nodup_cons] at hd
    rw [List.filter_cons]
    by_cases e : x = f
    · subst e
      rw [if_pos (eqG_iff.2 rfl), List.length_cons]
      have : l.filter (eqG x) = [] := by
        rw [List.filter_eq_nil_iff]
        intro y hy hq
        rw [eqG_iff] at hq
        subst hq
        exact hd.1 hy
      rw [this]; rfl
    · rw [if_neg (fun g => e (eqG_iff.1 g))]
      rcases List.mem_cons.1 h with g | g
      · exact absurd g.symm e
      · exact filter_one hd.2 g
/-- a form of the quotient, m times, is one of all -/
theorem tms_one {n m : Int} (hm : 1 ≤ m) (hn : n ≤ 4194304) (hn0 : 0 ≤ n) (ha : asks n m = true) {p : Fm} (hp : p ∈ LW (n / (m * m)) prG) :
    tms (LW n (fun _ => true)) ⟨m * p.a, m * p.b, m * p.c⟩ = 1 := by
  rw [LW_pr, List.mem_map] at hp
  obtain ⟨s, hs, rfl⟩ := hp
  obtain ⟨k, rfl⟩ := Int.eq_ofNat_of_zero_le (show 0 ≤ m by omega)
  have h := (part_iff (m := k) (by omega) hn hn0 (sc k s)).2 ⟨ha, s, hs, rfl⟩
  unfold tms
  rw [LW_all, filter_one]
  · rfl
  · exact List.Pairwise.map (R := (· ≠ ·)) _ (fun a b h e => h (fm_inj e)) (trs_nodup n)
  · exact List.mem_map.2 ⟨_, h.1, rfl⟩
theorem getD_mem {l : List Fm} {k : Nat} (h : (k : Int) < l.length) : l.getD k ⟨0, 0, 0⟩ ∈ l := by
  rw [List.getD_eq_getElem?_getD, List.getElem?_eq_getElem (by omega), Option.getD_some]
  exact List.getElem_mem _
theorem LW_bound {n : Int} {q : Fm → Bool} {p : Fm} (h : p ∈ LW n q) (hn : n ≤ 4194304) : (0 < p.a ∧ p.a ≤ 2000) ∧ (-2000 ≤ p.b ∧ p.b ≤ 2000) ∧ 0 < p.c ∧ p.c ≤ 10000000 := by
  unfold LW at h
  obtain ⟨t, ht, rfl⟩ := List.mem_map.1 (List.mem_filter.1 h).1
  exact trs_bound ht hn
def cTm (n m : Int) : Int := if asks n m = true then ((LW (n / (m * m)) prG).length : Nat) else 0
def cS (n m : Int) : Int := bigS (fun i => cTm n (i : Int)) (m - 1).toNat
theorem cS_next {n m : Int} (h : 1 ≤ m) : cS n (m + 1) = cS n m + cTm n m := by
  unfold cS; rw [bigS_next h, Int.toNat_of_nonneg (by omega)]
theorem cTm_b (n m : Int) : 0 ≤ cTm n m ∧ cTm n m ≤ 8004000 := by
  unfold cTm
  have h := LW_len (n / (m * m)) prG
  split <;> omega
theorem cS_b {n m : Int} (h : 1 ≤ m) : 0 ≤ cS n m ∧ cS n m ≤ 8004000 * (m - 1) := by
  have := bigS_b (fun i => cTm_b n (i : Int)) (m - 1).toNat
  rw [Int.toNat_of_nonneg (by omega)] at this
  exact this
theorem cS_no1 {n m : Int} (hm : 1 ≤ m) (h : n % (m * m) ≠ 0) : cS n m = cS n (m + 1) := by
  rw [cS_next hm]; unfold cTm asks; rw [decide_eq_false h]; simp
theorem cS_no2 {n m : Int} (hm : 1 ≤ m) (h : isD (n / (m * m)) = false) : cS n m = cS n (m + 1) := by
  rw [cS_next hm]; unfold cTm asks; rw [h]; simp
theorem cS_w {n m : Int} (hm : 1 ≤ m) (h : asks n m = true) : cS n m + ((LW (n / (m * m)) prG).length : Nat) = cS n (m + 1) := by
  rw [cS_next hm]; unfold cTm; rw [if_pos h]
theorem contents_all {n m : Int} (h1 : 1 ≤ n) (h2 : n ≤ 4194304) (hm : 1 ≤ m) (h : n < m * m) : cS n m = ((LW n (fun _ => true)).length : Nat) := by
  have e : (((m - 1).toNat : Nat) : Int) + 1 = m := by omega
  have h3 := part_sum (n := n) (k := (m - 1).toNat) (fun _ => 1) h2 (by omega) (by rw [e]; exact h)
  rw [sumI_const (w := 1) (fun _ _ => rfl), Int.one_mul] at h3
  rw [LW_all, List.length_map, h3]
  unfold cS
  refine bigS_congr (fun i h4 h5 => ?_)
  rw [sumI_const (w := 1) (fun _ _ => rfl), Int.one_mul]
  unfold cTm prs
  rw [LW_pr, List.length_map]
  split <;> rfl
end Go.AM
end

section
/- Conductors, plainly. -/
namespace Go.AM
open Go Go.RowKit
theorem nsq4 (v : Nat) (h : v % 2 = 1) : (v * v) % 4 = 1 := by
  rw [Nat.mul_mod]
  rcases (show v % 4 = 1 ∨ v % 4 = 3 by omega) with e | e <;> rw [e]
theorem nmul4 (r s : Nat) (h : s % 4 = 1) : (r * s) % 4 = r % 4 := by rw [Nat.mul_mod, h]; simp
theorem con_nt {M h W q : Nat} (hM0 : 0 < M) (hh : 0 < h) (e : M * (h * h) = W * W * q) (hq : q % 4 = 0 ∨ q % 4 = 3) (hM : M % 4 = 0 ∨ M % 4 = 3)
    (mx : ∀ u r, M = u * u * r → (r % 4 = 0 ∨ r % 4 = 3) → u ≤ 1) : W ≤ h := by
  obtain ⟨u, v, hc, hw, hv⟩ := Nat.exists_coprime W h
  have hg : 0 < Nat.gcd W h := Nat.gcd_pos_of_pos_right _ hh
  generalize Nat.gcd W h = g at hw hv hg
  have hgg : 0 < g * g := Nat.mul_pos hg hg
  have e1 : (M * (v * v)) * (g * g) = (u * u * q) * (g * g) := by
    have a1 : M * (h * h) = (M * (v * v)) * (g * g) := by rw [hv]; simp only [Nat.mul_assoc, Nat.mul_left_comm]
    have a2 : W * W * q = (u * u * q) * (g * g) := by rw [hw]; simp only [Nat.mul_left_comm, Nat.mul_comm]
    rw [← a1, ← a2, e]
  have e2 : M * (v * v) = u * u * q := Nat.eq_of_mul_eq_mul_right hgg e1
  have hcc : Nat.Coprime (u * u) (v * v) := Nat.Coprime.mul_left (Nat.Coprime.mul_right hc hc) (Nat.Coprime.mul_right hc hc)
  have hd : u * u ∣ M := hcc.dvd_of_dvd_mul_right (show u * u ∣ M * (v * v) from ⟨q, e2⟩)
  obtain ⟨r, hr⟩ := hd
  have hv0 : 0 < v := by
    rcases Nat.eq_zero_or_pos v with z | z
    · rw [z, Nat.zero_mul] at hv; omega
    · exact z
  have hu0 : 0 < u * u := by
    rcases Nat.eq_zero_or_pos (u * u) with z | z
    · rw [z, Nat.zero_mul] at hr; omega
    · exact z
  have e3 : r * (v * v) = q := by
    rw [hr, Nat.mul_assoc] at e2
    exact Nat.eq_of_mul_eq_mul_left hu0 e2
  by_cases hr4 : r % 4 = 0 ∨ r % 4 = 3
  · have h1 := mx u r hr hr4
    rw [hw, hv]
    have : u * g ≤ 1 * g := Nat.mul_le_mul_right g h1
    have : 1 * g ≤ v * g := Nat.mul_le_mul_right g hv0
    omega
  · exfalso
    rcases Nat.mod_two_eq_zero_or_one v with v2 | v2
    · rcases Nat.mod_two_eq_zero_or_one u with u2 | u2
      · have d1 : 2 ∣ Nat.gcd u v := Nat.dvd_gcd (Nat.dvd_of_mod_eq_zero u2) (Nat.dvd_of_mod_eq_zero v2)
        rw [hc] at d1
        exact absurd (Nat.le_of_dvd (by omega) d1) (by omega)
      · rw [hr, Nat.mul_comm, nmul4 _ _ (nsq4 u u2)] at hM
        exact hr4 hM
    · rw [← e3, nmul4 _ _ (nsq4 v v2)] at hq
      exact hr4 hq
section
variable {n : Int}
theorem cdGo_mem : ∀ (u : Nat) (k f : Int), cdGo n u k f = f ∨ (k ≤ cdGo n u k f ∧ cdB n (cdGo n u k f) = true)
  | 0, k, f => .inl rfl
  | u + 1, k, f => by
    unfold cdGo
    split
    · rcases cdGo_mem u (k + 1) (if cdB n k then k else f) with h | h
      · by_cases g : cdB n k = true
        · rw [if_pos g] at h ⊢; rw [h]; exact .inr ⟨Int.le_refl _, g⟩
        · rw [if_neg g] at h ⊢; exact .inl h
      · exact .inr ⟨by omega, h.2⟩
    · exact .inl rfl
theorem cdGo_ge {u : Nat} {k f : Int} (h : f < k) : f ≤ cdGo n u k f := by
  rcases cdGo_mem (n := n) u k f with e | e <;> omega
theorem cdGo_max : ∀ (u : Nat) (k f j : Int), 1 ≤ k → f < k → k ≤ j → j < k + u → j * j ≤ n → cdB n j = true → j ≤ cdGo n u k f
  | 0, k, f, j, _, _, h, h1, _, _ => by omega
  | u + 1, k, f, j, hk, hf, h, h1, h2, h3 => by
    unfold cdGo
    have h4 : k * k ≤ j * j := Int.mul_le_mul h h (by omega) (by omega)
    rw [if_pos (by omega)]
    by_cases e : k = j
    · subst e
      rw [if_pos h3]
      exact cdGo_ge (by omega)
    · refine cdGo_max u (k + 1) _ j (by omega) ?_ (by omega) (by omega) h2 h3
      split <;> omega
end
theorem cdB_iff {n k : Int} (hk : 1 ≤ k) : cdB n k = true ↔ ∃ q, n = k * k * q ∧ (q % 4 = 0 ∨ q % 4 = 3) := by
  have hkk := mm_pos hk
  unfold cdB
  rw [Bool.and_eq_true, Bool.or_eq_true, decide_eq_true_iff, decide_eq_true_iff, decide_eq_true_iff]
  constructor
  · rintro ⟨h1, h2⟩
    have e := Int.mul_ediv_add_emod n (k * k)
    rw [h1, Int.add_zero] at e
    exact ⟨_, e.symm, h2⟩
  · rintro ⟨q, rfl, h⟩
    rw [Int.mul_emod_right, Int.mul_ediv_cancel_left _ (by omega)]
    exact ⟨rfl, h⟩
theorem sq_le_n {k q n : Int} (hk : 1 ≤ k) (e : n = k * k * q) (hn : 0 < n) : k * k ≤ n ∧ 1 ≤ q := by
  have hkk := mm_pos hk
  have hq : 1 ≤ q := by
    rcases Int.lt_or_le q 1 with g | g
    · have := Int.mul_nonpos_of_nonneg_of_nonpos (show 0 ≤ k * k by omega) (show q ≤ 0 by omega)
      omega
    · exact g
  have : k * k * 1 ≤ k * k * q := Int.mul_le_mul_of_nonneg_left hq (by omega)
  exact ⟨by omega, hq⟩
theorem cdF_max {n j q : Int} (hn : 0 < n) (hn2 : n ≤ 4194304) (hj : 1 ≤ j) (e : n = j * j * q) (hq : q % 4 = 0 ∨ q % 4 = 3) : j ≤ cdF n := by
  have h1 := (sq_le_n hj e hn).1
  have hb := (cdB_iff hj).2 ⟨q, e, hq⟩
  unfold cdF
  by_cases g : j = 1
  · subst g; exact cdGo_ge (by omega)
  · have := cd_le (show 2 ≤ j by omega) h1 hn2
    exact cdGo_max 2100 2 1 j (by omega) (by omega) (by omega) (by omega) h1 hb
theorem isD_iff {n : Int} : isD n = true ↔ 0 < n ∧ (n % 4 = 0 ∨ n % 4 = 3) := by
  unfold isD; rw [Bool.and_eq_true, Bool.or_eq_true, decide_eq_true_iff, decide_eq_true_iff, decide_eq_true_iff]
theorem cdF_good {n : Int} (h : isD n = true) : 1 ≤ cdF n ∧ ∃ q, n = cdF n * cdF n * q ∧ isD q = true := by
  rw [isD_iff] at h
  have h1 : 1 ≤ cdF n := cdGo_ge (by omega)
  refine ⟨h1, ?_⟩
  have h2 : cdB n (cdF n) = true := by
    rcases cdGo_mem (n := n) 2100 2 1 with e | e
    · have e' : cdF n = 1 := e
      rw [e', cdB_iff (by omega)]
      exact ⟨n, by omega, h.2⟩
    · exact e.2
  obtain ⟨q, e, hq⟩ := (cdB_iff h1).1 h2
  exact ⟨q, e, isD_iff.2 ⟨(sq_le_n h1 e h.1).2, hq⟩⟩
/-- the conductor of a quotient by the square of the conductor -/
theorem cdF_fund {n q : Int} (h : isD n = true) (hn : n ≤ 4194304) (e : n = cdF n * cdF n * q) (hq : isD q = true) : cdF q = 1 := by
  have h1 := (cdF_good h).1
  obtain ⟨g1, r, er, hr⟩ := cdF_good hq
  rw [isD_iff] at h hr
  have e2 : n = (cdF n * cdF q) * (cdF n * cdF q) * r := by
    have : (cdF n * cdF q) * (cdF n * cdF q) * r = cdF n * cdF n * (cdF q * cdF q * r) := by simp only [Int.mul_assoc, Int.mul_left_comm]
    rw [this, ← er]; exact e
  have h2 : 1 * 1 ≤ cdF n * cdF q := Int.mul_le_mul h1 g1 (by omega) (by omega)
  have h3 := cdF_max h.1 hn (by omega) e2 hr.2
  have h4 : cdF n * 1 ≤ cdF n * cdF q := Int.mul_le_mul_of_nonneg_left g1 (by omega)
  rcases Int.lt_or_le 1 (cdF q) with g | g
  · have h5 : cdF n * 2 ≤ cdF n * cdF q := Int.mul_le_mul_of_nonneg_left (by omega) (by omega)
    omega
  · omega
theorem cdF_mul {M h : Int} (hM : isD M = true) (h1 : cdF M = 1) (hh : 1 ≤ h) (hb : M * (h * h) ≤ 4194304) (hM2 : M ≤ 4194304) : isD (M * (h * h)) = true ∧ cdF (M * (h * h)) = h := by
  have hMi := isD_iff.1 hM
  have hhh := mm_pos hh
  have hpos : 0 < M * (h * h) := Int.mul_pos hMi.1 (by omega)
  have hD : isD (M * (h * h)) = true := by
    rw [isD_iff]
    refine ⟨hpos, ?_⟩
    rw [Int.mul_emod]
    have : (h * h) % 4 = 0 ∨ (h * h) % 4 = 1 := by
      rw [Int.mul_emod]
      have := Int.emod_nonneg h (show (4 : Int) ≠ 0 by omega)
      have := Int.emod_lt_of_pos h (show (0 : Int) < 4 by omega)
      rcases (show h % 4 = 0 ∨ h % 4 = 1 ∨ h % 4 = 2 ∨ h % 4 = 3 by omega) with e | e | e | e <;> rw [e] <;> decide
    rcases this with e | e <;> rw [e] <;> omega
  refine ⟨hD, ?_⟩
  have low : h ≤ cdF (M * (h * h)) := cdF_max hpos hb hh (by rw [Int.mul_comm]) hMi.2
  obtain ⟨w1, q, eq, hq⟩ := cdF_good hD
  have hqi := isD_iff.1 hq
  generalize cdF (M * (h * h)) = W at low w1 eq
  obtain ⟨m, rfl⟩ := Int.eq_ofNat_of_zero_le (show 0 ≤ M by omega)
  obtain ⟨a, rfl⟩ := Int.eq_ofNat_of_zero_le (show 0 ≤ h by omega)
  obtain ⟨w, rfl⟩ := Int.eq_ofNat_of_zero_le (show 0 ≤ W by omega)
  obtain ⟨r, rfl⟩ := Int.eq_ofNat_of_zero_le (show 0 ≤ q by omega)
  have en : m * (a * a) = w * w * r := by exact_mod_cast eq
  have := con_nt (M := m) (h := a) (W := w) (q := r) (by omega) (by omega) en (by omega) (by omega) (fun u s es hs => by
    rcases Nat.eq_zero_or_pos u with z | z
    · omega
    · have := cdF_max (n := (m : Int)) (j := (u : Int)) (q := (s : Int)) (by omega) hM2 (by omega) (by exact_mod_cast es) (by omega)
      rw [h1] at this
      omega)
  omega
theorem szE_of_isD {d n : Int} (e : d = -n) (h : isD n = true) (hn : n ≤ 4194304) : szE d = 0 := by rw [e]; exact szE_isD h hn
theorem cd_of {d n q f : Int} (e : d = -n) (h : isD n = true) (hn : n ≤ 4194304) (hf : cdF n = f) (hf1 : 1 ≤ f) (hq : n = f * f * q) : szE d = 0 ∧ cdD d = -q ∧ cdV d = f := by
  have hs := szE_of_isD e h hn
  have hff := mm_pos hf1
  refine ⟨hs, ?_, ?_⟩
  · unfold cdD; rw [if_pos hs, e, Int.neg_neg, hf]
    rw [hq, Int.mul_ediv_cancel_left _ (by omega)]
  · unfold cdV; rw [if_pos hs, e, Int.neg_neg, hf]
theorem cd_all {N g : Int} (hN : isD N = true) (hb : N ≤ 2003) (hg : 1 ≤ g ∧ g ≤ 30) :
    ∃ M F : Int, (1 ≤ M ∧ M ≤ 2003) ∧ (1 ≤ F ∧ F ≤ 2003) ∧ -M * (F * F) = -N ∧ (szE (-N) = 0 ∧ cdD (-N) = -M ∧ cdV (-N) = F) ∧ (szE (-M) = 0 ∧ cdD (-M) = -M ∧ cdV (-M) = 1) ∧
      (szE (-N * (g * g)) = 0 ∧ cdD (-N * (g * g)) = -M ∧ cdV (-N * (g * g)) = F * g) := by
  obtain ⟨h1, M, e, hM⟩ := cdF_good hN
  have hf := cdF_fund hN (by omega) e hM
  generalize hF : cdF N = F at h1 e hf
  have hNi := isD_iff.1 hN
  have hMi := isD_iff.1 hM
  have hFF := mm_pos h1
  have b1 := sq_le_n h1 e hNi.1
  have b2 : M ≤ N := by
    have : 1 * M ≤ F * F * M := Int.mul_le_mul_of_nonneg_right hFF (by omega)
    omega
  have b3 : F * 1 ≤ F * F := Int.mul_le_mul_of_nonneg_left h1 (by omega)
  have hgs := sq_b (x := g) (m := 30) (by omega)
  have hFg : 1 * 1 ≤ F * g := Int.mul_le_mul h1 hg.1 (by omega) (by omega)
  have eg : M * (F * g * (F * g)) = N * (g * g) := by rw [e]; simp only [Int.mul_assoc, Int.mul_left_comm]
  have hng : N * (g * g) ≤ 2003 * (30 * 30) := Int.mul_le_mul hb hgs.2 hgs.1 (by omega)
  have hm := cdF_mul hM hf (show 1 ≤ F * g by omega) (by rw [eg]; omega) (by omega)
  rw [eg] at hm
  refine ⟨M, F, by omega, by omega, ?_, cd_of rfl hN (by omega) hF h1 e, cd_of rfl hM (by omega) hf (by omega) (by omega), cd_of (by rw [Int.neg_mul]) hm.1 (by omega) hm.2 (by omega) ?_⟩
  · rw [Int.neg_mul, e, Int.mul_comm]
  · rw [← eg, Int.mul_comm]
end Go.AM
end

section
/- Numbers of any size: read low, refused. -/
namespace Go.AM
open Go Go.RowKit
theorem lwO_yes {a : Int} (h : -9223372036854775808 ≤ a ∧ a < 9223372036854775808) : lwO a = true ∧ lwV a = a := by
  have e : lwO a = true := by unfold lwO; rw [decide_eq_true_iff]; exact h
  exact ⟨e, by unfold lwV; rw [if_pos e]⟩
theorem lwO_iff {a : Int} : lwO a = true ↔ -9223372036854775808 ≤ a ∧ a < 9223372036854775808 := by unfold lwO; rw [decide_eq_true_iff]
theorem lwO_f {a : Int} (h : lwO a = false) : ¬ (-9223372036854775808 ≤ a ∧ a < 9223372036854775808) := by unfold lwO at h; rwa [decide_eq_false_iff_not] at h
/-- what a law wants of a number that is refused -/
theorem szE_cases (d : Int) : szE d = 5 ∧ (0 ≤ d ∨ d % 4 > 1) ∨ szE d = 2 ∧ d < 0 ∧ d % 4 ≤ 1 ∧ -d > 4194304 ∨ szE d = 0 ∧ d < 0 ∧ d % 4 ≤ 1 ∧ -d ≤ 4194304 := by
  unfold szE
  by_cases h : 0 ≤ d ∨ d % 4 > 1
  · rw [if_pos h]; exact .inl ⟨rfl, h⟩
  · rw [if_neg h]
    by_cases h1 : -d > 4194304
    · rw [if_pos h1]; exact .inr (.inl ⟨rfl, by omega, by omega, h1⟩)
    · rw [if_neg h1]; exact .inr (.inr ⟨rfl, by omega, by omega, by omega⟩)
theorem rtE_0 {d : Int} (h : szE d = 0) (f : Int) (hf : f < 1) : rtE d f = 1 := by
  unfold rtE; rw [if_neg (by omega), if_pos hf]
theorem rtE_big {d : Int} (h : szE d = 0) (h3 : d < 0) : rtE d 4096 = 2 := by
  have e : szE (d * (4096 * 4096)) = 2 := by
    unfold szE
    rw [if_neg (by omega), if_pos (by omega)]
  unfold rtE; rw [if_neg (by omega), if_neg (by omega), e]
end Go.AM
end

section
/- The lists of reduced forms: sorted, reduced, complete. -/
namespace Go.AM
open Go Go.RowKit
theorem RedT.dsc {n : Int} {t : Tr} (h : RedT n t) : dsc t.a t.b t.c = -n := by
  have := h.ds
  unfold AM.dsc; omega
theorem RedT.pos {n : Int} {t : Tr} (h : RedT n t) : t.fm.pos := by
  refine ⟨by have := h.a1; show 0 < t.a; omega, ?_⟩
  show AM.dsc t.a t.b t.c < 0
  rw [h.dsc]
  have := red_pos h
  omega
theorem RedT.rd {n : Int} {t : Tr} (h : RedT n t) : Rd t.fm := by
  obtain ⟨h1, h2, h3, h4, h5, h6⟩ := h
  refine ⟨by show 0 < t.a; omega, by show (t.b.natAbs : Int) ≤ t.a; omega, h4, ?_⟩
  show ((t.b.natAbs : Int) < t.a ∧ t.a < t.c) ∨ 0 ≤ t.b
  by_cases g : t.b < 0
  · exact .inl ⟨by omega, by
      rcases Int.lt_or_le t.a t.c with q | q
      · exact q
      · exact absurd ⟨g, by omega⟩ h5⟩
  · exact .inr (by omega)
theorem RedT.rdd {n : Int} {t : Tr} (h : RedT n t) : rdd t.a t.b t.c = true := by
  have hr := h.rd
  exact (red_iff h.pos).2 ⟨hr.b, hr.c, hr.s⟩
theorem Rd.redT {f : Fm} (h : Rd f) : RedT (-(AM.dsc f.a f.b f.c)) ⟨f.a, f.b, f.c⟩ := by
  have h1 := h.a
  have h2 := h.b
  have h3 := h.c
  have h4 := h.s
  refine ⟨by show 1 ≤ f.a; omega, by show 1 - f.a ≤ f.b; omega, by show f.b ≤ f.a; omega, h3, ?_, ?_⟩
  · rintro ⟨g1, g2⟩
    have g1' : f.b < 0 := g1
    have g2' : f.a = f.c := g2
    omega
  · show 4 * f.a * f.c = f.b * f.b + -(AM.dsc f.a f.b f.c)
    unfold AM.dsc; omega
theorem LW_mem {n : Int} {q : Fm → Bool} {f : Fm} (hn : n ≤ 4194304) : f ∈ LW n q ↔ RedT n ⟨f.a, f.b, f.c⟩ ∧ q f = true := by
  unfold LW
  rw [List.mem_filter, List.mem_map]
  constructor
  · rintro ⟨⟨t, ht, rfl⟩, hq⟩
    exact ⟨(trs_iff hn t).1 ht, hq⟩
  · rintro ⟨h, hq⟩
    exact ⟨⟨_, (trs_iff hn _).2 h, rfl⟩, hq⟩
theorem LW_nodup (n : Int) (q : Fm → Bool) : (LW n q).Nodup := by
  unfold LW
  refine List.Pairwise.filter _ ?_
  exact List.Pairwise.map (R := (· ≠ ·)) _ (fun a b h e => h (fm_inj e)) (trs_nodup n)
theorem filter_none {f : Fm} {l : List Fm} (h : f ∉ l) : (l.filter (eqG f)).length = 0 := by
  have : l.filter (eqG f) = [] := by
    rw [List.filter_eq_nil_iff]
    intro y hy hq
    rw [eqG_iff] at hq
    subst hq
    exact h hy
  rw [this]; rfl
theorem tms_LW {n : Int} {q : Fm → Bool} {f : Fm} (hn : n ≤ 4194304) (h : RedT n ⟨f.a, f.b, f.c⟩) : tms (LW n q) f = if q f = true then 1 else 0 := by
  unfold tms
  by_cases hq : q f = true
  · rw [filter_one (LW_nodup n q) ((LW_mem hn).2 ⟨h, hq⟩), if_pos hq]; rfl
  · rw [filter_none (fun g => hq ((LW_mem hn).1 g).2), if_neg hq]; rfl
/-- a right form's reduced form is one of all, and, if it is primitive, one of the primitive ones -/
theorem comp_all {g : Fm} (hg : g.pos) (hn : -(AM.dsc g.a g.b g.c) ≤ 4194304) :
    tms (LW (-(AM.dsc g.a g.b g.c)) (fun _ => true)) (rdF g.a g.b g.c) = 1 ∧
    tms (LW (-(AM.dsc g.a g.b g.c)) prG) (rdF g.a g.b g.c) = if prim g.a g.b g.c = true then 1 else 0 := by
  obtain ⟨M, hM, e⟩ := rdF_app hg
  have hr := Rd.rdF hg
  have hd : AM.dsc (rdF g.a g.b g.c).a (rdF g.a g.b g.c).b (rdF g.a g.b g.c).c = AM.dsc g.a g.b g.c := by rw [e]; exact disc_T hM
  have hp : prim g.a g.b g.c = prG (rdF g.a g.b g.c) := by rw [e]; exact prim_app g (by rw [hM]; rfl)
  have h1 := hr.redT
  rw [hd] at h1
  constructor
  · rw [tms_LW hn h1, if_pos rfl]
  · rw [tms_LW hn h1, hp]
/-! sorted -/
def lsT (s t : Tr) : Prop := s.a < t.a ∨ s.a = t.a ∧ s.b < t.b
theorem row_lt {n a : Int} : ∀ (k : Nat) (b : Int), (rowT n a k b).Pairwise lsT
  | 0, b => by unfold rowT; exact List.Pairwise.nil
  | k + 1, b => by
    unfold rowT
    rw [List.pairwise_append]
    refine ⟨by split <;> simp, row_lt k (b + 1), fun x hx y hy => ?_⟩
    split at hx
    · simp only [List.mem_singleton] at hx
      obtain ⟨b', h1, _, _, rfl⟩ := mem_rowT hy
      subst hx
      exact .inr ⟨rfl, by show b < b'; omega⟩
    · cases hx
theorem all_lt {n : Int} : ∀ (k : Nat) (a : Int), 1 ≤ a → (allT n k a).Pairwise lsT
  | 0, a, _ => by unfold allT; exact List.Pairwise.nil
  | k + 1, a, h => by
    unfold allT
    split
    · rw [List.pairwise_append]
      refine ⟨row_lt _ _, all_lt k (a + 1) (by omega), fun x hx y hy => ?_⟩
      obtain ⟨b', _, _, _, rfl⟩ := mem_rowT hx
      obtain ⟨a1, b1, g1, _, _, _, _, _, rfl⟩ := mem_allT (by omega) hy
      exact .inl (by show a < a1; omega)
    · exact List.Pairwise.nil
def lsF (f g : Fm) : Bool := decide (f.a < g.a ∨ f.a = g.a ∧ (f.b < g.b ∨ f.b = g.b ∧ f.c < g.c))
theorem LW_lt (n : Int) (q : Fm → Bool) : (LW n q).Pairwise (fun f g => lsF f g = true) := by
  unfold LW
  refine List.Pairwise.filter _ ?_
  refine List.Pairwise.map (R := lsT) _ (fun a b h => ?_) (all_lt 2000 1 (by omega))
  unfold lsF
  rw [decide_eq_true_iff]
  rcases h with h | h
  · exact .inl h
  · exact .inr ⟨h.1, .inl h.2⟩
theorem LW_next {l : List Fm} (h : l.Pairwise (fun f g => lsF f g = true)) {k : Nat} (hk : ((k + 1 : Nat) : Int) < l.length) : lsF (l.getD k ⟨0, 0, 0⟩) (l.getD (k + 1) ⟨0, 0, 0⟩) = true := by
  have h1 := (List.pairwise_iff_getElem.1 h) k (k + 1) (by omega) (by omega) (by omega)
  rw [List.getD_eq_getElem?_getD, List.getD_eq_getElem?_getD, List.getElem?_eq_getElem (by omega), List.getElem?_eq_getElem (by omega)]
  exact h1
theorem LW_facts {n : Int} {q : Fm → Bool} {f : Fm} (hn : n ≤ 4194304) (h : f ∈ LW n q) : rdd f.a f.b f.c = true ∧ dsc f.a f.b f.c = -n := by
  have h1 := ((LW_mem hn).1 h).1
  exact ⟨h1.rdd, h1.dsc⟩
theorem LW_filter (n : Int) : (LW n (fun _ => true)).filter prG = LW n prG := by
  rw [LW_all]; rfl
theorem cls_LW (n : Int) : cls n = ((LW n prG).length : Nat) := by
  rw [LW_pr, List.length_map]; rfl
theorem cls_pos {n : Int} (h : isD n = true) (hn : n ≤ 4194304) : 1 ≤ cls n := by
  have hi := isD_iff.1 h
  have key : ∃ t, RedT n t ∧ gT t = 1 := by
    rcases hi.2 with g | g
    · refine ⟨⟨1, 0, n / 4⟩, ⟨by show (1 : Int) ≤ 1; decide, by show (1 : Int) - 1 ≤ 0; decide, by show (0 : Int) ≤ 1; decide, by show 1 ≤ n / 4; omega, by rintro ⟨x, _⟩; exact absurd (show (0 : Int) < 0 from x) (by decide), by show 4 * 1 * (n / 4) = 0 * 0 + n; omega⟩, ?_⟩
      show Int.gcd ((Int.gcd 1 0 : Nat) : Int) (n / 4) = 1
      rw [show Int.gcd 1 0 = 1 by decide]
      exact Int.one_gcd
    · refine ⟨⟨1, 1, (n + 1) / 4⟩, ⟨by show (1 : Int) ≤ 1; decide, by show (1 : Int) - 1 ≤ 1; decide, by show (1 : Int) ≤ 1; decide, by show 1 ≤ (n + 1) / 4; omega, by rintro ⟨x, _⟩; exact absurd (show (1 : Int) < 0 from x) (by decide), by show 4 * 1 * ((n + 1) / 4) = 1 * 1 + n; omega⟩, ?_⟩
      show Int.gcd ((Int.gcd 1 1 : Nat) : Int) ((n + 1) / 4) = 1
      rw [show Int.gcd 1 1 = 1 by decide]
      exact Int.one_gcd
  obtain ⟨t, h1, h2⟩ := key
  have hm : t ∈ (trs n).filter prT := by
    rw [List.mem_filter, prT_g, decide_eq_true_iff]
    exact ⟨(trs_iff hn t).2 h1, h2⟩
  have := List.length_pos_of_mem hm
  unfold cls
  omega
end Go.AM
end

section
/- For the walks over lists: sorted neighbours, filtered beginnings, multiples. -/
namespace Go.AM
open Go Go.RowKit
def lsG (f g : Fm) : Prop := f.a < g.a ∨ f.a = g.a ∧ f.b < g.b
theorem LW_ltG (n : Int) (q : Fm → Bool) : (LW n q).Pairwise lsG := by
  unfold LW
  refine List.Pairwise.filter _ ?_
  exact List.Pairwise.map (R := lsT) _ (fun a b h => h) (all_lt 2000 1 (by omega))
theorem ls_prev {l : List Fm} (h : l.Pairwise lsG) {k : Nat} (h0 : 0 < (k : Int)) (hk : (k : Int) < l.length) : lsG (l.getD ((k : Int) - 1).toNat ⟨0, 0, 0⟩) (l.getD k ⟨0, 0, 0⟩) := by
  have e : ((k : Int) - 1).toNat = k - 1 := by omega
  rw [e]
  have h1 := (List.pairwise_iff_getElem.1 h) (k - 1) k (by omega) (by omega) (by omega)
  rw [List.getD_eq_getElem?_getD, List.getD_eq_getElem?_getD, List.getElem?_eq_getElem (by omega), List.getElem?_eq_getElem (by omega)]
  exact h1
theorem ls22 {a b p q : Int} (h : a < p ∨ a = p ∧ b < q) (hg : decide (cmpI a p < 0) = false) : (cmpI a p == 0) = true := by
  have h1 : ¬ a < p := fun x => of_decide_eq_false hg (cmpI_lt_zero.2 x)
  have e : a = p := by omega
  rw [e, cmpI_self]; rfl
theorem ls25 {a b p q : Int} (h : a < p ∨ a = p ∧ b < q) (hg : decide (cmpI a p < 0) = false) : decide (cmpI b q < 0) = true := by
  have h1 : ¬ a < p := fun x => of_decide_eq_false hg (cmpI_lt_zero.2 x)
  exact decide_eq_true (cmpI_lt_zero.2 (by omega))
def fK (l : List Fm) (k : Nat) : List Fm := (l.take k).filter prG
theorem fK_yes {l : List Fm} {k : Nat} (h : (k : Int) < l.length) (e : prG (l.getD k ⟨0, 0, 0⟩) = true) : fK l k ++ [l.getD k ⟨0, 0, 0⟩] = fK l (k + 1) := by
  unfold fK; rw [take_getD (by omega), List.filter_append, List.filter_cons, if_pos e]; rfl
theorem fK_no {l : List Fm} {k : Nat} (h : (k : Int) < l.length) (e : prG (l.getD k ⟨0, 0, 0⟩) = false) : fK l k = fK l (k + 1) := by
  unfold fK; rw [take_getD (by omega), List.filter_append, List.filter_cons, if_neg (by rw [e]; decide)]; simp
theorem fK_end {l : List Fm} {k : Nat} (h : ¬ (k : Int) < l.length) : fK l k = l.filter prG := by
  unfold fK; rw [List.take_of_length_le (by omega)]
theorem fK_len {l : List Fm} {k : Nat} : (fK l k).length ≤ k := by
  unfold fK
  have := List.length_filter_le prG (l.take k)
  rw [List.length_take] at this
  omega
theorem dsc_k (k a b c : Int) : dsc (k * a) (k * b) (k * c) = k * k * dsc a b c := by unfold dsc; grind
theorem pos_k {k : Int} {f : Fm} (hk : 1 ≤ k) (h : f.pos) : Fm.pos ⟨k * f.a, k * f.b, k * f.c⟩ := by
  refine ⟨Int.mul_pos (by omega) h.1, ?_⟩
  show dsc (k * f.a) (k * f.b) (k * f.c) < 0
  rw [dsc_k]
  have h2 : dsc f.a f.b f.c < 0 := h.2
  exact Int.mul_neg_of_pos_of_neg (by have := mm_pos hk; omega) h2
theorem pos_sz {g : Fm} (hg : g.pos) (hn : -(dsc g.a g.b g.c) ≤ 4194304) : szE (dsc g.a g.b g.c) = 0 := by
  obtain ⟨M, hM, e⟩ := rdF_app hg
  have hr := (Rd.rdF hg).redT
  have hd : dsc (rdF g.a g.b g.c).a (rdF g.a g.b g.c).b (rdF g.a g.b g.c).c = dsc g.a g.b g.c := by rw [e]; exact disc_T hM
  rw [hd] at hr
  exact szE_of_isD (by omega) (red_isD hr) hn
end Go.AM
end

section
/- Class numbers of a discriminant and of its multiple by the square of 2, 3 or 5. -/
namespace Go.AM
open Go Go.RowKit
/-- the matrices of the determinant p, one for each point of the line modulo p -/
def hM (p j : Int) : Mt := if j < p then ⟨p, j, 0, 1⟩ else ⟨1, 0, 0, p⟩
def gdV (p a b c j : Int) : Int := if j < p then a * j * j + b * j + c else a
def gd (p : Int) (f : Fm) (j : Int) : Bool := decide (gdV p f.a f.b f.c j % p ≠ 0)
def jl (p : Int) : List Int := (List.range (p.toNat + 1)).map Int.ofNat
theorem hM_det (p j : Int) : (hM p j).det = p := by unfold hM; split <;> simp [Mt.det]
structure PP (p : Int) : Prop where
  p2 : 2 ≤ p
  eu : ∀ x y : Int, p ∣ x * y → p ∣ x ∨ p ∣ y
  iv : ∀ c : Int, ¬ p ∣ c → ∃ x, p ∣ c * x - 1
  gv : ∀ g : Nat, g ∣ (p * p).toNat → g = 1 ∨ p ∣ (g : Int)
  s1 : ∀ n a b c : Int, (n % 4 = 0 ∨ n % 4 = 3) → b * b - 4 * a * c = -(n * (p * p)) → ¬ p ∣ a → ∃ t B C : Int, b + 2 * a * t = p * B ∧ a * t * t + b * t + c = p * p * C
  ct : ∀ (f : Fm) (n : Int), dsc f.a f.b f.c = -n → ¬ (p ∣ f.a ∧ p ∣ f.b ∧ p ∣ f.c) → (((jl p).filter (gd p f)).length : Int) = p - kr (-n) p
section
variable {p n : Int}
theorem app_scale (g : Fm) (m : Mt) : (g.app m).app m.adj = ⟨m.det * m.det * g.a, m.det * m.det * g.b, m.det * m.det * g.c⟩ := by
  rw [app_mul]
  have e : m.mul m.adj = ⟨m.det, 0, 0, m.det⟩ := by
    unfold Mt.mul Mt.adj Mt.det
    simp only [Mt.mk.injEq]
    refine ⟨?_, ?_, ?_, ?_⟩ <;> grind
  rw [e]
  unfold Fm.app vl apB
  simp only [Fm.mk.injEq]
  refine ⟨?_, ?_, ?_⟩ <;> grind
/-- the automorphisms of a form of a discriminant below -4 -/
theorem auto {f : Fm} {U : Mt} (hf : Rd f) (hn : 4 < n) (hd : dsc f.a f.b f.c = -n) (hp : prim f.a f.b f.c = true) (hU : U.det = 1) (e : f.app U = f) :
    U = ⟨1, 0, 0, 1⟩ ∨ U = ⟨-1, 0, 0, -1⟩ := by
  have hd' : f.b * f.b - 4 * f.a * f.c = -n := hd
  have ha := hf.a; have hb := hf.b; have hc := hf.c
  have e1 : vl f.a f.b f.c U.a U.c = f.a := congrArg Fm.a e
  have e2 : apB f.a f.b f.c U.a U.b U.c U.d = f.b := congrArg Fm.b e
  have e3 : vl f.a f.b f.c U.b U.d = f.c := congrArg Fm.c e
  have hU' : U.a * U.d - U.b * U.c = 1 := hU
  unfold vl at e1 e3; unfold apB at e2
  obtain ⟨a, b, c⟩ := f
  obtain ⟨x, y, z, w⟩ := U
  simp only at *
  have l1 : a * (x - w) = -(b * z) := by
    have h1 : w * (2 * (a * x * x + b * x * z + c * z * z)) - z * (2 * (a * x * y + c * z * w) + b * (x * w + y * z)) = (x * w - y * z) * (2 * a * x + b * z) := by grind
    rw [e1, e2, hU'] at h1
    grind
  have l2 : a * y = -(c * z) := by
    have h1 : w * (2 * (a * x * y + c * z * w) + b * (x * w + y * z)) - z * (2 * (a * y * y + b * y * w + c * w * w)) = (x * w - y * z) * (2 * a * y + b * w) := by grind
    rw [e2, e3, hU'] at h1
    grind
  have l3 : n * (z * z) = a * a * (4 - (x + w) * (x + w)) := by
    have h1 : a * a * (4 * (x * w - y * z)) = a * a * ((x + w) * (x + w)) - (a * (x - w)) * (a * (x - w)) - 4 * (a * y) * (a * z) := by grind
    rw [hU', l1, l2] at h1
    have : n = 4 * a * c - b * b := by omega
    rw [this]
    grind
  have h3 : 3 * (a * a) ≤ n := by
    have b1 := sq_b (x := b) (m := a) (by omega)
    have b2 : a * a ≤ a * c := Int.mul_le_mul_of_nonneg_left hc (by omega)
    rw [Int.mul_assoc] at hd'
    omega
  have haa : 1 ≤ a * a := mm_pos (by omega)
  have hs := sq_nonneg' (x + w)
  have hz := sq_nonneg' z
  have h4 : 3 * (a * a) * (z * z) ≤ n * (z * z) := Int.mul_le_mul_of_nonneg_right h3 hz
  have h5 : 3 * (z * z) ≤ 4 - (x + w) * (x + w) := by
    rw [l3] at h4
    have h6 : a * a * (3 * (z * z)) ≤ a * a * (4 - (x + w) * (x + w)) := by
      have : a * a * (3 * (z * z)) = 3 * (a * a) * (z * z) := by grind
      omega
    exact Int.le_of_mul_le_mul_left h6 (by omega)
  have hzb : z = 0 ∨ z = 1 ∨ z = -1 := by
    have := abs_le_of_sq (x := z) (m := 1) (by omega) (by omega)
    omega
  rcases hzb with hz0 | hz1
  · subst hz0
    have hxw : x - w = 0 := by
      have : a * (x - w) = a * 0 := by simp at l1 ⊢; exact l1
      exact Int.eq_of_mul_eq_mul_left (by omega) this
    have hy0 : y = 0 := by
      have : a * y = a * 0 := by simp at l2 ⊢; exact l2
      exact Int.eq_of_mul_eq_mul_left (by omega) this
    have hww : x = w := by omega
    subst hww hy0
    have h7 : x * x = 1 := by omega
    have := abs_le_of_sq (x := x) (m := 1) (by omega) (by omega)
    rcases (show x = 1 ∨ x = -1 ∨ x = 0 by omega) with g | g | g
    · subst g; exact .inl rfl
    · subst g; exact .inr rfl
    · subst g; omega
  · exfalso
    have d1 : a ∣ b := by
      rcases hz1 with rfl | rfl
      · exact ⟨-(x - w), by rw [Int.mul_neg, l1]; omega⟩
      · exact ⟨x - w, by rw [l1]; omega⟩
    have d2 : a ∣ c := by
      rcases hz1 with rfl | rfl
      · exact ⟨-y, by rw [Int.mul_neg, l2]; omega⟩
      · exact ⟨y, by rw [l2]; omega⟩
    have hg : a ∣ ((Int.gcd a (Int.gcd b c : Int) : Nat) : Int) := Int.dvd_coe_gcd (Int.dvd_refl a) (Int.dvd_coe_gcd d1 d2)
    unfold prim at hp
    rw [of_decide_eq_true hp] at hg
    have ha1 : a = 1 := by
      have := Int.le_of_dvd (by omega) hg
      omega
    subst ha1
    have hzz : z * z = 1 := by rcases hz1 with rfl | rfl <;> rfl
    rw [hzz] at l3
    have := sq_nonneg' (x + w)
    omega
theorem dvd_val (P : PP p) {f : Fm} {j : Int} (hg : gd p f j = true) {X : Mt} {s t : Int} (h : p ∣ (f.app ((hM p j).mul X)).a) (h2 : p ∣ (f.app ((hM p j).mul X)).c) (_hs : s = 0) (_ht : t = 0) :
    ∃ U : Mt, (hM p j).mul X = ⟨p * U.a, p * U.b, p * U.c, p * U.d⟩ := by
  unfold gd gdV at hg
  rw [decide_eq_true_iff] at hg
  have key : ∀ z v : Int, p ∣ z * z * v → v % p ≠ 0 → p ∣ z := fun z v h h1 => by
    rcases P.eu _ _ h with g | g
    · rcases P.eu _ _ g with g | g <;> exact g
    · exact absurd (Int.emod_eq_zero_of_dvd g) h1
  unfold Mt.mul at h h2 ⊢
  unfold Fm.app vl at h h2
  unfold hM at h h2 ⊢
  by_cases hj : j < p
  · rw [if_pos hj] at hg
    simp only [if_pos hj] at h h2 ⊢
    have k1 : p ∣ X.c * X.c * (f.a * j * j + f.b * j + f.c) := by
      obtain ⟨q, hq⟩ := h
      exact ⟨q - (f.a * (p * X.a * X.a + 2 * X.a * (j * X.c)) + f.b * X.a * X.c), by grind⟩
    have k2 : p ∣ X.d * X.d * (f.a * j * j + f.b * j + f.c) := by
      obtain ⟨q, hq⟩ := h2
      exact ⟨q - (f.a * (p * X.b * X.b + 2 * X.b * (j * X.d)) + f.b * X.b * X.d), by grind⟩
    obtain ⟨u, hu⟩ := key _ _ k1 hg
    obtain ⟨v, hv⟩ := key _ _ k2 hg
    refine ⟨⟨X.a + j * u, X.b + j * v, u, v⟩, ?_⟩
    simp only [Mt.mk.injEq]
    refine ⟨?_, ?_, ?_, ?_⟩ <;> grind
  · rw [if_neg hj] at hg
    simp only [if_neg hj] at h h2 ⊢
    have k1 : p ∣ X.a * X.a * f.a := by
      obtain ⟨q, hq⟩ := h
      exact ⟨q - (f.b * X.a * X.c + f.c * p * X.c * X.c), by grind⟩
    have k2 : p ∣ X.b * X.b * f.a := by
      obtain ⟨q, hq⟩ := h2
      exact ⟨q - (f.b * X.b * X.d + f.c * p * X.d * X.d), by grind⟩
    obtain ⟨u, hu⟩ := key _ _ k1 hg
    obtain ⟨v, hv⟩ := key _ _ k2 hg
    refine ⟨⟨u, v, X.c, X.d⟩, ?_⟩
    simp only [Mt.mk.injEq]
    refine ⟨?_, ?_, ?_, ?_⟩ <;> grind
theorem mul_assoc' (a b c : Mt) : (a.mul b).mul c = a.mul (b.mul c) := by
  unfold Mt.mul; simp only [Mt.mk.injEq]; refine ⟨?_, ?_, ?_, ?_⟩ <;> grind
/-- two neighbours of one class come from one form and one point -/
theorem hinj (P : PP p) (hn : 4 < n) {f g : Fm} (hf : Rd f) (hg : Rd g) (df : dsc f.a f.b f.c = -n) (pf : prim f.a f.b f.c = true) {j k : Int} (hj : 0 ≤ j ∧ j ≤ p) (hk : 0 ≤ k ∧ k ≤ p)
    (gj : gd p f j = true) {T : Mt} (hT : T.det = 1) (e : (f.app (hM p j)).app T = g.app (hM p k)) : f = g ∧ j = k := by
  have hp2 := P.p2
  have hpp : 1 ≤ p * p := mm_pos (by omega)
  have e1 : f.app ((hM p j).mul (T.mul (hM p k).adj)) = ⟨p * p * g.a, p * p * g.b, p * p * g.c⟩ := by
    rw [← app_mul, ← app_mul, e, app_scale, hM_det]
  obtain ⟨U, hU⟩ := dvd_val P gj (X := T.mul (hM p k).adj) (s := 0) (t := 0) (by rw [e1]; exact ⟨p * g.a, by simp only [Int.mul_assoc]⟩) (by rw [e1]; exact ⟨p * g.c, by simp only [Int.mul_assoc]⟩) rfl rfl
  have hdet : U.det = 1 := by
    have h1 : ((hM p j).mul (T.mul (hM p k).adj)).det = p * p := by rw [det_mul, det_mul, hM_det, hT, adj_det, hM_det, Int.one_mul]
    rw [hU] at h1
    have h2 : (⟨p * U.a, p * U.b, p * U.c, p * U.d⟩ : Mt).det = p * p * U.det := by unfold Mt.det; simp only; grind
    rw [h2] at h1
    exact Int.eq_of_mul_eq_mul_left (show p * p ≠ 0 by omega) (by omega)
  have e2 : f.app U = g := by
    have h1 : f.app ⟨p * U.a, p * U.b, p * U.c, p * U.d⟩ = ⟨p * p * (f.app U).a, p * p * (f.app U).b, p * p * (f.app U).c⟩ := by
      unfold Fm.app vl apB; simp only [Fm.mk.injEq]; refine ⟨?_, ?_, ?_⟩ <;> grind
    rw [hU, h1, Fm.mk.injEq] at e1
    have cn : ∀ x y : Int, p * p * x = p * p * y → x = y := fun x y h => Int.eq_of_mul_eq_mul_left (show p * p ≠ 0 by omega) h
    exact Fm.ext (cn _ _ e1.1) (cn _ _ e1.2.1) (cn _ _ e1.2.2)
  have e3 : f.app U = f := red_uniq hf hdet (by rw [e2]; exact hg)
  refine ⟨by rw [← e3, e2], ?_⟩
  have h5 := auto hf hn df pf hdet e3
  -- M_j T p = p U M_k
  have e4 : ((hM p j).mul (T.mul (hM p k).adj)).mul (hM p k) = ⟨p * ((hM p j).mul T).a, p * ((hM p j).mul T).b, p * ((hM p j).mul T).c, p * ((hM p j).mul T).d⟩ := by
    have h1 : (hM p k).adj.mul (hM p k) = ⟨p, 0, 0, p⟩ := by
      unfold hM; split
      · simp [Mt.mul, Mt.adj]; omega
      · simp [Mt.mul, Mt.adj]
    rw [mul_assoc', mul_assoc', h1, ← mul_assoc']
    unfold Mt.mul; simp only [Mt.mk.injEq]; refine ⟨?_, ?_, ?_, ?_⟩ <;> grind
  rw [hU] at e4
  have e5 : (⟨p * U.a, p * U.b, p * U.c, p * U.d⟩ : Mt).mul (hM p k) = ⟨p * (U.mul (hM p k)).a, p * (U.mul (hM p k)).b, p * (U.mul (hM p k)).c, p * (U.mul (hM p k)).d⟩ := by
    unfold Mt.mul; simp only [Mt.mk.injEq]; refine ⟨?_, ?_, ?_, ?_⟩ <;> grind
  rw [e5, Mt.mk.injEq] at e4
  have cn : ∀ x y : Int, p * x = p * y → x = y := fun x y h => Int.eq_of_mul_eq_mul_left (show p ≠ 0 by omega) h
  obtain ⟨q1, q2, q3, q4⟩ := e4
  have q1 := cn _ _ q1; have q2 := cn _ _ q2; have q3 := cn _ _ q3; have q4 := cn _ _ q4
  unfold Mt.mul hM at q1 q2 q3 q4
  have one : ∀ x y : Int, p * x = y → y = 1 ∨ y = -1 → False := fun x y h h1 => by
    have hx : p ∣ y := ⟨x, h.symm⟩
    rcases h1 with rfl | rfl
    · have := Int.le_of_dvd (by omega) hx; omega
    · have := Int.le_of_dvd (by omega) ((Int.dvd_neg).2 hx); omega
  have low : ∀ x y : Int, p * x = y → -p < y → y < p → y = 0 := fun x y h h1 h2 => by
    rcases (show x ≤ -1 ∨ x = 0 ∨ 1 ≤ x by omega) with g | g | g
    · have : p * x ≤ p * (-1) := Int.mul_le_mul_of_nonneg_left g (by omega)
      omega
    · subst g; omega
    · have : p * 1 ≤ p * x := Int.mul_le_mul_of_nonneg_left g (by omega)
      omega
  by_cases jp : j < p
  · by_cases kp : k < p
    · simp only [if_pos jp, if_pos kp] at q1 q2 q3 q4
      rcases h5 with rfl | rfl
      · simp only [Int.mul_zero, Int.mul_one, Int.zero_mul, Int.one_mul, Int.add_zero, Int.zero_add] at q1 q2 q3 q4
        have := low T.b (k - j) (by rw [← q4] at q2; omega) (by omega) (by omega)
        omega
      · simp only [Int.mul_zero, Int.mul_one, Int.zero_mul, Int.one_mul, Int.add_zero, Int.zero_add, Int.neg_mul] at q1 q2 q3 q4
        have := low T.b (j - k) (by rw [← q4] at q2; omega) (by omega) (by omega)
        omega
    · exfalso
      simp only [if_pos jp, if_neg kp] at q1 q2 q3 q4
      rcases h5 with rfl | rfl
      · simp only [Int.mul_zero, Int.mul_one, Int.zero_mul, Int.one_mul, Int.add_zero, Int.zero_add] at q1 q2 q3 q4
        refine one T.a 1 ?_ (.inl rfl)
        rw [← q3] at q1; omega
      · simp only [Int.mul_zero, Int.mul_one, Int.zero_mul, Int.one_mul, Int.add_zero, Int.zero_add, Int.neg_mul] at q1 q2 q3 q4
        refine one T.a (-1) ?_ (.inr rfl)
        rw [← q3] at q1; omega
  · by_cases kp : k < p
    · exfalso
      simp only [if_neg jp, if_pos kp] at q1 q2 q3 q4
      rcases h5 with rfl | rfl
      · simp only [Int.mul_zero, Int.mul_one, Int.zero_mul, Int.one_mul, Int.add_zero, Int.zero_add] at q1 q2 q3 q4
        exact one T.d 1 (by omega) (.inl rfl)
      · simp only [Int.mul_zero, Int.mul_one, Int.zero_mul, Int.one_mul, Int.add_zero, Int.zero_add, Int.neg_mul] at q1 q2 q3 q4
        exact one T.d (-1) (by omega) (.inr rfl)
    · omega
end
end Go.AM
end

section
/- Class numbers of a discriminant and of its multiple by a square, continued. -/
namespace Go.AM
open Go Go.RowKit
section
variable {p n : Int}
theorem prim_of {f : Fm} (h : ∀ g : Nat, (g : Int) ∣ f.a → (g : Int) ∣ f.b → (g : Int) ∣ f.c → g = 1) : prim f.a f.b f.c = true := by
  unfold prim
  refine decide_eq_true ?_
  have h1 : ((Int.gcd f.a (Int.gcd f.b f.c : Int) : Nat) : Int) ∣ f.a := Int.gcd_dvd_left ..
  have h2 : ((Int.gcd f.a (Int.gcd f.b f.c : Int) : Nat) : Int) ∣ ((Int.gcd f.b f.c : Nat) : Int) := Int.gcd_dvd_right ..
  exact h _ h1 (Int.dvd_trans h2 (Int.gcd_dvd_left ..)) (Int.dvd_trans h2 (Int.gcd_dvd_right ..))
theorem prim_dvd {f : Fm} (h : prim f.a f.b f.c = true) {g : Int} (h1 : g ∣ f.a) (h2 : g ∣ f.b) (h3 : g ∣ f.c) : g ∣ 1 := by
  unfold prim at h
  have := Int.dvd_coe_gcd h1 (Int.dvd_coe_gcd h2 h3)
  rwa [of_decide_eq_true h] at this
theorem dvd1 {g : Nat} (h : (g : Int) ∣ 1) : g = 1 := by
  have := Int.le_of_dvd (by omega) h
  rcases (show g = 0 ∨ g = 1 by omega) with e | e
  · subst e
    have := Int.zero_dvd.1 h
    omega
  · exact e
/-- a good neighbour is primitive -/
theorem gd_prim (P : PP p) {f : Fm} (pf : prim f.a f.b f.c = true) {j : Int} (gj : gd p f j = true) : prim (f.app (hM p j)).a (f.app (hM p j)).b (f.app (hM p j)).c = true := by
  have hp2 := P.p2
  have hpp : 1 ≤ p * p := mm_pos (by omega)
  refine prim_of (fun g h1 h2 h3 => ?_)
  have e := app_scale f (hM p j)
  rw [hM_det] at e
  have k : ∀ u v w z : Int, (g : Int) ∣ ((f.app (hM p j)).app ⟨u, v, w, z⟩).a ∧ (g : Int) ∣ ((f.app (hM p j)).app ⟨u, v, w, z⟩).b ∧ (g : Int) ∣ ((f.app (hM p j)).app ⟨u, v, w, z⟩).c := fun u v w z => by
    obtain ⟨x1, e1⟩ := h1
    obtain ⟨x2, e2⟩ := h2
    obtain ⟨x3, e3⟩ := h3
    generalize f.app (hM p j) = F at *
    unfold Fm.app vl apB
    simp only
    rw [e1, e2, e3]
    exact ⟨⟨x1 * u * u + x2 * u * w + x3 * w * w, by grind⟩, ⟨2 * (x1 * u * v + x3 * w * z) + x2 * (u * z + v * w), by grind⟩, ⟨x1 * v * v + x2 * v * z + x3 * z * z, by grind⟩⟩
  have k2 := k (hM p j).adj.a (hM p j).adj.b (hM p j).adj.c (hM p j).adj.d
  rw [show (⟨(hM p j).adj.a, (hM p j).adj.b, (hM p j).adj.c, (hM p j).adj.d⟩ : Mt) = (hM p j).adj from rfl, e] at k2
  obtain ⟨k3, k4, k5⟩ := k2
  have hg : (g : Int) ∣ p * p := by
    have h := Int.dvd_coe_gcd k3 (Int.dvd_coe_gcd k4 k5)
    unfold prim at pf
    have pf := of_decide_eq_true pf
    simp only at h
    rw [Int.gcd_mul_left, Int.natCast_mul, show ((p * p).natAbs : Int) = p * p by omega, Int.gcd_mul_left, pf] at h
    simpa [show ((p * p).natAbs : Int) = p * p by omega] using h
  have hg' : g ∣ (p * p).toNat := by
    have : ((p * p).toNat : Int) = p * p := by omega
    rw [← this] at hg
    exact Int.natCast_dvd_natCast.1 hg
  rcases P.gv g hg' with h | h
  · exact h
  · exfalso
    have a1 := Int.dvd_trans h h1
    have a3 := Int.dvd_trans h h3
    unfold gd gdV at gj
    rw [decide_eq_true_iff] at gj
    unfold hM Fm.app vl at a1 a3
    by_cases jp : j < p
    · simp only [if_pos jp] at a3 gj
      refine gj (Int.emod_eq_zero_of_dvd ?_)
      simpa using a3
    · simp only [if_neg jp] at a1 gj
      refine gj (Int.emod_eq_zero_of_dvd ?_)
      simpa using a1
/-- a bad neighbour is not -/
theorem bad_dvd {f : Fm} {j : Int} (gj : gd p f j = false) : p ∣ (f.app (hM p j)).a ∧ p ∣ (f.app (hM p j)).b ∧ p ∣ (f.app (hM p j)).c := by
  unfold gd gdV at gj
  rw [decide_eq_false_iff_not, Decidable.not_not] at gj
  have h := Int.dvd_of_emod_eq_zero gj
  unfold hM Fm.app vl apB
  by_cases jp : j < p
  · simp only [if_pos jp] at h ⊢
    obtain ⟨q, hq⟩ := h
    exact ⟨⟨f.a * p, by grind⟩, ⟨2 * f.a * j + f.b, by grind⟩, ⟨q, by grind⟩⟩
  · simp only [if_neg jp] at h ⊢
    obtain ⟨q, hq⟩ := h
    exact ⟨⟨q, by grind⟩, ⟨f.b, by grind⟩, ⟨f.c * p, by grind⟩⟩
theorem hM_pos {f : Fm} (hf : f.pos) (h1 : 2 ≤ p) (j : Int) : (f.app (hM p j)).pos := by
  have ha := hf.1
  refine ⟨?_, ?_⟩
  · unfold hM Fm.app vl
    split
    · simp only [Int.mul_zero, Int.add_zero]
      exact Int.mul_pos (Int.mul_pos ha (by omega)) (by omega)
    · simp only [Int.mul_one, Int.mul_zero, Int.add_zero]; exact ha
  · rw [disc_app, hM_det]
    exact Int.mul_neg_of_neg_of_pos hf.2 (Int.mul_pos (by omega) (by omega))
theorem pos_any {f : Fm} (hf : f.pos) {m : Mt} (h : m.det = 1) : (f.app m).pos := by
  refine ⟨?_, by rw [disc_app, h]; have := hf.2; omega⟩
  show 0 < vl f.a f.b f.c m.a m.c
  have hd : f.b * f.b - 4 * f.a * f.c < 0 := hf.2
  have ha := hf.1
  have e : 4 * f.a * vl f.a f.b f.c m.a m.c = (2 * f.a * m.a + f.b * m.c) * (2 * f.a * m.a + f.b * m.c) + -(f.b * f.b - 4 * f.a * f.c) * (m.c * m.c) := by unfold vl; grind
  have s1 := sq_nonneg' (2 * f.a * m.a + f.b * m.c)
  have s2 := sq_nonneg' m.c
  rcases Int.lt_or_le 0 (vl f.a f.b f.c m.a m.c) with g | g
  · exact g
  · exfalso
    have l1 : 4 * f.a * vl f.a f.b f.c m.a m.c ≤ 0 := Int.mul_nonpos_of_nonneg_of_nonpos (by omega) g
    have l2 : 0 ≤ -(f.b * f.b - 4 * f.a * f.c) * (m.c * m.c) := Int.mul_nonneg (by omega) s2
    have l3 : -(f.b * f.b - 4 * f.a * f.c) * (m.c * m.c) = 0 := by omega
    have c0 : m.c = 0 := by
      rcases Int.mul_eq_zero.1 l3 with q | q
      · omega
      · rcases Int.mul_eq_zero.1 q with q | q <;> exact q
    rw [c0] at e
    have s3 : (2 * f.a * m.a) * (2 * f.a * m.a) = 0 := by
      have e2 : (2 * f.a * m.a + f.b * 0) * (2 * f.a * m.a + f.b * 0) = (2 * f.a * m.a) * (2 * f.a * m.a) := by simp
      rw [c0, e2] at s1
      rw [e2] at e
      have : -(f.b * f.b - 4 * f.a * f.c) * (0 * 0) = 0 := by simp
      rw [this] at e
      rw [c0] at l1
      omega
    have a0 : m.a = 0 := by
      have := Int.mul_eq_zero.1 s3
      have h4 : 2 * f.a * m.a = 0 := by rcases this with q | q <;> exact q
      rcases Int.mul_eq_zero.1 h4 with q | q
      · omega
      · exact q
    unfold Mt.det at h
    rw [c0, a0] at h
    simp at h
theorem rd_fix {f : Fm} (h : Rd f) (hp : f.pos) : f.rd = f := by
  obtain ⟨m, h1, h2⟩ := rd_via hp
  have hr : Rd f.rd := Rd.rdF hp
  rw [h2] at hr ⊢
  exact red_uniq h h1 hr
theorem alg1 {a c x y q j p : Int} (hxy : c * x - 1 = p * y) (h3 : p * q + j = a * x) : a - j * c = p * (q * c - a * y) := by grind
/-- each primitive form of the greater discriminant is a neighbour -/
theorem hsurj (P : PP p) (hD : n % 4 = 0 ∨ n % 4 = 3) {F : Fm} (hF : F.pos) (dF : dsc F.a F.b F.c = -(n * (p * p))) (pF : prim F.a F.b F.c = true) :
    ∃ f : Fm, ∃ j : Int, f.pos ∧ Rd f ∧ dsc f.a f.b f.c = -n ∧ prim f.a f.b f.c = true ∧ (0 ≤ j ∧ j ≤ p) ∧ gd p f j = true ∧ (f.app (hM p j)).rd = F.rd := by
  have hp2 := P.p2
  have hpp : 1 ≤ p * p := mm_pos (by omega)
  have dF' : F.b * F.b - 4 * F.a * F.c = -(n * (p * p)) := dF
  have np1 : ¬ p ∣ 1 := fun h => by have := Int.le_of_dvd (by omega) h; omega
  -- a form of the class whose first coefficient has no divisor p
  have st0 : ∃ S : Mt, S.det = 1 ∧ ¬ p ∣ (F.app S).a := by
    by_cases g : p ∣ F.a
    · by_cases g2 : p ∣ F.c
      · exfalso
        have g3 : p ∣ F.b * F.b := by
          obtain ⟨q, hq⟩ := g
          exact ⟨4 * q * F.c - n * p, by grind⟩
        have g4 : p ∣ F.b := by rcases P.eu _ _ g3 with x | x <;> exact x
        exact np1 (prim_dvd pF g g4 g2)
      · exact ⟨.S, det_S, by rw [app_S]; exact g2⟩
    · exact ⟨.one, by decide, by rw [app_one]; exact g⟩
  obtain ⟨S, hS, ha⟩ := st0
  have dG : dsc (F.app S).a (F.app S).b (F.app S).c = -(n * (p * p)) := by
    have : (F.app S).disc = F.disc := disc_T hS
    unfold Fm.disc at this
    rw [this]; exact dF
  have pG := (prim_app F (m := S) (by rw [hS]; rfl)).symm.trans pF
  have hG := pos_any hF hS
  have rG := rd_app1 hF hS
  generalize F.app S = G at ha dG pG hG rG
  obtain ⟨t, B, C, e1, e2⟩ := P.s1 n G.a G.b G.c hD dG ha
  have eG : G.app (.T t) = Fm.app ⟨G.a, B, C⟩ ⟨1, 0, 0, p⟩ := by
    rw [app_T, e1, e2]
    unfold Fm.app vl apB; simp only [Fm.mk.injEq]
    refine ⟨by grind, by grind, by grind⟩
  have hH := pos_any hG (det_T t)
  have rH := rd_app1 hG (det_T t)
  have pH := (prim_app G (m := .T t) (by rw [det_T]; rfl)).symm.trans pG
  have dH : (G.app (.T t)).disc = G.disc := disc_T (det_T t)
  rw [eG] at hH rH pH dH
  have df : dsc G.a B C = -n := by
    rw [disc_app] at dH
    have h1 : dsc G.a B C * (p * p) = -n * (p * p) := by
      have h2 : (⟨1, 0, 0, p⟩ : Mt).det = p := by simp [Mt.det]
      rw [h2] at dH
      have dH' : dsc G.a B C * (p * p) = dsc G.a G.b G.c := dH
      rw [dH', dG, Int.neg_mul]
    exact Int.eq_of_mul_eq_mul_right (show p * p ≠ 0 by omega) h1
  have hn : 0 < n := by
    have : dsc F.a F.b F.c < 0 := hF.2
    rw [dF] at this
    rcases Int.lt_or_le 0 n with g | g
    · exact g
    · have := Int.mul_nonpos_of_nonpos_of_nonneg g (show 0 ≤ p * p by omega); omega
  have hf : (⟨G.a, B, C⟩ : Fm).pos := ⟨hG.1, by show dsc G.a B C < 0; omega⟩
  have pf : prim G.a B C = true := prim_of (f := ⟨G.a, B, C⟩) (fun g h1 h2 h3 => by
    refine dvd1 (prim_dvd pH ?_ ?_ ?_)
    · unfold Fm.app vl; simpa using h1
    · unfold Fm.app apB; simp only
      exact Int.dvd_trans h2 ⟨p, by grind⟩
    · unfold Fm.app vl; simp only
      exact Int.dvd_trans h3 ⟨p * p, by grind⟩)
  obtain ⟨R, hR, eR⟩ := rd_via hf
  have hRd : Rd (⟨G.a, B, C⟩ : Fm).rd := Rd.rdF hf
  have hf0 := rd_is hf
  have df0 : dsc (⟨G.a, B, C⟩ : Fm).rd.a (⟨G.a, B, C⟩ : Fm).rd.b (⟨G.a, B, C⟩ : Fm).rd.c = -n := by
    rw [eR]
    have : (Fm.app ⟨G.a, B, C⟩ R).disc = Fm.disc ⟨G.a, B, C⟩ := disc_T hR
    exact this.trans df
  have pf0 : prim (⟨G.a, B, C⟩ : Fm).rd.a (⟨G.a, B, C⟩ : Fm).rd.b (⟨G.a, B, C⟩ : Fm).rd.c = true := by
    rw [eR, ← prim_app _ (by rw [hR]; rfl)]; exact pf
  have back : (⟨G.a, B, C⟩ : Fm) = (⟨G.a, B, C⟩ : Fm).rd.app R.adj := by rw [eR, adj_app hR]
  have hRa : R.adj.det = 1 := by rw [adj_det]; exact hR
  generalize (⟨G.a, B, C⟩ : Fm).rd = f0 at *
  generalize R.adj = N at *
  have key : ∃ j : Int, ∃ U : Mt, (0 ≤ j ∧ j ≤ p) ∧ U.det = 1 ∧ N.mul ⟨1, 0, 0, p⟩ = (hM p j).mul U := by
    have hN : N.a * N.d - N.b * N.c = 1 := hRa
    by_cases g : p ∣ N.c
    · obtain ⟨u, hu⟩ := g
      refine ⟨p, ⟨N.a, p * N.b, u, N.d⟩, ⟨by omega, by omega⟩, ?_, ?_⟩
      · unfold Mt.det; simp only; grind
      · unfold hM; rw [if_neg (by omega)]; unfold Mt.mul; simp only [Mt.mk.injEq]; refine ⟨?_, ?_, ?_, ?_⟩ <;> grind
    · -- p and N.c have no common divisor
      have hx : ∃ j : Int, (0 ≤ j ∧ j < p) ∧ p ∣ N.a - j * N.c := by
        obtain ⟨x, y, hxy⟩ := P.iv _ g
        refine ⟨(N.a * x) % p, ⟨Int.emod_nonneg _ (by omega), Int.emod_lt_of_pos _ (by omega)⟩, ?_⟩
        have h3 := Int.mul_ediv_add_emod (N.a * x) p
        exact ⟨(N.a * x) / p * N.c - N.a * y, alg1 hxy h3⟩
      obtain ⟨j, hj, u, hu⟩ := hx
      refine ⟨j, ⟨u, N.b - j * N.d, N.c, p * N.d⟩, ⟨by omega, by omega⟩, ?_, ?_⟩
      · unfold Mt.det; simp only; grind
      · unfold hM; rw [if_pos hj.2]; unfold Mt.mul; simp only [Mt.mk.injEq]; refine ⟨?_, ?_, ?_, ?_⟩ <;> grind
  obtain ⟨j, U, hj, hU, eU⟩ := key
  have eH : Fm.app ⟨G.a, B, C⟩ ⟨1, 0, 0, p⟩ = (f0.app (hM p j)).app U := by rw [back, app_mul, eU, ← app_mul]
  have hK := hM_pos hf0 hp2 j
  refine ⟨f0, j, hf0, hRd, df0, pf0, hj, ?_, ?_⟩
  · cases gg : gd p f0 j
    · exfalso
      obtain ⟨b1, b2, b3⟩ := bad_dvd gg
      have pK : prim (f0.app (hM p j)).a (f0.app (hM p j)).b (f0.app (hM p j)).c = true := by
        rw [prim_app (f0.app (hM p j)) (m := U) (by rw [hU]; rfl), ← eH]; exact pH
      exact np1 (prim_dvd pK b1 b2 b3)
    · rfl
  · rw [← rd_app1 hK hU, ← eH, rH, rG]
end
end Go.AM
end

section
/- Class numbers of a discriminant and of its multiple by a square: 2, 3, 5; the ratio. -/
namespace Go.AM
open Go Go.RowKit
theorem flat_len {α β : Type} {g : α → List β} {m : Nat} : ∀ {l : List α}, (∀ x ∈ l, (g x).length = m) → (l.flatMap g).length = l.length * m
  | [], _ => by simp
  | x :: l, h => by
    rw [List.flatMap_cons, List.length_append, h x List.mem_cons_self, flat_len (fun y hy => h y (List.mem_cons_of_mem _ hy)), List.length_cons, Nat.add_mul, Nat.one_mul, Nat.add_comm]
theorem mem_jl {p j : Int} (hp : 0 ≤ p) : j ∈ jl p ↔ 0 ≤ j ∧ j ≤ p := by
  unfold jl
  rw [List.mem_map]
  constructor
  · rintro ⟨k, hk, rfl⟩
    rw [List.mem_range] at hk
    show 0 ≤ (k : Int) ∧ (k : Int) ≤ p
    omega
  · rintro ⟨h1, h2⟩
    exact ⟨j.toNat, by rw [List.mem_range]; omega, by show ((j.toNat : Nat) : Int) = j; omega⟩
theorem jl_nodup (p : Int) : (jl p).Nodup := by
  unfold jl
  refine List.Pairwise.map (R := (· ≠ ·)) _ (fun a b h e => h ?_) (List.nodup_range)
  have e' : (a : Int) = (b : Int) := e
  omega
theorem LW_rd {n : Int} {f : Fm} (hn : n ≤ 4194304) (h : f ∈ LW n prG) : f.pos ∧ Rd f ∧ dsc f.a f.b f.c = -n ∧ prim f.a f.b f.c = true := by
  have h1 := (LW_mem hn).1 h
  have h2 : Rd f := h1.1.rd
  exact ⟨h1.1.pos, h2, h1.1.dsc, h1.2⟩
theorem rd_LW {n : Int} {f : Fm} (hn : n ≤ 4194304) (hf : f.pos) (hd : dsc f.a f.b f.c = -n) (hp : prim f.a f.b f.c = true) : f.rd ∈ LW n prG := by
  rw [LW_mem hn]
  obtain ⟨m, h1, h2⟩ := rd_via hf
  have hr : Rd f.rd := Rd.rdF hf
  have h3 := hr.redT
  have hd2 : dsc f.rd.a f.rd.b f.rd.c = -n := by
    rw [h2]
    have : (f.app m).disc = f.disc := disc_T h1
    exact this.trans hd
  rw [hd2, Int.neg_neg] at h3
  refine ⟨h3, ?_⟩
  unfold prG
  rw [h2, ← prim_app f (by rw [h1]; rfl)]
  exact hp
theorem ratio_p {p n : Int} (P : PP p) (hn : 4 < n) (hD : n % 4 = 0 ∨ n % 4 = 3) (hb : n * (p * p) ≤ 4194304) : cls (n * (p * p)) = cls n * (p - kr (-n) p) := by
  have hp2 := P.p2
  have hpp : 1 ≤ p * p := mm_pos (by omega)
  have hb2 : n ≤ 4194304 := by
    have : n * 1 ≤ n * (p * p) := Int.mul_le_mul_of_nonneg_left hpp (by omega)
    omega
  have np1 : ¬ p ∣ 1 := fun h => by have := Int.le_of_dvd (by omega) h; omega
  have cnt : ∀ f ∈ LW n prG, (((jl p).filter (gd p f)).map (fun j => (f.app (hM p j)).rd)).length = (p - kr (-n) p).toNat := fun f hf => by
    obtain ⟨h1, h2, h3, h4⟩ := LW_rd hb2 hf
    have := P.ct f n h3 (fun x => np1 (prim_dvd h4 x.1 x.2.1 x.2.2))
    rw [List.length_map]; omega
  have hlen := flat_len cnt
  have hperm : ((LW n prG).flatMap fun f => ((jl p).filter (gd p f)).map fun j => (f.app (hM p j)).rd).Perm (LW (n * (p * p)) prG) := by
    refine (List.perm_ext_iff_of_nodup ?_ (LW_nodup _ _)).2 (fun F => ?_)
    · unfold List.Nodup
      rw [List.pairwise_flatMap]
      have inj : ∀ f ∈ LW n prG, ∀ g ∈ LW n prG, ∀ j ∈ (jl p).filter (gd p f), ∀ k ∈ (jl p).filter (gd p g), (f.app (hM p j)).rd = (g.app (hM p k)).rd → f = g ∧ j = k := by
        intro f hf g hg j hj k hk e
        obtain ⟨h1, h2, h3, h4⟩ := LW_rd hb2 hf
        obtain ⟨g1, g2, g3, g4⟩ := LW_rd hb2 hg
        rw [List.mem_filter, mem_jl (by omega)] at hj hk
        obtain ⟨m1, a1, a2⟩ := rd_via (hM_pos h1 hp2 j)
        obtain ⟨m2, b1, b2⟩ := rd_via (hM_pos g1 hp2 k)
        have e2 : (f.app (hM p j)).app (m1.mul m2.adj) = g.app (hM p k) := by rw [← app_mul, ← a2, e, b2, adj_app b1]
        exact hinj P hn h2 g2 h3 h4 hj.1 hk.1 hj.2 (by rw [det_mul, adj_det, a1, b1]; rfl) e2
      refine ⟨fun f hf => ?_, ?_⟩
      · rw [List.pairwise_map]
        refine List.Pairwise.imp_of_mem (R := (· ≠ ·)) (fun {j k} hj hk h e => ?_) ((jl_nodup p).filter _)
        exact h (inj f hf f hf j hj k hk e).2
      · refine List.Pairwise.imp_of_mem (R := (· ≠ ·)) (fun {f g} hf hg h => ?_) (LW_nodup n prG)
        intro x hx y hy e
        obtain ⟨j, hj, rfl⟩ := List.mem_map.1 hx
        obtain ⟨k, hk, rfl⟩ := List.mem_map.1 hy
        exact h (inj f hf g hg j hj k hk e).1
    · rw [List.mem_flatMap]
      constructor
      · rintro ⟨f, hf, hF⟩
        obtain ⟨j, hj, rfl⟩ := List.mem_map.1 hF
        obtain ⟨h1, h2, h3, h4⟩ := LW_rd hb2 hf
        rw [List.mem_filter, mem_jl (by omega)] at hj
        refine rd_LW hb (hM_pos h1 hp2 j) ?_ (gd_prim P h4 hj.2)
        have := disc_app f (hM p j)
        rw [hM_det] at this
        have this : dsc (f.app (hM p j)).a (f.app (hM p j)).b (f.app (hM p j)).c = dsc f.a f.b f.c * (p * p) := this
        rw [this, h3, Int.neg_mul]
      · intro hF
        obtain ⟨h1, h2, h3, h4⟩ := LW_rd hb hF
        obtain ⟨f, j, k1, k2, k3, k4, k5, k6, k7⟩ := hsurj P hD h1 h3 h4
        rw [rd_fix h2 h1] at k7
        refine ⟨f, ?_, List.mem_map.2 ⟨j, ?_, k7⟩⟩
        · have := rd_LW hb2 k1 k3 k4
          rwa [rd_fix k2 k1] at this
        · rw [List.mem_filter, mem_jl (by omega)]; exact ⟨k5, k6⟩
  have h1 := hperm.length_eq
  rw [hlen] at h1
  rw [cls_LW, cls_LW, ← h1, Int.natCast_mul]
  congr 1
  have hk := kr_b (-n) p
  omega
/-! 2, 3 and 5 -/
theorem eu_of {p : Int} (h : ∀ x y : Int, 0 ≤ x → x < p → 0 ≤ y → y < p → (x * y) % p = 0 → x = 0 ∨ y = 0) (hp : 0 < p) (x y : Int) (hd : p ∣ x * y) : p ∣ x ∨ p ∣ y := by
  have h1 := Int.emod_eq_zero_of_dvd hd
  rw [Int.mul_emod] at h1
  rcases h _ _ (Int.emod_nonneg x (by omega)) (Int.emod_lt_of_pos x hp) (Int.emod_nonneg y (by omega)) (Int.emod_lt_of_pos y hp) h1 with g | g
  · exact .inl (Int.dvd_of_emod_eq_zero g)
  · exact .inr (Int.dvd_of_emod_eq_zero g)
theorem kr_oddn {a n : Int} (ho : oddB n = true) (hn : 0 < n) : kr a n = if (krGo (a % n).natAbs.succ 1 (a % n) n).2 = 1 then (krGo (a % n).natAbs.succ 1 (a % n) n).1 else 0 := by
  have ea : ((n.natAbs : Nat) : Int) = n := by omega
  have hk : k1K a n = 1 := by unfold k1K k0K; rw [ea, tw_odd ho, if_neg (by simp), if_neg (by omega)]
  rw [kr_go (by omega) (by rw [ho]; simp)]
  unfold RK_
  rw [ea, tw_odd ho, hk]
theorem kr_modn {a n : Int} (ho : oddB n = true) (hn : 0 < n) : kr a n = kr (a % n) n := by
  rw [kr_oddn ho hn, kr_oddn ho hn, Int.emod_emod]
theorem kr_mod {a p : Int} (h : p = 3 ∨ p = 5) : kr a p = kr (a % p) p := by
  rcases h with rfl | rfl
  · exact kr_modn rfl (by decide)
  · exact kr_modn rfl (by decide)
theorem kr_two (a : Int) : kr a 2 = if oddB a = true then sg8 a else 0 := by
  cases h : oddB a
  · rw [if_neg (by simp)]
    exact (kr_even (by decide) h rfl).symm
  · rw [if_pos rfl, kr_go (by decide) (by rw [h]; simp)]
    have e1 : tw (((2 : Int).natAbs : Nat) : Int) = (1, 1) := by decide
    have hk : k1K a 2 = sg8 a := by unfold k1K k0K; rw [e1, if_pos (by decide), if_neg (by omega), Int.one_mul]
    unfold RK_
    rw [e1, hk, Int.emod_one]
    rfl
def cR (p x y z : Int) : Int := (((jl p).filter fun j => decide (gdV p x y z j % p ≠ 0)).length : Nat)
theorem gdV_mod {p q a b c j : Int} (h : p ∣ q) : gdV p a b c j % p = gdV p (a % q) (b % q) (c % q) j % p := by
  have e : ∀ x : Int, x % p = (x % q) % p := fun x => (Int.emod_emod_of_dvd x h).symm
  unfold gdV
  split
  · have m : ∀ x y : Int, x % p = y % p → (x * j) % p = (y * j) % p := fun x y h => by rw [Int.mul_emod, h, ← Int.mul_emod]
    have s : ∀ x y z w : Int, x % p = y % p → z % p = w % p → (x + z) % p = (y + w) % p := fun x y z w h h1 => by rw [Int.add_emod, h, h1, ← Int.add_emod]
    exact s _ _ _ _ (s _ _ _ _ (m _ _ (m _ _ (e a))) (m _ _ (e b))) (e c)
  · exact e a
theorem cR_mod {p q : Int} (f : Fm) (h : p ∣ q) : (((jl p).filter (gd p f)).length : Int) = cR p (f.a % q) (f.b % q) (f.c % q) := by
  unfold cR gd
  simp only [← gdV_mod h]
def ckR (p : Nat) : Bool := (List.range p).all fun x => (List.range p).all fun y => (List.range p).all fun z => (decide (x = 0) && decide (y = 0) && decide (z = 0)) || decide (cR p x y z = p - kr (((y : Int) * y - 4 * x * z) % p) p)
theorem ckR_3 : ckR 3 = true := by decide +kernel
theorem ckR_5 : ckR 5 = true := by decide +kernel
def ckR2 : Bool := (List.range 8).all fun x => (List.range 8).all fun y => (List.range 8).all fun z => (decide (x % 2 = 0) && decide (y % 2 = 0) && decide (z % 2 = 0)) || decide (cR 2 x y z = 2 - kr (((y : Int) * y - 4 * x * z) % 8) 2)
theorem ckR2_ok : ckR2 = true := by decide +kernel
theorem dm (q a b c : Int) : (b * b - 4 * a * c) % q = ((b % q) * (b % q) - 4 * (a % q) * (c % q)) % q := by
  rw [Int.sub_emod, Int.mul_emod b, Int.mul_emod (4 * a), Int.mul_emod 4 a, Int.sub_emod (b % q * (b % q)), Int.mul_emod (4 * (a % q)), Int.mul_emod 4 (a % q)]
  simp only [Int.emod_emod]
theorem ct_odd {p : Nat} (hp : p = 3 ∨ p = 5) (hc : ckR p = true) (f : Fm) (n : Int) (h : dsc f.a f.b f.c = -n) (h1 : ¬ ((p : Int) ∣ f.a ∧ (p : Int) ∣ f.b ∧ (p : Int) ∣ f.c)) : (((jl p).filter (gd p f)).length : Int) = p - kr (-n) p := by
  have h0 : (0 : Int) < p := by omega
  rw [cR_mod f (Int.dvd_refl _), kr_mod (by omega), ← h]
  unfold dsc
  rw [dm]
  have hr : ∀ x : Int, ∃ k : Nat, k < p ∧ x % p = (k : Int) := fun x => ⟨(x % p).toNat, by
    have := Int.emod_lt_of_pos x h0
    have := Int.emod_nonneg x (show (p : Int) ≠ 0 by omega)
    omega, by
    have := Int.emod_nonneg x (show (p : Int) ≠ 0 by omega)
    omega⟩
  obtain ⟨x, hx, ex⟩ := hr f.a
  obtain ⟨y, hy, ey⟩ := hr f.b
  obtain ⟨z, hz, ez⟩ := hr f.c
  unfold ckR at hc
  have hq := List.all_eq_true.1 (List.all_eq_true.1 (List.all_eq_true.1 hc x (List.mem_range.2 hx)) y (List.mem_range.2 hy)) z (List.mem_range.2 hz)
  rw [Bool.or_eq_true, Bool.and_eq_true, Bool.and_eq_true, decide_eq_true_iff, decide_eq_true_iff, decide_eq_true_iff, decide_eq_true_iff] at hq
  rw [ex, ey, ez]
  rcases hq with ⟨⟨rfl, rfl⟩, rfl⟩ | hq
  · exact absurd ⟨Int.dvd_of_emod_eq_zero ex, Int.dvd_of_emod_eq_zero ey, Int.dvd_of_emod_eq_zero ez⟩ h1
  · exact hq
theorem ct_two (f : Fm) (n : Int) (h : dsc f.a f.b f.c = -n) (h1 : ¬ ((2 : Int) ∣ f.a ∧ (2 : Int) ∣ f.b ∧ (2 : Int) ∣ f.c)) : (((jl 2).filter (gd 2 f)).length : Int) = 2 - kr (-n) 2 := by
  have e8 : kr (-n) 2 = kr ((-n) % 8) 2 := by
    rw [kr_two, kr_two]
    unfold oddB sg8
    rw [Int.emod_emod, Int.emod_emod_of_dvd (-n) (show (2 : Int) ∣ 8 by decide)]
  rw [cR_mod (q := 8) f (by decide), e8, ← h]
  unfold dsc
  rw [dm]
  have hr : ∀ x : Int, ∃ k : Nat, k < 8 ∧ x % 8 = (k : Int) := fun x => ⟨(x % 8).toNat, by omega, by omega⟩
  obtain ⟨x, hx, ex⟩ := hr f.a
  obtain ⟨y, hy, ey⟩ := hr f.b
  obtain ⟨z, hz, ez⟩ := hr f.c
  have hc := ckR2_ok
  unfold ckR2 at hc
  have hq := List.all_eq_true.1 (List.all_eq_true.1 (List.all_eq_true.1 hc x (List.mem_range.2 hx)) y (List.mem_range.2 hy)) z (List.mem_range.2 hz)
  rw [Bool.or_eq_true, Bool.and_eq_true, Bool.and_eq_true, decide_eq_true_iff, decide_eq_true_iff, decide_eq_true_iff, decide_eq_true_iff] at hq
  rw [ex, ey, ez]
  rcases hq with ⟨⟨q1, q2⟩, q3⟩ | hq
  · exact absurd ⟨by omega, by omega, by omega⟩ h1
  · exact hq
theorem s1_odd {p : Int} (hp : 0 < p) (h4 : ¬ p ∣ 4) (eu : ∀ x y : Int, p ∣ x * y → p ∣ x ∨ p ∣ y) (iv : ∀ c : Int, ¬ p ∣ c → ∃ x, p ∣ c * x - 1) (n a b c : Int) (h : b * b - 4 * a * c = -(n * (p * p))) (ha : ¬ p ∣ a) :
    ∃ t B C : Int, b + 2 * a * t = p * B ∧ a * t * t + b * t + c = p * p * C := by
  have h2a : ¬ p ∣ 2 * a := fun h => by
    rcases eu _ _ h with g | g
    · exact h4 (Int.dvd_trans g ⟨2, rfl⟩)
    · exact ha g
  obtain ⟨x, y, hxy⟩ := iv _ h2a
  have e1 : b + 2 * a * (-(b * x)) = p * (-(b * y)) := by grind
  generalize -(b * x) = t at e1
  generalize -(b * y) = B at e1
  have e2 : 4 * a * (a * t * t + b * t + c) = p * (p * (B * B + n)) := by grind
  generalize hcc : a * t * t + b * t + c = c' at *
  have k : ∀ z w : Int, 4 * a * z = p * w → p ∣ z := fun z w h => by
    rcases eu (4 * a) z ⟨w, h⟩ with g | g
    · rcases eu _ _ g with g | g
      · exact absurd g h4
      · exact absurd g ha
    · exact g
  obtain ⟨c1, h1⟩ := k _ _ e2
  rw [h1] at e2
  have e3 : 4 * a * c1 = p * (B * B + n) := by
    have : p * (4 * a * c1) = p * (p * (B * B + n)) := by rw [← e2]; simp only [Int.mul_left_comm]
    exact Int.eq_of_mul_eq_mul_left (by omega) this
  obtain ⟨c2, h2⟩ := k _ _ e3
  exact ⟨t, B, c2, e1, by rw [hcc, h1, h2, Int.mul_assoc]⟩
theorem dvd_small {p x : Int} (h : 0 < x) (h1 : x < p) : ¬ p ∣ x := fun g => by have := Int.le_of_dvd h g; omega
theorem all5 {P : Int → Prop} (h0 : P 0) (h1 : P 1) (h2 : P 2) (h3 : P 3) (h4 : P 4) (x : Int) (hx : 0 ≤ x) (hx5 : x < 5) : P x := by
  rcases (show x = 0 ∨ x = 1 ∨ x = 2 ∨ x = 3 ∨ x = 4 by omega) with rfl | rfl | rfl | rfl | rfl <;> assumption
theorem eu2 : ∀ x y : Int, (2 : Int) ∣ x * y → (2 : Int) ∣ x ∨ (2 : Int) ∣ y := eu_of (fun x y h1 h2 h3 h4 h => by
  rcases (show x = 0 ∨ x = 1 by omega) with rfl | rfl <;> omega) (by decide)
theorem eu3 : ∀ x y : Int, (3 : Int) ∣ x * y → (3 : Int) ∣ x ∨ (3 : Int) ∣ y := eu_of (fun x y h1 h2 h3 h4 h => by
  rcases (show x = 0 ∨ x = 1 ∨ x = 2 by omega) with rfl | rfl | rfl <;> omega) (by decide)
theorem eu5 : ∀ x y : Int, (5 : Int) ∣ x * y → (5 : Int) ∣ x ∨ (5 : Int) ∣ y := eu_of (fun x y h1 h2 h3 h4 h => by
  rcases (show x = 0 ∨ x = 1 ∨ x = 2 ∨ x = 3 ∨ x = 4 by omega) with rfl | rfl | rfl | rfl | rfl <;> omega) (by decide)
theorem iv2 (c : Int) (h : ¬ (2 : Int) ∣ c) : ∃ x, (2 : Int) ∣ c * x - 1 := ⟨1, by omega⟩
theorem iv3 (c : Int) (h : ¬ (3 : Int) ∣ c) : ∃ x, (3 : Int) ∣ c * x - 1 := by
  rcases (show c % 3 = 1 ∨ c % 3 = 2 by omega) with g | g
  · exact ⟨1, by omega⟩
  · exact ⟨2, by omega⟩
theorem iv5 (c : Int) (h : ¬ (5 : Int) ∣ c) : ∃ x, (5 : Int) ∣ c * x - 1 := by
  rcases (show c % 5 = 1 ∨ c % 5 = 2 ∨ c % 5 = 3 ∨ c % 5 = 4 by omega) with g | g | g | g
  · exact ⟨1, by omega⟩
  · exact ⟨3, by omega⟩
  · exact ⟨2, by omega⟩
  · exact ⟨4, by omega⟩
theorem gv_of {p : Nat} (h : (List.range (p * p + 1)).all (fun g => decide (p * p % g ≠ 0) || (decide (g = 1) || decide (g % p = 0))) = true) (hp : 0 < p) (g : Nat) (hg : g ∣ ((p : Int) * p).toNat) : g = 1 ∨ (p : Int) ∣ (g : Int) := by
  have e : ((p : Int) * p).toNat = p * p := by rw [← Int.natCast_mul]; rfl
  rw [e] at hg
  have h0 : 0 < p * p := Nat.mul_pos hp hp
  have h1 := List.all_eq_true.1 h g (List.mem_range.2 (Nat.lt_succ_of_le (Nat.le_of_dvd h0 hg)))
  rw [Bool.or_eq_true, Bool.or_eq_true, decide_eq_true_iff, decide_eq_true_iff, decide_eq_true_iff] at h1
  rcases h1 with h1 | h1 | h1
  · exact absurd (Nat.mod_eq_zero_of_dvd hg) h1
  · exact .inl h1
  · exact .inr (Int.natCast_dvd_natCast.2 (Nat.dvd_of_mod_eq_zero h1))
theorem PP3 : PP 3 := ⟨by decide, eu3, iv3, gv_of (p := 3) (by decide) (by decide), fun n a b c _ h ha => s1_odd (by decide) (by decide) eu3 iv3 n a b c h ha, ct_odd (p := 3) (.inl rfl) ckR_3⟩
theorem PP5 : PP 5 := ⟨by decide, eu5, iv5, gv_of (p := 5) (by decide) (by decide), fun n a b c _ h ha => s1_odd (by decide) (by decide) eu5 iv5 n a b c h ha, ct_odd (p := 5) (.inr rfl) ckR_5⟩
theorem s1_two (n a b c : Int) (hn : n % 4 = 0 ∨ n % 4 = 3) (h : b * b - 4 * a * c = -(n * (2 * 2))) (ha : ¬ (2 : Int) ∣ a) : ∃ t B C : Int, b + 2 * a * t = 2 * B ∧ a * t * t + b * t + c = 2 * 2 * C := by
  have hb : (2 : Int) ∣ b := by
    have : (2 : Int) ∣ b * b := ⟨2 * (a * c) - 2 * n, by grind⟩
    rcases eu2 _ _ this with g | g <;> exact g
  obtain ⟨b1, rfl⟩ := hb
  have e1 : ∃ t, (b1 + a * t - n) % 2 = 0 := by
    by_cases g : (b1 - n) % 2 = 0
    · exact ⟨0, by omega⟩
    · exact ⟨1, by omega⟩
  obtain ⟨t, ht⟩ := e1
  have e2 : a * (a * t * t + 2 * b1 * t + c) = (b1 + a * t) * (b1 + a * t) + n := by grind
  have hB : ∀ B : Int, (B - n) % 2 = 0 → (B * B + n) % 4 = 0 := fun B ht => by
    rcases (show B % 2 = 0 ∨ B % 2 = 1 by omega) with g | g
    · obtain ⟨q, hq⟩ : ∃ q, B = 2 * q := ⟨B / 2, by omega⟩
      have : B * B = 4 * (q * q) := by rw [hq]; grind
      omega
    · obtain ⟨q, hq⟩ : ∃ q, B = 2 * q + 1 := ⟨B / 2, by omega⟩
      have : B * B = 4 * (q * q + q) + 1 := by rw [hq]; grind
      omega
  obtain ⟨q, hq⟩ : ∃ q, (b1 + a * t) * (b1 + a * t) + n = 4 * q := ⟨((b1 + a * t) * (b1 + a * t) + n) / 4, by have := hB _ ht; omega⟩
  rw [hq] at e2
  generalize hcc : a * t * t + 2 * b1 * t + c = c' at e2
  obtain ⟨c1, rfl⟩ := (eu2 a c' ⟨2 * q, by omega⟩).resolve_left ha
  have e3 : a * c1 = 2 * q := by
    have : a * (2 * c1) = 2 * (a * c1) := Int.mul_left_comm ..
    omega
  obtain ⟨c2, rfl⟩ := (eu2 a c1 ⟨q, e3⟩).resolve_left ha
  exact ⟨t, b1 + a * t, c2, by grind, by rw [hcc]; omega⟩
theorem PP2 : PP 2 := ⟨by decide, eu2, iv2, gv_of (p := 2) (by decide) (by decide), s1_two, ct_two⟩
/-! the ratio -/
theorem rt_3 : ∀ f : Int, 1 ≤ f → f ≤ 6 → rtV (-3) f = cls (3 * (f * f)) := fun f h1 h2 => by
  rcases (show f = 1 ∨ f = 2 ∨ f = 3 ∨ f = 4 ∨ f = 5 ∨ f = 6 by omega) with rfl | rfl | rfl | rfl | rfl | rfl <;> decide +kernel
theorem rt_4 : ∀ f : Int, 1 ≤ f → f ≤ 6 → rtV (-4) f = cls (4 * (f * f)) := fun f h1 h2 => by
  rcases (show f = 1 ∨ f = 2 ∨ f = 3 ∨ f = 4 ∨ f = 5 ∨ f = 6 by omega) with rfl | rfl | rfl | rfl | rfl | rfl <;> decide +kernel
theorem isD_sq {n f : Int} (h : isD n = true) (hf : 1 ≤ f) : isD (n * (f * f)) = true := by
  rw [isD_iff] at h ⊢
  have hff := mm_pos hf
  refine ⟨Int.mul_pos h.1 (by omega), ?_⟩
  rw [Int.mul_emod]
  have : (f * f) % 4 = 0 ∨ (f * f) % 4 = 1 := by
    rw [Int.mul_emod]
    have := Int.emod_nonneg f (show (4 : Int) ≠ 0 by omega)
    have := Int.emod_lt_of_pos f (show (0 : Int) < 4 by omega)
    rcases (show f % 4 = 0 ∨ f % 4 = 1 ∨ f % 4 = 2 ∨ f % 4 = 3 by omega) with e | e | e | e <;> rw [e] <;> decide
  rcases this with e | e <;> rw [e] <;> omega
theorem kr4_2 (n : Int) : kr (-(n * (2 * 2))) 2 = 0 := by
  rw [kr_two]
  have : oddB (-(n * (2 * 2))) = false := by unfold oddB; rw [decide_eq_false_iff_not]; omega
  rw [this]; rfl
theorem kr4_3 (n : Int) : kr (-(n * (2 * 2))) 3 = kr (-n) 3 := by
  rw [kr_mod (.inl rfl), kr_mod (a := -n) (.inl rfl)]
  congr 1
  omega
theorem rt_all {n f : Int} (h : isD n = true) (hn : n ≤ 2003) (hf : 1 ≤ f ∧ f ≤ 6) : rtE (-n) f = 0 ∧ rtV (-n) f = cls (n * (f * f)) ∧ szE (-n * f * f) = 0 ∧ clE (-n * f * f) = cls (n * (f * f)) ∧ 1 ≤ cls (n * (f * f)) := by
  have hq := isD_sq h hf.1
  have hff : 1 ≤ f * f ∧ f * f ≤ 36 := by
    have := sq_b (x := f) (m := 6) (by omega)
    have := mm_pos hf.1
    omega
  have hb : n * (f * f) ≤ 2003 * 36 := Int.mul_le_mul hn hff.2 (by omega) (by omega)
  have e : -n * f * f = -(n * (f * f)) := by rw [Int.mul_assoc, Int.neg_mul]
  have e2 : -n * (f * f) = -(n * (f * f)) := Int.neg_mul ..
  have s0 := szE_isD h (by omega)
  have s1 := szE_isD hq (by omega)
  have hE : rtE (-n) f = 0 := by
    unfold rtE; rw [s0, if_neg (by omega), if_neg (by omega), e2, s1]
  refine ⟨hE, ?_, by rw [e]; exact s1, by rw [e]; exact clE_isD hq (by omega), cls_pos hq (by omega)⟩
  have hi := isD_iff.1 h
  by_cases g3 : n = 3
  · subst g3; exact rt_3 f hf.1 hf.2
  by_cases g4 : n = 4
  · subst g4; exact rt_4 f hf.1 hf.2
  have hN : szN (-n) = n := by unfold szN; rw [if_pos s0, Int.neg_neg]
  have hO : rtO n = false := by unfold rtO; simp [g3, g4]
  have h4 : 4 < n := by omega
  have r2 := ratio_p PP2 h4 hi.2 (by omega)
  have r3 := ratio_p PP3 h4 hi.2 (by omega)
  have r5 := ratio_p PP5 h4 hi.2 (by omega)
  have r4 := ratio_p (n := n * (2 * 2)) PP2 (by omega) (by omega) (by omega)
  have r6 := ratio_p (n := n * (2 * 2)) PP3 (by omega) (by omega) (by omega)
  rw [kr4_2, r2] at r4
  rw [kr4_3, r2] at r6
  unfold rtV
  rw [hE, if_neg (by omega), hN, hO, if_neg (by simp)]
  unfold rtH
  rw [hN]
  have d22 : dv 2 2 = 1 := by decide
  have d23 : dv 2 3 = 3 := by decide
  have d24 : dv 2 4 = 1 := by decide
  have d25 : dv 2 5 = 5 := by decide
  have d26 : dv 2 6 = 3 := by decide
  have d33 : dv 3 3 = 1 := by decide
  have d35 : dv 3 5 = 5 := by decide
  have d45 : dv 4 5 = 5 := by decide
  have d55 : dv 5 5 = 1 := by decide
  generalize hC : cls n = C at *
  generalize hk2 : kr (-n) 2 = k2 at *
  generalize hk3 : kr (-n) 3 = k3 at *
  generalize hk5 : kr (-n) 5 = k5 at *
  have q : ∀ m : Int, 0 < m → C * m / m = C := fun m hm => Int.mul_ediv_cancel _ (by omega)
  rcases (show f = 1 ∨ f = 2 ∨ f = 3 ∨ f = 4 ∨ f = 5 ∨ f = 6 by omega) with rfl | rfl | rfl | rfl | rfl | rfl
  · simp [rtGo, hC]
  · simp [rtGo, rtS, hk2, d22, q]; exact r2.symm
  · simp [rtGo, rtS, hk3, d23, d33, q]; exact r3.symm
  · simp [rtGo, rtS, hk2, d24]; rw [show n * 16 = n * (2 * 2) * (2 * 2) by omega, r4, show C * 4 / 2 = C * 2 by omega]; grind
  · simp [rtGo, rtS, hk5, d25, d35, d45, d55, q]; exact r5.symm
  · simp [rtGo, rtS, hk2, hk3, d26, d33]; rw [show n * 36 = n * (2 * 2) * (3 * 3) by omega, r6, show C * 6 / 2 = C * 3 by omega, show C * 3 * (2 - k2) = C * (2 - k2) * 3 by grind, Int.mul_ediv_cancel _ (by omega)]
/-! for the walk -/
def four (r : Int) : Int := if r = 0 then 3 else if r = 1 then 4 else if r = 2 then 7 else 8
theorem four_get {r : Int} (h0 : 0 ≤ r) (h : r < 4) : (([.v (.int .i64 3), .v (.int .i64 4), .v (.int .i64 7), .v (.int .i64 8)] : List DV).drop (r.toNat * 1))[0]? = some (.v (.int .i64 (four r))) := by
  rcases (show r = 0 ∨ r = 1 ∨ r = 2 ∨ r = 3 by omega) with rfl | rfl | rfl | rfl <;> rfl
theorem four_D (r : Int) : isD (four r) = true ∧ four r ≤ 2003 := by
  unfold four
  split
  · exact ⟨rfl, by decide⟩
  · split
    · exact ⟨rfl, by decide⟩
    · split
      · exact ⟨rfl, by decide⟩
      · exact ⟨rfl, by decide⟩
theorem mff_b {m f : Int} (hm : 1 ≤ m ∧ m ≤ 2003) (hf : 1 ≤ f ∧ f ≤ 6) : (-12018 ≤ -m * f ∧ -m * f ≤ 0) ∧ (-72108 ≤ -m * f * f ∧ -m * f * f ≤ 0) := by
  rcases (show f = 1 ∨ f = 2 ∨ f = 3 ∨ f = 4 ∨ f = 5 ∨ f = 6 by omega) with rfl | rfl | rfl | rfl | rfl | rfl <;> omega
end Go.AM
end
