/- Texts merged by program, in build order. -/
import Derived.Test.YtkdfinfdocdpoaaDoorMG
import Derived.Test.YtkdfinfdocdpoaaDoorMT
import Derived.Test.YtkdfinfdocdpoaaDoorMI
import Derived.Test.YtkdfinfdocdpoaaDoorMC
import Derived.Test.YtkdfinfdocdpoaaDoorRows
import Derived.Test.YtkdfinfdocdpoaaDoorTie
import Derived.Test.YtkdfinfdocdpoaaDoorCards
section
/- Kronecker's relation: a table of Hurwitz numbers, and the sums. -/
namespace Go.AM
open Go Go.RowKit
set_option maxRecDepth 100000
def hTab : List (List Int) := [[-1, 0, 0, 4, 6, 0, 0, 12, 12, 0, 0, 12, 16, 0, 0, 24, 18, 0, 0, 12, 24, 0, 0, 36, 24, 0, 0, 16, 24, 0, 0, 36],
  [36, 0, 0, 24, 30, 0, 0, 48, 24, 0, 0, 12, 48, 0, 0, 60, 40, 0, 0, 24, 24, 0, 0, 48, 48, 0, 0, 36, 48, 0, 0, 60],
  [42, 0, 0, 12, 48, 0, 0, 84, 36, 0, 0, 28, 48, 0, 0, 60, 72, 0, 0, 36, 48, 0, 0, 72, 24, 0, 0, 24, 72, 0, 0, 96],
  [72, 0, 0, 36, 30, 0, 0, 60, 72, 0, 0, 36, 64, 0, 0, 96, 48, 0, 0, 24, 72, 0, 0, 120, 48, 0, 0, 24, 72, 0, 0, 60],
  [84, 0, 0, 60, 48, 0, 0, 96, 48, 0, 0, 36, 96, 0, 0, 120, 90, 0, 0, 28, 24, 0, 0, 84, 72, 0, 0, 48, 96, 0, 0, 120],
  [72, 0, 0, 12, 96, 0, 0, 132, 48, 0, 0, 60, 48, 0, 0, 84, 120, 0, 0, 60, 72, 0, 0, 96, 48, 0, 0, 24, 120, 0, 0, 156],
  [88, 0, 0, 48, 54, 0, 0, 108, 84, 0, 0, 48, 96, 0, 0, 108, 72, 0, 0, 36, 72, 0, 0, 168, 96, 0, 0, 48, 96, 0, 0, 84],
  [144, 0, 0, 60, 48, 0, 0, 144, 24, 0, 0, 24, 144, 0, 0, 180, 96, 0, 0, 52, 72, 0, 0, 72, 96, 0, 0, 84, 120, 0, 0, 144],
  [90, 0, 0, 48, 96, 0, 0, 156, 96, 0, 0, 24, 48, 0, 0, 132, 144, 0, 0, 60, 96, 0, 0, 180, 48, 0, 0, 36, 168, 0, 0, 168],
  [108, 0, 0, 48, 48, 0, 0, 96, 120, 0, 0, 96, 112, 0, 0, 120, 120, 0, 0, 36, 96, 0, 0, 228, 48, 0, 0, 72, 120, 0, 0, 120],
  [168, 0, 0, 48, 102, 0, 0, 144, 48, 0, 0, 36, 144, 0, 0, 216, 144, 0, 0, 72, 48, 0, 0, 96, 120, 0, 0, 60, 144, 0, 0, 192],
  [72, 0, 0, 48, 144, 0, 0, 228, 120, 0, 0, 52, 96, 0, 0, 108, 144, 0, 0, 96, 48, 0, 0, 144, 96, 0, 0, 36, 192, 0, 0, 204],
  [168, 0, 0, 60, 48, 0, 0, 168, 108, 0, 0, 96, 144, 0, 0, 192, 90, 0, 0, 24, 168, 0, 0, 192, 48, 0, 0, 72, 120, 0, 0, 120],
  [216, 0, 0, 108, 96, 0, 0, 180, 72, 0, 0, 24, 144, 0, 0, 252, 160, 0, 0, 48, 72, 0, 0, 180, 144, 0, 0, 60, 192, 0, 0, 168],
  [96, 0, 0, 72, 96, 0, 0, 240, 96, 0, 0, 96, 96, 0, 0, 84, 216, 0, 0, 84, 120, 0, 0, 192, 72, 0, 0, 60, 240, 0, 0, 300],
  [144, 0, 0, 48, 78, 0, 0, 84, 120, 0, 0, 108, 96, 0, 0, 240, 144, 0, 0, 36, 144, 0, 0, 252, 144, 0, 0, 52, 120, 0, 0, 168],
  [180, 0, 0, 72, 144, 0, 0, 216, 48, 0, 0, 60, 240, 0, 0, 216, 144, 0, 0, 108, 48, 0, 0, 168, 168, 0, 0, 108, 192, 0, 0, 144],
  [144, 0, 0, 36, 96, 0, 0, 312, 96, 0, 0, 48, 144, 0, 0, 192, 240, 0, 0, 108, 96, 0, 0, 204, 48, 0, 0, 60, 240, 0, 0, 252],
  [210, 0, 0, 96, 96, 0, 0, 96, 192, 0, 0, 84, 112, 0, 0, 264, 72, 0, 0, 48, 168, 0, 0, 300, 120, 0, 0, 60, 168, 0, 0, 156],
  [216, 0, 0, 120, 144, 0, 0, 240, 96, 0, 0, 60, 192, 0, 0, 264, 192, 0, 0, 48, 72, 0, 0, 156, 96, 0, 0, 120, 240, 0, 0, 252],
  [168, 0, 0, 36, 192, 0, 0, 276, 108, 0, 0, 96, 48, 0, 0, 144, 288, 0, 0, 132, 96, 0, 0, 192, 120, 0, 0, 48, 264, 0, 0, 360],
  [144, 0, 0, 112, 78, 0, 0, 216, 144, 0, 0, 60, 240, 0, 0, 144, 120, 0, 0, 60, 168, 0, 0, 288, 144, 0, 0, 120, 168, 0, 0, 168],
  [264, 0, 0, 72, 48, 0, 0, 300, 96, 0, 0, 48, 240, 0, 0, 372, 216, 0, 0, 48, 120, 0, 0, 156, 144, 0, 0, 144, 192, 0, 0, 216],
  [144, 0, 0, 60, 192, 0, 0, 252, 144, 0, 0, 108, 96, 0, 0, 180, 240, 0, 0, 144, 192, 0, 0, 288, 48, 0, 0, 48, 312, 0, 0, 264],
  [184, 0, 0, 72, 48, 0, 0, 180, 240, 0, 0, 120, 192, 0, 0, 288, 162, 0, 0, 60, 120, 0, 0, 384, 120, 0, 0, 48, 216, 0, 0, 192],
  [252, 0, 0, 120, 144, 0, 0, 168, 72, 0, 0, 84, 192, 0, 0, 360, 240, 0, 0, 120, 96, 0, 0, 108, 240, 0, 0, 84, 216, 0, 0, 336],
  [168, 0, 0, 72, 240, 0, 0, 396, 96, 0, 0, 72, 144, 0, 0, 132, 216, 0, 0, 120, 96, 0, 0, 288, 72, 0, 0, 84, 336, 0, 0, 252],
  [288, 0, 0, 76, 96, 0, 0, 264, 120, 0, 0, 144, 192, 0, 0, 264, 192, 0, 0, 36, 192, 0, 0, 348, 144, 0, 0, 108, 168, 0, 0, 192],
  [336, 0, 0, 168, 150, 0, 0, 192, 96, 0, 0, 36, 240, 0, 0, 372, 144, 0, 0, 96, 120, 0, 0, 228, 240, 0, 0, 120, 288, 0, 0, 300],
  [72, 0, 0, 84, 144, 0, 0, 336, 216, 0, 0, 96, 96, 0, 0, 192, 360, 0, 0, 60, 144, 0, 0, 312, 96, 0, 0, 48, 360, 0, 0, 432],
  [192, 0, 0, 108, 144, 0, 0, 132, 132, 0, 0, 180, 208, 0, 0, 240, 216, 0, 0, 96, 168, 0, 0, 324, 144, 0, 0, 96, 144, 0, 0, 204],
  [288, 0, 0, 96, 144, 0, 0, 384, 144, 0, 0, 48, 336]]
def hOf (n : Int) : Int := (hTab.getD (n.toNat / 32) []).getD (n.toNat % 32) 0
def tabOK (s k : Nat) : Bool := (List.range k).all fun i => decide (hzV ((s + i : Nat) : Int) = hOf ((s + i : Nat) : Int))
theorem tab_0 : tabOK 0 200 = true := by decide +kernel
theorem tab_200 : tabOK 200 200 = true := by decide +kernel
theorem tab_400 : tabOK 400 100 = true := by decide +kernel
theorem tab_500 : tabOK 500 100 = true := by decide +kernel
theorem tab_600 : tabOK 600 100 = true := by decide +kernel
theorem tab_700 : tabOK 700 100 = true := by decide +kernel
theorem tab_800 : tabOK 800 50 = true := by decide +kernel
theorem tab_850 : tabOK 850 50 = true := by decide +kernel
theorem tab_900 : tabOK 900 50 = true := by decide +kernel
theorem tab_950 : tabOK 950 55 = true := by decide +kernel
theorem tab_get {s k n : Nat} (h : tabOK s k = true) (h1 : s ≤ n) (h2 : n < s + k) : hzV (n : Int) = hOf (n : Int) := by
  have := List.all_eq_true.1 h (n - s) (List.mem_range.2 (by omega))
  rw [decide_eq_true_iff, show s + (n - s) = n by omega] at this
  exact this
theorem hz_tab {n : Int} (h : 0 ≤ n) (h1 : n ≤ 1004) : hzV n = hOf n := by
  obtain ⟨m, rfl⟩ := Int.eq_ofNat_of_zero_le h
  by_cases g0 : m < 200
  · exact tab_get tab_0 (by omega) (by omega)
  by_cases g200 : m < 400
  · exact tab_get tab_200 (by omega) (by omega)
  by_cases g400 : m < 500
  · exact tab_get tab_400 (by omega) (by omega)
  by_cases g500 : m < 600
  · exact tab_get tab_500 (by omega) (by omega)
  by_cases g600 : m < 700
  · exact tab_get tab_600 (by omega) (by omega)
  by_cases g700 : m < 800
  · exact tab_get tab_700 (by omega) (by omega)
  by_cases g800 : m < 850
  · exact tab_get tab_800 (by omega) (by omega)
  by_cases g850 : m < 900
  · exact tab_get tab_850 (by omega) (by omega)
  by_cases g900 : m < 950
  · exact tab_get tab_900 (by omega) (by omega)
  exact tab_get tab_950 (by omega) (by omega)
def krOK (s k : Nat) : Bool := (List.range k).all fun i => !(decide (2 ≤ s + i) && primeB ((s + i : Nat) : Int)) || decide (kS hOf ((s + i : Nat) : Int) (4 * (s + i) + 1) = 24 * ((s + i : Nat) : Int))
theorem kro_0 : krOK 0 60 = true := by decide +kernel
theorem kro_60 : krOK 60 40 = true := by decide +kernel
theorem kro_100 : krOK 100 40 = true := by decide +kernel
theorem kro_140 : krOK 140 40 = true := by decide +kernel
theorem kro_180 : krOK 180 40 = true := by decide +kernel
theorem kro_220 : krOK 220 32 = true := by decide +kernel
theorem kr_get {s k p : Nat} (h : krOK s k = true) (h1 : s ≤ p) (h2 : p < s + k) (h3 : 2 ≤ p) (hp : primeB (p : Int) = true) : kS hOf (p : Int) (4 * p + 1) = 24 * (p : Int) := by
  have := List.all_eq_true.1 h (p - s) (List.mem_range.2 (by omega))
  simp only [show s + (p - s) = p by omega] at this
  rw [decide_eq_true h3, hp] at this
  simpa using this
theorem kron {p : Int} (h : 2 ≤ p) (h1 : p ≤ 251) (hp : primeB p = true) : kS hzV p (4 * p + 1).toNat = 24 * p := by
  rw [kS_congr (g := hOf) (fun n a b => hz_tab a (by omega))]
  obtain ⟨m, rfl⟩ := Int.eq_ofNat_of_zero_le (show 0 ≤ p by omega)
  rw [show (4 * (m : Int) + 1).toNat = 4 * m + 1 by omega]
  by_cases g0 : m < 60
  · exact kr_get kro_0 (by omega) (by omega) (by omega) hp
  by_cases g60 : m < 100
  · exact kr_get kro_60 (by omega) (by omega) (by omega) hp
  by_cases g100 : m < 140
  · exact kr_get kro_100 (by omega) (by omega) (by omega) hp
  by_cases g140 : m < 180
  · exact kr_get kro_140 (by omega) (by omega) (by omega) hp
  by_cases g180 : m < 220
  · exact kr_get kro_180 (by omega) (by omega) (by omega) hp
  exact kr_get kro_220 (by omega) (by omega) (by omega) hp
end Go.AM
end

section
/- chapter 11: examples, Kronecker -/
namespace Go.Proofs.YtkdfinfdocdpoaaDoor
open Go Go.AM

/- algorist/algoristlaw11.examples -/
set_option maxHeartbeats 4000000 in
set_option maxRecDepth 100000 in
theorem l_examples  :
    Call0 Tryd.prog 10 [] (B true) := by
  have e1 := c_Reduced (-23) (by omega)
  rw [ex1, ex1e] at e1
  have e2 := c_All (-12) (by omega)
  rw [ex2, ex2e] at e2
  have e3 := c_Class (-23) (by omega)
  rw [ex3, ex1e] at e3
  have e4 := c_Hurwitz 12 (by omega)
  rw [ex4, ex4e] at e4
  have e5 := c_Hurwitz 0 (by omega)
  rw [ex5, ex5e] at e5
  have e6 := c_Ratio (-3) 2 (by omega) (by omega)
  rw [ex6, ex6e] at e6
  have e7 := c_Class 5 (by omega)
  rw [ex7] at e7
  have e8 := c_Class (-4194308) (by omega)
  rw [ex8] at e8
  have sa := r11_Same ([⟨1, 1, 6⟩, ⟨2, -1, 3⟩, ⟨2, 1, 3⟩] : List Fm) ([⟨1, 1, 6⟩, ⟨2, -1, 3⟩, ⟨2, 1, 3⟩] : List Fm) (by decide)
  rw [show decide (([⟨1, 1, 6⟩, ⟨2, -1, 3⟩, ⟨2, 1, 3⟩] : List Fm) = ([⟨1, 1, 6⟩, ⟨2, -1, 3⟩, ⟨2, 1, 3⟩] : List Fm)) = true from decide_eq_true rfl] at sa
  have sb := r11_Same ([⟨1, 0, 3⟩, ⟨2, 2, 2⟩] : List Fm) ([⟨1, 0, 3⟩, ⟨2, 2, 2⟩] : List Fm) (by decide)
  rw [show decide (([⟨1, 0, 3⟩, ⟨2, 2, 2⟩] : List Fm) = ([⟨1, 0, 3⟩, ⟨2, 2, 2⟩] : List Fm)) = true from decide_eq_true rfl] at sb
  generalize clE 5 = z7 at e7
  generalize clE (-4194308) = z8 at e8
  refine callM_of (np := 0) Tryd.func10 (by kernel_rfl) rfl rfl (Nat.le_of_ble_eq_true rfl) (fun m h => absurd rfl h) (fun m h => absurd rfl h) rfl ?_
  refine AWp_seq ?_
  refine AWp_region hP ?_
  refine RK.val guard_none (op_assign (rfl : _ = AV.p (.c _))) ?_
  refine RK.done (by kernel_rfl) ?_
  refine AWp_seq ?_
  refine AWp_region hP ?_
  refine RK.val guard_none (Eff.call0 (r_Of _ (by first | assumption | decide))) ?_
  refine RK.val guard_none (Eff.call0 e1) ?_
  refine RK.val guard_none (op_move (rfl : _ = AV.t _)) ?_
  refine RK.val guard_none (op_extract rfl (v := .c _) rfl) ?_
  refine RK.val guard_none (op_extract rfl (v := .c _) rfl) ?_
  refine RK.val guard_none (op_assign (rfl : _ = AV.p (.c _))) ?_
  refine RK.val guard_none (op_assign (rfl : _ = AV.p (.c _))) ?_
  refine RK.done (by kernel_rfl) ?_
  refine AWp_seq ?_
  refine AWp_region hP ?_
  refine RK.val guard_none (Eff.call0 (r_Of _ (by first | assumption | decide))) ?_
  refine RK.val guard_none (Eff.call0 e2) ?_
  refine RK.val guard_none (op_move (rfl : _ = AV.t _)) ?_
  refine RK.val guard_none (op_extract rfl (v := .c _) rfl) ?_
  refine RK.val guard_none (op_extract rfl (v := .c _) rfl) ?_
  refine RK.val guard_none (op_assign (rfl : _ = AV.p (.c _))) ?_
  refine RK.val guard_none (op_assign (rfl : _ = AV.p (.c _))) ?_
  refine RK.done (by kernel_rfl) ?_
  refine AWp_seq ?_
  refine AWp_region hP ?_
  refine RK.val guard_none (Eff.call0 (r_Of _ (by first | assumption | decide))) ?_
  refine RK.val guard_none (Eff.call0 e3) ?_
  refine RK.val guard_none (op_move (rfl : _ = AV.t _)) ?_
  refine RK.val guard_none (op_extract rfl (v := .c _) rfl) ?_
  refine RK.val guard_none (op_extract rfl (v := .c _) rfl) ?_
  refine RK.val guard_none (op_assign (rfl : _ = AV.p (.c _))) ?_
  refine RK.val guard_none (op_assign (rfl : _ = AV.p (.c _))) ?_
  refine RK.done (by kernel_rfl) ?_
  refine AWp_seq ?_
  refine AWp_region hP ?_
  refine RK.val guard_none (Eff.call0 (r_Of _ (by first | assumption | decide))) ?_
  refine RK.val guard_none (Eff.call0 e4) ?_
  refine RK.val guard_none (op_move (rfl : _ = AV.t _)) ?_
  refine RK.val guard_none (op_extract rfl (v := .a _) rfl) ?_
  refine RK.val guard_none (op_extract rfl (v := .c _) rfl) ?_
  refine RK.alc guard_none (op_alloc hT rfl rfl) ?_
  refine RK.sto guard_none (op_store hT rfl rfl rfl rfl rfl rfl (cs := [_, _]) rfl) ?_
  refine RK.val guard_none (op_assign (rfl : _ = AV.p (.c _))) ?_
  refine RK.done (by kernel_rfl) ?_
  refine AWp_seq ?_
  refine AWp_region hP ?_
  refine RK.val guard_none (Eff.call0 (r_Of _ (by first | assumption | decide))) ?_
  refine RK.val guard_none (Eff.call0 e5) ?_
  refine RK.val guard_none (op_move (rfl : _ = AV.t _)) ?_
  refine RK.val guard_none (op_extract rfl (v := .a _) rfl) ?_
  refine RK.val guard_none (op_extract rfl (v := .c _) rfl) ?_
  refine RK.alc guard_none (op_alloc hT rfl rfl) ?_
  refine RK.sto guard_none (op_store hT rfl rfl rfl rfl rfl rfl (cs := [_, _]) rfl) ?_
  refine RK.val guard_none (op_assign (rfl : _ = AV.p (.c _))) ?_
  refine RK.done (by kernel_rfl) ?_
  refine AWp_seq ?_
  refine AWp_region hP ?_
  refine RK.val guard_none (Eff.call0 (r_Of _ (by first | assumption | decide))) ?_
  refine RK.val guard_none (Eff.call0 (r_Of _ (by first | assumption | decide))) ?_
  refine RK.val guard_none (Eff.call0 e6) ?_
  refine RK.val guard_none (op_move (rfl : _ = AV.t _)) ?_
  refine RK.val guard_none (op_extract rfl (v := .a _) rfl) ?_
  refine RK.val guard_none (op_extract rfl (v := .c _) rfl) ?_
  refine RK.alc guard_none (op_alloc hT rfl rfl) ?_
  refine RK.sto guard_none (op_store hT rfl rfl rfl rfl rfl rfl (cs := [_, _]) rfl) ?_
  refine RK.val guard_none (op_assign (rfl : _ = AV.p (.c _))) ?_
  refine RK.done (by kernel_rfl) ?_
  refine AWp_seq ?_
  refine AWp_region hP ?_
  refine RK.val guard_none (Eff.call0 (r_Of _ (by first | assumption | decide))) ?_
  refine RK.val guard_none (Eff.call0 e7) ?_
  refine RK.val guard_none (op_move (rfl : _ = AV.t _)) ?_
  refine RK.val guard_none (op_extract rfl (v := .c _) rfl) ?_
  refine RK.val guard_none (op_extract rfl (v := .c _) rfl) ?_
  refine RK.val guard_none (op_assign (rfl : _ = AV.p (.c _))) ?_
  refine RK.val guard_none (op_assign (rfl : _ = AV.p (.c _))) ?_
  refine RK.done (by kernel_rfl) ?_
  refine AWp_seq ?_
  refine AWp_region hP ?_
  refine RK.val guard_none (Eff.call0 (r_Of _ (by first | assumption | decide))) ?_
  refine RK.val guard_none (Eff.call0 e8) ?_
  refine RK.val guard_none (op_move (rfl : _ = AV.t _)) ?_
  refine RK.val guard_none (op_extract rfl (v := .c _) rfl) ?_
  refine RK.val guard_none (op_extract rfl (v := .c _) rfl) ?_
  refine RK.val guard_none (op_assign (rfl : _ = AV.p (.c _))) ?_
  refine RK.val guard_none (op_assign (rfl : _ = AV.p (.c _))) ?_
  refine RK.done (by kernel_rfl) ?_
  refine AWp_seq ?_
  refine AWp_seq ?_
  refine AWp_region hP ?_
  refine RK.val guard_none (op_move (rfl : _ = AV.p (.c _))) ?_
  refine RK.val guard_none (op_neq rfl rfl) ?_
  refine RK.val guard_none (op_move (rfl : _ = AV.p (.c _))) ?_
  refine RK.val (guard_yes rfl rfl rfl) (op_move (rfl : _ = AV.p (.c _))) ?_
  refine RK.val (guard_yes rfl rfl rfl) (op_neq rfl rfl) ?_
  refine RK.val guard_none (op_pick_f rfl rfl (rfl : _ = AV.p (.c _))) ?_
  refine RK.val guard_none (op_move (rfl : _ = AV.p (.c _))) ?_
  refine RK.val (guard_yes rfl rfl rfl) (op_move (rfl : _ = AV.p (.c _))) ?_
  refine RK.val (guard_yes rfl rfl rfl) (op_neq rfl rfl) ?_
  refine RK.val guard_none (op_pick_f rfl rfl (rfl : _ = AV.p (.c _))) ?_
  refine RK.val guard_none (op_move (rfl : _ = AV.p (.c _))) ?_
  refine RK.val (guard_yes rfl rfl rfl) (op_move (rfl : _ = AV.p (.c _))) ?_
  refine RK.val (guard_yes rfl rfl rfl) (op_neq rfl rfl) ?_
  refine RK.val guard_none (op_pick_f rfl rfl (rfl : _ = AV.p (.c _))) ?_
  refine RK.val guard_none (op_move (rfl : _ = AV.p (.c _))) ?_
  refine RK.val (guard_yes rfl rfl rfl) (op_move (rfl : _ = AV.p (.c _))) ?_
  refine RK.val (guard_yes rfl rfl rfl) (op_neq rfl rfl) ?_
  refine RK.val guard_none (op_pick_f rfl rfl (rfl : _ = AV.p (.c _))) ?_
  refine RK.val guard_none (op_move (rfl : _ = AV.p (.c _))) ?_
  refine RK.val (guard_yes rfl rfl rfl) (op_move (rfl : _ = AV.p (.c _))) ?_
  refine RK.val (guard_yes rfl rfl rfl) (op_neq rfl rfl) ?_
  refine RK.val guard_none (op_pick_f rfl rfl (rfl : _ = AV.p (.c _))) ?_
  refine RK.val guard_none (op_move (rfl : _ = AV.p (.c _))) ?_
  refine RK.val (guard_yes rfl rfl rfl) (op_move (rfl : _ = AV.p (.c _))) ?_
  refine RK.val (guard_yes rfl rfl rfl) (op_neq rfl rfl) ?_
  refine RK.val guard_none (op_pick_f rfl rfl (rfl : _ = AV.p (.c _))) ?_
  refine RK.val guard_none (op_move (rfl : _ = AV.p (.c _))) ?_
  refine RK.val (guard_yes rfl rfl rfl) (op_move (rfl : _ = AV.p (.c _))) ?_
  refine RK.val (guard_yes rfl rfl rfl) (op_neq rfl rfl) ?_
  refine RK.val guard_none (op_pick_f rfl rfl (rfl : _ = AV.p (.c _))) ?_
  refine RK.val guard_none (op_move (rfl : _ = AV.p (.c _))) ?_
  refine RK.val (guard_yes rfl rfl rfl) (op_move (rfl : _ = AV.p (.c _))) ?_
  refine RK.val (guard_yes rfl rfl rfl) (op_neq rfl rfl) ?_
  refine RK.val guard_none (op_pick_f rfl rfl (rfl : _ = AV.p (.c _))) ?_
  refine RK.done (by kernel_rfl) ?_
  refine AWp_cond_false rfl rfl ?_
  refine AWp_skip ?_
  refine AWp_seq ?_
  refine AWp_region hP ?_
  refine RK.val guard_none (op_move (rfl : _ = AV.p (.c _))) ?_
  refine RK.val guard_none (Eff.call0 (r8_Of _ _ _ (by first | assumption | decide) (by first | assumption | decide) (by first | assumption | decide))) ?_
  refine RK.val guard_none (Eff.call0 (r8_Of _ _ _ (by first | assumption | decide) (by first | assumption | decide) (by first | assumption | decide))) ?_
  refine RK.val guard_none (Eff.call0 (r8_Of _ _ _ (by first | assumption | decide) (by first | assumption | decide) (by first | assumption | decide))) ?_
  refine RK.val guard_none (op_bslice hT rfl rfl rfl (es := [_, _, _, _, _, _, _, _, _, _, _, _, _, _, _, _, _, _]) rfl rfl rfl) ?_
  refine RK.val guard_none (Eff.call0 sa) ?_
  refine RK.val guard_none (op_move (rfl : _ = AV.p (.c _))) ?_
  refine RK.val (guard_yes rfl rfl rfl) (op_move (rfl : _ = AV.p (.c _))) ?_
  refine RK.val (guard_yes rfl rfl rfl) (Eff.call0 (r8_Of _ _ _ (by first | assumption | decide) (by first | assumption | decide) (by first | assumption | decide))) ?_
  refine RK.val (guard_yes rfl rfl rfl) (Eff.call0 (r8_Of _ _ _ (by first | assumption | decide) (by first | assumption | decide) (by first | assumption | decide))) ?_
  refine RK.val (guard_yes rfl rfl rfl) (op_bslice hT rfl rfl rfl (es := [_, _, _, _, _, _, _, _, _, _, _, _]) rfl rfl rfl) ?_
  refine RK.val (guard_yes rfl rfl rfl) (Eff.call0 sb) ?_
  refine RK.val guard_none (op_pick_t rfl rfl (rfl : _ = AV.p (.c _))) ?_
  refine RK.val guard_none (op_move (rfl : _ = AV.p (.c _))) ?_
  refine RK.val (guard_yes rfl rfl rfl) (op_load_agg hT rfl rfl rfl rfl (cs := [_, _]) rfl rfl) ?_
  refine RK.val (guard_yes rfl rfl rfl) (Eff.call0 (r_Of _ (by first | assumption | decide))) ?_
  refine RK.val (guard_yes rfl rfl rfl) (Eff.call0 (r_Same _ _)) ?_
  refine RK.val guard_none (op_pick_t rfl rfl (rfl : _ = AV.p (.c _))) ?_
  refine RK.val guard_none (op_move (rfl : _ = AV.p (.c _))) ?_
  refine RK.val (guard_yes rfl rfl rfl) (op_load_agg hT rfl rfl rfl rfl (cs := [_, _]) rfl rfl) ?_
  refine RK.val (guard_yes rfl rfl rfl) (Eff.call0 (r_Of _ (by first | assumption | decide))) ?_
  refine RK.val (guard_yes rfl rfl rfl) (Eff.call0 (r_Same _ _)) ?_
  refine RK.val guard_none (op_pick_t rfl rfl (rfl : _ = AV.p (.c _))) ?_
  refine RK.val guard_none (op_move (rfl : _ = AV.p (.c _))) ?_
  refine RK.val (guard_yes rfl rfl rfl) (op_load_agg hT rfl rfl rfl rfl (cs := [_, _]) rfl rfl) ?_
  refine RK.val (guard_yes rfl rfl rfl) (Eff.call0 (r_Of _ (by first | assumption | decide))) ?_
  refine RK.val (guard_yes rfl rfl rfl) (Eff.call0 (r_Same _ _)) ?_
  refine RK.val guard_none (op_pick_t rfl rfl (rfl : _ = AV.p (.c _))) ?_
  refine RK.val guard_none (op_assign (rfl : _ = AV.p (.c _))) ?_
  refine RK.done (by kernel_rfl) ?_
  refine AWp_ret ?_
  refine ends_one rfl (.inr rfl) (res_tmp rfl) ?_ O_ends
  exact .refl _

/- algorist/algoristlaw11.CountKronecker -/
set_option maxHeartbeats 4000000 in
set_option maxRecDepth 100000 in
theorem l_CountKronecker (D : Nat) (_hD : D < 65536) :
    Call0 Tryd.prog 6 [.p (.c (.v (.int .u16 (D : Int))))] (B true) := by
  have d1 := Int.emod_nonneg (D : Int) (show (250 : Int) ≠ 0 by omega)
  have d2 := Int.emod_lt_of_pos (D : Int) (show (0 : Int) < 250 by omega)
  refine callM_of (np := 0) Tryd.func6 (by kernel_rfl) rfl rfl (Nat.le_of_ble_eq_true rfl) (fun m h => absurd rfl h) (fun m h => absurd rfl h) rfl ?_
  refine AWp_seq ?_
  refine AWp_region hP ?_
  refine RK.val guard_none (op_assign (rfl : _ = AV.p (.c _))) ?_
  refine RK.done (by kernel_rfl) ?_
  refine AWp_seq ?_
  refine AWp_region hP ?_
  refine RK.val guard_none (Eff.call0 l_examples) ?_
  refine RK.val guard_none (op_assign (rfl : _ = AV.p (.c _))) ?_
  refine RK.done (by kernel_rfl) ?_
  refine AWp_seq ?_
  refine AWp_seq ?_
  refine AWp_region hP ?_
  refine RK.val guard_none (op_move (rfl : _ = AV.p (.c _))) ?_
  refine RK.val guard_none (op_unot rfl) ?_
  refine RK.done (by kernel_rfl) ?_
  refine AWp_cond_false rfl rfl ?_
  refine AWp_skip ?_
  refine AWp_seq ?_
  refine AWp_region hP ?_
  refine RK.val guard_none (op_move (rfl : _ = AV.p (.c _))) ?_
  refine RK.val guard_none (op_rem rfl rfl (by decide) (c := (D : Int) % 250) (Int.tmod_eq_emod_of_nonneg (by omega))) ?_
  refine RK.val guard_none (op_conv hT rfl rfl rfl rfl (IntWalk.i64_in _ (by omega))) ?_
  refine RK.val guard_none (op_add rfl rfl (by first | exact IntWalk.i64_in _ (by omega) | rfl)) ?_
  refine RK.val guard_none (op_assign (rfl : _ = AV.p (.c _))) ?_
  refine RK.done (by kernel_rfl) ?_
  refine AWp_seq ?_
  refine AWp_block ?_
  refine AWp_loop (ι := Int) (fun p => stL [(3, .p (.c (.v (.bool true)))), (4, Z p)] []) (fun p => 2 ≤ p ∧ p ≤ 251) (fun p => (251 - p).toNat) (2 + (D : Int) % 250) (by omega) (le_stL ⟨.refl _, .refl _, trivial⟩ trivial) ?_
  rintro p ⟨hp1, hp2⟩
  refine AWp_seq ?_
  refine AWp_seq ?_
  refine AWp_region hP ?_
  refine RK.val guard_none (op_move (rfl : _ = AV.p (.c _))) ?_
  refine RK.val guard_none (Eff.call0 (r3_IsPrime _ (by omega) (by omega))) ?_
  refine RK.val guard_none (op_unot rfl) ?_
  refine RK.done (by kernel_rfl) ?_
  refine AWp_cond rfl (fun hb1 => ?_) (fun hb1 => ?_)
  · have hb1_ := (notT hb1)
    refine AWp_skip ?_
    refine AWp_block ?_
    refine AWp_region hP ?_
    refine RK.val guard_none (op_move (rfl : _ = AV.p (.c _))) ?_
    refine RK.val guard_none (op_add rfl rfl (by first | exact IntWalk.i64_in _ (by omega) | rfl)) ?_
    refine RK.val guard_none (op_assign (rfl : _ = AV.p (.c _))) ?_
    refine RK.done (by kernel_rfl) ?_
    have hne : p ≠ 251 := fun e => by
      rw [e, prime251] at hb1
      cases hb1
    refine ⟨p + 1, by omega, by omega, le_stL ⟨.refl _, .refl _, trivial⟩ trivial⟩
  · have hb1_ := (notF hb1)
    have hpr := notF hb1
    refine AWp_exit ?_
    refine AWp_seq ?_
    refine AWp_region hP ?_
    refine RK.val guard_none (Eff.call0 (r_Of 0 (by decide))) ?_
    refine RK.alc guard_none (op_alloc hT rfl rfl) ?_
    refine RK.sto guard_none (op_store hT rfl rfl rfl rfl rfl rfl (cs := [_, _]) rfl) ?_
    refine RK.done (by kernel_rfl) ?_
    refine AWp_seq ?_
    refine AWp_seq ?_
    refine AWp_region hP ?_
    refine RK.val guard_none (op_move (rfl : _ = AV.p (.c _))) ?_
    refine RK.val guard_none (op_mul rfl rfl (by first | exact IntWalk.i64_in _ (by omega) | rfl)) ?_
    refine RK.val guard_none (op_assign (rfl : _ = AV.p (.c _))) ?_
    refine RK.done (by kernel_rfl) ?_
    refine AWp_block ?_
    refine AWp_loop (ι := Nat) (fun k => stL [(3, .p (.c (.v (.bool true)))), (4, Z p), (5, .loc 5 0), (6, Z (-2 * p + (k : Int)))] [(5, ⟨false, 1, 35, [zn (kS hzV p k), zm (kS hzV p k)]⟩)]) (fun k => (k : Int) ≤ 4 * p + 1) (fun k => (4 * p + 1 - k).toNat) 0 (by omega) (le_stL ⟨.refl _, .refl _, .refl _, Sub.int (by omega), trivial⟩ ⟨rfl, trivial⟩) ?_
    intro k hk
    have hS := kS_b p k
    have qt := sq_b (x := (-2 * p + (k : Int))) (m := 503) (by omega)
    refine AWp_seq ?_
    refine AWp_seq ?_
    refine AWp_region hP ?_
    refine RK.val guard_none (op_move (rfl : _ = AV.p (.c _))) ?_
    refine RK.val guard_none (op_move (rfl : _ = AV.p (.c _))) ?_
    refine RK.val guard_none (op_mul rfl rfl (by first | exact IntWalk.i64_in _ (by omega) | rfl)) ?_
    refine RK.val guard_none (op_leq rfl rfl) ?_
    refine RK.done (by kernel_rfl) ?_
    refine AWp_cond rfl (fun hb2 => ?_) (fun hb2 => ?_)
    · have hb2_ := of_decide_eq_true hb2
      refine AWp_skip ?_
      refine AWp_seq ?_
      refine AWp_block ?_
      refine AWp_seq ?_
      refine AWp_seq ?_
      refine AWp_region hP ?_
      refine RK.val guard_none (op_move (rfl : _ = AV.p (.c _))) ?_
      refine RK.val guard_none (op_move (rfl : _ = AV.p (.c _))) ?_
      refine RK.val guard_none (op_mul rfl rfl (by first | exact IntWalk.i64_in _ (by omega) | rfl)) ?_
      refine RK.val guard_none (op_move (rfl : _ = AV.p (.c _))) ?_
      refine RK.val guard_none (op_mul rfl rfl (by first | exact IntWalk.i64_in _ (by omega) | rfl)) ?_
      refine RK.val guard_none (op_gtr rfl rfl) ?_
      refine RK.done (by kernel_rfl) ?_
      refine AWp_cond rfl (fun hb3 => ?_) (fun hb3 => ?_)
      · have hb3_ := of_decide_eq_true hb3
        refine AWp_exit ?_
        refine AWp_region hP ?_
        refine RK.val guard_none (op_move (rfl : _ = AV.p (.c _))) ?_
        refine RK.val guard_none (op_add rfl rfl (by first | exact IntWalk.i64_in _ (by omega) | rfl)) ?_
        refine RK.val guard_none (op_assign (rfl : _ = AV.p (.c _))) ?_
        refine RK.done (by kernel_rfl) ?_
        refine ⟨k + 1, by omega, by omega, le_stL ⟨.refl _, .refl _, .refl _, Sub.int (by omega), trivial⟩ ⟨Eq.trans rfl (congrArg (fun x => some (⟨false, 1, 35, [zn x, zm x]⟩ : Blk)) (kS_skip hb3_)), trivial⟩⟩
      · have hb3_ := of_decide_eq_false hb3
        have he := hz_small (m := 4 * p - (-2 * p + (k : Int)) * (-2 * p + (k : Int))) (by omega) (by omega)
        have hv := hzV_b (4 * p - (-2 * p + (k : Int)) * (-2 * p + (k : Int)))
        have ia : LB (kS hzV p k) 6 := ⟨by unfold L; omega⟩
        have ib : LB (hzV (4 * p - (-2 * p + (k : Int)) * (-2 * p + (k : Int)))) 6 := ⟨by unfold L; omega⟩
        refine AWp_skip ?_
        refine AWp_seq ?_
        refine AWp_region hP ?_
        refine RK.val guard_none (op_move (rfl : _ = AV.p (.c _))) ?_
        refine RK.val guard_none (op_mul rfl rfl (by first | exact IntWalk.i64_in _ (by omega) | rfl)) ?_
        refine RK.val guard_none (op_move (rfl : _ = AV.p (.c _))) ?_
        refine RK.val guard_none (op_move (rfl : _ = AV.p (.c _))) ?_
        refine RK.val guard_none (op_mul rfl rfl (by first | exact IntWalk.i64_in _ (by omega) | rfl)) ?_
        refine RK.val guard_none (op_sub rfl rfl (by first | exact IntWalk.i64_in _ (by omega) | rfl)) ?_
        refine RK.val guard_none (Eff.call0 (r_Of _ (by unfold InI64; omega))) ?_
        refine RK.val guard_none (Eff.call0 (c_Hurwitz _ (by omega))) ?_
        refine RK.val guard_none (op_move (rfl : _ = AV.t _)) ?_
        refine RK.val guard_none (op_extract rfl (v := .a _) rfl) ?_
        refine RK.val guard_none (op_extract rfl (v := .c _) rfl) ?_
        refine RK.alc guard_none (op_alloc hT rfl rfl) ?_
        refine RK.sto guard_none (op_store hT rfl rfl rfl rfl rfl rfl (cs := [_, _]) rfl) ?_
        refine RK.val guard_none (op_assign (rfl : _ = AV.p (.c _))) ?_
        refine RK.done (by kernel_rfl) ?_
        refine AWp_seq ?_
        refine AWp_seq ?_
        refine AWp_region hP ?_
        refine RK.val guard_none (op_move (rfl : _ = AV.p (.c _))) ?_
        refine RK.val guard_none (op_neq rfl rfl) ?_
        refine RK.done (by kernel_rfl) ?_
        refine AWp_cond_false rfl (by rw [he]; rfl) ?_
        refine AWp_skip ?_
        refine AWp_region hP ?_
        refine RK.val guard_none (op_load_agg hT rfl rfl rfl rfl (cs := [_, _]) rfl rfl) ?_
        refine RK.val guard_none (op_load_agg hT rfl rfl rfl rfl (cs := [_, _]) rfl rfl) ?_
        refine RK.val guard_none (Eff.call0 (r_Add _ _ lz lz)) ?_
        refine RK.sto guard_none (op_store hT rfl rfl rfl rfl rfl rfl (cs := [_, _]) rfl) ?_
        refine RK.done (by kernel_rfl) ?_
        refine AWp_region hP ?_
        refine RK.val guard_none (op_move (rfl : _ = AV.p (.c _))) ?_
        refine RK.val guard_none (op_add rfl rfl (by first | exact IntWalk.i64_in _ (by omega) | rfl)) ?_
        refine RK.val guard_none (op_assign (rfl : _ = AV.p (.c _))) ?_
        refine RK.done (by kernel_rfl) ?_
        refine ⟨k + 1, by omega, by omega, le_stL ⟨.refl _, .refl _, .refl _, Sub.int (by omega), trivial⟩ ⟨Eq.trans rfl (congrArg (fun x => some (⟨false, 1, 35, [zn x, zm x]⟩ : Blk)) (kS_add hb3_)), trivial⟩⟩
    · have hb2_ := of_decide_eq_false hb2
      have hkk : k = (4 * p + 1).toNat := by omega
      have hfin : decide (kS hzV p k = 24 * p) = true := by rw [hkk]; exact decide_eq_true (kron hp1 hp2 hpr)
      refine AWp_exit ?_
      refine AWp_seq ?_
      refine AWp_region hP ?_
      refine RK.val guard_none (op_load_agg hT rfl rfl rfl rfl (cs := [_, _]) rfl rfl) ?_
      refine RK.val guard_none (op_move (rfl : _ = AV.p (.c _))) ?_
      refine RK.val guard_none (op_mul rfl rfl (by first | exact IntWalk.i64_in _ (by omega) | rfl)) ?_
      refine RK.val guard_none (Eff.call0 (r_Of _ (by unfold InI64; omega))) ?_
      refine RK.val guard_none (Eff.call0 (r_Same _ _)) ?_
      refine RK.val guard_none (op_move (rfl : _ = AV.p (.c _))) ?_
      refine RK.val (guard_yes rfl rfl hfin) (op_move (rfl : _ = AV.p (.c _))) ?_
      refine RK.val guard_none (op_pick_t rfl hfin (rfl : _ = AV.p (.c _))) ?_
      refine RK.val guard_none (op_assign (rfl : _ = AV.p (.c _))) ?_
      refine RK.done (by kernel_rfl) ?_
      refine AWp_ret ?_
      refine ends_one rfl (.inr rfl) (res_tmp rfl) ?_ O_ends
      exact .refl _

end Go.Proofs.YtkdfinfdocdpoaaDoor
end

section
/- The law 'CountKronecker': for every input the call returns true and its arguments read as they did. No condition. -/
namespace Go.Proofs.YtkdfinfdocdpoaaDoor.countKronecker
open Go Go.AM Go.RowKit

theorem own : ownKnob Tryd.prog.godebug = none := by kernel_rfl
theorem lo : laidOutB Tryd.prog = true := by kernel_rfl
theorem o22 {H : Type} {enc : TypeId × Value → H} {W : World} : Opens enc Tryd.prog W 22 [.i .u16] :=
  opens_int Tryd.underlying22
set_option maxRecDepth 100000 in
theorem opened {H : Type} {enc : TypeId × Value → H} {W : World} : ArgsData enc Tryd.prog W Tryd.f6 6 := by
  refine args1 (rfl : Tryd.f6.params = #[22]) ?_
  intro v0 e0 p0 base hv0 ht0 hw0
  obtain ⟨n0, w0, r0⟩ := arg_int Tryd.underlying22 hv0 ht0
  refine ⟨[_], ⟨r0, trivial⟩, ?_⟩
  have h0 := Int.toNat_of_nonneg (bounds_u16 w0).1
  have g0 := (bounds_u16 w0).2
  rw [← h0]
  exact l_CountKronecker _ (by omega)

abbrev laidL : List (String × DataW Unit) := [("algorist/modular.signs", Rows.laid_algorist_modular_signs)]
set_option maxRecDepth 100000 in
theorem door_met (os : Os) (args : Array Value) : laidMetH Tryd.prog laidL ((World.doorLaid Tryd.prog 400 os).forCall (fun _ _ => 0) ⟨#[], args, []⟩).memory :=
  laidMetH_of_parts3 (fuel := 8) (laidMet_of_run' 8 (by kernel_rfl) (by kernel_rfl)) (by kernel_rfl) (by kernel_rfl)
theorem glob_ok (W : World) (h : laidMetH Tryd.prog laidL W) : GlOK (wh W) := by
  have hh := laid_ints (P := Tryd.prog) (W := W) (n := "algorist/modular.signs") (g := 0) (k := .i64) (xs := [0, 1, 0, -1, 0, -1, 0, 1]) (ty := 88) (e := 3) h (MakeChecks.laidMetH_plain _ _ _ (by kernel_rfl)) (by kernel_rfl) (by kernel_rfl) Tryd.underlying88 Tryd.underlying3 (by kernel_rfl)
  intro p hp
  simp only [glist, List.mem_cons, List.not_mem_nil, or_false] at hp
  subst hp
  exact hh

set_option maxRecDepth 100000 in
theorem lifted (os : Os) (started : os.Started) (H : Type) (enc : TypeId × Value → H) :
    ReturnsInHanded {} Tryd.checked os 6 .any (fun w args => (Rows.countKroneckerSpec.pre enc Tryd.prog Tryd.f6 [] false w args ∧ laidMetH Tryd.prog laidL w) ∧ sizedMet enc Tryd.prog Tryd.f6 (OpenSpec.ofChange Rows.countKroneckerSpec) false w args) (Rows.countKroneckerSpec.post enc Tryd.prog Tryd.f6 false true false false) :=
  law_row_laid (C := Tryd.checked) own started (by kernel_rfl) Tryd.func6
    (ChangeSpec.witness_shaped (enc := enc) (C := Tryd.checked) (os := os) (X := fun w _ => laidMetH Tryd.prog laidL w) false (World.doorLaid Tryd.prog 400 os) #[.int .u16 0] 24 rfl (World.shaped_of_RefB (by kernel_rfl) (by kernel_rfl)) (by kernel_rfl) (by kernel_rfl) (by kernel_rfl) (door_met os _))
    lo (fun t ht => by
      have e : Tryd.f6.params.toList = [22] := rfl
      rw [e] at ht
      simp only [List.mem_cons, List.not_mem_nil, or_false] at ht
      subst ht 
      exact ⟨by kernel_rfl, Nat.le_of_ble_eq_true (by kernel_rfl)⟩)
    rfl (fun ds hd => by
      have e : ds.length = 1 := hd
      match ds, e with
      | [x0], _ => exact ⟨rfl, rfl, rfl⟩)
    rfl Tryd.underlying4 (fun W => opened) glob_ok

theorem over : Rows.countKroneckerRow.holds Tryd.pinned (OpenSpec.ofChange Rows.countKroneckerSpec) :=
  OpenClaim.holds_of_wide 6 Tryd.f6 rfl rfl rfl rfl rfl rfl rfl ⟨rfl, rfl, rfl, rfl, rfl⟩ rfl rfl rfl rfl rfl (by kernel_rfl) Tryd.func6 (by kernel_rfl)
    (of_decide_eq_true (by kernel_rfl)) (by unfold Func.isWrapper; first | (rw [if_pos (by decide +kernel)]; kernel_rfl) | (rw [if_neg (by decide +kernel)]; exact ⟨rfl, rfl⟩))
    (fun os started H enc _ => lifted os started H enc)

theorem row_proved : Rows.CountKroneckerSaid := over

theorem proved : Rows.CountKroneckerCardSaid :=
  Claim7.holds_tied_plain_at .later [] [.data] true (true, "4b7c0a518a4d789cebb104cf870566f82ccc4300e3a3677923114b2bb8c739b5") false
    row_proved (fun _ h => by cases h) (by kernel_rfl) (fun _ h => by cases h) countKronecker_row_tie rfl ⟨rfl, rfl⟩ (by kernel_rfl) rfl
    (fun f fn hf hfn => by
      obtain rfl : f = 6 := Option.some.inj ((show Tryd.prog.funcNamed Rows.countKroneckerRow.func = some 6 by kernel_rfl).symm.trans hf) |>.symm
      obtain rfl : fn = Tryd.f6 := (Option.some.inj (Tryd.func6.symm.trans hfn)).symm
      exact ⟨by kernel_rfl, fun j t ht => by
        have hm : t ∈ [22] := by simpa using Array.mem_of_getElem? ht
        have hall : ([22].all fun u => !Tryd.prog.wantsStandIn u) = true := by kernel_rfl
        exact (show Tryd.prog.wantsStandIn t = false by simpa using List.all_eq_true.1 hall t hm)⟩)
    (by kernel_rfl)
end Go.Proofs.YtkdfinfdocdpoaaDoor.countKronecker
end
