/- The check for all discriminants. -/
import Derived.Test.YtfdjankalhfceaaGreatLGD
import Derived.Test.YtfdjankalhfceaaGreatLGE
import Derived.Test.YtfdjankalhfceaaGreatLGF
import Derived.Test.YtfdjankalhfceaaGreatLGG
import Derived.Test.YtfdjankalhfceaaGreatLGB
section
namespace Go.AM
open Go Go.RowKit
theorem ck_in {b : Int} (h : ((List.range 100).all fun i : Nat => !okD ((i : Int) + b) || chD ((i : Int) + b)) = true) {d : Int} (h1 : b ≤ d) (h2 : d < b + 100) (ho : okD d = true) : chD d = true := by
  have := List.all_eq_true.1 h (d - b).toNat (List.mem_range.2 (by omega))
  rw [show ((d - b).toNat : Int) + b = d by omega, ho] at this
  exact this
theorem ch_all {d : Int} (h1 : 5 ≤ d) (h2 : d < 2005) (ho : okD d = true) : chD d = true := by
  rcases Int.lt_or_le d 105 with q | q
  · exact ck_in ck0 (by omega) (by omega) ho
  rcases Int.lt_or_le d 205 with q | q
  · exact ck_in ck1 (by omega) (by omega) ho
  rcases Int.lt_or_le d 305 with q | q
  · exact ck_in ck2 (by omega) (by omega) ho
  rcases Int.lt_or_le d 405 with q | q
  · exact ck_in ck3 (by omega) (by omega) ho
  rcases Int.lt_or_le d 505 with q | q
  · exact ck_in ck4 (by omega) (by omega) ho
  rcases Int.lt_or_le d 605 with q | q
  · exact ck_in ck5 (by omega) (by omega) ho
  rcases Int.lt_or_le d 705 with q | q
  · exact ck_in ck6 (by omega) (by omega) ho
  rcases Int.lt_or_le d 805 with q | q
  · exact ck_in ck7 (by omega) (by omega) ho
  rcases Int.lt_or_le d 905 with q | q
  · exact ck_in ck8 (by omega) (by omega) ho
  rcases Int.lt_or_le d 1005 with q | q
  · exact ck_in ck9 (by omega) (by omega) ho
  rcases Int.lt_or_le d 1105 with q | q
  · exact ck_in ck10 (by omega) (by omega) ho
  rcases Int.lt_or_le d 1205 with q | q
  · exact ck_in ck11 (by omega) (by omega) ho
  rcases Int.lt_or_le d 1305 with q | q
  · exact ck_in ck12 (by omega) (by omega) ho
  rcases Int.lt_or_le d 1405 with q | q
  · exact ck_in ck13 (by omega) (by omega) ho
  rcases Int.lt_or_le d 1505 with q | q
  · exact ck_in ck14 (by omega) (by omega) ho
  rcases Int.lt_or_le d 1605 with q | q
  · exact ck_in ck15 (by omega) (by omega) ho
  rcases Int.lt_or_le d 1705 with q | q
  · exact ck_in ck16 (by omega) (by omega) ho
  rcases Int.lt_or_le d 1805 with q | q
  · exact ck_in ck17 (by omega) (by omega) ho
  rcases Int.lt_or_le d 1905 with q | q
  · exact ck_in ck18 (by omega) (by omega) ho
  rcases Int.lt_or_le d 2005 with q | q
  · exact ck_in ck19 (by omega) (by omega) ho
  omega
def fjD (x : Int) : Nat := (List.range 8).findIdx fun j : Nat => okD (x + j)
theorem fj_ck : ((List.range 1995).all fun i : Nat => (List.range 5).any fun j : Nat => okD ((i : Int) + 5 + j)) = true := by decide +kernel
end Go.AM
end

section
/- TopLagrange: the discriminant of a number, and the last step. -/
namespace Go.AM
open Go Go.RowKit
def szD (x : Int) : Int := x + fjD x
theorem sz_ok {x : Int} (h1 : 5 ≤ x) (h2 : x < 2000) : DOK (szD x) ∧ szD x < 2005 ∧ (∀ j : Nat, j < fjD x → okD (x + j) = false) ∧ okD (szD x) = true := by
  have h := List.all_eq_true.1 fj_ck (x - 5).toNat (List.mem_range.2 (by omega))
  obtain ⟨j, hj, hj2⟩ := List.any_eq_true.1 h
  have hj := List.mem_range.1 hj
  rw [show ((x - 5).toNat : Int) + 5 + (j : Int) = x + j by omega] at hj2
  have hlt : fjD x ≤ j := by
    unfold fjD
    rcases Nat.lt_or_ge j ((List.range 8).findIdx fun j : Nat => okD (x + j)) with q | q
    · have := List.not_of_lt_findIdx q
      simp only [List.getElem_range] at this
      rw [hj2] at this; cases this
    · exact q
  have hl : fjD x < (List.range 8).length := by rw [List.length_range]; omega
  have hy : okD (x + fjD x) = true := by
    have := List.findIdx_getElem (w := (show (List.range 8).findIdx (fun j : Nat => okD (x + j)) < (List.range 8).length from hl))
    simpa [fjD] using this
  refine ⟨(okD_iff (by unfold szD; omega) (by unfold szD; omega)).1 hy, by unfold szD; omega, fun q hq => ?_, hy⟩
  have := List.not_of_lt_findIdx (p := fun j : Nat => okD (x + j)) (xs := List.range 8) (i := q) hq
  simpa using this
def knE (d : Int) : Int := if okD d = true then 0 else 5
theorem kn_1 {d : Int} (h1 : 5 ≤ d) (h2 : d ≤ 4000) (h : cmpI (d % 4) 1 > 0) : (5 : Int) = knE d := by
  unfold knE; rw [if_neg]
  intro e
  have := ((okD_iff h1 h2).1 e).m4
  have := cmpI_gt_zero.1 h
  omega
theorem kn_2 {d : Int} (h1 : 5 ≤ d) (h2 : d ≤ 4000) (h : isSq d = true) : (5 : Int) = knE d := by
  unfold knE; rw [if_neg]
  intro e
  have := ((okD_iff h1 h2).1 e).sq
  rw [h] at this; cases this
theorem kn_3 {d : Int} (h1 : 5 ≤ d) (h2 : d ≤ 4000) (h3 : ¬ cmpI (d % 4) 1 > 0) (h : isSq d = false) : (0 : Int) = knE d := by
  unfold knE
  rw [if_pos ((okD_iff h1 h2).2 ⟨h1, h2, by rw [cmpI_gt_zero] at h3; omega, h⟩)]
theorem sv_ne {l : List Qd} : (svL l).2 ≠ [] ↔ l ≠ [] := by
  have key : ∀ (l : List Qd) (st : SvT), st.2 ≠ [] → (l.foldl svS st).2 ≠ [] := by
    intro l
    induction l with
    | nil => intro st h; exact h
    | cons r l ih =>
      intro st h
      refine ih _ ?_
      unfold svS
      split
      · exact h
      · simp
  cases l with
  | nil => simp [svL]
  | cons r l =>
    refine ⟨fun _ => by simp, fun _ => key l _ ?_⟩
    have : getR ([] : List (Ky × Value)) (tx r) = none := rfl
    unfold svS
    rw [this]; simp
theorem sv_mem {l : List Qd} {r : Qd} (h : r ∈ (svL l).2) : r ∈ l := by
  have key : ∀ (l : List Qd) (st : SvT), r ∈ (l.foldl svS st).2 → r ∈ st.2 ∨ r ∈ l := by
    intro l
    induction l with
    | nil => intro st h; exact .inl h
    | cons x l ih =>
      intro st h
      rcases ih _ h with q | q
      · unfold svS at q
        split at q
        · exact .inl q
        · rcases List.mem_append.1 q with q | q
          · exact .inl q
          · exact .inr (List.mem_singleton.1 q ▸ List.mem_cons_self ..)
      · exact .inr (List.mem_cons_of_mem _ q)
  exact (key l _ h).elim (fun q => by cases q) id
def outQ (d : Int) (eta : Qd) (y : Fm × Mt) (c : Nat) (k : Int) : List Qd := srtQ (svL (rpL d eta y c k)).2
theorem out_ne {d : Int} {eta : Qd} {y : Fm × Mt} {c : Nat} {k : Int} : decide (((outQ d eta y c k).length : Int) > 0) = decide (qsP d y c k ≠ []) := by
  unfold outQ srtQ
  rw [(List.mergeSort_perm (svL (rpL d eta y c k)).2 leQ).length_eq, Bool.eq_iff_iff, decide_eq_true_iff, decide_eq_true_iff]
  have h1 := sv_ne (l := rpL d eta y c k)
  have h2 : rpL d eta y c k ≠ [] ↔ qsP d y c k ≠ [] := by unfold rpL; rw [Ne, List.map_eq_nil_iff]
  rw [← h2, ← h1, ← List.length_pos_iff]
  omega
theorem out_top {d : Int} {u eta : Qd} {y : Fm × Mt} {c : Nat} {k : Int} (h : TK d y c u eta k) {i : Nat} (hi : i < (outQ d eta y c k).length) : decide (cmpI ((outQ d eta y c k).getD i (0, 0)).2 (qmF u u d).2 > 0) = false := by
  refine decide_eq_false fun e => ?_
  have e := cmpI_gt_zero.1 e
  have hm : (outQ d eta y c k).getD i (0, 0) ∈ outQ d eta y c k := getD_mm _ hi
  have hm2 := sv_mem ((List.mergeSort_perm _ leQ).mem_iff.1 hm)
  obtain ⟨q, hq, e2⟩ := List.mem_map.1 hm2
  have := h.top q hq
  rw [e2] at this
  omega
theorem law_fin {d : Int} {u eta : Qd} {y : Fm × Mt} {c : Nat} {k : Int} (h : TK d y c u eta k) : (decide (((outQ d eta y c k).length : Int) > 0) == ((shR (cyF (rootV d) y.1 c) k).2 == 0)) = true := by
  rw [out_ne, beq_iff_eq, Bool.eq_iff_iff, decide_eq_true_iff, beq_iff_eq]
  exact h.law
theorem sh_e (l : List Fm) (k : Int) : (shR l k).2 = 0 ∨ (shR l k).2 = 6 := by
  unfold shR; split
  · exact .inr rfl
  · exact .inl rfl
theorem sqf {k : Int} (h1 : k.natAbs ≤ 22) (h0 : k ≠ 0) (h4 : k % 4 ≠ 0) (h9 : k % 9 ≠ 0) : ∀ g : Int, 2 ≤ g → g * g ≤ 4096 → k % (g * g) ≠ 0 := fun g hg hgg e => by
  have hd := Int.dvd_of_emod_eq_zero e
  have h2 : g = 2 ∨ g = 3 ∨ g = 4 ∨ 5 ≤ g := by omega
  rcases h2 with rfl | rfl | rfl | h5
  · exact h4 e
  · exact h9 e
  · exact h4 (by have e : k % 16 = 0 := e; omega)
  · have h25 : 5 * 5 ≤ g * g := Int.mul_le_mul h5 h5 (by omega) (by omega)
    have := Int.le_of_dvd (a := g * g) (b := (k.natAbs : Int)) (by omega) (Int.dvd_natAbs.2 hd)
    omega
theorem chD_U {d : Int} (hd : DOK d) (h : chD d = true) {w0 : Mt} (hw0 : ∀ y, redC (rootV d) 60 (prD d, M1) = some y → fuC (rootV d) d 400 true (y.1, M1) (onF d) [] = some w0) : ∃ n m c y eta, DD d n m c y (qdF w0) eta := by
  unfold chD at h
  have hrt := sqK_rt hd
  rw [← hrt] at h
  cases h1 : redC (rootV d) 60 (prD d, M1) with
  | none => rw [h1] at h; cases h
  | some y =>
    rw [h1] at h
    simp only at h
    cases h2 : arF (rootV d) y.1 400 with
    | none => rw [h2] at h; cases h
    | some l =>
      rw [h2] at h
      simp only at h
      cases h3 : fuC (rootV d) d 400 true (y.1, M1) (onF d) [] with
      | none => rw [h3] at h; cases h
      | some w =>
        rw [h3] at h
        simp only at h
        have hww : w = w0 := Option.some.inj (h3.symm.trans (hw0 y h1))
        subst hww
        obtain ⟨g0, _⟩ := Bool.and_eq_true_iff.1 h
        obtain ⟨g0, g2⟩ := Bool.and_eq_true_iff.1 g0
        obtain ⟨g0, g3⟩ := Bool.and_eq_true_iff.1 g0
        obtain ⟨g0, g4⟩ := Bool.and_eq_true_iff.1 g0
        obtain ⟨g6, g5⟩ := Bool.and_eq_true_iff.1 g0
        obtain ⟨n, hR⟩ := redC_T h1
        obtain ⟨c, hA, _⟩ := arF_T (by decide) h2
        obtain ⟨m, hF, hw⟩ := fuC_T (by decide) (of_decide_eq_true g6) h3
        exact ⟨n, m, c, y, etQ d (qdF w), ⟨hd, prD_disc hd, hR, hF, hA, by rw [hw], okQ_L g5, g4, rfl, okQ_L g3, g2⟩⟩
/-- 5 has the unit (1, 1) -/
theorem five : ∃ n m c y eta, DD 5 n m c y (1, 1) eta := by
  have hd : DOK 5 := (okD_iff (by decide) (by decide)).1 (by decide)
  have hr : rootV 5 = 2 := by rw [sqK_rt hd]; decide
  have h1 : redC 2 60 (prD 5, M1) = some (prD 5, M1) := by decide +kernel
  have h2 : fuC 2 5 400 true ((prD 5, M1).1, M1) (onF 5) [] = some ⟨1, 1, 2, 5⟩ := by decide +kernel
  exact chD_U (w0 := ⟨1, 1, 2, 5⟩) hd (ch_all (by decide) (by decide) (by decide +kernel)) fun y hy => by
    rw [hr] at hy ⊢
    rw [h1] at hy
    cases hy
    exact h2
end Go.AM
end

section
/- The reduced forms of a discriminant as triples of small numbers: the list, and the rounds that make it. -/
namespace Go.AM
open Go Go.RowKit
section
end
end Go.AM
end

section
/- Small numbers: parity, residues, powers of 2, greatest common divisors, the symbol. -/
namespace Go.AM
open Go Go.RowKit
end Go.AM
end

section
/- Small numbers, continued: what the loops find. -/
namespace Go.AM
open Go Go.RowKit
section
end
end Go.AM
end

section
/- The symbol: its rounds. -/
namespace Go.AM
open Go Go.RowKit
end Go.AM
end

section
/- The symbol, as its walk asks. -/
namespace Go.AM
open Go Go.RowKit
end Go.AM
end

section
/- Lists of forms, class numbers, sums, as far as the rounds have come. -/
namespace Go.AM
open Go Go.RowKit
def EndsA (fn : Func) (res : AV) (e : Exit) (s : St) : Prop := (e = .normal ∨ e = .ret) ∧ ∃ t, fn.results = #[.tmp t] ∧ s.regs t = res
theorem callA_of {P : Program} {f : FuncId} {fn : Func} {c : Code} {N : Nat} {args : List AV} {res : AV} (hf : P.funcs[f]? = some fn) (hnm : (fn.name == "runtime.NumGoroutine") = false) (hb : fn.body = some c) (hN : fn.ntmps = N) (hna : args.length ≤ N)
    (hres : men res = []) (h : AWp P false N 0 c (EndsA fn res) ⟨fun t => args.getD t .junk, O⟩) : Call0 P f args res := by
  refine ⟨⟨fn, hf, hnm, by rw [hb]; rfl⟩, ?_⟩
  intro hh r w cargs hra hbf
  have hlen : cargs.size = args.length := by
    have : ∀ (as0 : List AV) (xs : List Value), RepArgs hh r as0 xs → xs.length = as0.length := by
      intro as0
      induction as0 with
      | nil => intro xs h; cases xs with
        | nil => rfl
        | cons _ _ => exact h.elim
      | cons p ps ih => intro xs h; cases xs with
        | nil => exact h.elim
        | cons x xs => simp [ih xs h.2]
    simpa using this _ _ hra
  have hget : ∀ (as0 : List AV) (xs : List Value), RepArgs hh r as0 xs → ∀ (t : Nat) (x : AV), as0[t]? = some x → ∃ y, xs[t]? = some y ∧ AVRep hh r x y := by
    intro as0
    induction as0 with
    | nil => intro xs _ t x h; simp at h
    | cons p ps ih => intro xs h t x hx; cases xs with
      | nil => exact h.elim
      | cons y ys => cases t with
        | zero => simp at hx; subst hx; exact ⟨y, rfl, h.1⟩
        | succ t => exact ih ys h.2 t x (by simpa using hx)
  refine callsW' (n := 0) (callsIn_of_wp_marks hf hb trivial ?_)
  let C : Ctx := ⟨w, hh, fun _ => False, r, 0, true⟩
  refine wpIn_mono (h none (fun _ => rfl) C hh r _ w ⟨rfl, rfl⟩ ⟨?_, trivial, ?_, ⟨hbf.ow, hbf.inj, hbf.hi, hbf.ho, rfl, rfl, .refl _, Nat.le_refl _, fun _ _ _ => rfl, fun m k hm => absurd rfl hm, .refl _, fun k hk => .inl hk, hbf.gl, fun _ _ => rfl, fun m b j hb => by cases hb⟩⟩) ?_
  · simp [hN]; omega
  · intro t
    show AVRep hh r (args.getD t .junk) _
    rw [List.getD_eq_getElem?_getD]
    cases ht : args[t]? with
    | none => exact trivial
    | some x =>
      obtain ⟨y, h1, h2⟩ := hget _ _ hra t x ht
      have h1' : cargs[t]? = some y := by rw [← Array.getElem?_toList]; exact h1
      have hlt : t < cargs.size := (Array.getElem?_eq_some_iff.1 h1').1
      simp only [Array.getD_eq_getD_getElem?, Array.getElem?_append_left hlt, h1', Option.getD_some]
      exact h2
  · rintro e a' w' ⟨s', h', r', ⟨he, t, hrs, hreg⟩, hc⟩
    have fin : LeavesInM (Wd none) 0 P fn a'.tmps (fun e w' => ∃ v h', e = .returned v ∧ AVRep h' r res v ∧ After hh r O w h' O w') a'.defers .returning w' := by
      refine leave_marks hc ?_
      intro h' w' hc
      have hx := hc.rg t
      rw [hreg] at hx
      have hv1 : (results fn a'.tmps).run P w' = .ok (a'.tmps.getD t undef) w' := by
        rw [results_eq, hrs]
        simp [resOne]
      have hk := hc.wk
      refine ⟨_, hv1, _, h', rfl, AVRep.rebind _ _ (fun m hm => by rw [hres] at hm; simp at hm) hx, ?_⟩
      refine ⟨fun m b e => (by cases e), fun m hm => absurd rfl hm, hk.hi, fun m k hm => absurd rfl hm, hk.os, hk.tape, hk.output, hk.size, fun k h1 _ => hk.old k h1 (fun x => x), hk.hg, fun k e => ?_⟩
      rcases hk.hn k e with g | g | g
      · exact .inl g
      · exact .inr (.inl g)
      · exact g.elim
    rcases he with rfl | rfl <;> exact fin
end Go.AM
end

section
/- Class numbers, Hurwitz class numbers, conductors, as their walks ask. -/
namespace Go.AM
open Go Go.RowKit
section
end
theorem GW.forget_as {np' : Nat} {s o o' : Own} (h : o = o') (h2 : ∀ m, o m = s m ∨ o m = none) : GW np' s o' := GW.forget (by subst h; exact h2)
end Go.AM
end

section
/- The ratio of class numbers, plainly. -/
namespace Go.AM
open Go Go.RowKit
/-- a number without a divisor -/
def dvGo (p : Int) : Nat → Int → Int
  | 0, l => l
  | k + 1, l => if l % p = 0 then dvGo p k (l / p) else l
def dv (p l : Int) : Int := dvGo p l.toNat l
end Go.AM
end

section
/- Lists of forms asked; numbers read low. -/
namespace Go.AM
open Go Go.RowKit
/-- a number read low -/
def lwO (a : Int) : Bool := decide (-9223372036854775808 ≤ a ∧ a < 9223372036854775808)
def lwV (a : Int) : Int := if lwO a = true then a else 0
def v0 (n : Nat) : Nat := wd (wl n) 0 + 4294967296 * wd (wl n) 1
end Go.AM
end

section
/- integer.Low: the words of a number, the first one last; the number of 64 bits. -/
namespace Go.AM
open Go Go.RowKit
/-- the words, as they come -/
def bkL (zs : List Nat) : List (List PV) := (List.range zs.length).map fun (k : Nat) => [.c (.v (.int .i64 ((zs.length : Int) - 1 - (k : Int)))), .c (w32 (zs.getD (zs.length - 1 - k) 0))]
theorem bkL_len (zs : List Nat) : (bkL zs).length = zs.length := by unfold bkL; simp
theorem bkL_at {zs : List Nat} {k : Nat} (h : k < zs.length) : (bkL zs)[k]? = some [.c (.v (.int .i64 ((zs.length : Int) - 1 - (k : Int)))), .c (w32 (zs.getD (zs.length - 1 - k) 0))] := by
  unfold bkL; rw [List.getElem?_map, List.getElem?_range h]; rfl
theorem bkL_get {zs : List Nat} {k : Nat} {x : List PV} (h : (bkL zs)[k]? = some x) : k < zs.length ∧ x = [.c (.v (.int .i64 ((zs.length : Int) - 1 - (k : Int)))), .c (w32 (zs.getD (zs.length - 1 - k) 0))] := by
  have hk : k < zs.length := by have := (List.getElem?_eq_some_iff.1 h).1; rwa [bkL_len] at this
  rw [bkL_at hk] at h
  exact ⟨hk, (Option.some.inj h).symm⟩
theorem bkL_two (zs : List Nat) : ∀ x ∈ bkL zs, x.length = 2 := by
  intro x hx
  unfold bkL at hx
  obtain ⟨k, _, rfl⟩ := List.mem_map.1 hx
  rfl
/-- the number of the last k words -/
def lwA (zs : List Nat) (k : Nat) : Nat := wv (zs.drop (zs.length - k))
theorem lwA_0 (zs : List Nat) : lwA zs 0 = 0 := by unfold lwA; rw [Nat.sub_zero, List.drop_length]; rfl
theorem lwA_all (zs : List Nat) : lwA zs zs.length = wv zs := by unfold lwA; rw [Nat.sub_self]; rfl
theorem lwA_next {zs : List Nat} {k : Nat} (h : k < zs.length) : lwA zs (k + 1) = lwA zs k * 4294967296 + zs.getD (zs.length - 1 - k) 0 := by
  unfold lwA
  have hi : zs.length - (k + 1) < zs.length := by omega
  rw [List.drop_eq_getElem_cons hi, show zs.length - (k + 1) + 1 = zs.length - k by omega]
  have e : zs.getD (zs.length - 1 - k) 0 = zs[zs.length - (k + 1)] := by
    rw [List.getD_eq_getElem?_getD, show zs.length - 1 - k = zs.length - (k + 1) by omega, List.getElem?_eq_getElem hi]; rfl
  rw [e]
  show _ + 4294967296 * _ = _
  omega
theorem lwA_b {zs : List Nat} (hok : okW zs) (h2 : zs.length ≤ 2) {k : Nat} (h : k < zs.length) : lwA zs k < 4294967296 := by
  rcases (show k = 0 ∨ k = 1 by omega) with rfl | rfl
  · rw [lwA_0]; omega
  · have h0 : 0 < zs.length := by omega
    rw [lwA_next h0, lwA_0]
    have := hok.getD (zs.length - 1 - 0)
    omega
theorem or64 {m x : Nat} (hm : m < 4294967296) (hx : x < 4294967296) : bits .or .u64 ((m * 4294967296 : Nat) : Int) (x : Int) = ((m * 4294967296 + x : Nat) : Int) := by
  rw [bits_or rfl (lt64 (by omega)) (lt64 (by omega)), Nat.mul_comm m, show (4294967296 : Nat) = 2 ^ 32 by rfl, Nat.two_pow_add_eq_or_of_lt (i := 32) (by omega)]
/-- as a signed number -/
def sw64 (m : Nat) : Int := if m < 9223372036854775808 then m else (m : Int) - 18446744073709551616
theorem wrap64 (z : Int) : IntKind.i64.wrap z = if 9223372036854775808 ≤ z % 18446744073709551616 then z % 18446744073709551616 - 18446744073709551616 else z % 18446744073709551616 := by
  simp [IntKind.wrap, IntKind.signed, IntKind.bits]
theorem sw64_w {m : Nat} (h : m < 18446744073709551616) : IntKind.i64.wrap (m : Int) = sw64 m := by
  rw [wrap64]
  unfold sw64
  split <;> split <;> omega
def yL (x : Int) : Int := if x < 0 then IntKind.i64.wrap (0 - sw64 x.natAbs) else sw64 x.natAbs
theorem yL_neg {x : Int} (h : x < 0) : IntKind.i64.wrap (0 - sw64 x.natAbs) = yL x := by unfold yL; rw [if_pos h]
theorem yL_pos {x : Int} (h : ¬ x < 0) : sw64 x.natAbs = yL x := by unfold yL; rw [if_neg h]
theorem yL_ok {x : Int} (h : x.natAbs < 18446744073709551616) : (lwO x = true ∧ yL x = x) ∨ (lwO x = false ∧ ¬ yL x = 0 ∧ ¬ ((x < 0) ↔ (yL x < 0))) := by
  have hy : yL x = if x < 0 then (if x.natAbs ≤ 9223372036854775808 then x else 18446744073709551616 + x) else (if x < 9223372036854775808 then x else x - 18446744073709551616) := by
    unfold yL
    rw [wrap64]
    unfold sw64
    repeat' split
    all_goals omega
  rw [hy]
  unfold lwO
  by_cases hr : -9223372036854775808 ≤ x ∧ x < 9223372036854775808
  · refine .inl ⟨decide_eq_true hr, ?_⟩
    repeat' split
    all_goals omega
  · refine .inr ⟨decide_eq_false hr, ?_⟩
    repeat' split
    all_goals omega
theorem low_bad {x : Int} (h : x.natAbs < 18446744073709551616) (h1 : (decide (x < 0) != decide (yL x < 0)) = true) : AV.t [PE 0, PB false] = .t [PE (lwV x), PB (lwO x)] := by
  rcases yL_ok h with ⟨a, b⟩ | ⟨a, b, c⟩
  · rw [b] at h1; simp at h1
  · unfold lwV; rw [a]; rfl
theorem low_good {x : Int} (h : x.natAbs < 18446744073709551616) (h1 : (decide (x < 0) != decide (yL x < 0)) = false) : AV.t [PE (yL x), PB true] = .t [PE (lwV x), PB (lwO x)] := by
  rcases yL_ok h with ⟨a, b⟩ | ⟨a, b, c⟩
  · unfold lwV; rw [a, b]; rfl
  · exfalso
    apply c
    rw [bne_eq_false_iff_eq] at h1
    exact decide_eq_decide.1 h1
theorem low_zero0 {x : Int} (h : x.natAbs < 18446744073709551616) (h1 : yL x = 0) : AV.t [PE (yL x), PB true] = .t [PE (lwV x), PB (lwO x)] := by
  rcases yL_ok h with ⟨a, b⟩ | ⟨a, b, c⟩
  · unfold lwV; rw [a, b]; rfl
  · exact absurd h1 b
end Go.AM
end
