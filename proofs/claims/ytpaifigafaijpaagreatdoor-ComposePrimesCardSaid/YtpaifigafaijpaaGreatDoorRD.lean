/- Texts merged by program, in build order. -/
import Derived.Test.YtpaifigafaijpaaGreatDoorRC
section
/- Square roots modulo small primes, by computing. -/
namespace Go.AM
open Go Go.RowKit
theorem blt_iff {x y : Nat} : Nat.blt x y = true ↔ x < y := by unfold Nat.blt; rw [Nat.ble_eq]; exact Iff.rfl
theorem blt_f {x y : Nat} (h : ¬ x < y) : Nat.blt x y = false := by
  cases g : Nat.blt x y
  · rfl
  · exact absurd (blt_iff.1 g) h
def jA (a p : Nat) : Nat := jG 2048 0 a p
theorem kr_jA {a m : Nat} (hm : m % 2 = 1) (h : m < 2048) (ha : a < m) : kr (a : Int) (m : Int) = (jA a m : Int) - 1 := by
  have ho : oddB (m : Int) = true := by unfold oddB; exact decide_eq_true (by omega)
  rw [kr_pos (tw_odd ho) (by omega) (by rw [ho]; simp), if_neg (by simp)]
  have em : (a : Int) % (m : Int) = (a : Int) := Int.emod_eq_of_lt (by omega) (by omega)
  rw [em]
  exact jG_eq 2048 0 a m 1 _ (by omega) (by omega) hm (by decide) (by omega)
/-- powers by bits, the least bit first -/
def hfN (w p : Nat) : Nat → Nat → Nat → Nat → Nat → Nat → (Nat → Bool) → Bool
  | 0, _, _, _, _, _, _ => false
  | f + 1, n, x1, y1, x2, y2, k =>
    bif Nat.beq n 0 then k x1 else
    frc ((x2 * x2 + w * (y2 * y2)) % p) fun a2 => frc ((x2 * y2 + y2 * x2) % p) fun b2 => frc (n / 2) fun h =>
    bif Nat.beq (n % 2) 1 then frc ((x1 * x2 + w * (y1 * y2)) % p) fun a1 => frc ((x1 * y2 + y1 * x2) % p) fun b1 => hfN w p f h a1 b1 a2 b2 k
    else hfN w p f h x1 y1 a2 b2 k
theorem hfS_stay {w p t : Int} {n i : Nat} (h : n / 2 ^ i = 0) : ∀ j, (hfS w p n t (i + j)).1 = (hfS w p n t i).1
  | 0 => rfl
  | j + 1 => by
    rw [← hfS_stay h j]
    have h2 : n / 2 ^ (i + j) = 0 := by rw [Nat.pow_add, ← Nat.div_div_eq_div_mul, h, Nat.zero_div]
    exact (hf_no (i := i + j) (by rw [h2]; decide)).symm
theorem hfN_eq {w p : Nat} {t : Int} {N : Nat} {k : Nat → Bool} : ∀ (f n x1 y1 x2 y2 i : Nat), n = N / 2 ^ i → hfS (w : Int) (p : Int) N t i = (((x1 : Int), (y1 : Int)), ((x2 : Int), (y2 : Int))) → hfN w p f n x1 y1 x2 y2 k = true →
    ∃ r : Nat, k r = true ∧ (r : Int) = (hfS (w : Int) (p : Int) N t (blen N)).1.1
  | 0, _, _, _, _, _, _, _, _, h => by cases h
  | f + 1, n, x1, y1, x2, y2, i, hn, hs, h => by
    unfold hfN at h
    by_cases h0 : n = 0
    · subst h0
      refine ⟨x1, h, ?_⟩
      have e0 : N / 2 ^ i = 0 := hn.symm
      have eb : N / 2 ^ blen N = 0 := Nat.div_eq_of_lt blen_lt
      have e : (hfS (w : Int) (p : Int) N t (blen N)).1 = (hfS (w : Int) (p : Int) N t i).1 := by
        rcases Nat.le_total i (blen N) with g | g
        · have := hfS_stay (w := (w : Int)) (p := (p : Int)) (t := t) e0 (blen N - i)
          rwa [show i + (blen N - i) = blen N by omega] at this
        · have := hfS_stay (w := (w : Int)) (p := (p : Int)) (t := t) eb (i - blen N)
          rw [show blen N + (i - blen N) = i by omega] at this
          exact this.symm
      rw [e, hs]
    · have hb : Nat.beq n 0 = false := by
        cases g : Nat.beq n 0
        · rfl
        · exact absurd (Nat.eq_of_beq_eq_true g) h0
      rw [hb, cond_false, frc_eq, frc_eq, frc_eq] at h
      have hn2 : n / 2 = N / 2 ^ (i + 1) := by rw [hn, Nat.pow_succ, Nat.div_div_eq_div_mul]
      by_cases h1 : n % 2 = 1
      · have hb1 : Nat.beq (n % 2) 1 = true := by rw [h1]; rfl
        rw [hb1, cond_true, frc_eq, frc_eq] at h
        refine hfN_eq f _ _ _ _ _ (i + 1) hn2 ?_ h
        show ((ite _ _ _ : Int × Int), _) = _
        rw [if_pos (by rw [← hn]; exact h1), hs]
        simp only [hmM, Int.natCast_add, Int.natCast_mul, Int.natCast_emod]
      · have hb1 : Nat.beq (n % 2) 1 = false := by
          cases g : Nat.beq (n % 2) 1
          · rfl
          · exact absurd (Nat.eq_of_beq_eq_true g) h1
        rw [hb1, cond_false] at h
        refine hfN_eq f _ _ _ _ _ (i + 1) hn2 ?_ h
        show ((ite _ _ _ : Int × Int), _) = _
        rw [if_neg (by rw [← hn]; exact h1), hs]
        simp only [hmM, Int.natCast_add, Int.natCast_mul, Int.natCast_emod]
def ckF (a p r : Nat) : Bool := Nat.blt r p && frc (bif Nat.blt (p - r) r then p - r else r) fun s => Nat.beq (s * s % p) a && Nat.ble (2 * s) p
def ckA (a p : Nat) : Nat → Nat → Bool
  | 0, _ => false
  | f + 1, t => frc ((t * t + (p - a)) % p) fun w => bif Nat.beq w 0 then ckF a p t else bif Nat.beq (jA w p) 0 then hfN w p 30 ((p + 1) / 2) 1 0 t 1 (ckF a p) else frc (t + 1) fun u => ckA a p f u
def ckQ (p a : Nat) : Bool := bif Nat.beq (jA a p) 2 then ckA a p 60 0 else true
def ckP (p : Nat) : Bool := (List.range p).all (ckQ p)
def GoodR (a p r : Int) : Prop := (0 ≤ sqR1 r p ∧ 2 * sqR1 r p ≤ p) ∧ p ∣ sqR1 r p * sqR1 r p - a
theorem ckF_ok {a p r : Nat} (h : ckF a p r = true) : GoodR a p r := by
  unfold ckF at h
  rw [frc_eq, Bool.and_eq_true, Bool.and_eq_true] at h
  obtain ⟨h1, h2, h3⟩ := h
  have hr : r < p := blt_iff.1 h1
  have e2 := Nat.eq_of_beq_eq_true h2
  have e3 := Nat.le_of_ble_eq_true h3
  have hs : ((bif Nat.blt (p - r) r then p - r else r : Nat) : Int) = sqR1 (r : Int) (p : Int) := by
    unfold sqR1
    by_cases g : r = 0
    · subst g
      rw [if_neg (by simp)]
      have : Nat.blt (p - 0) 0 = false := blt_f (by omega)
      rw [this]; rfl
    · have em : -(r : Int) % (p : Int) = ((p - r : Nat) : Int) := by
        have : -(r : Int) = ((p - r : Nat) : Int) + (p : Int) * (-1) := by omega
        rw [this, Int.add_mul_emod_self_left]
        exact Int.emod_eq_of_lt (by omega) (by omega)
      rw [em]
      by_cases g2 : p - r < r
      · have : Nat.blt (p - r) r = true := blt_iff.2 g2
        rw [this, if_pos (by omega)]; rfl
      · have : Nat.blt (p - r) r = false := blt_f g2
        rw [this, if_neg (by omega)]; rfl
  unfold GoodR
  rw [← hs]
  generalize (bif Nat.blt (p - r) r then p - r else r) = s at e2 e3
  refine ⟨by omega, ?_⟩
  have hd := Nat.div_add_mod (s * s) p
  rw [e2] at hd
  refine ⟨((s * s / p : Nat) : Int), ?_⟩
  have : ((s * s : Nat) : Int) = (p : Int) * ((s * s / p : Nat) : Int) + (a : Int) := by
    rw [← Int.natCast_mul, ← Int.natCast_add, hd]
  rw [Int.natCast_mul] at this
  omega
theorem sqW_nat {a p : Nat} (ha : a ≤ p) (t : Nat) : sqW (a : Int) (p : Int) t = (((t * t + (p - a)) % p : Nat) : Int) := by
  unfold sqW
  have : (t : Int) * t - a = ((t * t + (p - a) : Nat) : Int) + (p : Int) * (-1) := by
    rw [Int.natCast_add, Int.natCast_mul]; omega
  rw [this, Int.add_mul_emod_self_left, Int.natCast_emod]
theorem ckA_ok {a p : Nat} (hp : p % 2 = 1) (h2 : p < 2048) (ha : a < p) : ∀ (f t k : Nat), f ≤ k → ckA a p f t = true →
    sqStop a p (sqF a p k t) = true ∧ GoodR a p (if sqW a p (sqF a p k t) = 0 then (sqF a p k t : Int) else hfV (sqF a p k t : Int) (sqW a p (sqF a p k t)) p)
  | 0, _, _, _, h => by cases h
  | f + 1, t, 0, hk, _ => by omega
  | f + 1, t, k + 1, hk, h => by
    unfold ckA at h
    rw [frc_eq] at h
    have hw := sqW_nat (a := a) (p := p) (by omega) t
    have hwp : (t * t + (p - a)) % p < p := Nat.mod_lt _ (by omega)
    generalize (t * t + (p - a)) % p = w at h hw hwp
    unfold sqF
    by_cases h0 : w = 0
    · subst h0
      have hs : sqStop (a : Int) (p : Int) t = true := by unfold sqStop; rw [hw]; rfl
      rw [hs, if_pos rfl, hs, hw]
      exact ⟨rfl, ckF_ok h⟩
    · have hb : Nat.beq w 0 = false := by
        cases g : Nat.beq w 0
        · rfl
        · exact absurd (Nat.eq_of_beq_eq_true g) h0
      rw [hb, cond_false] at h
      have hkr := kr_jA hp h2 hwp
      by_cases h1 : jA w p = 0
      · rw [h1] at h
        have hs : sqStop (a : Int) (p : Int) t = true := by
          unfold sqStop; rw [hw, hkr, h1, Bool.or_eq_true]; exact .inr (decide_eq_true (by omega))
        rw [hs, if_pos rfl, hs, hw, if_neg (by omega)]
        refine ⟨rfl, ?_⟩
        have e := hfN_eq (N := (p + 1) / 2) (t := (t : Int)) (k := ckF a p) 30 _ 1 0 t 1 0 (by rw [Nat.pow_zero, Nat.div_one]) rfl h
        obtain ⟨r, hr, er⟩ := e
        have en : (((p : Int) + 1) / 2).natAbs = (p + 1) / 2 := by omega
        unfold hfV
        rw [en, ← er]
        exact ckF_ok hr
      · have hb1 : Nat.beq (jA w p) 0 = false := by
          cases g : Nat.beq (jA w p) 0
          · rfl
          · exact absurd (Nat.eq_of_beq_eq_true g) h1
        rw [hb1, cond_false, frc_eq] at h
        have hs : sqStop (a : Int) (p : Int) t = false := by
          unfold sqStop; rw [hw, hkr, Bool.or_eq_false_iff]
          exact ⟨decide_eq_false (by omega), decide_eq_false (by omega)⟩
        rw [hs, if_neg (by decide)]
        exact ckA_ok hp h2 ha f (t + 1) k (by omega) h
theorem sqOk_of {p : Nat} (h3 : 3 ≤ p) (hp : p % 2 = 1) (h2 : p < 2048) (hc : ckP p = true) {a : Int} (h0 : 0 ≤ a) (ha : a < p) : SqOk a p := by
  obtain ⟨a, rfl⟩ : ∃ k : Nat, a = (k : Int) := ⟨a.toNat, by omega⟩
  have hq := List.all_eq_true.1 hc a (List.mem_range.2 (by omega))
  have hkr := kr_jA hp h2 (show a < p by omega)
  have ho : oddB (p : Int) = true := by unfold oddB; exact decide_eq_true (by omega)
  unfold ckQ at hq
  by_cases hk : kr (a : Int) (p : Int) = 1
  · have hj : jA a p = 2 := by omega
    rw [hj] at hq
    have h := ckA_ok hp h2 (show a < p by omega) 60 0 2000 (by omega) hq
    have hne : ¬ (oddB (p : Int) = false ∨ (a : Int) = 0) := by
      rw [ho]
      rintro (x | x)
      · cases x
      · have : a = 0 := by omega
        subst this
        revert hj
        have e0 : jA 0 p = fin2 0 p := rfl
        rw [e0]
        unfold fin2
        have : Nat.beq p 1 = false := by
          cases g : Nat.beq p 1
          · rfl
          · have hp1 := Nat.eq_of_beq_eq_true g
            omega
        rw [this]; decide
    refine ⟨fun _ => h.1, ?_, fun _ => ?_⟩
    · unfold sqV; rw [if_neg hne, if_pos hk]; exact h.2.1
    · unfold sqV; rw [if_neg hne, if_pos hk]; exact h.2.2
  · refine ⟨fun e => absurd e hk, ?_, fun e => ?_⟩
    · unfold sqV
      by_cases g : oddB (p : Int) = false ∨ (a : Int) = 0
      · rw [if_pos g]
        rw [ho] at g
        rcases g with g | g
        · cases g
        · omega
      · rw [if_neg g, if_neg hk]; omega
    · unfold sqE at e
      unfold sqV
      split
      · next g => rw [ho] at g; rcases g with g | g
                  · cases g
                  · rw [g]; exact ⟨0, by omega⟩
      · next g => rw [if_neg g, if_neg hk] at e; cases e
end Go.AM
end

section
/- Square roots modulo the primes up to 1031, by computing; primality. -/
namespace Go.AM
open Go Go.RowKit
def prl0 : List Nat := [3, 5, 7, 11, 13, 17, 19, 23, 29, 31, 37, 41, 43, 47, 53, 59, 61, 67, 71, 73, 79, 83, 89, 97, 101, 103, 107, 109, 113, 127, 131, 137, 139, 149, 151, 157, 163, 167, 173, 179, 181, 191, 193, 197, 199, 211, 223, 227, 229, 233, 239, 241, 251, 257, 263, 269, 271, 277, 281, 283, 293, 307, 311, 313, 317, 331, 337, 347, 349, 353, 359, 367, 373, 379, 383, 389, 397, 401, 409, 419]
set_option maxRecDepth 100000 in
theorem prc0 : prl0.all ckP = true := by decide +kernel
def prl1 : List Nat := [421, 431, 433, 439, 443, 449, 457, 461, 463, 467, 479, 487, 491, 499, 503, 509, 521, 523, 541, 547, 557, 563, 569, 571, 577, 587, 593, 599, 601, 607, 613, 617, 619, 631, 641, 643, 647, 653, 659, 661]
set_option maxRecDepth 100000 in
theorem prc1 : prl1.all ckP = true := by decide +kernel
def prl2 : List Nat := [673, 677, 683, 691, 701, 709, 719, 727, 733, 739, 743, 751, 757, 761, 769, 773, 787, 797, 809, 811, 821, 823, 827, 829, 839, 853, 857, 859, 863, 877]
set_option maxRecDepth 100000 in
theorem prc2 : prl2.all ckP = true := by decide +kernel
def prl3 : List Nat := [881, 883, 887, 907, 911, 919, 929, 937, 941, 947, 953, 967, 971, 977, 983, 991, 997, 1009, 1013, 1019, 1021, 1031]
set_option maxRecDepth 100000 in
theorem prc3 : prl3.all ckP = true := by decide +kernel
def inP (k : Nat) : Bool := prl0.any (Nat.beq k) || (prl1.any (Nat.beq k) || (prl2.any (Nat.beq k) || prl3.any (Nat.beq k)))
set_option maxRecDepth 100000 in
theorem prm_in : (List.range 1032).all (fun k => Nat.ble k 2 || (!primeB (k : Int) || inP k)) = true := by decide +kernel
theorem any_ck {l : List Nat} (h : l.all ckP = true) {k : Nat} (hk : l.any (Nat.beq k) = true) : ckP k = true := by
  obtain ⟨x, hx, e⟩ := List.any_eq_true.1 hk
  rw [Nat.eq_of_beq_eq_true e]
  exact List.all_eq_true.1 h x hx
theorem pr_ckP {k : Nat} (h3 : 3 ≤ k) (h : k ≤ 1031) (hp : primeB (k : Int) = true) : ckP k = true := by
  have h1 := List.all_eq_true.1 prm_in k (List.mem_range.2 (by omega))
  rw [hp, Bool.not_true, Bool.false_or, Bool.or_eq_true] at h1
  rcases h1 with h1 | h1
  · have := Nat.le_of_ble_eq_true h1; omega
  · unfold inP at h1
    rw [Bool.or_eq_true, Bool.or_eq_true, Bool.or_eq_true] at h1
    rcases h1 with g | g | g | g
    · exact any_ck prc0 g
    · exact any_ck prc1 g
    · exact any_ck prc2 g
    · exact any_ck prc3 g
theorem sqOk_pr {p : Int} (h3 : 3 ≤ p) (h : p ≤ 1031) (hp : primeB p = true) (d : Int) : p % 2 = 1 ∧ SqOk (d % p) p := by
  obtain ⟨k, rfl⟩ : ∃ k : Nat, p = (k : Int) := ⟨p.toNat, by omega⟩
  have ho : (k : Int) % 2 = 1 := by
    rcases (show (k : Int) % 2 = 0 ∨ (k : Int) % 2 = 1 by omega) with g | g
    · exact absurd g (primeGo_spec hp 2 (by omega) (by omega) (by omega) (by omega))
    · exact g
  exact ⟨ho, sqOk_of (by omega) (by omega) (by omega) (pr_ckP (by omega) (by omega) hp) (Int.emod_nonneg _ (by omega)) (Int.emod_lt_of_pos _ (by omega))⟩
def prQ (x : Int) : Bool := if x < 2 then false else primeB x
theorem prQ_no {x : Int} (h : x < 2) : prQ x = false := by unfold prQ; rw [if_pos h]
theorem prQ_yes {x : Int} (h : ¬ x < 2) : prQ x = primeB x := by unfold prQ; rw [if_neg h]
/-- the least prime from n -/
def nxP (n : Nat) : Nat := fst1 (fun k => prQ (k : Int)) 2000 n
theorem nx_ok {n : Nat} (h : n ≤ 1023) : prQ (nxP n : Int) = true ∧ n ≤ nxP n ∧ nxP n ≤ 1031 := by
  have e : prQ ((1031 : Nat) : Int) = true := by decide +kernel
  have h1 := fst1_ok (P := fun k => prQ (k : Int)) (f := 2000) (n := n) (m := 1031) (by omega) (by omega) e
  exact ⟨h1.1, fst1_ge _ _ _, h1.2⟩
structure NxI (n p : Nat) : Prop where
  n1 : n ≤ p
  p1 : p ≤ nxP n
  eq : fst1 (fun k => prQ (k : Int)) (2000 - (p - n)) p = nxP n
theorem NxI.start {n : Nat} (h : n ≤ 1023) : NxI n n := ⟨Nat.le_refl _, (nx_ok h).2.1, by rw [Nat.sub_self]; rfl⟩
theorem NxI.next {n p : Nat} (i : NxI n p) (h : n ≤ 1023) (hp : prQ (p : Int) = false) : NxI n (p + 1) := by
  have h1 := nx_ok h
  have i1 := i.n1
  have i2 := i.p1
  have hlt : p < nxP n := by
    rcases Nat.lt_or_ge p (nxP n) with g | g
    · exact g
    · have : p = nxP n := by omega
      rw [this, h1.1] at hp; cases hp
  refine ⟨by omega, hlt, ?_⟩
  have e := i.eq
  rw [show 2000 - (p - n) = 2000 - (p + 1 - n) + 1 by omega, fst1_no hp] at e
  exact e
theorem NxI.stop {n p : Nat} (i : NxI n p) (h : n ≤ 1023) (hp : prQ (p : Int) = true) : p = nxP n := by
  have h1 := nx_ok h
  have i1 := i.n1
  have i2 := i.p1
  have e := i.eq
  rw [show 2000 - (p - n) = 2000 - (p - n) - 1 + 1 by omega, fst1_yes hp] at e
  exact e
end Go.AM
end

section
/- Searches for a place of a value; the two answers of Prime. -/
namespace Go.AM
open Go Go.RowKit
theorem sgn0 {x : Int} : sgn x = 0 ↔ x = 0 := by rw [sgn_eq]; exact Int.sign_eq_zero_iff_zero
def NoA (c : Fm) (N a : Int) : Prop := ∀ y x : Int, 0 ≤ y → y < a → -40 ≤ x → x ≤ 40 → vl c.a c.b c.c x y ≠ N
def NoB (c : Fm) (N a b : Int) : Prop := ∀ x : Int, -40 ≤ x → x < b → vl c.a c.b c.c x a ≠ N
section
variable {c : Fm} {N a b : Int}
theorem NoA.start : NoA c N 0 := fun y x h1 h2 => by omega
theorem NoB.start : NoB c N a (-40) := fun x h1 h2 => by omega
theorem NoB.next (h : NoB c N a b) (hne : vl c.a c.b c.c b a ≠ N) : NoB c N a (b + 1) := fun x h1 h2 => by
  rcases Int.lt_or_eq_of_le (show x ≤ b by omega) with g | g
  · exact h x h1 g
  · rw [g]; exact hne
theorem NoA.next (h : NoA c N a) (h1 : NoB c N a b) (hb : ¬ b ≤ 40) : NoA c N (a + 1) := fun y x h2 h3 h4 h5 => by
  rcases Int.lt_or_eq_of_le (show y ≤ a by omega) with g | g
  · exact h y x h2 g h4 h5
  · rw [g]; exact h1 x h4 (by omega)
theorem NoA.fin (h : NoA c N a) (ha : ¬ a ≤ 40) (hex : Rep c N) : False := by
  obtain ⟨y, x, h1, h2, h3⟩ := hex
  exact h y x h1.1 (by omega) h2.1 h2.2 h3
end
theorem prE_neg {d : Int} (h : prE d = 0) (h1 : ¬ sgn d > 0) : d < 0 := by
  have h2 : d ≠ 0 := fun e => by rw [e] at h; revert h; decide +kernel
  have h3 : ¬ 0 < d := fun g => h1 (sgn_gt_iff.2 g)
  omega
theorem prE_sz (D : Nat) : prE (-szz D) = 0 := by
  have h := mkF_cl D 0 0
  exact (prF_prP h).2
theorem ls_ext {d p : Int} {k : Nat} (hno : ∀ y : Int, 0 ≤ y → y < k → (y * y - d) % (4 * p) ≠ 0) (h : ((k : Int) * k - d) % (4 * p) ≠ 0) : ∀ y : Int, 0 ≤ y → y < ((k + 1 : Nat) : Int) → (y * y - d) % (4 * p) ≠ 0 := fun y h1 h2 => by
  rcases Int.lt_or_eq_of_le (show y ≤ k by omega) with g | g
  · exact hno y h1 g
  · rw [g]; exact h
theorem px_lt {d p b : Int} {pr t : Bool} (h : pxE d p pr t b = 0) : p < 1048576 := by
  unfold pxE at h
  split at h
  · cases h
  · split at h
    · cases h
    · next g => exact Int.not_le.1 (fun x => g (.inl x))
def dw (a b : Int) (k : Nat) : Int := if k = 0 then a else b
theorem dw_get {a b d : Int} {k : Nat} (hk : (k : Int) < 2) (e : dw a b k = d) : ([zn a, zm a, zn b, zm b] : List DV).drop ((k : Int).toNat * 2) = [zn d, zm d] ++ (if k = 0 then [zn b, zm b] else []) := by
  subst e
  rcases (show k = 0 ∨ k = 1 by omega) with rfl | rfl <;> rfl
theorem bits_1023 (p : Int) : bits .and .i64 p 1023 = p % 1024 := by
  unfold bits
  simp only [BitVec.toNat_and, BitVec.toNat_ofInt]
  have e64 : ((2 ^ IntKind.i64.bits : Nat) : Int) = 18446744073709551616 := by decide
  rw [e64]
  have e : ((1023 : Int) % 18446744073709551616).toNat = 2 ^ 10 - 1 := by decide
  rw [e, Nat.and_two_pow_sub_one_eq_mod]
  have h0 := Int.emod_nonneg p (show (18446744073709551616 : Int) ≠ 0 by omega)
  have e2 : (((p % 18446744073709551616).toNat % 2 ^ 10 : Nat) : Int) = p % 1024 := by omega
  rw [e2, IntWalk.i64_in _ (by omega)]
end Go.AM
end
