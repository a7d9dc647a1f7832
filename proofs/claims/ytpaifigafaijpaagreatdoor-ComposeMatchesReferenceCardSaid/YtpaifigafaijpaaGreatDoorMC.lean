/- Texts merged by program, in build order. -/
import Derived.Test.YtpaifigafaijpaaGreatDoorMB
import Derived.Lib.SliceRun
section
/- Small numbers: parity, residues, powers of 2, greatest common divisors, the symbol. -/
namespace Go.AM
open Go Go.RowKit
theorem wl_zero_iff {x : Int} : ((wl x.natAbs).length : Int) = 0 ↔ x = 0 := wl_len_zero
theorem wl_get0 {m : Nat} (h : 0 < (wl m).length) : (wl m).getD 0 0 = m % 4294967296 := by
  have hm : 0 < m := by
    rcases Nat.eq_zero_or_pos m with e | e
    · subst e; simp [wl_zero] at h
    · exact e
  rw [wl_pos hm]; rfl
def oddB (x : Int) : Bool := decide (x % 2 = 1)
theorem odd_no {x : Int} (h : ¬ ((wl x.natAbs).length : Int) > 0) : false = oddB x := by
  have h1 : ((wl x.natAbs).length : Int) = 0 := by omega
  have h2 := wl_zero_iff.1 h1
  subst h2; rfl
theorem odd_yes {x : Int} (h : ((wl x.natAbs).length : Int) > 0) : ((((wl x.natAbs).getD 0 0 &&& 1 : Nat) : Int) == 1) = oddB x := by
  rw [wl_get0 (by omega), Nat.and_one_is_mod]
  unfold oddB
  rw [Bool.eq_iff_iff, beq_iff_eq, decide_eq_true_iff]
  omega
theorem low_zero {x m : Int} (h : ((wl x.natAbs).length : Int) = 0) : 0 = x % m := by rw [wl_zero_iff.1 h]; simp
theorem low_get {x m : Int} (hm : m = 4 ∨ m = 8) (h : ¬ ((wl x.natAbs).length : Int) = 0) : ((wl x.natAbs).getD 0 0 : Int) % m = (x.natAbs : Int) % m := by
  rw [wl_get0 (by omega)]
  rcases hm with rfl | rfl <;> omega
theorem low_neg {x m : Int} (hm : m = 4 ∨ m = 8) (h : x < 0) (h2 : (x.natAbs : Int) % m > 0) : m - (x.natAbs : Int) % m = x % m := by
  rcases hm with rfl | rfl <;> omega
theorem low_neg0 {x m : Int} (hm : m = 4 ∨ m = 8) (h : x < 0) (h2 : ¬ (x.natAbs : Int) % m > 0) : (x.natAbs : Int) % m = x % m := by
  rcases hm with rfl | rfl <;> omega
theorem low_pos {x m : Int} (h : ¬ x < 0) : (x.natAbs : Int) % m = x % m := by
  rw [show (x.natAbs : Int) = x by omega]
/-- a number without its factors 2, and how many these are -/
def twG : Nat → Int → Int × Int
  | 0, a => (a, 0)
  | f + 1, a => if oddB a then (a, 0) else ((twG f (a / 2)).1, (twG f (a / 2)).2 + 1)
def tw (a : Int) : Int × Int := twG a.natAbs a
theorem twG_more : ∀ (f : Nat) (a : Int), a ≠ 0 → a.natAbs ≤ f → twG (f + 1) a = twG f a
  | 0, a, h0, h => by omega
  | f + 1, a, h0, h => by
    have e1 : twG (f + 1 + 1) a = if oddB a then (a, 0) else ((twG (f + 1) (a / 2)).1, (twG (f + 1) (a / 2)).2 + 1) := rfl
    have e2 : twG (f + 1) a = if oddB a then (a, 0) else ((twG f (a / 2)).1, (twG f (a / 2)).2 + 1) := rfl
    rw [e1, e2]
    split
    · rfl
    · next hp =>
      have h2 : a % 2 = 0 := by
        have : ¬ a % 2 = 1 := fun e => hp (by unfold oddB; rw [e]; rfl)
        omega
      rw [twG_more f (a / 2) (by omega) (by omega)]
theorem twG_any {f : Nat} {a : Int} (h0 : a ≠ 0) (h : a.natAbs ≤ f) : twG f a = tw a := by
  unfold tw
  induction f with
  | zero => omega
  | succ f ih =>
    rcases Nat.lt_or_ge f a.natAbs with h1 | h1
    · have : a.natAbs = f + 1 := by omega
      rw [this]
    · rw [twG_more f a h0 h1]; exact ih h1
theorem tw_odd {a : Int} (h : oddB a = true) : tw a = (a, 0) := by
  unfold tw
  cases a.natAbs with
  | zero => rfl
  | succ n => rw [twG, if_pos h]
theorem tw_even {a : Int} (h0 : a ≠ 0) (h : oddB a = false) : tw a = ((tw (a / 2)).1, (tw (a / 2)).2 + 1) := by
  have h2 : a % 2 = 0 := by
    have : ¬ a % 2 = 1 := fun e => by unfold oddB at h; rw [e] at h; cases h
    omega
  have h3 : a.natAbs = (a.natAbs - 1) + 1 := by omega
  have h4 : tw a = twG ((a.natAbs - 1) + 1) a := by unfold tw; rw [← h3]
  rw [h4, twG, if_neg (by rw [h]; simp), twG_any (a := a / 2) (f := a.natAbs - 1) (by omega) (by omega)]
/-- a round of 'twos' -/
theorem tw_step {a0 b : Int} {k : Int} (h0 : b ≠ 0) (ho : oddB b = false) (h : tw a0 = ((tw b).1, (tw b).2 + k)) : tw a0 = ((tw (b / 2)).1, (tw (b / 2)).2 + (k + 1)) := by
  rw [h, tw_even h0 ho]
  simp only [Prod.mk.injEq, true_and]
  omega
theorem tw_stop {a0 b : Int} {k : Int} (ho : oddB b = true) (h : tw a0 = ((tw b).1, (tw b).2 + k)) : tw a0 = (b, k) := by
  rw [h, tw_odd ho]; simp
theorem tw_abs : ∀ (n : Nat) (a : Int), a.natAbs ≤ n → a ≠ 0 → (tw a).1.natAbs ≤ a.natAbs ∧ (tw a).1 ≠ 0 ∧ oddB (tw a).1 = true ∧ 0 ≤ (tw a).2 ∧ (tw a).2 ≤ a.natAbs ∧ (0 < a → 0 < (tw a).1)
  | 0, a, h, h0 => by omega
  | n + 1, a, h, h0 => by
    cases ho : oddB a with
    | true => rw [tw_odd ho]; exact ⟨Nat.le_refl _, h0, ho, by simp only; omega, by simp only; omega, fun h => h⟩
    | false =>
      have h2 : a % 2 = 0 := by
        have : ¬ a % 2 = 1 := fun e => by unfold oddB at ho; rw [e] at ho; cases ho
        omega
      obtain ⟨i1, i2, i3, i4, i5, i6⟩ := tw_abs n (a / 2) (by omega) (by omega)
      rw [tw_even h0 ho]
      exact ⟨by simp only; omega, i2, i3, by simp only; omega, by simp only; omega, fun hp => i6 (by omega)⟩
/-- (a/2) by the residue modulo 8 -/
def sg8 (a : Int) : Int := if a % 8 = 1 then 1 else if a % 8 = 3 then -1 else if a % 8 = 5 then -1 else if a % 8 = 7 then 1 else 0
/-- the rounds of the symbol: the sign, the two numbers -/
def krGo : Nat → Int → Int → Int → Int × Int
  | 0, k, _, n => (k, n)
  | f + 1, k, a, n => if 0 < a then
      let k1 := if (tw a).2 % 2 = 1 then k * sg8 n else k
      let k2 := if (tw a).1 % 4 = 3 ∧ n % 4 = 3 then -k1 else k1
      krGo f k2 (n % (tw a).1) (tw a).1
    else (k, n)
/-- the symbol -/
def kr (a n : Int) : Int :=
  if n = 0 then (if (a.natAbs : Int) = 1 then 1 else 0)
  else if oddB a = false ∧ oddB n = false then 0
  else
    let k0 : Int := if n < 0 ∧ a < 0 then -1 else 1
    let n1 : Int := n.natAbs
    let k1 := if (tw n1).2 % 2 = 1 then k0 * sg8 a else k0
    let r := krGo (a % (tw n1).1).natAbs.succ k1 (a % (tw n1).1) (tw n1).1
    if r.2 = 1 then r.1 else 0
end Go.AM
end

section
/- Small numbers, continued: what the loops find. -/
namespace Go.AM
open Go Go.RowKit
/-- whether -n is a discriminant -/
def isD (x : Int) : Bool := decide (0 < x) && (decide (x % 4 = 0) || decide (x % 4 = 3))
/-- no divisor from d on whose square is at most x -/
def primeGo (x : Int) : Nat → Int → Bool
  | 0, _ => true
  | f + 1, d => if d * d ≤ x then (if x % d = 0 then false else primeGo x f (d + 1)) else true
def primeB (x : Int) : Bool := primeGo x 1000 2
section
variable {x d : Int}
theorem pr_le (_h1 : 2 ≤ d) (h : d * d ≤ x) (hx : x ≤ 1000000) : d ≤ 1000 := by
  rcases Int.lt_or_le 1000 d with h2 | h2
  · have h3 : (1001 : Int) * 1001 ≤ d * d := Int.mul_le_mul (by omega) (by omega) (by omega) (by omega)
    omega
  · exact h2
theorem pr_go (h : primeGo x (1002 - d).toNat d = primeB x) (hd : d ≤ 1001) (h1 : d * d ≤ x) (h2 : ¬ x % d = 0) : primeGo x (1002 - (d + 1)).toNat (d + 1) = primeB x := by
  have e : (1002 - d).toNat = (1002 - (d + 1)).toNat + 1 := by omega
  rw [← h, e, primeGo, if_pos h1, if_neg h2]
theorem prm_no (h : primeGo x (1002 - d).toNat d = primeB x) (hd : d ≤ 1001) (h1 : d * d ≤ x) (h2 : x % d = 0) : false = primeB x := by
  have e : (1002 - d).toNat = (1002 - (d + 1)).toNat + 1 := by omega
  rw [← h, e, primeGo, if_pos h1, if_pos h2]
theorem prm_yes (h : primeGo x (1002 - d).toNat d = primeB x) (hd : d ≤ 1001) (h1 : ¬ d * d ≤ x) (hx : 2 ≤ x) : decide (x > 1) = primeB x := by
  have e : (1002 - d).toNat = (1002 - (d + 1)).toNat + 1 := by omega
  rw [← h, e, primeGo, if_neg h1]
  exact decide_eq_true (by omega)
end
end Go.AM
end

section
/- The symbol: its rounds. -/
namespace Go.AM
open Go Go.RowKit
theorem pow_lt_gen {k n : Nat} {x : Int} (hx : L n x) (h : 2 ^ k ≤ x.natAbs) : k < 2 ^ n := by
  unfold L at hx
  generalize 2 ^ n = e at hx ⊢
  exact (Nat.pow_lt_pow_iff_right (a := 2) (by omega)).1 (Nat.lt_of_le_of_lt h hx)
theorem pow_lt_of {k : Nat} {x : Int} (hx : L 40 x) (h : 2 ^ k ≤ x.natAbs) : k < 1099511627776 := Nat.lt_of_lt_of_eq (pow_lt_gen hx h) (by decide)
structure TwI (x b k : Int) : Prop where
  ne : b ≠ 0
  lb : L 40 b
  tw : tw x = ((AM.tw b).1, (AM.tw b).2 + k)
  k0 : 0 ≤ k
  le : b.natAbs * 2 ^ k.toNat ≤ x.natAbs
theorem TwI.start {x : Int} (hx : L 40 x) (h : x ≠ 0) : TwI x x 0 := ⟨h, hx, by simp, by omega, by simp⟩
theorem TwI.lt {x b k : Int} (hx : L 40 x) (h : TwI x b k) : k < 1099511627776 := by
  have h1 : 1 * 2 ^ k.toNat ≤ b.natAbs * 2 ^ k.toNat := Nat.mul_le_mul_right _ (by have := h.ne; omega)
  have := pow_lt_of (k := k.toNat) hx (by have := h.le; omega)
  have := h.k0
  omega
theorem TwI.next {x b k : Int} (h : TwI x b k) (ho : oddB b = false) : TwI x (b / 2) (k + 1) ∧ (b / 2).natAbs < b.natAbs := by
  have h2 : b % 2 = 0 := by
    have : ¬ b % 2 = 1 := fun e => by unfold oddB at ho; rw [e] at ho; cases ho
    omega
  have hne := h.ne
  have hb : b.natAbs = 2 * (b / 2).natAbs := by omega
  refine ⟨⟨by omega, L.of_le h.lb (by omega), tw_step hne ho h.tw, by have := h.k0; omega, ?_⟩, by omega⟩
  have e : (k + 1).toNat = k.toNat + 1 := by have := h.k0; omega
  have hl := h.le
  rw [hb] at hl
  rw [e, Nat.pow_succ]
  have e2 : (b / 2).natAbs * (2 ^ k.toNat * 2) = 2 * (b / 2).natAbs * 2 ^ k.toNat := by
    rw [Nat.mul_comm (2 ^ k.toNat) 2, ← Nat.mul_assoc, Nat.mul_comm _ 2]
  omega
theorem tw_L {x : Int} (hx : L 40 x) (h0 : x ≠ 0) : LB (tw x).1 40 := ⟨L.of_le hx (tw_abs _ x (Nat.le_refl _) h0).1⟩
theorem tw_c {x : Int} (hx : L 40 x) (h0 : x ≠ 0) : 0 ≤ (tw x).2 ∧ (tw x).2 < 1099511627776 := by
  have key : ∀ (n : Nat) (a : Int), a.natAbs ≤ n → a ≠ 0 → (tw a).1.natAbs * 2 ^ (tw a).2.toNat ≤ a.natAbs := by
    intro n
    induction n with
    | zero => intro a h h0; omega
    | succ n ih =>
      intro a h h0
      cases ho : oddB a with
      | true => rw [tw_odd ho]; simp
      | false =>
        have h2 : a % 2 = 0 := by
          have : ¬ a % 2 = 1 := fun e => by unfold oddB at ho; rw [e] at ho; cases ho
          omega
        have i1 := ih (a / 2) (by omega) (by omega)
        have i2 := (tw_abs _ (a / 2) (Nat.le_refl _) (by omega)).2.2.2.1
        rw [tw_even h0 ho]
        simp only
        have e : ((tw (a / 2)).2 + 1).toNat = (tw (a / 2)).2.toNat + 1 := by omega
        have hb : a.natAbs = 2 * (a / 2).natAbs := by omega
        rw [e, Nat.pow_succ]
        have e2 : (tw (a / 2)).1.natAbs * (2 ^ (tw (a / 2)).2.toNat * 2) = 2 * ((tw (a / 2)).1.natAbs * 2 ^ (tw (a / 2)).2.toNat) := by
          rw [← Nat.mul_assoc, Nat.mul_comm _ 2]
        omega
  have h1 := key _ x (Nat.le_refl _) h0
  have h2 := tw_abs _ x (Nat.le_refl _) h0
  have h3 : 1 * 2 ^ (tw x).2.toNat ≤ (tw x).1.natAbs * 2 ^ (tw x).2.toNat := Nat.mul_le_mul_right _ (by omega)
  have := pow_lt_of (k := (tw x).2.toNat) hx (by omega)
  omega
def sgL : List Value := [.int .i64 0, .int .i64 1, .int .i64 0, .int .i64 (-1), .int .i64 0, .int .i64 (-1), .int .i64 0, .int .i64 1]
theorem sg8_get (x : Int) : ((sgL.drop (x % 8).toNat).map DV.v)[0]? = some (.v (.int .i64 (sg8 x))) := by
  have h1 := Int.emod_nonneg x (show (8 : Int) ≠ 0 by omega)
  have h2 := Int.emod_lt_of_pos x (show (0 : Int) < 8 by omega)
  unfold sg8
  generalize x % 8 = r at *
  have : r = 0 ∨ r = 1 ∨ r = 2 ∨ r = 3 ∨ r = 4 ∨ r = 5 ∨ r = 6 ∨ r = 7 := by omega
  rcases this with rfl | rfl | rfl | rfl | rfl | rfl | rfl | rfl <;> rfl
theorem sg8_b (x : Int) : -1 ≤ sg8 x ∧ sg8 x ≤ 1 := by unfold sg8; repeat' split <;> omega
theorem k_sg {k x : Int} (h : -1 ≤ k ∧ k ≤ 1) : -1 ≤ k * sg8 x ∧ k * sg8 x ≤ 1 := by
  have h2 := sg8_b x
  generalize sg8 x = s at *
  have : k = -1 ∨ k = 0 ∨ k = 1 := by omega
  rcases this with rfl | rfl | rfl <;> omega
/-- a round of the symbol -/
structure KrI (R : Int × Int) (f : Nat) (k a n : Int) : Prop where
  hk : -1 ≤ k ∧ k ≤ 1
  a0 : 0 ≤ a
  n0 : 0 < n
  la : L 40 a
  ln : L 40 n
  hf : a.natAbs < f
  go : krGo f k a n = R
def k1F (k a n : Int) : Int := if (tw a).2 % 2 = 1 then k * sg8 n else k
def k2F (k1 a n : Int) : Int := if (tw a).1 % 4 = 3 ∧ n % 4 = 3 then -k1 else k1
theorem KrI.next {R : Int × Int} {f : Nat} {k a n : Int} (h : KrI R f k a n) (ha : 0 < a) :
    KrI R (f - 1) (k2F (k1F k a n) a n) (n % (tw a).1) (tw a).1 ∧ (n % (tw a).1).natAbs < a.natAbs := by
  have h1 := tw_abs _ a (Nat.le_refl _) (by omega)
  have hp := h1.2.2.2.2.2 ha
  have h3 := Int.emod_nonneg n (show (tw a).1 ≠ 0 by omega)
  have h4 := Int.emod_lt_of_pos n hp
  have hk1 : -1 ≤ k1F k a n ∧ k1F k a n ≤ 1 := by
    unfold k1F; split
    · exact k_sg h.hk
    · exact h.hk
  have hla := h.la
  have hf := h.hf
  refine ⟨⟨?_, h3, hp, L.of_le hla (by omega), L.of_le hla h1.1, by omega, ?_⟩, by omega⟩
  · unfold k2F; split <;> omega
  · have e : f = (f - 1) + 1 := by omega
    have := h.go
    rw [e, krGo, if_pos ha] at this
    exact this
theorem KrI.stop {R : Int × Int} {f : Nat} {k a n : Int} (h : KrI R f k a n) (ha : ¬ 0 < a) : R = (k, n) := by
  have e : f = (f - 1) + 1 := by have := h.hf; omega
  have := h.go
  rw [e, krGo, if_neg ha] at this
  exact this.symm
def k0K (a n : Int) : Int := if n < 0 ∧ a < 0 then -1 else 1
def k1K (a n : Int) : Int := if (tw (n.natAbs : Int)).2 % 2 = 1 then k0K a n * sg8 a else k0K a n
def RK_ (a n : Int) : Int × Int := krGo (a % (tw (n.natAbs : Int)).1).natAbs.succ (k1K a n) (a % (tw (n.natAbs : Int)).1) (tw (n.natAbs : Int)).1
theorem k0K_b (a n : Int) : -1 ≤ k0K a n ∧ k0K a n ≤ 1 := by unfold k0K; split <;> omega
theorem k1K_b (a n : Int) : -1 ≤ k1K a n ∧ k1K a n ≤ 1 := by
  unfold k1K; split
  · exact k_sg (k0K_b a n)
  · exact k0K_b a n
theorem kr_0 {a n : Int} (h : n = 0) (h1 : (a.natAbs : Int) = 1) : 1 = kr a n := by unfold kr; rw [if_pos h, if_pos h1]
theorem kr_00 {a n : Int} (h : n = 0) (h1 : ¬ (a.natAbs : Int) = 1) : 0 = kr a n := by unfold kr; rw [if_pos h, if_neg h1]
theorem kr_even {a n : Int} (h : ¬ n = 0) (h1 : oddB a = false) (h2 : oddB n = false) : 0 = kr a n := by unfold kr; rw [if_neg h, if_pos ⟨h1, h2⟩]
theorem kr_go {a n : Int} (h : ¬ n = 0) (h1 : ¬ (oddB a = false ∧ oddB n = false)) : kr a n = if (RK_ a n).2 = 1 then (RK_ a n).1 else 0 := by unfold kr; rw [if_neg h, if_neg h1]; rfl
theorem KrI.start {a n : Int} (h : ¬ n = 0) (_ha : L 40 a) (hn : L 40 n) : KrI (RK_ a n) (a % (tw (n.natAbs : Int)).1).natAbs.succ (k1K a n) (a % (tw (n.natAbs : Int)).1) (tw (n.natAbs : Int)).1 := by
  have h1 := tw_abs _ (n.natAbs : Int) (Nat.le_refl _) (by omega)
  have hp := h1.2.2.2.2.2 (by omega)
  have h3 := Int.emod_nonneg a (show (tw (n.natAbs : Int)).1 ≠ 0 by omega)
  have h4 := Int.emod_lt_of_pos a hp
  exact ⟨k1K_b a n, h3, hp, L.of_le hn (by omega), L.of_le hn (by omega), Nat.lt_succ_self _, rfl⟩
end Go.AM
end

section
/- The symbol, as its walk asks. -/
namespace Go.AM
open Go Go.RowKit
theorem neg_abs {m : Int} (h : m < 0) : ((m.natAbs : Nat) : Int) = -m := by omega
theorem pos_abs {m : Int} (h : ¬ m < 0) : ((m.natAbs : Nat) : Int) = m := by omega
theorem k1F_b {k a n : Int} (h : -1 ≤ k ∧ k ≤ 1) : -1 ≤ k1F k a n ∧ k1F k a n ≤ 1 := by
  unfold k1F; split
  · exact k_sg h
  · exact h
end Go.AM
end

section
/- Lists of forms, class numbers, sums, as far as the rounds have come. -/
namespace Go.AM
open Go Go.RowKit
structure TrB (n : Int) (t : Tr) : Prop where
  a1 : 1 ≤ t.a
  a2 : t.a ≤ 2000
  sq : 3 * t.a * t.a ≤ n
  b1 : 1 - t.a ≤ t.b
  b2 : t.b ≤ t.a
  md : (t.b * t.b + n) % (4 * t.a) = 0
  c : t.c = (t.b * t.b + n) / (4 * t.a)
  ac : t.a ≤ t.c
  bc : ¬ (t.b < 0 ∧ t.a = t.c)
def prT (t : Tr) : Bool := decide (Int.gcd (Int.gcd t.a t.b : Nat) t.c = 1)
def cls (n : Int) : Int := ((trs n).filter prT).length
end Go.AM
end

section
/- Class numbers, Hurwitz class numbers, conductors, as their walks ask. -/
namespace Go.AM
open Go Go.RowKit
section
variable {n k f : Int}
end
end Go.AM
end

section
/- The ratio of class numbers, plainly. -/
namespace Go.AM
open Go Go.RowKit
/-- a number without a divisor -/
def dvGo (p : Int) : Nat → Int → Int
  | 0, l => l
  | k + 1, l => if l % p = 0 then dvGo p k (l / p) else l
def dv (p l : Int) : Int := dvGo p l.toNat l
def rtS (d h l p : Int) : Int := if l % p = 0 then h / p * (p - kr d p) else h
def rtGo (d : Int) : Nat → Int → Int → Int → Int
  | 0, h, _, _ => h
  | k + 1, h, l, p => if p ≤ l then rtGo d k (rtS d h l p) (dv p l) (p + 1) else h
/-- the inner rounds -/
structure DvI (T p x m : Int) : Prop where
  x1 : 1 ≤ x
  xm : x ≤ m
  go : ∃ k, x.toNat ≤ k ∧ dvGo p k x = T
/-- the outer rounds -/
structure RtI (d T b m h l p : Int) : Prop where
  p2 : 2 ≤ p
  pm : p ≤ m + 1
  l1 : 1 ≤ l
  lm : l ≤ m
  h0 : 0 ≤ h
  hl : h * l ≤ b
  go : ∃ k, (l + 2 - p).toNat ≤ k ∧ rtGo d k h l p = T
end Go.AM
end

section
/- Lists of forms asked; numbers read low. -/
namespace Go.AM
open Go Go.RowKit
/-- how often a form is in a list -/
def eqG (f g : Fm) : Bool := decide (g.a = f.a ∧ g.b = f.b ∧ g.c = f.c)
theorem eqG_iff {f g : Fm} : eqG f g = true ↔ g = f := by
  unfold eqG
  rw [decide_eq_true_iff]
  constructor
  · rintro ⟨h1, h2, h3⟩; cases f; cases g; simp_all
  · rintro rfl; exact ⟨rfl, rfl, rfl⟩
theorem take_getD {l : List Fm} {k : Nat} (h : k < l.length) : l.take (k + 1) = l.take k ++ [l.getD k ⟨0, 0, 0⟩] := by
  rw [List.getD_eq_getElem?_getD, List.getElem?_eq_getElem h, Option.getD_some, List.take_succ_eq_append_getElem h]
/-- two lists, form by form -/
structure SmI (l m : List Fm) (k : Nat) : Prop where
  k1 : k ≤ l.length
  go : ∀ j, j < k → l.getD j ⟨0, 0, 0⟩ = m.getD j ⟨0, 0, 0⟩
theorem SmI.start (l m : List Fm) : SmI l m 0 := ⟨Nat.zero_le _, fun j h => absurd h (Nat.not_lt_zero j)⟩
theorem SmI.next {l m : List Fm} {k : Nat} (h : SmI l m k) (hk : (k : Int) < l.length) (e : eqG (m.getD k ⟨0, 0, 0⟩) (l.getD k ⟨0, 0, 0⟩) = true) : SmI l m (k + 1) :=
  ⟨by omega, fun j hj => by
    rcases Nat.lt_succ_iff_lt_or_eq.1 hj with h1 | rfl
    · exact h.go j h1
    · exact eqG_iff.1 e⟩
theorem SmI.no {l m : List Fm} {k : Nat} (e : eqG (m.getD k ⟨0, 0, 0⟩) (l.getD k ⟨0, 0, 0⟩) = false) : false = decide (l = m) := by
  symm; rw [decide_eq_false_iff_not]
  rintro rfl
  rw [eqG_iff.2 rfl] at e
  cases e
theorem SmI.yes {l m : List Fm} {k : Nat} (h : SmI l m k) (hl : (l.length : Int) = m.length) (hk : ¬ (k : Int) < l.length) : true = decide (l = m) := by
  symm; rw [decide_eq_true_iff]
  have h1 := h.k1
  refine List.ext_getElem (by omega) (fun i h2 h3 => ?_)
  have := h.go i (by omega)
  rw [List.getD_eq_getElem?_getD, List.getD_eq_getElem?_getD, List.getElem?_eq_getElem h2, List.getElem?_eq_getElem h3] at this
  exact this
theorem len_ne {l m : List Fm} (h : (l.length : Int) ≠ m.length) : false = decide (l = m) := by
  symm; rw [decide_eq_false_iff_not]; rintro rfl; exact h rfl
def v0 (n : Nat) : Nat := wd (wl n) 0 + 4294967296 * wd (wl n) 1
end Go.AM
end

section
/- The examples; Hurwitz numbers, plainly. -/
namespace Go.AM
open Go Go.RowKit
end Go.AM
end

section
/- Reduced forms by their contents. -/
namespace Go.AM
open Go Go.RowKit
/-- a reduced form of the discriminant -n -/
structure RedT (n : Int) (t : Tr) : Prop where
  a1 : 1 ≤ t.a
  b1 : 1 - t.a ≤ t.b
  b2 : t.b ≤ t.a
  ac : t.a ≤ t.c
  bc : ¬ (t.b < 0 ∧ t.a = t.c)
  ds : 4 * t.a * t.c = t.b * t.b + n
/-- whether m is asked -/
def asks (n m : Int) : Bool := decide (n % (m * m) = 0) && isD (n / (m * m))
/-- sums over 1 .. k -/
def bigS (f : Nat → Int) : Nat → Int
  | 0 => 0
  | k + 1 => bigS f k + f (k + 1)
end Go.AM
end

section
/- The sums over the quotients by squares. -/
namespace Go.AM
open Go Go.RowKit
def wN (n : Int) : Int := if n = 3 then 4 else if n = 4 then 6 else 12
/-- a term of the law -/
def hTm (n m : Int) : Int := if asks n m = true then wN (n / (m * m)) * cls (n / (m * m)) else 0
def hS (n m : Int) : Int := bigS (fun i => hTm n (i : Int)) (m - 1).toNat
end Go.AM
end

section
/- Contents, plainly. -/
namespace Go.AM
open Go Go.RowKit
theorem getD_mem {l : List Fm} {k : Nat} (h : (k : Int) < l.length) : l.getD k ⟨0, 0, 0⟩ ∈ l := by
  rw [List.getD_eq_getElem?_getD, List.getElem?_eq_getElem (by omega), Option.getD_some]
  exact List.getElem_mem _
end Go.AM
end

section
/- Conductors, plainly. -/
namespace Go.AM
open Go Go.RowKit
section
variable {n : Int}
end
end Go.AM
end

section
/- Numbers of any size: read low, refused. -/
namespace Go.AM
open Go Go.RowKit
end Go.AM
end

section
/- The lists of reduced forms: sorted, reduced, complete. -/
namespace Go.AM
open Go Go.RowKit
end Go.AM
end

section
/- For the walks over lists: sorted neighbours, filtered beginnings, multiples. -/
namespace Go.AM
open Go Go.RowKit
end Go.AM
end

section
/- Lattices in a quadratic order, by their generators; forms as lattices. -/
namespace Go.AM
open Go Go.RowKit
/-- x + y w, with w^2 = s w + d -/
structure El where
  x : Int
  y : Int
namespace El
def add (u v : El) : El := ⟨u.x + v.x, u.y + v.y⟩
def sm (k : Int) (u : El) : El := ⟨k * u.x, k * u.y⟩
def mul (s d : Int) (u v : El) : El := ⟨u.x * v.x + d * (u.y * v.y), u.x * v.y + u.y * v.x + s * (u.y * v.y)⟩
def cj (s : Int) (u : El) : El := ⟨u.x + s * u.y, -u.y⟩
def nm (s d : Int) (u : El) : Int := u.x * u.x + s * (u.x * u.y) - d * (u.y * u.y)
def dt (u v : El) : Int := u.x * v.y - u.y * v.x
theorem ext2 {u v : El} (h : u.x = v.x) (h1 : u.y = v.y) : u = v := by cases u; cases v; simp only at h h1; subst h h1; rfl
end El
/-- the sums of multiples of generators -/
def InS : List El → El → Prop
  | [], z => z = ⟨0, 0⟩
  | g :: l, z => ∃ k w, InS l w ∧ z = (El.sm k g).add w
theorem InS.zero : ∀ l, InS l ⟨0, 0⟩
  | [] => rfl
  | g :: l => ⟨0, _, InS.zero l, by unfold El.add El.sm; simp⟩
theorem InS.add : ∀ {l : List El} {u v : El}, InS l u → InS l v → InS l (u.add v)
  | [], u, v, h, h1 => by
    have h : u = ⟨0, 0⟩ := h
    have h1 : v = ⟨0, 0⟩ := h1
    subst h h1; rfl
  | g :: l, u, v, ⟨k, w, h, e⟩, ⟨k1, w1, h1, e1⟩ => by
    refine ⟨k + k1, w.add w1, h.add h1, ?_⟩
    subst e e1
    unfold El.add El.sm
    exact El.ext2 (by simp only; grind) (by simp only; grind)
theorem InS.sm (c : Int) : ∀ {l : List El} {u : El}, InS l u → InS l (El.sm c u)
  | [], u, h => by
    have h : u = ⟨0, 0⟩ := h
    subst h; unfold El.sm; simp [InS]
  | g :: l, u, ⟨k, w, h, e⟩ => by
    refine ⟨c * k, El.sm c w, h.sm c, ?_⟩
    subst e
    unfold El.add El.sm
    exact El.ext2 (by simp only; grind) (by simp only; grind)
theorem InS.gen : ∀ {l : List El} {g : El}, g ∈ l → InS l g
  | a :: l, g, h => by
    rcases List.mem_cons.1 h with rfl | h
    · exact ⟨1, ⟨0, 0⟩, InS.zero l, by unfold El.add El.sm; exact El.ext2 (by simp) (by simp)⟩
    · exact ⟨0, g, InS.gen h, by unfold El.add El.sm; exact El.ext2 (by simp) (by simp)⟩
theorem InS.of_gens : ∀ {l m : List El}, (∀ g ∈ l, InS m g) → ∀ {z : El}, InS l z → InS m z
  | [], m, _, z, h => by
    have h : z = ⟨0, 0⟩ := h
    subst h; exact InS.zero m
  | g :: l, m, hg, z, ⟨k, w, h, e⟩ => by
    subst e
    exact ((hg g List.mem_cons_self).sm k).add (InS.of_gens (fun x hx => hg x (List.mem_cons_of_mem _ hx)) h)
def Eqv (l m : List El) : Prop := ∀ z, InS l z ↔ InS m z
theorem Eqv.refl (l : List El) : Eqv l l := fun _ => Iff.rfl
theorem Eqv.symm {l m : List El} (h : Eqv l m) : Eqv m l := fun z => (h z).symm
theorem Eqv.trans {l m k : List El} (h : Eqv l m) (h1 : Eqv m k) : Eqv l k := fun z => (h z).trans (h1 z)
theorem Eqv.of {l m : List El} (h : ∀ g ∈ l, InS m g) (h1 : ∀ g ∈ m, InS l g) : Eqv l m := fun _ => ⟨InS.of_gens h, InS.of_gens h1⟩
section
variable {s d : Int}
theorem El.mul_comm (u v : El) : u.mul s d v = v.mul s d u := by
  unfold El.mul; exact El.ext2 (by simp only; grind) (by simp only; grind)
theorem El.mul_assoc (u v w : El) : (u.mul s d v).mul s d w = u.mul s d (v.mul s d w) := by
  unfold El.mul; exact El.ext2 (by simp only; grind) (by simp only; grind)
theorem El.mul_add (u v w : El) : u.mul s d (v.add w) = (u.mul s d v).add (u.mul s d w) := by
  unfold El.mul El.add; exact El.ext2 (by simp only; grind) (by simp only; grind)
theorem El.mul_sm (u v : El) (k : Int) : u.mul s d (v.sm k) = (u.mul s d v).sm k := by
  unfold El.mul El.sm; exact El.ext2 (by simp only; grind) (by simp only; grind)
theorem El.mul_zero (u : El) : u.mul s d ⟨0, 0⟩ = ⟨0, 0⟩ := by unfold El.mul; simp
theorem El.nm_mul (u v : El) : (u.mul s d v).nm s d = u.nm s d * v.nm s d := by unfold El.mul El.nm; grind
theorem El.dt_mul (e u v : El) : (e.mul s d u).dt (e.mul s d v) = e.nm s d * u.dt v := by unfold El.mul El.nm El.dt; grind
/-- the products of generators -/
def prd (s d : Int) (l m : List El) : List El := l.flatMap fun u => m.map fun v => u.mul s d v
theorem mem_prd {l m : List El} {z : El} : z ∈ prd s d l m ↔ ∃ u ∈ l, ∃ v ∈ m, z = u.mul s d v := by
  unfold prd
  rw [List.mem_flatMap]
  constructor
  · rintro ⟨u, hu, hz⟩
    obtain ⟨v, hv, rfl⟩ := List.mem_map.1 hz
    exact ⟨u, hu, v, hv, rfl⟩
  · rintro ⟨u, hu, v, hv, rfl⟩
    exact ⟨u, hu, List.mem_map.2 ⟨v, hv, rfl⟩⟩
theorem InS.mul_l {k : List El} (u : El) : ∀ {m : List El} {v : El}, InS m v → (∀ g ∈ m, InS k (u.mul s d g)) → InS k (u.mul s d v)
  | [], v, h, _ => by
    have h : v = ⟨0, 0⟩ := h
    subst h; rw [El.mul_zero]; exact InS.zero k
  | g :: m, v, ⟨c, w, h, e⟩, hg => by
    subst e
    rw [El.mul_add, El.mul_sm]
    exact ((hg g List.mem_cons_self).sm c).add (InS.mul_l u h (fun x hx => hg x (List.mem_cons_of_mem _ hx)))
theorem InS.mul {l m : List El} {u v : El} (h : InS l u) (h1 : InS m v) : InS (prd s d l m) (u.mul s d v) := by
  refine InS.mul_l u h1 (fun g hg => ?_)
  rw [El.mul_comm]
  refine InS.mul_l g h (fun x hx => ?_)
  rw [El.mul_comm]
  exact InS.gen (mem_prd.2 ⟨x, hx, g, hg, rfl⟩)
theorem prd_sub {l m k n : List El} (h : ∀ z, InS l z → InS k z) (h1 : ∀ z, InS m z → InS n z) : ∀ g ∈ prd s d l m, InS (prd s d k n) g := by
  intro g hg
  obtain ⟨u, hu, v, hv, rfl⟩ := mem_prd.1 hg
  exact (h _ (InS.gen hu)).mul (h1 _ (InS.gen hv))
theorem Eqv.prd {l m k n : List El} (h : Eqv l k) (h1 : Eqv m n) : Eqv (prd s d l m) (prd s d k n) :=
  Eqv.of (prd_sub (fun z => (h z).1) (fun z => (h1 z).1)) (prd_sub (fun z => (h z).2) (fun z => (h1 z).2))
theorem prd_comm (l m : List El) : Eqv (prd s d l m) (prd s d m l) := by
  have key : ∀ l m : List El, ∀ g ∈ AM.prd s d l m, InS (AM.prd s d m l) g := fun l m g hg => by
    obtain ⟨u, hu, v, hv, rfl⟩ := mem_prd.1 hg
    rw [El.mul_comm]
    exact (InS.gen hv).mul (InS.gen hu)
  exact Eqv.of (key l m) (key m l)
theorem prd_assoc (l m k : List El) : Eqv (prd s d (prd s d l m) k) (prd s d l (prd s d m k)) := by
  refine Eqv.of (fun g hg => ?_) (fun g hg => ?_)
  · obtain ⟨x, hx, w, hw, rfl⟩ := mem_prd.1 hg
    obtain ⟨u, hu, v, hv, rfl⟩ := mem_prd.1 hx
    rw [El.mul_assoc]
    exact (InS.gen hu).mul ((InS.gen hv).mul (InS.gen hw))
  · obtain ⟨u, hu, x, hx, rfl⟩ := mem_prd.1 hg
    obtain ⟨v, hv, w, hw, rfl⟩ := mem_prd.1 hx
    rw [← El.mul_assoc]
    exact ((InS.gen hu).mul (InS.gen hv)).mul (InS.gen hw)
theorem prd_one (u v : El) : Eqv (prd s d [u] [v]) [u.mul s d v] := by
  refine Eqv.of (fun g hg => ?_) (fun g hg => ?_)
  · obtain ⟨x, hx, w, hw, rfl⟩ := mem_prd.1 hg
    rw [List.mem_singleton] at hx hw
    subst hx hw
    exact InS.gen (List.mem_singleton.2 rfl)
  · rw [List.mem_singleton] at hg
    subst hg
    exact (InS.gen (List.mem_singleton.2 rfl)).mul (InS.gen (List.mem_singleton.2 rfl))
/-- a lattice with two generators -/
theorem in2 {u v z : El} : InS [u, v] z ↔ ∃ p q : Int, z = (El.sm p u).add (El.sm q v) := by
  constructor
  · rintro ⟨p, w, ⟨q, w2, h, rfl⟩, rfl⟩
    have h : w2 = ⟨0, 0⟩ := h
    subst h
    exact ⟨p, q, by unfold El.add El.sm; simp⟩
  · rintro ⟨p, q, rfl⟩
    exact ((InS.gen (by simp)).sm p).add ((InS.gen (by simp)).sm q)
/-- the lattice of the form (a, 2 k + s, c) -/
def LaF (a k : Int) : List El := [⟨a, 0⟩, ⟨k, 1⟩]
theorem inLaF {a k : Int} {z : El} : InS (LaF a k) z ↔ a ∣ z.x - k * z.y := by
  unfold LaF
  rw [in2]
  constructor
  · rintro ⟨p, q, rfl⟩
    unfold El.add El.sm
    exact ⟨p, by simp only; grind⟩
  · rintro ⟨p, hp⟩
    exact ⟨p, z.y, by unfold El.add El.sm; exact El.ext2 (by simp only; grind) (by simp only; grind)⟩
/-- scaled -/
theorem in_sc {e : El} {l : List El} {z : El} (h : InS l z) : InS (prd s d [e] l) (e.mul s d z) := (InS.gen (List.mem_singleton.2 rfl)).mul h
/-- the data of a form: a c = k^2 + s k - d -/
structure FK (s d : Int) (f : Fm) (k : Int) : Prop where
  b : f.b = 2 * k + s
  n : f.a * f.c = k * k + s * k - d
theorem FK.disc {f : Fm} {k : Int} (h : FK s d f k) : dsc f.a f.b f.c = s * s + 4 * d := by
  unfold dsc
  rw [h.b, Int.mul_assoc, h.n]; grind
theorem FK.of {f : Fm} (h : dsc f.a f.b f.c = s * s + 4 * d) (hs : (f.b - s) % 2 = 0) : FK s d f ((f.b - s) / 2) := by
  have e : f.b = 2 * ((f.b - s) / 2) + s := by omega
  generalize (f.b - s) / 2 = k at e
  refine ⟨e, ?_⟩
  unfold dsc at h
  rw [e, Int.mul_assoc] at h
  generalize f.a * f.c = t at *
  grind
theorem FK.nm {f : Fm} {k : Int} (h : FK s d f k) (x y : Int) : El.nm s d ((El.sm x ⟨f.a, 0⟩).add (El.sm y ⟨k, 1⟩)) = f.a * vl f.a f.b f.c x y := by
  have hn := h.n
  unfold El.nm El.add El.sm vl
  rw [h.b]
  simp only
  grind
end
end Go.AM
end

section
/- Composition of forms by lattices. -/
namespace Go.AM
open Go Go.RowKit
section
variable {s d : Int}
/-- one lattice, two bases of forms: equivalent forms -/
theorem eqv_equiv {f g : Fm} {k j : Int} {l m : El} (hf : FK s d f k) (hg : FK s d g j) (pf : f.pos) (pg : g.pos) (h : Eqv (prd s d [l] (LaF f.a k)) (prd s d [m] (LaF g.a j)))
    (hl : 0 < l.nm s d) (hm : 0 < m.nm s d) : ∃ M : Mt, M.det = 1 ∧ f.app M = g := by
  have e1 : prd s d [l] (LaF f.a k) = [l.mul s d ⟨f.a, 0⟩, l.mul s d ⟨k, 1⟩] := rfl
  have e2 : prd s d [m] (LaF g.a j) = [m.mul s d ⟨g.a, 0⟩, m.mul s d ⟨j, 1⟩] := rfl
  rw [e1, e2] at h
  obtain ⟨p, r, h1⟩ := in2.1 ((h _).2 (InS.gen (List.mem_cons_self)))
  obtain ⟨q, t, h2⟩ := in2.1 ((h (m.mul s d ⟨j, 1⟩)).2 (InS.gen (by simp)))
  obtain ⟨p', r', h3⟩ := in2.1 ((h _).1 (InS.gen (List.mem_cons_self)))
  obtain ⟨q', t', h4⟩ := in2.1 ((h (l.mul s d ⟨k, 1⟩)).1 (InS.gen (by simp)))
  have d1 := El.dt_mul (s := s) (d := d) l ⟨f.a, 0⟩ ⟨k, 1⟩
  have d2 := El.dt_mul (s := s) (d := d) m ⟨g.a, 0⟩ ⟨j, 1⟩
  have f1 : El.dt ⟨f.a, 0⟩ ⟨k, 1⟩ = f.a := by unfold El.dt; simp
  have f2 : El.dt ⟨g.a, 0⟩ ⟨j, 1⟩ = g.a := by unfold El.dt; simp
  rw [f1] at d1; rw [f2] at d2
  have lin : ∀ (u v : El) (p r q t : Int), El.dt ((El.sm p u).add (El.sm r v)) ((El.sm q u).add (El.sm t v)) = (p * t - q * r) * u.dt v := by
    intro u v p r q t; unfold El.dt El.add El.sm; simp only; grind
  have d3 := lin (l.mul s d ⟨f.a, 0⟩) (l.mul s d ⟨k, 1⟩) p r q t
  rw [← h1, ← h2, d1, d2] at d3
  have d4 := lin (m.mul s d ⟨g.a, 0⟩) (m.mul s d ⟨j, 1⟩) p' r' q' t'
  rw [← h3, ← h4, d1, d2] at d4
  have pA : 0 < l.nm s d * f.a := Int.mul_pos hl pf.1
  have pB : 0 < m.nm s d * g.a := Int.mul_pos hm pg.1
  have hdet : p * t - q * r = 1 := by
    generalize l.nm s d * f.a = A at *
    generalize m.nm s d * g.a = B at *
    generalize p * t - q * r = x at *
    generalize p' * t' - q' * r' = y at *
    have hx : 0 < x := by
      rcases Int.lt_or_le 0 x with h | h
      · exact h
      · have := Int.mul_nonpos_of_nonpos_of_nonneg h (show 0 ≤ A by omega); omega
    have hy : 0 < y := by
      rcases Int.lt_or_le 0 y with h | h
      · exact h
      · have := Int.mul_nonpos_of_nonpos_of_nonneg h (show 0 ≤ B by omega); omega
    have l1 : 1 * A ≤ x * A := Int.mul_le_mul_of_nonneg_right hx (by omega)
    have l2 : 1 * B ≤ y * B := Int.mul_le_mul_of_nonneg_right hy (by omega)
    have hAB : A = B := by omega
    subst hAB
    have : x * A = 1 * A := by omega
    exact Int.eq_of_mul_eq_mul_right (by omega) this
  rw [hdet, Int.one_mul] at d3
  refine ⟨⟨p, q, r, t⟩, by unfold Mt.det; simp only; exact hdet, ?_⟩
  have key : ∀ x y : Int, g.val x y = f.val (p * x + q * y) (r * x + t * y) := by
    intro x y
    have n1 := El.nm_mul (s := s) (d := d) l ((El.sm (p * x + q * y) ⟨f.a, 0⟩).add (El.sm (r * x + t * y) ⟨k, 1⟩))
    have n2 := El.nm_mul (s := s) (d := d) m ((El.sm x ⟨g.a, 0⟩).add (El.sm y ⟨j, 1⟩))
    rw [hf.nm] at n1; rw [hg.nm] at n2
    have e3 : m.mul s d ((El.sm x ⟨g.a, 0⟩).add (El.sm y ⟨j, 1⟩)) = l.mul s d ((El.sm (p * x + q * y) ⟨f.a, 0⟩).add (El.sm (r * x + t * y) ⟨k, 1⟩)) := by
      rw [El.mul_add, El.mul_sm, El.mul_sm, h1, h2, El.mul_add, El.mul_sm, El.mul_sm]
      generalize l.mul s d ⟨f.a, 0⟩ = u
      generalize l.mul s d ⟨k, 1⟩ = v
      unfold El.add El.sm
      exact El.ext2 (by simp only; grind) (by simp only; grind)
    rw [e3, n1] at n2
    rw [← Int.mul_assoc, ← Int.mul_assoc, d3] at n2
    exact (Int.eq_of_mul_eq_mul_left (by omega) n2).symm
  have k1 := key 1 0
  have k2 := key 0 1
  have k3 := key 1 1
  unfold Fm.val vl at k1 k2 k3
  unfold Fm.app vl apB
  refine Fm.ext ?_ ?_ ?_
  · simp only; grind
  · simp only; grind
  · simp only; grind
/-- equivalent forms have proportional lattices -/
theorem equiv_eqv {f : Fm} {k j : Int} {M : Mt} (hf : FK s d f k) (hM : M.det = 1) (hg : FK s d (f.app M) j) :
    Eqv (prd s d [⟨f.a, 0⟩] (LaF (f.app M).a j)) (prd s d [El.cj s ((El.sm M.a ⟨f.a, 0⟩).add (El.sm M.c ⟨k, 1⟩))] (LaF f.a k)) := by
  obtain ⟨p, q, r, t⟩ := M
  have hd : p * t - q * r = 1 := hM
  have eb := hg.b
  have ea : (f.app ⟨p, q, r, t⟩).a = f.a * p * p + f.b * p * r + f.c * r * r := rfl
  have eb' : (f.app ⟨p, q, r, t⟩).b = 2 * (f.a * p * q + f.c * r * t) + f.b * (p * t + q * r) := rfl
  rw [eb'] at eb
  rw [ea]
  have hb := hf.b
  have hn := hf.n
  have ej : j = k + f.a * p * q + f.b * q * r + f.c * r * t := by
    have : 2 * j = 2 * (k + f.a * p * q + f.b * q * r + f.c * r * t) := by grind
    omega
  obtain ⟨a, b, c⟩ := f
  simp only at *
  subst hb
  have c1 : (⟨a, 0⟩ : El).mul s d ⟨a * p * p + (2 * k + s) * p * r + c * r * r, 0⟩ = (El.cj s ((El.sm p ⟨a, 0⟩).add (El.sm r ⟨k, 1⟩))).mul s d ((El.sm p ⟨a, 0⟩).add (El.sm r ⟨k, 1⟩)) := by
    unfold El.mul El.cj El.add El.sm
    exact El.ext2 (by simp only; grind) (by simp only; grind)
  have c2 : (⟨a, 0⟩ : El).mul s d ⟨j, 1⟩ = (El.cj s ((El.sm p ⟨a, 0⟩).add (El.sm r ⟨k, 1⟩))).mul s d ((El.sm q ⟨a, 0⟩).add (El.sm t ⟨k, 1⟩)) := by
    subst ej
    unfold El.mul El.cj El.add El.sm
    exact El.ext2 (by simp only; grind) (by simp only; grind)
  generalize hu : El.cj s ((El.sm p ⟨a, 0⟩).add (El.sm r ⟨k, 1⟩)) = u at *
  refine Eqv.of (fun g hg => ?_) (fun g hg => ?_)
  · obtain ⟨x, hx, v, hv, rfl⟩ := mem_prd.1 hg
    rw [List.mem_singleton] at hx
    subst hx
    unfold LaF at hv
    simp only [List.mem_cons, List.not_mem_nil, or_false] at hv
    rcases hv with rfl | rfl
    · rw [c1]; exact in_sc (in2.2 ⟨_, _, rfl⟩)
    · rw [c2]; exact in_sc (in2.2 ⟨_, _, rfl⟩)
  · obtain ⟨x, hx, v, hv, rfl⟩ := mem_prd.1 hg
    rw [List.mem_singleton] at hx
    subst hx
    unfold LaF at hv
    simp only [List.mem_cons, List.not_mem_nil, or_false] at hv
    rcases hv with rfl | rfl
    · have e : x.mul s d ⟨a, 0⟩ = (El.sm t ((⟨a, 0⟩ : El).mul s d ⟨a * p * p + (2 * k + s) * p * r + c * r * r, 0⟩)).add (El.sm (-r) ((⟨a, 0⟩ : El).mul s d ⟨j, 1⟩)) := by
        rw [c1, c2, ← El.mul_sm, ← El.mul_sm, ← El.mul_add]
        congr 1
        unfold El.add El.sm
        exact El.ext2 (by simp only; grind) (by simp only; grind)
      rw [e]
      exact ((in_sc (InS.gen (by unfold LaF; simp))).sm t).add ((in_sc (InS.gen (by unfold LaF; simp))).sm (-r))
    · have e : x.mul s d ⟨k, 1⟩ = (El.sm (-q) ((⟨a, 0⟩ : El).mul s d ⟨a * p * p + (2 * k + s) * p * r + c * r * r, 0⟩)).add (El.sm p ((⟨a, 0⟩ : El).mul s d ⟨j, 1⟩)) := by
        rw [c1, c2, ← El.mul_sm, ← El.mul_sm, ← El.mul_add]
        congr 1
        unfold El.add El.sm
        exact El.ext2 (by simp only; grind) (by simp only; grind)
      rw [e]
      exact ((in_sc (InS.gen (by unfold LaF; simp))).sm (-q)).add ((in_sc (InS.gen (by unfold LaF; simp))).sm p)
end
end Go.AM
end

section
/- Composition of classes: unique, commutative, associative; it exists. -/
namespace Go.AM
open Go Go.RowKit
def kk (s : Int) (f : Fm) : Int := (f.b - s) / 2
def lat (s : Int) (f : Fm) : List El := LaF f.a (kk s f)
def Fo (s d : Int) (f : Fm) : Prop := FK s d f (kk s f)
/-- h is a composition of f and g -/
def Cm (s d : Int) (f g h : Fm) : Prop := ∃ e : Int, 0 < e ∧ f.a * g.a = e * e * h.a ∧ Eqv (prd s d (lat s f) (lat s g)) (prd s d [⟨e, 0⟩] (lat s h))
section
variable {s d : Int}
theorem FK.kk {f : Fm} {k : Int} (h : FK s d f k) : kk s f = k := by have := h.b; unfold AM.kk; omega
theorem Fo.app {f : Fm} {M : Mt} (h : Fo s d f) (hM : M.det = 1) : Fo s d (f.app M) := by
  refine FK.of ?_ ?_
  · have : (f.app M).disc = f.disc := disc_T hM
    exact this.trans h.disc
  · have hb := h.b
    have e : (f.app M).b = 2 * (f.a * M.a * M.b + f.c * M.c * M.d) + f.b * (M.a * M.d + M.b * M.c) := rfl
    have hd : M.a * M.d - M.b * M.c = 1 := hM
    rw [e, hb]
    have : 2 * (f.a * M.a * M.b + f.c * M.c * M.d) + (2 * AM.kk s f + s) * (M.a * M.d + M.b * M.c) - s = 2 * (f.a * M.a * M.b + f.c * M.c * M.d + AM.kk s f * (M.a * M.d + M.b * M.c) + s * (M.b * M.c)) := by grind
    rw [this]; omega
theorem nm_e (e : Int) : El.nm s d ⟨e, 0⟩ = e * e := by unfold El.nm; simp
theorem sq_pos {e : Int} (h : 0 < e) : 0 < e * e := Int.mul_pos h h
theorem sc_sc (u v : El) (L : List El) : Eqv (prd s d [u] (prd s d [v] L)) (prd s d [u.mul s d v] L) :=
  (prd_assoc [u] [v] L).symm.trans ((prd_one u v).prd (.refl L))
theorem sc_prd (u : El) (L M : List El) : Eqv (prd s d (prd s d [u] L) M) (prd s d [u] (prd s d L M)) := prd_assoc _ _ _
theorem prd_sc (u : El) (L M : List El) : Eqv (prd s d L (prd s d [u] M)) (prd s d [u] (prd s d L M)) :=
  ((prd_assoc L [u] M).symm.trans ((prd_comm L [u]).prd (.refl M))).trans (prd_assoc _ _ _)
theorem rd_eq_app {f g : Fm} (pf : f.pos) (pg : g.pos) (h : f.rd = g.rd) : ∃ M : Mt, M.det = 1 ∧ f.app M = g := by
  obtain ⟨m, h1, h2⟩ := rd_via pf
  obtain ⟨n, h3, h4⟩ := rd_via pg
  refine ⟨m.mul n.adj, by rw [det_mul, adj_det, h1, h3]; rfl, ?_⟩
  rw [← app_mul, ← h2, h, h4, adj_app h3]
/-- forms of one class: their lattices are proportional -/
theorem class_lat {f g : Fm} (pf : f.pos) (pg : g.pos) (hf : Fo s d f) (h : f.rd = g.rd) :
    ∃ u v : El, 0 < u.nm s d ∧ 0 < v.nm s d ∧ Eqv (prd s d [u] (lat s g)) (prd s d [v] (lat s f)) := by
  obtain ⟨M, hM, e⟩ := rd_eq_app pf pg h
  have hg : Fo s d (f.app M) := hf.app hM
  have h1 := equiv_eqv hf hM hg
  refine ⟨_, _, ?_, ?_, by rw [← e]; exact h1⟩
  · rw [nm_e]; exact sq_pos pf.1
  · have h2 := hf.nm M.a M.c
    have h3 : vl f.a f.b f.c M.a M.c = g.a := by rw [← e]; rfl
    rw [h3] at h2
    have h4 : ∀ z : El, El.nm s d (El.cj s z) = El.nm s d z := fun z => by unfold El.nm El.cj; simp only; grind
    rw [h4, h2]
    exact Int.mul_pos pf.1 pg.1
theorem lat_class {f g : Fm} {l m : El} (pf : f.pos) (pg : g.pos) (hf : Fo s d f) (hg : Fo s d g) (h : Eqv (prd s d [l] (lat s f)) (prd s d [m] (lat s g)))
    (hl : 0 < l.nm s d) (hm : 0 < m.nm s d) : f.rd = g.rd := by
  obtain ⟨M, h1, h2⟩ := eqv_equiv hf hg pf pg h hl hm
  rw [← h2, rd_app1 pf h1]
theorem cm_uniq {f g h f' g' h' : Fm} (pf : f.pos) (pg : g.pos) (ph : h.pos) (pf' : f'.pos) (pg' : g'.pos) (ph' : h'.pos) (hf : Fo s d f) (hg : Fo s d g) (hh : Fo s d h) (hh' : Fo s d h')
    (ef : f.rd = f'.rd) (eg : g.rd = g'.rd) (c : Cm s d f g h) (c' : Cm s d f' g' h') : h.rd = h'.rd := by
  obtain ⟨e, he, _, q⟩ := c
  obtain ⟨e', he', _, q'⟩ := c'
  obtain ⟨u, v, hu, hv, h1⟩ := class_lat pf pf' hf ef
  obtain ⟨x, y, hx, hy, h2⟩ := class_lat pg pg' hg eg
  have k1 : Eqv (prd s d (prd s d [u] (lat s f')) (prd s d [x] (lat s g'))) (prd s d [u.mul s d (x.mul s d ⟨e', 0⟩)] (lat s h')) :=
    (sc_prd u _ _).trans (((Eqv.refl [u]).prd ((prd_sc x _ _).trans (((Eqv.refl [x]).prd q').trans (sc_sc _ _ _)))).trans (sc_sc _ _ _))
  have k2 : Eqv (prd s d (prd s d [v] (lat s f)) (prd s d [y] (lat s g))) (prd s d [v.mul s d (y.mul s d ⟨e, 0⟩)] (lat s h)) :=
    (sc_prd v _ _).trans (((Eqv.refl [v]).prd ((prd_sc y _ _).trans (((Eqv.refl [y]).prd q).trans (sc_sc _ _ _)))).trans (sc_sc _ _ _))
  have k3 := k2.symm.trans ((h1.prd h2).symm.trans k1)
  refine lat_class ph ph' hh hh' k3 ?_ ?_
  · rw [El.nm_mul, El.nm_mul, nm_e]; exact Int.mul_pos hv (Int.mul_pos hy (sq_pos he))
  · rw [El.nm_mul, El.nm_mul, nm_e]; exact Int.mul_pos hu (Int.mul_pos hx (sq_pos he'))
theorem Cm.comm {f g h : Fm} (c : Cm s d f g h) : Cm s d g f h := by
  obtain ⟨e, he, ha, q⟩ := c
  exact ⟨e, he, by rw [Int.mul_comm]; exact ha, (prd_comm _ _).trans q⟩
theorem cm_assoc {f g k h m u v : Fm} (pm : m.pos) (pv : v.pos) (hm : Fo s d m) (hv : Fo s d v) (c1 : Cm s d f g h) (c2 : Cm s d h k m) (c3 : Cm s d g k u) (c4 : Cm s d f u v) : m.rd = v.rd := by
  obtain ⟨e1, p1, _, q1⟩ := c1
  obtain ⟨e2, p2, _, q2⟩ := c2
  obtain ⟨e3, p3, _, q3⟩ := c3
  obtain ⟨e4, p4, _, q4⟩ := c4
  have k1 : Eqv (prd s d (prd s d (lat s f) (lat s g)) (lat s k)) (prd s d [(⟨e1, 0⟩ : El).mul s d ⟨e2, 0⟩] (lat s m)) :=
    (q1.prd (.refl _)).trans ((sc_prd _ _ _).trans (((Eqv.refl _).prd q2).trans (sc_sc _ _ _)))
  have k2 : Eqv (prd s d (lat s f) (prd s d (lat s g) (lat s k))) (prd s d [(⟨e3, 0⟩ : El).mul s d ⟨e4, 0⟩] (lat s v)) :=
    ((Eqv.refl _).prd q3).trans ((prd_sc _ _ _).trans (((Eqv.refl _).prd q4).trans (sc_sc _ _ _)))
  refine lat_class pm pv hm hv (k1.symm.trans ((prd_assoc _ _ _).trans k2)) ?_ ?_
  · rw [El.nm_mul, nm_e, nm_e]; exact Int.mul_pos (sq_pos p1) (sq_pos p2)
  · rw [El.nm_mul, nm_e, nm_e]; exact Int.mul_pos (sq_pos p3) (sq_pos p4)
theorem in_e {e : Int} {L : List El} {z w : El} (h : InS L w) (hz : z = El.sm e w) : InS (prd s d [⟨e, 0⟩] L) z := by
  have : z = (⟨e, 0⟩ : El).mul s d w := by rw [hz]; unfold El.mul El.sm; exact El.ext2 (by simp) (by simp)
  rw [this]; exact in_sc h
theorem laF_shift {a k j : Int} (h : a ∣ k - j) : Eqv (LaF a k) (LaF a j) := by
  have key : ∀ k j : Int, a ∣ k - j → ∀ z, InS (LaF a k) z → InS (LaF a j) z := fun k j ⟨q, hq⟩ z hz => by
    obtain ⟨p, hp⟩ := inLaF.1 hz
    exact inLaF.2 ⟨p + q * z.y, by grind⟩
  intro z
  obtain ⟨q, hq⟩ := h
  exact ⟨key k j ⟨q, hq⟩ z, key j k ⟨-q, by rw [Int.mul_neg]; omega⟩ z⟩
theorem mem4 {u v x y g : El} (hg : g ∈ prd s d [u, v] [x, y]) : g = u.mul s d x ∨ g = u.mul s d y ∨ g = v.mul s d x ∨ g = v.mul s d y := by
  obtain ⟨a, ha, b, hb, rfl⟩ := mem_prd.1 hg
  simp only [List.mem_cons, List.not_mem_nil, or_false] at ha hb
  rcases ha with rfl | rfl <;> rcases hb with rfl | rfl <;> simp
/-- Bezout -/
theorem bez2 : ∀ (n : Nat) (a b : Int), b.natAbs ≤ n → ∃ x y : Int, a * x + b * y = (Int.gcd a b : Nat)
  | 0, a, b, h => by
    have hb : b = 0 := by omega
    subst hb
    rw [Int.gcd_zero_right]
    rcases Int.le_total 0 a with g | g
    · exact ⟨1, 0, by omega⟩
    · exact ⟨-1, 0, by omega⟩
  | n + 1, a, b, h => by
    by_cases hb : b = 0
    · exact bez2 n a b (by omega)
    · have h1 : (a % b).natAbs < b.natAbs := by
        have := Int.emod_nonneg a hb
        have := Int.emod_lt a hb
        omega
      obtain ⟨x, y, e⟩ := bez2 n b (a % b) (by omega)
      have eg : Int.gcd b (a % b) = Int.gcd a b := by
        refine Nat.dvd_antisymm ?_ ?_
        · refine Int.dvd_gcd ?_ (Int.gcd_dvd_left ..)
          have h1 := Int.gcd_dvd_left (a := b) (b := a % b)
          have h2 := Int.gcd_dvd_right (a := b) (b := a % b)
          have h3 := Int.dvd_add (Int.dvd_trans h1 ⟨a / b, rfl⟩) h2
          rwa [Int.mul_ediv_add_emod a b] at h3
        · refine Int.dvd_gcd (Int.gcd_dvd_right ..) ?_
          have h1 := Int.gcd_dvd_left (a := a) (b := b)
          have h2 := Int.gcd_dvd_right (a := a) (b := b)
          have e3 : a % b = a - b * (a / b) := by have := Int.mul_ediv_add_emod a b; omega
          rw [e3]
          exact Int.dvd_sub h1 (Int.dvd_trans h2 ⟨_, rfl⟩)
      have em := Int.mul_ediv_add_emod a b
      refine ⟨y, x - (a / b) * y, ?_⟩
      rw [← eg, ← e]
      generalize a / b = q at *
      generalize a % b = r at *
      subst em
      grind
theorem bez (a b : Int) : ∃ x y : Int, a * x + b * y = (Int.gcd a b : Nat) := bez2 _ a b (Nat.le_refl _)
end
end Go.AM
end

section
/- Composition of forms: the formula. -/
namespace Go.AM
open Go Go.RowKit
section
variable {s d : Int}
/-- numbers without a common divisor have 1 as a combination -/
theorem bez4 {a b c e : Int} (h : ∀ g : Nat, (g : Int) ∣ a → (g : Int) ∣ b → (g : Int) ∣ c → (g : Int) ∣ e → g = 1) : ∃ x y z w : Int, a * x + b * y + c * z + e * w = 1 := by
  obtain ⟨x, y, h1⟩ := bez a b
  obtain ⟨z, w, h2⟩ := bez c e
  obtain ⟨p, q, h3⟩ := bez (Int.gcd a b : Nat) (Int.gcd c e : Nat)
  have hg : Int.gcd ((Int.gcd a b : Nat) : Int) ((Int.gcd c e : Nat) : Int) = 1 := by
    have l := Int.gcd_dvd_left (a := ((Int.gcd a b : Nat) : Int)) (b := ((Int.gcd c e : Nat) : Int))
    have r := Int.gcd_dvd_right (a := ((Int.gcd a b : Nat) : Int)) (b := ((Int.gcd c e : Nat) : Int))
    exact h _ (Int.dvd_trans l (Int.gcd_dvd_left ..)) (Int.dvd_trans l (Int.gcd_dvd_right ..)) (Int.dvd_trans r (Int.gcd_dvd_left ..)) (Int.dvd_trans r (Int.gcd_dvd_right ..))
  rw [hg, ← h1, ← h2] at h3
  exact ⟨x * p, y * p, z * q, w * q, by grind⟩
theorem fm_dvd {f : Fm} {k : Int} (hf : FK s d f k) (pf : prim f.a f.b f.c = true) {g : Nat} (h1 : (g : Int) ∣ f.a) (h2 : (g : Int) ∣ 2 * k + s) (h3 : (g : Int) ∣ f.c) : g = 1 := by
  rw [← hf.b] at h2
  have h := Int.dvd_coe_gcd h1 (Int.dvd_coe_gcd h2 h3)
  unfold prim at pf
  rw [of_decide_eq_true pf] at h
  have := Int.le_of_dvd (by omega) h
  rcases (show g = 0 ∨ g = 1 by omega) with e | e
  · subst e
    have := Int.zero_dvd.1 h
    omega
  · exact e
/-- the data of a composition -/
structure CD (f g : Fm) (s d k1 k2 e X Y Z a1 a2 t q k A : Int) : Prop where
  f1 : f.a = e * a1
  g1 : g.a = e * a2
  s1 : k1 + k2 + s = e * t
  bz : X * f.a + Y * g.a + Z * (k1 + k2 + s) = e
  e0 : 0 < e
  hq : k1 * k2 + d = e * q
  hk : e * k = X * f.a * k2 + Y * g.a * k1 + Z * (k1 * k2 + d)
  hA : A = a1 * a2
theorem CD.k2 {f g : Fm} {k1 k2 e X Y Z a1 a2 t q k A : Int} (c : CD f g s d k1 k2 e X Y Z a1 a2 t q k A) (hg : FK s d g k2) : k2 - k = a2 * (Y * (k2 - k1) + Z * g.c) := by
  have h := hg.n
  have e1 : e * (k2 - k) = e * (a2 * (Y * (k2 - k1) + Z * g.c)) := by
    have := c.hk; have := c.bz; have := c.g1; have := c.hq
    grind
  exact Int.eq_of_mul_eq_mul_left (by have := c.e0; omega) e1
theorem CD.k1 {f g : Fm} {k1 k2 e X Y Z a1 a2 t q k A : Int} (c : CD f g s d k1 k2 e X Y Z a1 a2 t q k A) (hf : FK s d f k1) : k1 - k = a1 * (X * (k1 - k2) + Z * f.c) := by
  have h := hf.n
  have e1 : e * (k1 - k) = e * (a1 * (X * (k1 - k2) + Z * f.c)) := by
    have := c.hk; have := c.bz; have := c.f1; have := c.hq
    grind
  exact Int.eq_of_mul_eq_mul_left (by have := c.e0; omega) e1
theorem CD.qk {f g : Fm} {k1 k2 e X Y Z a1 a2 t q k A : Int} (c : CD f g s d k1 k2 e X Y Z a1 a2 t q k A) (hf : FK s d f k1) (hg : FK s d g k2) : q - k * t = -(A * (X * g.c + Y * f.c)) := by
  have h := hg.n; have h' := hf.n
  have hq := c.hq; have hk := c.hk; have bz := c.bz; have f1 := c.f1; have g1 := c.g1; have s1 := c.s1; have hA := c.hA
  have e1 : e * (e * (q - k * t)) = (X * f.a + Y * g.a + Z * (k1 + k2 + s)) * (k1 * k2 + d) - (k1 + k2 + s) * (X * f.a * k2 + Y * g.a * k1 + Z * (k1 * k2 + d)) := by
    rw [bz, ← hk, s1, hq]; grind
  have e2 : (X * f.a + Y * g.a + Z * (k1 + k2 + s)) * (k1 * k2 + d) - (k1 + k2 + s) * (X * f.a * k2 + Y * g.a * k1 + Z * (k1 * k2 + d)) = -(X * f.a * (k2 * k2 + s * k2 - d)) - Y * g.a * (k1 * k1 + s * k1 - d) := by grind
  have e3 : e * (e * (q - k * t)) = e * (e * -(A * (X * g.c + Y * f.c))) := by
    rw [e1, e2, ← h, ← h', f1, g1, hA]; grind
  have e0 := c.e0
  exact Int.eq_of_mul_eq_mul_left (by omega) (Int.eq_of_mul_eq_mul_left (by omega) e3)
theorem al2 {a b k k2 w : Int} (h : k2 - k = b * w) : a * k2 - k * a = a * b * w := by grind
theorem al3 {a b k k1 w : Int} (h : k1 - k = a * w) : b * k1 - k * b = a * b * w := by grind
/-- the composed lattice -/
theorem CD.eqv {f g : Fm} {k1 k2 e X Y Z a1 a2 t q k A : Int} (c : CD f g s d k1 k2 e X Y Z a1 a2 t q k A) (hf : FK s d f k1) (hg : FK s d g k2) (pf : prim f.a f.b f.c = true) :
    Eqv (prd s d (LaF f.a k1) (LaF g.a k2)) (prd s d [⟨e, 0⟩] (LaF A k)) := by
  have r2 := c.k2 hg
  have r1 := c.k1 hf
  have rq := c.qk hf hg
  have hfn := hf.n; have hgn := hg.n
  obtain ⟨f1, g1, s1, bz, e0, hq, hk, hA⟩ := c
  refine Eqv.of (fun z hz => ?_) (fun z hz => ?_)
  · unfold LaF at hz
    rcases mem4 hz with rfl | rfl | rfl | rfl
    · refine in_e (w := ⟨e * A, 0⟩) (inLaF.2 ⟨e, by simp only; grind⟩) ?_
      unfold El.mul El.sm; exact El.ext2 (by simp only; rw [f1, g1, hA]; grind) (by simp)
    · refine in_e (w := ⟨a1 * k2, a1⟩) (inLaF.2 ⟨Y * (k2 - k1) + Z * g.c, by simp only; rw [hA]; exact al2 r2⟩) ?_
      unfold El.mul El.sm; exact El.ext2 (by simp only; rw [f1]; grind) (by simp only; rw [f1]; grind)
    · refine in_e (w := ⟨a2 * k1, a2⟩) (inLaF.2 ⟨X * (k1 - k2) + Z * f.c, by simp only; rw [hA]; exact al3 r1⟩) ?_
      unfold El.mul El.sm; exact El.ext2 (by simp only; rw [g1]; grind) (by simp only; rw [g1]; grind)
    · refine in_e (w := ⟨q, t⟩) (inLaF.2 ⟨-(X * g.c + Y * f.c), by simp only; rw [rq, Int.mul_neg]⟩) ?_
      unfold El.mul El.sm; exact El.ext2 (by simp only; grind) (by simp only; grind)
  · obtain ⟨x, hx, v, hv, rfl⟩ := mem_prd.1 hz
    rw [List.mem_singleton] at hx
    subst hx
    have G : ∀ u w : El, u ∈ LaF f.a k1 → w ∈ LaF g.a k2 → InS (prd s d (LaF f.a k1) (LaF g.a k2)) (u.mul s d w) := fun u w hu hw => (InS.gen hu).mul (InS.gen hw)
    have m1 : ∀ a k : Int, (⟨a, 0⟩ : El) ∈ LaF a k := fun a k => by unfold LaF; simp
    have m2 : ∀ a k : Int, (⟨k, 1⟩ : El) ∈ LaF a k := fun a k => by unfold LaF; simp
    have g11 := G _ _ (m1 f.a k1) (m1 g.a k2)
    have g12 := G _ _ (m1 f.a k1) (m2 g.a k2)
    have g21 := G _ _ (m2 f.a k1) (m1 g.a k2)
    have g22 := G _ _ (m2 f.a k1) (m2 g.a k2)
    unfold LaF at hv
    simp only [List.mem_cons, List.not_mem_nil, or_false] at hv
    rcases hv with rfl | rfl
    · obtain ⟨x, y, z, w, hw⟩ := bez4 (a := e) (b := k2 - k1) (c := g.c) (e := f.c) (fun m h1 h2 h3 h4 => by
        refine fm_dvd hf pf (by rw [f1]; exact Int.dvd_trans h1 ⟨a1, rfl⟩) ?_ h4
        have : 2 * k1 + s = e * t - (k2 - k1) := by omega
        rw [this]
        exact Int.dvd_sub (Int.dvd_trans h1 ⟨t, rfl⟩) h2)
      have E : (⟨e, 0⟩ : El).mul s d ⟨A, 0⟩ = ((El.sm x ((⟨f.a, 0⟩ : El).mul s d ⟨g.a, 0⟩)).add (El.sm y ((El.sm a2 ((⟨f.a, 0⟩ : El).mul s d ⟨k2, 1⟩)).add (El.sm (-a1) ((⟨k1, 1⟩ : El).mul s d ⟨g.a, 0⟩))))).add
          ((El.sm z ((El.sm t ((⟨f.a, 0⟩ : El).mul s d ⟨k2, 1⟩)).add (El.sm (-a1) ((⟨k1, 1⟩ : El).mul s d ⟨k2, 1⟩)))).add (El.sm w ((El.sm t ((⟨k1, 1⟩ : El).mul s d ⟨g.a, 0⟩)).add (El.sm (-a2) ((⟨k1, 1⟩ : El).mul s d ⟨k2, 1⟩))))) := by
        have t1 : e * A * (e * x + (k2 - k1) * y + g.c * z + f.c * w) = e * A := by rw [hw]; omega
        have u3 : t * (f.a * k2) - a1 * (k1 * k2 + d) = e * A * g.c := by
          have : t * (f.a * k2) - a1 * (k1 * k2 + d) = a1 * ((k1 + k2 + s) * k2 - (k1 * k2 + d)) := by rw [f1, s1]; grind
          rw [this]
          have : (k1 + k2 + s) * k2 - (k1 * k2 + d) = g.a * g.c := by rw [hgn]; grind
          rw [this, g1, hA]; grind
        have u4 : t * (k1 * g.a) - a2 * (k1 * k2 + d) = e * A * f.c := by
          have : t * (k1 * g.a) - a2 * (k1 * k2 + d) = a2 * ((k1 + k2 + s) * k1 - (k1 * k2 + d)) := by rw [g1, s1]; grind
          rw [this]
          have : (k1 + k2 + s) * k1 - (k1 * k2 + d) = f.a * f.c := by rw [hfn]; grind
          rw [this, f1, hA]; grind
        have u1 : f.a * g.a = e * A * e := by rw [f1, g1, hA]; grind
        have u2 : a2 * (f.a * k2) - a1 * (k1 * g.a) = e * A * (k2 - k1) := by rw [f1, g1, hA]; grind
        unfold El.mul El.add El.sm
        refine El.ext2 ?_ ?_
        · simp only [Int.mul_zero, Int.mul_one, Int.add_zero]
          rw [← t1]
          have v2 : a2 * (f.a * k2) + -a1 * (k1 * g.a) = e * A * (k2 - k1) := by rw [← u2, Int.neg_mul]; rfl
          have v3 : t * (f.a * k2) + -a1 * (k1 * k2 + d) = e * A * g.c := by rw [← u3, Int.neg_mul]; rfl
          have v4 : t * (k1 * g.a) + -a2 * (k1 * k2 + d) = e * A * f.c := by rw [← u4, Int.neg_mul]; rfl
          rw [u1, v2, v3, v4]
          grind
        · simp only [Int.mul_zero, Int.zero_mul, Int.mul_one, Int.one_mul, Int.add_zero, Int.zero_add]
          have w2 : a2 * f.a + -a1 * g.a = 0 := by rw [f1, g1]; grind
          have w3 : t * f.a + -a1 * (k1 + k2 + s) = 0 := by rw [f1, s1]; grind
          have w4 : t * g.a + -a2 * (k1 + k2 + s) = 0 := by rw [g1, s1]; grind
          rw [w2, w3, w4]; simp
      rw [E]
      exact ((g11.sm x).add (((g12.sm a2).add (g21.sm (-a1))).sm y)).add ((((g12.sm t).add (g22.sm (-a1))).sm z).add (((g21.sm t).add (g22.sm (-a2))).sm w))
    · have E : (⟨e, 0⟩ : El).mul s d ⟨k, 1⟩ = ((El.sm X ((⟨f.a, 0⟩ : El).mul s d ⟨k2, 1⟩)).add (El.sm Y ((⟨k1, 1⟩ : El).mul s d ⟨g.a, 0⟩))).add (El.sm Z ((⟨k1, 1⟩ : El).mul s d ⟨k2, 1⟩)) := by
        unfold El.mul El.add El.sm
        refine El.ext2 ?_ ?_
        · simp only; grind
        · simp only; grind
      rw [E]
      exact ((g12.sm X).add (g21.sm Y)).add (g22.sm Z)
end
end Go.AM
end

section
/- Composition of forms of one discriminant: a group of classes. -/
namespace Go.AM
open Go Go.RowKit
theorem dvdl {a b : Int} (h : a ∣ b) (c : Int) : a ∣ b * c := Int.dvd_trans h ⟨c, rfl⟩
theorem prim_ofN {f : Fm} (h : ∀ g : Nat, (g : Int) ∣ f.a → (g : Int) ∣ f.b → (g : Int) ∣ f.c → g = 1) : prim f.a f.b f.c = true := by
  unfold prim
  refine decide_eq_true ?_
  have h1 : ((Int.gcd f.a (Int.gcd f.b f.c : Int) : Nat) : Int) ∣ f.a := Int.gcd_dvd_left ..
  have h2 : ((Int.gcd f.a (Int.gcd f.b f.c : Int) : Nat) : Int) ∣ ((Int.gcd f.b f.c : Nat) : Int) := Int.gcd_dvd_right ..
  exact h _ h1 (Int.dvd_trans h2 (Int.gcd_dvd_left ..)) (Int.dvd_trans h2 (Int.gcd_dvd_right ..))
theorem pos_any' {f : Fm} (hf : f.pos) {m : Mt} (h : m.det = 1) : (f.app m).pos := by
  refine ⟨?_, by rw [disc_app, h]; have := hf.2; omega⟩
  show 0 < vl f.a f.b f.c m.a m.c
  have hd : f.b * f.b - 4 * f.a * f.c < 0 := hf.2
  have ha := hf.1
  have e : 4 * f.a * vl f.a f.b f.c m.a m.c = (2 * f.a * m.a + f.b * m.c) * (2 * f.a * m.a + f.b * m.c) + -(f.b * f.b - 4 * f.a * f.c) * (m.c * m.c) := by unfold vl; grind
  have s1 := sq_nonneg' (2 * f.a * m.a + f.b * m.c)
  have s2 := sq_nonneg' m.c
  rcases Int.lt_or_le 0 (vl f.a f.b f.c m.a m.c) with g | g
  · exact g
  · exfalso
    have l1 : 4 * f.a * vl f.a f.b f.c m.a m.c ≤ 0 := Int.mul_nonpos_of_nonneg_of_nonpos (by omega) g
    have l2 : 0 ≤ -(f.b * f.b - 4 * f.a * f.c) * (m.c * m.c) := Int.mul_nonneg (by omega) s2
    have l3 : -(f.b * f.b - 4 * f.a * f.c) * (m.c * m.c) = 0 := by omega
    have c0 : m.c = 0 := by
      rcases Int.mul_eq_zero.1 l3 with q | q
      · omega
      · rcases Int.mul_eq_zero.1 q with q | q <;> exact q
    rw [c0] at e
    have s3 : (2 * f.a * m.a) * (2 * f.a * m.a) = 0 := by
      have e2 : (2 * f.a * m.a + f.b * 0) * (2 * f.a * m.a + f.b * 0) = (2 * f.a * m.a) * (2 * f.a * m.a) := by simp
      rw [c0, e2] at s1
      rw [e2] at e
      have : -(f.b * f.b - 4 * f.a * f.c) * (0 * 0) = 0 := by simp
      rw [this] at e
      rw [c0] at l1
      omega
    have a0 : m.a = 0 := by
      have := Int.mul_eq_zero.1 s3
      have h4 : 2 * f.a * m.a = 0 := by rcases this with q | q <;> exact q
      rcases Int.mul_eq_zero.1 h4 with q | q
      · omega
      · exact q
    unfold Mt.det at h
    rw [c0, a0] at h
    simp at h
section
variable {s d : Int}
theorem cd_norm {f g : Fm} {k1 k2 X Y Z e E : Int} (h1 : f.a * f.c = k1 * k1 + s * k1 - d) (h2 : g.a * g.c = k2 * k2 + s * k2 - d) (he : e = X * f.a + Y * g.a + Z * (k1 + k2 + s)) (hE : E = X * f.a * k2 + Y * g.a * k1 + Z * (k1 * k2 + d)) :
    E * E + s * (E * e) - d * (e * e) = f.a * g.a * (X * X * (f.a * g.c) + Y * Y * (g.a * f.c) + Z * Z * (f.c * g.c) + X * Y * (2 * (k1 * k2) + s * (k1 + k2) - 2 * d) + X * Z * (g.c * (2 * k1 + s)) + Y * Z * (f.c * (2 * k2 + s))) := by
  have n1 := El.nm_mul (s := s) (d := d) ⟨k1, 1⟩ ⟨k2, 1⟩
  unfold El.nm El.mul at n1
  simp only at n1
  have m1 : k1 * k1 + s * (k1 * 1) - d * (1 * 1) = f.a * f.c := by rw [h1]; grind
  have m2 : k2 * k2 + s * (k2 * 1) - d * (1 * 1) = g.a * g.c := by rw [h2]; grind
  rw [m1, m2] at n1
  have q1 : X * X * (f.a * f.a) * (k2 * k2 + s * k2 - d) = X * X * (f.a * f.a) * (g.a * g.c) := by rw [h2]
  have q2 : Y * Y * (g.a * g.a) * (k1 * k1 + s * k1 - d) = Y * Y * (g.a * g.a) * (f.a * f.c) := by rw [h1]
  have q3 : X * Z * f.a * (2 * k1 + s) * (k2 * k2 + s * k2 - d) = X * Z * f.a * (2 * k1 + s) * (g.a * g.c) := by rw [h2]
  have q4 : Y * Z * g.a * (2 * k2 + s) * (k1 * k1 + s * k1 - d) = Y * Z * g.a * (2 * k2 + s) * (f.a * f.c) := by rw [h1]
  have q5 : Z * Z * ((k1 * k2 + d) * (k1 * k2 + d) + s * ((k1 * k2 + d) * (k1 + k2 + s)) - d * ((k1 + k2 + s) * (k1 + k2 + s))) = Z * Z * (f.a * f.c * (g.a * g.c)) := by
    rw [← n1]; congr 1; grind
  subst he hE
  generalize f.a = a at *; generalize g.a = b at *; generalize f.c = c at *; generalize g.c = w at *
  clear h1 h2 m1 m2 n1
  grind
/-- the composed form -/
theorem CD.form {f g : Fm} {k1 k2 e X Y Z a1 a2 t q k A : Int} (c : CD f g s d k1 k2 e X Y Z a1 a2 t q k A) (hf : FK s d f k1) (hg : FK s d g k2) :
    ∃ C : Int, A * C = k * k + s * k - d := by
  have hn := cd_norm (X := X) (Y := Y) (Z := Z) hf.n hg.n c.bz.symm c.hk
  generalize (X * X * (f.a * g.c) + Y * Y * (g.a * f.c) + Z * Z * (f.c * g.c) + X * Y * (2 * (k1 * k2) + s * (k1 + k2) - 2 * d) + X * Z * (g.c * (2 * k1 + s)) + Y * Z * (f.c * (2 * k2 + s))) = Q at hn
  refine ⟨Q, ?_⟩
  rw [c.f1, c.g1] at hn
  have e1 : e * (e * (A * Q)) = e * (e * (k * k + s * k - d)) := by
    rw [c.hA]
    have l : e * (e * (a1 * a2 * Q)) = e * a1 * (e * a2) * Q := by grind
    rw [l, ← hn]; grind
  have e0 := c.e0
  exact Int.eq_of_mul_eq_mul_left (by omega) (Int.eq_of_mul_eq_mul_left (by omega) e1)
/-- products of values are values -/
theorem cm_vals {f g h : Fm} {k1 k2 k e : Int} (hf : FK s d f k1) (hg : FK s d g k2) (hh : FK s d h k) (ph : h.pos) (he : 0 < e) (ha : f.a * g.a = e * e * h.a)
    (q : Eqv (prd s d (LaF f.a k1) (LaF g.a k2)) (prd s d [⟨e, 0⟩] (LaF h.a k))) (x y z w : Int) : ∃ u v : Int, vl f.a f.b f.c x y * vl g.a g.b g.c z w = vl h.a h.b h.c u v := by
  have h1 : InS (prd s d (LaF f.a k1) (LaF g.a k2)) (((El.sm x ⟨f.a, 0⟩).add (El.sm y ⟨k1, 1⟩)).mul s d ((El.sm z ⟨g.a, 0⟩).add (El.sm w ⟨k2, 1⟩))) := (in2.2 ⟨x, y, rfl⟩).mul (in2.2 ⟨z, w, rfl⟩)
  have h2 := (q _).1 h1
  have e1 : prd s d [⟨e, 0⟩] (LaF h.a k) = [(⟨e, 0⟩ : El).mul s d ⟨h.a, 0⟩, (⟨e, 0⟩ : El).mul s d ⟨k, 1⟩] := rfl
  rw [e1] at h2
  obtain ⟨u, v, e2⟩ := in2.1 h2
  rw [← El.mul_sm, ← El.mul_sm, ← El.mul_add] at e2
  have n1 := El.nm_mul (s := s) (d := d) ((El.sm x ⟨f.a, 0⟩).add (El.sm y ⟨k1, 1⟩)) ((El.sm z ⟨g.a, 0⟩).add (El.sm w ⟨k2, 1⟩))
  rw [e2, El.nm_mul, hf.nm, hg.nm, hh.nm, nm_e] at n1
  refine ⟨u, v, ?_⟩
  have e3 : f.a * vl f.a f.b f.c x y * (g.a * vl g.a g.b g.c z w) = e * e * h.a * (vl f.a f.b f.c x y * vl g.a g.b g.c z w) := by rw [← ha]; grind
  rw [e3, ← Int.mul_assoc] at n1
  exact (Int.eq_of_mul_eq_mul_left (by have := Int.mul_pos (sq_pos he) ph.1; omega) n1).symm
theorem prim_bez {a b c : Int} (h : prim a b c = true) : ∃ x y z : Int, a * x + b * y + c * z = 1 := by
  obtain ⟨y, z, h1⟩ := bez b c
  obtain ⟨x, w, h2⟩ := bez a (Int.gcd b c : Nat)
  unfold prim at h
  rw [of_decide_eq_true h, ← h1] at h2
  exact ⟨x, y * w, z * w, by grind⟩
theorem vl_coef {t a b c : Int} (h : ∀ x y, t ∣ vl a b c x y) : t ∣ a ∧ t ∣ b ∧ t ∣ c := by
  have h1 := h 1 0
  have h2 := h 0 1
  have h3 := h 1 1
  unfold vl at h1 h2 h3
  have a1 : t ∣ a := by simpa using h1
  have a2 : t ∣ c := by simpa using h2
  refine ⟨a1, ?_, a2⟩
  have h4 := Int.dvd_sub (Int.dvd_sub h3 a1) a2
  have e : a * 1 * 1 + b * 1 * 1 + c * 1 * 1 - a - c = b := by omega
  rwa [e] at h4
theorem prim_vals {f g h : Fm} (pf : prim f.a f.b f.c = true) (pg : prim g.a g.b g.c = true) (hv : ∀ x y z w : Int, ∃ u v : Int, vl f.a f.b f.c x y * vl g.a g.b g.c z w = vl h.a h.b h.c u v) : prim h.a h.b h.c = true := by
  refine prim_ofN (fun m h1 h2 h3 => ?_)
  have hm : ∀ u v, (m : Int) ∣ vl h.a h.b h.c u v := fun u v => by
    unfold vl
    exact Int.dvd_add (Int.dvd_add (dvdl (dvdl h1 _) _) (dvdl (dvdl h2 _) _)) (dvdl (dvdl h3 _) _)
  have k1 : ∀ x y z w, (m : Int) ∣ vl f.a f.b f.c x y * vl g.a g.b g.c z w := fun x y z w => by
    obtain ⟨u, v, e⟩ := hv x y z w
    rw [e]; exact hm u v
  have k2 : ∀ x y, (m : Int) ∣ vl f.a f.b f.c x y := fun x y => by
    have c := vl_coef (t := m) (a := vl f.a f.b f.c x y * g.a) (b := vl f.a f.b f.c x y * g.b) (c := vl f.a f.b f.c x y * g.c) (fun z w => by
      have := k1 x y z w
      have e : vl (vl f.a f.b f.c x y * g.a) (vl f.a f.b f.c x y * g.b) (vl f.a f.b f.c x y * g.c) z w = vl f.a f.b f.c x y * vl g.a g.b g.c z w := by
        generalize vl f.a f.b f.c x y = V
        unfold vl; grind
      rw [e]; exact this)
    obtain ⟨p, q, r, e⟩ := prim_bez pg
    have h4 := Int.dvd_add (Int.dvd_add (dvdl c.1 p) (dvdl c.2.1 q)) (dvdl c.2.2 r)
    have e5 : vl f.a f.b f.c x y * g.a * p + vl f.a f.b f.c x y * g.b * q + vl f.a f.b f.c x y * g.c * r = vl f.a f.b f.c x y * (g.a * p + g.b * q + g.c * r) := by grind
    rw [e5, e, Int.mul_one] at h4
    exact h4
  have c := vl_coef k2
  obtain ⟨p, q, r, e⟩ := prim_bez pf
  have h4 := Int.dvd_add (Int.dvd_add (dvdl c.1 p) (dvdl c.2.1 q)) (dvdl c.2.2 r)
  rw [e] at h4
  have := Int.le_of_dvd (by omega) h4
  rcases (show m = 0 ∨ m = 1 by omega) with e | e
  · subst e
    have := Int.zero_dvd.1 h4
    omega
  · exact e
end
/-- forms of the discriminant D: positive, primitive -/
structure Cl (D : Int) (f : Fm) : Prop where
  pos : f.pos
  prim : AM.prim f.a f.b f.c = true
  disc : dsc f.a f.b f.c = D
abbrev sD (D : Int) : Int := D % 2
abbrev dD (D : Int) : Int := (D - D % 2) / 4
section
variable {D : Int}
theorem disc_par {a b c : Int} (h : dsc a b c = D) : (b - D % 2) % 2 = 0 ∧ D = sD D * sD D + 4 * dD D := by
  unfold dsc at h
  rw [Int.mul_assoc] at h
  generalize a * c = t at h
  have hb : b % 2 = 0 ∨ b % 2 = 1 := by omega
  have hD : D % 2 = 0 ∨ D % 2 = 1 := by omega
  rcases hb with g | g
  · obtain ⟨q, hq⟩ : ∃ q, b = 2 * q := ⟨b / 2, by omega⟩
    have e : b * b = 4 * (q * q) := by rw [hq]; grind
    have h0 : D % 2 = 0 := by omega
    unfold sD dD
    rw [h0]
    omega
  · obtain ⟨q, hq⟩ : ∃ q, b = 2 * q + 1 := ⟨b / 2, by omega⟩
    have e : b * b = 4 * (q * q + q) + 1 := by rw [hq]; grind
    have h0 : D % 2 = 1 := by omega
    unfold sD dD
    rw [h0]
    omega
theorem Cl.fo {f : Fm} (h : Cl D f) : Fo (sD D) (dD D) f := by
  obtain ⟨h1, h2⟩ := disc_par h.disc
  exact FK.of (h.disc.trans h2) h1
theorem Cl.app {f : Fm} {M : Mt} (h : Cl D f) (hM : M.det = 1) : Cl D (f.app M) := by
  refine ⟨pos_any' h.pos hM, ?_, ?_⟩
  · rw [← prim_app f (by rw [hM]; rfl)]; exact h.prim
  · have : (f.app M).disc = f.disc := disc_T hM
    exact this.trans h.disc
theorem Cl.rd {f : Fm} (h : Cl D f) : Cl D f.rd := by
  obtain ⟨m, h1, h2⟩ := rd_via h.pos
  rw [h2]; exact h.app h1
theorem Cl.rd_Rd {f : Fm} (h : Cl D f) : Rd f.rd := Rd.rdF h.pos
theorem Cl.rd_rd {f : Fm} (h : Cl D f) : f.rd.rd = f.rd := by
  obtain ⟨m, h1, h2⟩ := rd_via h.pos
  have := rd_app1 h.pos h1
  rwa [← h2] at this
/-- h is a composition of f and g -/
def IsC (D : Int) (f g h : Fm) : Prop := Cl D h ∧ Cm (sD D) (dD D) f g h
theorem isC_uniq {f g h f' g' h' : Fm} (hf : Cl D f) (hg : Cl D g) (hf' : Cl D f') (hg' : Cl D g') (ef : f.rd = f'.rd) (eg : g.rd = g'.rd) (c : IsC D f g h) (c' : IsC D f' g' h') : h.rd = h'.rd :=
  cm_uniq hf.pos hg.pos c.1.pos hf'.pos hg'.pos c'.1.pos hf.fo hg.fo c.1.fo c'.1.fo ef eg c.2 c'.2
theorem isC_comm {f g h : Fm} (c : IsC D f g h) : IsC D g f h := ⟨c.1, c.2.comm⟩
theorem isC_assoc {f g k h m u v : Fm} (c1 : IsC D f g h) (c2 : IsC D h k m) (c3 : IsC D g k u) (c4 : IsC D f u v) : m.rd = v.rd :=
  cm_assoc c2.1.pos c4.1.pos c2.1.fo c4.1.fo c1.2 c2.2 c3.2 c4.2
/-- a composition by its data; the middle coefficient may be moved -/
theorem isC_of {f g : Fm} {e X Y Z a1 a2 t q k A j C : Int} (hf : Cl D f) (hg : Cl D g) (c : CD f g (sD D) (dD D) (kk (sD D) f) (kk (sD D) g) e X Y Z a1 a2 t q k A) (hj : A ∣ k - j)
    (hC : (2 * j + sD D) * (2 * j + sD D) - 4 * A * C = D) : IsC D f g ⟨A, 2 * j + sD D, C⟩ := by
  have hfk : FK (sD D) (dD D) f (kk (sD D) f) := hf.fo
  have hgk : FK (sD D) (dD D) g (kk (sD D) g) := hg.fo
  have q0 := c.eqv hfk hgk hf.prim
  have hA : f.a * g.a = e * e * A := by rw [c.f1, c.g1, c.hA]; grind
  have pA : 0 < A := by
    have h1 : 0 < e * e * A := by rw [← hA]; exact Int.mul_pos hf.pos.1 hg.pos.1
    rcases Int.lt_or_le 0 A with h | h
    · exact h
    · have := Int.mul_nonpos_of_nonneg_of_nonpos (show 0 ≤ e * e from by have := sq_pos c.e0; omega) h
      omega
  have hD : dsc f.a f.b f.c < 0 := hf.pos.2
  rw [hf.disc] at hD
  have hh : FK (sD D) (dD D) ⟨A, 2 * j + sD D, C⟩ j := by
    refine ⟨rfl, ?_⟩
    have h2 := (disc_par hf.disc).2
    rw [Int.mul_assoc] at hC
    show A * C = _
    generalize A * C = T at hC
    generalize sD D = σ at *
    generalize dD D = δ at *
    grind
  have ph : (⟨A, 2 * j + sD D, C⟩ : Fm).pos := ⟨pA, by show dsc A (2 * j + sD D) C < 0; unfold dsc; rw [hC]; exact hD⟩
  have qj : Eqv (prd (sD D) (dD D) (LaF f.a (kk (sD D) f)) (LaF g.a (kk (sD D) g))) (prd (sD D) (dD D) [⟨e, 0⟩] (LaF A j)) := q0.trans ((Eqv.refl _).prd (laF_shift hj))
  have hv := cm_vals hfk hgk hh ph c.e0 hA qj
  refine ⟨⟨ph, prim_vals hf.prim hg.prim hv, hC⟩, e, c.e0, hA, ?_⟩
  show Eqv _ (prd _ _ _ (LaF A (kk (sD D) ⟨A, 2 * j + sD D, C⟩)))
  rw [hh.kk]
  exact qj
theorem isC_vals {f g h : Fm} (hf : Cl D f) (hg : Cl D g) (c : IsC D f g h) (x y z w : Int) : ∃ u v : Int, vl f.a f.b f.c x y * vl g.a g.b g.c z w = vl h.a h.b h.c u v := by
  obtain ⟨hh, e, he, ha, q⟩ := c
  exact cm_vals hf.fo hg.fo hh.fo hh.pos he ha q x y z w
end
end Go.AM
end

section
/- The product of classes: a formula; the laws of a group. -/
namespace Go.AM
open Go Go.RowKit
def xg : Nat → Int → Int → Int × Int
  | 0, a, _ => (if 0 ≤ a then 1 else -1, 0)
  | n + 1, a, b => if b = 0 then (if 0 ≤ a then 1 else -1, 0) else ((xg n b (a % b)).2, (xg n b (a % b)).1 - (a / b) * (xg n b (a % b)).2)
theorem gcd_stp2 (a b : Int) : Int.gcd b (a % b) = Int.gcd a b := by
  refine Nat.dvd_antisymm ?_ ?_
  · refine Int.dvd_gcd ?_ (Int.gcd_dvd_left ..)
    have h1 := Int.gcd_dvd_left (a := b) (b := a % b)
    have h2 := Int.gcd_dvd_right (a := b) (b := a % b)
    have h3 := Int.dvd_add (Int.dvd_trans h1 ⟨a / b, rfl⟩) h2
    rwa [Int.mul_ediv_add_emod a b] at h3
  · refine Int.dvd_gcd (Int.gcd_dvd_right ..) ?_
    have h1 := Int.gcd_dvd_left (a := a) (b := b)
    have h2 := Int.gcd_dvd_right (a := a) (b := b)
    have e3 : a % b = a - b * (a / b) := by have := Int.mul_ediv_add_emod a b; omega
    rw [e3]
    exact Int.dvd_sub h1 (Int.dvd_trans h2 ⟨_, rfl⟩)
theorem xg_eq : ∀ (n : Nat) (a b : Int), b.natAbs ≤ n → (xg n a b).1 * a + (xg n a b).2 * b = (Int.gcd a b : Nat)
  | 0, a, b, h => by
    have hb : b = 0 := by omega
    subst hb
    rw [Int.gcd_zero_right]
    unfold xg
    simp only
    split <;> omega
  | n + 1, a, b, h => by
    unfold xg
    by_cases hb : b = 0
    · subst hb
      rw [if_pos rfl, Int.gcd_zero_right]
      simp only
      split <;> omega
    · rw [if_neg hb]
      have h1 : (a % b).natAbs < b.natAbs := by
        have := Int.emod_nonneg a hb
        have := Int.emod_lt a hb
        omega
      have e := xg_eq n b (a % b) (by omega)
      rw [gcd_stp2] at e
      have em := Int.mul_ediv_add_emod a b
      rw [← e]
      simp only
      generalize xg n b (a % b) = p
      generalize a / b = q at *
      generalize a % b = r at *
      subst em
      grind
/-- a composition of two forms -/
def cmpF (f g : Fm) : Fm :=
  let x := xg g.a.natAbs f.a g.a
  let h : Int := (Int.gcd f.a g.a : Nat)
  let s0 := (f.b + g.b) / 2
  let u := xg s0.natAbs h s0
  let e : Int := (Int.gcd h s0 : Nat)
  let A := f.a * g.a / (e * e)
  let b := (u.1 * x.1 * f.a * g.b + u.1 * x.2 * g.a * f.b + u.2 * ((f.b * g.b + dsc f.a f.b f.c) / 2)) / e
  ⟨A, b, (b * b - dsc f.a f.b f.c) / (4 * A)⟩
def mlt (f g : Fm) : Fm := (cmpF f g).rd
section
variable {D : Int}
/-- composing by Bezout's numbers, whatever they are -/
theorem isC_bez {f g : Fm} {h x y e u z A B C : Int} (hf : Cl D f) (hg : Cl D g) (e0 : 0 < e) (d1 : e ∣ f.a) (d2 : e ∣ g.a) (d3 : e ∣ (f.b + g.b) / 2)
    (h1 : x * f.a + y * g.a = h) (h2 : u * h + z * ((f.b + g.b) / 2) = e) (hA : e * e * A = f.a * g.a)
    (hB : B = (u * x * f.a * g.b + u * y * g.a * f.b + z * ((f.b * g.b + D) / 2)) / e) (hC : C = (B * B - D) / (4 * A)) : IsC D f g ⟨A, B, C⟩ := by
  have hfk : FK (sD D) (dD D) f (kk (sD D) f) := hf.fo
  have hgk : FK (sD D) (dD D) g (kk (sD D) g) := hg.fo
  have hD := (disc_par hf.disc).2
  have bf := hfk.b
  have bg := hgk.b
  have nf := hfk.n
  generalize hk1 : kk (sD D) f = k1 at *
  generalize hk2 : kk (sD D) g = k2 at *
  have hs0 : (f.b + g.b) / 2 = k1 + k2 + sD D := by omega
  rw [hs0] at d3 h2
  obtain ⟨a1, ha1⟩ := d1
  obtain ⟨a2, ha2⟩ := d2
  obtain ⟨t, ht⟩ := d3
  have ee : e * e ≠ 0 := by have := sq_pos e0; omega
  have hA2 : A = a1 * a2 := by
    refine Int.eq_of_mul_eq_mul_left ee ?_
    rw [hA, ha1, ha2]; grind
  -- k1 k2 + d is a multiple of e
  have hq : ∃ q, k1 * k2 + dD D = e * q := ⟨k1 * t - a1 * f.c, by
    have e1 : k1 * k2 + dD D = k1 * (k1 + k2 + sD D) - f.a * f.c := by rw [nf]; grind
    rw [e1, ht, ha1]; grind⟩
  obtain ⟨q, hq⟩ := hq
  have hkx : ∃ k, e * k = u * x * f.a * k2 + u * y * g.a * k1 + z * (k1 * k2 + dD D) := ⟨u * x * a1 * k2 + u * y * a2 * k1 + z * q, by rw [hq, ha1, ha2]; grind⟩
  obtain ⟨k, hk⟩ := hkx
  have cd : CD f g (sD D) (dD D) k1 k2 e (u * x) (u * y) z a1 a2 t q k A := ⟨ha1, ha2, ht, by rw [← h2, ← h1]; grind, e0, hq, hk, hA2⟩
  have hmid : (f.b * g.b + D) / 2 = 2 * (k1 * k2 + dD D) + sD D * (k1 + k2 + sD D) := by
    have : f.b * g.b + D = 2 * (2 * (k1 * k2 + dD D) + sD D * (k1 + k2 + sD D)) := by rw [bf, bg, hD]; grind
    omega
  have hBk : B = 2 * k + sD D := by
    rw [hB, hmid, bf, bg]
    have : u * x * f.a * (2 * k2 + sD D) + u * y * g.a * (2 * k1 + sD D) + z * (2 * (k1 * k2 + dD D) + sD D * (k1 + k2 + sD D)) = e * (2 * k + sD D) := by
      have e3 : u * x * f.a + u * y * g.a + z * (k1 + k2 + sD D) = e := cd.bz
      have : e * (2 * k + sD D) = 2 * (e * k) + sD D * e := by grind
      rw [this, hk]
      have : sD D * e = sD D * (u * x * f.a + u * y * g.a + z * (k1 + k2 + sD D)) := by rw [e3]
      rw [this]; grind
    rw [this, Int.mul_ediv_cancel_left _ (by omega)]
  obtain ⟨C', hC'⟩ := cd.form hfk hgk
  have hA0 : A ≠ 0 := fun h0 => by
    rw [h0, Int.mul_zero] at hA
    have := Int.mul_pos hf.pos.1 hg.pos.1
    omega
  have hBD : B * B - D = 4 * A * C' := by
    rw [hBk]
    have : 4 * A * C' = 4 * (A * C') := Int.mul_assoc ..
    rw [this, hC']
    generalize sD D = σ at *
    generalize dD D = δ at *
    rw [hD]; grind
  have hCC : C = C' := by rw [hC, hBD]; exact Int.mul_ediv_cancel_left _ (by omega)
  subst hCC
  subst hk1 hk2
  rw [hBk]
  refine isC_of hf hg cd (j := k) ⟨0, by omega⟩ ?_
  rw [← hBk]; omega
theorem cmp_isC {f g : Fm} (hf : Cl D f) (hg : Cl D g) : IsC D f g (cmpF f g) := by
  have e1 := xg_eq g.a.natAbs f.a g.a (Nat.le_refl _)
  have e2 := xg_eq ((f.b + g.b) / 2).natAbs (Int.gcd f.a g.a : Nat) ((f.b + g.b) / 2) (Nat.le_refl _)
  have l := Int.gcd_dvd_left (a := ((Int.gcd f.a g.a : Nat) : Int)) (b := (f.b + g.b) / 2)
  have r := Int.gcd_dvd_right (a := ((Int.gcd f.a g.a : Nat) : Int)) (b := (f.b + g.b) / 2)
  have d1 := Int.dvd_trans l (Int.gcd_dvd_left (a := f.a) (b := g.a))
  have d2 := Int.dvd_trans l (Int.gcd_dvd_right (a := f.a) (b := g.a))
  have e0 : (0 : Int) < (Int.gcd ((Int.gcd f.a g.a : Nat) : Int) ((f.b + g.b) / 2) : Nat) := by
    rcases Nat.eq_zero_or_pos (Int.gcd ((Int.gcd f.a g.a : Nat) : Int) ((f.b + g.b) / 2)) with h | h
    · rw [h] at d1
      have := Int.zero_dvd.1 d1
      have := hf.pos.1
      omega
    · omega
  have hA : ((Int.gcd ((Int.gcd f.a g.a : Nat) : Int) ((f.b + g.b) / 2) : Nat) : Int) * (Int.gcd ((Int.gcd f.a g.a : Nat) : Int) ((f.b + g.b) / 2) : Nat) * (f.a * g.a / (((Int.gcd ((Int.gcd f.a g.a : Nat) : Int) ((f.b + g.b) / 2) : Nat) : Int) * (Int.gcd ((Int.gcd f.a g.a : Nat) : Int) ((f.b + g.b) / 2) : Nat))) = f.a * g.a :=
    Int.mul_ediv_cancel' (Int.mul_dvd_mul d1 d2)
  unfold cmpF
  simp only
  rw [hf.disc]
  exact isC_bez hf hg e0 d1 d2 r e1 e2 hA rfl rfl
/-- whatever is a composition has the product as its reduced form -/
theorem isC_mlt {f g h : Fm} (hf : Cl D f) (hg : Cl D g) (c : IsC D f g h) : h.rd = mlt f g := isC_uniq hf hg hf hg rfl rfl c (cmp_isC hf hg)
theorem mlt_cl {f g : Fm} (hf : Cl D f) (hg : Cl D g) : Cl D (mlt f g) := (cmp_isC hf hg).1.rd
theorem mlt_Rd {f g : Fm} (hf : Cl D f) (hg : Cl D g) : Rd (mlt f g) := (cmp_isC hf hg).1.rd_Rd
theorem mlt_rd {f g : Fm} (hf : Cl D f) (hg : Cl D g) : (mlt f g).rd = mlt f g := (cmp_isC hf hg).1.rd_rd
theorem mlt_comm {f g : Fm} (hf : Cl D f) (hg : Cl D g) : mlt f g = mlt g f := isC_mlt hg hf (isC_comm (cmp_isC hf hg))
theorem mlt_class {f g f' g' : Fm} (hf : Cl D f) (hg : Cl D g) (hf' : Cl D f') (hg' : Cl D g') (ef : f.rd = f'.rd) (eg : g.rd = g'.rd) : mlt f g = mlt f' g' :=
  isC_uniq hf hg hf' hg' ef eg (cmp_isC hf hg) (cmp_isC hf' hg')
theorem mlt_assoc {f g k : Fm} (hf : Cl D f) (hg : Cl D g) (hk : Cl D k) : mlt (mlt f g) k = mlt f (mlt g k) := by
  have c1 := cmp_isC hf hg
  have c3 := cmp_isC hg hk
  have c2 := cmp_isC c1.1 hk
  have c4 := cmp_isC hf c3.1
  have h1 : mlt (mlt f g) k = mlt (cmpF f g) k := mlt_class c1.1.rd hk c1.1 hk c1.1.rd_rd rfl
  have h2 : mlt f (mlt g k) = mlt f (cmpF g k) := mlt_class hf c3.1.rd hf c3.1 rfl c3.1.rd_rd
  rw [h1, h2]
  exact isC_assoc c1 c2 c3 c4
/-- the principal form, and the mirrored one -/
def prP (D : Int) : Fm := ⟨1, D % 4, -(D / 4)⟩
theorem prP_cl {f : Fm} (hf : Cl D f) : Cl D (prP D) := by
  have hneg : D < 0 := by have h : dsc f.a f.b f.c < 0 := hf.pos.2; rw [hf.disc] at h; exact h
  obtain ⟨h1, h2⟩ := disc_par hf.disc
  have h4 : D % 4 = D % 2 := by
    unfold sD dD at h2
    rcases (show D % 2 = 0 ∨ D % 2 = 1 by omega) with e | e <;> rw [e] at h2 ⊢ <;> omega
  have hd : dsc 1 (D % 4) (-(D / 4)) = D := by
    unfold dsc
    rcases (show D % 4 = 0 ∨ D % 4 = 1 by omega) with e | e <;> rw [e] <;> omega
  refine ⟨⟨by show (0 : Int) < 1; decide, by show dsc 1 (D % 4) (-(D / 4)) < 0; rw [hd]; exact hneg⟩, ?_, hd⟩
  refine prim_ofN (fun g h _ _ => ?_)
  have h' : (g : Int) ∣ 1 := h
  have := Int.le_of_dvd (by decide) h'
  rcases (show g = 0 ∨ g = 1 by omega) with e | e
  · subst e
    have := Int.zero_dvd.1 h'
    omega
  · exact e
theorem prP_Rd {f : Fm} (hf : Cl D f) : Rd (prP D) := by
  have c := prP_cl hf
  have hneg : D < 0 := by have h : dsc f.a f.b f.c < 0 := hf.pos.2; rw [hf.disc] at h; exact h
  have h4 : D % 4 = 0 ∨ D % 4 = 1 := by
    have := c.disc
    unfold prP dsc at this
    simp only at this
    have h0 := Int.emod_nonneg D (show (4 : Int) ≠ 0 by omega)
    have h1 := Int.emod_lt_of_pos D (show (0 : Int) < 4 by omega)
    rcases (show D % 4 = 0 ∨ D % 4 = 1 ∨ D % 4 = 2 ∨ D % 4 = 3 by omega) with e | e | e | e <;> rw [e] at this <;> omega
  unfold prP
  rcases h4 with e | e
  · rw [e]; exact ⟨by show (0 : Int) < 1; decide, by show (((0 : Int).natAbs : Nat) : Int) ≤ 1; decide, by show 1 ≤ -(D / 4); omega, .inr (by show (0 : Int) ≤ 0; decide)⟩
  · rw [e]; exact ⟨by show (0 : Int) < 1; decide, by show (((1 : Int).natAbs : Nat) : Int) ≤ 1; decide, by show 1 ≤ -(D / 4); omega, .inr (by show (0 : Int) ≤ 1; decide)⟩
theorem rd_of_Rd {f : Fm} (h : Rd f) (hp : f.pos) : f.rd = f := by
  obtain ⟨m, h1, h2⟩ := rd_via hp
  have hr : Rd f.rd := Rd.rdF hp
  rw [h2] at hr ⊢
  exact red_uniq h h1 hr
theorem isC_one {f : Fm} (hf : Cl D f) : IsC D f (prP D) f := by
  have hp := prP_cl hf
  have hfk : FK (sD D) (dD D) f (kk (sD D) f) := hf.fo
  have hpk : FK (sD D) (dD D) (prP D) (kk (sD D) (prP D)) := hp.fo
  have hk2 : kk (sD D) (prP D) = 0 := by
    have h4 : (prP D).b = D % 4 := rfl
    have := hpk.b
    rw [h4] at this
    have h2 := (disc_par hf.disc).2
    unfold sD dD at *
    rcases (show D % 2 = 0 ∨ D % 2 = 1 by omega) with e | e <;> rw [e] at h2 this ⊢ <;> omega
  have cd : CD f (prP D) (sD D) (dD D) (kk (sD D) f) (kk (sD D) (prP D)) 1 0 1 0 f.a 1 (kk (sD D) f + sD D) (dD D) (kk (sD D) f) f.a := by
    rw [hk2]
    refine ⟨by omega, rfl, by omega, by show 0 * f.a + 1 * 1 + 0 * _ = (1 : Int); omega, by decide, by omega, by show 1 * _ = 0 * f.a * 0 + 1 * 1 * _ + 0 * _; omega, by omega⟩
  have h1 := isC_of (j := kk (sD D) f) (C := f.c) hf hp cd ⟨0, by omega⟩ (by
    have := hf.disc
    unfold dsc at this
    rw [← hfk.b]; exact this)
  rw [← hfk.b] at h1
  exact h1
theorem mlt_one {f : Fm} (hf : Cl D f) : mlt f (prP D) = f.rd := (isC_mlt hf (prP_cl hf) (isC_one hf)).symm
theorem mi_cl {f : Fm} (hf : Cl D f) : Cl D f.mi := by
  refine ⟨mi_pos hf.pos, ?_, ?_⟩
  · have := hf.prim
    unfold AM.prim at this ⊢
    show decide (Int.gcd f.a (Int.gcd (-f.b) f.c : Int) = 1) = true
    rw [Int.neg_gcd]; exact this
  · show dsc f.a (-f.b) f.c = D
    rw [dsc_neg]; exact hf.disc
end
end Go.AM
end

section
/- The symbol by counting signs: multiplicative, reciprocal. -/
namespace Go.AM
open Go Go.RowKit
/-- 1 .. n/2 -/
def rg (n : Int) : List Int := (List.range (n / 2).toNat).map fun (i : Nat) => (i : Int) + 1
section
variable {n : Int}
/-- numbers without a common divisor with n -/
def Cop (a n : Int) : Prop := Int.gcd a n = 1
instance Cop.dec (a n : Int) : Decidable (Cop a n) := inferInstanceAs (Decidable (Int.gcd a n = 1))
end
end Go.AM
end

section
/- The symbol by counting signs: 2, -1, reciprocity. -/
namespace Go.AM
open Go Go.RowKit
section
variable {n : Int}
end
end Go.AM
end

section
/- Values of a form that have no common divisor with a number. -/
namespace Go.AM
open Go Go.RowKit
def Pr (p : Nat) : Prop := 2 ≤ p ∧ ∀ x y : Nat, p ∣ x * y → p ∣ x ∨ p ∣ y
theorem has_pr : ∀ (B n : Nat), n ≤ B → 2 ≤ n → ∃ p, Pr p ∧ p ∣ n
  | 0, n, h, h2 => by omega
  | B + 1, n, h, h2 => by
    by_cases hd : ∃ d, 2 ≤ d ∧ d < n ∧ d ∣ n
    · obtain ⟨d, d2, dn, hdn⟩ := hd
      obtain ⟨p, hp, hpd⟩ := has_pr B d (by omega) d2
      exact ⟨p, hp, Nat.dvd_trans hpd hdn⟩
    · refine ⟨n, ⟨h2, fun x y hxy => ?_⟩, Nat.dvd_refl n⟩
      have hg := Nat.gcd_dvd_left n x
      have hle := Nat.le_of_dvd (by omega) hg
      have h0 : Nat.gcd n x ≠ 0 := fun e => by rw [e] at hg; have := Nat.eq_zero_of_zero_dvd hg; omega
      rcases (show Nat.gcd n x = 1 ∨ Nat.gcd n x = n ∨ (2 ≤ Nat.gcd n x ∧ Nat.gcd n x < n) by omega) with e | e | e
      · exact .inr (Nat.Coprime.dvd_of_dvd_mul_left e hxy)
      · left; rw [← e]; exact Nat.gcd_dvd_right n x
      · exact absurd ⟨_, e.1, e.2, hg⟩ hd
theorem pr_cop {p n : Nat} (hp : Pr p) (h : ¬ p ∣ n) : Nat.Coprime n p := by
  have hg := Nat.gcd_dvd_right n p
  obtain ⟨q, hq⟩ := hg
  rcases hp.2 (Nat.gcd n p) q ⟨1, by rw [← hq]; omega⟩ with g | g
  · exact absurd (Nat.dvd_trans g (Nat.gcd_dvd_left n p)) h
  · obtain ⟨w, hw⟩ := g
    have h1 : p * 1 = p * (Nat.gcd n p * w) := by
      have : Nat.gcd n p * q = p * (Nat.gcd n p * w) := by rw [hw]; grind
      omega
    have h2 := Nat.eq_of_mul_eq_mul_left (show 0 < p by have := hp.1; omega) h1
    exact Nat.eq_one_of_mul_eq_one_right h2.symm
/-- a number is a power of a prime times a number without it -/
theorem split_pr {p : Nat} (hp : Pr p) : ∀ (B a : Nat), a ≤ B → 1 ≤ a → ∃ k m, a = p ^ k * m ∧ ¬ p ∣ m ∧ 1 ≤ m ∧ (p ∣ a → p * m ≤ a)
  | 0, a, h, h1 => by omega
  | B + 1, a, h, h1 => by
    by_cases hd : p ∣ a
    · obtain ⟨b, rfl⟩ := hd
      have hb : 1 ≤ b := by
        rcases Nat.eq_zero_or_pos b with e | e
        · subst e; simp at h1
        · exact e
      have h2 : 2 * b ≤ p * b := Nat.mul_le_mul_right b hp.1
      obtain ⟨k, m, e, hm, m1, _⟩ := split_pr hp B b (by omega) hb
      refine ⟨k + 1, m, by rw [e, Nat.pow_succ]; grind, hm, m1, fun _ => Nat.mul_le_mul_left p ?_⟩
      rw [e]
      have : 1 ≤ p ^ k := Nat.pow_pos (by have := hp.1; omega)
      have : 1 * m ≤ p ^ k * m := Nat.mul_le_mul_right m this
      omega
    · exact ⟨0, a, by simp, hd, h1, fun x => absurd x hd⟩
section
variable {A B C : Int}
/-- some point of nine has a value without the prime -/
theorem grid {p : Nat} (hp : Pr p) (pf : prim A B C = true) {m : Nat} (hm : ¬ p ∣ m) (x y : Int) : ∃ i j : Nat, i ≤ 2 ∧ j ≤ 2 ∧ ¬ (p : Int) ∣ vl A B C (x + m * i) (y + m * j) := by
  by_cases h : ∃ i j : Nat, i ≤ 2 ∧ j ≤ 2 ∧ ¬ (p : Int) ∣ vl A B C (x + m * i) (y + m * j)
  · exact h
  · exfalso
    have all : ∀ i j : Nat, i ≤ 2 → j ≤ 2 → (p : Int) ∣ vl A B C (x + m * i) (y + m * j) := fun i j hi hj => by
      by_cases g : (p : Int) ∣ vl A B C (x + m * i) (y + m * j)
      · exact g
      · exact absurd ⟨i, j, hi, hj, g⟩ h
    have eu : ∀ u v : Int, (p : Int) ∣ u * v → (p : Int) ∣ u ∨ (p : Int) ∣ v := fun u v h => by
      have h1 := Int.natAbs_dvd_natAbs.2 h
      rw [Int.natAbs_mul, Int.natAbs_natCast] at h1
      rcases hp.2 _ _ h1 with g | g
      · exact .inl (Int.ofNat_dvd_left.2 g)
      · exact .inr (Int.ofNat_dvd_left.2 g)
    have nm : ¬ (p : Int) ∣ (m : Int) := fun h => hm (Int.natCast_dvd_natCast.1 h)
    have a00 := all 0 0 (by omega) (by omega)
    have a10 := all 1 0 (by omega) (by omega)
    have a20 := all 2 0 (by omega) (by omega)
    have a01 := all 0 1 (by omega) (by omega)
    have a02 := all 0 2 (by omega) (by omega)
    have a11 := all 1 1 (by omega) (by omega)
    have a21 := all 2 1 (by omega) (by omega)
    have a12 := all 1 2 (by omega) (by omega)
    have hB : (p : Int) ∣ B := by
      have h1 := Int.dvd_add (Int.dvd_sub (Int.dvd_sub a11 a10) a01) a00
      have e : vl A B C (x + m * (1 : Nat)) (y + m * (1 : Nat)) - vl A B C (x + m * (1 : Nat)) (y + m * (0 : Nat)) - vl A B C (x + m * (0 : Nat)) (y + m * (1 : Nat)) + vl A B C (x + m * (0 : Nat)) (y + m * (0 : Nat)) = B * (m * m) := by
        unfold vl; simp; grind
      rw [e] at h1
      rcases eu _ _ h1 with g | g
      · exact g
      · rcases eu _ _ g with g | g <;> exact absurd g nm
    have d1 : ∀ i j : Nat, i ≤ 1 → j ≤ 2 → (p : Int) ∣ A * (2 * (x + m * i) + m) := fun i j hi hj => by
      have h1 := Int.dvd_sub (all (i + 1) 0 (by omega) (by omega)) (all i 0 (by omega) (by omega))
      have e : vl A B C (x + m * ((i + 1 : Nat) : Int)) (y + m * (0 : Nat)) - vl A B C (x + m * (i : Int)) (y + m * (0 : Nat)) = m * (A * (2 * (x + m * i) + m)) + B * (m * y) := by
        unfold vl; simp; grind
      rw [e] at h1
      have h2 := Int.dvd_sub h1 (dvdl hB (m * y))
      rw [Int.add_sub_cancel] at h2
      rcases eu _ _ h2 with g | g
      · exact absurd g nm
      · exact g
    have d2 : ∀ j : Nat, j ≤ 1 → (p : Int) ∣ C * (2 * (y + m * j) + m) := fun j hj => by
      have h1 := Int.dvd_sub (all 0 (j + 1) (by omega) (by omega)) (all 0 j (by omega) (by omega))
      have e : vl A B C (x + m * (0 : Nat)) (y + m * ((j + 1 : Nat) : Int)) - vl A B C (x + m * (0 : Nat)) (y + m * (j : Int)) = m * (C * (2 * (y + m * j) + m)) + B * (m * x) := by
        unfold vl; simp; grind
      rw [e] at h1
      have h2 := Int.dvd_sub h1 (dvdl hB (m * x))
      rw [Int.add_sub_cancel] at h2
      rcases eu _ _ h2 with g | g
      · exact absurd g nm
      · exact g
    have fin : ∀ (T z : Int), (p : Int) ∣ T * (2 * (z + m * (0 : Nat)) + m) → (p : Int) ∣ T * (2 * (z + m * (1 : Nat)) + m) → (p : Int) ∣ T := fun T z h0 h1 => by
      by_cases hT : (p : Int) ∣ T
      · exact hT
      · exfalso
        have g0 := (eu _ _ h0).resolve_left hT
        have g1 := (eu _ _ h1).resolve_left hT
        have g2 := Int.dvd_sub g1 g0
        have e : 2 * (z + m * ((1 : Nat) : Int)) + m - (2 * (z + m * ((0 : Nat) : Int)) + m) = 2 * (m : Int) := by simp; omega
        rw [e] at g2
        have p2 := (eu _ _ g2).resolve_right nm
        have g3 := Int.dvd_sub g0 (dvdl p2 (z + m * (0 : Nat)))
        have e2 : 2 * (z + m * ((0 : Nat) : Int)) + m - 2 * (z + m * ((0 : Nat) : Int)) = (m : Int) := by omega
        rw [e2] at g3
        exact nm g3
    have hA := fin A x (d1 0 0 (by omega) (by omega)) (d1 1 0 (by omega) (by omega))
    have hC := fin C y (d2 0 (by omega)) (d2 1 (by omega))
    have h := Int.dvd_coe_gcd hA (Int.dvd_coe_gcd hB hC)
    unfold prim at pf
    rw [of_decide_eq_true pf] at h
    have := Int.le_of_dvd (by omega) h
    have := hp.1
    omega
theorem vl_congr {m : Int} (x y i j : Int) : m ∣ vl A B C (x + m * i) (y + m * j) - vl A B C x y :=
  ⟨A * (2 * x * i + m * i * i) + B * (x * j + i * y + m * i * j) + C * (2 * y * j + m * j * j), by unfold vl; grind⟩
theorem cop_step {p : Nat} (hp : Pr p) (pf : prim A B C = true) {a : Nat} (h1 : 1 ≤ a) (hpa : p ∣ a) (ih : ∀ m, 1 ≤ m → m < a → ∃ x y : Nat, Nat.Coprime (vl A B C x y).natAbs m ∧ x + y ≤ 4 * m) :
    ∃ x y : Nat, Nat.Coprime (vl A B C x y).natAbs a ∧ p * (x + y) ≤ 8 * a := by
  obtain ⟨k, m, e, hm, m1, hle⟩ := split_pr hp a a (Nat.le_refl a) h1
  have hle := hle hpa
  have hp2 := hp.1
  have hlt : m < a := by
    have : 2 * m ≤ p * m := Nat.mul_le_mul_right m hp2
    omega
  obtain ⟨x, y, hc, hb⟩ := ih m m1 hlt
  obtain ⟨i, j, hi, hj, hv⟩ := grid hp pf hm (x : Int) (y : Int)
  have mi : m * i ≤ m * 2 := Nat.mul_le_mul_left m hi
  have mj : m * j ≤ m * 2 := Nat.mul_le_mul_left m hj
  refine ⟨x + m * i, y + m * j, ?_, ?_⟩
  · have ex : ((x + m * i : Nat) : Int) = (x : Int) + m * i := by rw [Int.natCast_add, Int.natCast_mul]
    have ey : ((y + m * j : Nat) : Int) = (y : Int) + m * j := by rw [Int.natCast_add, Int.natCast_mul]
    rw [ex, ey]
    have c1 : Nat.Coprime (vl A B C ((x : Int) + m * i) (y + m * j)).natAbs m := by
      have hg := vl_congr (A := A) (B := B) (C := C) (m := (m : Int)) (x : Int) (y : Int) i j
      generalize vl A B C ((x : Int) + m * i) (y + m * j) = V at *
      generalize vl A B C (x : Int) (y : Int) = W at *
      have d1 := Nat.gcd_dvd_left V.natAbs m
      have d2 := Nat.gcd_dvd_right V.natAbs m
      have d3 : ((Nat.gcd V.natAbs m : Nat) : Int) ∣ W := by
        have e1 : ((Nat.gcd V.natAbs m : Nat) : Int) ∣ V := Int.ofNat_dvd_left.2 d1
        have e2 : ((Nat.gcd V.natAbs m : Nat) : Int) ∣ (m : Int) := Int.natCast_dvd_natCast.2 d2
        have e3 := Int.dvd_sub e1 (Int.dvd_trans e2 hg)
        have : V - (V - W) = W := by omega
        rwa [this] at e3
      have d4 := Nat.dvd_gcd (Int.ofNat_dvd_left.1 d3) d2
      unfold Nat.Coprime at hc ⊢
      rw [hc] at d4
      exact Nat.eq_one_of_dvd_one d4
    have c2 : Nat.Coprime (vl A B C ((x : Int) + m * i) (y + m * j)).natAbs p := pr_cop hp (fun h => hv (Int.ofNat_dvd_left.2 h))
    rw [e]
    exact Nat.Coprime.mul_right (Nat.Coprime.pow_right k c2) c1
  · have : p * (x + m * i + (y + m * j)) ≤ p * (8 * m) := Nat.mul_le_mul_left p (by omega)
    have e2 : p * (8 * m) = 8 * (p * m) := Nat.mul_left_comm ..
    omega
theorem cop_any (pf : prim A B C = true) : ∀ (n a : Nat), a ≤ n → 1 ≤ a → ∃ x y : Nat, Nat.Coprime (vl A B C x y).natAbs a ∧ x + y ≤ 4 * a
  | 0, a, h, h1 => by omega
  | n + 1, a, h, h1 => by
    by_cases h2 : a = 1
    · subst h2
      exact ⟨0, 0, Nat.coprime_one_right _, by omega⟩
    · obtain ⟨p, hp, hpa⟩ := has_pr a a (Nat.le_refl a) (by omega)
      obtain ⟨x, y, hc, hb⟩ := cop_step hp pf h1 hpa (fun m m1 hm => cop_any pf n m (by omega) m1)
      refine ⟨x, y, hc, ?_⟩
      have : 2 * (x + y) ≤ p * (x + y) := Nat.mul_le_mul_right _ hp.1
      omega
theorem pr_small {q : Nat} (hq : Pr q) (h : q ≤ 16) : q ∣ 30030 := by
  have h2 := hq.1
  rcases (show q = 2 ∨ q = 3 ∨ q = 4 ∨ q = 5 ∨ q = 6 ∨ q = 7 ∨ q = 8 ∨ q = 9 ∨ q = 10 ∨ q = 11 ∨ q = 12 ∨ q = 13 ∨ q = 14 ∨ q = 15 ∨ q = 16 by omega) with rfl | rfl | rfl | rfl | rfl | rfl | rfl | rfl | rfl | rfl | rfl | rfl | rfl | rfl | rfl
  · decide
  · decide
  · rcases hq.2 2 2 (by decide) with g | g <;> revert g <;> decide
  · decide
  · rcases hq.2 2 3 (by decide) with g | g <;> revert g <;> decide
  · decide
  · rcases hq.2 2 4 (by decide) with g | g <;> revert g <;> decide
  · rcases hq.2 3 3 (by decide) with g | g <;> revert g <;> decide
  · rcases hq.2 2 5 (by decide) with g | g <;> revert g <;> decide
  · decide
  · rcases hq.2 3 4 (by decide) with g | g <;> revert g <;> decide
  · decide
  · rcases hq.2 2 7 (by decide) with g | g <;> revert g <;> decide
  · rcases hq.2 3 5 (by decide) with g | g <;> revert g <;> decide
  · rcases hq.2 4 4 (by decide) with g | g <;> revert g <;> decide
theorem not_cop {u v : Nat} (hv : 1 ≤ v) (h : ¬ Nat.Coprime u v) : ∃ q, Pr q ∧ q ∣ u ∧ q ∣ v := by
  have h0 : Nat.gcd u v ≠ 0 := fun e => by
    have hg := Nat.gcd_dvd_right u v
    rw [e] at hg
    have := Nat.eq_zero_of_zero_dvd hg
    omega
  obtain ⟨q, hq, hd⟩ := has_pr (Nat.gcd u v) (Nat.gcd u v) (Nat.le_refl _) (by unfold Nat.Coprime at h; omega)
  exact ⟨q, hq, Nat.dvd_trans hd (Nat.gcd_dvd_left u v), Nat.dvd_trans hd (Nat.gcd_dvd_right u v)⟩
/-- the search ends within the numbers of 63 bits -/
theorem cop_64 (pf : prim A B C = true) {a : Nat} (h1 : 1 ≤ a) (h2 : a < 18446744073709551616) : ∃ x y : Nat, Nat.Coprime (vl A B C x y).natAbs a ∧ x + y ≤ 9000000000000000000 := by
  by_cases h : ∃ p, Pr p ∧ p ∣ a ∧ 17 ≤ p
  · obtain ⟨p, hp, hpa, h17⟩ := h
    obtain ⟨x, y, hc, hb⟩ := cop_step hp pf h1 hpa (fun m m1 _ => cop_any pf m m (Nat.le_refl m) m1)
    refine ⟨x, y, hc, ?_⟩
    have : 17 * (x + y) ≤ p * (x + y) := Nat.mul_le_mul_right _ h17
    omega
  · obtain ⟨x, y, hc, hb⟩ := cop_any pf 30030 30030 (by omega) (by omega)
    refine ⟨x, y, ?_, by omega⟩
    by_cases g : Nat.Coprime (vl A B C x y).natAbs a
    · exact g
    · exfalso
      obtain ⟨q, hq, d1, d2⟩ := not_cop h1 g
      have h16 : q ≤ 16 := by
        rcases Nat.lt_or_ge 16 q with g | g
        · exact absurd ⟨q, hq, d2, g⟩ h
        · exact g
      have d3 := Nat.dvd_gcd d1 (pr_small hq h16)
      rw [hc] at d3
      have := Nat.le_of_dvd (by omega) d3
      have := hq.1
      omega
theorem vl_scale (g x y : Int) : vl A B C (g * x) (g * y) = g * g * vl A B C x y := by unfold vl; grind
theorem cop_prim (pf : prim A B C = true) {a : Nat} (h1 : 1 ≤ a) (h2 : a < 18446744073709551616) : ∃ x y : Nat, Nat.gcd x y = 1 ∧ Nat.Coprime (vl A B C x y).natAbs a ∧ 1 ≤ x + y ∧ x + y ≤ 9000000000000000000 := by
  obtain ⟨x, y, hc, hb⟩ := cop_64 pf h1 h2
  by_cases h0 : x = 0 ∧ y = 0
  · obtain ⟨rfl, rfl⟩ := h0
    have e : vl A B C ((0 : Nat) : Int) ((0 : Nat) : Int) = 0 := by unfold vl; simp
    rw [e] at hc
    have ha : a = 1 := by unfold Nat.Coprime at hc; simpa using hc
    subst ha
    exact ⟨1, 0, rfl, Nat.coprime_one_right _, by omega, by omega⟩
  · obtain ⟨u, hu⟩ := Nat.gcd_dvd_left x y
    obtain ⟨v, hv⟩ := Nat.gcd_dvd_right x y
    have hg : 0 < Nat.gcd x y := by
      rcases Nat.eq_zero_or_pos (Nat.gcd x y) with e | e
      · have := Nat.eq_zero_of_gcd_eq_zero_left e
        have := Nat.eq_zero_of_gcd_eq_zero_right e
        omega
      · exact e
    have hcop : Nat.gcd u v = 1 := by
      have : Nat.gcd x y * Nat.gcd u v = Nat.gcd x y * 1 := by
        rw [← Nat.gcd_mul_left, ← hu, ← hv, Nat.mul_one]
      exact Nat.eq_of_mul_eq_mul_left hg this
    generalize Nat.gcd x y = g at *
    have l1 : 1 * u ≤ g * u := Nat.mul_le_mul_right u hg
    have l2 : 1 * v ≤ g * v := Nat.mul_le_mul_right v hg
    refine ⟨u, v, hcop, ?_, ?_, by omega⟩
    · subst hu hv
      rw [Int.natCast_mul, Int.natCast_mul, vl_scale, Int.natAbs_mul] at hc
      exact Nat.Coprime.coprime_mul_left hc
    · rcases Nat.eq_zero_or_pos (u + v) with e | e
      · have : u = 0 := by omega
        have : v = 0 := by omega
        subst u v
        simp at hcop
      · exact e
end
end Go.AM
end

section
/- Bezout's numbers, as the program and the reference find them. -/
namespace Go.AM
open Go Go.RowKit
def bzU (a b : Int) : Int := if b = 0 then sgn a else (xg b.natAbs a b).1 % (b / (Int.gcd a b : Nat))
def bzV (a b : Int) : Int := if b = 0 then 0 else ((Int.gcd a b : Nat) - bzU a b * a) / b
theorem gcd_pos' {a b : Int} (hb : b ≠ 0) : (0 : Int) < (Int.gcd a b : Nat) := by
  have h := Int.gcd_dvd_right (a := a) (b := b)
  rcases Nat.eq_zero_or_pos (Int.gcd a b) with e | e
  · rw [e] at h
    exact absurd (Int.zero_dvd.1 h) hb
  · omega
theorem bz_uniq {a b u v : Int} (hb : b ≠ 0) (h1 : b ∣ u * a - (Int.gcd a b : Nat)) (h2 : b ∣ v * a - (Int.gcd a b : Nat)) : u % (b / (Int.gcd a b : Nat)) = v % (b / (Int.gcd a b : Nat)) := by
  have g0 := gcd_pos' (a := a) hb
  obtain ⟨x, hx⟩ := Int.gcd_dvd_left (a := a) (b := b)
  obtain ⟨y, hy⟩ := Int.gcd_dvd_right (a := a) (b := b)
  have hxy : Int.gcd x y = 1 := by
    have h := Int.gcd_mul_left (Int.gcd a b : Nat) x y
    rw [← hx, ← hy, Int.natAbs_natCast] at h
    exact (Nat.eq_of_mul_eq_mul_left (show 0 < Int.gcd a b by omega) (by omega)).symm
  have hq : b / ((Int.gcd a b : Nat) : Int) = y := by
    have : b = ((Int.gcd a b : Nat) : Int) * y := hy
    generalize ((Int.gcd a b : Nat) : Int) = g at *
    rw [this, Int.mul_ediv_cancel_left _ (by omega)]
  rw [hq]
  have h3 := Int.dvd_sub h1 h2
  have e : u * a - (Int.gcd a b : Nat) - (v * a - (Int.gcd a b : Nat)) = (u - v) * a := by grind
  rw [e] at h3
  obtain ⟨k, hk⟩ := h3
  have h4 : y ∣ (u - v) * x := by
    refine ⟨k, ?_⟩
    have e1 : ((Int.gcd a b : Nat) : Int) * ((u - v) * x) = ((Int.gcd a b : Nat) : Int) * (y * k) := by
      have l : ((Int.gcd a b : Nat) : Int) * ((u - v) * x) = (u - v) * (((Int.gcd a b : Nat) : Int) * x) := by grind
      rw [l, ← hx, hk]
      rw [← Int.mul_assoc, ← hy]
    exact Int.eq_of_mul_eq_mul_left (by omega) e1
  have h5 : y ∣ u - v := by
    have h6 := Int.natAbs_dvd_natAbs.2 h4
    rw [Int.natAbs_mul] at h6
    have hc : Nat.Coprime y.natAbs x.natAbs := by
      unfold Nat.Coprime
      rw [Nat.gcd_comm]; exact hxy
    exact Int.natAbs_dvd_natAbs.1 (Nat.Coprime.dvd_of_dvd_mul_right hc h6)
  exact (Int.emod_eq_emod_iff_emod_sub_eq_zero).2 (Int.emod_eq_zero_of_dvd h5)
theorem xg_dvd (a b : Int) : b ∣ (xg b.natAbs a b).1 * a - (Int.gcd a b : Nat) :=
  ⟨-(xg b.natAbs a b).2, by rw [← xg_eq b.natAbs a b (Nat.le_refl _)]; grind⟩
theorem bzU_eq {a b u : Int} (hb : b ≠ 0) (h : b ∣ u * a - (Int.gcd a b : Nat)) : u % (b / (Int.gcd a b : Nat)) = bzU a b := by
  unfold bzU
  rw [if_neg hb]
  exact bz_uniq hb h (xg_dvd a b)
theorem bzU_dvd {a b : Int} (hb : b ≠ 0) : b ∣ bzU a b * a - (Int.gcd a b : Nat) := by
  unfold bzU
  rw [if_neg hb]
  obtain ⟨k, hk⟩ := xg_dvd a b
  generalize (xg b.natAbs a b).1 = u at *
  obtain ⟨x, hx⟩ := Int.gcd_dvd_left (a := a) (b := b)
  obtain ⟨y, hy⟩ := Int.gcd_dvd_right (a := a) (b := b)
  have g0 := gcd_pos' (a := a) hb
  have hq : b / ((Int.gcd a b : Nat) : Int) = y := by
    have : b = ((Int.gcd a b : Nat) : Int) * y := hy
    generalize ((Int.gcd a b : Nat) : Int) = g at *
    rw [this, Int.mul_ediv_cancel_left _ (by omega)]
  rw [hq]
  have e := Int.mul_ediv_add_emod u y
  refine ⟨k - (u / y) * x, ?_⟩
  have e1 : u % y = u - y * (u / y) := by omega
  rw [e1]
  generalize u / y = w at *
  have e2 : y * a = b * x := by
    have l : y * a = ((Int.gcd a b : Nat) : Int) * (y * x) := by
      have : a = ((Int.gcd a b : Nat) : Int) * x := hx
      generalize ((Int.gcd a b : Nat) : Int) = g at *
      rw [this]; grind
    rw [l, ← Int.mul_assoc, ← hy]
  have e3 : (u - y * w) * a - (Int.gcd a b : Nat) = (u * a - (Int.gcd a b : Nat)) - w * (y * a) := by grind
  rw [e3, hk, e2]; grind
theorem bz_eq (a b : Int) : bzU a b * a + bzV a b * b = (Int.gcd a b : Nat) := by
  by_cases hb : b = 0
  · subst hb
    unfold bzU bzV
    rw [if_pos rfl, Int.gcd_zero_right]
    unfold sgn
    split
    · simp; omega
    · split
      · simp; omega
      · simp; omega
  · obtain ⟨k, hk⟩ := bzU_dvd (a := a) hb
    unfold bzV
    rw [if_neg hb]
    have : ((Int.gcd a b : Nat) : Int) - bzU a b * a = b * -k := by rw [Int.mul_neg, ← hk]; omega
    rw [this, Int.mul_ediv_cancel_left _ hb]
    rw [Int.mul_neg] at this
    grind
theorem bzU_b {a b : Int} (hb : b ≠ 0) : 0 ≤ bzU a b ∧ bzU a b ≤ b.natAbs := by
  unfold bzU
  rw [if_neg hb]
  obtain ⟨y, hy⟩ := Int.gcd_dvd_right (a := a) (b := b)
  have g0 := gcd_pos' (a := a) hb
  have hq : b / ((Int.gcd a b : Nat) : Int) = y := by
    have : b = ((Int.gcd a b : Nat) : Int) * y := hy
    generalize ((Int.gcd a b : Nat) : Int) = g at *
    rw [this, Int.mul_ediv_cancel_left _ (by omega)]
  rw [hq]
  have hy0 : y ≠ 0 := fun e => by rw [e, Int.mul_zero] at hy; exact hb hy
  have h1 := Int.emod_nonneg ((xg b.natAbs a b).1) hy0
  have h2 := Int.emod_lt ((xg b.natAbs a b).1) hy0
  have h3 : y.natAbs ≤ b.natAbs := by
    have := congrArg Int.natAbs hy
    rw [Int.natAbs_mul, Int.natAbs_natCast] at this
    have h4 : 1 * y.natAbs ≤ Int.gcd a b * y.natAbs := Nat.mul_le_mul_right _ (by omega)
    omega
  omega
/-- the rounds: g and x are the numbers, u and v their multipliers of a, modulo b -/
structure BzI (a b g x u v : Int) : Prop where
  g0 : 0 < g
  x0 : 0 ≤ x
  gb : g ≤ b.natAbs
  xb : x ≤ b.natAbs
  cu : b ∣ u * a - g
  cv : b ∣ v * a - x
  gc : Int.gcd g x = Int.gcd a b
  sg : (u ≤ 0 ∧ 0 ≤ v) ∨ (0 ≤ u ∧ v ≤ 0)
  id : (u.natAbs : Int) * x + (v.natAbs : Int) * g = b.natAbs
  ub : (u.natAbs : Int) ≤ b.natAbs
theorem BzI.vb {a b g x u v : Int} (i : BzI a b g x u v) : (v.natAbs : Int) ≤ b.natAbs := by
  have h := i.id
  have h1 : (v.natAbs : Int) * 1 ≤ (v.natAbs : Int) * g := Int.mul_le_mul_of_nonneg_left i.g0 (by omega)
  have h2 : 0 ≤ (u.natAbs : Int) * x := Int.mul_nonneg (by omega) i.x0
  omega
theorem BzI.start {a b : Int} (hb : b ≠ 0) : BzI a b b.natAbs (a % b) 0 1 := by
  have h1 := Int.emod_nonneg a hb
  have h2 := Int.emod_lt a hb
  have e := Int.mul_ediv_add_emod a b
  refine ⟨by omega, h1, by omega, by omega, ?_, ⟨a / b, by omega⟩, ?_, .inl (by omega), by simp, by simp⟩
  · have : b ∣ (b.natAbs : Int) := Int.dvd_natAbs.2 (Int.dvd_refl b)
    obtain ⟨k, hk⟩ := this
    exact ⟨-k, by rw [Int.mul_neg, ← hk]; omega⟩
  · show Nat.gcd (((b.natAbs : Nat) : Int).natAbs) (a % b).natAbs = _
    rw [Int.natAbs_natCast]
    exact gcd_step a b
theorem BzI.next {a b g x u v : Int} (i : BzI a b g x u v) (hx : x ≠ 0) : BzI a b x (g % x) v (u - g / x * v) ∧ (g % x).natAbs < x.natAbs := by
  have vb := i.vb
  obtain ⟨g0, x0, gb, xb, cu, cv, gc, sg, id, ub⟩ := i
  have h1 := Int.emod_nonneg g hx
  have h2 := Int.emod_lt_of_pos g (show 0 < x by omega)
  have e := Int.mul_ediv_add_emod g x
  have q0 : 0 ≤ g / x := Int.ediv_nonneg (by omega) (by omega)
  refine ⟨⟨by omega, h1, xb, by omega, cv, ?_, ?_, ?_, ?_, vb⟩, by omega⟩
  · obtain ⟨k, hk⟩ := cu
    obtain ⟨l, hl⟩ := cv
    refine ⟨k - g / x * l, ?_⟩
    have e1 : g % x = g - x * (g / x) := by omega
    rw [e1]
    generalize g / x = q at *
    have : (u - q * v) * a - (g - x * q) = (u * a - g) - q * (v * a - x) := by grind
    rw [this, hk, hl]; grind
  · rw [← gc]; exact gcd_step g x
  · have hqv : 0 ≤ g / x * (v.natAbs : Int) := Int.mul_nonneg q0 (by omega)
    rcases sg with ⟨s1, s2⟩ | ⟨s1, s2⟩
    · right
      have : 0 ≤ g / x * v := Int.mul_nonneg q0 s2
      omega
    · left
      have : g / x * v ≤ 0 := Int.mul_nonpos_of_nonneg_of_nonpos q0 s2
      omega
  · have key : ((u - g / x * v).natAbs : Int) = u.natAbs + g / x * (v.natAbs : Int) := by
      rcases sg with ⟨s1, s2⟩ | ⟨s1, s2⟩
      · have h3 : 0 ≤ g / x * v := Int.mul_nonneg q0 s2
        have h4 : (v.natAbs : Int) = v := by omega
        rw [h4]; omega
      · have h3 : g / x * v ≤ 0 := Int.mul_nonpos_of_nonneg_of_nonpos q0 s2
        have h4 : (v.natAbs : Int) = -v := by omega
        rw [h4, Int.mul_neg]; omega
    rw [key, ← id]
    have e1 : g % x = g - x * (g / x) := by omega
    rw [e1]
    generalize g / x = q
    grind
theorem BzI.stop {a b g x u v : Int} (i : BzI a b g x u v) (hb : b ≠ 0) (hx : x = 0) : g = (Int.gcd a b : Nat) ∧ u % (b / g) = bzU a b := by
  have hg : g = (Int.gcd a b : Nat) := by
    have h := i.gc
    rw [hx, Int.gcd_zero_right] at h
    have := i.g0
    omega
  refine ⟨hg, ?_⟩
  have h := i.cu
  rw [hg] at h ⊢
  exact bzU_eq hb h
end Go.AM
end

section
/- Powers of classes; the errors of forms. -/
namespace Go.AM
open Go Go.RowKit
def pw (D : Int) (f : Fm) : Nat → Fm
  | 0 => prP D
  | k + 1 => mlt (pw D f k) f
section
variable {D : Int} {f g : Fm}
theorem prP_rd (hf : Cl D f) : (prP D).rd = prP D := rd_of_Rd (prP_Rd hf) (prP_cl hf).pos
theorem pw_cl (hf : Cl D f) : ∀ k, Cl D (pw D f k) ∧ (pw D f k).rd = pw D f k
  | 0 => ⟨prP_cl hf, prP_rd hf⟩
  | k + 1 => ⟨mlt_cl (pw_cl hf k).1 hf, mlt_rd (pw_cl hf k).1 hf⟩
theorem one_mlt (hf : Cl D f) : mlt (prP D) f = f.rd := by rw [mlt_comm (prP_cl hf) hf, mlt_one hf]
theorem pw_one (hf : Cl D f) : pw D f 1 = f.rd := one_mlt hf
theorem pw_add (hf : Cl D f) (m : Nat) : ∀ n, mlt (pw D f m) (pw D f n) = pw D f (m + n)
  | 0 => by
    have h := pw_cl hf m
    show mlt (pw D f m) (prP D) = _
    rw [mlt_one h.1, h.2]; rfl
  | n + 1 => by
    have h := pw_cl hf m
    have h1 := pw_cl hf n
    show mlt (pw D f m) (mlt (pw D f n) f) = mlt (pw D f (m + n)) f
    rw [← mlt_assoc h.1 h1.1 hf, pw_add hf m n]
/-- powers with any exponent -/
def zpw (D : Int) (f : Fm) (n : Int) : Fm := if n < 0 then pw D f.mi n.natAbs else pw D f n.natAbs
end
def rfE (f : Fm) : Int := if ck f.a f.b f.c ≠ 0 then ck f.a f.b f.c else if 0 < dsc f.a f.b f.c then 5 else if prim f.a f.b f.c = true then 0 else 80
theorem rfE_cl {f : Fm} (h : rfE f = 0) : Cl (dsc f.a f.b f.c) f := by
  unfold rfE at h
  by_cases h1 : ck f.a f.b f.c ≠ 0
  · rw [if_pos h1] at h; exact absurd h h1
  · rw [if_neg h1] at h
    have h1 : ck f.a f.b f.c = 0 := by omega
    by_cases h2 : 0 < dsc f.a f.b f.c
    · rw [if_pos h2] at h; cases h
    · rw [if_neg h2] at h
      by_cases h3 : prim f.a f.b f.c = true
      · have hd := ck_dsc h1
        refine ⟨⟨?_, by show dsc f.a f.b f.c < 0; omega⟩, h3, rfl⟩
        unfold ck at h1
        split at h1
        · cases h1
        · split at h1
          · cases h1
          · omega
      · rw [if_neg h3] at h; cases h
theorem cl_rfE {D : Int} {f : Fm} (h : Cl D f) : rfE f = 0 := by
  unfold rfE
  have h1 : ck f.a f.b f.c = 0 := pos_ck h.pos
  have h2 : dsc f.a f.b f.c < 0 := h.pos.2
  rw [if_neg (by omega), if_neg (by omega), if_pos h.prim]
theorem rfE_1 {f : Fm} (h : (ck f.a f.b f.c == 0) = false) : ck f.a f.b f.c = rfE f := by
  have h1 : ck f.a f.b f.c ≠ 0 := bF h
  unfold rfE; rw [if_pos h1]
theorem rfE_2 {f : Fm} (h : (ck f.a f.b f.c == 0) = true) (h1 : sgn (dsc f.a f.b f.c) > 0) : 5 = rfE f := by
  have h2 : ck f.a f.b f.c = 0 := bT h
  unfold rfE; rw [if_neg (by omega), if_pos (sgn_gt_iff.1 h1)]
theorem rfE_3 {f : Fm} (h : (ck f.a f.b f.c == 0) = true) (h1 : ¬ sgn (dsc f.a f.b f.c) > 0) (h2 : prim f.a f.b f.c = false) : 80 = rfE f := by
  have h3 : ck f.a f.b f.c = 0 := bT h
  unfold rfE; rw [if_neg (by omega), if_neg (fun x => h1 (sgn_gt_iff.2 x)), h2]; rfl
theorem rfE_4 {f : Fm} (h : (ck f.a f.b f.c == 0) = true) (h1 : ¬ sgn (dsc f.a f.b f.c) > 0) (h2 : prim f.a f.b f.c = true) : 0 = rfE f := by
  have h3 : ck f.a f.b f.c = 0 := bT h
  unfold rfE; rw [if_neg (by omega), if_neg (fun x => h1 (sgn_gt_iff.2 x)), if_pos h2]
def cmE (f g : Fm) : Int := if rfE f ≠ 0 then rfE f else if rfE g ≠ 0 then rfE g else if dsc f.a f.b f.c ≠ dsc g.a g.b g.c then 5 else 0
def cmV (f g : Fm) : Fm := if cmE f g = 0 then mlt f g else ⟨0, 0, 0⟩
theorem cmE_cl {f g : Fm} (h : cmE f g = 0) : Cl (dsc f.a f.b f.c) f ∧ Cl (dsc f.a f.b f.c) g := by
  unfold cmE at h
  by_cases h1 : rfE f ≠ 0
  · rw [if_pos h1] at h; exact absurd h h1
  · rw [if_neg h1] at h
    by_cases h2 : rfE g ≠ 0
    · rw [if_pos h2] at h; exact absurd h h2
    · rw [if_neg h2] at h
      by_cases h3 : dsc f.a f.b f.c ≠ dsc g.a g.b g.c
      · rw [if_pos h3] at h; cases h
      · have e : dsc f.a f.b f.c = dsc g.a g.b g.c := by omega
        refine ⟨rfE_cl (by omega), ?_⟩
        rw [e]; exact rfE_cl (by omega)
end Go.AM
end

section
/- The program's product: the search for a coprime value, and the formula. -/
namespace Go.AM
open Go Go.RowKit
/-- the first number from n on, within f rounds -/
def fst1 (P : Nat → Bool) : Nat → Nat → Nat
  | 0, n => n
  | f + 1, n => if P n = true then n else fst1 P f (n + 1)
theorem fst1_ge (P : Nat → Bool) : ∀ f n, n ≤ fst1 P f n
  | 0, n => Nat.le_refl n
  | f + 1, n => by
    unfold fst1
    split
    · omega
    · have := fst1_ge P f (n + 1); omega
theorem fst1_ok {P : Nat → Bool} : ∀ {f n m : Nat}, n ≤ m → m < n + f → P m = true → P (fst1 P f n) = true ∧ fst1 P f n ≤ m
  | 0, n, m, h, h1, _ => by omega
  | f + 1, n, m, h, h1, h2 => by
    unfold fst1
    by_cases g : P n = true
    · rw [if_pos g]; exact ⟨g, h⟩
    · rw [if_neg g]
      have : n ≠ m := fun e => g (by rw [e]; exact h2)
      exact fst1_ok (by omega) (by omega) h2
theorem fst1_yes {P : Nat → Bool} {f n : Nat} (h : P n = true) : fst1 P (f + 1) n = n := by unfold fst1; rw [if_pos h]
theorem fst1_no {P : Nat → Bool} {f n : Nat} (h : P n = false) : fst1 P (f + 1) n = fst1 P f (n + 1) := by
  have : fst1 P (f + 1) n = if P n = true then n else fst1 P f (n + 1) := rfl
  rw [this, if_neg (by rw [h]; decide)]
/-- a good point -/
def cpG (f : Fm) (a : Int) (n x : Nat) : Bool := decide (Int.gcd (x : Int) ((n : Int) - x) = 1) && decide (Int.gcd (vl f.a f.b f.c x ((n : Int) - x)) a = 1)
def cpR (f : Fm) (a : Int) (n : Nat) : Bool := (List.range (n + 1)).any (cpG f a n)
def cpN (f : Fm) (a : Int) : Nat := fst1 (cpR f a) 9100000000000000000 1
def cpX (f : Fm) (a : Int) : Nat := fst1 (cpG f a (cpN f a)) (cpN f a + 1) 0
def cpM (f : Fm) (a : Int) : Mt := ⟨cpX f a, -bzV (cpX f a) ((cpN f a : Int) - cpX f a), (cpN f a : Int) - cpX f a, bzU (cpX f a) ((cpN f a : Int) - cpX f a)⟩
section
variable {f : Fm} {a : Int}
theorem cp_ex (pf : prim f.a f.b f.c = true) (h1 : a ≠ 0) (h2 : a.natAbs < 18446744073709551616) : cpR f a (cpN f a) = true ∧ 1 ≤ cpN f a ∧ cpN f a ≤ 9000000000000000000 := by
  obtain ⟨x, y, hg, hc, hb1, hb2⟩ := cop_prim pf (a := a.natAbs) (by omega) h2
  have hR : cpR f a (x + y) = true := by
    unfold cpR
    rw [List.any_eq_true]
    refine ⟨x, List.mem_range.2 (by omega), ?_⟩
    unfold cpG
    have e : ((x + y : Nat) : Int) - x = (y : Int) := by omega
    rw [e, Bool.and_eq_true, decide_eq_true_iff, decide_eq_true_iff]
    exact ⟨hg, hc⟩
  have := fst1_ok (P := cpR f a) (f := 9100000000000000000) (n := 1) (m := x + y) hb1 (by omega) hR
  have h3 := fst1_ge (cpR f a) 9100000000000000000 1
  unfold cpN
  exact ⟨this.1, h3, by omega⟩
theorem cp_x (h : cpR f a (cpN f a) = true) : cpG f a (cpN f a) (cpX f a) = true ∧ cpX f a ≤ cpN f a := by
  unfold cpR at h
  rw [List.any_eq_true] at h
  obtain ⟨m, hm, hg⟩ := h
  rw [List.mem_range] at hm
  have := fst1_ok (P := cpG f a (cpN f a)) (f := cpN f a + 1) (n := 0) (m := m) (by omega) (by omega) hg
  unfold cpX
  exact ⟨this.1, by omega⟩
theorem cp_det (h : cpR f a (cpN f a) = true) : (cpM f a).det = 1 ∧ Int.gcd (f.app (cpM f a)).a a = 1 := by
  have hx := (cp_x h).1
  unfold cpG at hx
  rw [Bool.and_eq_true, decide_eq_true_iff, decide_eq_true_iff] at hx
  refine ⟨?_, hx.2⟩
  have e := bz_eq (cpX f a : Int) ((cpN f a : Int) - cpX f a)
  rw [hx.1] at e
  unfold cpM Mt.det
  simp only
  rw [Int.neg_mul]
  grind
/-- the outer rounds -/
structure CpI (f : Fm) (a : Int) (n : Nat) : Prop where
  n1 : 1 ≤ n
  nb : n ≤ cpN f a
  go : fst1 (cpR f a) (9100000000000000001 - n) n = cpN f a
theorem CpI.start (h : 1 ≤ cpN f a) : CpI f a 1 := ⟨by omega, h, rfl⟩
theorem CpI.next {n : Nat} (i : CpI f a n) (h2 : cpN f a ≤ 9000000000000000000) (h : ∀ x, x < n + 1 → cpG f a n x = false) : CpI f a (n + 1) := by
  have hR : cpR f a n = false := by
    unfold cpR
    rw [List.any_eq_false]
    intro x hx
    rw [List.mem_range] at hx
    rw [h x hx]; decide
  have hg := i.go
  have hb := i.nb
  have e : 9100000000000000001 - n = (9100000000000000001 - (n + 1)) + 1 := by omega
  rw [e, fst1_no hR] at hg
  refine ⟨by omega, ?_, hg⟩
  have := fst1_ge (cpR f a) (9100000000000000001 - (n + 1)) (n + 1)
  omega
theorem CpI.found {n x : Nat} (i : CpI f a n) (h2 : cpN f a ≤ 9000000000000000000) (hx : x ≤ n) (h0 : ∀ y, y < x → cpG f a n y = false) (h : cpG f a n x = true) : cpN f a = n ∧ cpX f a = x := by
  have hR : cpR f a n = true := by
    unfold cpR
    rw [List.any_eq_true]
    exact ⟨x, List.mem_range.2 (by omega), h⟩
  have hg := i.go
  have hb := i.nb
  have e : 9100000000000000001 - n = (9100000000000000001 - (n + 1)) + 1 := by omega
  rw [e, fst1_yes hR] at hg
  refine ⟨hg.symm, ?_⟩
  have key : ∀ k y, y + k = x → fst1 (cpG f a n) (k + 1 + (n - x)) y = x := fun k => by
    induction k with
    | zero =>
      intro y hy
      have : y = x := by omega
      subst this
      rw [show 0 + 1 + (n - y) = (n - y) + 1 by omega, fst1_yes h]
    | succ k ih =>
      intro y hy
      rw [show k + 1 + 1 + (n - x) = (k + 1 + (n - x)) + 1 by omega, fst1_no (h0 y (by omega))]
      exact ih (y + 1) (by omega)
  unfold cpX
  rw [← hg]
  have := key x 0 (by omega)
  rw [show x + 1 + (n - x) = n + 1 by omega] at this
  exact this
end
/-- the program's formula, for forms with coprime first coefficients -/
theorem prog_isC {D : Int} {f g : Fm} {i h k C : Int} (hf : Cl D f) (hg : Cl D g) (hi : g.a ∣ i * f.a - 1) (hh : 2 * h = g.b - f.b) (hk : g.a ∣ h * i - k)
    (hC : C = ((f.b + 2 * (f.a * k)) * (f.b + 2 * (f.a * k)) - D) / (4 * (f.a * g.a))) : IsC D f g ⟨f.a * g.a, f.b + 2 * (f.a * k), C⟩ := by
  have hfk : FK (sD D) (dD D) f (kk (sD D) f) := hf.fo
  have hgk : FK (sD D) (dD D) g (kk (sD D) g) := hg.fo
  have hD := (disc_par hf.disc).2
  have bf := hfk.b
  have bg := hgk.b
  obtain ⟨y, hy⟩ := hi
  obtain ⟨w, hw⟩ := hk
  have cd : CD f g (sD D) (dD D) (kk (sD D) f) (kk (sD D) g) 1 i (-y) 0 f.a g.a (kk (sD D) f + kk (sD D) g + sD D) (kk (sD D) f * kk (sD D) g + dD D) (kk (sD D) f + i * f.a * (kk (sD D) g - kk (sD D) f)) (f.a * g.a) := by
    refine ⟨by omega, by omega, by omega, ?_, by decide, by omega, ?_, rfl⟩
    · rw [Int.neg_mul, Int.mul_comm y]; omega
    · have : i * f.a = 1 + g.a * y := by omega
      rw [Int.one_mul, this]; grind
  obtain ⟨C', hC'⟩ := cd.form hfk hgk
  have hs : kk (sD D) f + i * f.a * (kk (sD D) g - kk (sD D) f) - (kk (sD D) f + f.a * k) = f.a * g.a * w := by
    have e : kk (sD D) g - kk (sD D) f = h := by omega
    rw [e]
    have : i * f.a * h = f.a * (h * i) := by grind
    rw [this]
    have : h * i = g.a * w + k := by omega
    rw [this]; grind
  have hb : f.b + 2 * (f.a * k) = 2 * (kk (sD D) f + f.a * k) + sD D := by rw [bf]; grind
  have hA0 : f.a * g.a ≠ 0 := by have := Int.mul_pos hf.pos.1 hg.pos.1; omega
  generalize kk (sD D) f + i * f.a * (kk (sD D) g - kk (sD D) f) = kc at *
  generalize hj : kk (sD D) f + f.a * k = j at *
  generalize f.a * g.a = A at *
  have hBD : (2 * j + sD D) * (2 * j + sD D) - D = 4 * A * (C' - w * (2 * kc - A * w + sD D)) := by
    have ej : j = kc - A * w := by omega
    have e1 : 4 * A * (C' - w * (2 * kc - A * w + sD D)) = 4 * (A * C') - 4 * A * (w * (2 * kc - A * w + sD D)) := by grind
    rw [e1, hC', ej]
    generalize sD D = σ at *
    generalize dD D = δ at *
    rw [hD]; grind
  rw [hb] at hC ⊢
  rw [hBD, Int.mul_ediv_cancel_left _ (by omega)] at hC
  subst hC
  refine isC_of hf hg cd (j := j) ⟨w, hs⟩ ?_
  omega
/-- modular inverses -/
theorem inv_dvd {a m : Int} (hm : 0 < m) (h : Int.gcd a m = 1) : m ∣ (bzU (a % m) m % m) * a - 1 := by
  have hg : Int.gcd (a % m) m = 1 := by
    rw [Int.gcd_comm, gcd_step]; exact h
  obtain ⟨k, hk⟩ := bzU_dvd (a := a % m) (b := m) (by omega)
  rw [hg] at hk
  have e1 := Int.mul_ediv_add_emod a m
  have e2 := Int.mul_ediv_add_emod (bzU (a % m) m) m
  generalize bzU (a % m) m = u at *
  generalize a / m = p at *
  generalize a % m = r at *
  generalize u / m = q at *
  generalize u % m = v at *
  refine ⟨k + v * p - q * r, ?_⟩
  have : v = u - m * q := by omega
  subst this
  rw [← e1]
  have hk' : u * r = 1 + m * k := by have hk2 : u * r - 1 = m * k := hk; omega
  grind
theorem per_ne {a b : Int} (hb : b ≠ 0) : b / (Int.gcd a b : Nat) ≠ 0 := by
  obtain ⟨y, hy⟩ := Int.gcd_dvd_right (a := a) (b := b)
  have g0 := gcd_pos' (a := a) hb
  have hq : b / ((Int.gcd a b : Nat) : Int) = y := by
    have : b = ((Int.gcd a b : Nat) : Int) * y := hy
    generalize ((Int.gcd a b : Nat) : Int) = g at *
    rw [this, Int.mul_ediv_cancel_left _ (by omega)]
  rw [hq]
  intro e
  rw [e, Int.mul_zero] at hy
  exact hb hy
theorem bz_res {a b g x u v : Int} (i : BzI a b g x u v) (hb : b ≠ 0) (hx : x = 0) :
    AV.t [PI g, PI (u % (b / g)), PI ((g - u % (b / g) * a) / b)] = AV.t [PI ((Int.gcd a b : Nat) : Int), PI (bzU a b), PI (bzV a b)] := by
  obtain ⟨h1, h2⟩ := i.stop hb hx
  have e : bzV a b = ((Int.gcd a b : Nat) - bzU a b * a) / b := by unfold bzV; rw [if_neg hb]
  rw [h2, e, h1]
theorem bz_0 {a b : Int} (hb : b = 0) : AV.t [PI ((a.natAbs : Nat) : Int), PI (sgn a), PI 0] = AV.t [PI ((Int.gcd a b : Nat) : Int), PI (bzU a b), PI (bzV a b)] := by
  subst hb
  unfold bzU bzV
  rw [if_pos rfl, if_pos rfl, Int.gcd_zero_right]
theorem bzV_b {a b : Int} (hb : b ≠ 0) : ((bzV a b).natAbs : Int) ≤ a.natAbs + 1 := by
  have h := bz_eq a b
  have hu := bzU_b (a := a) hb
  have g0 := gcd_pos' (a := a) hb
  have gb : ((Int.gcd a b : Nat) : Int) ≤ b.natAbs := by
    have := Nat.le_of_dvd (by omega) (Int.natAbs_dvd_natAbs.2 (Int.gcd_dvd_right (a := a) (b := b)))
    rw [Int.natAbs_natCast] at this
    omega
  have h1 : bzV a b * b = (Int.gcd a b : Nat) - bzU a b * a := by omega
  have h2 := congrArg Int.natAbs h1
  rw [Int.natAbs_mul] at h2
  have h3 : ((Int.gcd a b : Nat) - bzU a b * a).natAbs ≤ b.natAbs + b.natAbs * a.natAbs := by
    have e1 := Int.natAbs_sub_le ((Int.gcd a b : Nat) : Int) (bzU a b * a)
    rw [Int.natAbs_mul] at e1
    have e2 : (bzU a b).natAbs * a.natAbs ≤ b.natAbs * a.natAbs := Nat.mul_le_mul_right _ (by omega)
    omega
  rw [← h2] at h3
  have hb0 : 0 < b.natAbs := by omega
  have h4 : (bzV a b).natAbs * b.natAbs ≤ (a.natAbs + 1) * b.natAbs := by
    have : (a.natAbs + 1) * b.natAbs = b.natAbs + b.natAbs * a.natAbs := by rw [Nat.add_mul, Nat.one_mul, Nat.mul_comm]; omega
    omega
  have := Nat.le_of_mul_le_mul_right h4 hb0
  omega
end Go.AM
end

section
/- The program's product: sizes; what its walk finds. -/
namespace Go.AM
open Go Go.RowKit
theorem bzU_le (a b : Int) : (bzU a b).natAbs ≤ b.natAbs + 1 := by
  by_cases h : b = 0
  · subst h
    unfold bzU
    rw [if_pos rfl]
    unfold sgn
    split <;> (try split) <;> decide
  · have := bzU_b (a := a) h; omega
theorem bzV_le (a b : Int) : (bzV a b).natAbs ≤ a.natAbs + 1 := by
  by_cases h : b = 0
  · subst h
    unfold bzV
    rw [if_pos rfl]; simp
  · have := bzV_b (a := a) h; omega
theorem L6_of {x : Int} (h : x.natAbs ≤ 9100000000000000000) : L 6 x := by unfold L; omega
theorem bz_L6 {x y : Int} (hx : x.natAbs ≤ 9000000000000000000) (hy : y.natAbs ≤ 9000000000000000000) : LB (bzU x y) 6 ∧ LB (bzV x y) 6 :=
  ⟨⟨L6_of (by have := bzU_le x y; omega)⟩, ⟨L6_of (by have := bzV_le x y; omega)⟩⟩
section
variable {f : Fm} {a : Int}
theorem cpG_yes {n x : Nat} (h : decide (((Int.gcd (x : Int) ((n : Int) - x) : Nat) : Int) = 1) = true) (h2 : decide (((Int.gcd (vl f.a f.b f.c x ((n : Int) - x)) a : Nat) : Int) = 1) = true) : cpG f a n x = true := by
  have h := of_decide_eq_true h
  have h2 := of_decide_eq_true h2
  unfold cpG
  rw [decide_eq_true (by omega), decide_eq_true (by omega)]; rfl
theorem cpG_no1 {n x : Nat} (h : decide (((Int.gcd (x : Int) ((n : Int) - x) : Nat) : Int) = 1) = false) : cpG f a n x = false := by
  have h := of_decide_eq_false h
  unfold cpG
  rw [decide_eq_false (by omega)]; rfl
theorem cpG_no2 {n x : Nat} (h2 : decide (((Int.gcd (vl f.a f.b f.c x ((n : Int) - x)) a : Nat) : Int) = 1) = false) : cpG f a n x = false := by
  have h2 := of_decide_eq_false h2
  unfold cpG
  rw [decide_eq_false (p := Int.gcd (vl f.a f.b f.c x ((n : Int) - x)) a = 1) (by omega), Bool.and_false]
theorem ext_no {P : Nat → Bool} {x : Nat} (h : ∀ y, y < x → P y = false) (h1 : P x = false) : ∀ y, y < x + 1 → P y = false := fun y hy => by
  rcases (show y < x ∨ y = x by omega) with g | g
  · exact h y g
  · subst g; exact h1
def cpF (f : Fm) (a : Int) : Fm := f.app (cpM f a)
theorem cp_found {n x : Nat} (hN : cpN f a = n) (hX : cpX f a = x) :
    FA (vl f.a f.b f.c x ((n : Int) - x)) (apB f.a f.b f.c x (-bzV x ((n : Int) - x)) ((n : Int) - x) (bzU x ((n : Int) - x))) (vl f.a f.b f.c (-bzV x ((n : Int) - x)) (bzU x ((n : Int) - x))) = FA (cpF f a).a (cpF f a).b (cpF f a).c := by
  subst hN hX; rfl
theorem cpF_cl {D : Int} (hf : Cl D f) (h0 : a ≠ 0) (h6 : L 6 a) : Cl D (cpF f a) ∧ (cpF f a).rd = f.rd ∧ Int.gcd (cpF f a).a a = 1 := by
  have hx := cp_ex hf.prim h0 (by unfold L at h6; exact h6)
  have hd := cp_det hx.1
  exact ⟨hf.app hd.1, rd_app1 hf.pos hd.1, hd.2⟩
theorem cpF_L (pf : prim f.a f.b f.c = true) (h0 : a ≠ 0) (h6 : L 6 a) (ha : L 6 f.a) (hb : L 6 f.b) (hc : L 6 f.c) : LB (cpF f a).a 14 ∧ LB (cpF f a).b 14 ∧ LB (cpF f a).c 14 := by
  have hx := cp_ex pf h0 (by unfold L at h6; exact h6)
  have hX := (cp_x hx.1).2
  have ia : LB f.a 6 := ⟨ha⟩
  have ib : LB f.b 6 := ⟨hb⟩
  have ic : LB f.c 6 := ⟨hc⟩
  have b2 := bz_L6 (x := (cpX f a : Int)) (y := (cpN f a : Int) - cpX f a) (by omega) (by omega)
  have j1 : LB ((cpX f a : Nat) : Int) 6 := ⟨L6_of (by omega)⟩
  have j2 : LB ((cpN f a : Int) - cpX f a) 6 := ⟨L6_of (by omega)⟩
  have j3 := b2.1
  have j4 := b2.2
  refine ⟨⟨?_⟩, ⟨?_⟩, ⟨?_⟩⟩
  · show L 14 (vl f.a f.b f.c (cpX f a) ((cpN f a : Int) - cpX f a))
    exact lz
  · show L 14 (apB f.a f.b f.c (cpX f a) (-bzV (cpX f a) ((cpN f a : Int) - cpX f a)) ((cpN f a : Int) - cpX f a) (bzU (cpX f a) ((cpN f a : Int) - cpX f a)))
    exact lz
  · show L 14 (vl f.a f.b f.c (-bzV (cpX f a) ((cpN f a : Int) - cpX f a)) (bzU (cpX f a) ((cpN f a : Int) - cpX f a)))
    exact lz
end
/-- the reduced form of what the program makes of two forms is their product -/
theorem prod_mlt {D : Int} {f g G : Fm} (hf : Cl D f) (hg : Cl D g) (hG : Cl D G) (eG : G.rd = g.rd) (hc : Int.gcd G.a f.a = 1) :
    rdF (f.a * G.a) (f.b + 2 * (f.a * ((G.b - f.b) / 2 * (bzU (f.a % G.a) G.a % G.a) % G.a)))
      (((f.b + 2 * (f.a * ((G.b - f.b) / 2 * (bzU (f.a % G.a) G.a % G.a) % G.a))) * (f.b + 2 * (f.a * ((G.b - f.b) / 2 * (bzU (f.a % G.a) G.a % G.a) % G.a))) - D) / (4 * (f.a * G.a))) = mlt f g := by
  have hi := inv_dvd (a := f.a) (m := G.a) hG.pos.1 (by rw [Int.gcd_comm]; exact hc)
  have pf := (disc_par hf.disc).1
  have pG := (disc_par hG.disc).1
  have hh : 2 * ((G.b - f.b) / 2) = G.b - f.b := by omega
  generalize (G.b - f.b) / 2 = h at *
  generalize bzU (f.a % G.a) G.a % G.a = i at *
  have hk : G.a ∣ h * i - h * i % G.a := ⟨h * i / G.a, by have := Int.mul_ediv_add_emod (h * i) G.a; omega⟩
  generalize h * i % G.a = k at *
  have c := prog_isC hf hG hi hh hk rfl
  have e := isC_mlt hf hG c
  rw [mlt_class hf hG hf hg rfl eG] at e
  exact e
theorem cm_e1 {f g : Fm} (h : rfE f ≠ 0) : cmE f g = rfE f := by unfold cmE; rw [if_pos h]
theorem cm_e2 {f g : Fm} (h : rfE f = 0) (h1 : rfE g ≠ 0) : cmE f g = rfE g := by unfold cmE; rw [if_neg (by omega), if_pos h1]
theorem cm_e3 {f g : Fm} (h : rfE f = 0) (h1 : rfE g = 0) (h2 : dsc f.a f.b f.c ≠ dsc g.a g.b g.c) : cmE f g = 5 := by unfold cmE; rw [if_neg (by omega), if_neg (by omega), if_pos h2]
theorem cm_e4 {f g : Fm} (h : rfE f = 0) (h1 : rfE g = 0) (h2 : dsc f.a f.b f.c = dsc g.a g.b g.c) : cmE f g = 0 := by unfold cmE; rw [if_neg (by omega), if_neg (by omega), if_neg (by omega)]
theorem cm_res {f g : Fm} {e : Int} (h : cmE f g = e) (h0 : e ≠ 0) : AV.t [PF ⟨0, 0, 0⟩, PE e] = AV.t [PF (cmV f g), PE (cmE f g)] := by
  subst h
  unfold cmV
  rw [if_neg h0]
theorem cm_ok {f g : Fm} (h : cmE f g = 0) : AV.t [PF (mlt f g), PE 0] = AV.t [PF (cmV f g), PE (cmE f g)] := by
  unfold cmV
  rw [if_pos h, h]
theorem bneq {x : Int} (h : (x != 0) = true) : (x == 0) = false := by
  have := bneT h
  cases g : x == 0
  · rfl
  · exact absurd (bT g) this
theorem bneqF {x : Int} (h : (x != 0) = false) : (x == 0) = true := by
  have : x = 0 := bneF h
  subst this; rfl
theorem eqc_3 {a b c p q r : Int} (h1 : (cmpI a p == 0) = true) (h2 : (cmpI b q == 0) = true) : (cmpI c r == 0) = decide (a = p ∧ b = q ∧ c = r) := by
  have e1 := cmpI_eq_zero.1 (bT h1)
  have e2 := cmpI_eq_zero.1 (bT h2)
  rw [Bool.eq_iff_iff, decide_eq_true_iff, beq_iff_eq, cmpI_eq_zero]
  exact ⟨fun h => ⟨e1, e2, h⟩, fun h => h.2.2⟩
theorem eqc_2 {a b c p q r : Int} (_h1 : (cmpI a p == 0) = true) (h2 : (cmpI b q == 0) = false) : false = decide (a = p ∧ b = q ∧ c = r) := by
  symm; exact decide_eq_false (fun h => bF h2 (cmpI_eq_zero.2 h.2.1))
theorem eqc_1 {a b c p q r : Int} (h1 : (cmpI a p == 0) = false) : false = decide (a = p ∧ b = q ∧ c = r) := by
  symm; exact decide_eq_false (fun h => bF h1 (cmpI_eq_zero.2 h.1))
theorem emod_abs (a b : Int) : a % (b.natAbs : Int) = a % b := by
  rcases (show (b.natAbs : Int) = b ∨ (b.natAbs : Int) = -b by omega) with e | e
  · rw [e]
  · rw [e, Int.emod_neg]
theorem abs_per {b g : Int} (u : Int) (hg : g ∣ b) (g0 : 0 < g) : u % ((b.natAbs : Int) / g) = u % (b / g) := by
  rcases (show (b.natAbs : Int) = b ∨ (b.natAbs : Int) = -b by omega) with e | e
  · rw [e]
  · obtain ⟨q, rfl⟩ := hg
    rw [e, ← Int.mul_neg, Int.mul_ediv_cancel_left _ (by omega), Int.mul_ediv_cancel_left _ (by omega), Int.emod_neg]
theorem BzI.startA {a b : Int} (hb : b ≠ 0) : BzI a b b.natAbs (a % (b.natAbs : Int)) 0 1 := by rw [emod_abs]; exact BzI.start hb
theorem BzI.dvd {a b g x u v : Int} (i : BzI a b g x u v) (hb : b ≠ 0) (hx : x = 0) : g ∣ b := by
  rw [(i.stop hb hx).1]; exact Int.gcd_dvd_right ..
theorem bz_resA {a b g x u v : Int} (i : BzI a b g x u v) (hb : b ≠ 0) (hx : x = 0) :
    AV.t [PI g, PI (u % ((b.natAbs : Int) / g)), PI ((g - u % ((b.natAbs : Int) / g) * a) / b)] = AV.t [PI ((Int.gcd a b : Nat) : Int), PI (bzU a b), PI (bzV a b)] := by
  rw [abs_per u (i.dvd hb hx) i.g0]
  exact bz_res i hb hx
theorem two_get {f g : Fm} {k : Nat} (h : (k : Int) < 2) : (k = 0 ∧ [f, g].getD k ⟨0, 0, 0⟩ = f) ∨ (k = 1 ∧ [f, g].getD k ⟨0, 0, 0⟩ = g) := by
  rcases (show k = 0 ∨ k = 1 by omega) with rfl | rfl
  · exact .inl ⟨rfl, rfl⟩
  · exact .inr ⟨rfl, rfl⟩
theorem cm_loop {f g : Fm} {k : Nat} (h : (k : Int) < 2) (hno : ∀ j, j < k → rfE ([f, g].getD j ⟨0, 0, 0⟩) = 0) (hne : rfE ([f, g].getD k ⟨0, 0, 0⟩) ≠ 0) : cmE f g = rfE ([f, g].getD k ⟨0, 0, 0⟩) := by
  rcases two_get (f := f) (g := g) h with ⟨rfl, e⟩ | ⟨rfl, e⟩
  · rw [e] at hne ⊢; exact cm_e1 hne
  · have h0 : rfE f = 0 := hno 0 (by omega)
    rw [e] at hne ⊢; exact cm_e2 h0 hne
theorem ext_0 {P : Nat → Prop} {x : Nat} (h : ∀ y, y < x → P y) (h1 : P x) : ∀ y, y < x + 1 → P y := fun y hy => by
  rcases (show y < x ∨ y = x by omega) with g | g
  · exact h y g
  · subst g; exact h1
end Go.AM
end

section
/- Closures that are called; bits of numbers; powers by bits. -/
namespace Go.AM
open Go Go.RowKit
section ops
variable {P : Program}
variable {dst : Option Nat} {ty : TypeId} {pos : String} {af : Array Edge} {gd : Option (Nat × Bool)} {d : Nat} {ρ : Operand → AV} {own : Own}
theorem op_makeFunc2 {f : FuncId} {c e : Operand} {xs ys : List DV} (hx : ρ c = .ip xs) (hy : ρ e = .ip ys) : Eff P ⟨dst, .makeFunc (.func f) #[] #[c, e], ty, pos, af, gd⟩ d ρ own (.fn f [xs, ys]) [] none [] :=
  Eff.value fun C h r own' a w hrep hrd hw => by
    have e1 := hrep c (by simp [Op.operands])
    have e2 := hrep e (by simp [Op.operands])
    rw [hx] at e1; rw [hy] at e2
    refine ⟨.func (.func f) #[] #[a.eval c, a.eval e], ?_, #[a.eval c, a.eval e], rfl, e1, e2, trivial⟩
    simp [execOp, Instr.makeFunc]
theorem RepArgs.app {h : Hp} {r : Nat → Value} : ∀ {l : List AV} {xs : List Value} {m : List AV} {ys : List Value}, RepArgs h r l xs → RepArgs h r m ys → RepArgs h r (l ++ m) (xs ++ ys)
  | [], [], _, _, _, k => k
  | _ :: _, _ :: _, _, _, k1, k => ⟨k1.1, RepArgs.app k1.2 k⟩
  | [], _ :: _, _, _, k1, _ => k1.elim
  | _ :: _, [], _, _, k1, _ => k1.elim
theorem caps_args {h : Hp} {r : Nat → Value} : ∀ {cs : List (List DV)} {xs : List Value}, CapsRep h cs xs → RepArgs h r (cs.map .ip) xs
  | [], [], _ => trivial
  | _ :: _, _ :: _, k => ⟨k.1, caps_args k.2⟩
  | [], _ :: _, k => k.elim
  | _ :: _, [], k => k.elim
/-- a call of a closure -/
theorem Eff.callC {f : FuncId} {caps : List (List DV)} {c : Operand} {args : Array Operand} {tys : Array TypeId} {res : AV} (hx : ρ c = .fn f caps) (hc : Call0 P f (args.toList.map ρ ++ caps.map .ip) res) :
    Eff P ⟨dst, .call ⟨.value c, args, tys⟩, ty, pos, af, gd⟩ d ρ own res [] none [] := by
  intro C h r own' a w K Q hrep hrd hw _ hK
  have e1 := hrep c (by simp [Op.operands, Call.operands])
  rw [hx] at e1
  obtain ⟨lb, e2, e3⟩ := e1
  unfold Oper.wp
  have hrun : (execOp a.eval ⟨dst, .call ⟨.value c, args, tys⟩, ty, pos, af, gd⟩).run P w = .ok (.enter f (args.map a.eval ++ lb)) w := by
    simp only [execOp, resolve, Sem.run_bind, e2, Deferred.ofValue, Sem.run_pure, Result.andThen_ok, invoke, Array.empty_append]
    exact run_callFunc hc.fn _ w
  rw [hrun]
  refine Calls.mono (hc.go h r w (args.map a.eval ++ lb) ?_ (hw.before fun m hm => absurd rfl hm)) ?_
  · rw [Array.toList_append, Array.toList_map]
    exact RepArgs.app (repArgs_map _ fun x hx => hrep x (by simp only [Op.operands, Call.operands]; exact Array.mem_append.2 (.inr (Array.mem_toList_iff.1 hx)))) (caps_args e3)
  · rintro e w' ⟨v, h', rfl, hv, hq⟩
    exact hK v h' r w' hq.hg (fun _ _ => rfl) hv (hw.after (fun m hm => absurd rfl hm) hq (fun m => by simp [nown, applySt]) (fun m b hm => absurd rfl hm))
end ops
theorem wl_dig : ∀ (j m : Nat), (wl m).getD j 0 = m / 2 ^ (32 * j) % 4294967296
  | 0, m => by
    rcases Nat.eq_zero_or_pos m with h | h
    · subst h; simp [wl_zero]
    · rw [wl_pos h]; simp
  | j + 1, m => by
    rcases Nat.eq_zero_or_pos m with h | h
    · subst h; simp [wl_zero]
    · rw [wl_pos h, List.getD_cons_succ, wl_dig j, Nat.div_div_eq_div_mul]
      have e : 4294967296 * 2 ^ (32 * j) = 2 ^ (32 * (j + 1)) := by
        rw [show 32 * (j + 1) = 32 * j + 32 by omega, Nat.pow_add, Nat.mul_comm]
      rw [e]
theorem wl_bit (m i : Nat) : (wl m).getD (i / 32) 0 / 2 ^ (i % 32) % 2 = m / 2 ^ i % 2 := by
  rw [wl_dig]
  have e : m / 2 ^ i = m / 2 ^ (32 * (i / 32)) / 2 ^ (i % 32) := by
    rw [Nat.div_div_eq_div_mul, ← Nat.pow_add, Nat.div_add_mod]
  rw [e]
  generalize m / 2 ^ (32 * (i / 32)) = q
  have hr : i % 32 < 32 := Nat.mod_lt _ (by omega)
  generalize i % 32 = r at hr
  have hp : 2 ^ (r + 1) ∣ 4294967296 := ⟨2 ^ (31 - r), by rw [← Nat.pow_add, show r + 1 + (31 - r) = 32 by omega]⟩
  have h1 : (q % 4294967296) / 2 ^ r % 2 = (q % 4294967296) % 2 ^ (r + 1) / 2 ^ r := by
    rw [Nat.pow_succ, Nat.mod_mul_right_div_self]
  have h2 : q / 2 ^ r % 2 = q % 2 ^ (r + 1) / 2 ^ r := by rw [Nat.pow_succ, Nat.mod_mul_right_div_self]
  rw [h1, h2, Nat.mod_mod_of_dvd _ hp]
theorem wl_len_bit {m i : Nat} (h : i < blen m) : i / 32 < (wl m).length := by
  rcases Nat.lt_or_ge (i / 32) (wl m).length with g | g
  · exact g
  · exfalso
    have h1 := wv_lt (wl_ok m)
    rw [wv_wl] at h1
    have h0 : 0 < m := by
      rcases Nat.eq_zero_or_pos m with e | e
      · subst e; simp [blen] at h
      · exact e
    have h2 := blen_ge h0
    have h3 : 2 ^ (32 * (wl m).length) ≤ 2 ^ (blen m - 1) := Nat.pow_le_pow_right (by omega) (by omega)
    have e : 4294967296 ^ (wl m).length = 2 ^ (32 * (wl m).length) := by rw [Nat.pow_mul]
    omega
theorem bit_and (v : Nat) : ((v &&& 1 : Nat) : Int) = ((v % 2 : Nat) : Int) := by rw [Nat.and_one_is_mod]
section
variable {D : Int} {f : Fm}
theorem pw_dbl (hf : Cl D f) (k : Nat) : mlt (pw D f k) (pw D f k) = pw D f (2 * k) := by rw [pw_add hf]; congr 1; omega
theorem mod_step (n i : Nat) : n % 2 ^ (i + 1) = n % 2 ^ i + 2 ^ i * (n / 2 ^ i % 2) := by
  rw [Nat.pow_succ, Nat.mod_mul]
theorem div_step (n i : Nat) : n / 2 ^ i = 2 * (n / 2 ^ (i + 1)) + n / 2 ^ i % 2 := by
  rw [Nat.pow_succ, ← Nat.div_div_eq_div_mul]; omega
end
end Go.AM
end

section
/- Powers, as their walks ask. -/
namespace Go.AM
open Go Go.RowKit
section
variable {D : Int} {f g : Fm}
theorem red_b (hg : Cl D g) (e : g.rd = g) : (0 < g.a ∧ g.a ≤ -D) ∧ (-(-D) ≤ g.b ∧ g.b ≤ -D) ∧ (0 < g.c ∧ g.c ≤ -D) := by
  have hr : Rd g := by rw [← e]; exact hg.rd_Rd
  have hd := hg.disc
  unfold dsc at hd
  rw [Int.mul_assoc] at hd
  have ha := hr.a; have hb := hr.b; have hc := hr.c
  have h1 : g.b * g.b ≤ g.a * g.a := sq_le_of_abs (by omega)
  have h2 : g.a * g.a ≤ g.a * g.c := Int.mul_le_mul_of_nonneg_left hc (by omega)
  have h3 : 1 * g.c ≤ g.a * g.c := Int.mul_le_mul_of_nonneg_right ha (by omega)
  omega
theorem red_L6 (hg : Cl D g) (e : g.rd = g) (hD : -1000000000000000000 ≤ D) : L 6 g.a ∧ L 6 g.b ∧ L 6 g.c := by
  have h := red_b hg e
  exact ⟨L6_of (by omega), L6_of (by omega), L6_of (by omega)⟩
theorem prF_prP (hf : Cl D f) : prF D = prP D ∧ prE D = 0 := by
  have hneg : D < 0 := by have h : dsc f.a f.b f.c < 0 := hf.pos.2; rw [hf.disc] at h; exact h
  have c := prP_cl hf
  have h4 : ¬ 1 < D % 4 := fun h => by
    have h2 := (disc_par hf.disc).2
    unfold sD dD at h2
    rcases (show D % 2 = 0 ∨ D % 2 = 1 by omega) with e | e <;> rw [e] at h2 <;> omega
  have h := pr_yes h4 (isSq_neg hneg)
  simp only [AV.t.injEq, List.cons.injEq, and_true] at h
  obtain ⟨h1, h2⟩ := h
  have e0 : prE D = 0 := by
    simp only [PV.c.injEq, DV.v.injEq, Value.int.injEq, true_and] at h2
    exact h2.symm
  refine ⟨?_, e0⟩
  unfold prF
  rw [if_pos e0]
  rfl
theorem blen_gen {k : Nat} {n : Int} (h : AM.L k n) : blen n.natAbs ≤ 2 ^ k := blen_le h
/-- the sign of the exponent moves to the form -/
theorem zpw_neg (n : Int) (h : n < 0) : zpw D f n = pw D f.mi (-n).natAbs := by unfold zpw; rw [if_pos h]; congr 1; omega
theorem zpw_pos (n : Int) (h : ¬ n < 0) : zpw D f n = pw D f n.natAbs := by unfold zpw; rw [if_neg h]
def SgI (f : Fm) (n : Int) (p : Fm × Int) : Prop := (n < 0 ∧ p.1 = f.mi ∧ p.2 = -n) ∨ (¬ n < 0 ∧ p.1 = f ∧ p.2 = n)
theorem SgI.cl {n : Int} {p : Fm × Int} (h : SgI f n p) (hf : Cl D f) : Cl D p.1 ∧ zpw D f n = pw D p.1 p.2.natAbs ∧ 0 ≤ p.2 ∧ p.2.natAbs = n.natAbs := by
  rcases h with ⟨h1, h2, h3⟩ | ⟨h1, h2, h3⟩
  · rw [h2, h3]; exact ⟨mi_cl hf, zpw_neg n h1, by omega, by omega⟩
  · rw [h2, h3]; exact ⟨hf, zpw_pos n h1, by omega, rfl⟩
theorem SgI.L {n : Int} {p : Fm × Int} {k : Nat} (h : SgI f n p) (ha : AM.L k f.a) (hb : AM.L k f.b) (hc : AM.L k f.c) : AM.L k p.1.a ∧ AM.L k p.1.b ∧ AM.L k p.1.c := by
  rcases h with ⟨_, h2, _⟩ | ⟨_, h2, _⟩
  · rw [h2]; exact ⟨ha, hb.neg, hc⟩
  · rw [h2]; exact ⟨ha, hb, hc⟩
/-- bits from below -/
theorem up_yes (hf : Cl D f) {n i : Nat} (h : n / 2 ^ i % 2 = 1) : mlt (pw D f (n % 2 ^ i)) (pw D f (2 ^ i)) = pw D f (n % 2 ^ (i + 1)) := by
  rw [pw_add hf, mod_step, h, Nat.mul_one]
theorem up_no {n i : Nat} (h : ¬ n / 2 ^ i % 2 = 1) : pw D f (n % 2 ^ i) = pw D f (n % 2 ^ (i + 1)) := by
  rw [mod_step, show n / 2 ^ i % 2 = 0 by omega, Nat.mul_zero, Nat.add_zero]
theorem up_sq (hf : Cl D f) (i : Nat) : mlt (pw D f (2 ^ i)) (pw D f (2 ^ i)) = pw D f (2 ^ (i + 1)) := by
  rw [pw_dbl hf, Nat.pow_succ, Nat.mul_comm]
theorem up_end {n : Nat} : pw D f (n % 2 ^ blen n) = pw D f n := by rw [Nat.mod_eq_of_lt blen_lt]
theorem up_start {n : Nat} : pw D f (n % 2 ^ 0) = prP D := by rw [Nat.pow_zero, Nat.mod_one]; rfl
/-- bits from above -/
theorem dn_yes (hf : Cl D f) {n k : Nat} (hk : 1 ≤ k) (h : n / 2 ^ (k - 1) % 2 = 1) : mlt (mlt (pw D f (n / 2 ^ k)) (pw D f (n / 2 ^ k))) f = pw D f (n / 2 ^ (k - 1)) := by
  have e := div_step n (k - 1)
  rw [show k - 1 + 1 = k by omega, h] at e
  rw [pw_dbl hf, e]; rfl
theorem dn_no (hf : Cl D f) {n k : Nat} (hk : 1 ≤ k) (h : ¬ n / 2 ^ (k - 1) % 2 = 1) : mlt (pw D f (n / 2 ^ k)) (pw D f (n / 2 ^ k)) = pw D f (n / 2 ^ (k - 1)) := by
  have e := div_step n (k - 1)
  rw [show k - 1 + 1 = k by omega, show n / 2 ^ (k - 1) % 2 = 0 by omega, Nat.add_zero] at e
  rw [pw_dbl hf, e]
theorem dn_start {n : Nat} : pw D f (n / 2 ^ blen n) = prP D := by rw [Nat.div_eq_of_lt blen_lt]; rfl
theorem bit_yes {m i : Nat} (h : (((((wl m).getD (i / 32) 0 / 2 ^ (i % 32) : Nat) &&& 1 : Nat) : Int) == 1) = true) : m / 2 ^ i % 2 = 1 := by
  have h := bT h
  rw [bit_and, wl_bit] at h
  omega
theorem bit_no {m i : Nat} (h : (((((wl m).getD (i / 32) 0 / 2 ^ (i % 32) : Nat) &&& 1 : Nat) : Int) == 1) = false) : ¬ m / 2 ^ i % 2 = 1 := by
  have h := bF h
  rw [bit_and, wl_bit] at h
  omega
theorem dig_lt (m j r : Nat) : (wl m).getD j 0 / 2 ^ r < 4294967296 := by
  have h := Nat.div_le_self ((wl m).getD j 0) (2 ^ r)
  have h2 := (wl_ok m).getD j
  omega
end
/-- the reference's formula -/
theorem ref_mlt {f g : Fm} (hf : Cl (dsc f.a f.b f.c) f) (hg : Cl (dsc f.a f.b f.c) g) {h x y e u z A B : Int} (eh : h = (Int.gcd f.a g.a : Nat)) (ex : x = bzU f.a g.a) (ey : y = bzV f.a g.a)
    (ee : e = (Int.gcd h ((f.b + g.b) / 2) : Nat)) (eu : u = bzU h ((f.b + g.b) / 2)) (ez : z = bzV h ((f.b + g.b) / 2)) (eA : A = f.a * g.a / (e * e))
    (eB : B = (u * x * f.a * g.b + u * y * g.a * f.b + z * ((f.b * g.b + dsc f.a f.b f.c) / 2)) / e) :
    rdF A B ((B * B - dsc f.a f.b f.c) / (4 * A)) = mlt f g ∧ e ≠ 0 ∧ 4 * A ≠ 0 := by
  have b1 := bz_eq f.a g.a
  have b2 := bz_eq h ((f.b + g.b) / 2)
  have l := Int.gcd_dvd_left (a := h) (b := (f.b + g.b) / 2)
  have r := Int.gcd_dvd_right (a := h) (b := (f.b + g.b) / 2)
  rw [← ee] at l r b2
  rw [← eu, ← ez] at b2
  rw [← ex, ← ey, ← eh] at b1
  have d1 : e ∣ f.a := Int.dvd_trans l (by rw [eh]; exact Int.gcd_dvd_left ..)
  have d2 : e ∣ g.a := Int.dvd_trans l (by rw [eh]; exact Int.gcd_dvd_right ..)
  have e0 : 0 < e := by
    rcases (show e = 0 ∨ 0 < e by omega) with k | k
    · rw [k] at d1
      have := Int.zero_dvd.1 d1
      have := hf.pos.1
      omega
    · exact k
  have hA : e * e * A = f.a * g.a := by rw [eA]; exact Int.mul_ediv_cancel' (Int.mul_dvd_mul d1 d2)
  have c := isC_bez hf hg e0 d1 d2 r b1 b2 hA eB rfl
  refine ⟨isC_mlt hf hg c, by omega, ?_⟩
  have := Int.mul_pos hf.pos.1 hg.pos.1
  intro h4
  have : A = 0 := by omega
  rw [this, Int.mul_zero] at hA
  omega
theorem L_suc {n : Nat} {x y : Int} (h : L n x) (k : y.natAbs ≤ x.natAbs + 1) : L (n + 1) y := by
  unfold L at h ⊢
  have h1 : 2 ^ (2 ^ n) * 2 ≤ 2 ^ (2 ^ (n + 1)) := by
    rw [← Nat.pow_succ]
    exact Nat.pow_le_pow_right (by omega) (by rw [Nat.pow_succ]; have := Nat.two_pow_pos n; omega)
  have h2 : 0 < 2 ^ (2 ^ n) := Nat.two_pow_pos _
  omega
def pwV (f : Fm) (n : Int) : Fm := if rfE f = 0 then zpw (dsc f.a f.b f.c) f n else ⟨0, 0, 0⟩
theorem pw_err {f : Fm} {n : Int} (h : rfE f ≠ 0) : AV.t [PF ⟨0, 0, 0⟩, PE (rfE f)] = AV.t [PF (pwV f n), PE (rfE f)] := by unfold pwV; rw [if_neg h]
theorem pw_ok {f : Fm} {n : Int} (h : rfE f = 0) : AV.t [PF (zpw (dsc f.a f.b f.c) f n), PE 0] = AV.t [PF (pwV f n), PE (rfE f)] := by unfold pwV; rw [if_pos h, h]
def cmE1 (f g : Fm) : Int := if rfE f = 0 then rfE g else rfE f
theorem ce_1 {f g : Fm} (h : rfE f = 0) : rfE g = cmE1 f g := by unfold cmE1; rw [if_pos h]
theorem ce_2 {f g : Fm} (h : ¬ rfE f = 0) : rfE f = cmE1 f g := by unfold cmE1; rw [if_neg h]
theorem ce_3 {f g : Fm} (h : cmE1 f g = 0) (h1 : dsc f.a f.b f.c ≠ dsc g.a g.b g.c) : 5 = cmE f g := by
  unfold cmE1 at h
  by_cases g0 : rfE f = 0
  · rw [if_pos g0] at h; exact (cm_e3 g0 h h1).symm
  · rw [if_neg g0] at h; exact absurd h g0
theorem ce_4 {f g : Fm} (h : cmE1 f g = 0) (h1 : dsc f.a f.b f.c = dsc g.a g.b g.c) : cmE1 f g = cmE f g := by
  have h2 := h
  unfold cmE1 at h2
  by_cases g0 : rfE f = 0
  · rw [if_pos g0] at h2; rw [h]; exact (cm_e4 g0 h2 h1).symm
  · rw [if_neg g0] at h2; exact absurd h2 g0
theorem ce_5 {f g : Fm} (h : ¬ cmE1 f g = 0) : cmE1 f g = cmE f g := by
  have h2 := h
  unfold cmE1 at h2 ⊢
  by_cases g0 : rfE f = 0
  · rw [if_pos g0] at h2 ⊢; exact (cm_e2 g0 h2).symm
  · rw [if_neg g0]; exact (cm_e1 g0).symm
end Go.AM
end

section
/- Orders of classes, as the program finds them. -/
namespace Go.AM
open Go Go.RowKit
structure Ord (D : Int) (f : Fm) (o : Nat) : Prop where
  o1 : 1 ≤ o
  eq : pw D f o = prP D
  ls : ∀ k, 1 ≤ k → k < o → pw D f k ≠ prP D
section
variable {D : Int} {f : Fm} {o : Nat}
theorem prP_mlt {g : Fm} (hg : Cl D g) (e : g.rd = g) : mlt (prP D) g = g := by rw [one_mlt hg, e]
theorem Ord.mul (h : Ord D f o) (hf : Cl D f) : ∀ q, pw D f (o * q) = prP D
  | 0 => rfl
  | q + 1 => by
    rw [Nat.mul_succ, ← pw_add hf, h.mul hf q, h.eq, prP_mlt (prP_cl hf) (prP_rd hf)]
theorem Ord.iff (h : Ord D f o) (hf : Cl D f) (n : Nat) : pw D f n = prP D ↔ o ∣ n := by
  constructor
  · intro e
    have e1 : pw D f n = pw D f (n % o) := by
      have := pw_add hf (o * (n / o)) (n % o)
      rw [h.mul hf, prP_mlt (pw_cl hf _).1 (pw_cl hf _).2, Nat.div_add_mod] at this
      exact this.symm
    rcases Nat.eq_zero_or_pos (n % o) with z | z
    · exact Nat.dvd_of_mod_eq_zero z
    · exact absurd (e1.symm.trans e) (h.ls _ z (Nat.mod_lt _ h.o1))
  · rintro ⟨q, rfl⟩
    exact h.mul hf q
theorem Ord.ex {n : Nat} (hn : 1 ≤ n) (e : pw D f n = prP D) : ∃ o, Ord D f o ∧ o ≤ n := by
  have h := fst1_ok (P := fun k => decide (pw D f k = prP D)) (f := n) (n := 1) (m := n) hn (by omega) (decide_eq_true e)
  have hge := fst1_ge (fun k => decide (pw D f k = prP D)) n 1
  refine ⟨fst1 (fun k => decide (pw D f k = prP D)) n 1, ⟨hge, of_decide_eq_true h.1, fun k hk hlt hc => ?_⟩, h.2⟩
  have h2 := fst1_ok (P := fun k => decide (pw D f k = prP D)) (f := n) (n := 1) (m := k) hk (by omega) (decide_eq_true hc)
  omega
theorem Ord.uniq {p : Nat} (h : Ord D f o) (h1 : Ord D f p) : o = p := by
  rcases Nat.lt_trichotomy o p with c | c | c
  · exact absurd h.eq (h1.ls _ h.o1 c)
  · exact c
  · exact absurd h1.eq (h.ls _ h1.o1 c)
/-- no divisor from 2 to below d -/
def Nd (m d : Nat) : Prop := ∀ e, 2 ≤ e → e < d → ¬ e ∣ m
/-- the rounds: h and m are numbers, o divides h, and h/o divides m, which divides h -/
structure OrI (o h m d : Nat) : Prop where
  h1 : 1 ≤ h
  m1 : 1 ≤ m
  oh : ∃ c, h = o * c ∧ c ∣ m
  mh : m ∣ h
  d2 : 2 ≤ d
  nd : Nd m d
theorem Nd.mono {m k d : Nat} (h : Nd m d) (hk : k ∣ m) : Nd k d := fun e h1 h2 h3 => h e h1 h2 (Nat.dvd_trans h3 hk)
theorem Nd.jump {m d : Nat} (h : Nd m d) (hm : 1 ≤ m) (hd : m < d * d) : Nd m m := fun e h1 h2 h3 => by
  obtain ⟨q, hq⟩ := h3
  have hq2 : 2 ≤ q := by
    rcases (show q = 0 ∨ q = 1 ∨ 2 ≤ q by omega) with c | c | c
    · subst c; omega
    · subst c; omega
    · exact c
  have hqd : q ∣ m := ⟨e, by rw [hq, Nat.mul_comm]⟩
  rcases Nat.lt_or_ge e d with c | c
  · exact h e h1 c ⟨q, hq⟩
  · rcases Nat.lt_or_ge q d with c2 | c2
    · exact h q hq2 c2 hqd
    · have : d * d ≤ e * q := Nat.mul_le_mul c c2
      omega
/-- a division -/
theorem OrI.div {h m d : Nat} (i : OrI o h m d) (hd : d ∣ m) : (o ∣ h / d → OrI o (h / d) (m / d) d) ∧ (¬ o ∣ h / d → OrI o h (m / d) d) ∧ 1 ≤ h / d ∧ m / d < m := by
  obtain ⟨h1, m1, ⟨c, hc, hcm⟩, mh, d2, nd⟩ := i
  obtain ⟨q, hq⟩ := hd
  have hq1 : 1 ≤ q := by
    rcases Nat.eq_zero_or_pos q with e | e
    · subst e; omega
    · exact e
  have e1 : m / d = q := by rw [hq]; exact Nat.mul_div_cancel_left q (by omega)
  obtain ⟨w, hw⟩ := mh
  have e2 : h / d = q * w := by rw [hw, hq, Nat.mul_assoc]; exact Nat.mul_div_cancel_left _ (by omega)
  have hh : h = d * (q * w) := by rw [hw, hq, Nat.mul_assoc]
  have hqw : 1 ≤ q * w := by
    rcases Nat.eq_zero_or_pos (q * w) with e | e
    · rw [e] at hh; omega
    · exact e
  have hqm : q ∣ m := ⟨d, by rw [hq, Nat.mul_comm]⟩
  have hlt : q < m := by
    have : 2 * q ≤ d * q := Nat.mul_le_mul_right q d2
    omega
  rw [e1, e2]
  refine ⟨fun ho => ?_, fun ho => ?_, hqw, hlt⟩
  · obtain ⟨k, hk⟩ := ho
    refine ⟨hqw, hq1, ⟨k, hk, ?_⟩, ⟨w, rfl⟩, d2, nd.mono hqm⟩
    have o1 : 0 < o := by
      rcases Nat.eq_zero_or_pos o with e | e
      · subst e; omega
      · exact e
    have hck : c = d * k := by
      have : o * c = o * (d * k) := by rw [← hc, hh, hk]; exact Nat.mul_left_comm ..
      exact Nat.eq_of_mul_eq_mul_left o1 this
    rw [hck, hq] at hcm
    exact Nat.dvd_of_mul_dvd_mul_left (by omega) hcm
  · refine ⟨h1, hq1, ⟨c, hc, ?_⟩, ⟨d * w, by rw [hw, hq]; simp only [Nat.mul_left_comm, Nat.mul_comm]⟩, d2, nd.mono hqm⟩
    have hdc : ¬ d ∣ c := fun ⟨k, hk⟩ => ho ⟨k, by
      have : d * (q * w) = d * (o * k) := by rw [← hh, hc, hk]; exact Nat.mul_left_comm ..
      exact Nat.eq_of_mul_eq_mul_left (by omega) this⟩
    have hg := Nat.gcd_dvd_right c d
    have hgc := Nat.gcd_dvd_left c d
    have hgle := Nat.le_of_dvd (by omega) hg
    have hg0 : Nat.gcd c d ≠ 0 := fun e => by
      rw [e] at hg
      have := Nat.eq_zero_of_zero_dvd hg
      omega
    have hcop : Nat.Coprime c d := by
      rcases (show Nat.gcd c d = 1 ∨ Nat.gcd c d = d ∨ (2 ≤ Nat.gcd c d ∧ Nat.gcd c d < d) by omega) with e | e | e
      · exact e
      · rw [e] at hgc; exact absurd hgc hdc
      · exact absurd (Nat.dvd_trans hg ⟨q, hq⟩) (nd _ e.1 e.2)
    rw [hq] at hcm
    exact Nat.Coprime.dvd_of_dvd_mul_left hcop hcm
theorem OrI.next {h m d : Nat} (i : OrI o h m d) (hd : ¬ d ∣ m) : OrI o h m (d + 1) ∧ (m = 1 ∨ d + 1 ≤ m) := by
  have hnd : Nd m (d + 1) := fun e h1 h2 h3 => by
    rcases (show e < d ∨ e = d by omega) with c | c
    · exact i.nd e h1 c h3
    · subst c; exact hd h3
  obtain ⟨h1, m1, oh, mh, d2, nd⟩ := i
  refine ⟨⟨h1, m1, oh, mh, by omega, hnd⟩, ?_⟩
  rcases (show m = 1 ∨ 2 ≤ m by omega) with c | c
  · exact .inl c
  · right
    rcases Nat.lt_or_ge m (d + 1) with q | q
    · exact absurd (Nat.dvd_refl m) (hnd m c q)
    · exact q
theorem OrI.fin {h m d : Nat} (i : OrI o h m d) (hm : m ≤ 1) : h = o := by
  obtain ⟨c, hc, hcm⟩ := i.oh
  have := i.m1
  have : m = 1 := by omega
  subst this
  have : c = 1 := Nat.eq_one_of_dvd_one hcm
  rw [hc, this, Nat.mul_one]
theorem OrI.start {h : Nat} (h1 : 1 ≤ h) (ho : o ∣ h) : OrI o h h 2 := by
  obtain ⟨c, hc⟩ := ho
  exact ⟨h1, h1, ⟨c, hc, ⟨o, by rw [hc, Nat.mul_comm]⟩⟩, Nat.dvd_refl h, by omega, fun e h2 h3 => by omega⟩
theorem OrI.jump {h m d : Nat} (i : OrI o h m d) (hd : m < d * d) (hm : 1 < m) : OrI o h m m := ⟨i.h1, i.m1, i.oh, i.mh, by omega, i.nd.jump i.m1 hd⟩
end
def orB (f : Fm) (h : Int) : Bool := decide (1 ≤ h) && decide (zpw (dsc f.a f.b f.c) f h = prP (dsc f.a f.b f.c))
def orE (f : Fm) (h : Int) : Int := if rfE f ≠ 0 then rfE f else if orB f h = true then 0 else 1
def orV (f : Fm) (h : Int) : Int := if rfE f = 0 ∧ orB f h = true then (fst1 (fun k => decide (pw (dsc f.a f.b f.c) f k = prP (dsc f.a f.b f.c))) h.toNat 1 : Nat) else 0
theorem or_err {f : Fm} {h : Int} (e : rfE f ≠ 0) : AV.t [PE 0, PE (rfE f)] = AV.t [PE (orV f h), PE (orE f h)] := by
  unfold orV orE; rw [if_neg (fun x => e x.1), if_pos e]
theorem or_no {f : Fm} {h : Int} (e : rfE f = 0) (h1 : orB f h = false) : AV.t [PE 0, PE 1] = AV.t [PE (orV f h), PE (orE f h)] := by
  unfold orV orE; rw [if_neg (fun x => by rw [h1] at x; exact absurd x.2 (by decide)), if_neg (by omega), if_neg (by rw [h1]; decide)]
theorem orB_ord {f : Fm} {h : Int} (h1 : orB f h = true) : 1 ≤ h ∧ pw (dsc f.a f.b f.c) f h.toNat = prP (dsc f.a f.b f.c) := by
  unfold orB at h1
  rw [Bool.and_eq_true, decide_eq_true_iff, decide_eq_true_iff] at h1
  refine ⟨h1.1, ?_⟩
  have := h1.2
  rw [zpw_pos h (by omega)] at this
  rw [show h.toNat = h.natAbs by omega]
  exact this
theorem or_yes {f : Fm} {h : Int} {o : Nat} (e : rfE f = 0) (h1 : orB f h = true) (ho : Ord (dsc f.a f.b f.c) f o) : AV.t [PE (o : Int), PE 0] = AV.t [PE (orV f h), PE (orE f h)] := by
  obtain ⟨g1, g2⟩ := orB_ord h1
  have hx := Ord.ex (n := h.toNat) (by omega) g2
  have hle := fst1_ok (P := fun k => decide (pw (dsc f.a f.b f.c) f k = prP (dsc f.a f.b f.c))) (f := h.toNat) (n := 1) (m := h.toNat) (by omega) (by omega) (decide_eq_true g2)
  have hge := fst1_ge (fun k => decide (pw (dsc f.a f.b f.c) f k = prP (dsc f.a f.b f.c))) h.toNat 1
  have hu : o = fst1 (fun k => decide (pw (dsc f.a f.b f.c) f k = prP (dsc f.a f.b f.c))) h.toNat 1 := by
    refine ho.uniq ⟨hge, of_decide_eq_true hle.1, fun k hk hlt hc => ?_⟩
    have h2 := fst1_ok (P := fun k => decide (pw (dsc f.a f.b f.c) f k = prP (dsc f.a f.b f.c))) (f := h.toNat) (n := 1) (m := k) hk (by omega) (decide_eq_true hc)
    omega
  unfold orV orE
  rw [if_pos ⟨e, h1⟩, if_neg (by omega), if_pos h1, ← hu]
theorem fm_eq {f g : Fm} : (f.a = g.a ∧ f.b = g.b ∧ f.c = g.c) ↔ f = g := ⟨fun h => Fm.ext h.1 h.2.1 h.2.2, fun h => by subst h; exact ⟨rfl, rfl, rfl⟩⟩
theorem orB_lt {f : Fm} {h : Int} (c : decide (h < 1) = true) : orB f h = false := by
  have := of_decide_eq_true c
  unfold orB
  rw [decide_eq_false (by omega)]; rfl
theorem orB_ne {f : Fm} {h : Int} (c : (!decide (zpw (dsc f.a f.b f.c) f h = prP (dsc f.a f.b f.c))) = true) : orB f h = false := by
  unfold orB
  rw [notT c, Bool.and_false]
theorem orB_mk {f : Fm} {h : Int} (c0 : decide (h < 1) = false) (c : (!decide (zpw (dsc f.a f.b f.c) f h = prP (dsc f.a f.b f.c))) = false) : orB f h = true := by
  have := of_decide_eq_false c0
  unfold orB
  rw [notF c, decide_eq_true (by omega)]; rfl
theorem ord_dvd {D : Int} {f : Fm} {o n : Nat} (hO : Ord D f o) (hf : Cl D f) (c : decide (zpw D f (n : Int) = prP D) = true) : o ∣ n := by
  have := of_decide_eq_true c
  rw [zpw_pos _ (by omega)] at this
  exact (hO.iff hf n).1 this
theorem ord_ndvd {D : Int} {f : Fm} {o n : Nat} (hO : Ord D f o) (hf : Cl D f) (c : decide (zpw D f (n : Int) = prP D) = false) : ¬ o ∣ n := fun h => by
  have := of_decide_eq_false c
  rw [zpw_pos _ (by omega)] at this
  exact this ((hO.iff hf n).2 h)
theorem quoN {a b : Nat} (_hb : 0 < b) (ha : a ≤ 1000000000) : (.i64 : IntKind).wrap ((a : Int).tdiv (b : Int)) = ((a / b : Nat) : Int) := by
  have := Nat.div_le_self a b
  rw [Int.tdiv_eq_ediv_of_nonneg (by omega), ← Int.natCast_ediv]
  generalize a / b = q at *
  exact IntWalk.i64_in _ (by omega)
theorem natI64 {q : Nat} (h : q ≤ 1000000000) : InI64 (q : Int) := by unfold InI64; omega
theorem remN {a b : Nat} : (a : Int).tmod (b : Int) = ((a % b : Nat) : Int) := by
  rw [Int.tmod_eq_emod_of_nonneg (by omega), ← Int.natCast_emod]
theorem dvd_of_rem {a b : Nat} (h : ((a % b : Nat) : Int) = 0) : b ∣ a := Nat.dvd_of_mod_eq_zero (by omega)
theorem ndvd_of_rem {a b : Nat} (h : ¬ ((a % b : Nat) : Int) = 0) : ¬ b ∣ a := fun g => h (by have := Nat.mod_eq_zero_of_dvd g; omega)
theorem lt_sq {m d : Nat} (hd : 0 < d) (h : (d : Int) > ((m / d : Nat) : Int)) : m < d * d := (Nat.div_lt_iff_lt_mul hd).1 (by omega)
def orM (m d : Nat) : Nat := if m ≤ 1 then 0 else m - d + 1
theorem orM_lt {m m' d d1 : Nat} (hm : 1 < m) (hd : d ≤ m) (hd1 : d ≤ d1) (hm' : m' ≤ m) (h : m' = 1 ∨ d1 + 1 ≤ m') : orM m' (d1 + 1) < orM m d := by
  unfold orM
  rw [if_neg (show ¬ m ≤ 1 by omega)]
  split <;> omega
end Go.AM
end

section
/- Square roots of classes among forms. -/
namespace Go.AM
open Go Go.RowKit
/-- whether g is a root of the class of f -/
def rtB (f g : Fm) : Bool := decide (rfE g = 0) && (decide (dsc g.a g.b g.c = dsc f.a f.b f.c) && decide (mlt g g = f.rd))
def rtsE (f : Fm) (l : List Fm) : Int := if rfE f ≠ 0 then rfE f else if (l.length : Int) > 400 then 1 else 0
def rtsL (f : Fm) (l : List Fm) : List Fm := if rtsE f l = 0 then l.filter (rtB f) else []
def rtK (f : Fm) (l : List Fm) (k : Nat) : List Fm := (l.take k).filter (rtB f)
theorem cmE_self {g : Fm} : cmE g g = rfE g := by
  unfold cmE
  by_cases h : rfE g = 0
  · rw [if_neg (by omega), if_neg (by omega), if_neg (by simp), h]
  · rw [if_pos h]
theorem cmV_self {g : Fm} (h : rfE g = 0) : cmV g g = mlt g g := by
  unfold cmV; rw [if_pos (by rw [cmE_self]; exact h)]
theorem rtK_yes {f : Fm} {l : List Fm} {k : Nat} (h : (k : Int) < l.length) (e : rtB f (l.getD k ⟨0, 0, 0⟩) = true) : rtK f l k ++ [l.getD k ⟨0, 0, 0⟩] = rtK f l (k + 1) := by
  unfold rtK; rw [take_getD (by omega), List.filter_append, List.filter_cons, if_pos e]; rfl
theorem rtK_no {f : Fm} {l : List Fm} {k : Nat} (h : (k : Int) < l.length) (e : rtB f (l.getD k ⟨0, 0, 0⟩) = false) : rtK f l k = rtK f l (k + 1) := by
  unfold rtK; rw [take_getD (by omega), List.filter_append, List.filter_cons, if_neg (by rw [e]; decide)]; simp
theorem rtK_end {f : Fm} {l : List Fm} {k : Nat} (h : ¬ (k : Int) < l.length) : rtK f l k = l.filter (rtB f) := by
  unfold rtK; rw [List.take_of_length_le (by omega)]
theorem rtK_len {f : Fm} {l : List Fm} {k : Nat} : (rtK f l k).length ≤ k := by
  unfold rtK
  have := List.length_filter_le (rtB f) (l.take k)
  rw [List.length_take] at this
  omega
theorem rtB_1 {f g : Fm} (h : (cmE g g == 0) = false) : rtB f g = false := by
  have := bF h
  rw [cmE_self] at this
  unfold rtB
  rw [decide_eq_false this]; rfl
theorem rtB_2 {f g : Fm} (h : decide (dsc g.a g.b g.c = dsc f.a f.b f.c) = false) : rtB f g = false := by
  unfold rtB
  rw [h, Bool.false_and, Bool.and_false]
theorem rtB_3 {f g : Fm} (h : (cmE g g == 0) = true) (h3 : decide ((cmV g g).a = f.rd.a ∧ (cmV g g).b = f.rd.b ∧ (cmV g g).c = f.rd.c) = false) : rtB f g = false := by
  have h0 := bT h
  rw [cmE_self] at h0
  have h3 := of_decide_eq_false h3
  rw [cmV_self h0] at h3
  unfold rtB
  rw [decide_eq_false (p := mlt g g = f.rd) (fun e => h3 (fm_eq.2 e)), Bool.and_false, Bool.and_false]
theorem rtB_4 {f g : Fm} (h : (cmE g g == 0) = true) (h2 : decide (dsc g.a g.b g.c = dsc f.a f.b f.c) = true) (h3 : decide ((cmV g g).a = f.rd.a ∧ (cmV g g).b = f.rd.b ∧ (cmV g g).c = f.rd.c) = true) : rtB f g = true := by
  have h0 := bT h
  rw [cmE_self] at h0
  have h3 := of_decide_eq_true h3
  rw [cmV_self h0] at h3
  unfold rtB
  rw [h2, decide_eq_true h0, decide_eq_true (fm_eq.1 h3)]; rfl
theorem rts_1 {f : Fm} {l : List Fm} (h : rfE f ≠ 0) : rtsE f l = rfE f ∧ rtsL f l = [] := by
  have e : rtsE f l = rfE f := by unfold rtsE; rw [if_pos h]
  exact ⟨e, by unfold rtsL; rw [e, if_neg h]⟩
theorem rts_2 {f : Fm} {l : List Fm} (h : rfE f = 0) (h1 : (l.length : Int) > 400) : rtsE f l = 1 ∧ rtsL f l = [] := by
  have e : rtsE f l = 1 := by unfold rtsE; rw [if_neg (by omega), if_pos h1]
  exact ⟨e, by unfold rtsL; rw [e]; rfl⟩
theorem rts_3 {f : Fm} {l : List Fm} (h : rfE f = 0) (h1 : ¬ (l.length : Int) > 400) : rtsE f l = 0 ∧ rtsL f l = l.filter (rtB f) := by
  have e : rtsE f l = 0 := by unfold rtsE; rw [if_neg (by omega), if_neg h1]
  exact ⟨e, by unfold rtsL; rw [e]; rfl⟩
end Go.AM
end

section
/- Slices of forms that the call owns: reading, writing, clearing the tail. -/
namespace Go.AM
open Go Go.RowKit
theorem FC_set : ∀ (fs : List Fm) (i : Nat) (_ : i < fs.length) (g : Fm), spl (i * 6) (FC g) (fs.flatMap FC) = (fs.set i g).flatMap FC
  | [], _, h, _ => absurd h (Nat.not_lt_zero _)
  | f :: fs, 0, _, g => by
    show spl 0 (FC g) (FC f ++ fs.flatMap FC) = FC g ++ fs.flatMap FC
    simp only [FC, FL, List.cons_append, List.nil_append, spl]
  | f :: fs, i + 1, h, g => by
    have e : (i + 1) * 6 = i * 6 + 6 := by omega
    have ih := FC_set fs i (by simpa using h) g
    rw [e]
    show spl (i * 6 + 6) (FC g) (FC f ++ fs.flatMap FC) = FC f ++ (fs.set i g).flatMap FC
    rw [← ih]
    simp only [FC, FL, List.cons_append, List.nil_append, spl]
theorem FC_one (f : Fm) : (FC f).length = 6 := rfl
section ops
variable {P : Program} {tt : TT} (hT : TTok P tt)
variable {dst : Option Nat} {ty : TypeId} {pos : String} {af : Array Edge} {gd : Option (Nat × Bool)} {d : Nat} {ρ : Operand → AV} {own : Own}
variable {T : TypeId} {i : TyI} {x y : Operand} {e : TypeId} {j : TyI}
include hT
theorem op_index_vecF {m : Nat} {k : IntKind} {n : Nat} {fs : List Fm} {be : TypeId} (ht : tt T = some i) (hs : i.sh = .sl e) (he : tt e = some j) (hj : j.size = 6) (hx : ρ x = .vec m) (hb : own m = some (FB be fs)) (hy : ρ y = .p (.c (.v (.int k (n : Int))))) (hn : n < fs.length) :
    Eff P ⟨dst, .indexAddr T x y, ty, pos, af, gd⟩ d ρ own (.loc m (n * 6)) [] none [m] := by
  have h := op_index_vec (dst := dst) (ty := ty) (pos := pos) (af := af) (gd := gd) (d := d) hT ht hs he hx hb rfl hj.symm hy ⟨by omega, by rw [hj]; show _ ≤ (fs.flatMap FC).length; rw [FC_len]; omega⟩ (by rw [hj]; rfl)
  rw [hj] at h
  exact h
theorem op_load_vecF {m n : Nat} {fs : List Fm} {be : TypeId} (ht : tt T = some i) (hg : i.sh.agg = true) (hz : i.size = 6) (hx : ρ x = .loc m (n * 6)) (hb : own m = some (FB be fs)) (hn : n < fs.length) :
    Eff P ⟨dst, .load T x, ty, pos, af, gd⟩ d ρ own (.p (.a (FC (fs.getD n ⟨0, 0, 0⟩)))) [] none [m] := by
  have e1 : fs.getD n ⟨0, 0, 0⟩ = fs[n] := by simp [List.getD, hn]
  rw [e1]
  exact op_load_agg hT ht hg hx hb (FC_drop fs n hn) (by rw [hz]; rfl)
theorem op_store_vecF {m n : Nat} {fs : List Fm} {be : TypeId} {g : Fm} (ht : tt T = some i) (hz : i.size = 6) (hx : ρ x = .loc m (n * 6)) (hy : ρ y = .p (.a (FC g))) (hb : own m = some (FB be fs)) (hn : n < fs.length) :
    Eff P ⟨dst, .store T x y, ty, pos, af, gd⟩ d ρ own .junk [(m, some (FB be (fs.set n g)))] none [m] :=
  op_store_at hT ht hx hy hb (by rw [hz]; rfl) (by show n * 6 + 6 ≤ (fs.flatMap FC).length; rw [FC_len]; omega) (FC_set fs n hn g)
end ops
theorem zeroCells_get {z : Array Value} {n i : Nat} (h : i < n * z.size) : (Builtin.zeroCells z n)[i]? = z[i % z.size]? := by
  have hz : 0 < z.size := by
    rcases Nat.eq_zero_or_pos z.size with h0 | h0
    · rw [h0] at h; omega
    · exact h0
  have hm : i % z.size < z.size := Nat.mod_lt _ hz
  unfold Builtin.zeroCells
  rw [Array.getElem?_map, Array.getElem?_eq_getElem (by simpa using h), Array.getElem?_eq_getElem hm]
  simp [hm]
theorem run_clear {P : Program} {T e be ty : TypeId} {j : TyI} {w : World} {k off q cap : Nat} {c : Array Value} {h : Hp} (hu : P.underlying T = some (.slice e)) (hj : TyOK P e j) (hk : w.heap[k]? = some (.cells c be (0, 0))) (hb : off + (q + 1) * j.size ≤ c.size) :
    ∃ w' c', (Builtin.clear_ #[T] ty #[.slice (some ⟨k, off, none⟩) (q + 1) cap]).run P w = .ok (.tuple #[]) w' ∧ SameBut k w w' ∧ w'.heap[k]? = some (.cells c' be (0, 0)) ∧ c'.size = c.size ∧ (∀ p, p < off → c'[p]? = c[p]?) ∧
      ∀ p, p < (q + 1) * j.size → ∃ y, c'[off + p]? = some y ∧ DRep h (j.zero.getD (p % j.size) (.v (.bool false))) y := by
  obtain ⟨z, z1, z2, z3, z4⟩ := hj.zero w
  have zr := z4 h
  have hsz : (Builtin.zeroCells z.cells (q + 1)).toList.length = (q + 1) * j.size := by rw [Array.length_toList, size_zeroCells, z2]
  have hget : ∀ p, p < (q + 1) * j.size → ∃ y, (Builtin.zeroCells z.cells (q + 1)).toList[p]? = some y ∧ DRep h (j.zero.getD (p % j.size) (.v (.bool false))) y := fun p hp => by
    have hjz : 0 < j.size := by
      rcases Nat.eq_zero_or_pos j.size with h0 | h0
      · rw [h0] at hp; omega
      · exact h0
    have hm : p % j.size < j.zero.length := by rw [z3]; exact Nat.mod_lt _ hjz
    obtain ⟨y, y1, y2⟩ := zr.get (p % j.size) _ (List.getElem?_eq_getElem hm)
    refine ⟨y, ?_, ?_⟩
    · rw [Array.getElem?_toList, zeroCells_get (by rw [z2]; exact hp), z2]; exact y1
    · rw [List.getD, List.getElem?_eq_getElem hm]; exact y2
  obtain ⟨w', c', k1, k2, k3, k4, k5⟩ := run_storeCells_block P k be (Builtin.zeroCells z.cells (q + 1)).toList off 0 w c hk (by rw [hsz]; omega) (fun v hv => by
    obtain ⟨p, hp⟩ := List.mem_iff_getElem?.1 hv
    have hlt := (List.getElem?_eq_some_iff.1 hp).1
    rw [hsz] at hlt
    obtain ⟨y, y1, y2⟩ := hget p hlt
    rw [hp] at y1; cases y1
    exact y2.one)
  refine ⟨w', c', ?_, k2, k3, k4, fun p hp => ?_, fun p hp => ?_⟩
  · simp [Builtin.clear_, run_underlying hu, z1, k1]
  · rw [k5 p, if_neg (by omega)]
  · obtain ⟨y, y1, y2⟩ := hget p hp
    refine ⟨y, ?_, y2⟩
    rw [k5, if_pos (by rw [hsz]; omega), ← y1]
    congr 1
    omega
theorem FC_take (fs : List Fm) (n : Nat) : (fs.take n).flatMap FC = (fs.flatMap FC).take (n * 6) := by
  induction fs generalizing n with
  | nil => simp
  | cons f fs ih =>
    cases n with
    | zero => simp
    | succ n =>
      have e : (n + 1) * 6 = (FC f).length + n * 6 := by rw [FC_one]; omega
      rw [List.take_succ_cons, List.flatMap_cons, List.flatMap_cons, e, List.take_length_add_append, ih]
theorem AWp_clearF {P : Program} {tt : TT} (hT : TTok P tt) {B : Bool} {N np : Nat} {Q : Exit → St → Prop} {s : St} {id t0 t5 t36 t37 t38 m T e be : Nat} {i j : TyI} {n : Nat} {fs : List Fm} {y1 y2 y3 y4 : TypeId} {p1 p2 p3 p4 : String} {a1 a2 a3 a4 : Array Edge}
    (ht : tt T = some i) (hs : i.sh = .sl e) (he : tt e = some j) (hj : j.size = 6) (hx : s.regs t0 = .vec m) (hb : s.own m = some (FB be fs)) (hy : s.regs t5 = .p (.c (.v (.int .i64 (n : Int))))) (hn : n < fs.length)
    (hd1 : (!Nat.beq t5 t36) = true) (hd2 : (!Nat.beq t36 t37) = true) (hN : (Nat.blt t36 N && Nat.blt t37 N && Nat.blt t38 N) = true)
    (h : ∀ zs : List DV, zs.length = (fs.length - n) * 6 → Q .normal ⟨upd (upd (upd s.regs t36 .junk) t37 .junk) t38 .junk, upd s.own m (some ⟨true, 6, be, (fs.take n).flatMap FC ++ zs⟩)⟩) :
    AWp P B N np (.region id #[⟨some t36, .move (.tmp t0), y1, p1, a1, none⟩, ⟨some t37, .move (.tmp t5), y2, p2, a2, none⟩, ⟨some t38, .slice T (.tmp t36) (some (.tmp t37)) none none, y3, p3, a3, none⟩,
      ⟨none, .call ⟨.builtin .clear, #[.tmp t38], #[T]⟩, y4, p4, a4, none⟩] false) Q s := by
  intro ro hB C hh r a w hnp hc
  simp only [Bool.and_eq_true, Nat.blt_eq] at hN
  obtain ⟨⟨n1, n2⟩, n3⟩ := hN
  have hd1' : t5 ≠ t36 := fun e => by rw [e] at hd1; simp at hd1
  have hd2' : t36 ≠ t37 := fun e => by rw [e] at hd2; simp at hd2
  have hs0 : a.tmps.size = N := hc.sz
  have hu := (hT T i ht).slice hs
  have r0 := hc.rg t0
  have r5 := hc.rg t5
  rw [hx] at r0; rw [hy] at r5
  have v0 : a.eval (.tmp t0) = r m := r0
  have v5 : a.eval (.tmp t5) = .int .i64 (n : Int) := rep_val r5
  have hold := hc.wk.ow m _ hb
  unfold BlkRep FB at hold
  simp only at hold
  obtain ⟨ad, l, cap, q1, q2, q3, q4, q5⟩ := hold
  rw [FC_len] at q2
  have hl : l = fs.length := by omega
  subst hl
  rcases q5 with q5 | ⟨k', c0, rfl, o2, o3, o4⟩
  · omega
  apply wpIn_region
  show wpOpsIn (Wd ro) 0 P _ _ [0, 1, 2, 3] a w
  rw [wpOpsIn_cons]
  refine wpOpIn_val (o := ⟨some t36, .move (.tmp t0), y1, p1, a1, none⟩) rfl rfl rfl (x := r m) (w' := w) (by simp only [execOp, v0, Sem.run_pure]) ?_
  rw [wpOpsIn_cons]
  have g1 : (a.put (some t36) (r m)).eval (.tmp t5) = .int .i64 (n : Int) := by
    rw [← v5]; simp [Act.put, Act.eval, hd1'.symm]
  refine wpOpIn_val (o := ⟨some t37, .move (.tmp t5), y2, p2, a2, none⟩) rfl rfl rfl (x := .int .i64 (n : Int)) (w' := w) (by simp only [execOp, g1, Sem.run_pure]) ?_
  rw [wpOpsIn_cons]
  have g2 : ((a.put (some t36) (r m)).put (some t37) (.int .i64 (n : Int))).eval (.tmp t36) = r m := by
    simp [Act.put, Act.eval, hs0, n1, hd2'.symm]
  have g3 : ((a.put (some t36) (r m)).put (some t37) (.int .i64 (n : Int))).eval (.tmp t37) = .int .i64 (n : Int) := by
    simp [Act.put, Act.eval, hs0, n2]
  obtain ⟨q, hq⟩ : ∃ q, fs.length - n = q + 1 := ⟨fs.length - n - 1, by omega⟩
  have hel : P.elem T = e := by simp [Program.elem, hu]
  have hu' : P.underlying T = some (.slice (P.elem T)) := by rw [hel]; exact hu
  have hcl : sliced (some ⟨k', 0, none⟩) (n : Int).toNat fs.length cap j.size = .slice (some ⟨k', n * 6, none⟩) (q + 1) (cap - n) := by
    simp only [sliced, Int.toNat_natCast]
    rw [if_neg (by omega), hq, hj]
    simp [Addr.add_lit]
  refine wpOpIn_val (o := ⟨some t38, .slice T (.tmp t36) (some (.tmp t37)) none none, y3, p3, a3, none⟩) rfl rfl rfl (x := .slice (some ⟨k', n * 6, none⟩) (q + 1) (cap - n)) (w' := w) (by
    simp only [execOp, g2.trans q1, Option.map_some, Option.map_none, g3, Sem.run_bind, run_sliceAt_slice w T _ _ _ _ hu', run_slice_l w T _ fs.length cap hu' .i64 (n : Int) (by omega) (by omega), hel, (hT e j he).size, Result.andThen_ok, Sem.run_pure, hcl]) ?_
  rw [wpOpsIn_cons]
  have g4 : (((a.put (some t36) (r m)).put (some t37) (.int .i64 (n : Int))).put (some t38) (.slice (some ⟨k', n * 6, none⟩) (q + 1) (cap - n))).eval (.tmp t38) = .slice (some ⟨k', n * 6, none⟩) (q + 1) (cap - n) := by
    simp [Act.put, Act.eval, hs0, n3]
  obtain ⟨w', c', k1, k2, k3, k4, k5, k6⟩ := run_clear (T := T) (ty := y4) (q := q) (cap := cap - n) (off := n * 6) (h := hh) hu (hT e j he) o2 (by
    rw [hj, o3]
    have : (n + (q + 1)) * 6 ≤ cap * 6 := Nat.mul_le_mul_right 6 (by omega)
    omega)
  rw [hj] at k6
  refine wpOpIn_val (o := ⟨none, .call ⟨.builtin .clear, #[.tmp t38], #[T]⟩, y4, p4, a4, none⟩) rfl rfl rfl (x := .tuple #[]) (w' := w') (by
    apply run_builtin
    simp only [List.map_toArray, List.map_cons, List.map_nil, g4, builtin, Sem.run_bind, k1, Result.andThen_ok, Sem.run_pure]) ?_
  let zs : List DV := (List.range ((q + 1) * 6)).map fun p => j.zero.getD (p % 6) (.v (.bool false))
  have hzl : zs.length = (q + 1) * 6 := by simp [zs]
  show ∃ s' h' r', Q .normal s' ∧ Conc C N h' r' s' _ _
  refine ⟨_, hh, r, h zs (by rw [hzl, hq]), ?_, ?_, ?_, ?_⟩
  · simp [Act.put]; exact hs0
  · exact hc.df
  · have r1 := (show RegsOK hh r s.regs a from hc.rg).put (dst := some t36) (fun d' e => by cases e; omega) (v := .junk) (x := r m) trivial
    have r2 := r1.put (dst := some t37) (fun d' e => by cases e; simp [Act.put]; omega) (v := .junk) (x := .int .i64 (n : Int)) trivial
    exact r2.put (dst := some t38) (fun d' e => by cases e; simp [Act.put]; omega) (v := .junk) (x := .slice (some ⟨k', n * 6, none⟩) (q + 1) (cap - n)) trivial
  · refine hc.wk.write (by rw [hb]; simp) (i := k') (by rw [q1]; simp only [hblk]; rw [if_neg (by omega)]) k2 ?_ (by intro j hj; cases hj)
    unfold BlkRep
    simp only
    have hlen : ((fs.take n).flatMap FC ++ zs).length = fs.length * 6 := by
      rw [List.length_append, FC_len, hzl, List.length_take]; omega
    refine ⟨_, fs.length, cap, q1, by rw [hlen], q3, q4, .inr ⟨k', c', rfl, k3, by rw [k4, o3], ?_⟩⟩
    rw [DReps.iff]
    intro p dv hp
    have htl : ((fs.take n).flatMap FC).length = n * 6 := by rw [FC_len, List.length_take]; congr 1; omega
    by_cases hpn : p < n * 6
    · rw [List.getElem?_append_left (by rw [htl]; exact hpn), FC_take, List.getElem?_take_of_lt hpn] at hp
      rw [k5 p hpn]
      exact o4.get _ _ hp
    · rw [List.getElem?_append_right (by rw [htl]; omega), htl] at hp
      have hlt := (List.getElem?_eq_some_iff.1 hp).1
      rw [hzl] at hlt
      obtain ⟨y, y1, y2⟩ := k6 (p - n * 6) hlt
      have e1 : n * 6 + (p - n * 6) = p := by omega
      rw [e1] at y1
      refine ⟨y, y1, ?_⟩
      simp only [zs, List.getElem?_map, List.getElem?_range hlt, Option.map_some, Option.some.injEq] at hp
      rw [← hp]; exact y2
end Go.AM
end

section
/- The first place where a test says yes; what is left when a test deletes. -/
namespace Go.AM
open Go Go.RowKit
/-- the first place where a test says yes, or -1 -/
def fiV (p : Fm → Bool) (l : List Fm) : Int := if l.findIdx p < l.length then (l.findIdx p : Nat) else -1
theorem fi_no {p : Fm → Bool} : ∀ {l : List Fm} {k : Nat}, k ≤ l.findIdx p → (k : Int) < l.length → p (l.getD k ⟨0, 0, 0⟩) = false → k + 1 ≤ l.findIdx p := by
  intro l k h1 h2 h3
  rcases Nat.lt_or_ge k (l.findIdx p) with h | h
  · exact h
  · have e : l.findIdx p = k := by omega
    have hk : k < l.length := by omega
    have hlt : l.findIdx p < l.length := by omega
    have := List.findIdx_getElem (w := hlt)
    have e2 : l.getD k ⟨0, 0, 0⟩ = l[l.findIdx p] := by
      rw [List.getD, List.getElem?_eq_getElem hk]; simp [e]
    rw [e2, this] at h3
    cases h3
theorem fi_yes {p : Fm → Bool} {l : List Fm} {k : Nat} (h1 : k ≤ l.findIdx p) (h2 : (k : Int) < l.length) (h3 : p (l.getD k ⟨0, 0, 0⟩) = true) : fiV p l = k := by
  have hk : k < l.length := by omega
  have e : l.getD k ⟨0, 0, 0⟩ = l[k] := by rw [List.getD, List.getElem?_eq_getElem hk]; rfl
  rw [e] at h3
  have h4 : l.findIdx p ≤ k := by
    rcases Nat.lt_or_ge k (l.findIdx p) with h | h
    · have := List.not_of_lt_findIdx h
      rw [h3] at this; cases this
    · exact h
  have h5 : l.findIdx p = k := by omega
  unfold fiV
  rw [h5, if_pos hk]
theorem fi_end {p : Fm → Bool} {l : List Fm} {k : Nat} (h1 : k ≤ l.findIdx p) (h2 : ¬ (k : Int) < l.length) : fiV p l = -1 := by
  unfold fiV
  rw [if_neg (by omega)]
theorem fi_none {p : Fm → Bool} {l : List Fm} (h : fiV p l = -1) : l.filter (fun g => !p g) = l := by
  unfold fiV at h
  split at h
  · omega
  · next hk =>
    rw [List.filter_eq_self]
    intro g hg
    have := List.findIdx_lt_length_of_exists (xs := l) (p := p)
    cases hp : p g with
    | false => rfl
    | true => exact absurd (this ⟨g, hg, hp⟩) hk
theorem fi_some {p : Fm → Bool} {l : List Fm} (h : ¬ fiV p l = -1) : ∃ k : Nat, fiV p l = k ∧ k < l.length ∧ p (l.getD k ⟨0, 0, 0⟩) = true ∧ (l.take k).filter (fun g => !p g) = l.take k := by
  unfold fiV at h ⊢
  split at h
  · next hk =>
    refine ⟨l.findIdx p, by rw [if_pos hk], hk, ?_, ?_⟩
    · rw [List.getD, List.getElem?_eq_getElem hk]
      exact List.findIdx_getElem
    · rw [List.filter_eq_self]
      intro g hg
      obtain ⟨i, hi, rfl⟩ := List.mem_iff_getElem.1 hg
      rw [List.length_take] at hi
      rw [List.getElem_take]
      have := List.not_of_lt_findIdx (p := p) (xs := l) (i := i) (by omega)
      rw [this]; rfl
  · exact absurd rfl h
/-- rounds of slices.DeleteFunc: j is read next, i is written next -/
structure DlI (p : Fm → Bool) (l : List Fm) (i j : Nat) (s : List Fm) : Prop where
  jl : j ≤ l.length
  ij : i < j
  sl : s.length = l.length
  tk : s.take i = (l.take j).filter fun g => !p g
  dr : s.drop j = l.drop j
theorem DlI.start {p : Fm → Bool} {l : List Fm} {k : Nat} (h1 : k < l.length) (h2 : p (l.getD k ⟨0, 0, 0⟩) = true) (h3 : (l.take k).filter (fun g => !p g) = l.take k) : DlI p l k (k + 1) l := by
  refine ⟨h1, by omega, rfl, ?_, rfl⟩
  rw [take_getD h1, List.filter_append, h3, List.filter_cons, if_neg (by rw [h2]; decide)]
  simp
theorem DlI.get {p : Fm → Bool} {l s : List Fm} {i j : Nat} (h : DlI p l i j s) : s.getD j ⟨0, 0, 0⟩ = l.getD j ⟨0, 0, 0⟩ := by
  have h1 := congrArg (fun x => x.getD 0 ⟨0, 0, 0⟩) h.dr
  simpa [List.getD] using h1
theorem DlI.no {p : Fm → Bool} {l s : List Fm} {i j : Nat} (h : DlI p l i j s) (hj : (j : Int) < l.length) (hp : p (l.getD j ⟨0, 0, 0⟩) = true) : DlI p l i (j + 1) s := by
  have hj' : j < l.length := by omega
  refine ⟨hj', by have := h.ij; omega, h.sl, ?_, ?_⟩
  · rw [take_getD hj', List.filter_append, List.filter_cons, if_neg (by rw [hp]; decide), h.tk]; simp
  · have := congrArg (List.drop 1) h.dr
    simpa [List.drop_drop] using this
theorem DlI.yes {p : Fm → Bool} {l s : List Fm} {i j : Nat} (h : DlI p l i j s) (hj : (j : Int) < l.length) (hp : p (l.getD j ⟨0, 0, 0⟩) = false) : DlI p l (i + 1) (j + 1) (s.set i (l.getD j ⟨0, 0, 0⟩)) := by
  have hj' : j < l.length := by omega
  have hij := h.ij
  have hsl := h.sl
  refine ⟨hj', by omega, by rw [List.length_set]; exact hsl, ?_, ?_⟩
  · rw [take_getD hj', List.filter_append, List.filter_cons, if_pos (by rw [hp]; decide), ← h.tk]
    rw [take_getD (by rw [List.length_set]; omega)]
    congr 1
    · rw [List.take_set_of_le (Nat.le_refl i)]
    · simp [List.getD, show i < s.length by omega]
  · rw [List.drop_set_of_lt (by omega)]
    have := congrArg (List.drop 1) h.dr
    simpa [List.drop_drop] using this
theorem DlI.fin {p : Fm → Bool} {l s : List Fm} {i j : Nat} (h : DlI p l i j s) (hj : ¬ (j : Int) < l.length) : s.take i = l.filter (fun g => !p g) ∧ i < s.length := by
  have h1 := h.tk
  rw [List.take_of_length_le (l := l) (by omega)] at h1
  exact ⟨h1, by have := h.ij; have := h.jl; have := h.sl; omega⟩
section ops
variable {P : Program} {tt : TT} (hT : TTok P tt)
variable {dst : Option Nat} {ty : TypeId} {pos : String} {af : Array Edge} {gd : Option (Nat × Bool)} {d : Nat} {ρ : Operand → AV} {own : Own}
variable {T yT : TypeId} {i : TyI} {x y : Operand} {e : TypeId} {j : TyI}
include hT
/-- a slice that holds something is not nil -/
theorem op_eqnilF {l : List Fm} (ht : tt T = some i) (hs : i.sh = .sl e) (hx : ρ x = .p (.c (FS l))) (hl : 0 < l.length) :
    Eff P ⟨dst, .binOp .eql T x (.const (.slice none 0 0)) yT, ty, pos, af, gd⟩ d ρ own (.p (.c (.v (.bool false)))) [] none [] :=
  Eff.value fun C h r own' a w hrep _ hw => by
    have e1 := hrep x (by simp [Op.operands])
    rw [hx] at e1
    obtain ⟨ad, cap, h1, h2, h3⟩ := rep_slice_src hw (show DRep h (.sl l.length (l.flatMap FC)) _ from e1)
    rcases h3 with h3 | ⟨A, rfl, _⟩
    · have := FC_len l
      rw [h3] at this
      simp at this
      omega
    · refine ⟨.bool false, ?_, mk_bool _ _ _⟩
      have e2 : a.eval (.const (.slice none 0 0)) = .slice none 0 0 := rfl
      simp only [execOp, h1, e2, eqGuard_at_slice, Sem.run_bind, Sem.run_pure, Result.andThen_ok, Lib.run_eql_slice_nil w T e _ _ _ 0 0 ((hT T i ht).slice hs), Option.isNone_some]
theorem op_len_vecF {m : Nat} {fs : List Fm} {be : TypeId} (ht : tt T = some i) (hs : i.sh = .sl e) (hx : ρ x = .vec m) (hb : own m = some (FB be fs)) : Eff P ⟨dst, .call ⟨.builtin .len, #[x], #[T]⟩, ty, pos, af, gd⟩ d ρ own (.p (.c (.v (.int .i64 (fs.length : Nat))))) [] none [m] :=
  op_len_vec hT ht hs hx hb rfl rfl (FC_len fs).symm
theorem op_appendFS {m : Nat} {l : List Fm} (ht : tt T = some i) (hs : i.sh = .sl e) (he : tt e = some j) (hj : j.size = 6) (hjb : Nat.ble j.bytes 192 = true) (hx : ρ x = .vec m) (hb : own m = some (FB e [])) (hy : ρ y = .p (.c (FS l))) (hfit : l.length ≤ 100000000) (hmd : m ≠ d) :
    Eff P ⟨dst, .call ⟨.builtin .append, #[x, y], #[T, T]⟩, ty, pos, af, gd⟩ d ρ own (.vec d) [(m, none)] (some (FB e l)) [m] := by
  have h := op_append (dst := dst) (ty := ty) (pos := pos) (af := af) (gd := gd) (d := d) hT ht hs he hx hb rfl hj.symm rfl hy (by rfl) (by rw [hj]; exact FC_len l) (by rw [hj]; exact hjb) (by rw [hj]; show 32 * (0 + _) ≤ _; omega) (by rw [hj]; rfl) hmd
  rw [hj] at h
  exact h
end ops
theorem CallM.ren1O {P : Program} {f : FuncId} {args args2 : List AV} {b : Blk} {res : AV} (m : Nat) (hc : CallM P f args (upd O 0 (some b)) res O) (hres : men res = []) (ha : args2 = args.map (renV fun _ => m)) :
    CallM P f args2 (upd O m (some b)) res O := by
  have z : ∀ (b : Blk) (k n : Nat), upd O k (some b) n ≠ none → n = k := fun b k n hn => by
    by_cases e : n = k
    · exact e
    · rw [upd_ne _ _ _ _ e] at hn; exact absurd rfl hn
  exact hc.ren (fun _ => m) hres ha (fun p q hp hq _ => by rw [z _ _ _ hp, z _ _ _ hq]) (fun p hp => by rw [z _ _ _ hp]; simp) (fun n hn => ⟨0, by simp, (z _ _ _ hn).symm⟩) (fun _ _ => rfl) (fun n hn => absurd rfl hn)
theorem zs_len {fs : List Fm} {n : Nat} {zs : List DV} (h : zs.length = (fs.length - n) * 6) (hn : n < fs.length) : fs.length * 6 = ((fs.take n).flatMap FC ++ zs).length := by
  rw [List.length_append, FC_len, List.length_take, h]; omega
theorem zs_take {fs : List Fm} {n : Nat} {zs : List DV} (hn : n < fs.length) : ((fs.take n).flatMap FC ++ zs).take (((n : Nat) : Int).toNat * 6) = (fs.take n).flatMap FC := by
  rw [Int.toNat_natCast]
  have e : ((fs.take n).flatMap FC).length = n * 6 := by rw [FC_len, List.length_take]; congr 1; omega
  rw [← e, List.take_left']
  rfl
theorem dl_end {fs l : List Fm} {n : Nat} (hn : n < fs.length) (h : fs.take n = l) : AV.p (.c (.sl (((n : Nat) : Int).toNat) ((fs.take n).flatMap FC))) = .p (.c (FS l)) := by
  subst h
  unfold FS
  rw [Int.toNat_natCast, List.length_take, Nat.min_eq_left (by omega)]
theorem rtN_1 {f g : Fm} (h : rfE g ≠ 0) : true = !rtB f g := by unfold rtB; rw [decide_eq_false h]; rfl
theorem rtN_2 {f g : Fm} {d : Int} (hd : d = dsc f.a f.b f.c) (h : cmpI (dsc g.a g.b g.c) d ≠ 0) : true = !rtB f g := by
  have h1 : ¬ dsc g.a g.b g.c = dsc f.a f.b f.c := fun e => h (cmpI_eq_zero.2 (by rw [e, hd]))
  unfold rtB; rw [decide_eq_false h1, Bool.false_and, Bool.and_false]; rfl
theorem rtN_3 {f g w : Fm} {d : Int} (hd : d = dsc f.a f.b f.c) (hw : w = f.rd) (h0 : rfE g = 0) (h : cmpI (dsc g.a g.b g.c) d = 0) : (!decide ((mlt g g).a = w.a ∧ (mlt g g).b = w.b ∧ (mlt g g).c = w.c)) = !rtB f g := by
  have h1 : dsc g.a g.b g.c = dsc f.a f.b f.c := by rw [cmpI_eq_zero.1 h, hd]
  subst hw
  unfold rtB
  rw [decide_eq_true h0, decide_eq_true h1, Bool.true_and, Bool.true_and]
  congr 1
  rw [Bool.eq_iff_iff, decide_eq_true_iff, decide_eq_true_iff]; exact fm_eq
theorem rts_sub {f : Fm} {l : List Fm} {e : Int} (h : rtsE f l = e ∧ rtsL f l = []) : Sub (.t [.c (.v (.slice none 0 0)), PE e]) (.t [.c (FS (rtsL f l)), PE (rtsE f l)]) := by
  rw [h.1, h.2]
  exact Sub.tup ⟨DSub.nil_sl, DSub.refl _, trivial⟩
theorem rts_fin {f : Fm} {l : List Fm} (h : rtsE f l = 0 ∧ rtsL f l = l.filter (rtB f)) : AV.t [.c (FS (l.filter fun g => !!rtB f g)), PE 0] = .t [.c (FS (rtsL f l)), PE (rtsE f l)] := by
  rw [h.1, h.2]
  simp only [Bool.not_not]
end Go.AM
end

section
/- Numbers with a square root added, as modular.half powers them. -/
namespace Go.AM
open Go Go.RowKit
def hmM (w p : Int) (u v : Int × Int) : Int × Int := ((u.1 * v.1 + w * (u.2 * v.2)) % p, (u.1 * v.2 + u.2 * v.1) % p)
def hfS (w p : Int) (n : Nat) (t : Int) : Nat → (Int × Int) × (Int × Int)
  | 0 => ((1, 0), (t, 1))
  | i + 1 => (if n / 2 ^ i % 2 = 1 then hmM w p (hfS w p n t i).1 (hfS w p n t i).2 else (hfS w p n t i).1, hmM w p (hfS w p n t i).2 (hfS w p n t i).2)
def hfV (t w p : Int) : Int := (hfS w p ((p + 1) / 2).natAbs t (blen ((p + 1) / 2).natAbs)).1.1
theorem hmM_L {w p : Int} {k : Nat} (hp : L k p) (h0 : 0 < p) (u v : Int × Int) : L k (hmM w p u v).1 ∧ L k (hmM w p u v).2 := by
  unfold hmM
  refine ⟨hp.of_le ?_, hp.of_le ?_⟩
  · have := Int.emod_nonneg (u.1 * v.1 + w * (u.2 * v.2)) (show p ≠ 0 by omega)
    have := Int.emod_lt_of_pos (u.1 * v.1 + w * (u.2 * v.2)) h0
    omega
  · have := Int.emod_nonneg (u.1 * v.2 + u.2 * v.1) (show p ≠ 0 by omega)
    have := Int.emod_lt_of_pos (u.1 * v.2 + u.2 * v.1) h0
    omega
theorem hfS_L {w p t : Int} {n : Nat} {k : Nat} (hp : L k p) (h0 : 0 < p) (ht : L k t) : ∀ i, (L k (hfS w p n t i).1.1 ∧ L k (hfS w p n t i).1.2) ∧ L k (hfS w p n t i).2.1 ∧ L k (hfS w p n t i).2.2
  | 0 => by
    have h1 : L k 1 := by unfold L; exact Nat.one_lt_two_pow (Nat.ne_of_gt (Nat.two_pow_pos k))
    have h2 : L k 0 := by unfold L; exact Nat.two_pow_pos _
    exact ⟨⟨h1, h2⟩, ht, h1⟩
  | i + 1 => by
    have ih := hfS_L (w := w) (n := n) hp h0 ht i
    refine ⟨?_, hmM_L hp h0 _ _⟩
    show L k (ite _ _ _ : Int × Int).1 ∧ L k (ite _ _ _ : Int × Int).2
    split
    · exact hmM_L hp h0 _ _
    · exact ih.1
theorem hf_yes {w p t : Int} {n i : Nat} (h : n / 2 ^ i % 2 = 1) : hmM w p (hfS w p n t i).1 (hfS w p n t i).2 = (hfS w p n t (i + 1)).1 := by
  show _ = (ite _ _ _ : Int × Int)
  rw [if_pos h]
theorem hf_no {w p t : Int} {n i : Nat} (h : ¬ n / 2 ^ i % 2 = 1) : (hfS w p n t i).1 = (hfS w p n t (i + 1)).1 := by
  show _ = (ite _ _ _ : Int × Int)
  rw [if_neg h]
end Go.AM
end

section
/- Scopes; the search of modular.Sqrt. -/
namespace Go.AM
open Go Go.RowKit
section scope
variable {F : Fence} {n : Nat} {P : Program} {Q : Exit → Act → World → Prop} {a : Act} {w : World} {b : Frame} {k : List Item} {cs : List Frame}
theorem stepR_scope {c : Code} : step P (lone (b.atR a (.code (.scope c) :: k)) cs w) = .next (lone (b.atR a (.code c :: .inScope c :: k)) cs w) :=
  step_lone_go (by simp [stepG, stepG.exec, Frame.atR])
theorem stepR_inScope {c : Code} : step P (lone (b.atR a (.inScope c :: k)) cs w) = .next (lone (b.atR a k) cs w) :=
  step_lone_go (by simp [stepG, stepG.exec, Frame.atR])
theorem wpIn_scope {c : Code} (h : c.wpIn F n P (fun e a w => match e with | .goto _ => False | e => Q e a w) a w) : (Code.scope c).wpIn F n P Q a w := by
  intro b k cs hro hb hr
  have h0 : (lone (b.atR a (.code (.scope c) :: k)) cs w).fenced P F := fenced_calm hb hr rfl
  obtain ⟨e, a₁, w₁, hq, harr⟩ := h b (.inScope c :: k) cs hro hb hr
  cases e with
  | normal => exact ⟨.normal, a₁, w₁, hq, .head h0 stepR_scope (StepsIn.trans harr (.one (fenced_calm hb hr rfl) stepR_inScope))⟩
  | exit id' =>
    have hx : exitTo id' (.inScope c :: k) = exitTo id' k := by simp [exitTo]
    exact ⟨.exit id', a₁, w₁, hq, fun k' hk => .head h0 stepR_scope (harr.1 k' (by rw [hx]; exact hk)),
      fun hr' hk => let ⟨k₁, h1, h2⟩ := harr.2 hr' (by rw [hx]; exact hk); ⟨k₁, h1, .head h0 stepR_scope h2⟩⟩
  | goto l => exact hq.elim
  | ret => exact ⟨_, a₁, w₁, hq, .of_steps (.one h0 stepR_scope) harr⟩
  | panic ch => exact ⟨_, a₁, w₁, hq, .of_steps (.one h0 stepR_scope) harr⟩
  | outgrown => exact ⟨_, a₁, w₁, hq, .of_steps (.one h0 stepR_scope) harr⟩
end scope
def ANoGo (Q : Exit → St → Prop) : Exit → St → Prop
  | .goto _, _ => False
  | e, s => Q e s
theorem AWp_scope {P : Program} {B : Bool} {N np : Nat} {Q : Exit → St → Prop} {s : St} {c : Code} (h : AWp P B N np c (ANoGo Q) s) : AWp P B N np (.scope c) Q s := by
  intro ro hB C hh r a w hn hc
  refine wpIn_scope (wpIn_mono (h ro hB C hh r a w hn hc) ?_)
  rintro e a' w' ⟨s', h', r', q, k⟩
  cases e with
  | goto l => exact q.elim
  | _ => exact ⟨s', h', r', q, k⟩
def sqW (a p : Int) (t : Nat) : Int := ((t : Int) * (t : Int) - a) % p
def sqStop (a p : Int) (t : Nat) : Bool := decide (sqW a p t = 0) || decide (kr (sqW a p t) p = -1)
def sqF (a p : Int) : Nat → Nat → Nat
  | 0, t => t
  | k + 1, t => if sqStop a p t then t else sqF a p k (t + 1)
def sqT (a p : Int) : Nat := sqF a p 2000 0
def sqR0 (a p : Int) : Int := if sqW a p (sqT a p) = 0 then (sqT a p : Int) else hfV (sqT a p : Int) (sqW a p (sqT a p)) p
def sqR1 (r p : Int) : Int := if -r % p < r then -r % p else r
/-- what modular.Sqrt answers to a, reduced, for p at least 2 -/
def sqE (a p : Int) : Int := if oddB p = false ∨ a = 0 then 0 else if kr a p = 1 then 0 else 6
def sqV (a p : Int) : Int := if oddB p = false ∨ a = 0 then a else if kr a p = 1 then sqR1 (sqR0 a p) p else 0
structure SqI (a p : Int) (t : Nat) : Prop where
  le : t ≤ 2000
  eq : sqF a p (2000 - t) t = sqT a p
theorem SqI.start {a p : Int} : SqI a p 0 := ⟨Nat.zero_le _, rfl⟩
theorem SqI.stop {a p : Int} {t : Nat} (h : SqI a p t) (hs : sqStop a p t = true) : t = sqT a p := by
  have e := h.eq
  have hl := h.le
  cases hk : 2000 - t with
  | zero => rw [hk] at e; exact e
  | succ k => rw [hk] at e; unfold sqF at e; rw [if_pos hs] at e; exact e
theorem SqI.next {a p : Int} {t : Nat} (h : SqI a p t) (hs : sqStop a p t = false) (hT : sqStop a p (sqT a p) = true) : SqI a p (t + 1) ∧ t < 2000 := by
  have e := h.eq
  have hl := h.le
  cases hk : 2000 - t with
  | zero =>
    rw [hk] at e
    have e' : t = sqT a p := e
    rw [← e', hs] at hT; cases hT
  | succ k =>
    rw [hk] at e; unfold sqF at e
    rw [if_neg (by rw [hs]; decide)] at e
    exact ⟨⟨by omega, by rw [show 2000 - (t + 1) = k by omega]; exact e⟩, by omega⟩
theorem sqStop_z {a p : Int} {t : Nat} (h : sgn (sqW a p t) = 0) : sqStop a p t = true := by
  unfold sqStop; rw [decide_eq_true (sgn_zero_iff.1 h)]; rfl
theorem sqStop_k {a p : Int} {t : Nat} (h : kr (sqW a p t) p = -1) : sqStop a p t = true := by
  unfold sqStop; rw [decide_eq_true h, Bool.or_true]
theorem sqStop_n {a p : Int} {t : Nat} (h1 : ¬ sgn (sqW a p t) = 0) (h2 : ¬ kr (sqW a p t) p = -1) : sqStop a p t = false := by
  unfold sqStop; rw [decide_eq_false (fun e => h1 (sgn_zero_iff.2 e)), decide_eq_false h2]; rfl
theorem sqW0 {a p : Int} : -a % p = sqW a p 0 := by unfold sqW; congr 1; simp
theorem sqW_b {a p : Int} {t : Nat} (h : 0 < p) : 0 ≤ sqW a p t ∧ sqW a p t < p := ⟨Int.emod_nonneg _ (by omega), Int.emod_lt_of_pos _ h⟩
theorem sqW_succ {a p : Int} {t : Nat} : (((t : Int) + 1) * ((t : Int) + 1) - a) % p = sqW a p (t + 1) := by
  unfold sqW; rw [Int.natCast_add]; rfl
theorem sqF_le {a p : Int} : ∀ k t, sqF a p k t ≤ t + k
  | 0, t => Nat.le_refl _
  | k + 1, t => by
    unfold sqF
    split
    · omega
    · have := sqF_le (a := a) (p := p) k (t + 1); omega
theorem sqT_le {a p : Int} : sqT a p ≤ 2000 := by
  have := sqF_le (a := a) (p := p) 2000 0
  unfold sqT; omega
theorem sqT_L {a p : Int} : L 10 ((sqT a p : Nat) : Int) := by
  have := sqT_le (a := a) (p := p)
  exact (show L 6 _ by unfold L; omega).mono (by decide)
theorem sqW_L {a p : Int} {t : Nat} (hp : L 10 p) (h0 : 0 < p) : L 10 (sqW a p t) := hp.of_le (by have := sqW_b (a := a) (t := t) h0; omega)
theorem sqR0_L {a p : Int} (hp : L 10 p) (h0 : 0 < p) : L 10 (sqR0 a p) := by
  unfold sqR0
  split
  · exact sqT_L
  · exact (hfS_L hp h0 sqT_L _).1.1
theorem sqR0_z {a p : Int} (h : sgn (sqW a p (sqT a p)) = 0) : ((sqT a p : Nat) : Int) = sqR0 a p := by
  unfold sqR0; rw [if_pos (sgn_zero_iff.1 h)]
theorem sqR0_n {a p : Int} (h : ¬ sgn (sqW a p (sqT a p)) = 0) : hfV ((sqT a p : Nat) : Int) (sqW a p (sqT a p)) p = sqR0 a p := by
  unfold sqR0; rw [if_neg (fun e => h (sgn_zero_iff.2 e))]
theorem sq_e1 {a p : Int} (h : oddB p = false ∨ a = 0) : AV.t [PI a, PE 0] = .t [PI (sqV a p), PE (sqE a p)] := by
  unfold sqV sqE; rw [if_pos h, if_pos h]
theorem sq_e2 {a p : Int} (h1 : ¬ oddB p = false) (h2 : a ≠ 0) (h : kr a p ≠ 1) : AV.t [PI 0, PE 6] = .t [PI (sqV a p), PE (sqE a p)] := by
  have h0 : ¬ (oddB p = false ∨ a = 0) := fun e => e.elim h1 h2
  unfold sqV sqE; rw [if_neg h0, if_neg h0, if_neg h, if_neg h]
theorem sq_e3 {a p x : Int} (h1 : ¬ oddB p = false) (h2 : a ≠ 0) (h : kr a p = 1) (hx : x = sqR1 (sqR0 a p) p) : AV.t [PI x, PE 0] = .t [PI (sqV a p), PE (sqE a p)] := by
  have h0 : ¬ (oddB p = false ∨ a = 0) := fun e => e.elim h1 h2
  unfold sqV sqE; rw [if_neg h0, if_neg h0, if_pos h, if_pos h, hx]
theorem sqR1_y {r p : Int} (h : cmpI (-r % p) r < 0) : -r % p = sqR1 r p := by unfold sqR1; rw [if_pos (cmpI_lt_zero.1 h)]
theorem sqR1_n {r p : Int} (h : ¬ cmpI (-r % p) r < 0) : r = sqR1 r p := by unfold sqR1; rw [if_neg (fun e => h (cmpI_lt_zero.2 e))]
end Go.AM
end

section
/- The middle coefficient of a form over an odd prime. -/
namespace Go.AM
open Go Go.RowKit
def mdP (d : Int) : Int := if oddB d then 1 else 0
def mdV (d p : Int) : Int := if sqE (d % p) p = 0 then (if sqV (d % p) p % 2 = mdP d then sqV (d % p) p else p - sqV (d % p) p) else 0
theorem md_no {d p : Int} (h : ¬ sqE (d % p) p = 0) : AV.t [.c (.v (.int .i64 0)), PB false] = .t [.c (.v (.int .i64 (mdV d p))), PB (decide (sqE (d % p) p = 0))] := by
  unfold mdV; rw [if_neg h, decide_eq_false h]
theorem md_yes {d p : Int} (h : sqE (d % p) p = 0) : AV.t [.c (.v (.int .i64 (if decide (sqV (d % p) p % 2 = mdP d) then sqV (d % p) p else p - sqV (d % p) p))), PB true] = .t [.c (.v (.int .i64 (mdV d p))), PB (decide (sqE (d % p) p = 0))] := by
  unfold mdV
  rw [if_pos h, decide_eq_true h]
  simp only [decide_eq_true_eq]
theorem mdP_cases (d : Int) : mdP d = 0 ∨ mdP d = 1 := by unfold mdP; split <;> simp
theorem mdP_odd {d : Int} (h : oddB d = true) : (1 : Int) = mdP d := by unfold mdP; rw [if_pos h]
theorem mdP_even {d : Int} (h : oddB d = false) : (0 : Int) = mdP d := by unfold mdP; rw [if_neg (by rw [h]; decide)]
theorem md_other {d p r : Int} (ho : p % 2 = 1) (h : decide (r % 2 = mdP d) = false) : decide ((p - r) % 2 = mdP d) = true := by
  have h1 := of_decide_eq_false h
  have h2 := mdP_cases d
  rw [decide_eq_true_iff]; omega
theorem ix3 {c : Bool} {x y z : Int} : ([DV.v (.int .i64 x), .v (.int .i64 y), .v (.int .i64 z)].drop ((if c then (0 : Int) else 1).toNat * 1))[0]? = some (.v (.int .i64 (if c then x else y))) := by cases c <;> rfl
theorem ix3b (c : Bool) : 0 ≤ (if c then (0 : Int) else 1) ∧ (if c then (0 : Int) else 1) < (3 : Nat) := by cases c <;> decide
end Go.AM
end

section
/- The form over an odd prime. -/
namespace Go.AM
open Go Go.RowKit
theorem mdV_b {d p : Int} (hr : 0 ≤ sqV (d % p) p ∧ 2 * sqV (d % p) p ≤ p) : 0 ≤ mdV d p ∧ mdV d p ≤ p := by
  unfold mdV; split
  · split <;> omega
  · omega
def pmF (d p : Int) : Fm := ⟨p, mdV d p, (mdV d p * mdV d p - d) / (4 * p)⟩
/-- the error of compose.Prime over an odd p below its bound -/
def pmE (d p : Int) : Int := if prE d ≠ 0 ∨ ¬ d < 0 then 5 else if primeB p = false then 7 else if sqE (d % p) p ≠ 0 then 6 else if prim p (mdV d p) ((mdV d p * mdV d p - d) / (4 * p)) = false then 6 else 0
def pmV (d p : Int) : Fm := if pmE d p = 0 then (pmF d p).rd else ⟨0, 0, 0⟩
theorem pm_err {d p e : Int} (h : pmE d p = e) (h0 : e ≠ 0) : AV.t [PF ⟨0, 0, 0⟩, PE e] = .t [PF (pmV d p), PE (pmE d p)] := by
  unfold pmV; rw [if_neg (by omega), h]
theorem pm_5a {d p : Int} (h : prE d ≠ 0) : pmE d p = 5 := by unfold pmE; rw [if_pos (.inl h)]
theorem pm_5b {d p : Int} (h : ¬ d < 0) : pmE d p = 5 := by unfold pmE; rw [if_pos (.inr h)]
theorem pm_7 {d p : Int} (h1 : prE d = 0) (h2 : d < 0) (h : primeB p = false) : pmE d p = 7 := by
  unfold pmE; rw [if_neg (fun e => e.elim (fun k => k h1) (fun k => k h2)), if_pos h]
theorem pm_6a {d p : Int} (h1 : prE d = 0) (h2 : d < 0) (h3 : primeB p = true) (h : sqE (d % p) p ≠ 0) : pmE d p = 6 := by
  unfold pmE; rw [if_neg (fun e => e.elim (fun k => k h1) (fun k => k h2)), if_neg (by rw [h3]; decide), if_pos h]
theorem pm_6b {d p : Int} (h1 : prE d = 0) (h2 : d < 0) (h3 : primeB p = true) (h4 : sqE (d % p) p = 0) (h : prim p (mdV d p) ((mdV d p * mdV d p - d) / (4 * p)) = false) : pmE d p = 6 := by
  unfold pmE; rw [if_neg (fun e => e.elim (fun k => k h1) (fun k => k h2)), if_neg (by rw [h3]; decide), if_neg (fun k => k h4), if_pos h]
theorem pm_0 {d p : Int} (h1 : prE d = 0) (h2 : d < 0) (h3 : primeB p = true) (h4 : sqE (d % p) p = 0) (h : prim p (mdV d p) ((mdV d p * mdV d p - d) / (4 * p)) = true) : AV.t [PF (pmF d p).rd, PE 0] = .t [PF (pmV d p), PE (pmE d p)] := by
  have e : pmE d p = 0 := by
    unfold pmE; rw [if_neg (fun e => e.elim (fun k => k h1) (fun k => k h2)), if_neg (by rw [h3]; decide), if_neg (fun k => k h4), if_neg (by rw [h]; decide)]
  unfold pmV; rw [if_pos e, e]
theorem sq_bp {b p : Int} (h : 0 ≤ b ∧ b ≤ p) (hp : p ≤ 1048576) : 0 ≤ b * b ∧ b * b ≤ 1099511627776 := by
  have := sq_b (x := b) (m := 1048576) (by omega)
  omega
end Go.AM
end

section
/- Two ways to say that an answer is a form. -/
namespace Go.AM
open Go Go.RowKit
theorem is_1 {f g : Fm} {e k : Int} (h : e = k) : decide (f.a = g.a ∧ f.b = g.b ∧ f.c = g.c) = (decide (e = k) && decide (f = g)) := by
  rw [decide_eq_true h, Bool.true_and, Bool.eq_iff_iff, decide_eq_true_iff, decide_eq_true_iff]; exact fm_eq
theorem is_2 {f g : Fm} {e k : Int} (h : ¬ e = k) : false = (decide (e = k) && decide (f = g)) := by
  rw [decide_eq_false h]; rfl
end Go.AM
end

section
/- Made forms are small. -/
namespace Go.AM
open Go Go.RowKit
theorem bm {x y : Int} {M N : Nat} (hx : x.natAbs ≤ M) (hy : y.natAbs ≤ N) : (x * y).natAbs ≤ M * N := by rw [Int.natAbs_mul]; exact Nat.mul_le_mul hx hy
theorem turn_17 : ∀ b : Fin 256, ((turnM b.val).a.natAbs ≤ 17 ∧ (turnM b.val).b.natAbs ≤ 17) ∧ (turnM b.val).c.natAbs ≤ 17 ∧ (turnM b.val).d.natAbs ≤ 17 := by decide +kernel
theorem vl_small {a b c x y : Int} (ha : a.natAbs ≤ 25) (hb : b.natAbs ≤ 25) (hc : c.natAbs ≤ 3000) (hx : x.natAbs ≤ 17) (hy : y.natAbs ≤ 17) : (vl a b c x y).natAbs ≤ 881450 := by
  unfold vl
  have h1 := bm (bm ha hx) hx
  have h2 := bm (bm hb hx) hy
  have h3 := bm (bm hc hy) hy
  omega
theorem apB_small {a b c p q r s : Int} (ha : a.natAbs ≤ 25) (hb : b.natAbs ≤ 25) (hc : c.natAbs ≤ 3000) (hp : p.natAbs ≤ 17) (hq : q.natAbs ≤ 17) (hr : r.natAbs ≤ 17) (hs : s.natAbs ≤ 17) : (apB a b c p q r s).natAbs ≤ 1763000 := by
  unfold apB
  have h1 := bm (bm ha hp) hq
  have h2 := bm (bm hc hr) hs
  have h3 := bm hp hs
  have h4 := bm hq hr
  have h5 := bm hb (show (p * s + q * r).natAbs ≤ 578 by omega)
  omega
theorem mkF_small {D i m : Nat} (hm : m < 256) : (mkF D i m).a.natAbs ≤ 1763000 ∧ (mkF D i m).b.natAbs ≤ 1763000 ∧ (mkF D i m).c.natAbs ≤ 1763000 := by
  obtain ⟨h1, h2, h3, h4, _⟩ := pik_facts D i
  have h5 := pik_c D i
  have ha : (pik D i).a.natAbs ≤ 25 := by omega
  have hb : (pik D i).b.natAbs ≤ 25 := by omega
  have hc : (pik D i).c.natAbs ≤ 3000 := by omega
  obtain ⟨⟨ta, tb⟩, tc, td⟩ := turn_17 ⟨m, hm⟩
  unfold mkF
  split
  · exact ⟨by omega, by omega, by omega⟩
  · exact ⟨Nat.le_trans (vl_small ha hb hc ta tc) (by decide), apB_small ha hb hc ta tb tc td, Nat.le_trans (vl_small ha hb hc tb td) (by decide)⟩
/-- a made form's numbers are below 2^32 -/
theorem mkF_L5 {D i m : Nat} (hm : m < 256) : L 5 (mkF D i m).a ∧ L 5 (mkF D i m).b ∧ L 5 (mkF D i m).c := by
  have h := mkF_small (D := D) (i := i) hm
  exact ⟨by unfold L; omega, by unfold L; omega, by unfold L; omega⟩
theorem mkF_L6 {D i m : Nat} (hm : m < 256) : L 6 (mkF D i m).a ∧ L 6 (mkF D i m).b ∧ L 6 (mkF D i m).c := by
  have h := mkF_L5 (D := D) (i := i) hm
  exact ⟨h.1.mono (by decide), h.2.1.mono (by decide), h.2.2.mono (by decide)⟩
end Go.AM
end

section
/- Made forms belong to the group of their discriminant. -/
namespace Go.AM
open Go Go.RowKit
theorem mkF_cl (D i m : Nat) : Cl (-szz D) (mkF D i m) := by
  refine ⟨mkF_pos D i m, ?_, mkF_dsc D i m⟩
  have h := (pik_facts D i).2.2.2.2.2.2
  unfold mkF
  split
  · exact h
  · rw [← prim_app (pik D i) (m := turnM m) (by rw [det_turn]; rfl)]; exact h
theorem cl_cm {D : Int} {f g : Fm} (hf : Cl D f) (hg : Cl D g) : cmE f g = 0 ∧ cmV f g = mlt f g := by
  have h : cmE f g = 0 := cm_e4 (cl_rfE hf) (cl_rfE hg) (by rw [hf.disc, hg.disc])
  exact ⟨h, by unfold cmV; rw [if_pos h]⟩
theorem szz_D (D : Nat) : -1000000000000000000 ≤ -szz D ∧ -szz D < 0 := by have := szz_spec D; omega
end Go.AM
end

section
/- The group of classes, continued: cancelling, squares, the list of all classes. -/
namespace Go.AM
open Go Go.RowKit
section
variable {D : Int} {f g h : Fm}
/-- all reduced forms, once each -/
structure Whole (D : Int) (l : List Fm) : Prop where
  nd : l.Nodup
  mem : ∀ f, f ∈ l ↔ Cl D f ∧ f.rd = f
end
end Go.AM
end

section
/- The list of all reduced forms of a small discriminant is whole. -/
namespace Go.AM
open Go Go.RowKit
end Go.AM
end

section
/- There are fewer than 200 reduced forms of a small discriminant. -/
namespace Go.AM
open Go Go.RowKit
end Go.AM
end

section
/- Places of small values of a reduced form. -/
namespace Go.AM
open Go Go.RowKit
theorem box1 {n k N X u : Int} (hn : 0 < n) (h : 12 * k ≤ 4 * n) (e : 4 * k * N = X * X + n * (u * u)) (hk : 0 < k) (hN : N ≤ 4000) : -80 ≤ u ∧ u ≤ 80 := by
  have hX := sq_nonneg' X
  have h1 : k * N ≤ k * 4000 := Int.mul_le_mul_of_nonneg_left hN (by omega)
  have e1 : 4 * k * N = 4 * (k * N) := Int.mul_assoc ..
  have key : ¬ 6561 ≤ u * u := fun g => by
    have h2 : n * 6561 ≤ n * (u * u) := Int.mul_le_mul_of_nonneg_left g (by omega)
    omega
  constructor
  · rcases Int.lt_or_le u (-80) with g | g
    · refine absurd ?_ key
      have := Int.mul_le_mul (show 81 ≤ -u by omega) (show 81 ≤ -u by omega) (by omega) (by omega)
      rw [Int.neg_mul_neg] at this; omega
    · exact g
  · rcases Int.lt_or_le 80 u with g | g
    · refine absurd ?_ key
      have := Int.mul_le_mul (show 81 ≤ u by omega) (show 81 ≤ u by omega) (by omega) (by omega)
      omega
    · exact g
theorem vl_neg (a b c x y : Int) : vl a b c (-x) (-y) = vl a b c x y := by unfold vl; grind
end Go.AM
end

section
/- The least root modulo four times a prime. -/
namespace Go.AM
open Go Go.RowKit
/-- what the search for a root has to give -/
structure SqOk (a p : Int) : Prop where
  st : kr a p = 1 → sqStop a p (sqT a p) = true
  b : 0 ≤ sqV a p ∧ 2 * sqV a p ≤ p
  r : sqE a p = 0 → p ∣ sqV a p * sqV a p - a
section
variable {d p : Int}
end
end Go.AM
end

section
/- Made forms, moved once more; small facts for the laws of chapter 9. -/
namespace Go.AM
open Go Go.RowKit
end Go.AM
end

section
/- Roots, values and powers, as the laws of chapter 9 count them. -/
namespace Go.AM
open Go Go.RowKit
theorem eqI {x y : Int} (h : x = y) : (x == y) = true := by rw [h]; simp
section
variable {c : Fm} {N a b : Int}
end
end Go.AM
end

section
/- Two results that are the same. -/
namespace Go.AM
open Go Go.RowKit
theorem same_t (f : Fm) (e : Int) : (decide (e = e) && decide (f = f)) = true := by rw [decide_eq_true (rfl : f = f), decide_eq_true (rfl : e = e)]; rfl
theorem rtsL_len (f : Fm) (l : List Fm) : (rtsL f l).length ≤ l.length := by
  unfold rtsL
  split
  · exact List.length_filter_le ..
  · exact Nat.zero_le _
theorem four_L6 {f o g a : Fm} (hf : L 6 f.a ∧ L 6 f.b ∧ L 6 f.c) (ho : L 6 o.a ∧ L 6 o.b ∧ L 6 o.c) (hg : L 6 g.a ∧ L 6 g.b ∧ L 6 g.c) (ha : L 6 a.a ∧ L 6 a.b ∧ L 6 a.c) :
    ∀ x ∈ [f, o, g, a], L 6 x.a ∧ L 6 x.b ∧ L 6 x.c := by
  intro x hx
  simp only [List.mem_cons, List.not_mem_nil, or_false] at hx
  rcases hx with rfl | rfl | rfl | rfl
  · exact hf
  · exact ho
  · exact hg
  · exact ha
end Go.AM
end
