/- Texts merged by program, in build order. -/
import Derived.Test.YtjfoccjngbgolaaMB
import Derived.Test.YtjfoccjngbgolaaMT
import Derived.Test.YtjfoccjngbgolaaMF

section
/- Forms under matrices of determinant 1 or -1; three times a form; principal forms. -/
namespace Go.AM
open Go Go.RowKit

theorem app_mul_a (f : Fm) (m n : Mt) : decide (vl (f.app m).a (f.app m).b (f.app m).c n.a n.c = vl f.a f.b f.c (m.mul n).a (m.mul n).c ∧ apB (f.app m).a (f.app m).b (f.app m).c n.a n.b n.c n.d = apB f.a f.b f.c (m.mul n).a (m.mul n).b (m.mul n).c (m.mul n).d ∧ vl (f.app m).a (f.app m).b (f.app m).c n.b n.d = vl f.a f.b f.c (m.mul n).b (m.mul n).d) = true := by
  have h := app_mul f m n
  exact decide_eq_true ⟨congrArg Fm.a h, congrArg Fm.b h, congrArg Fm.c h⟩

def cont (f : Fm) : Int := (Int.gcd f.a (Int.gcd f.b f.c : Int) : Nat)
theorem cont_a (f : Fm) : cont f ∣ f.a := Int.gcd_dvd_left ..
theorem cont_b (f : Fm) : cont f ∣ f.b := Int.dvd_trans (Int.gcd_dvd_right ..) (Int.gcd_dvd_left ..)
theorem cont_c (f : Fm) : cont f ∣ f.c := Int.dvd_trans (Int.gcd_dvd_right ..) (Int.gcd_dvd_right ..)
theorem dvd_vl {d a b c : Int} (ha : d ∣ a) (hb : d ∣ b) (hc : d ∣ c) (x y : Int) : d ∣ vl a b c x y := by
  unfold vl
  exact Int.dvd_add (Int.dvd_add (Int.dvd_mul_of_dvd_left (Int.dvd_mul_of_dvd_left ha)) (Int.dvd_mul_of_dvd_left (Int.dvd_mul_of_dvd_left hb))) (Int.dvd_mul_of_dvd_left (Int.dvd_mul_of_dvd_left hc))
theorem dvd_apB {d a b c : Int} (ha : d ∣ a) (hb : d ∣ b) (hc : d ∣ c) (p q r s : Int) : d ∣ apB a b c p q r s := by
  unfold apB
  exact Int.dvd_add (Int.dvd_mul_of_dvd_right (Int.dvd_add (Int.dvd_mul_of_dvd_left (Int.dvd_mul_of_dvd_left ha)) (Int.dvd_mul_of_dvd_left (Int.dvd_mul_of_dvd_left hc)))) (Int.dvd_mul_of_dvd_left hb)
theorem dvd_cont {d : Int} {f : Fm} (ha : d ∣ f.a) (hb : d ∣ f.b) (hc : d ∣ f.c) : d ∣ cont f := Int.dvd_coe_gcd ha (Int.dvd_coe_gcd hb hc)
theorem cont_app (f : Fm) (m : Mt) : cont f ∣ cont (f.app m) :=
  dvd_cont (dvd_vl (cont_a f) (cont_b f) (cont_c f) _ _) (dvd_apB (cont_a f) (cont_b f) (cont_c f) _ _ _ _) (dvd_vl (cont_a f) (cont_b f) (cont_c f) _ _)
theorem prim_cont {f : Fm} : prim f.a f.b f.c = true ↔ cont f = 1 := by
  unfold prim cont
  rw [decide_eq_true_iff]
  omega
theorem cont_nn (f : Fm) : 0 ≤ cont f := by unfold cont; omega
theorem prim_up {f : Fm} {m : Mt} (h : prim (f.app m).a (f.app m).b (f.app m).c = true) : prim f.a f.b f.c = true := by
  rw [prim_cont] at h ⊢
  have h1 := cont_app f m
  rw [h] at h1
  exact Int.eq_one_of_dvd_one (cont_nn f) h1
def Mt.inv (m : Mt) : Mt := ⟨m.d * m.det, -m.b * m.det, -m.c * m.det, m.a * m.det⟩
theorem mul_inv {m : Mt} (h : m.det * m.det = 1) : m.mul m.inv = .one := by
  unfold Mt.mul Mt.inv Mt.one
  have e : m.a * m.d - m.b * m.c = m.det := rfl
  simp only [Mt.mk.injEq]
  refine ⟨?_, ?_, ?_, ?_⟩ <;> grind
theorem app_inv {f : Fm} {m : Mt} (h : m.det * m.det = 1) : (f.app m).app m.inv = f := by rw [app_mul, mul_inv h, app_one]
theorem prim_app (f : Fm) {m : Mt} (h : m.det * m.det = 1) : prim f.a f.b f.c = prim (f.app m).a (f.app m).b (f.app m).c := by
  rw [Bool.eq_iff_iff]
  constructor
  · intro h1
    rw [← app_inv (f := f) h] at h1
    exact prim_up h1
  · exact prim_up
theorem disc_app1 (f : Fm) {m : Mt} (h : m.det * m.det = 1) : dsc (f.app m).a (f.app m).b (f.app m).c = dsc f.a f.b f.c := by
  have := disc_app f m
  rw [h, Int.mul_one] at this
  exact this
/-- a definite form's values have the sign of its first coefficient -/
theorem vl_sign {a b c x y : Int} (hd : dsc a b c < 0) (hxy : ¬ (x = 0 ∧ y = 0)) : 0 < a * vl a b c x y := by
  have e : 4 * (a * vl a b c x y) = (2 * a * x + b * y) * (2 * a * x + b * y) - dsc a b c * (y * y) := by unfold vl dsc; grind
  have ha : a ≠ 0 := by
    rintro rfl
    unfold dsc at hd
    have := sq_nonneg' b
    omega
  have h1 := sq_nonneg' (2 * a * x + b * y)
  by_cases hy : y = 0
  · subst hy
    have hx : x ≠ 0 := fun e => hxy ⟨e, rfl⟩
    have h2 : (2 * a * x + b * 0) * (2 * a * x + b * 0) = 4 * ((a * x) * (a * x)) := by grind
    have h3 : 0 < (a * x) * (a * x) := by
      have h4 := sq_nonneg' (a * x)
      have h5 : (a * x) * (a * x) ≠ 0 := Int.mul_ne_zero (Int.mul_ne_zero ha hx) (Int.mul_ne_zero ha hx)
      omega
    simp only [Int.mul_zero, Int.sub_zero] at e
    simp only [Int.mul_zero] at h2
    omega
  · have h2 : 0 < y * y := by
      have h4 := sq_nonneg' y
      have h5 : y * y ≠ 0 := Int.mul_ne_zero hy hy
      omega
    have h3 : 0 < -(dsc a b c) * (y * y) := Int.mul_pos (by omega) h2
    rw [Int.neg_mul] at h3
    omega
theorem sign_vl {a b c x y : Int} (hd : dsc a b c < 0) (hxy : ¬ (x = 0 ∧ y = 0)) : a ≤ 0 ↔ vl a b c x y ≤ 0 := by
  have h := vl_sign hd hxy
  constructor
  · intro h1
    rcases Int.lt_or_le 0 (vl a b c x y) with h2 | h2
    · have h3 : a * vl a b c x y ≤ 0 := Int.mul_nonpos_of_nonpos_of_nonneg h1 (by omega)
      omega
    · exact h2
  · intro h1
    rcases Int.lt_or_le 0 a with h2 | h2
    · have h3 : a * vl a b c x y ≤ 0 := Int.mul_nonpos_of_nonneg_of_nonpos (by omega) h1
      omega
    · exact h2
theorem ck_of {a b c p q r : Int} (h : isSq (dsc a b c) = isSq (dsc p q r)) (h1 : dsc a b c < 0 ∧ a ≤ 0 ↔ dsc p q r < 0 ∧ p ≤ 0) : ck a b c = ck p q r := by
  unfold ck
  rw [h]
  by_cases h2 : dsc a b c < 0 ∧ a ≤ 0
  · rw [if_pos h2, if_pos (h1.1 h2)]
  · rw [if_neg h2, if_neg (fun x => h2 (h1.2 x))]
theorem ck_app (f : Fm) {m : Mt} (h : m.det * m.det = 1) : ck f.a f.b f.c = ck (f.app m).a (f.app m).b (f.app m).c := by
  have hd := disc_app1 f h
  refine ck_of (by rw [hd]) ?_
  rw [hd]
  have hm : ¬ (m.a = 0 ∧ m.c = 0) := by
    rintro ⟨h1, h2⟩
    unfold Mt.det at h
    rw [h1, h2] at h
    simp at h
  constructor
  · rintro ⟨h1, h2⟩; exact ⟨h1, (sign_vl h1 hm).1 h2⟩
  · rintro ⟨h1, h2⟩; exact ⟨h1, (sign_vl h1 hm).2 h2⟩
theorem isSq_nine (d : Int) : isSq (9 * d) = isSq d := by
  rw [Bool.eq_iff_iff, isSq_iff, isSq_iff]
  constructor
  · rintro ⟨k, hk⟩
    have h1 := Int.mul_ediv_add_emod k 3
    have h2 := Int.emod_nonneg k (show (3 : Int) ≠ 0 by omega)
    have h3 := Int.emod_lt_of_pos k (show (0 : Int) < 3 by omega)
    generalize k / 3 = q at h1
    generalize k % 3 = r at h1 h2 h3
    refine ⟨q, ?_⟩
    subst h1
    have e : (3 * q + r) * (3 * q + r) = 9 * (q * q) + 6 * (q * r) + r * r := by grind
    rw [e] at hk
    have hr : r = 0 ∨ r = 1 ∨ r = 2 := by omega
    rcases hr with rfl | rfl | rfl <;> omega
  · rintro ⟨k, rfl⟩
    exact ⟨3 * k, by grind⟩
theorem dsc_three (a b c : Int) : dsc (3 * a) (3 * b) (3 * c) = 9 * dsc a b c := by unfold dsc; grind
theorem ck_three (a b c : Int) : ck (3 * a) (3 * b) (3 * c) = ck a b c := by
  refine ck_of (by rw [dsc_three, isSq_nine]) ?_
  rw [dsc_three]
  omega
theorem prim_three (a b c : Int) : prim (3 * a) (3 * b) (3 * c) = false := by
  rw [Bool.eq_false_iff]
  intro h
  have h1 := (prim_cont (f := ⟨3 * a, 3 * b, 3 * c⟩)).1 h
  have h2 : (3 : Int) ∣ cont ⟨3 * a, 3 * b, 3 * c⟩ := dvd_cont ⟨a, rfl⟩ ⟨b, rfl⟩ ⟨c, rfl⟩
  rw [h1] at h2
  omega
/-- the matrix that mirrors -/
def Mt.mir : Mt := ⟨1, 0, 0, -1⟩
theorem det_mir : Mt.mir.det = -1 := by decide
theorem det_turns (b c : Nat) : ((turnM b).mul (turnM c)).det * ((turnM b).mul (turnM c)).det = 1 := by rw [det_mul, det_turn, det_turn]; rfl
theorem det_mirs (b c : Nat) : (((turnM b).mul (turnM c)).mul .mir).det * (((turnM b).mul (turnM c)).mul .mir).det = 1 := by rw [det_mul, det_mul, det_turn, det_turn, det_mir]; rfl

/-! principal forms -/
theorem prE_or (d : Int) : prE d = 0 ∨ prE d = 5 := by unfold prE; split <;> simp
theorem prE_ne {d : Int} (h : prE d ≠ 0) : prE d = 5 ∧ (1 < d % 4 ∨ isSq d = true) := by
  unfold prE at h ⊢
  split at h
  · next h1 => exact ⟨if_pos h1, h1⟩
  · exact absurd rfl h
theorem prE_eq {d : Int} (h : prE d = 0) : d % 4 ≤ 1 ∧ isSq d = false ∧ prF d = ⟨1, d % 4, -(d / 4)⟩ := by
  have h0 : prF d = ⟨1, d % 4, -(d / 4)⟩ := by unfold prF; rw [if_pos h]
  unfold prE at h
  split at h
  · cases h
  · next h1 =>
    refine ⟨by omega, ?_, h0⟩
    cases hs : isSq d with
    | false => rfl
    | true => exact absurd (.inr hs) h1
theorem prF_dsc {d : Int} (h : prE d = 0) : dsc (prF d).a (prF d).b (prF d).c = d := by
  obtain ⟨h1, _, h3⟩ := prE_eq h
  rw [h3]
  unfold dsc
  have h4 := Int.emod_nonneg d (show (4 : Int) ≠ 0 by omega)
  have h5 : d % 4 = 0 ∨ d % 4 = 1 := by omega
  have e : 4 * 1 * -(d / 4) = -(4 * (d / 4)) := by omega
  simp only
  rw [e]
  rcases h5 with h5 | h5 <;> rw [h5] <;> omega
theorem prF_prim {d : Int} (h : prE d = 0) : prim (prF d).a (prF d).b (prF d).c = true := by
  rw [(prE_eq h).2.2]
  unfold prim
  rw [decide_eq_true_iff]
  exact Int.one_gcd
theorem prF_a {d : Int} (h : prE d = 0) : (prF d).a = 1 := by rw [(prE_eq h).2.2]
theorem prF_ck {d : Int} (h : prE d = 0) : ck (prF d).a (prF d).b (prF d).c = 0 := by
  unfold ck
  rw [prF_dsc h, (prE_eq h).2.1, prF_a h, if_neg (by simp), if_neg (by omega)]
theorem prF_big {d : Int} (h : prE d = 0) (hp : 0 < d) : rdd (prF d).a (prF d).b (prF d).c = false := by
  rw [Bool.eq_false_iff]
  intro h1
  rw [rdd_iff, prF_dsc h] at h1
  omega
theorem pr_neg {d : Int} (h : prE d = 0) (hp : ¬ 0 < d) : d < 0 := by
  rcases Int.lt_or_le d 0 with h1 | h1
  · exact h1
  · exfalso
    have : d = 0 := by omega
    subst this
    have := (prE_eq h).2.1
    rw [isSq_zero] at this
    cases this
theorem prF_red {d : Int} (h : prE d = 0) (hp : ¬ 0 < d) : rdd (prF d).a (prF d).b (prF d).c = true := by
  have hd := pr_neg h hp
  rw [rdd_iff, prF_dsc h]
  refine ⟨prF_ck h, by omega, ?_⟩
  obtain ⟨h1, _, h3⟩ := prE_eq h
  rw [h3]
  simp only
  omega
theorem rdF_red {a b c : Int} (h : rdE a b c = 0) (hr : rdd a b c = true) : rdF a b c = ⟨a, b, c⟩ := by
  have k := rdRun_red (n := Fm.mu ⟨a, b, c⟩) (s := ((⟨a, b, c⟩ : Fm), Mt.one)) (show (Fm.mk a b c).red = true from hr)
  unfold rdF rdS
  rw [if_pos h, k]
theorem prF_inv {d : Int} (h : prE d = 0) (hp : ¬ 0 < d) : rdE (prF d).a (-(prF d).b) (prF d).c = 0 ∧ rdF (prF d).a (-(prF d).b) (prF d).c = prF d := by
  have hd := pr_neg h hp
  have hr := prF_red h hp
  have hpos : Fm.pos ⟨(prF d).a, -(prF d).b, (prF d).c⟩ := ⟨by show 0 < (prF d).a; rw [prF_a h]; omega, by show dsc _ (-_) _ < 0; rw [dsc_neg, prF_dsc h]; exact hd⟩
  have he := pos_rdE hpos
  refine ⟨he, ?_⟩
  obtain ⟨h1, _, h3⟩ := prE_eq h
  rw [h3] at he hpos hr ⊢
  simp only at he hpos hr ⊢
  have h4 := Int.emod_nonneg d (show (4 : Int) ≠ 0 by omega)
  have h5 : d % 4 = 0 ∨ d % 4 = 1 := by omega
  rcases h5 with h5 | h5
  · rw [h5] at he hpos hr ⊢
    exact rdF_red he hr
  · rw [h5] at he hpos hr ⊢
    generalize -(d / 4) = c at *
    have hn : (Fm.mk 1 (-1) c).red = false := by
      rw [Bool.eq_false_iff]
      intro hx
      have := ((red_iff hpos).1 hx).2.2
      simp only at this
      omega
    have hk : (Fm.mk 1 (-1) c).k = 1 := by unfold Fm.k; simp only; omega
    have ht : (Fm.mk 1 (-1) c).app (.T 1) = ⟨1, 1, c⟩ := by
      rw [app_T]
      have e : (1 : Int) * 1 * 1 + (-1) * 1 + c = c := by omega
      exact congrArg (fun z => (⟨1, 1, z⟩ : Fm)) e
    have hs : AM.stp (⟨1, -1, c⟩, .one) = (⟨1, 1, c⟩, Mt.one.mul (.T 1)) := by
      unfold AM.stp
      simp only
      rw [hk, ht, if_pos (show (Fm.mk 1 1 c).red = true from hr)]
    have k1 := rdRun_stp (n := Fm.mu ⟨1, -1, c⟩) (s := ((⟨1, -1, c⟩ : Fm), Mt.one)) hn (Nat.le_refl _)
    have k2 := rdRun_red (n := Fm.mu ⟨1, -1, c⟩ - 1) (s := ((⟨1, 1, c⟩ : Fm), Mt.one.mul (.T 1))) (show (Fm.mk 1 1 c).red = true from hr)
    rw [hs, k2] at k1
    unfold rdF rdS
    rw [if_pos he, k1]
theorem prF_L {d : Int} {n : Nat} (hd : L n d) (hn : L n 4) : L n (prF d).a ∧ L n (prF d).b ∧ L n (prF d).c := by
  unfold prF L at *
  split
  · simp only; omega
  · simp only; omega
theorem prF_rdE {d : Int} (h : prE d = 0) (hp : ¬ 0 < d) : (rdE (prF d).a (prF d).b (prF d).c == 0) = true := by
  rw [← rdE_neg, (prF_inv h hp).1]; rfl
theorem prF_same {d : Int} (h : prE d = 0) (hp : ¬ 0 < d) : decide ((prF d).a = (rdF (prF d).a (-(prF d).b) (prF d).c).a ∧ (prF d).b = (rdF (prF d).a (-(prF d).b) (prF d).c).b ∧ (prF d).c = (rdF (prF d).a (-(prF d).b) (prF d).c).c) = true := by
  rw [(prF_inv h hp).2]; exact decide_eq_true ⟨rfl, rfl, rfl⟩
theorem pr_sq {d : Int} (h : 1 < d % 4 ∨ isSq d = true) (h1 : decide (cmpI (d % 4) 1 > 0) = false) : isSq d = true := by
  have := of_decide_eq_false h1
  rw [cmpI_gt_zero] at this
  exact h.resolve_left this
theorem turn_all : ∀ b : Fin 256, ((turnM b.val).a.natAbs < 2 ^ 64 ∧ (turnM b.val).b.natAbs < 2 ^ 64) ∧ (turnM b.val).c.natAbs < 2 ^ 64 ∧ (turnM b.val).d.natAbs < 2 ^ 64 := by decide +kernel
theorem turn_L {b : Nat} (h : b < 256) : LB (turnM b).a 6 ∧ LB (turnM b).b 6 ∧ LB (turnM b).c 6 ∧ LB (turnM b).d 6 := by
  have := turn_all ⟨b, h⟩
  exact ⟨⟨this.1.1⟩, ⟨this.1.2⟩, ⟨this.2.1⟩, ⟨this.2.2⟩⟩
theorem ckb {a b c p q r : Int} (h : ck a b c = ck p q r) : (ck a b c == ck p q r) = true := by rw [h]; exact beq_self_eq_true _
theorem primb {a b c p q r : Int} (h : prim a b c = prim p q r) : (prim a b c != prim p q r) = false := by rw [h]; exact bne_self_eq_false _
section
variable {a b c p q r s : Int} (h : (p * s - q * r) * (p * s - q * r) = 1)
include h
theorem disc_appE : (!decide (dsc a b c = dsc (vl a b c p r) (apB a b c p q r s) (vl a b c q s))) = false := congrArg Bool.not (decide_eq_true (disc_app1 ⟨a, b, c⟩ (m := ⟨p, q, r, s⟩) h).symm)
theorem prim_appE : (prim a b c != prim (vl a b c p r) (apB a b c p q r s) (vl a b c q s)) = false := primb (prim_app ⟨a, b, c⟩ (m := ⟨p, q, r, s⟩) h)
theorem ck_appE : (ck a b c == ck (vl a b c p r) (apB a b c p q r s) (vl a b c q s)) = true := ckb (ck_app ⟨a, b, c⟩ (m := ⟨p, q, r, s⟩) h)
end
/-! forms that are refused -/
theorem ckn {x k : Int} (h : x = k) : (x != k) = false := by rw [h]; exact bne_self_eq_false _
theorem isSq_mul (k : Int) : isSq (k * k) = true := isSq_iff.2 ⟨k, rfl⟩
theorem ck_square (a b : Int) : ck (a * a) (2 * (a * b)) (b * b) = 5 := by
  have e : dsc (a * a) (2 * (a * b)) (b * b) = 0 * 0 := by unfold dsc; grind
  unfold ck; rw [e, isSq_mul, if_pos rfl]
theorem ck_split (b c : Int) : ck 0 b c = 5 := by
  have e : dsc 0 b c = b * b := by unfold dsc; grind
  unfold ck; rw [e, isSq_mul, if_pos rfl]
theorem ck_negv (a c : Int) : ck (-((a.natAbs : Int) + 1)) 0 (-((c.natAbs : Int) + 1)) = 1 := by
  have h1 : 0 < ((a.natAbs : Int) + 1) * ((c.natAbs : Int) + 1) := Int.mul_pos (by omega) (by omega)
  have e : dsc (-((a.natAbs : Int) + 1)) 0 (-((c.natAbs : Int) + 1)) = -(4 * (((a.natAbs : Int) + 1) * ((c.natAbs : Int) + 1))) := by unfold dsc; grind
  unfold ck
  rw [e, isSq_neg (by omega), if_neg (by simp), if_pos (by omega)]
theorem ck_rdd {a b c : Int} (h : ck a b c ≠ 0) : rdd a b c = false := by
  rw [Bool.eq_false_iff]; intro h1; exact h (rdd_iff.1 h1).1
theorem ck_rdE {a b c : Int} {k : Int} (h : ck a b c = k) (h0 : k ≠ 0) : rdE a b c = k := by
  rw [rdE_of_ck (by rw [h]; exact h0), h]
theorem ck_sm {a b c p q r : Int} (h : ck a b c ≠ 0) : smB a b c p q r = false := by
  unfold smB
  refine decide_eq_false fun x => ?_
  have := rdE_of_ck h
  rw [x.1] at this
  exact h this.symm
end Go.AM
end

section
/- law: FormRefuses -/
namespace Go.Proofs.Ytjfoccjngbgolaa
open Go Go.AM

/- algorist/quadratic.Check -/
set_option maxHeartbeats 1000000 in
set_option maxRecDepth 100000 in
theorem q_Check_bad (a c : Int) (ha : L 34 a) (hc : L 34 c) :
    Call0 Try.prog 35 [.p (.a [zn a, zm a, .v (.bool true), .sl 0 [], zn c, zm c])] (Z 1) := by
  have ia : LB a 34 := ⟨ha⟩
  have ic : LB c 34 := ⟨hc⟩
  refine callM_of (np := 0) Try.func35 (by kernel_rfl) rfl rfl (Nat.le_of_ble_eq_true rfl) (fun m h => absurd rfl h) (fun m h => absurd rfl h) rfl ?_
  refine AWp_seq ?_
  refine AWp_region hP ?_
  refine RK.alc guard_none (op_box rfl rfl) ?_
  refine RK.val guard_none (op_assign (rfl : _ = AV.p (.c _))) ?_
  refine RK.done (by kernel_rfl) ?_
  refine AWp_seq ?_
  refine AWp_seq ?_
  refine AWp_region hP ?_
  refine RK.val guard_none (op_field_loc hT rfl rfl rfl rfl rfl rfl) ?_
  refine RK.val guard_none (op_load_agg hT rfl rfl rfl rfl (cs := [_, _]) rfl rfl) ?_
  refine RK.val guard_none (op_field_loc hT rfl rfl rfl rfl rfl rfl) ?_
  refine RK.val guard_none (op_load_agg hT rfl rfl rfl rfl (cs := [_, _]) rfl rfl) ?_
  refine RK.val guard_none (op_field_loc hT rfl rfl rfl rfl rfl rfl) ?_
  refine RK.val guard_none (op_load_agg hT rfl rfl rfl rfl (cs := [_, _]) rfl rfl) ?_
  refine RK.val guard_none (op_build_ar hT rfl rfl rfl (es := [_, _, _, _, _, _]) rfl) ?_
  refine RK.val guard_none (op_move (rfl : _ = AV.p (.c _))) ?_
  refine RK.done (by kernel_rfl) ?_
  refine AWp_block ?_
  refine AWp_unroll 4 ?_
  refine AWp_seq ?_
  refine AWp_region hP ?_
  refine RK.val guard_none (op_lss rfl rfl) ?_
  refine RK.done (by kernel_rfl) ?_
  refine AWp_seq ?_
  refine AWp_cond_true rfl (by decide) ?_
  refine AWp_skip ?_
  refine AWp_seq ?_
  refine AWp_block ?_
  refine AWp_seq ?_
  refine AWp_region hP ?_
  refine RK.val guard_none (op_aindex_agg hT rfl rfl rfl rfl rfl rfl (by decide) (es := [_, _]) rfl rfl) ?_
  refine RK.alc guard_none (op_alloc hT rfl rfl) ?_
  refine RK.sto guard_none (op_store hT rfl rfl rfl rfl rfl rfl (cs := [_, _]) rfl) ?_
  refine RK.done (by kernel_rfl) ?_
  refine AWp_seq ?_
  refine AWp_region hP ?_
  refine RK.val guard_none (op_load_agg hT rfl rfl rfl rfl (cs := [_, _]) rfl rfl) ?_
  refine RK.val guard_none (Eff.call0 (int_Valid _ lz)) ?_
  refine RK.val guard_none (op_unot rfl) ?_
  refine RK.done (by kernel_rfl) ?_
  refine AWp_cond_false rfl rfl ?_
  refine AWp_skip ?_
  refine AWp_region hP ?_
  refine RK.val guard_none (op_add rfl rfl (by first | exact IntWalk.i64_in _ (by omega) | rfl)) ?_
  refine RK.val guard_none (op_move (rfl : _ = AV.p (.c _))) ?_
  refine RK.done (by kernel_rfl) ?_
  refine AWp_seq ?_
  refine AWp_region hP ?_
  refine RK.val guard_none (op_lss rfl rfl) ?_
  refine RK.done (by kernel_rfl) ?_
  refine AWp_seq ?_
  refine AWp_cond_true rfl (by decide) ?_
  refine AWp_skip ?_
  refine AWp_seq ?_
  refine AWp_block ?_
  refine AWp_seq ?_
  refine AWp_region hP ?_
  refine RK.val guard_none (op_aindex_agg hT rfl rfl rfl rfl rfl rfl (by decide) (es := [_, _]) rfl rfl) ?_
  refine RK.alc guard_none (op_alloc hT rfl rfl) ?_
  refine RK.sto guard_none (op_store hT rfl rfl rfl rfl rfl rfl (cs := [_, _]) rfl) ?_
  refine RK.done (by kernel_rfl) ?_
  refine AWp_seq ?_
  refine AWp_region hP ?_
  refine RK.val guard_none (op_load_agg hT rfl rfl rfl rfl (cs := [_, _]) rfl rfl) ?_
  refine RK.val guard_none (Eff.call0 int_Valid_bad) ?_
  refine RK.val guard_none (op_unot rfl) ?_
  refine RK.done (by kernel_rfl) ?_
  refine AWp_cond_true rfl rfl ?_
  refine AWp_seq ?_
  refine AWp_region hP ?_
  refine RK.val guard_none (op_assign (rfl : _ = AV.p (.c _))) ?_
  refine RK.done (by kernel_rfl) ?_
  refine AWp_ret ?_
  refine ends_one rfl (.inr rfl) (res_tmp rfl) ?_ O_ends
  exact .refl _

/- algorist/algoristlaw08.FormRefuses -/
set_option maxHeartbeats 1000000 in
set_option maxRecDepth 100000 in
theorem l_FormRefuses (pn qn rn : Bool) (pw qw rw : List Nat) (ph : okW pw) (qh : okW qw) (rh : okW rw) :
    Call0 Try.prog 6 [.p (.a [.v (.bool pn), W pw]), .p (.a [.v (.bool qn), W qw]), .p (.a [.v (.bool rn), W rw])] (B true) := by
  have pi : LB (md pn pw) 6 := ⟨md_L ph⟩
  have qi : LB (md qn qw) 6 := ⟨md_L qh⟩
  have ri : LB (md rn rw) 6 := ⟨md_L rh⟩
  have e1 := ck_square (md pn pw) (md qn qw)
  have e2 := ck_split (md qn qw) (md rn rw)
  have e3 := ck_negv (md pn pw) (md rn rw)
  refine callM_of (np := 0) Try.func6 (by kernel_rfl) rfl rfl (Nat.le_of_ble_eq_true rfl) (fun m h => absurd rfl h) (fun m h => absurd rfl h) rfl ?_
  refine AWp_seq ?_
  refine AWp_region hP ?_
  refine RK.alc guard_none (op_box rfl rfl) ?_
  refine RK.alc guard_none (op_box rfl rfl) ?_
  refine RK.alc guard_none (op_box rfl rfl) ?_
  refine RK.val guard_none (op_assign (rfl : _ = AV.p (.c _))) ?_
  refine RK.done (by kernel_rfl) ?_
  refine AWp_seq ?_
  refine AWp_region hP ?_
  refine RK.val guard_none (Eff.call0 l_examples) ?_
  refine RK.val guard_none (op_assign (rfl : _ = AV.p (.c _))) ?_
  refine RK.done (by kernel_rfl) ?_
  refine AWp_seq ?_
  refine AWp_seq ?_
  refine AWp_region hP ?_
  refine RK.val guard_none (op_move (rfl : _ = AV.p (.c _))) ?_
  refine RK.val guard_none (op_unot rfl) ?_
  refine RK.done (by kernel_rfl) ?_
  refine AWp_cond_false rfl rfl ?_
  refine AWp_skip ?_
  refine AWp_seq ?_
  refine AWp_region hP ?_
  refine RK.val guard_none (op_load_agg hT rfl rfl rfl rfl (cs := [_, _]) rfl rfl) ?_
  refine RK.val guard_none (Eff.call0 (show Call0 _ _ _ (I (md pn pw)) from r_Made pn pw 2 ph (by decide))) ?_
  refine RK.val guard_none (op_load_agg hT rfl rfl rfl rfl (cs := [_, _]) rfl rfl) ?_
  refine RK.val guard_none (Eff.call0 (show Call0 _ _ _ (I (md qn qw)) from r_Made qn qw 2 qh (by decide))) ?_
  refine RK.val guard_none (op_load_agg hT rfl rfl rfl rfl (cs := [_, _]) rfl rfl) ?_
  refine RK.val guard_none (Eff.call0 (show Call0 _ _ _ (I (md rn rw)) from r_Made rn rw 2 rh (by decide))) ?_
  refine RK.alc guard_none (op_alloc hT rfl rfl) ?_
  refine RK.alc guard_none (op_alloc hT rfl rfl) ?_
  refine RK.alc guard_none (op_alloc hT rfl rfl) ?_
  refine RK.sto guard_none (op_store hT rfl rfl rfl rfl rfl rfl (cs := [_, _]) rfl) ?_
  refine RK.sto guard_none (op_store hT rfl rfl rfl rfl rfl rfl (cs := [_, _]) rfl) ?_
  refine RK.sto guard_none (op_store hT rfl rfl rfl rfl rfl rfl (cs := [_, _]) rfl) ?_
  refine RK.done (by kernel_rfl) ?_
  refine AWp_seq ?_
  refine AWp_region hP ?_
  refine RK.val guard_none (op_load_agg hT rfl rfl rfl rfl (cs := [_, _]) rfl rfl) ?_
  refine RK.val guard_none (op_load_agg hT rfl rfl rfl rfl (cs := [_, _]) rfl rfl) ?_
  refine RK.val guard_none (Eff.call0 (r_Mul _ _ lz lz)) ?_
  refine RK.val guard_none (Eff.call0 (r_Of _ (by first | assumption | decide))) ?_
  refine RK.val guard_none (op_load_agg hT rfl rfl rfl rfl (cs := [_, _]) rfl rfl) ?_
  refine RK.val guard_none (op_load_agg hT rfl rfl rfl rfl (cs := [_, _]) rfl rfl) ?_
  refine RK.val guard_none (Eff.call0 (r_Mul _ _ lz lz)) ?_
  refine RK.val guard_none (Eff.call0 (r_Mul _ _ lz lz)) ?_
  refine RK.val guard_none (op_load_agg hT rfl rfl rfl rfl (cs := [_, _]) rfl rfl) ?_
  refine RK.val guard_none (op_load_agg hT rfl rfl rfl rfl (cs := [_, _]) rfl rfl) ?_
  refine RK.val guard_none (Eff.call0 (r_Mul _ _ lz lz)) ?_
  refine RK.val guard_none (op_build_st hT rfl rfl rfl (es := [_, _, _, _, _, _]) rfl) ?_
  refine RK.alc guard_none (op_alloc hT rfl rfl) ?_
  refine RK.sto guard_none (op_store hT rfl rfl rfl rfl rfl rfl (cs := [_, _, _, _, _, _]) rfl) ?_
  refine RK.done (by kernel_rfl) ?_
  refine AWp_seq ?_
  refine AWp_region hP ?_
  refine RK.val guard_none (Eff.call0 (r_Of _ (by first | assumption | decide))) ?_
  refine RK.val guard_none (op_load_agg hT rfl rfl rfl rfl (cs := [_, _]) rfl rfl) ?_
  refine RK.val guard_none (op_load_agg hT rfl rfl rfl rfl (cs := [_, _]) rfl rfl) ?_
  refine RK.val guard_none (op_build_st hT rfl rfl rfl (es := [_, _, _, _, _, _]) rfl) ?_
  refine RK.alc guard_none (op_alloc hT rfl rfl) ?_
  refine RK.sto guard_none (op_store hT rfl rfl rfl rfl rfl rfl (cs := [_, _, _, _, _, _]) rfl) ?_
  refine RK.done (by kernel_rfl) ?_
  refine AWp_seq ?_
  refine AWp_region hP ?_
  refine RK.val guard_none (op_load_agg hT rfl rfl rfl rfl (cs := [_, _]) rfl rfl) ?_
  refine RK.val guard_none (Eff.call0 (r_Abs _)) ?_
  refine RK.val guard_none (Eff.call0 (r_Of _ (by first | assumption | decide))) ?_
  refine RK.val guard_none (Eff.call0 (r_Add _ _ lz lz)) ?_
  refine RK.alc guard_none (op_alloc hT rfl rfl) ?_
  refine RK.sto guard_none (op_store hT rfl rfl rfl rfl rfl rfl (cs := [_, _]) rfl) ?_
  refine RK.done (by kernel_rfl) ?_
  refine AWp_seq ?_
  refine AWp_region hP ?_
  refine RK.val guard_none (op_load_agg hT rfl rfl rfl rfl (cs := [_, _]) rfl rfl) ?_
  refine RK.val guard_none (Eff.call0 (r_Neg _)) ?_
  refine RK.val guard_none (Eff.call0 (r_Of _ (by first | assumption | decide))) ?_
  refine RK.val guard_none (op_load_agg hT rfl rfl rfl rfl (cs := [_, _]) rfl rfl) ?_
  refine RK.val guard_none (Eff.call0 (r_Abs _)) ?_
  refine RK.val guard_none (Eff.call0 (r_Of _ (by first | assumption | decide))) ?_
  refine RK.val guard_none (Eff.call0 (r_Add _ _ lz lz)) ?_
  refine RK.val guard_none (Eff.call0 (r_Neg _)) ?_
  refine RK.val guard_none (op_build_st hT rfl rfl rfl (es := [_, _, _, _, _, _]) rfl) ?_
  refine RK.alc guard_none (op_alloc hT rfl rfl) ?_
  refine RK.sto guard_none (op_store hT rfl rfl rfl rfl rfl rfl (cs := [_, _, _, _, _, _]) rfl) ?_
  refine RK.done (by kernel_rfl) ?_
  refine AWp_seq ?_
  refine AWp_region hP ?_
  refine RK.val guard_none (op_load_agg hT rfl rfl rfl rfl (cs := [_, _]) rfl rfl) ?_
  refine RK.val guard_none (op_build_st hT rfl rfl rfl (es := [_, _]) rfl) ?_
  refine RK.val guard_none (op_load_agg hT rfl rfl rfl rfl (cs := [_, _]) rfl rfl) ?_
  refine RK.val guard_none (op_build_st hT rfl rfl rfl (es := [_, _, _, _, _, _]) rfl) ?_
  refine RK.alc guard_none (op_alloc hT rfl rfl) ?_
  refine RK.sto guard_none (op_store hT rfl rfl rfl rfl rfl rfl (cs := [_, _, _, _, _, _]) rfl) ?_
  refine RK.done (by kernel_rfl) ?_
  refine AWp_seq ?_
  refine AWp_region hP ?_
  refine RK.val guard_none (op_load_agg hT rfl rfl rfl rfl (cs := [_, _, _, _, _, _]) rfl rfl) ?_
  refine RK.val guard_none (op_load_agg hT rfl rfl rfl rfl (cs := [_, _, _, _, _, _]) rfl rfl) ?_
  refine RK.val guard_none (op_load_agg hT rfl rfl rfl rfl (cs := [_, _, _, _, _, _]) rfl rfl) ?_
  refine RK.val guard_none (op_load_agg hT rfl rfl rfl rfl (cs := [_, _, _, _, _, _]) rfl rfl) ?_
  refine RK.val guard_none (op_bslice hT rfl rfl rfl (es := [_, _, _, _, _, _, _, _, _, _, _, _, _, _, _, _, _, _, _, _, _, _, _, _]) rfl rfl rfl) ?_
  refine RK.val guard_none (op_assign (rfl : _ = AV.p (.c _))) ?_
  refine RK.done (by kernel_rfl) ?_
  refine AWp_seq ?_
  refine AWp_region hP ?_
  refine RK.val guard_none (op_bslice hT rfl rfl rfl (es := [_, _, _, _]) rfl rfl rfl) ?_
  refine RK.val guard_none (op_assign (rfl : _ = AV.p (.c _))) ?_
  refine RK.done (by kernel_rfl) ?_
  refine AWp_seq ?_
  refine AWp_seq ?_
  refine AWp_region hP ?_
  refine RK.val guard_none (op_assign (rfl : _ = AV.p (.c _))) ?_
  refine RK.done (by kernel_rfl) ?_
  refine AWp_block ?_
  refine AWp_unroll 5 ?_
  refine AWp_le (t := stL [(7, B true), (16, .p (.c (.sl 4 [zn ((md pn pw) * (md pn pw)), zm ((md pn pw) * (md pn pw)), zn (2 * ((md pn pw) * (md qn qw))), zm (2 * ((md pn pw) * (md qn qw))), zn ((md qn qw) * (md qn qw)), zm ((md qn qw) * (md qn qw)), zn 0, zm 0, zn (md qn qw), zm (md qn qw), zn (md rn rw), zm (md rn rw), zn (-(((md pn pw).natAbs : Int) + 1)), zm (-(((md pn pw).natAbs : Int) + 1)), zn 0, zm 0, zn (-(((md rn rw).natAbs : Int) + 1)), zm (-(((md rn rw).natAbs : Int) + 1)), zn (((md pn pw).natAbs : Int) + 1), zm (((md pn pw).natAbs : Int) + 1), .v (.bool true), .sl 0 [], zn (((md pn pw).natAbs : Int) + 1), zm (((md pn pw).natAbs : Int) + 1)]))), (17, .p (.c (.sl 4 [.v (.int .i64 5), .v (.int .i64 5), .v (.int .i64 1), .v (.int .i64 1)]))), (18, Z 0)] []) (le_stL ⟨.refl _, .refl _, .refl _, .refl _, trivial⟩ trivial) ?_
  refine AWp_seq ?_
  refine AWp_seq ?_
  refine AWp_region hP ?_
  refine RK.val guard_none (op_move (rfl : _ = AV.p (.c _))) ?_
  refine RK.val guard_none (op_move (rfl : _ = AV.p (.c _))) ?_
  refine RK.val guard_none (op_len hT rfl rfl rfl rfl) ?_
  refine RK.val guard_none (op_lss rfl rfl) ?_
  refine RK.done (by kernel_rfl) ?_
  refine AWp_cond_true rfl (by decide) ?_
  refine AWp_skip ?_
  refine AWp_seq ?_
  refine AWp_block ?_
  refine AWp_seq ?_
  refine AWp_seq ?_
  refine AWp_region hP ?_
  refine RK.val guard_none (op_move (rfl : _ = AV.p (.c _))) ?_
  refine RK.val guard_none (op_move (rfl : _ = AV.p (.c _))) ?_
  refine RK.val guard_none (by first | exact op_index_WN hT rfl rfl rfl rfl rfl rfl (by omega) | exact op_index_sl hT rfl rfl rfl rfl rfl rfl (by omega) (by first | exact W_ne (by omega) | simp)) ?_
  refine RK.val guard_none (op_load_ip_agg hT rfl rfl rfl (cs := [_, _, _, _, _, _]) rfl rfl) ?_
  refine RK.val guard_none (Eff.call0 (q_Check _ _ _ lz lz lz)) ?_
  refine RK.val guard_none (op_move (rfl : _ = AV.p (.c _))) ?_
  refine RK.val guard_none (op_move (rfl : _ = AV.p (.c _))) ?_
  refine RK.val guard_none (by first | exact op_index_WN hT rfl rfl rfl rfl rfl rfl (by omega) | exact op_index_sl hT rfl rfl rfl rfl rfl rfl (by omega) (by first | exact W_ne (by omega) | simp)) ?_
  refine RK.val guard_none (op_load_ip_one hT rfl rfl rfl (by first | rfl | exact wget (by omega))) ?_
  refine RK.val guard_none (op_neq rfl rfl) ?_
  refine RK.val guard_none (op_move (rfl : _ = AV.p (.c _))) ?_
  refine RK.val (guard_yes rfl rfl (ckn e1)) (op_move (rfl : _ = AV.p (.c _))) ?_
  refine RK.val (guard_yes rfl rfl (ckn e1)) (op_lss rfl rfl) ?_
  refine RK.val (guard_yes rfl rfl (ckn e1)) (op_move (rfl : _ = AV.p (.c _))) ?_
  refine RK.val (guard_yes rfl rfl rfl) (op_move (rfl : _ = AV.p (.c _))) ?_
  refine RK.val (guard_yes rfl rfl rfl) (op_move (rfl : _ = AV.p (.c _))) ?_
  refine RK.val (guard_yes rfl rfl rfl) (by first | exact op_index_WN hT rfl rfl rfl rfl rfl rfl (by omega) | exact op_index_sl hT rfl rfl rfl rfl rfl rfl (by omega) (by first | exact W_ne (by omega) | simp)) ?_
  refine RK.val (guard_yes rfl rfl rfl) (op_load_ip_agg hT rfl rfl rfl (cs := [_, _, _, _, _, _]) rfl rfl) ?_
  refine RK.val (guard_yes rfl rfl rfl) (Eff.call0 (q_Reduced _ _ _ lz lz lz)) ?_
  refine RK.val (guard_yes rfl rfl (ckn e1)) (op_pick_t rfl rfl (rfl : _ = AV.p (.c _))) ?_
  refine RK.val guard_none (op_pick_f rfl (ckn e1) (rfl : _ = AV.p (.c _))) ?_
  refine RK.done (by kernel_rfl) ?_
  refine AWp_cond_false rfl (ck_rdd (by rw [e1]; decide)) ?_
  refine AWp_skip ?_
  refine AWp_seq ?_
  refine AWp_seq ?_
  refine AWp_region hP ?_
  refine RK.val guard_none (op_move (rfl : _ = AV.p (.c _))) ?_
  refine RK.val guard_none (op_eql rfl rfl) ?_
  refine RK.done (by kernel_rfl) ?_
  refine AWp_cond_false rfl rfl ?_
  refine AWp_skip ?_
  refine AWp_seq ?_
  refine AWp_region hP ?_
  refine RK.val guard_none (op_move (rfl : _ = AV.p (.c _))) ?_
  refine RK.val guard_none (op_move (rfl : _ = AV.p (.c _))) ?_
  refine RK.val guard_none (by first | exact op_index_WN hT rfl rfl rfl rfl rfl rfl (by omega) | exact op_index_sl hT rfl rfl rfl rfl rfl rfl (by omega) (by first | exact W_ne (by omega) | simp)) ?_
  refine RK.val guard_none (op_load_ip_agg hT rfl rfl rfl (cs := [_, _, _, _, _, _]) rfl rfl) ?_
  refine RK.val guard_none (Eff.call0 (q_Reduce _ _ _ lz lz lz)) ?_
  refine RK.val guard_none (op_move (rfl : _ = AV.t _)) ?_
  refine RK.val guard_none (op_extract rfl (v := .a _) rfl) ?_
  refine RK.val guard_none (op_extract rfl (v := .a _) rfl) ?_
  refine RK.val guard_none (op_extract rfl (v := .c _) rfl) ?_
  refine RK.alc guard_none (op_alloc hT rfl rfl) ?_
  refine RK.alc guard_none (op_alloc hT rfl rfl) ?_
  refine RK.sto guard_none (op_store hT rfl rfl rfl rfl rfl rfl (cs := [_, _, _, _, _, _]) rfl) ?_
  refine RK.sto guard_none (op_store hT rfl rfl rfl rfl rfl rfl (cs := [_, _, _, _, _, _, _, _]) rfl) ?_
  refine RK.val guard_none (op_assign (rfl : _ = AV.p (.c _))) ?_
  refine RK.done (by kernel_rfl) ?_
  refine AWp_seq ?_
  refine AWp_region hP ?_
  refine RK.val guard_none (op_move (rfl : _ = AV.p (.c _))) ?_
  refine RK.val guard_none (op_move (rfl : _ = AV.p (.c _))) ?_
  refine RK.val guard_none (by first | exact op_index_WN hT rfl rfl rfl rfl rfl rfl (by omega) | exact op_index_sl hT rfl rfl rfl rfl rfl rfl (by omega) (by first | exact W_ne (by omega) | simp)) ?_
  refine RK.val guard_none (op_load_ip_agg hT rfl rfl rfl (cs := [_, _, _, _, _, _]) rfl rfl) ?_
  refine RK.val guard_none (Eff.call0 (q_Inverse _ _ _ lz lz lz)) ?_
  refine RK.val guard_none (op_move (rfl : _ = AV.t _)) ?_
  refine RK.val guard_none (op_extract rfl (v := .a _) rfl) ?_
  refine RK.val guard_none (op_extract rfl (v := .c _) rfl) ?_
  refine RK.alc guard_none (op_alloc hT rfl rfl) ?_
  refine RK.sto guard_none (op_store hT rfl rfl rfl rfl rfl rfl (cs := [_, _, _, _, _, _]) rfl) ?_
  refine RK.val guard_none (op_assign (rfl : _ = AV.p (.c _))) ?_
  refine RK.done (by kernel_rfl) ?_
  refine AWp_seq ?_
  refine AWp_region hP ?_
  refine RK.val guard_none (op_move (rfl : _ = AV.p (.c _))) ?_
  refine RK.val guard_none (op_move (rfl : _ = AV.p (.c _))) ?_
  refine RK.val guard_none (by first | exact op_index_WN hT rfl rfl rfl rfl rfl rfl (by omega) | exact op_index_sl hT rfl rfl rfl rfl rfl rfl (by omega) (by first | exact W_ne (by omega) | simp)) ?_
  refine RK.val guard_none (op_load_ip_agg hT rfl rfl rfl (cs := [_, _, _, _, _, _]) rfl rfl) ?_
  refine RK.val guard_none (op_move (rfl : _ = AV.p (.c _))) ?_
  refine RK.val guard_none (op_move (rfl : _ = AV.p (.c _))) ?_
  refine RK.val guard_none (by first | exact op_index_WN hT rfl rfl rfl rfl rfl rfl (by omega) | exact op_index_sl hT rfl rfl rfl rfl rfl rfl (by omega) (by first | exact W_ne (by omega) | simp)) ?_
  refine RK.val guard_none (op_load_ip_agg hT rfl rfl rfl (cs := [_, _, _, _, _, _]) rfl rfl) ?_
  refine RK.val guard_none (Eff.call0 (q_Same _ _ _ _ _ _ lz lz lz lz lz lz)) ?_
  refine RK.val guard_none (op_move (rfl : _ = AV.t _)) ?_
  refine RK.val guard_none (op_extract rfl (v := .a _) rfl) ?_
  refine RK.val guard_none (op_extract rfl (v := .c _) rfl) ?_
  refine RK.alc guard_none (op_alloc hT rfl rfl) ?_
  refine RK.sto guard_none (op_store hT rfl rfl rfl rfl rfl rfl (cs := [_, _, _, _, _, _, _, _]) rfl) ?_
  refine RK.val guard_none (op_assign (rfl : _ = AV.p (.c _))) ?_
  refine RK.done (by kernel_rfl) ?_
  refine AWp_seq ?_
  refine AWp_region hP ?_
  refine RK.val guard_none (op_move (rfl : _ = AV.p (.c _))) ?_
  refine RK.val guard_none (op_move (rfl : _ = AV.p (.c _))) ?_
  refine RK.val guard_none (op_move (rfl : _ = AV.p (.c _))) ?_
  refine RK.val guard_none (by first | exact op_index_WN hT rfl rfl rfl rfl rfl rfl (by omega) | exact op_index_sl hT rfl rfl rfl rfl rfl rfl (by omega) (by first | exact W_ne (by omega) | simp)) ?_
  refine RK.val guard_none (op_load_ip_one hT rfl rfl rfl (by first | rfl | exact wget (by omega))) ?_
  refine RK.val guard_none (op_neq rfl rfl) ?_
  refine RK.val guard_none (op_move (rfl : _ = AV.p (.c _))) ?_
  refine RK.val (guard_yes rfl rfl (ckn (ck_rdE e1 (by decide)))) (op_move (rfl : _ = AV.p (.c _))) ?_
  refine RK.val (guard_yes rfl rfl (ckn (ck_rdE e1 (by decide)))) (op_move (rfl : _ = AV.p (.c _))) ?_
  refine RK.val (guard_yes rfl rfl (ckn (ck_rdE e1 (by decide)))) (op_move (rfl : _ = AV.p (.c _))) ?_
  refine RK.val (guard_yes rfl rfl (ckn (ck_rdE e1 (by decide)))) (by first | exact op_index_WN hT rfl rfl rfl rfl rfl rfl (by omega) | exact op_index_sl hT rfl rfl rfl rfl rfl rfl (by omega) (by first | exact W_ne (by omega) | simp)) ?_
  refine RK.val (guard_yes rfl rfl (ckn (ck_rdE e1 (by decide)))) (op_load_ip_one hT rfl rfl rfl (by first | rfl | exact wget (by omega))) ?_
  refine RK.val (guard_yes rfl rfl (ckn (ck_rdE e1 (by decide)))) (op_neq rfl rfl) ?_
  refine RK.val guard_none (op_pick_f rfl (ckn (ck_rdE e1 (by decide))) (rfl : _ = AV.p (.c _))) ?_
  refine RK.val guard_none (op_move (rfl : _ = AV.p (.c _))) ?_
  refine RK.val (guard_yes rfl rfl (ckn (ck_rdE e1 (by decide)))) (op_move (rfl : _ = AV.p (.c _))) ?_
  refine RK.val guard_none (op_pick_f rfl (ckn (ck_rdE e1 (by decide))) (rfl : _ = AV.p (.c _))) ?_
  refine RK.done (by kernel_rfl) ?_
  refine AWp_cond_false rfl (ck_sm (by rw [e1]; decide)) ?_
  refine AWp_skip ?_
  refine AWp_region hP ?_
  refine RK.val guard_none (op_move (rfl : _ = AV.p (.c _))) ?_
  refine RK.val guard_none (op_add rfl rfl (by first | exact IntWalk.i64_in _ (by omega) | rfl)) ?_
  refine RK.val guard_none (op_assign (rfl : _ = AV.p (.c _))) ?_
  refine RK.done (by kernel_rfl) ?_
  refine AWp_le (t := stL [(7, B true), (16, .p (.c (.sl 4 [zn ((md pn pw) * (md pn pw)), zm ((md pn pw) * (md pn pw)), zn (2 * ((md pn pw) * (md qn qw))), zm (2 * ((md pn pw) * (md qn qw))), zn ((md qn qw) * (md qn qw)), zm ((md qn qw) * (md qn qw)), zn 0, zm 0, zn (md qn qw), zm (md qn qw), zn (md rn rw), zm (md rn rw), zn (-(((md pn pw).natAbs : Int) + 1)), zm (-(((md pn pw).natAbs : Int) + 1)), zn 0, zm 0, zn (-(((md rn rw).natAbs : Int) + 1)), zm (-(((md rn rw).natAbs : Int) + 1)), zn (((md pn pw).natAbs : Int) + 1), zm (((md pn pw).natAbs : Int) + 1), .v (.bool true), .sl 0 [], zn (((md pn pw).natAbs : Int) + 1), zm (((md pn pw).natAbs : Int) + 1)]))), (17, .p (.c (.sl 4 [.v (.int .i64 5), .v (.int .i64 5), .v (.int .i64 1), .v (.int .i64 1)]))), (18, Z 1)] []) (le_stL ⟨.refl _, .refl _, .refl _, .refl _, trivial⟩ trivial) ?_
  refine AWp_seq ?_
  refine AWp_seq ?_
  refine AWp_region hP ?_
  refine RK.val guard_none (op_move (rfl : _ = AV.p (.c _))) ?_
  refine RK.val guard_none (op_move (rfl : _ = AV.p (.c _))) ?_
  refine RK.val guard_none (op_len hT rfl rfl rfl rfl) ?_
  refine RK.val guard_none (op_lss rfl rfl) ?_
  refine RK.done (by kernel_rfl) ?_
  refine AWp_cond_true rfl (by decide) ?_
  refine AWp_skip ?_
  refine AWp_seq ?_
  refine AWp_block ?_
  refine AWp_seq ?_
  refine AWp_seq ?_
  refine AWp_region hP ?_
  refine RK.val guard_none (op_move (rfl : _ = AV.p (.c _))) ?_
  refine RK.val guard_none (op_move (rfl : _ = AV.p (.c _))) ?_
  refine RK.val guard_none (by first | exact op_index_WN hT rfl rfl rfl rfl rfl rfl (by omega) | exact op_index_sl hT rfl rfl rfl rfl rfl rfl (by omega) (by first | exact W_ne (by omega) | simp)) ?_
  refine RK.val guard_none (op_load_ip_agg hT rfl rfl rfl (cs := [_, _, _, _, _, _]) rfl rfl) ?_
  refine RK.val guard_none (Eff.call0 (q_Check _ _ _ lz lz lz)) ?_
  refine RK.val guard_none (op_move (rfl : _ = AV.p (.c _))) ?_
  refine RK.val guard_none (op_move (rfl : _ = AV.p (.c _))) ?_
  refine RK.val guard_none (by first | exact op_index_WN hT rfl rfl rfl rfl rfl rfl (by omega) | exact op_index_sl hT rfl rfl rfl rfl rfl rfl (by omega) (by first | exact W_ne (by omega) | simp)) ?_
  refine RK.val guard_none (op_load_ip_one hT rfl rfl rfl (by first | rfl | exact wget (by omega))) ?_
  refine RK.val guard_none (op_neq rfl rfl) ?_
  refine RK.val guard_none (op_move (rfl : _ = AV.p (.c _))) ?_
  refine RK.val (guard_yes rfl rfl (ckn e2)) (op_move (rfl : _ = AV.p (.c _))) ?_
  refine RK.val (guard_yes rfl rfl (ckn e2)) (op_lss rfl rfl) ?_
  refine RK.val (guard_yes rfl rfl (ckn e2)) (op_move (rfl : _ = AV.p (.c _))) ?_
  refine RK.val (guard_yes rfl rfl rfl) (op_move (rfl : _ = AV.p (.c _))) ?_
  refine RK.val (guard_yes rfl rfl rfl) (op_move (rfl : _ = AV.p (.c _))) ?_
  refine RK.val (guard_yes rfl rfl rfl) (by first | exact op_index_WN hT rfl rfl rfl rfl rfl rfl (by omega) | exact op_index_sl hT rfl rfl rfl rfl rfl rfl (by omega) (by first | exact W_ne (by omega) | simp)) ?_
  refine RK.val (guard_yes rfl rfl rfl) (op_load_ip_agg hT rfl rfl rfl (cs := [_, _, _, _, _, _]) rfl rfl) ?_
  refine RK.val (guard_yes rfl rfl rfl) (Eff.call0 (q_Reduced _ _ _ lz lz lz)) ?_
  refine RK.val (guard_yes rfl rfl (ckn e2)) (op_pick_t rfl rfl (rfl : _ = AV.p (.c _))) ?_
  refine RK.val guard_none (op_pick_f rfl (ckn e2) (rfl : _ = AV.p (.c _))) ?_
  refine RK.done (by kernel_rfl) ?_
  refine AWp_cond_false rfl (ck_rdd (by rw [e2]; decide)) ?_
  refine AWp_skip ?_
  refine AWp_seq ?_
  refine AWp_seq ?_
  refine AWp_region hP ?_
  refine RK.val guard_none (op_move (rfl : _ = AV.p (.c _))) ?_
  refine RK.val guard_none (op_eql rfl rfl) ?_
  refine RK.done (by kernel_rfl) ?_
  refine AWp_cond_false rfl rfl ?_
  refine AWp_skip ?_
  refine AWp_seq ?_
  refine AWp_region hP ?_
  refine RK.val guard_none (op_move (rfl : _ = AV.p (.c _))) ?_
  refine RK.val guard_none (op_move (rfl : _ = AV.p (.c _))) ?_
  refine RK.val guard_none (by first | exact op_index_WN hT rfl rfl rfl rfl rfl rfl (by omega) | exact op_index_sl hT rfl rfl rfl rfl rfl rfl (by omega) (by first | exact W_ne (by omega) | simp)) ?_
  refine RK.val guard_none (op_load_ip_agg hT rfl rfl rfl (cs := [_, _, _, _, _, _]) rfl rfl) ?_
  refine RK.val guard_none (Eff.call0 (q_Reduce _ _ _ lz lz lz)) ?_
  refine RK.val guard_none (op_move (rfl : _ = AV.t _)) ?_
  refine RK.val guard_none (op_extract rfl (v := .a _) rfl) ?_
  refine RK.val guard_none (op_extract rfl (v := .a _) rfl) ?_
  refine RK.val guard_none (op_extract rfl (v := .c _) rfl) ?_
  refine RK.alc guard_none (op_alloc hT rfl rfl) ?_
  refine RK.alc guard_none (op_alloc hT rfl rfl) ?_
  refine RK.sto guard_none (op_store hT rfl rfl rfl rfl rfl rfl (cs := [_, _, _, _, _, _]) rfl) ?_
  refine RK.sto guard_none (op_store hT rfl rfl rfl rfl rfl rfl (cs := [_, _, _, _, _, _, _, _]) rfl) ?_
  refine RK.val guard_none (op_assign (rfl : _ = AV.p (.c _))) ?_
  refine RK.done (by kernel_rfl) ?_
  refine AWp_seq ?_
  refine AWp_region hP ?_
  refine RK.val guard_none (op_move (rfl : _ = AV.p (.c _))) ?_
  refine RK.val guard_none (op_move (rfl : _ = AV.p (.c _))) ?_
  refine RK.val guard_none (by first | exact op_index_WN hT rfl rfl rfl rfl rfl rfl (by omega) | exact op_index_sl hT rfl rfl rfl rfl rfl rfl (by omega) (by first | exact W_ne (by omega) | simp)) ?_
  refine RK.val guard_none (op_load_ip_agg hT rfl rfl rfl (cs := [_, _, _, _, _, _]) rfl rfl) ?_
  refine RK.val guard_none (Eff.call0 (q_Inverse _ _ _ lz lz lz)) ?_
  refine RK.val guard_none (op_move (rfl : _ = AV.t _)) ?_
  refine RK.val guard_none (op_extract rfl (v := .a _) rfl) ?_
  refine RK.val guard_none (op_extract rfl (v := .c _) rfl) ?_
  refine RK.alc guard_none (op_alloc hT rfl rfl) ?_
  refine RK.sto guard_none (op_store hT rfl rfl rfl rfl rfl rfl (cs := [_, _, _, _, _, _]) rfl) ?_
  refine RK.val guard_none (op_assign (rfl : _ = AV.p (.c _))) ?_
  refine RK.done (by kernel_rfl) ?_
  refine AWp_seq ?_
  refine AWp_region hP ?_
  refine RK.val guard_none (op_move (rfl : _ = AV.p (.c _))) ?_
  refine RK.val guard_none (op_move (rfl : _ = AV.p (.c _))) ?_
  refine RK.val guard_none (by first | exact op_index_WN hT rfl rfl rfl rfl rfl rfl (by omega) | exact op_index_sl hT rfl rfl rfl rfl rfl rfl (by omega) (by first | exact W_ne (by omega) | simp)) ?_
  refine RK.val guard_none (op_load_ip_agg hT rfl rfl rfl (cs := [_, _, _, _, _, _]) rfl rfl) ?_
  refine RK.val guard_none (op_move (rfl : _ = AV.p (.c _))) ?_
  refine RK.val guard_none (op_move (rfl : _ = AV.p (.c _))) ?_
  refine RK.val guard_none (by first | exact op_index_WN hT rfl rfl rfl rfl rfl rfl (by omega) | exact op_index_sl hT rfl rfl rfl rfl rfl rfl (by omega) (by first | exact W_ne (by omega) | simp)) ?_
  refine RK.val guard_none (op_load_ip_agg hT rfl rfl rfl (cs := [_, _, _, _, _, _]) rfl rfl) ?_
  refine RK.val guard_none (Eff.call0 (q_Same _ _ _ _ _ _ lz lz lz lz lz lz)) ?_
  refine RK.val guard_none (op_move (rfl : _ = AV.t _)) ?_
  refine RK.val guard_none (op_extract rfl (v := .a _) rfl) ?_
  refine RK.val guard_none (op_extract rfl (v := .c _) rfl) ?_
  refine RK.alc guard_none (op_alloc hT rfl rfl) ?_
  refine RK.sto guard_none (op_store hT rfl rfl rfl rfl rfl rfl (cs := [_, _, _, _, _, _, _, _]) rfl) ?_
  refine RK.val guard_none (op_assign (rfl : _ = AV.p (.c _))) ?_
  refine RK.done (by kernel_rfl) ?_
  refine AWp_seq ?_
  refine AWp_region hP ?_
  refine RK.val guard_none (op_move (rfl : _ = AV.p (.c _))) ?_
  refine RK.val guard_none (op_move (rfl : _ = AV.p (.c _))) ?_
  refine RK.val guard_none (op_move (rfl : _ = AV.p (.c _))) ?_
  refine RK.val guard_none (by first | exact op_index_WN hT rfl rfl rfl rfl rfl rfl (by omega) | exact op_index_sl hT rfl rfl rfl rfl rfl rfl (by omega) (by first | exact W_ne (by omega) | simp)) ?_
  refine RK.val guard_none (op_load_ip_one hT rfl rfl rfl (by first | rfl | exact wget (by omega))) ?_
  refine RK.val guard_none (op_neq rfl rfl) ?_
  refine RK.val guard_none (op_move (rfl : _ = AV.p (.c _))) ?_
  refine RK.val (guard_yes rfl rfl (ckn (ck_rdE e2 (by decide)))) (op_move (rfl : _ = AV.p (.c _))) ?_
  refine RK.val (guard_yes rfl rfl (ckn (ck_rdE e2 (by decide)))) (op_move (rfl : _ = AV.p (.c _))) ?_
  refine RK.val (guard_yes rfl rfl (ckn (ck_rdE e2 (by decide)))) (op_move (rfl : _ = AV.p (.c _))) ?_
  refine RK.val (guard_yes rfl rfl (ckn (ck_rdE e2 (by decide)))) (by first | exact op_index_WN hT rfl rfl rfl rfl rfl rfl (by omega) | exact op_index_sl hT rfl rfl rfl rfl rfl rfl (by omega) (by first | exact W_ne (by omega) | simp)) ?_
  refine RK.val (guard_yes rfl rfl (ckn (ck_rdE e2 (by decide)))) (op_load_ip_one hT rfl rfl rfl (by first | rfl | exact wget (by omega))) ?_
  refine RK.val (guard_yes rfl rfl (ckn (ck_rdE e2 (by decide)))) (op_neq rfl rfl) ?_
  refine RK.val guard_none (op_pick_f rfl (ckn (ck_rdE e2 (by decide))) (rfl : _ = AV.p (.c _))) ?_
  refine RK.val guard_none (op_move (rfl : _ = AV.p (.c _))) ?_
  refine RK.val (guard_yes rfl rfl (ckn (ck_rdE e2 (by decide)))) (op_move (rfl : _ = AV.p (.c _))) ?_
  refine RK.val guard_none (op_pick_f rfl (ckn (ck_rdE e2 (by decide))) (rfl : _ = AV.p (.c _))) ?_
  refine RK.done (by kernel_rfl) ?_
  refine AWp_cond_false rfl (ck_sm (by rw [e2]; decide)) ?_
  refine AWp_skip ?_
  refine AWp_region hP ?_
  refine RK.val guard_none (op_move (rfl : _ = AV.p (.c _))) ?_
  refine RK.val guard_none (op_add rfl rfl (by first | exact IntWalk.i64_in _ (by omega) | rfl)) ?_
  refine RK.val guard_none (op_assign (rfl : _ = AV.p (.c _))) ?_
  refine RK.done (by kernel_rfl) ?_
  refine AWp_le (t := stL [(7, B true), (16, .p (.c (.sl 4 [zn ((md pn pw) * (md pn pw)), zm ((md pn pw) * (md pn pw)), zn (2 * ((md pn pw) * (md qn qw))), zm (2 * ((md pn pw) * (md qn qw))), zn ((md qn qw) * (md qn qw)), zm ((md qn qw) * (md qn qw)), zn 0, zm 0, zn (md qn qw), zm (md qn qw), zn (md rn rw), zm (md rn rw), zn (-(((md pn pw).natAbs : Int) + 1)), zm (-(((md pn pw).natAbs : Int) + 1)), zn 0, zm 0, zn (-(((md rn rw).natAbs : Int) + 1)), zm (-(((md rn rw).natAbs : Int) + 1)), zn (((md pn pw).natAbs : Int) + 1), zm (((md pn pw).natAbs : Int) + 1), .v (.bool true), .sl 0 [], zn (((md pn pw).natAbs : Int) + 1), zm (((md pn pw).natAbs : Int) + 1)]))), (17, .p (.c (.sl 4 [.v (.int .i64 5), .v (.int .i64 5), .v (.int .i64 1), .v (.int .i64 1)]))), (18, Z 2)] []) (le_stL ⟨.refl _, .refl _, .refl _, .refl _, trivial⟩ trivial) ?_
  refine AWp_seq ?_
  refine AWp_seq ?_
  refine AWp_region hP ?_
  refine RK.val guard_none (op_move (rfl : _ = AV.p (.c _))) ?_
  refine RK.val guard_none (op_move (rfl : _ = AV.p (.c _))) ?_
  refine RK.val guard_none (op_len hT rfl rfl rfl rfl) ?_
  refine RK.val guard_none (op_lss rfl rfl) ?_
  refine RK.done (by kernel_rfl) ?_
  refine AWp_cond_true rfl (by decide) ?_
  refine AWp_skip ?_
  refine AWp_seq ?_
  refine AWp_block ?_
  refine AWp_seq ?_
  refine AWp_seq ?_
  refine AWp_region hP ?_
  refine RK.val guard_none (op_move (rfl : _ = AV.p (.c _))) ?_
  refine RK.val guard_none (op_move (rfl : _ = AV.p (.c _))) ?_
  refine RK.val guard_none (by first | exact op_index_WN hT rfl rfl rfl rfl rfl rfl (by omega) | exact op_index_sl hT rfl rfl rfl rfl rfl rfl (by omega) (by first | exact W_ne (by omega) | simp)) ?_
  refine RK.val guard_none (op_load_ip_agg hT rfl rfl rfl (cs := [_, _, _, _, _, _]) rfl rfl) ?_
  refine RK.val guard_none (Eff.call0 (q_Check _ _ _ lz lz lz)) ?_
  refine RK.val guard_none (op_move (rfl : _ = AV.p (.c _))) ?_
  refine RK.val guard_none (op_move (rfl : _ = AV.p (.c _))) ?_
  refine RK.val guard_none (by first | exact op_index_WN hT rfl rfl rfl rfl rfl rfl (by omega) | exact op_index_sl hT rfl rfl rfl rfl rfl rfl (by omega) (by first | exact W_ne (by omega) | simp)) ?_
  refine RK.val guard_none (op_load_ip_one hT rfl rfl rfl (by first | rfl | exact wget (by omega))) ?_
  refine RK.val guard_none (op_neq rfl rfl) ?_
  refine RK.val guard_none (op_move (rfl : _ = AV.p (.c _))) ?_
  refine RK.val (guard_yes rfl rfl (ckn e3)) (op_move (rfl : _ = AV.p (.c _))) ?_
  refine RK.val (guard_yes rfl rfl (ckn e3)) (op_lss rfl rfl) ?_
  refine RK.val (guard_yes rfl rfl (ckn e3)) (op_move (rfl : _ = AV.p (.c _))) ?_
  refine RK.val (guard_yes rfl rfl rfl) (op_move (rfl : _ = AV.p (.c _))) ?_
  refine RK.val (guard_yes rfl rfl rfl) (op_move (rfl : _ = AV.p (.c _))) ?_
  refine RK.val (guard_yes rfl rfl rfl) (by first | exact op_index_WN hT rfl rfl rfl rfl rfl rfl (by omega) | exact op_index_sl hT rfl rfl rfl rfl rfl rfl (by omega) (by first | exact W_ne (by omega) | simp)) ?_
  refine RK.val (guard_yes rfl rfl rfl) (op_load_ip_agg hT rfl rfl rfl (cs := [_, _, _, _, _, _]) rfl rfl) ?_
  refine RK.val (guard_yes rfl rfl rfl) (Eff.call0 (q_Reduced _ _ _ lz lz lz)) ?_
  refine RK.val (guard_yes rfl rfl (ckn e3)) (op_pick_t rfl rfl (rfl : _ = AV.p (.c _))) ?_
  refine RK.val guard_none (op_pick_f rfl (ckn e3) (rfl : _ = AV.p (.c _))) ?_
  refine RK.done (by kernel_rfl) ?_
  refine AWp_cond_false rfl (ck_rdd (by rw [e3]; decide)) ?_
  refine AWp_skip ?_
  refine AWp_seq ?_
  refine AWp_seq ?_
  refine AWp_region hP ?_
  refine RK.val guard_none (op_move (rfl : _ = AV.p (.c _))) ?_
  refine RK.val guard_none (op_eql rfl rfl) ?_
  refine RK.done (by kernel_rfl) ?_
  refine AWp_cond_false rfl rfl ?_
  refine AWp_skip ?_
  refine AWp_seq ?_
  refine AWp_region hP ?_
  refine RK.val guard_none (op_move (rfl : _ = AV.p (.c _))) ?_
  refine RK.val guard_none (op_move (rfl : _ = AV.p (.c _))) ?_
  refine RK.val guard_none (by first | exact op_index_WN hT rfl rfl rfl rfl rfl rfl (by omega) | exact op_index_sl hT rfl rfl rfl rfl rfl rfl (by omega) (by first | exact W_ne (by omega) | simp)) ?_
  refine RK.val guard_none (op_load_ip_agg hT rfl rfl rfl (cs := [_, _, _, _, _, _]) rfl rfl) ?_
  refine RK.val guard_none (Eff.call0 (q_Reduce _ _ _ lz lz lz)) ?_
  refine RK.val guard_none (op_move (rfl : _ = AV.t _)) ?_
  refine RK.val guard_none (op_extract rfl (v := .a _) rfl) ?_
  refine RK.val guard_none (op_extract rfl (v := .a _) rfl) ?_
  refine RK.val guard_none (op_extract rfl (v := .c _) rfl) ?_
  refine RK.alc guard_none (op_alloc hT rfl rfl) ?_
  refine RK.alc guard_none (op_alloc hT rfl rfl) ?_
  refine RK.sto guard_none (op_store hT rfl rfl rfl rfl rfl rfl (cs := [_, _, _, _, _, _]) rfl) ?_
  refine RK.sto guard_none (op_store hT rfl rfl rfl rfl rfl rfl (cs := [_, _, _, _, _, _, _, _]) rfl) ?_
  refine RK.val guard_none (op_assign (rfl : _ = AV.p (.c _))) ?_
  refine RK.done (by kernel_rfl) ?_
  refine AWp_seq ?_
  refine AWp_region hP ?_
  refine RK.val guard_none (op_move (rfl : _ = AV.p (.c _))) ?_
  refine RK.val guard_none (op_move (rfl : _ = AV.p (.c _))) ?_
  refine RK.val guard_none (by first | exact op_index_WN hT rfl rfl rfl rfl rfl rfl (by omega) | exact op_index_sl hT rfl rfl rfl rfl rfl rfl (by omega) (by first | exact W_ne (by omega) | simp)) ?_
  refine RK.val guard_none (op_load_ip_agg hT rfl rfl rfl (cs := [_, _, _, _, _, _]) rfl rfl) ?_
  refine RK.val guard_none (Eff.call0 (q_Inverse _ _ _ lz lz lz)) ?_
  refine RK.val guard_none (op_move (rfl : _ = AV.t _)) ?_
  refine RK.val guard_none (op_extract rfl (v := .a _) rfl) ?_
  refine RK.val guard_none (op_extract rfl (v := .c _) rfl) ?_
  refine RK.alc guard_none (op_alloc hT rfl rfl) ?_
  refine RK.sto guard_none (op_store hT rfl rfl rfl rfl rfl rfl (cs := [_, _, _, _, _, _]) rfl) ?_
  refine RK.val guard_none (op_assign (rfl : _ = AV.p (.c _))) ?_
  refine RK.done (by kernel_rfl) ?_
  refine AWp_seq ?_
  refine AWp_region hP ?_
  refine RK.val guard_none (op_move (rfl : _ = AV.p (.c _))) ?_
  refine RK.val guard_none (op_move (rfl : _ = AV.p (.c _))) ?_
  refine RK.val guard_none (by first | exact op_index_WN hT rfl rfl rfl rfl rfl rfl (by omega) | exact op_index_sl hT rfl rfl rfl rfl rfl rfl (by omega) (by first | exact W_ne (by omega) | simp)) ?_
  refine RK.val guard_none (op_load_ip_agg hT rfl rfl rfl (cs := [_, _, _, _, _, _]) rfl rfl) ?_
  refine RK.val guard_none (op_move (rfl : _ = AV.p (.c _))) ?_
  refine RK.val guard_none (op_move (rfl : _ = AV.p (.c _))) ?_
  refine RK.val guard_none (by first | exact op_index_WN hT rfl rfl rfl rfl rfl rfl (by omega) | exact op_index_sl hT rfl rfl rfl rfl rfl rfl (by omega) (by first | exact W_ne (by omega) | simp)) ?_
  refine RK.val guard_none (op_load_ip_agg hT rfl rfl rfl (cs := [_, _, _, _, _, _]) rfl rfl) ?_
  refine RK.val guard_none (Eff.call0 (q_Same _ _ _ _ _ _ lz lz lz lz lz lz)) ?_
  refine RK.val guard_none (op_move (rfl : _ = AV.t _)) ?_
  refine RK.val guard_none (op_extract rfl (v := .a _) rfl) ?_
  refine RK.val guard_none (op_extract rfl (v := .c _) rfl) ?_
  refine RK.alc guard_none (op_alloc hT rfl rfl) ?_
  refine RK.sto guard_none (op_store hT rfl rfl rfl rfl rfl rfl (cs := [_, _, _, _, _, _, _, _]) rfl) ?_
  refine RK.val guard_none (op_assign (rfl : _ = AV.p (.c _))) ?_
  refine RK.done (by kernel_rfl) ?_
  refine AWp_seq ?_
  refine AWp_region hP ?_
  refine RK.val guard_none (op_move (rfl : _ = AV.p (.c _))) ?_
  refine RK.val guard_none (op_move (rfl : _ = AV.p (.c _))) ?_
  refine RK.val guard_none (op_move (rfl : _ = AV.p (.c _))) ?_
  refine RK.val guard_none (by first | exact op_index_WN hT rfl rfl rfl rfl rfl rfl (by omega) | exact op_index_sl hT rfl rfl rfl rfl rfl rfl (by omega) (by first | exact W_ne (by omega) | simp)) ?_
  refine RK.val guard_none (op_load_ip_one hT rfl rfl rfl (by first | rfl | exact wget (by omega))) ?_
  refine RK.val guard_none (op_neq rfl rfl) ?_
  refine RK.val guard_none (op_move (rfl : _ = AV.p (.c _))) ?_
  refine RK.val (guard_yes rfl rfl (ckn (ck_rdE e3 (by decide)))) (op_move (rfl : _ = AV.p (.c _))) ?_
  refine RK.val (guard_yes rfl rfl (ckn (ck_rdE e3 (by decide)))) (op_move (rfl : _ = AV.p (.c _))) ?_
  refine RK.val (guard_yes rfl rfl (ckn (ck_rdE e3 (by decide)))) (op_move (rfl : _ = AV.p (.c _))) ?_
  refine RK.val (guard_yes rfl rfl (ckn (ck_rdE e3 (by decide)))) (by first | exact op_index_WN hT rfl rfl rfl rfl rfl rfl (by omega) | exact op_index_sl hT rfl rfl rfl rfl rfl rfl (by omega) (by first | exact W_ne (by omega) | simp)) ?_
  refine RK.val (guard_yes rfl rfl (ckn (ck_rdE e3 (by decide)))) (op_load_ip_one hT rfl rfl rfl (by first | rfl | exact wget (by omega))) ?_
  refine RK.val (guard_yes rfl rfl (ckn (ck_rdE e3 (by decide)))) (op_neq rfl rfl) ?_
  refine RK.val guard_none (op_pick_f rfl (ckn (ck_rdE e3 (by decide))) (rfl : _ = AV.p (.c _))) ?_
  refine RK.val guard_none (op_move (rfl : _ = AV.p (.c _))) ?_
  refine RK.val (guard_yes rfl rfl (ckn (ck_rdE e3 (by decide)))) (op_move (rfl : _ = AV.p (.c _))) ?_
  refine RK.val guard_none (op_pick_f rfl (ckn (ck_rdE e3 (by decide))) (rfl : _ = AV.p (.c _))) ?_
  refine RK.done (by kernel_rfl) ?_
  refine AWp_cond_false rfl (ck_sm (by rw [e3]; decide)) ?_
  refine AWp_skip ?_
  refine AWp_region hP ?_
  refine RK.val guard_none (op_move (rfl : _ = AV.p (.c _))) ?_
  refine RK.val guard_none (op_add rfl rfl (by first | exact IntWalk.i64_in _ (by omega) | rfl)) ?_
  refine RK.val guard_none (op_assign (rfl : _ = AV.p (.c _))) ?_
  refine RK.done (by kernel_rfl) ?_
  refine AWp_le (t := stL [(7, B true), (16, .p (.c (.sl 4 [zn ((md pn pw) * (md pn pw)), zm ((md pn pw) * (md pn pw)), zn (2 * ((md pn pw) * (md qn qw))), zm (2 * ((md pn pw) * (md qn qw))), zn ((md qn qw) * (md qn qw)), zm ((md qn qw) * (md qn qw)), zn 0, zm 0, zn (md qn qw), zm (md qn qw), zn (md rn rw), zm (md rn rw), zn (-(((md pn pw).natAbs : Int) + 1)), zm (-(((md pn pw).natAbs : Int) + 1)), zn 0, zm 0, zn (-(((md rn rw).natAbs : Int) + 1)), zm (-(((md rn rw).natAbs : Int) + 1)), zn (((md pn pw).natAbs : Int) + 1), zm (((md pn pw).natAbs : Int) + 1), .v (.bool true), .sl 0 [], zn (((md pn pw).natAbs : Int) + 1), zm (((md pn pw).natAbs : Int) + 1)]))), (17, .p (.c (.sl 4 [.v (.int .i64 5), .v (.int .i64 5), .v (.int .i64 1), .v (.int .i64 1)]))), (18, Z 3)] []) (le_stL ⟨.refl _, .refl _, .refl _, .refl _, trivial⟩ trivial) ?_
  refine AWp_seq ?_
  refine AWp_seq ?_
  refine AWp_region hP ?_
  refine RK.val guard_none (op_move (rfl : _ = AV.p (.c _))) ?_
  refine RK.val guard_none (op_move (rfl : _ = AV.p (.c _))) ?_
  refine RK.val guard_none (op_len hT rfl rfl rfl rfl) ?_
  refine RK.val guard_none (op_lss rfl rfl) ?_
  refine RK.done (by kernel_rfl) ?_
  refine AWp_cond_true rfl (by decide) ?_
  refine AWp_skip ?_
  refine AWp_seq ?_
  refine AWp_block ?_
  refine AWp_seq ?_
  refine AWp_seq ?_
  refine AWp_region hP ?_
  refine RK.val guard_none (op_move (rfl : _ = AV.p (.c _))) ?_
  refine RK.val guard_none (op_move (rfl : _ = AV.p (.c _))) ?_
  refine RK.val guard_none (by first | exact op_index_WN hT rfl rfl rfl rfl rfl rfl (by omega) | exact op_index_sl hT rfl rfl rfl rfl rfl rfl (by omega) (by first | exact W_ne (by omega) | simp)) ?_
  refine RK.val guard_none (op_load_ip_agg hT rfl rfl rfl (cs := [_, _, _, _, _, _]) rfl rfl) ?_
  refine RK.val guard_none (Eff.call0 (q_Check_bad _ _ lz lz)) ?_
  refine RK.val guard_none (op_move (rfl : _ = AV.p (.c _))) ?_
  refine RK.val guard_none (op_move (rfl : _ = AV.p (.c _))) ?_
  refine RK.val guard_none (by first | exact op_index_WN hT rfl rfl rfl rfl rfl rfl (by omega) | exact op_index_sl hT rfl rfl rfl rfl rfl rfl (by omega) (by first | exact W_ne (by omega) | simp)) ?_
  refine RK.val guard_none (op_load_ip_one hT rfl rfl rfl (by first | rfl | exact wget (by omega))) ?_
  refine RK.val guard_none (op_neq rfl rfl) ?_
  refine RK.val guard_none (op_move (rfl : _ = AV.p (.c _))) ?_
  refine RK.val (guard_yes rfl rfl rfl) (op_move (rfl : _ = AV.p (.c _))) ?_
  refine RK.val (guard_yes rfl rfl rfl) (op_lss rfl rfl) ?_
  refine RK.val (guard_yes rfl rfl rfl) (op_move (rfl : _ = AV.p (.c _))) ?_
  refine RK.skip (guard_no rfl rfl rfl) ?_
  refine RK.skip (guard_no rfl rfl rfl) ?_
  refine RK.skip (guard_no rfl rfl rfl) ?_
  refine RK.skip (guard_no rfl rfl rfl) ?_
  refine RK.skip (guard_no rfl rfl rfl) ?_
  refine RK.val (guard_yes rfl rfl rfl) (op_pick_f rfl rfl (rfl : _ = AV.p (.c _))) ?_
  refine RK.val guard_none (op_pick_f rfl rfl (rfl : _ = AV.p (.c _))) ?_
  refine RK.done (by kernel_rfl) ?_
  refine AWp_cond_false rfl rfl ?_
  refine AWp_skip ?_
  refine AWp_seq ?_
  refine AWp_seq ?_
  refine AWp_region hP ?_
  refine RK.val guard_none (op_move (rfl : _ = AV.p (.c _))) ?_
  refine RK.val guard_none (op_eql rfl rfl) ?_
  refine RK.done (by kernel_rfl) ?_
  refine AWp_cond_true rfl rfl ?_
  refine AWp_exit ?_
  refine AWp_region hP ?_
  refine RK.val guard_none (op_move (rfl : _ = AV.p (.c _))) ?_
  refine RK.val guard_none (op_add rfl rfl (by first | exact IntWalk.i64_in _ (by omega) | rfl)) ?_
  refine RK.val guard_none (op_assign (rfl : _ = AV.p (.c _))) ?_
  refine RK.done (by kernel_rfl) ?_
  refine AWp_le (t := stL [(7, B true), (16, .p (.c (.sl 4 [zn ((md pn pw) * (md pn pw)), zm ((md pn pw) * (md pn pw)), zn (2 * ((md pn pw) * (md qn qw))), zm (2 * ((md pn pw) * (md qn qw))), zn ((md qn qw) * (md qn qw)), zm ((md qn qw) * (md qn qw)), zn 0, zm 0, zn (md qn qw), zm (md qn qw), zn (md rn rw), zm (md rn rw), zn (-(((md pn pw).natAbs : Int) + 1)), zm (-(((md pn pw).natAbs : Int) + 1)), zn 0, zm 0, zn (-(((md rn rw).natAbs : Int) + 1)), zm (-(((md rn rw).natAbs : Int) + 1)), zn (((md pn pw).natAbs : Int) + 1), zm (((md pn pw).natAbs : Int) + 1), .v (.bool true), .sl 0 [], zn (((md pn pw).natAbs : Int) + 1), zm (((md pn pw).natAbs : Int) + 1)]))), (17, .p (.c (.sl 4 [.v (.int .i64 5), .v (.int .i64 5), .v (.int .i64 1), .v (.int .i64 1)]))), (18, Z 4)] []) (le_stL ⟨.refl _, .refl _, .refl _, .refl _, trivial⟩ trivial) ?_
  refine AWp_seq ?_
  refine AWp_seq ?_
  refine AWp_region hP ?_
  refine RK.val guard_none (op_move (rfl : _ = AV.p (.c _))) ?_
  refine RK.val guard_none (op_move (rfl : _ = AV.p (.c _))) ?_
  refine RK.val guard_none (op_len hT rfl rfl rfl rfl) ?_
  refine RK.val guard_none (op_lss rfl rfl) ?_
  refine RK.done (by kernel_rfl) ?_
  refine AWp_cond_false rfl (by decide) ?_
  refine AWp_exit ?_
  refine AWp_seq ?_
  refine AWp_region hP ?_
  refine RK.val guard_none (op_move (rfl : _ = AV.p (.c _))) ?_
  refine RK.val guard_none (op_assign (rfl : _ = AV.p (.c _))) ?_
  refine RK.done (by kernel_rfl) ?_
  refine AWp_ret ?_
  refine ends_one rfl (.inr rfl) (res_tmp rfl) ?_ O_ends
  exact .refl _

end Go.Proofs.Ytjfoccjngbgolaa
end
