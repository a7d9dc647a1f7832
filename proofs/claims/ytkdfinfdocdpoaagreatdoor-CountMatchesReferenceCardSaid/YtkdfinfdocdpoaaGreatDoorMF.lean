/- Texts merged by program, in build order. -/
import Derived.Test.YtkdfinfdocdpoaaGreatDoorMB
import Derived.RangeFuncSeq
import Derived.RangeFuncRecord
import Derived.RangeFuncIn
section
/- Forms under matrices of determinant 1 or -1; three times a form; principal forms. -/
namespace Go.AM
open Go Go.RowKit

theorem app_mul_a (f : Fm) (m n : Mt) : decide (vl (f.app m).a (f.app m).b (f.app m).c n.a n.c = vl f.a f.b f.c (m.mul n).a (m.mul n).c ∧ apB (f.app m).a (f.app m).b (f.app m).c n.a n.b n.c n.d = apB f.a f.b f.c (m.mul n).a (m.mul n).b (m.mul n).c (m.mul n).d ∧ vl (f.app m).a (f.app m).b (f.app m).c n.b n.d = vl f.a f.b f.c (m.mul n).b (m.mul n).d) = true := by
  have h := app_mul f m n
  exact decide_eq_true ⟨congrArg Fm.a h, congrArg Fm.b h, congrArg Fm.c h⟩

def cont (f : Fm) : Int := (Int.gcd f.a (Int.gcd f.b f.c : Int) : Nat)
theorem cont_a (f : Fm) : cont f ∣ f.a := Int.gcd_dvd_left ..
theorem cont_b (f : Fm) : cont f ∣ f.b := Int.dvd_trans (Int.gcd_dvd_right ..) (Int.gcd_dvd_left ..)
theorem cont_c (f : Fm) : cont f ∣ f.c := Int.dvd_trans (Int.gcd_dvd_right ..) (Int.gcd_dvd_right ..)
theorem dvd_vl {d a b c : Int} (ha : d ∣ a) (hb : d ∣ b) (hc : d ∣ c) (x y : Int) : d ∣ vl a b c x y := by
  unfold vl
  exact Int.dvd_add (Int.dvd_add (Int.dvd_mul_of_dvd_left (Int.dvd_mul_of_dvd_left ha)) (Int.dvd_mul_of_dvd_left (Int.dvd_mul_of_dvd_left hb))) (Int.dvd_mul_of_dvd_left (Int.dvd_mul_of_dvd_left hc))
theorem dvd_apB {d a b c : Int} (ha : d ∣ a) (hb : d ∣ b) (hc : d ∣ c) (p q r s : Int) : d ∣ apB a b c p q r s := by
  unfold apB
  exact Int.dvd_add (Int.dvd_mul_of_dvd_right (Int.dvd_add (Int.dvd_mul_of_dvd_left (Int.dvd_mul_of_dvd_left ha)) (Int.dvd_mul_of_dvd_left (Int.dvd_mul_of_dvd_left hc)))) (Int.dvd_mul_of_dvd_left hb)
theorem dvd_cont {d : Int} {f : Fm} (ha : d ∣ f.a) (hb : d ∣ f.b) (hc : d ∣ f.c) : d ∣ cont f := Int.dvd_coe_gcd ha (Int.dvd_coe_gcd hb hc)
theorem cont_app (f : Fm) (m : Mt) : cont f ∣ cont (f.app m) :=
  dvd_cont (dvd_vl (cont_a f) (cont_b f) (cont_c f) _ _) (dvd_apB (cont_a f) (cont_b f) (cont_c f) _ _ _ _) (dvd_vl (cont_a f) (cont_b f) (cont_c f) _ _)
theorem prim_cont {f : Fm} : prim f.a f.b f.c = true ↔ cont f = 1 := by
  unfold prim cont
  rw [decide_eq_true_iff]
  omega
theorem cont_nn (f : Fm) : 0 ≤ cont f := by unfold cont; omega
theorem prim_up {f : Fm} {m : Mt} (h : prim (f.app m).a (f.app m).b (f.app m).c = true) : prim f.a f.b f.c = true := by
  rw [prim_cont] at h ⊢
  have h1 := cont_app f m
  rw [h] at h1
  exact Int.eq_one_of_dvd_one (cont_nn f) h1
def Mt.inv (m : Mt) : Mt := ⟨m.d * m.det, -m.b * m.det, -m.c * m.det, m.a * m.det⟩
theorem mul_inv {m : Mt} (h : m.det * m.det = 1) : m.mul m.inv = .one := by
  unfold Mt.mul Mt.inv Mt.one
  have e : m.a * m.d - m.b * m.c = m.det := rfl
  simp only [Mt.mk.injEq]
  refine ⟨?_, ?_, ?_, ?_⟩ <;> grind
theorem app_inv {f : Fm} {m : Mt} (h : m.det * m.det = 1) : (f.app m).app m.inv = f := by rw [app_mul, mul_inv h, app_one]
theorem prim_app (f : Fm) {m : Mt} (h : m.det * m.det = 1) : prim f.a f.b f.c = prim (f.app m).a (f.app m).b (f.app m).c := by
  rw [Bool.eq_iff_iff]
  constructor
  · intro h1
    rw [← app_inv (f := f) h] at h1
    exact prim_up h1
  · exact prim_up
theorem disc_app1 (f : Fm) {m : Mt} (h : m.det * m.det = 1) : dsc (f.app m).a (f.app m).b (f.app m).c = dsc f.a f.b f.c := by
  have := disc_app f m
  rw [h, Int.mul_one] at this
  exact this
/-- a definite form's values have the sign of its first coefficient -/
theorem vl_sign {a b c x y : Int} (hd : dsc a b c < 0) (hxy : ¬ (x = 0 ∧ y = 0)) : 0 < a * vl a b c x y := by
  have e : 4 * (a * vl a b c x y) = (2 * a * x + b * y) * (2 * a * x + b * y) - dsc a b c * (y * y) := by unfold vl dsc; grind
  have ha : a ≠ 0 := by
    rintro rfl
    unfold dsc at hd
    have := sq_nonneg' b
    omega
  have h1 := sq_nonneg' (2 * a * x + b * y)
  by_cases hy : y = 0
  · subst hy
    have hx : x ≠ 0 := fun e => hxy ⟨e, rfl⟩
    have h2 : (2 * a * x + b * 0) * (2 * a * x + b * 0) = 4 * ((a * x) * (a * x)) := by grind
    have h3 : 0 < (a * x) * (a * x) := by
      have h4 := sq_nonneg' (a * x)
      have h5 : (a * x) * (a * x) ≠ 0 := Int.mul_ne_zero (Int.mul_ne_zero ha hx) (Int.mul_ne_zero ha hx)
      omega
    simp only [Int.mul_zero, Int.sub_zero] at e
    simp only [Int.mul_zero] at h2
    omega
  · have h2 : 0 < y * y := by
      have h4 := sq_nonneg' y
      have h5 : y * y ≠ 0 := Int.mul_ne_zero hy hy
      omega
    have h3 : 0 < -(dsc a b c) * (y * y) := Int.mul_pos (by omega) h2
    rw [Int.neg_mul] at h3
    omega
theorem sign_vl {a b c x y : Int} (hd : dsc a b c < 0) (hxy : ¬ (x = 0 ∧ y = 0)) : a ≤ 0 ↔ vl a b c x y ≤ 0 := by
  have h := vl_sign hd hxy
  constructor
  · intro h1
    rcases Int.lt_or_le 0 (vl a b c x y) with h2 | h2
    · have h3 : a * vl a b c x y ≤ 0 := Int.mul_nonpos_of_nonpos_of_nonneg h1 (by omega)
      omega
    · exact h2
  · intro h1
    rcases Int.lt_or_le 0 a with h2 | h2
    · have h3 : a * vl a b c x y ≤ 0 := Int.mul_nonpos_of_nonneg_of_nonpos (by omega) h1
      omega
    · exact h2
theorem ck_of {a b c p q r : Int} (h : isSq (dsc a b c) = isSq (dsc p q r)) (h1 : dsc a b c < 0 ∧ a ≤ 0 ↔ dsc p q r < 0 ∧ p ≤ 0) : ck a b c = ck p q r := by
  unfold ck
  rw [h]
  by_cases h2 : dsc a b c < 0 ∧ a ≤ 0
  · rw [if_pos h2, if_pos (h1.1 h2)]
  · rw [if_neg h2, if_neg (fun x => h2 (h1.2 x))]
theorem ck_app (f : Fm) {m : Mt} (h : m.det * m.det = 1) : ck f.a f.b f.c = ck (f.app m).a (f.app m).b (f.app m).c := by
  have hd := disc_app1 f h
  refine ck_of (by rw [hd]) ?_
  rw [hd]
  have hm : ¬ (m.a = 0 ∧ m.c = 0) := by
    rintro ⟨h1, h2⟩
    unfold Mt.det at h
    rw [h1, h2] at h
    simp at h
  constructor
  · rintro ⟨h1, h2⟩; exact ⟨h1, (sign_vl h1 hm).1 h2⟩
  · rintro ⟨h1, h2⟩; exact ⟨h1, (sign_vl h1 hm).2 h2⟩
theorem isSq_nine (d : Int) : isSq (9 * d) = isSq d := by
  rw [Bool.eq_iff_iff, isSq_iff, isSq_iff]
  constructor
  · rintro ⟨k, hk⟩
    have h1 := Int.mul_ediv_add_emod k 3
    have h2 := Int.emod_nonneg k (show (3 : Int) ≠ 0 by omega)
    have h3 := Int.emod_lt_of_pos k (show (0 : Int) < 3 by omega)
    generalize k / 3 = q at h1
    generalize k % 3 = r at h1 h2 h3
    refine ⟨q, ?_⟩
    subst h1
    have e : (3 * q + r) * (3 * q + r) = 9 * (q * q) + 6 * (q * r) + r * r := by grind
    rw [e] at hk
    have hr : r = 0 ∨ r = 1 ∨ r = 2 := by omega
    rcases hr with rfl | rfl | rfl <;> omega
  · rintro ⟨k, rfl⟩
    exact ⟨3 * k, by grind⟩
theorem dsc_three (a b c : Int) : dsc (3 * a) (3 * b) (3 * c) = 9 * dsc a b c := by unfold dsc; grind
theorem ck_three (a b c : Int) : ck (3 * a) (3 * b) (3 * c) = ck a b c := by
  refine ck_of (by rw [dsc_three, isSq_nine]) ?_
  rw [dsc_three]
  omega
theorem prim_three (a b c : Int) : prim (3 * a) (3 * b) (3 * c) = false := by
  rw [Bool.eq_false_iff]
  intro h
  have h1 := (prim_cont (f := ⟨3 * a, 3 * b, 3 * c⟩)).1 h
  have h2 : (3 : Int) ∣ cont ⟨3 * a, 3 * b, 3 * c⟩ := dvd_cont ⟨a, rfl⟩ ⟨b, rfl⟩ ⟨c, rfl⟩
  rw [h1] at h2
  omega
/-- the matrix that mirrors -/
def Mt.mir : Mt := ⟨1, 0, 0, -1⟩
theorem det_mir : Mt.mir.det = -1 := by decide
theorem det_turns (b c : Nat) : ((turnM b).mul (turnM c)).det * ((turnM b).mul (turnM c)).det = 1 := by rw [det_mul, det_turn, det_turn]; rfl
theorem det_mirs (b c : Nat) : (((turnM b).mul (turnM c)).mul .mir).det * (((turnM b).mul (turnM c)).mul .mir).det = 1 := by rw [det_mul, det_mul, det_turn, det_turn, det_mir]; rfl

/-! principal forms -/
theorem prE_or (d : Int) : prE d = 0 ∨ prE d = 5 := by unfold prE; split <;> simp
theorem prE_ne {d : Int} (h : prE d ≠ 0) : prE d = 5 ∧ (1 < d % 4 ∨ isSq d = true) := by
  unfold prE at h ⊢
  split at h
  · next h1 => exact ⟨if_pos h1, h1⟩
  · exact absurd rfl h
theorem prE_eq {d : Int} (h : prE d = 0) : d % 4 ≤ 1 ∧ isSq d = false ∧ prF d = ⟨1, d % 4, -(d / 4)⟩ := by
  have h0 : prF d = ⟨1, d % 4, -(d / 4)⟩ := by unfold prF; rw [if_pos h]
  unfold prE at h
  split at h
  · cases h
  · next h1 =>
    refine ⟨by omega, ?_, h0⟩
    cases hs : isSq d with
    | false => rfl
    | true => exact absurd (.inr hs) h1
theorem prF_dsc {d : Int} (h : prE d = 0) : dsc (prF d).a (prF d).b (prF d).c = d := by
  obtain ⟨h1, _, h3⟩ := prE_eq h
  rw [h3]
  unfold dsc
  have h4 := Int.emod_nonneg d (show (4 : Int) ≠ 0 by omega)
  have h5 : d % 4 = 0 ∨ d % 4 = 1 := by omega
  have e : 4 * 1 * -(d / 4) = -(4 * (d / 4)) := by omega
  simp only
  rw [e]
  rcases h5 with h5 | h5 <;> rw [h5] <;> omega
theorem prF_prim {d : Int} (h : prE d = 0) : prim (prF d).a (prF d).b (prF d).c = true := by
  rw [(prE_eq h).2.2]
  unfold prim
  rw [decide_eq_true_iff]
  exact Int.one_gcd
theorem prF_a {d : Int} (h : prE d = 0) : (prF d).a = 1 := by rw [(prE_eq h).2.2]
theorem prF_ck {d : Int} (h : prE d = 0) : ck (prF d).a (prF d).b (prF d).c = 0 := by
  unfold ck
  rw [prF_dsc h, (prE_eq h).2.1, prF_a h, if_neg (by simp), if_neg (by omega)]
theorem prF_big {d : Int} (h : prE d = 0) (hp : 0 < d) : rdd (prF d).a (prF d).b (prF d).c = false := by
  rw [Bool.eq_false_iff]
  intro h1
  rw [rdd_iff, prF_dsc h] at h1
  omega
theorem pr_neg {d : Int} (h : prE d = 0) (hp : ¬ 0 < d) : d < 0 := by
  rcases Int.lt_or_le d 0 with h1 | h1
  · exact h1
  · exfalso
    have : d = 0 := by omega
    subst this
    have := (prE_eq h).2.1
    rw [isSq_zero] at this
    cases this
theorem prF_red {d : Int} (h : prE d = 0) (hp : ¬ 0 < d) : rdd (prF d).a (prF d).b (prF d).c = true := by
  have hd := pr_neg h hp
  rw [rdd_iff, prF_dsc h]
  refine ⟨prF_ck h, by omega, ?_⟩
  obtain ⟨h1, _, h3⟩ := prE_eq h
  rw [h3]
  simp only
  omega
theorem rdF_red {a b c : Int} (h : rdE a b c = 0) (hr : rdd a b c = true) : rdF a b c = ⟨a, b, c⟩ := by
  have k := rdRun_red (n := Fm.mu ⟨a, b, c⟩) (s := ((⟨a, b, c⟩ : Fm), Mt.one)) (show (Fm.mk a b c).red = true from hr)
  unfold rdF rdS
  rw [if_pos h, k]
theorem prF_inv {d : Int} (h : prE d = 0) (hp : ¬ 0 < d) : rdE (prF d).a (-(prF d).b) (prF d).c = 0 ∧ rdF (prF d).a (-(prF d).b) (prF d).c = prF d := by
  have hd := pr_neg h hp
  have hr := prF_red h hp
  have hpos : Fm.pos ⟨(prF d).a, -(prF d).b, (prF d).c⟩ := ⟨by show 0 < (prF d).a; rw [prF_a h]; omega, by show dsc _ (-_) _ < 0; rw [dsc_neg, prF_dsc h]; exact hd⟩
  have he := pos_rdE hpos
  refine ⟨he, ?_⟩
  obtain ⟨h1, _, h3⟩ := prE_eq h
  rw [h3] at he hpos hr ⊢
  simp only at he hpos hr ⊢
  have h4 := Int.emod_nonneg d (show (4 : Int) ≠ 0 by omega)
  have h5 : d % 4 = 0 ∨ d % 4 = 1 := by omega
  rcases h5 with h5 | h5
  · rw [h5] at he hpos hr ⊢
    exact rdF_red he hr
  · rw [h5] at he hpos hr ⊢
    generalize -(d / 4) = c at *
    have hn : (Fm.mk 1 (-1) c).red = false := by
      rw [Bool.eq_false_iff]
      intro hx
      have := ((red_iff hpos).1 hx).2.2
      simp only at this
      omega
    have hk : (Fm.mk 1 (-1) c).k = 1 := by unfold Fm.k; simp only; omega
    have ht : (Fm.mk 1 (-1) c).app (.T 1) = ⟨1, 1, c⟩ := by
      rw [app_T]
      have e : (1 : Int) * 1 * 1 + (-1) * 1 + c = c := by omega
      exact congrArg (fun z => (⟨1, 1, z⟩ : Fm)) e
    have hs : AM.stp (⟨1, -1, c⟩, .one) = (⟨1, 1, c⟩, Mt.one.mul (.T 1)) := by
      unfold AM.stp
      simp only
      rw [hk, ht, if_pos (show (Fm.mk 1 1 c).red = true from hr)]
    have k1 := rdRun_stp (n := Fm.mu ⟨1, -1, c⟩) (s := ((⟨1, -1, c⟩ : Fm), Mt.one)) hn (Nat.le_refl _)
    have k2 := rdRun_red (n := Fm.mu ⟨1, -1, c⟩ - 1) (s := ((⟨1, 1, c⟩ : Fm), Mt.one.mul (.T 1))) (show (Fm.mk 1 1 c).red = true from hr)
    rw [hs, k2] at k1
    unfold rdF rdS
    rw [if_pos he, k1]
theorem prF_L {d : Int} {n : Nat} (hd : L n d) (hn : L n 4) : L n (prF d).a ∧ L n (prF d).b ∧ L n (prF d).c := by
  unfold prF L at *
  split
  · simp only; omega
  · simp only; omega
theorem prF_rdE {d : Int} (h : prE d = 0) (hp : ¬ 0 < d) : (rdE (prF d).a (prF d).b (prF d).c == 0) = true := by
  rw [← rdE_neg, (prF_inv h hp).1]; rfl
theorem prF_same {d : Int} (h : prE d = 0) (hp : ¬ 0 < d) : decide ((prF d).a = (rdF (prF d).a (-(prF d).b) (prF d).c).a ∧ (prF d).b = (rdF (prF d).a (-(prF d).b) (prF d).c).b ∧ (prF d).c = (rdF (prF d).a (-(prF d).b) (prF d).c).c) = true := by
  rw [(prF_inv h hp).2]; exact decide_eq_true ⟨rfl, rfl, rfl⟩
theorem pr_sq {d : Int} (h : 1 < d % 4 ∨ isSq d = true) (h1 : decide (cmpI (d % 4) 1 > 0) = false) : isSq d = true := by
  have := of_decide_eq_false h1
  rw [cmpI_gt_zero] at this
  exact h.resolve_left this
theorem turn_all : ∀ b : Fin 256, ((turnM b.val).a.natAbs < 2 ^ 64 ∧ (turnM b.val).b.natAbs < 2 ^ 64) ∧ (turnM b.val).c.natAbs < 2 ^ 64 ∧ (turnM b.val).d.natAbs < 2 ^ 64 := by decide +kernel
theorem turn_L {b : Nat} (h : b < 256) : LB (turnM b).a 6 ∧ LB (turnM b).b 6 ∧ LB (turnM b).c 6 ∧ LB (turnM b).d 6 := by
  have := turn_all ⟨b, h⟩
  exact ⟨⟨this.1.1⟩, ⟨this.1.2⟩, ⟨this.2.1⟩, ⟨this.2.2⟩⟩
theorem ckb {a b c p q r : Int} (h : ck a b c = ck p q r) : (ck a b c == ck p q r) = true := by rw [h]; exact beq_self_eq_true _
theorem primb {a b c p q r : Int} (h : prim a b c = prim p q r) : (prim a b c != prim p q r) = false := by rw [h]; exact bne_self_eq_false _
section
variable {a b c p q r s : Int} (h : (p * s - q * r) * (p * s - q * r) = 1)
include h
theorem disc_appE : (!decide (dsc a b c = dsc (vl a b c p r) (apB a b c p q r s) (vl a b c q s))) = false := congrArg Bool.not (decide_eq_true (disc_app1 ⟨a, b, c⟩ (m := ⟨p, q, r, s⟩) h).symm)
theorem prim_appE : (prim a b c != prim (vl a b c p r) (apB a b c p q r s) (vl a b c q s)) = false := primb (prim_app ⟨a, b, c⟩ (m := ⟨p, q, r, s⟩) h)
theorem ck_appE : (ck a b c == ck (vl a b c p r) (apB a b c p q r s) (vl a b c q s)) = true := ckb (ck_app ⟨a, b, c⟩ (m := ⟨p, q, r, s⟩) h)
end
/-! forms that are refused -/
theorem ckn {x k : Int} (h : x = k) : (x != k) = false := by rw [h]; exact bne_self_eq_false _
theorem isSq_mul (k : Int) : isSq (k * k) = true := isSq_iff.2 ⟨k, rfl⟩
theorem ck_square (a b : Int) : ck (a * a) (2 * (a * b)) (b * b) = 5 := by
  have e : dsc (a * a) (2 * (a * b)) (b * b) = 0 * 0 := by unfold dsc; grind
  unfold ck; rw [e, isSq_mul, if_pos rfl]
theorem ck_split (b c : Int) : ck 0 b c = 5 := by
  have e : dsc 0 b c = b * b := by unfold dsc; grind
  unfold ck; rw [e, isSq_mul, if_pos rfl]
theorem ck_negv (a c : Int) : ck (-((a.natAbs : Int) + 1)) 0 (-((c.natAbs : Int) + 1)) = 1 := by
  have h1 : 0 < ((a.natAbs : Int) + 1) * ((c.natAbs : Int) + 1) := Int.mul_pos (by omega) (by omega)
  have e : dsc (-((a.natAbs : Int) + 1)) 0 (-((c.natAbs : Int) + 1)) = -(4 * (((a.natAbs : Int) + 1) * ((c.natAbs : Int) + 1))) := by unfold dsc; grind
  unfold ck
  rw [e, isSq_neg (by omega), if_neg (by simp), if_pos (by omega)]
theorem ck_rdd {a b c : Int} (h : ck a b c ≠ 0) : rdd a b c = false := by
  rw [Bool.eq_false_iff]; intro h1; exact h (rdd_iff.1 h1).1
theorem ck_rdE {a b c : Int} {k : Int} (h : ck a b c = k) (h0 : k ≠ 0) : rdE a b c = k := by
  rw [rdE_of_ck (by rw [h]; exact h0), h]
theorem ck_sm {a b c p q r : Int} (h : ck a b c ≠ 0) : smB a b c p q r = false := by
  unfold smB
  refine decide_eq_false fun x => ?_
  have := rdE_of_ck h
  rw [x.1] at this
  exact h this.symm
end Go.AM
end

section
/- Slices of forms; the list of reduced forms. -/
namespace Go.AM
open Go Go.RowKit

def FC (f : Fm) : List DV := FL f.a f.b f.c
/-- a slice of forms of the call's own -/
def FB (e : TypeId) (fs : List Fm) : Blk := ⟨true, 6, e, fs.flatMap FC⟩
/-- a slice of forms that nobody writes any more -/
def FS (fs : List Fm) : DV := .sl fs.length (fs.flatMap FC)
theorem FC_len (fs : List Fm) : (fs.flatMap FC).length = fs.length * 6 := by
  induction fs with
  | nil => rfl
  | cons f fs ih => rw [List.flatMap_cons, List.length_append, ih, List.length_cons]; show 6 + _ = _; omega
theorem FC_drop : ∀ (fs : List Fm) (i : Nat) (h : i < fs.length), (fs.flatMap FC).drop (i * 6) = FC fs[i] ++ (fs.drop (i + 1)).flatMap FC
  | [], _, h => absurd h (Nat.not_lt_zero _)
  | f :: fs, 0, _ => rfl
  | f :: fs, i + 1, h => by
    have e : (i + 1) * 6 = 6 + i * 6 := by omega
    rw [e, ← List.drop_drop]
    exact FC_drop fs i (by simpa using h)

section ops
variable {P : Program} {tt : TT} (hT : TTok P tt)
variable {dst : Option Nat} {ty : TypeId} {pos : String} {af : Array Edge} {gd : Option (Nat × Bool)} {d : Nat} {ρ : Operand → AV} {own : Own}
variable {T : TypeId} {i : TyI} {x y : Operand} {e : TypeId} {j : TyI}
include hT
theorem op_appendF {m : Nat} {fs : List Fm} {f : Fm} (ht : tt T = some i) (hs : i.sh = .sl e) (he : tt e = some j) (hj : j.size = 6) (hjb : Nat.ble j.bytes 192 = true) (hx : ρ x = .vec m) (hb : own m = some (FB e fs)) (hy : ρ y = .p (.c (.sl 1 (FC f)))) (hfit : fs.length ≤ 100000000) (hmd : m ≠ d) :
    Eff P ⟨dst, .call ⟨.builtin .append, #[x, y], #[T, T]⟩, ty, pos, af, gd⟩ d ρ own (.vec d) [(m, none)] (some (FB e (fs ++ [f]))) [m] := by
  have hl : (FB e fs).cs.length = fs.length * 6 := FC_len fs
  have h := op_append (dst := dst) (ty := ty) (pos := pos) (af := af) (gd := gd) hT ht hs he hx hb rfl hj.symm rfl hy (by rfl) (by rw [hj]; rfl) (by rw [hj]; exact hjb) (by rw [hl, hj]; omega) (by rw [hj]; rfl) hmd
  rw [hj] at h
  unfold FB
  rw [List.flatMap_append]
  have e1 : [f].flatMap FC = FC f := by simp
  rw [e1]
  exact h
theorem op_indexF {k : IntKind} {n : Int} {fs : List Fm} (ht : tt T = some i) (hs : i.sh = .sl e) (he : tt e = some j) (hj : j.size = 6) (hx : ρ x = .p (.c (FS fs))) (hy : ρ y = .p (.c (.v (.int k n)))) (hn : 0 ≤ n ∧ n < fs.length) :
    Eff P ⟨dst, .indexAddr T x y, ty, pos, af, gd⟩ d ρ own (.ip (FC (fs.getD n.toNat ⟨0, 0, 0⟩) ++ (fs.drop (n.toNat + 1)).flatMap FC)) [] none [] := by
  have hi : n.toNat < fs.length := by omega
  have h := op_index_sl (dst := dst) (ty := ty) (pos := pos) (af := af) (gd := gd) (d := d) (own := own) hT ht hs he hx (l := fs.length) (xs := fs.flatMap FC) (by rfl) hy hn (by
    intro h0
    have := FC_len fs
    rw [h0] at this
    simp at this
    omega)
  rw [hj, FC_drop fs n.toNat hi] at h
  have e1 : fs.getD n.toNat ⟨0, 0, 0⟩ = fs[n.toNat] := by simp [List.getD, hi]
  rw [e1]
  exact h
end ops

/-! the list of reduced forms of a discriminant -/
def okF (n a b : Int) : Bool := decide ((b * b + n) % (4 * a) = 0) && (rdd a b ((b * b + n) / (4 * a)) && prim a b ((b * b + n) / (4 * a)))
def lsRow (n a : Int) : Nat → Int → List Fm
  | 0, _ => []
  | k + 1, b => (if okF n a b then [⟨a, b, (b * b + n) / (4 * a)⟩] else []) ++ lsRow n a k (b + 1)
def lsAll (n : Int) : Nat → Int → List Fm
  | 0, _ => []
  | k + 1, a => if 3 * a * a ≤ n then lsRow n a (2 * a + 1).toNat (-a) ++ lsAll n k (a + 1) else []
/-- for n to about 2000: a runs to 26 at most -/
def lst (n : Int) : List Fm := lsAll n 100 1

theorem mem_lsRow {n a : Int} {f : Fm} : ∀ {k : Nat} {b : Int}, f ∈ lsRow n a k b → ∃ b', b ≤ b' ∧ b' < b + k ∧ okF n a b' = true ∧ f = ⟨a, b', (b' * b' + n) / (4 * a)⟩
  | 0, b, h => by simp [lsRow] at h
  | k + 1, b, h => by
    unfold lsRow at h
    rw [List.mem_append] at h
    rcases h with h | h
    · split at h
      · next hk => simp at h; exact ⟨b, by omega, by omega, hk, h⟩
      · simp at h
    · obtain ⟨b', h1, h2, h3, h4⟩ := mem_lsRow h
      exact ⟨b', by omega, by omega, h3, h4⟩
theorem mem_lsAll {n : Int} {f : Fm} : ∀ {k : Nat} {a : Int}, 1 ≤ a → f ∈ lsAll n k a → ∃ a' b', 1 ≤ a' ∧ 3 * a' * a' ≤ n ∧ -a' ≤ b' ∧ b' ≤ a' ∧ okF n a' b' = true ∧ f = ⟨a', b', (b' * b' + n) / (4 * a')⟩
  | 0, a, _, h => by simp [lsAll] at h
  | k + 1, a, ha, h => by
    unfold lsAll at h
    split at h
    · next hk =>
      rw [List.mem_append] at h
      rcases h with h | h
      · obtain ⟨b', h1, h2, h3, h4⟩ := mem_lsRow h
        exact ⟨a, b', ha, hk, h1, by omega, h3, h4⟩
      · exact mem_lsAll (by omega) h
    · simp at h
theorem lst_mem {n : Int} {f : Fm} (h : f ∈ lst n) : 1 ≤ f.a ∧ 3 * f.a * f.a ≤ n ∧ -f.a ≤ f.b ∧ f.b ≤ f.a ∧ dsc f.a f.b f.c = -n ∧ rdd f.a f.b f.c = true ∧ prim f.a f.b f.c = true := by
  obtain ⟨a, b, h1, h2, h3, h4, h5, rfl⟩ := mem_lsAll (by omega) h
  unfold okF at h5
  rw [Bool.and_eq_true, Bool.and_eq_true, decide_eq_true_iff] at h5
  refine ⟨h1, h2, h3, h4, ?_, h5.2.1, h5.2.2⟩
  have h6 := Int.mul_ediv_add_emod (b * b + n) (4 * a)
  rw [h5.1] at h6
  show b * b - 4 * a * ((b * b + n) / (4 * a)) = -n
  omega
theorem lst_ne {n : Int} (h3 : 3 ≤ n) (h : n % 4 = 0 ∨ n % 4 = 3) : lst n ≠ [] := by
  have key : ∀ b : Int, b = 0 ∨ b = 1 → (b * b + n) % 4 = 0 → okF n 1 b = true := by
    intro b hb h4
    have hc : (b * b + n) / (4 * 1) = (b * b + n) / 4 := rfl
    have hd : dsc 1 b ((b * b + n) / 4) = -n := by
      unfold dsc
      have := Int.mul_ediv_add_emod (b * b + n) 4
      omega
    unfold okF
    rw [Bool.and_eq_true, Bool.and_eq_true, decide_eq_true_iff, hc]
    have hp : Fm.pos ⟨1, b, (b * b + n) / 4⟩ := ⟨by show (0 : Int) < 1; omega, by show dsc _ _ _ < 0; rw [hd]; omega⟩
    refine ⟨h4, ?_, ?_⟩
    · refine (red_iff hp).2 ?_
      rcases hb with rfl | rfl
      · simp only; omega
      · simp only; omega
    · unfold prim; rw [decide_eq_true_iff]; exact Int.one_gcd
  have e : lst n = lsRow n 1 3 (-1) ++ lsAll n 99 2 := by
    show lsAll n (99 + 1) 1 = _
    unfold lsAll
    rw [if_pos (by omega)]
    rfl
  rw [e]
  intro h0
  have h1 := (List.append_eq_nil_iff.1 h0).1
  have e2 : lsRow n 1 3 (-1) = (if okF n 1 (-1) then [⟨1, -1, ((-1) * (-1) + n) / (4 * 1)⟩] else []) ++ ((if okF n 1 0 then [⟨1, 0, (0 * 0 + n) / (4 * 1)⟩] else []) ++ ((if okF n 1 1 then [⟨1, 1, (1 * 1 + n) / (4 * 1)⟩] else []) ++ [])) := rfl
  rw [e2] at h1
  have h2 := (List.append_eq_nil_iff.1 (List.append_eq_nil_iff.1 h1).2)
  rcases h with h | h
  · rw [if_pos (key 0 (.inl rfl) (by omega))] at h2
    exact absurd h2.1 (by simp)
  · have h5 := (List.append_eq_nil_iff.1 h2.2).1
    rw [if_pos (key 1 (.inr rfl) (by omega))] at h5
    exact absurd h5 (by simp)
section ghost
variable {P : Program} {B : Bool} {N np : Nat} {Q : Exit → St → Prop} {s : St} {c : Code}
theorem AWp_freezeF {t m : Nat} {fs : List Fm} {be : TypeId} (ht : s.regs t = .vec m) (hb : s.own m = some (FB be fs)) (h : AWp P B N np c Q ⟨upd s.regs t (.p (.c (FS fs))), upd s.own m none⟩) : AWp P B N np c Q s := by
  refine AWp_freeze (n := fs.length) ht hb rfl (FC_len fs).symm (by show 0 < 6; omega) ?_
  exact h
end ghost

theorem sq_b {x m : Int} (h : -m ≤ x ∧ x ≤ m) : 0 ≤ x * x ∧ x * x ≤ m * m := ⟨sq_nonneg' x, sq_le_of_abs (by omega)⟩
theorem a_le {a N : Int} (_h1 : 1 ≤ a) (h : 3 * a * a ≤ N) (hN : N ≤ 2003) : a ≤ 25 := by
  rcases Int.lt_or_le 25 a with h2 | h2
  · have h3 : (26 : Int) * 26 ≤ a * a := Int.mul_le_mul (by omega) (by omega) (by omega) (by omega)
    have e : 3 * a * a = 3 * (a * a) := Int.mul_assoc ..
    omega
  · exact h2
theorem a_sq {a : Int} (h1 : 1 ≤ a ∧ a ≤ 26) : 0 ≤ 3 * a * a ∧ 3 * a * a ≤ 2028 := by
  have := sq_b (x := a) (m := 26) (by omega)
  have e : 3 * a * a = 3 * (a * a) := Int.mul_assoc ..
  omega
theorem c_b {x y : Int} (hx : 0 ≤ x ∧ x ≤ 3000) (hy : 1 ≤ y) : 0 ≤ x / y ∧ x / y ≤ 3000 := ⟨Int.ediv_nonneg hx.1 (by omega), Int.le_trans (Int.ediv_le_self _ hx.1) hx.2⟩

/-- the size of a description -/
def szz (D : Nat) : Int := if (3 + (D : Int) % 2000) % 4 = 1 then 3 + (D : Int) % 2000 + 2 else if (3 + (D : Int) % 2000) % 4 = 2 then 3 + (D : Int) % 2000 + 1 else 3 + (D : Int) % 2000
theorem szz_spec (D : Nat) : 3 + (D : Int) % 2000 ≤ szz D ∧ 3 ≤ szz D ∧ szz D ≤ 2003 ∧ (szz D % 4 = 0 ∨ szz D % 4 = 3) ∧ ∀ n : Int, 3 + (D : Int) % 2000 ≤ n → n ≤ szz D → (n % 4 = 0 ∨ n % 4 = 3) → n = szz D := by
  unfold szz
  have h1 := Int.emod_nonneg (D : Int) (show (2000 : Int) ≠ 0 by omega)
  have h2 := Int.emod_lt_of_pos (D : Int) (show (0 : Int) < 2000 by omega)
  generalize (D : Int) % 2000 = d at *
  split
  · refine ⟨by omega, by omega, by omega, by omega, fun n _ _ _ => by omega⟩
  · split
    · refine ⟨by omega, by omega, by omega, by omega, fun n _ _ _ => by omega⟩
    · refine ⟨by omega, by omega, by omega, by omega, fun n _ _ _ => by omega⟩
/-- the form of a description -/
def pik (D i : Nat) : Fm := (lst (szz D)).getD ((i : Int) % ((lst (szz D)).length : Nat)).toNat ⟨0, 0, 0⟩
def mkF (D i m : Nat) : Fm := if m % 4 = 0 then pik D i else (pik D i).app (turnM m)
theorem lst_pos (D : Nat) : 0 < (lst (szz D)).length := List.length_pos_iff.2 (lst_ne (szz_spec D).2.1 (szz_spec D).2.2.2.1)
theorem pik_mem (D i : Nat) : pik D i ∈ lst (szz D) := by
  unfold pik
  have h := lst_pos D
  have h1 := Int.emod_nonneg (i : Int) (show ((lst (szz D)).length : Int) ≠ 0 by omega)
  have h2 := Int.emod_lt_of_pos (i : Int) (show (0 : Int) < ((lst (szz D)).length : Int) by omega)
  have h3 : ((i : Int) % ((lst (szz D)).length : Nat)).toNat < (lst (szz D)).length := by omega
  rw [List.getD, List.getElem?_eq_getElem h3]
  exact List.getElem_mem h3
theorem pik_facts (D i : Nat) : 1 ≤ (pik D i).a ∧ (pik D i).a ≤ 25 ∧ -(pik D i).a ≤ (pik D i).b ∧ (pik D i).b ≤ (pik D i).a ∧ dsc (pik D i).a (pik D i).b (pik D i).c = -szz D ∧ rdd (pik D i).a (pik D i).b (pik D i).c = true ∧ prim (pik D i).a (pik D i).b (pik D i).c = true := by
  obtain ⟨h1, h2, h3, h4, h5, h6, h7⟩ := lst_mem (pik_mem D i)
  exact ⟨h1, a_le h1 h2 (szz_spec D).2.2.1, h3, h4, h5, h6, h7⟩
theorem pik_c (D i : Nat) : 1 ≤ (pik D i).c ∧ (pik D i).c ≤ 3000 := by
  obtain ⟨h1, h2, h3, h4, h5, h6, _⟩ := pik_facts D i
  have h8 := (rdd_iff.1 h6).2.2.2.1
  refine ⟨by omega, ?_⟩
  have h9 := (szz_spec D).2.2.1
  have hb := sq_b (x := (pik D i).b) (m := 25) (by omega)
  unfold dsc at h5
  have e : 4 * (pik D i).a * (pik D i).c = 4 * ((pik D i).a * (pik D i).c) := Int.mul_assoc ..
  have h10 : 1 * (pik D i).c ≤ (pik D i).a * (pik D i).c := Int.mul_le_mul_of_nonneg_right h1 (by omega)
  omega
theorem pik_L (D i : Nat) : LB (pik D i).a 6 ∧ LB (pik D i).b 6 ∧ LB (pik D i).c 6 := by
  obtain ⟨h1, h2, h3, h4, _⟩ := pik_facts D i
  have h5 := pik_c D i
  exact ⟨⟨by unfold L; omega⟩, ⟨by unfold L; omega⟩, ⟨by unfold L; omega⟩⟩

/-! rounds -/
theorem ls_start (n : Int) : [] ++ lsAll n (101 - (1 : Int)).toNat 1 = lst n := rfl
theorem ls_in {n a : Int} {out : List Fm} (h : out ++ lsAll n (101 - a).toNat a = lst n) (ha : 1 ≤ a ∧ a ≤ 50) (hc : 3 * a * a ≤ n) : out ++ (lsRow n a (a + 1 - -a).toNat (-a) ++ lsAll n (100 - a).toNat (a + 1)) = lst n := by
  have e : (101 - a).toNat = (100 - a).toNat + 1 := by omega
  rw [← h, e, lsAll, if_pos hc, show (2 * a + 1).toNat = (a + 1 - -a).toNat by congr 1; omega]
theorem ls_no {n a b : Int} {out r : List Fm} (h : out ++ (lsRow n a (a + 1 - b).toNat b ++ r) = lst n) (hb : b ≤ a) (hk : okF n a b = false) : out ++ (lsRow n a (a + 1 - (b + 1)).toNat (b + 1) ++ r) = lst n := by
  have e : (a + 1 - b).toNat = (a + 1 - (b + 1)).toNat + 1 := by omega
  rw [← h, e, lsRow, hk]; rfl
theorem ls_yes {n a b : Int} {out r : List Fm} (h : out ++ (lsRow n a (a + 1 - b).toNat b ++ r) = lst n) (hb : b ≤ a) (hk : okF n a b = true) : (out ++ [⟨a, b, (b * b + n) / (4 * a)⟩]) ++ (lsRow n a (a + 1 - (b + 1)).toNat (b + 1) ++ r) = lst n := by
  have e : (a + 1 - b).toNat = (a + 1 - (b + 1)).toNat + 1 := by omega
  rw [← h, e, lsRow, hk]; simp
theorem ls_out {n a b : Int} {out : List Fm} (h : out ++ (lsRow n a (a + 1 - b).toNat b ++ lsAll n (100 - a).toNat (a + 1)) = lst n) (hb : ¬ b ≤ a) : out ++ lsAll n (101 - (a + 1)).toNat (a + 1) = lst n := by
  have e : (a + 1 - b).toNat = 0 := by omega
  have e2 : (101 - (a + 1)).toNat = (100 - a).toNat := by omega
  rw [← h, e, e2]; rfl
theorem ls_end {n a : Int} {out : List Fm} (h : out ++ lsAll n (101 - a).toNat a = lst n) (hc : ¬ 3 * a * a ≤ n) : out = lst n := by
  rw [← h]
  cases (101 - a).toNat with
  | zero => simp [lsAll]
  | succ k => rw [lsAll, if_neg hc]; simp
theorem okF_no1 {n a b : Int} (h : (b * b + n) % (4 * a) ≠ 0) : okF n a b = false := by unfold okF; rw [decide_eq_false h]; rfl
theorem okF_of {n a b : Int} (h : (b * b + n) % (4 * a) = 0) : okF n a b = (rdd a b ((b * b + n) / (4 * a)) && prim a b ((b * b + n) / (4 * a))) := by unfold okF; rw [decide_eq_true h]; rfl
end Go.AM
end

section
/- The least values of a reduced form. -/
namespace Go.AM
open Go Go.RowKit

theorem vl_low {a b c x y : Int} (hb : (b.natAbs : Int) ≤ a) : a * ((x.natAbs : Int) * x.natAbs) - a * ((x.natAbs : Int) * y.natAbs) + c * ((y.natAbs : Int) * y.natAbs) ≤ vl a b c x y := by
  have e1 : a * x * x = a * ((x.natAbs : Int) * x.natAbs) := by rw [Int.natAbs_mul_self', Int.mul_assoc]
  have e2 : c * y * y = c * ((y.natAbs : Int) * y.natAbs) := by rw [Int.natAbs_mul_self', Int.mul_assoc]
  have e3 : ((b * x * y).natAbs : Int) = (b.natAbs : Int) * ((x.natAbs : Int) * y.natAbs) := by rw [Int.natAbs_mul, Int.natAbs_mul]; simp [Int.mul_assoc]
  have h1 : (b.natAbs : Int) * ((x.natAbs : Int) * y.natAbs) ≤ a * ((x.natAbs : Int) * y.natAbs) := Int.mul_le_mul_of_nonneg_right hb (Int.mul_nonneg (by omega) (by omega))
  unfold vl
  rw [e1, e2]
  omega
/-- at places off the axis a reduced form is at least c -/
theorem min_c {a b c x y : Int} (ha : 0 < a) (hb : (b.natAbs : Int) ≤ a) (hc : a ≤ c) (hy : y ≠ 0) : c ≤ vl a b c x y := by
  refine Int.le_trans ?_ (vl_low hb)
  have hy1 : 1 ≤ (y.natAbs : Int) := by omega
  have hx0 : 0 ≤ (x.natAbs : Int) := by omega
  generalize (x.natAbs : Int) = u at *
  generalize (y.natAbs : Int) = v at *
  have k1 : a * (u * u) - a * (u * v) = a * (u * (u - v)) := by grind
  have hv : 1 ≤ v * v := by
    have : 1 * 1 ≤ v * v := Int.mul_le_mul hy1 hy1 (by omega) (by omega)
    omega
  rcases Int.le_total v u with h | h
  · have h1 : 0 ≤ a * (u * (u - v)) := Int.mul_nonneg (by omega) (Int.mul_nonneg hx0 (by omega))
    have h2 : c * 1 ≤ c * (v * v) := Int.mul_le_mul_of_nonneg_left hv (by omega)
    omega
  · have h0 : 0 ≤ a * (u * u) := Int.mul_nonneg (by omega) (sq_nonneg' u)
    rcases Int.lt_or_le u v with h' | h'
    · have h3 : a * (u * v) ≤ c * (u * v) := Int.mul_le_mul_of_nonneg_right hc (Int.mul_nonneg hx0 (by omega))
      have k2 : c * (v * v) - c * (u * v) = c * (v * (v - u)) := by grind
      have h4 : 1 * 1 ≤ v * (v - u) := Int.mul_le_mul hy1 (by omega) (by omega) (by omega)
      have h5 : c * 1 ≤ c * (v * (v - u)) := Int.mul_le_mul_of_nonneg_left (by omega) (by omega)
      omega
    · have e : u = v := by omega
      subst e
      have h2 : c * 1 ≤ c * (u * u) := Int.mul_le_mul_of_nonneg_left hv (by omega)
      omega
/-- everywhere but at 0 it is at least a -/
theorem min_a {a b c x y : Int} (ha : 0 < a) (hb : (b.natAbs : Int) ≤ a) (hc : a ≤ c) (h : x ≠ 0 ∨ y ≠ 0) : a ≤ vl a b c x y := by
  by_cases hy : y = 0
  · subst hy
    have hx : x ≠ 0 := h.resolve_right (fun k => k rfl)
    have e : vl a b c x 0 = a * ((x.natAbs : Int) * x.natAbs) := by unfold vl; rw [Int.natAbs_mul_self']; grind
    rw [e]
    have hx1 : 1 ≤ (x.natAbs : Int) := by omega
    generalize (x.natAbs : Int) = u at *
    have h1 : 1 * 1 ≤ u * u := Int.mul_le_mul hx1 hx1 (by omega) (by omega)
    have h2 : a * 1 ≤ a * (u * u) := Int.mul_le_mul_of_nonneg_left (by omega) (by omega)
    omega
  · exact Int.le_trans hc (min_c ha hb hc hy)

/-- the form of a description is definite -/
theorem mkF_pos (D i m : Nat) : (mkF D i m).pos := by
  obtain ⟨h1, _, _, _, h5, _⟩ := pik_facts D i
  have h3 := (szz_spec D).2.1
  have hp : (pik D i).pos := ⟨by omega, by show dsc _ _ _ < 0; omega⟩
  unfold mkF
  split
  · exact hp
  · have hd := det_turn m
    refine ⟨?_, ?_⟩
    · have hm : ¬ ((turnM m).a = 0 ∧ (turnM m).c = 0) := by
        rintro ⟨k1, k2⟩
        unfold Mt.det at hd
        rw [k1, k2] at hd
        simp at hd
      have hs := vl_sign (a := (pik D i).a) (b := (pik D i).b) (c := (pik D i).c) (x := (turnM m).a) (y := (turnM m).c) (by omega) hm
      show 0 < vl (pik D i).a (pik D i).b (pik D i).c (turnM m).a (turnM m).c
      rcases Int.lt_or_le 0 (vl (pik D i).a (pik D i).b (pik D i).c (turnM m).a (turnM m).c) with h | h
      · exact h
      · have := Int.mul_nonpos_of_nonneg_of_nonpos (show 0 ≤ (pik D i).a by omega) h
        omega
    · show ((pik D i).app (turnM m)).disc < 0
      rw [disc_T hd]
      exact hp.2
theorem mkF_L {D i m : Nat} (hm : m < 256) : LB (mkF D i m).a 12 ∧ LB (mkF D i m).b 12 ∧ LB (mkF D i m).c 12 := by
  obtain ⟨pa, pb, pc⟩ := pik_L D i
  obtain ⟨ta, tb, tc, td⟩ := turn_L hm
  unfold mkF
  split
  · exact ⟨⟨lz⟩, ⟨lz⟩, ⟨lz⟩⟩
  · show LB (vl _ _ _ _ _) 12 ∧ LB (apB _ _ _ _ _ _ _) 12 ∧ LB (vl _ _ _ _ _) 12
    exact ⟨⟨lz⟩, ⟨lz⟩, ⟨lz⟩⟩
theorem vl10 (a b c : Int) : (!decide (vl a b c 1 0 = a)) = false := congrArg Bool.not (decide_eq_true (by simp [vl]))
theorem vl01 (a b c : Int) : (!decide (vl a b c 0 1 = c)) = false := congrArg Bool.not (decide_eq_true (by simp [vl]))
theorem vl00 (a b c : Int) : (sgn (vl a b c 0 0) != 0) = false := by
  have e : vl a b c 0 0 = 0 := by simp [vl]
  rw [e]; rfl
theorem sgn1 {a : Int} (h : 0 < a) : decide (sgn a < 1) = false := decide_eq_false (by have := sgn_gt_iff.2 h; omega)
theorem min_aB {a b c x y : Int} (h : rdd a b c = true) (ha : 0 < a) (k : x ≠ 0 ∨ y ≠ 0) : decide (cmpI (vl a b c x y) a < 0) = false := by
  have h1 := rdd_iff.1 h
  exact decide_eq_false (fun k1 => by have := min_a (x := x) (y := y) ha h1.2.2.1 h1.2.2.2.1 k; rw [cmpI_lt_zero] at k1; omega)
theorem min_cB {a b c x y : Int} (h : rdd a b c = true) (ha : 0 < a) (k : y ≠ 0) : decide (cmpI (vl a b c x y) c < 0) = false := by
  have h1 := rdd_iff.1 h
  exact decide_eq_false (fun k1 => by have := min_c (x := x) (y := y) ha h1.2.2.1 h1.2.2.2.1 k; rw [cmpI_lt_zero] at k1; omega)
end Go.AM
end

section
/- A class has one reduced form. -/
namespace Go.AM
open Go Go.RowKit

structure Rd (g : Fm) : Prop where
  a : 0 < g.a
  b : (g.b.natAbs : Int) ≤ g.a
  c : g.a ≤ g.c
  s : ((g.b.natAbs : Int) < g.a ∧ g.a < g.c) ∨ 0 ≤ g.b
theorem Rd.of {g : Fm} (hp : 0 < g.a) (h : rdd g.a g.b g.c = true) : Rd g := by
  have h1 := rdd_iff.1 h
  exact ⟨hp, h1.2.2.1, h1.2.2.2.1, h1.2.2.2.2⟩
theorem det_ne {m : Mt} (h : m.det = 1) : m.a ≠ 0 ∨ m.c ≠ 0 := by
  by_cases h1 : m.a = 0
  · right; intro h2
    unfold Mt.det at h
    rw [h1, h2] at h
    simp at h
  · exact .inl h1
theorem adj_det {m : Mt} : m.adj.det = m.det := by unfold Mt.adj Mt.det; grind
theorem adj_app {g : Fm} {m : Mt} (h : m.det = 1) : (g.app m).app m.adj = g := by
  rw [app_mul]
  have e : m.mul m.adj = .one := by
    have h' : m.a * m.d - m.b * m.c = 1 := h
    unfold Mt.mul Mt.adj Mt.one
    simp only [Mt.mk.injEq]
    refine ⟨?_, ?_, ?_, ?_⟩ <;> grind
  rw [e, app_one]
theorem Rd.le {g : Fm} {m : Mt} (hg : Rd g) (h : m.det = 1) : g.a ≤ (g.app m).a := min_a hg.a hg.b hg.c (det_ne h)
theorem Rd.cle {g : Fm} {m : Mt} (hg : Rd g) (h : m.c ≠ 0) : g.c ≤ (g.app m).a := min_c hg.a hg.b hg.c h
/-- two reduced forms of one class are equal -/
theorem red_uniq {g : Fm} {m : Mt} (hg : Rd g) (hm : m.det = 1) (hh : Rd (g.app m)) : g.app m = g := by
  have ha : (g.app m).a = g.a := by
    have h1 := hg.le hm
    have h2 := hh.le (m := m.adj) (by rw [adj_det]; exact hm)
    rw [adj_app hm] at h2
    omega
  have hd : (g.app m).disc = g.disc := disc_T hm
  have fin : (g.app m).b = g.b → g.app m = g := by
    intro hb
    have hc : (g.app m).c = g.c := by
      have h1 : (g.app m).b * (g.app m).b - 4 * (g.app m).a * (g.app m).c = g.b * g.b - 4 * g.a * g.c := hd
      rw [hb, ha] at h1
      have h2 : g.a * (g.app m).c = g.a * g.c := by
        have e1 : 4 * g.a * (g.app m).c = 4 * (g.a * (g.app m).c) := Int.mul_assoc ..
        have e2 : 4 * g.a * g.c = 4 * (g.a * g.c) := Int.mul_assoc ..
        omega
      exact Int.eq_of_mul_eq_mul_left (by have := hg.a; omega) h2
    exact Fm.ext ha hb hc
  apply fin
  by_cases hy : m.c = 0
  · have h1 : m.a * m.d = 1 := by
      have : m.a * m.d - m.b * m.c = 1 := hm
      rw [hy] at this; omega
    have hb : (g.app m).b = g.b + 2 * g.a * (m.a * m.b) := by
      show apB g.a g.b g.c m.a m.b m.c m.d = _
      unfold apB
      rw [hy]
      grind
    have s1 := hg.s; have s2 := hh.s
    have b1 := hg.b; have b2 := hh.b
    have a1 := hg.a
    rw [ha] at s2 b2
    generalize (g.app m).b = B at *
    generalize m.a * m.b = t at *
    have ht : t = 0 := by
      rcases Int.lt_or_le t 0 with h | h
      · exfalso
        have : g.a * t ≤ g.a * (-1) := Int.mul_le_mul_of_nonneg_left (by omega) (by omega)
        have e : 2 * g.a * t = 2 * (g.a * t) := Int.mul_assoc ..
        omega
      · rcases Int.lt_or_le 0 t with h' | h'
        · exfalso
          have : g.a * 1 ≤ g.a * t := Int.mul_le_mul_of_nonneg_left (by omega) (by omega)
          have e : 2 * g.a * t = 2 * (g.a * t) := Int.mul_assoc ..
          omega
        · omega
    rw [ht] at hb
    omega
  · have h1 : g.c ≤ (g.app m).a := hg.cle hy
    have h2 : (g.app m).c ≤ g.a := by
      have := hh.cle (m := m.adj) (by show -m.c ≠ 0; omega)
      rw [adj_app hm] at this
      exact this
    have c1 := hg.c; have c2 := hh.c
    have s1 := hg.s; have s2 := hh.s
    have e1 : g.c = g.a := by omega
    have e2 : (g.app m).c = g.a := by omega
    have h3 : (g.app m).b * (g.app m).b - 4 * (g.app m).a * (g.app m).c = g.b * g.b - 4 * g.a * g.c := hd
    rw [ha, e2, e1] at h3
    have h4 : (g.app m).b * (g.app m).b = g.b * g.b := by omega
    have p1 : 0 ≤ g.b := by omega
    have p2 : 0 ≤ (g.app m).b := by omega
    have q1 := abs_le_of_sq p1 (Int.le_of_eq h4)
    have q2 := abs_le_of_sq p2 (Int.le_of_eq h4.symm)
    omega

/-- the reduced form of a class -/
theorem rdF_app {f : Fm} (hf : f.pos) : ∃ m : Mt, m.det = 1 ∧ rdF f.a f.b f.c = f.app m := by
  have he : rdE f.a f.b f.c = 0 := pos_rdE hf
  obtain ⟨h1, _⟩ := rdS_good (M := max f.a f.c) hf (by omega) (by omega)
  exact ⟨(rdS f.a f.b f.c).2, h1.det, h1.eq⟩
end Go.AM
end

section
/- Unique reduced forms, as the law asks. -/
namespace Go.AM
open Go Go.RowKit

theorem pos_det {f : Fm} {m : Mt} (hf : f.pos) (hd : m.det = 1) : (f.app m).pos := by
  refine ⟨?_, ?_⟩
  · have hm : ¬ (m.a = 0 ∧ m.c = 0) := by
      rintro ⟨k1, k2⟩
      rcases det_ne hd with h | h
      · exact h k1
      · exact h k2
    have hs := vl_sign (a := f.a) (b := f.b) (c := f.c) (x := m.a) (y := m.c) hf.2 hm
    show 0 < vl f.a f.b f.c m.a m.c
    rcases Int.lt_or_le 0 (vl f.a f.b f.c m.a m.c) with h | h
    · exact h
    · have h0 := hf.1
      have := Int.mul_nonpos_of_nonneg_of_nonpos (show 0 ≤ f.a by omega) h
      omega
  · show (f.app m).disc < 0
    rw [disc_T hd]
    exact hf.2
theorem Rd.rdF {f : Fm} (hf : f.pos) : Rd (AM.rdF f.a f.b f.c) := by
  have he : rdE f.a f.b f.c = 0 := pos_rdE hf
  exact Rd.of (rd_pos he).1 (rd_red he)
theorem uniq_app {f : Fm} {t : Mt} (hf : f.pos) (ht : t.det = 1) : rdF (f.app t).a (f.app t).b (f.app t).c = rdF f.a f.b f.c := by
  have hp := pos_det hf ht
  obtain ⟨m, hm, e⟩ := rdF_app hf
  obtain ⟨k, hk, e'⟩ := rdF_app hp
  have r1 := Rd.rdF hf
  have r2 := Rd.rdF hp
  have e3 : (f.app m).app (m.adj.mul (t.mul k)) = (f.app t).app k := by
    rw [← app_mul, adj_app hm, app_mul]
  rw [e] at r1
  rw [e'] at r2
  rw [e, e']
  rw [← e3] at r2 ⊢
  exact red_uniq r1 (by rw [det_mul, det_mul, adj_det, hm, ht, hk]; rfl) r2
theorem U1 {f : Fm} {t : Mt} (hf : f.pos) (ht : t.det = 1) : (!decide ((rdF f.a f.b f.c).a = (rdF (vl f.a f.b f.c t.a t.c) (apB f.a f.b f.c t.a t.b t.c t.d) (vl f.a f.b f.c t.b t.d)).a ∧ (rdF f.a f.b f.c).b = (rdF (vl f.a f.b f.c t.a t.c) (apB f.a f.b f.c t.a t.b t.c t.d) (vl f.a f.b f.c t.b t.d)).b ∧ (rdF f.a f.b f.c).c = (rdF (vl f.a f.b f.c t.a t.c) (apB f.a f.b f.c t.a t.b t.c t.d) (vl f.a f.b f.c t.b t.d)).c)) = false := by
  have h : rdF (vl f.a f.b f.c t.a t.c) (apB f.a f.b f.c t.a t.b t.c t.d) (vl f.a f.b f.c t.b t.d) = rdF f.a f.b f.c := uniq_app hf ht
  rw [h]
  exact congrArg Bool.not (decide_eq_true ⟨rfl, rfl, rfl⟩)
theorem E3 {f : Fm} {t : Mt} (hf : f.pos) (ht : t.det = 1) : rdE (vl f.a f.b f.c t.a t.c) (apB f.a f.b f.c t.a t.b t.c t.d) (vl f.a f.b f.c t.b t.d) = 0 := pos_rdE (pos_det hf ht)
theorem rdF_idem {f : Fm} (hf : f.pos) : rdF (rdF f.a f.b f.c).a (rdF f.a f.b f.c).b (rdF f.a f.b f.c).c = rdF f.a f.b f.c := by
  have he : rdE f.a f.b f.c = 0 := pos_rdE hf
  exact rdF_red (pos_rdE (rd_pos he)) (rd_red he)
theorem E4 {f : Fm} (hf : f.pos) : rdE (rdF f.a f.b f.c).a (rdF f.a f.b f.c).b (rdF f.a f.b f.c).c = 0 := pos_rdE (rd_pos (pos_rdE hf))
theorem U2 {f : Fm} (hf : f.pos) : (!decide ((rdF f.a f.b f.c).a = (rdF (rdF f.a f.b f.c).a (rdF f.a f.b f.c).b (rdF f.a f.b f.c).c).a ∧ (rdF f.a f.b f.c).b = (rdF (rdF f.a f.b f.c).a (rdF f.a f.b f.c).b (rdF f.a f.b f.c).c).b ∧ (rdF f.a f.b f.c).c = (rdF (rdF f.a f.b f.c).a (rdF f.a f.b f.c).b (rdF f.a f.b f.c).c).c)) = false := by
  rw [rdF_idem hf]
  exact congrArg Bool.not (decide_eq_true ⟨rfl, rfl, rfl⟩)
theorem sm1 {f g : Fm} (hf : f.pos) (hg : g.pos) : (smB f.a f.b f.c g.a g.b g.c == decide ((rdF f.a f.b f.c).a = (rdF g.a g.b g.c).a ∧ (rdF f.a f.b f.c).b = (rdF g.a g.b g.c).b ∧ (rdF f.a f.b f.c).c = (rdF g.a g.b g.c).c)) = true := by
  rw [beq_iff_eq]
  unfold smB
  refine decide_eq_decide.2 ⟨fun h => by rw [h.2.2]; exact ⟨rfl, rfl, rfl⟩, fun h => ⟨pos_rdE hf, pos_rdE hg, Fm.ext h.1 h.2.1 h.2.2⟩⟩
theorem sm2 {f g : Fm} (hf : f.pos) (hg : g.pos) : (smB (rdF f.a f.b f.c).a (rdF f.a f.b f.c).b (rdF f.a f.b f.c).c (rdF g.a g.b g.c).a (rdF g.a g.b g.c).b (rdF g.a g.b g.c).c == smB f.a f.b f.c g.a g.b g.c) = true := by
  rw [beq_iff_eq]
  unfold smB
  rw [rdF_idem hf, rdF_idem hg, E4 hf, E4 hg]
  refine decide_eq_decide.2 ⟨fun h => ⟨pos_rdE hf, pos_rdE hg, h.2.2⟩, fun h => ⟨rfl, rfl, h.2.2⟩⟩
end Go.AM
end

section
/- Equivalence of forms, as the law FormSame asks. -/
namespace Go.AM
open Go Go.RowKit

theorem rdM_app {f : Fm} (hf : f.pos) : (rdM f.a f.b f.c).det = 1 ∧ rdF f.a f.b f.c = f.app (rdM f.a f.b f.c) := by
  obtain ⟨h1, _⟩ := rdS_good (M := max f.a f.c) hf (by omega) (by omega)
  exact ⟨h1.det, h1.eq⟩
theorem sm_det {f g : Fm} (hf : f.pos) (hg : g.pos) (h : smB f.a f.b f.c g.a g.b g.c = true) : (smM f.a f.b f.c g.a g.b g.c).det = 1 ∧ f.app (smM f.a f.b f.c g.a g.b g.c) = g := by
  unfold smM
  rw [if_pos h]
  unfold smB at h
  have h1 := (of_decide_eq_true h).2.2
  obtain ⟨d1, e1⟩ := rdM_app hf
  obtain ⟨d2, e2⟩ := rdM_app hg
  refine ⟨by rw [det_mul, adj_det, d1, d2]; rfl, ?_⟩
  rw [← app_mul, ← e1, h1, e2, adj_app d2]
theorem sm_zero {a b c p q r : Int} (h : smB a b c p q r = false) : smM a b c p q r = ⟨0, 0, 0, 0⟩ := by
  unfold smM; rw [h]; rfl
theorem sm_app {f : Fm} {t : Mt} (hf : f.pos) (ht : t.det = 1) : smB f.a f.b f.c (f.app t).a (f.app t).b (f.app t).c = true := by
  unfold smB
  exact decide_eq_true ⟨pos_rdE hf, pos_rdE (pos_det hf ht), (uniq_app hf ht).symm⟩
/-- equivalent forms have one discriminant -/
theorem sm_disc {f g : Fm} (hf : f.pos) (hg : g.pos) (h : smB f.a f.b f.c g.a g.b g.c = true) : dsc f.a f.b f.c = dsc g.a g.b g.c := by
  obtain ⟨d, e⟩ := sm_det hf hg h
  have := disc_T (f := f) d
  rw [e] at this
  exact this.symm
theorem mkF_dsc (D i m : Nat) : dsc (mkF D i m).a (mkF D i m).b (mkF D i m).c = -szz D := by
  obtain ⟨_, _, _, _, h5, _⟩ := pik_facts D i
  unfold mkF
  split
  · exact h5
  · have := disc_T (f := pik D i) (det_turn m)
    exact Eq.trans this h5
end Go.AM
end

section
/- Facts of FormSame and FormInverse in the terms of their walks. -/
namespace Go.AM
open Go Go.RowKit

theorem mul_L {m n : Mt} {k : Nat} (m1 : LB m.a k) (m2 : LB m.b k) (m3 : LB m.c k) (m4 : LB m.d k) (n1 : LB n.a k) (n2 : LB n.b k) (n3 : LB n.c k) (n4 : LB n.d k) :
    LB (m.mul n.adj).a (k + 2) ∧ LB (m.mul n.adj).b (k + 2) ∧ LB (m.mul n.adj).c (k + 2) ∧ LB (m.mul n.adj).d (k + 2) := by
  refine ⟨⟨?_⟩, ⟨?_⟩, ⟨?_⟩, ⟨?_⟩⟩
  · exact (m1.le.mul n4.le).add (m2.le.mul n3.le.neg)
  · exact (m1.le.mul n2.le.neg).add (m2.le.mul n1.le)
  · exact (m3.le.mul n4.le).add (m4.le.mul n3.le.neg)
  · exact (m3.le.mul n2.le.neg).add (m4.le.mul n1.le)
theorem sm_L {a b c p q r : Int} (ha : LB a 20) (hb : LB b 20) (hc : LB c 20) (hp : LB p 20) (hq : LB q 20) (hr : LB r 20) :
    LB (smM a b c p q r).a 23 ∧ LB (smM a b c p q r).b 23 ∧ LB (smM a b c p q r).c 23 ∧ LB (smM a b c p q r).d 23 := by
  unfold smM
  split
  · exact mul_L (k := 21) ⟨lz⟩ ⟨lz⟩ ⟨lz⟩ ⟨lz⟩ ⟨lz⟩ ⟨lz⟩ ⟨lz⟩ ⟨lz⟩
  · exact ⟨⟨lz⟩, ⟨lz⟩, ⟨lz⟩, ⟨lz⟩⟩
theorem app_L {f : Fm} {t : Mt} (fa : LB f.a 12) (fb : LB f.b 12) (fc : LB f.c 12) (ta : LB t.a 6) (tb : LB t.b 6) (tc : LB t.c 6) (td : LB t.d 6) :
    LB (f.app t).a 20 ∧ LB (f.app t).b 20 ∧ LB (f.app t).c 20 := by
  show LB (vl _ _ _ _ _) 20 ∧ LB (apB _ _ _ _ _ _ _) 20 ∧ LB (vl _ _ _ _ _) 20
  exact ⟨⟨lz⟩, ⟨lz⟩, ⟨lz⟩⟩
theorem up_L {f : Fm} (fa : LB f.a 12) (fb : LB f.b 12) (fc : LB f.c 12) : LB f.a 20 ∧ LB f.b 20 ∧ LB f.c 20 := ⟨⟨lz⟩, ⟨lz⟩, ⟨lz⟩⟩
/-- what 'Same' says of two definite forms -/
structure SameF (f g : Fm) (m : Mt) (is : Bool) : Prop where
  det : is = true → m.det = 1
  app : is = true → f.app m = g
  disc : is = true → dsc f.a f.b f.c = dsc g.a g.b g.c
  no : is = false → m = ⟨0, 0, 0, 0⟩
theorem SameF.of {f g : Fm} (hf : f.pos) (hg : g.pos) : SameF f g (smM f.a f.b f.c g.a g.b g.c) (smB f.a f.b f.c g.a g.b g.c) :=
  ⟨fun h => (sm_det hf hg h).1, fun h => (sm_det hf hg h).2, fun h => sm_disc hf hg h, fun h => sm_zero h⟩
theorem SameF.F1 {f g : Fm} {m : Mt} (h : SameF f g m true) : (!decide (m.a * m.d - m.b * m.c = 1)) = false := congrArg Bool.not (decide_eq_true (h.det rfl))
theorem SameF.F2 {f g : Fm} {m : Mt} (h : SameF f g m true) : (!decide (vl f.a f.b f.c m.a m.c = g.a ∧ apB f.a f.b f.c m.a m.b m.c m.d = g.b ∧ vl f.a f.b f.c m.b m.d = g.c)) = false := by
  have k := h.app rfl
  exact congrArg Bool.not (decide_eq_true ⟨congrArg Fm.a k, congrArg Fm.b k, congrArg Fm.c k⟩)
theorem SameF.F3 {f g : Fm} {m : Mt} {n k : Int} (h : SameF f g m true) (h1 : dsc f.a f.b f.c = -n) (h2 : dsc g.a g.b g.c = -k) : (n != k) = false := by
  have := h.disc rfl
  have e : n = k := by omega
  rw [e]; exact bne_self_eq_false _
theorem SameF.F4 {f g : Fm} {m : Mt} (h : SameF f g m false) : decide (m.a = 0 ∧ m.b = 0 ∧ m.c = 0 ∧ m.d = 0) = true := by
  rw [h.no rfl]; exact decide_eq_true ⟨rfl, rfl, rfl, rfl⟩
theorem Si {c p q r : Int} (h : c < 0) : smB 1 1 c p q r = false := by
  have h0 : rdE 1 1 c ≠ 0 := by
    intro e
    have := (rdE_pos e).2
    have h2 : dsc 1 1 c < 0 := this
    unfold dsc at h2
    omega
  unfold smB
  exact decide_eq_false (fun x => h0 x.1)

/-! mirrored forms -/
def Fm.mi (f : Fm) : Fm := ⟨f.a, -f.b, f.c⟩
theorem mi_mi (f : Fm) : f.mi.mi = f := by unfold Fm.mi; simp
theorem mi_pos {f : Fm} (h : f.pos) : f.mi.pos := ⟨h.1, by show dsc _ (-_) _ < 0; rw [dsc_neg]; exact h.2⟩
/-- the matrix on the other side of the mirror -/
def Mt.mi (m : Mt) : Mt := ⟨m.a, -m.b, -m.c, m.d⟩
theorem mi_det (m : Mt) : m.mi.det = m.det := by unfold Mt.mi Mt.det; grind
theorem mi_app (f : Fm) (m : Mt) : (f.app m).mi = f.mi.app m.mi := by
  unfold Fm.app Fm.mi Mt.mi vl apB
  simp only [Fm.mk.injEq]
  refine ⟨?_, ?_, ?_⟩ <;> grind
def Fm.rd (f : Fm) : Fm := rdF f.a f.b f.c
theorem rd_is {f : Fm} (h : f.pos) : f.rd.pos := rd_pos (pos_rdE h)
theorem rd_app1 {f : Fm} {t : Mt} (hf : f.pos) (ht : t.det = 1) : (f.app t).rd = f.rd := uniq_app hf ht
theorem rd_via {f : Fm} (hf : f.pos) : ∃ m : Mt, m.det = 1 ∧ f.rd = f.app m := rdF_app hf
/-- the mirrored form of a reduced one, reduced -/
theorem rd_mi {f : Fm} (hf : f.pos) : f.rd.mi.rd = f.mi.rd := by
  obtain ⟨m, hm, e⟩ := rd_via hf
  rw [e, mi_app]
  exact rd_app1 (mi_pos hf) (by rw [mi_det]; exact hm)
theorem rd_back {f : Fm} (hf : f.pos) : f.mi.rd.mi.rd = f.rd := by rw [rd_mi (mi_pos hf), mi_mi]
structure InvF (G H : Fm) : Prop where
  g : G.pos
  h : H.pos
  back : H.mi.rd = G
  again : G.mi.rd = H
  red : rdd H.a H.b H.c = true
theorem InvF.of {f : Fm} (hf : f.pos) : InvF f.rd f.mi.rd :=
  ⟨rd_is hf, rd_is (mi_pos hf), rd_back hf, rd_mi hf, rd_red (pos_rdE (mi_pos hf))⟩
section
variable {G H : Fm} (k : InvF G H)
include k
theorem InvF.eH : rdE H.a H.b H.c = 0 := pos_rdE k.h
theorem InvF.eG : rdE G.a G.b G.c = 0 := pos_rdE k.g
theorem InvF.same : smB G.a (-G.b) G.c H.a H.b H.c = true := by
  obtain ⟨m, hm, e⟩ := rd_via (mi_pos k.g)
  have h1 := sm_app (mi_pos k.g) hm
  rw [← e, k.again] at h1
  exact h1
theorem InvF.app {m : Mt} (e : smM G.a (-G.b) G.c H.a H.b H.c = m) (u v : Int) : vl H.a H.b H.c u v = vl G.a G.b G.c (m.a * u + m.b * v) (-(m.c * u + m.d * v)) := by
  have h1 := (sm_det (mi_pos k.g) k.h k.same).2
  have h2 : (smM G.mi.a G.mi.b G.mi.c H.a H.b H.c) = m := e
  rw [h2] at h1
  have h3 : H.val u v = G.mi.val (m.a * u + m.b * v) (m.c * u + m.d * v) := by rw [← h1, vl_app]
  have h4 : H.val u v = vl H.a H.b H.c u v := rfl
  rw [← h4, h3]
  unfold Fm.val Fm.mi vl
  grind
end
theorem eqF {f g : Fm} (h : f = g) : (!decide (f.a = g.a ∧ f.b = g.b ∧ f.c = g.c)) = false := by
  rw [h]; exact congrArg Bool.not (decide_eq_true ⟨rfl, rfl, rfl⟩)
theorem notTT {b : Bool} (h : b = true) : (!b) = false := by rw [h]; rfl
theorem rd_L {f : Fm} (fa : LB f.a 12) (fb : LB f.b 12) (fc : LB f.c 12) : LB f.rd.a 13 ∧ LB f.rd.b 13 ∧ LB f.rd.c 13 := by
  show LB (rdF _ _ _).a 13 ∧ LB (rdF _ _ _).b 13 ∧ LB (rdF _ _ _).c 13
  exact ⟨⟨lz⟩, ⟨lz⟩, ⟨lz⟩⟩
theorem up13 {f : Fm} (fa : LB f.a 13) (fb : LB f.b 13) (fc : LB f.c 13) : LB f.a 20 ∧ LB (-f.b) 20 ∧ LB f.c 20 ∧ LB f.b 20 := ⟨⟨lz⟩, ⟨lz⟩, ⟨lz⟩, ⟨lz⟩⟩
theorem mi_L {f : Fm} (fa : LB f.a 12) (fb : LB f.b 12) (fc : LB f.c 12) : LB f.mi.a 12 ∧ LB f.mi.b 12 ∧ LB f.mi.c 12 := ⟨⟨fa.le⟩, ⟨fb.le.neg⟩, ⟨fc.le⟩⟩
end Go.AM
end

section
/- Closures; loops over functions; boxes that hold a slice. -/
namespace Go.AM
open Go Go.RowKit

/-- What a function that is ranged over does between two rounds: it writes no block but its own (none of G, and none that was there when it began: n0). -/
structure Rest (n0 : Nat) (G : Nat → Prop) (h : Hp) (W : World) (h' : Hp) (W' : World) : Prop where
  os : W'.os = W.os
  tape : W'.tape = W.tape
  output : W'.output = W.output
  size : W.heap.size ≤ W'.heap.size
  old : ∀ i, i < W.heap.size → W'.heap[i]? = W.heap[i]? ∨ (n0 ≤ i ∧ ¬ G i ∧ h i = none)
  hi : ∀ i o, h' i = some o → W'.heap[i]? = some o
  hg : Hle h h'
  hn : ∀ i, h' i ≠ none → h i ≠ none ∨ (n0 ≤ i ∧ ¬ G i)
/-- What a round does: it writes the blocks of G alone. -/
structure Gave (G : Nat → Prop) (h : Hp) (W : World) (G' : Nat → Prop) (h' : Hp) (W' : World) : Prop where
  os : W'.os = W.os
  tape : W'.tape = W.tape
  output : W'.output = W.output
  size : W.heap.size ≤ W'.heap.size
  old : ∀ i, i < W.heap.size → ¬ G i → W'.heap[i]? = W.heap[i]?
  hg : Hle h h'
  hn : ∀ i, h' i ≠ none → h i ≠ none ∨ W.heap.size ≤ i ∨ G i
  gg : ∀ i, G' i → G i ∨ W.heap.size ≤ i
/-- What the user of a loop over a function keeps: J (the round's number, what is known to stay, the user's blocks, the world). -/
structure Keeps (P : Program) (l : Nat) (xs : List (List PV)) (n0 : Nat) (J : Nat → Hp → (Nat → Prop) → World → Prop) : Prop where
  hi : ∀ k h G W, J k h G W → ∀ i o, h i = some o → W.heap[i]? = some o
  g : ∀ k h G W, J k h G W → ∀ i, G i → i < W.heap.size ∧ h i = none
  rest : ∀ k h G W h' W', J k h G W → Rest n0 G h W h' W' → J k h' G W'
  give : ∀ k h G W x vals, xs[k]? = some x → J k h G W → PReps h x vals → YieldAt (Wd none) 0 P l vals.toArray W fun e W' => e = .returned (.bool true) ∧ ∃ h' G', J (k + 1) h' G' W' ∧ Gave G h W G' h' W'
/-- A function that is ranged over: it hands the elements of xs to yield, one after another; nothing else that was there changes. -/
structure Iter (P : Program) (gf : FuncId) (caps : List (List DV)) (xs : List (List PV)) : Prop where
  fn : FnOK P gf
  go : ∀ (l : Nat) (lb : Array Value) (J : Nat → Hp → (Nat → Prop) → World → Prop) (h : Hp) (G : Nat → Prop) (W : World), CapsRep h caps lb.toList → GlOK h → Keeps P l xs W.heap.size J → J 0 h G W →
    CallsIn (Wd none) 0 P gf (#[.func (.yield l) #[] #[]] ++ lb) W fun e W' => (∃ v, e = .returned v) ∧ ∃ h' G', J xs.length h' G' W'

theorem After.chg {h : Hp} {r r' : Nat → Value} {w : World} {h' : Hp} {w' : World} (q : After h r O w h' O w') : After h r' O w h' O w' :=
  ⟨fun m b e => (by cases e), q.dom, q.hi, fun m k hm => absurd rfl hm, q.os, q.tape, q.output, q.size, fun k hk _ => q.old k hk (by rintro ⟨m, hm, _⟩; exact hm rfl), q.hg, fun k hk => by
    rcases q.hn k hk with g | g | ⟨m, hm, _⟩
    · exact .inl g
    · exact .inr (.inl g)
    · exact absurd rfl hm⟩

/-- the parameters of a round -/
def setPs : Regs → List Nat → List PV → Regs
  | regs, p :: ps, x :: xs => setPs (upd regs p (.p x)) ps xs
  | regs, _, _ => regs
theorem foldl_zip_set {h : Hp} {r : Nat → Value} : ∀ (ps : List Nat) (x : List PV) (vals : List Value) (regs : Regs) (t : Array Value), PReps h x vals → x.length = ps.length → (∀ p ∈ ps, p < t.size) →
    RegsOK h r regs { tmps := t, defers := [] } →
    RegsOK h r (setPs regs ps x) { tmps := (ps.zip vals).foldl (fun t (p, v) => t.setIfInBounds p v) t, defers := [] } ∧ ((ps.zip vals).foldl (fun t (p, v) => t.setIfInBounds p v) t).size = t.size
  | [], [], vals, regs, t, _, _, _, k => by simp [setPs]; exact k
  | p :: ps, [], _, _, _, _, hl, _, _ => by simp at hl
  | [], x :: xs, _, _, _, _, hl, _, _ => by simp at hl
  | p :: ps, x :: xs, [], _, _, hv, _, _, _ => hv.elim
  | p :: ps, x :: xs, v :: vals, regs, t, hv, hl, hp, k => by
    have k1 : RegsOK h r (upd regs p (.p x)) { tmps := t.setIfInBounds p v, defers := [] } := by
      intro u
      show AVRep h r (upd regs p (.p x) u) ((t.setIfInBounds p v).getD u undef)
      rw [getD_setIfInBounds _ _ _ _ (hp p (by simp)), upd_eq]
      by_cases e : u = p
      · rw [if_pos e, if_pos e]; exact hv.1
      · rw [if_neg e, if_neg e]; exact k u
    obtain ⟨g1, g2⟩ := foldl_zip_set ps xs vals (upd regs p (.p x)) (t.setIfInBounds p v) hv.2 (by simpa using hl) (fun q hq => by simpa using hp q (by simp [hq])) k1
    exact ⟨g1, by rw [List.zip_cons_cons, List.foldl_cons]; rw [g2]; simp⟩

/-! ### the frame of a round -/
section round
variable {C : Ctx} {h h' : Hp} {r r' : Nat → Value} {own own' : Own} {w w' : World} {L np' : Nat}
def Ctx.round (h : Hp) (r : Nat → Value) (own : Own) (w : World) (np' : Nat) : Ctx := ⟨w, h, fun i => ∃ m, own m ≠ none ∧ hblk (r m) = some i, r, np', false⟩
theorem WOK.enter (k : WOK C h r own w) : WOK (Ctx.round h r own w np') h r own w :=
  ⟨k.ow, k.inj, k.hi, k.ho, rfl, rfl, rfl, Nat.le_refl _, fun _ _ _ => rfl, fun m _ hm e => .inr ⟨m, hm, e⟩, .refl _, fun _ e => .inl e, k.gl, fun _ _ => rfl, k.lk⟩
theorem WOK.leave (k : WOK C h r own w) (q : WOK (Ctx.round h r own w np') h' r' own' w') (hnp : C.np ≤ np') : WOK C h' r' own' w' := by
  have hF : ∀ i, (Ctx.round h r own w np').F i → C.w0.heap.size ≤ i ∨ C.F i := by
    rintro i ⟨m, hm, e⟩; exact k.fo m i hm e
  refine ⟨q.ow, q.inj, q.hi, q.ho, q.os.trans k.os, q.tape.trans k.tape, q.output.trans k.output, Nat.le_trans k.size q.size, fun i hi hf => ?_, fun m i hm e => ?_, k.hg.trans q.hg, fun i hi => ?_, q.gl, fun m hm => ?_, q.lk⟩
  · have := q.old i (Nat.lt_of_lt_of_le hi k.size) (fun x => by
      rcases hF i x with g | g
      · omega
      · exact hf g)
    rw [this]; exact k.old i hi hf
  · rcases q.fo m i hm e with g | g
    · exact .inl (Nat.le_trans k.size g)
    · exact hF i g
  · rcases q.hn i hi with g | g | g
    · exact k.hn i g
    · exact .inr (.inl (Nat.le_trans k.size g))
    · exact .inr (hF i g)
  · rw [q.kp m (Nat.lt_of_lt_of_le hm hnp)]; exact k.kp m hm
theorem WOK.putL {o : Obj} (k : WOK C h r own w) (hL : ∀ m, own m ≠ none → hblk (r m) ≠ some L) (hh : h L = none) (hs : C.w0.heap.size ≤ L) : WOK C h r own (w.putObj L o) := by
  have old : ∀ i, i ≠ L → (w.putObj L o).heap[i]? = w.heap[i]? := fun i hi => putObj_other hi
  refine ⟨fun m b e => (k.ow m b e).world fun i hi => old i fun x => hL m (by rw [e]; simp) (by rw [hi, x]), k.inj, fun i o' e => ?_, k.ho, k.os, k.tape, k.output, by rw [size_putObj']; exact k.size, fun i hi hf => ?_, k.fo, k.hg, k.hn, k.gl, k.kp, fun m b j e hj => ?_⟩
  · rw [old i fun x => by subst x; rw [hh] at e; cases e]; exact k.hi i o' e
  · rw [old i (by omega)]; exact k.old i hi hf
  · obtain ⟨q, t, h1, h2⟩ := k.lk m b j e hj
    refine ⟨q, t, h1, ?_⟩
    rw [old q fun x => hL m (by rw [e]; simp) (by rw [h1, x]; rfl)]; exact h2
/-- what the round leaves of the loop's record -/
theorem WOK.rec_left (hL0 : ∀ m, own m ≠ none → hblk (r m) ≠ some L) (q : WOK (Ctx.round h r own w np') h' r' own' w') {o : Obj} (hL : w.heap[L]? = some o) (hh : h L = none) : w'.heap[L]? = some o ∧ h' L = none ∧ ∀ m, own' m ≠ none → hblk (r' m) ≠ some L := by
  have hlt : L < w.heap.size := (Array.getElem?_eq_some_iff.1 hL).1
  have hF : ¬ (Ctx.round h r own w np').F L := by rintro ⟨m, hm, e⟩; exact hL0 m hm e
  refine ⟨?_, ?_, fun m hm e => ?_⟩
  · rw [q.old L hlt hF]; exact hL
  · cases e : h' L with
    | none => rfl
    | some o' =>
      rcases q.hn L (by rw [e]; simp) with g | g | g
      · exact absurd hh g
      · have : w.heap.size ≤ L := g; omega
      · exact absurd g hF
  · rcases q.fo m L hm e with g | g
    · have : w.heap.size ≤ L := g; omega
    · exact hF g
/-- the world may change where nothing is owned or known -/
theorem WOK.rest (k : WOK C h r own w) {n0 : Nat} {G : Nat → Prop} (q : Rest n0 G h w h' w') (hG : ∀ m i, own m ≠ none → hblk (r m) = some i → G i) (h0 : C.w0.heap.size ≤ n0) : WOK C h' r own w' := by
  have same : ∀ m i, own m ≠ none → hblk (r m) = some i → w'.heap[i]? = w.heap[i]? := fun m i hm e => by
    rcases q.old i (k.lt hm e) with g | ⟨_, g, _⟩
    · exact g
    · exact absurd (hG m i hm e) g
  refine ⟨fun m b e => ((k.ow m b e).mono q.hg).world fun i hi => same m i (by rw [e]; simp) hi, k.inj, q.hi, fun m i hm e => ?_, q.os.trans k.os, q.tape.trans k.tape, q.output.trans k.output, Nat.le_trans k.size q.size, fun i hi hf => ?_, k.fo, k.hg.trans q.hg, fun i hi => ?_, k.gl.mono q.hg, k.kp, fun m b j e hj => ?_⟩
  · cases hh : h' i with
    | none => rfl
    | some o =>
      rcases q.hn i (by rw [hh]; simp) with g | g
      · exact absurd (k.ho m i hm e) g
      · exact absurd (hG m i hm e) g.2
  · rcases q.old i (Nat.lt_of_lt_of_le hi k.size) with g | ⟨g, _, _⟩
    · rw [g]; exact k.old i hi hf
    · omega
  · rcases q.hn i hi with g | g
    · exact k.hn i g
    · exact .inr (.inl (Nat.le_trans h0 g.1))
  · obtain ⟨q1, t, h1, h2⟩ := k.lk m b j e hj
    exact ⟨q1, t, h1, by rw [same m q1 (by rw [e]; simp) (by rw [h1]; rfl)]; exact h2⟩
end round

/-- what is owned may be said otherwise -/
def GW (np' : Nat) (o o' : Own) : Prop := ∀ (C : Ctx) (h : Hp) (r : Nat → Value) (w : World), C.np ≤ np' → WOK C h r o w →
  ∃ r2, (∀ m, m < np' → r2 m = r m) ∧ WOK C h r2 o' w ∧ ∀ m i, o' m ≠ none → hblk (r2 m) = some i → ∃ m2, o m2 ≠ none ∧ hblk (r m2) = some i
theorem GW.forget {np' : Nat} {o o' : Own} (e : ∀ m, o' m = o m ∨ o' m = none) : GW np' o o' := fun C h r w _ k =>
  ⟨r, fun _ _ => rfl, k.forget e, fun m i hm hi => ⟨m, by
    rcases e m with g | g
    · rw [← g]; exact hm
    · exact absurd g hm, hi⟩⟩
theorem GW.trans {np' : Nat} {a b c : Own} (h : GW np' a b) (k : GW np' b c) : GW np' a c := fun C hh r w hn q => by
  obtain ⟨r2, e1, e2, e3⟩ := h C hh r w hn q
  obtain ⟨r3, f1, f2, f3⟩ := k C hh r2 w hn e2
  refine ⟨r3, fun m hm => (f1 m hm).trans (e1 m hm), f2, fun m i hm hi => ?_⟩
  obtain ⟨m2, g1, g2⟩ := f3 m i hm hi
  exact e3 m2 i g1 g2

def menB (np' : Nat) (l : List (Nat × AV)) : Bool := l.all fun p => (men p.2).all fun m => Nat.blt m np'
theorem look_men {np' : Nat} : ∀ {l : List (Nat × AV)}, menB np' l = true → ∀ t, ∀ m ∈ men (look l t), m < np'
  | [], _, t, m, hm => by simp [look, men] at hm
  | (k, v) :: l, h, t, m, hm => by
    unfold menB at h
    rw [List.all_cons, Bool.and_eq_true] at h
    simp only [look, upd_eq] at hm
    by_cases e : t = k
    · rw [if_pos e] at hm
      have := List.all_eq_true.1 h.1 m hm
      simpa using this
    · rw [if_neg e] at hm
      exact look_men (l := l) h.2 t m hm

theorem marks_ne {C : Ctx} {h : Hp} {D : Nat} (hD : h D = none) : ∀ {ds : List Deferred}, Marks C h ds → ∀ x ∈ ds, x.target ≠ .collected D
  | [], _, x, hx => by simp at hx
  | d :: ds, ⟨_, ⟨D', h1, _, _, h4, _⟩, k⟩, x, hx => by
    rcases List.mem_cons.1 hx with rfl | hx
    · intro e
      rw [h1] at e
      have : D' = D := by simpa using e
      subst this; rw [hD] at h4; cases h4
    · exact marks_ne hD k x hx

set_option maxHeartbeats 1000000 in
/-- A loop over a function, every round of which ends as it should. -/
theorem AWp_range {P : Program} {N np : Nat} {Q : Exit → St → Prop} {l : List (Nat × AV)} {g : Operand} {ps : Array Tmp} {assign body : Code} {gf : FuncId} {caps : List (List DV)} {xs : List (List PV)} (np' : Nat) (own : Nat → Own)
    (hg : ev (look l) g = .fn gf caps) (hit : Iter P gf caps xs) (hps : ∀ x ∈ xs, x.length = ps.toList.length)
    (hfix : menB np' l = true) (hnp : Nat.ble np np' = true) (hpN : (ps.toList.all fun p => Nat.blt p N) = true)
    (hround : ∀ (k : Nat) (x : List PV), xs[k]? = some x → AWp P true N np' assign (AThen (AWp P true N np' body (fun e s' => e = .normal ∧ GW np' s'.own (own (k + 1)))) (fun _ _ => False)) ⟨setPs (look l) ps.toList x, own k⟩)
    (hdone : Q .normal ⟨look l, own xs.length⟩) : AWp P false N np (.rangeFunc g ps assign body) Q ⟨look l, own 0⟩ := by
  intro ro hB C hh r a w hn hc
  have hro : ro = none := hB rfl
  subst hro
  have hnp' := Nat.le_of_ble_eq_true hnp
  have hmar : C.mar = true := hn.2
  refine wpIn_rangeFunc ?_
  intro fn _
  have hgv := rep_ev hc.rg g
  rw [hg] at hgv
  obtain ⟨lb, hval, hcaps⟩ := hgv
  obtain ⟨rec, hrec⟩ : ∃ rec : LoopState → Option Code → Loop, rec = fun st pe => { state := st, pending := pe, fn, tmps := a.tmps, params := ps, assign, body, defers := w.heap.size } := ⟨_, rfl⟩
  obtain ⟨W1, hW1⟩ : ∃ W1, (w.alloc (.deferred (some []))).alloc (.loop (rec .ready none)) = W1 := ⟨_, rfl⟩
  obtain ⟨hw1, hle1⟩ := hc.wk.imm (.deferred (some []))
  obtain ⟨h1, hh1⟩ : ∃ h1 : Hp, h1 = fun i => if i = w.heap.size then some (.deferred (some [])) else hh i := ⟨_, rfl⟩
  rw [← hh1] at hw1 hle1
  have hs1 : W1.heap.size = w.heap.size + 2 := by rw [← hW1]; simp
  have hold1 : ∀ i, i < (w.alloc (.deferred (some []))).heap.size → W1.heap[i]? = (w.alloc (.deferred (some []))).heap[i]? := fun i hi => by
    rw [← hW1, heap_alloc, if_neg (by omega)]
  have hw2 : WOK C h1 r (own 0) W1 := hw1.beside (by rw [← hW1]; rfl) (by rw [← hW1]; rfl) (by rw [← hW1]; rfl) (by rw [hs1]; simp) hold1
  have hL1 : W1.heap[w.heap.size + 1]? = some (.loop (rec .ready none)) := by
    rw [← hW1, heap_alloc, if_pos (by simp)]
  have hD0 : hh w.heap.size = none := by
    cases e : hh w.heap.size with
    | none => rfl
    | some o => have := hc.wk.hlt e; omega
  have hhL : h1 (w.heap.size + 1) = none := by
    rw [hh1]
    show (if w.heap.size + 1 = w.heap.size then _ else hh (w.heap.size + 1)) = none
    rw [if_neg (by omega)]
    cases e : hh (w.heap.size + 1) with
    | none => rfl
    | some o => have := hc.wk.hlt e; omega
  have hnoL : ∀ m, own 0 m ≠ none → hblk (r m) ≠ some (w.heap.size + 1) := fun m hm e => by
    have := hc.wk.lt hm e; omega
  have hD1 : h1 w.heap.size = some (.deferred (some [])) := by rw [hh1]; exact if_pos rfl
  generalize hLL : w.heap.size + 1 = L at *
  have hCL : C.w0.heap.size ≤ L := by have := hc.wk.size; omega
  refine ⟨L, [{ target := .collected w.heap.size, args := #[] }], W1, { target := .fn (.func gf) lb, args := #[.func (.yield L) #[] #[]] }, W1, gf, #[.func (.yield L) #[] #[]] ++ lb, W1, ?_, ?_, fun _ _ => trivial, ?_, fun e => by simp [Wd] at e, ?_⟩
  · rw [← hW1, hrec, ← hLL]; exact run_enterLoop_outer _ _ _ _ _
  · simp only [resolve, hval]
    simp [go_sem]
  · have eg : ∀ args w, (callFunc gf args).run P w = .ok (.enter gf args) w := fun args w => run_callFunc hit.fn args w
    simp [invoke, go_sem, eg]
  · have hmen := look_men hfix
    obtain ⟨J, hJ⟩ : ∃ J : Nat → Hp → (Nat → Prop) → World → Prop, J = fun k h G W => ∃ r', (∀ m, m < np' → r' m = r m) ∧ WOK C h r' (own k) W ∧ W.heap[L]? = some (.loop (rec .ready none)) ∧ h L = none ∧ (∀ m, own k m ≠ none → hblk (r' m) ≠ some L) ∧ Hle h1 h ∧
        G = fun i => i = L ∨ ∃ m, own k m ≠ none ∧ hblk (r' m) = some i := ⟨_, rfl⟩
    have hrg : ∀ h r', Hle h1 h → (∀ m, m < np' → r' m = r m) → RegsOK h r' (look l) a := fun h r' hl hr t =>
      AVRep.rebind _ _ (fun m hm => hr m (hmen t m hm)) (AVRep.mono (hle1.trans hl) _ _ (hc.rg t))
    refine CallsIn.mono (hit.go L lb J h1 (fun i => i = L ∨ ∃ m, own 0 m ≠ none ∧ hblk (r m) = some i) W1 (hcaps.mono hle1) hw2.gl ⟨?_, ?_, ?_, ?_⟩ ?_) ?_
    · intro k h G W hk
      rw [hJ] at hk
      obtain ⟨r', _, q, _⟩ := hk
      exact q.hi
    · intro k h G W hk i hi
      rw [hJ] at hk
      obtain ⟨r', e1, e2, e3, e4, e5, e6, rfl⟩ := hk
      rcases hi with rfl | ⟨m, hm, e⟩
      · exact ⟨(Array.getElem?_eq_some_iff.1 e3).1, e4⟩
      · exact ⟨e2.lt hm e, e2.ho m i hm e⟩
    · intro k h G W h' W' hk q
      rw [hJ] at hk ⊢
      obtain ⟨r', e1, e2, e3, e4, e5, e6, rfl⟩ := hk
      have hlt : L < W.heap.size := (Array.getElem?_eq_some_iff.1 e3).1
      refine ⟨r', e1, e2.rest q (fun m i hm e => .inr ⟨m, hm, e⟩) (Nat.le_trans hw2.size (Nat.le_refl _)), ?_, ?_, e5, e6.trans q.hg, rfl⟩
      · rcases q.old L hlt with g | ⟨_, g, _⟩
        · rw [g]; exact e3
        · exact absurd (.inl rfl) g
      · cases e : h' L with
        | none => rfl
        | some o =>
          rcases q.hn L (by rw [e]; simp) with g | g
          · exact absurd e4 g
          · exact absurd (.inl rfl) g.2
    · intro k h G W x vals hx hk hv
      rw [hJ] at hk
      obtain ⟨r', e1, e2, e3, e4, e5, e6, rfl⟩ := hk
      have hlen : x.length = ps.toList.length := hps x (List.mem_of_getElem? hx)
      have hvl : vals.length = x.length := by
        have : ∀ (ps : List PV) (vs : List Value), PReps h ps vs → vs.length = ps.length := by
          intro ps
          induction ps with
          | nil => intro vs k; cases vs with
            | nil => rfl
            | cons _ _ => exact k.elim
          | cons p ps ih => intro vs k; cases vs with
            | nil => exact k.elim
            | cons v vs => simp [ih vs k.2]
        exact this _ _ hv
      have hsz : vals.toArray.size = (rec .ready none).params.size := by
        rw [hrec]
        show vals.length = ps.size
        rw [hvl, hlen]; simp
      refine ⟨_, _, _, _, run_yield e3 hsz, roundIn_of_wpIn trivial ?_⟩
      rw [hrec]
      show assign.wpIn (Wd (some L)) 0 P _ { tmps := (ps.zip vals.toArray).foldl (fun t (p, v) => t.setIfInBounds p v) a.tmps, defers := [] } W
      have hzip : (ps.zip vals.toArray).foldl (fun t (p, v) => t.setIfInBounds p v) a.tmps = (ps.toList.zip vals).foldl (fun t (p, v) => t.setIfInBounds p v) a.tmps := by
        rw [← Array.foldl_toList, Array.toList_zip]
      rw [hzip]
      obtain ⟨f1, f2⟩ := foldl_zip_set (r := r') ps.toList x vals (look l) a.tmps hv hlen (fun p hp => by
        have := List.all_eq_true.1 hpN p hp
        rw [hc.sz]; simpa using this) (fun t => hrg h r' e6 e1 t)
      refine wpIn_mono (hround k x hx (some L) (fun e => by cases e) (Ctx.round h r' (own k) W np') h r' _ W ⟨rfl, rfl⟩ ⟨f2.trans hc.sz, trivial, f1, e2.enter⟩) ?_
      rintro e a1 w1 ⟨s1, h2, r2, q1, c1⟩
      cases e with
      | normal =>
        have hwk1 := e2.leave c1.wk (Nat.le_trans (Nat.le_of_eq hn.1) hnp')
        obtain ⟨g1, g2, g3⟩ := WOK.rec_left e5 c1.wk e3 e4
        have hd1 : a1.defers = [] := by
          have := c1.df
          cases hd : a1.defers with
          | nil => rfl
          | cons d ds => rw [hd] at this; cases this.1
        have hw3 := hwk1.putL (o := .loop { rec .ready none with state := .busy }) g3 g2 hCL
        have hLw : L < w1.heap.size := (Array.getElem?_eq_some_iff.1 g1).1
        have hLb : (w1.putObj L (.loop { rec .ready none with state := .busy })).heap[L]? = some (.loop { rec .ready none with state := .busy }) := World.putObj_heap_same hLw
        refine ⟨_, run_beginRound g1 (by rw [hrec]), ?_⟩
        refine wpIn_mono (q1 (some L) (fun e => by cases e) (Ctx.round h2 r2 s1.own _ np') h2 r2 a1 _ ⟨rfl, rfl⟩ ⟨c1.sz, by rw [hd1]; trivial, c1.rg, hw3.enter⟩) ?_
        rintro e a2 w2 ⟨s2, h3, r3, ⟨rfl, q2⟩, c2⟩
        have hwk2 := hw3.leave c2.wk (Nat.le_trans (Nat.le_of_eq hn.1) hnp')
        obtain ⟨k1, k2, k3⟩ := WOK.rec_left g3 c2.wk hLb g2
        obtain ⟨r4, q3, hwk3, q4⟩ := q2 C h3 r3 w2 (Nat.le_trans (Nat.le_of_eq hn.1) hnp') hwk2
        have k3' : ∀ m, own (k + 1) m ≠ none → hblk (r4 m) ≠ some L := fun m hm e => by
          obtain ⟨m2, g1, g2⟩ := q4 m L hm e
          exact k3 m2 g1 g2
        have F2 : ∀ i, (Ctx.round h2 r2 s1.own (w1.putObj L (.loop { rec .ready none with state := .busy })) np').F i → W.heap.size ≤ i ∨ ∃ m, own k m ≠ none ∧ hblk (r' m) = some i := by
          rintro i ⟨m, hm, e⟩; exact c1.wk.fo m i hm e
        have sz1 : W.heap.size ≤ w1.heap.size := c1.wk.size
        have sz2 : w1.heap.size ≤ w2.heap.size := by have : (w1.putObj L _).heap.size ≤ w2.heap.size := c2.wk.size; rwa [size_putObj'] at this
        refine ⟨_, _, run_endRound none k1, rfl, h3, fun i => i = L ∨ ∃ m, own (k + 1) m ≠ none ∧ hblk (r4 m) = some i, ?_, ?_⟩
        · rw [hJ]
          refine ⟨r4, fun m hm => ?_, hwk3.putL k3' k2 hCL, ?_, k2, k3', e6.trans (c1.wk.hg.trans c2.wk.hg), rfl⟩
          · rw [q3 m hm, c2.wk.kp m hm]
            show r2 m = r m
            rw [c1.wk.kp m hm]
            exact e1 m hm
          · rw [World.putObj_heap_same (Array.getElem?_eq_some_iff.1 k1).1, hrec]; rfl
        · refine ⟨c2.wk.os.trans c1.wk.os, c2.wk.tape.trans c1.wk.tape, c2.wk.output.trans c1.wk.output, by rw [size_putObj']; omega, fun i hi hg => ?_, c1.wk.hg.trans c2.wk.hg, fun i hi => ?_, fun i hi => ?_⟩
          · have hiL : i ≠ L := fun x => hg (.inl x)
            rw [putObj_other hiL, c2.wk.old i (by rw [show (Ctx.round h2 r2 s1.own (w1.putObj L (.loop { rec .ready none with state := .busy })) np').w0.heap.size = w1.heap.size from size_putObj' _ _ _]; omega) (fun x => by
              rcases F2 i x with g | g
              · omega
              · exact hg (.inr g))]
            show (w1.putObj L _).heap[i]? = _
            rw [putObj_other hiL]
            exact c1.wk.old i hi (fun x => hg (.inr x))
          · rcases c2.wk.hn i hi with g | g | g
            · rcases c1.wk.hn i g with g | g | g
              · exact .inl g
              · exact .inr (.inl g)
              · exact .inr (.inr (.inr g))
            · have g' : (w1.putObj L (.loop { rec .ready none with state := .busy })).heap.size ≤ i := g
              rw [size_putObj'] at g'
              exact .inr (.inl (by omega))
            · rcases F2 i g with g | g
              · exact .inr (.inl g)
              · exact .inr (.inr (.inr g))
          · rcases hi with rfl | ⟨m, hm, e⟩
            · exact .inl (.inl rfl)
            · obtain ⟨m2, g1, g2⟩ := q4 m i hm e
              rcases c2.wk.fo m2 i g1 g2 with g | g
              · have g' : (w1.putObj L (.loop { rec .ready none with state := .busy })).heap.size ≤ i := g
                rw [size_putObj'] at g'
                exact .inr (by omega)
              · rcases F2 i g with g | g
                · exact .inr g
                · exact .inl (.inr g)
      | _ => exact q1.elim
    · rw [hJ]
      exact ⟨r, fun _ _ => rfl, hw2, hL1, hhL, hnoL, .refl _, rfl⟩
    · rintro e W3 ⟨⟨v, rfl⟩, h', G', hk⟩
      rw [hJ] at hk
      obtain ⟨r', e1, e2, e3, e4, e5, e6, _⟩ := hk
      refine ⟨none, _, by have := run_endLoop (P := P) e3 (by rw [hrec]; simp); rw [hrec] at this; exact this, ?_⟩
      refine ⟨⟨look l, own xs.length⟩, h', r', hdone, hc.sz, ?_, fun t => hrg h' r' e6 e1 t, e2.putL e5 e4 hCL⟩
      refine ⟨hmar, ⟨w.heap.size, rfl, hc.wk.size, ?_, e6 _ _ hD1, marks_ne hD0 hc.df⟩, hc.df.mono (hle1.trans e6)⟩
      cases e : C.h0 w.heap.size with
      | none => rfl
      | some o => have := hc.wk.hg _ _ e; rw [hD0] at this; cases this
end Go.AM
end
