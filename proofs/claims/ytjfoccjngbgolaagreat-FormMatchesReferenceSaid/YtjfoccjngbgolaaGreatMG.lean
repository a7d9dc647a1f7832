/- Texts merged by program, in build order. -/
import Derived.Test.YtjfoccjngbgolaaGreatMB
import Derived.Test.YtjfoccjngbgolaaGreatMT
import Derived.Test.YtjfoccjngbgolaaGreatMF

section
/- Forms under matrices of determinant 1 or -1; three times a form; principal forms. -/
namespace Go.AM
open Go Go.RowKit

theorem app_mul_a (f : Fm) (m n : Mt) : decide (vl (f.app m).a (f.app m).b (f.app m).c n.a n.c = vl f.a f.b f.c (m.mul n).a (m.mul n).c ∧ apB (f.app m).a (f.app m).b (f.app m).c n.a n.b n.c n.d = apB f.a f.b f.c (m.mul n).a (m.mul n).b (m.mul n).c (m.mul n).d ∧ vl (f.app m).a (f.app m).b (f.app m).c n.b n.d = vl f.a f.b f.c (m.mul n).b (m.mul n).d) = true := by
  have h := app_mul f m n
  exact decide_eq_true ⟨congrArg Fm.a h, congrArg Fm.b h, congrArg Fm.c h⟩

def cont (f : Fm) : Int := (Int.gcd f.a (Int.gcd f.b f.c : Int) : Nat)
theorem cont_a (f : Fm) : cont f ∣ f.a := Int.gcd_dvd_left ..
theorem cont_b (f : Fm) : cont f ∣ f.b := Int.dvd_trans (Int.gcd_dvd_right ..) (Int.gcd_dvd_left ..)
theorem cont_c (f : Fm) : cont f ∣ f.c := Int.dvd_trans (Int.gcd_dvd_right ..) (Int.gcd_dvd_right ..)
theorem dvd_vl {d a b c : Int} (ha : d ∣ a) (hb : d ∣ b) (hc : d ∣ c) (x y : Int) : d ∣ vl a b c x y := by
  unfold vl
  exact Int.dvd_add (Int.dvd_add (Int.dvd_mul_of_dvd_left (Int.dvd_mul_of_dvd_left ha)) (Int.dvd_mul_of_dvd_left (Int.dvd_mul_of_dvd_left hb))) (Int.dvd_mul_of_dvd_left (Int.dvd_mul_of_dvd_left hc))
theorem dvd_apB {d a b c : Int} (ha : d ∣ a) (hb : d ∣ b) (hc : d ∣ c) (p q r s : Int) : d ∣ apB a b c p q r s := by
  unfold apB
  exact Int.dvd_add (Int.dvd_mul_of_dvd_right (Int.dvd_add (Int.dvd_mul_of_dvd_left (Int.dvd_mul_of_dvd_left ha)) (Int.dvd_mul_of_dvd_left (Int.dvd_mul_of_dvd_left hc)))) (Int.dvd_mul_of_dvd_left hb)
theorem dvd_cont {d : Int} {f : Fm} (ha : d ∣ f.a) (hb : d ∣ f.b) (hc : d ∣ f.c) : d ∣ cont f := Int.dvd_coe_gcd ha (Int.dvd_coe_gcd hb hc)
theorem cont_app (f : Fm) (m : Mt) : cont f ∣ cont (f.app m) :=
  dvd_cont (dvd_vl (cont_a f) (cont_b f) (cont_c f) _ _) (dvd_apB (cont_a f) (cont_b f) (cont_c f) _ _ _ _) (dvd_vl (cont_a f) (cont_b f) (cont_c f) _ _)
theorem prim_cont {f : Fm} : prim f.a f.b f.c = true ↔ cont f = 1 := by
  unfold prim cont
  rw [decide_eq_true_iff]
  omega
theorem cont_nn (f : Fm) : 0 ≤ cont f := by unfold cont; omega
theorem prim_up {f : Fm} {m : Mt} (h : prim (f.app m).a (f.app m).b (f.app m).c = true) : prim f.a f.b f.c = true := by
  rw [prim_cont] at h ⊢
  have h1 := cont_app f m
  rw [h] at h1
  exact Int.eq_one_of_dvd_one (cont_nn f) h1
def Mt.inv (m : Mt) : Mt := ⟨m.d * m.det, -m.b * m.det, -m.c * m.det, m.a * m.det⟩
theorem mul_inv {m : Mt} (h : m.det * m.det = 1) : m.mul m.inv = .one := by
  unfold Mt.mul Mt.inv Mt.one
  have e : m.a * m.d - m.b * m.c = m.det := rfl
  simp only [Mt.mk.injEq]
  refine ⟨?_, ?_, ?_, ?_⟩ <;> grind
theorem app_inv {f : Fm} {m : Mt} (h : m.det * m.det = 1) : (f.app m).app m.inv = f := by rw [app_mul, mul_inv h, app_one]
theorem prim_app (f : Fm) {m : Mt} (h : m.det * m.det = 1) : prim f.a f.b f.c = prim (f.app m).a (f.app m).b (f.app m).c := by
  rw [Bool.eq_iff_iff]
  constructor
  · intro h1
    rw [← app_inv (f := f) h] at h1
    exact prim_up h1
  · exact prim_up
theorem disc_app1 (f : Fm) {m : Mt} (h : m.det * m.det = 1) : dsc (f.app m).a (f.app m).b (f.app m).c = dsc f.a f.b f.c := by
  have := disc_app f m
  rw [h, Int.mul_one] at this
  exact this
/-- a definite form's values have the sign of its first coefficient -/
theorem vl_sign {a b c x y : Int} (hd : dsc a b c < 0) (hxy : ¬ (x = 0 ∧ y = 0)) : 0 < a * vl a b c x y := by
  have e : 4 * (a * vl a b c x y) = (2 * a * x + b * y) * (2 * a * x + b * y) - dsc a b c * (y * y) := by unfold vl dsc; grind
  have ha : a ≠ 0 := by
    rintro rfl
    unfold dsc at hd
    have := sq_nonneg' b
    omega
  have h1 := sq_nonneg' (2 * a * x + b * y)
  by_cases hy : y = 0
  · subst hy
    have hx : x ≠ 0 := fun e => hxy ⟨e, rfl⟩
    have h2 : (2 * a * x + b * 0) * (2 * a * x + b * 0) = 4 * ((a * x) * (a * x)) := by grind
    have h3 : 0 < (a * x) * (a * x) := by
      have h4 := sq_nonneg' (a * x)
      have h5 : (a * x) * (a * x) ≠ 0 := Int.mul_ne_zero (Int.mul_ne_zero ha hx) (Int.mul_ne_zero ha hx)
      omega
    simp only [Int.mul_zero, Int.sub_zero] at e
    simp only [Int.mul_zero] at h2
    omega
  · have h2 : 0 < y * y := by
      have h4 := sq_nonneg' y
      have h5 : y * y ≠ 0 := Int.mul_ne_zero hy hy
      omega
    have h3 : 0 < -(dsc a b c) * (y * y) := Int.mul_pos (by omega) h2
    rw [Int.neg_mul] at h3
    omega
theorem sign_vl {a b c x y : Int} (hd : dsc a b c < 0) (hxy : ¬ (x = 0 ∧ y = 0)) : a ≤ 0 ↔ vl a b c x y ≤ 0 := by
  have h := vl_sign hd hxy
  constructor
  · intro h1
    rcases Int.lt_or_le 0 (vl a b c x y) with h2 | h2
    · have h3 : a * vl a b c x y ≤ 0 := Int.mul_nonpos_of_nonpos_of_nonneg h1 (by omega)
      omega
    · exact h2
  · intro h1
    rcases Int.lt_or_le 0 a with h2 | h2
    · have h3 : a * vl a b c x y ≤ 0 := Int.mul_nonpos_of_nonneg_of_nonpos (by omega) h1
      omega
    · exact h2
theorem ck_of {a b c p q r : Int} (h : isSq (dsc a b c) = isSq (dsc p q r)) (h1 : dsc a b c < 0 ∧ a ≤ 0 ↔ dsc p q r < 0 ∧ p ≤ 0) : ck a b c = ck p q r := by
  unfold ck
  rw [h]
  by_cases h2 : dsc a b c < 0 ∧ a ≤ 0
  · rw [if_pos h2, if_pos (h1.1 h2)]
  · rw [if_neg h2, if_neg (fun x => h2 (h1.2 x))]
theorem ck_app (f : Fm) {m : Mt} (h : m.det * m.det = 1) : ck f.a f.b f.c = ck (f.app m).a (f.app m).b (f.app m).c := by
  have hd := disc_app1 f h
  refine ck_of (by rw [hd]) ?_
  rw [hd]
  have hm : ¬ (m.a = 0 ∧ m.c = 0) := by
    rintro ⟨h1, h2⟩
    unfold Mt.det at h
    rw [h1, h2] at h
    simp at h
  constructor
  · rintro ⟨h1, h2⟩; exact ⟨h1, (sign_vl h1 hm).1 h2⟩
  · rintro ⟨h1, h2⟩; exact ⟨h1, (sign_vl h1 hm).2 h2⟩
theorem isSq_nine (d : Int) : isSq (9 * d) = isSq d := by
  rw [Bool.eq_iff_iff, isSq_iff, isSq_iff]
  constructor
  · rintro ⟨k, hk⟩
    have h1 := Int.mul_ediv_add_emod k 3
    have h2 := Int.emod_nonneg k (show (3 : Int) ≠ 0 by omega)
    have h3 := Int.emod_lt_of_pos k (show (0 : Int) < 3 by omega)
    generalize k / 3 = q at h1
    generalize k % 3 = r at h1 h2 h3
    refine ⟨q, ?_⟩
    subst h1
    have e : (3 * q + r) * (3 * q + r) = 9 * (q * q) + 6 * (q * r) + r * r := by grind
    rw [e] at hk
    have hr : r = 0 ∨ r = 1 ∨ r = 2 := by omega
    rcases hr with rfl | rfl | rfl <;> omega
  · rintro ⟨k, rfl⟩
    exact ⟨3 * k, by grind⟩
theorem dsc_three (a b c : Int) : dsc (3 * a) (3 * b) (3 * c) = 9 * dsc a b c := by unfold dsc; grind
theorem ck_three (a b c : Int) : ck (3 * a) (3 * b) (3 * c) = ck a b c := by
  refine ck_of (by rw [dsc_three, isSq_nine]) ?_
  rw [dsc_three]
  omega
theorem prim_three (a b c : Int) : prim (3 * a) (3 * b) (3 * c) = false := by
  rw [Bool.eq_false_iff]
  intro h
  have h1 := (prim_cont (f := ⟨3 * a, 3 * b, 3 * c⟩)).1 h
  have h2 : (3 : Int) ∣ cont ⟨3 * a, 3 * b, 3 * c⟩ := dvd_cont ⟨a, rfl⟩ ⟨b, rfl⟩ ⟨c, rfl⟩
  rw [h1] at h2
  omega
/-- the matrix that mirrors -/
def Mt.mir : Mt := ⟨1, 0, 0, -1⟩
theorem det_mir : Mt.mir.det = -1 := by decide
theorem det_turns (b c : Nat) : ((turnM b).mul (turnM c)).det * ((turnM b).mul (turnM c)).det = 1 := by rw [det_mul, det_turn, det_turn]; rfl
theorem det_mirs (b c : Nat) : (((turnM b).mul (turnM c)).mul .mir).det * (((turnM b).mul (turnM c)).mul .mir).det = 1 := by rw [det_mul, det_mul, det_turn, det_turn, det_mir]; rfl

/-! principal forms -/
theorem prE_or (d : Int) : prE d = 0 ∨ prE d = 5 := by unfold prE; split <;> simp
theorem prE_ne {d : Int} (h : prE d ≠ 0) : prE d = 5 ∧ (1 < d % 4 ∨ isSq d = true) := by
  unfold prE at h ⊢
  split at h
  · next h1 => exact ⟨if_pos h1, h1⟩
  · exact absurd rfl h
theorem prE_eq {d : Int} (h : prE d = 0) : d % 4 ≤ 1 ∧ isSq d = false ∧ prF d = ⟨1, d % 4, -(d / 4)⟩ := by
  have h0 : prF d = ⟨1, d % 4, -(d / 4)⟩ := by unfold prF; rw [if_pos h]
  unfold prE at h
  split at h
  · cases h
  · next h1 =>
    refine ⟨by omega, ?_, h0⟩
    cases hs : isSq d with
    | false => rfl
    | true => exact absurd (.inr hs) h1
theorem prF_dsc {d : Int} (h : prE d = 0) : dsc (prF d).a (prF d).b (prF d).c = d := by
  obtain ⟨h1, _, h3⟩ := prE_eq h
  rw [h3]
  unfold dsc
  have h4 := Int.emod_nonneg d (show (4 : Int) ≠ 0 by omega)
  have h5 : d % 4 = 0 ∨ d % 4 = 1 := by omega
  have e : 4 * 1 * -(d / 4) = -(4 * (d / 4)) := by omega
  simp only
  rw [e]
  rcases h5 with h5 | h5 <;> rw [h5] <;> omega
theorem prF_prim {d : Int} (h : prE d = 0) : prim (prF d).a (prF d).b (prF d).c = true := by
  rw [(prE_eq h).2.2]
  unfold prim
  rw [decide_eq_true_iff]
  exact Int.one_gcd
theorem prF_a {d : Int} (h : prE d = 0) : (prF d).a = 1 := by rw [(prE_eq h).2.2]
theorem prF_ck {d : Int} (h : prE d = 0) : ck (prF d).a (prF d).b (prF d).c = 0 := by
  unfold ck
  rw [prF_dsc h, (prE_eq h).2.1, prF_a h, if_neg (by simp), if_neg (by omega)]
theorem prF_big {d : Int} (h : prE d = 0) (hp : 0 < d) : rdd (prF d).a (prF d).b (prF d).c = false := by
  rw [Bool.eq_false_iff]
  intro h1
  rw [rdd_iff, prF_dsc h] at h1
  omega
theorem pr_neg {d : Int} (h : prE d = 0) (hp : ¬ 0 < d) : d < 0 := by
  rcases Int.lt_or_le d 0 with h1 | h1
  · exact h1
  · exfalso
    have : d = 0 := by omega
    subst this
    have := (prE_eq h).2.1
    rw [isSq_zero] at this
    cases this
theorem prF_red {d : Int} (h : prE d = 0) (hp : ¬ 0 < d) : rdd (prF d).a (prF d).b (prF d).c = true := by
  have hd := pr_neg h hp
  rw [rdd_iff, prF_dsc h]
  refine ⟨prF_ck h, by omega, ?_⟩
  obtain ⟨h1, _, h3⟩ := prE_eq h
  rw [h3]
  simp only
  omega
theorem rdF_red {a b c : Int} (h : rdE a b c = 0) (hr : rdd a b c = true) : rdF a b c = ⟨a, b, c⟩ := by
  have k := rdRun_red (n := Fm.mu ⟨a, b, c⟩) (s := ((⟨a, b, c⟩ : Fm), Mt.one)) (show (Fm.mk a b c).red = true from hr)
  unfold rdF rdS
  rw [if_pos h, k]
theorem prF_inv {d : Int} (h : prE d = 0) (hp : ¬ 0 < d) : rdE (prF d).a (-(prF d).b) (prF d).c = 0 ∧ rdF (prF d).a (-(prF d).b) (prF d).c = prF d := by
  have hd := pr_neg h hp
  have hr := prF_red h hp
  have hpos : Fm.pos ⟨(prF d).a, -(prF d).b, (prF d).c⟩ := ⟨by show 0 < (prF d).a; rw [prF_a h]; omega, by show dsc _ (-_) _ < 0; rw [dsc_neg, prF_dsc h]; exact hd⟩
  have he := pos_rdE hpos
  refine ⟨he, ?_⟩
  obtain ⟨h1, _, h3⟩ := prE_eq h
  rw [h3] at he hpos hr ⊢
  simp only at he hpos hr ⊢
  have h4 := Int.emod_nonneg d (show (4 : Int) ≠ 0 by omega)
  have h5 : d % 4 = 0 ∨ d % 4 = 1 := by omega
  rcases h5 with h5 | h5
  · rw [h5] at he hpos hr ⊢
    exact rdF_red he hr
  · rw [h5] at he hpos hr ⊢
    generalize -(d / 4) = c at *
    have hn : (Fm.mk 1 (-1) c).red = false := by
      rw [Bool.eq_false_iff]
      intro hx
      have := ((red_iff hpos).1 hx).2.2
      simp only at this
      omega
    have hk : (Fm.mk 1 (-1) c).k = 1 := by unfold Fm.k; simp only; omega
    have ht : (Fm.mk 1 (-1) c).app (.T 1) = ⟨1, 1, c⟩ := by
      rw [app_T]
      have e : (1 : Int) * 1 * 1 + (-1) * 1 + c = c := by omega
      exact congrArg (fun z => (⟨1, 1, z⟩ : Fm)) e
    have hs : AM.stp (⟨1, -1, c⟩, .one) = (⟨1, 1, c⟩, Mt.one.mul (.T 1)) := by
      unfold AM.stp
      simp only
      rw [hk, ht, if_pos (show (Fm.mk 1 1 c).red = true from hr)]
    have k1 := rdRun_stp (n := Fm.mu ⟨1, -1, c⟩) (s := ((⟨1, -1, c⟩ : Fm), Mt.one)) hn (Nat.le_refl _)
    have k2 := rdRun_red (n := Fm.mu ⟨1, -1, c⟩ - 1) (s := ((⟨1, 1, c⟩ : Fm), Mt.one.mul (.T 1))) (show (Fm.mk 1 1 c).red = true from hr)
    rw [hs, k2] at k1
    unfold rdF rdS
    rw [if_pos he, k1]
theorem prF_L {d : Int} {n : Nat} (hd : L n d) (hn : L n 4) : L n (prF d).a ∧ L n (prF d).b ∧ L n (prF d).c := by
  unfold prF L at *
  split
  · simp only; omega
  · simp only; omega
theorem prF_rdE {d : Int} (h : prE d = 0) (hp : ¬ 0 < d) : (rdE (prF d).a (prF d).b (prF d).c == 0) = true := by
  rw [← rdE_neg, (prF_inv h hp).1]; rfl
theorem prF_same {d : Int} (h : prE d = 0) (hp : ¬ 0 < d) : decide ((prF d).a = (rdF (prF d).a (-(prF d).b) (prF d).c).a ∧ (prF d).b = (rdF (prF d).a (-(prF d).b) (prF d).c).b ∧ (prF d).c = (rdF (prF d).a (-(prF d).b) (prF d).c).c) = true := by
  rw [(prF_inv h hp).2]; exact decide_eq_true ⟨rfl, rfl, rfl⟩
theorem pr_sq {d : Int} (h : 1 < d % 4 ∨ isSq d = true) (h1 : decide (cmpI (d % 4) 1 > 0) = false) : isSq d = true := by
  have := of_decide_eq_false h1
  rw [cmpI_gt_zero] at this
  exact h.resolve_left this
theorem turn_all : ∀ b : Fin 256, ((turnM b.val).a.natAbs < 2 ^ 64 ∧ (turnM b.val).b.natAbs < 2 ^ 64) ∧ (turnM b.val).c.natAbs < 2 ^ 64 ∧ (turnM b.val).d.natAbs < 2 ^ 64 := by decide +kernel
theorem turn_L {b : Nat} (h : b < 256) : LB (turnM b).a 6 ∧ LB (turnM b).b 6 ∧ LB (turnM b).c 6 ∧ LB (turnM b).d 6 := by
  have := turn_all ⟨b, h⟩
  exact ⟨⟨this.1.1⟩, ⟨this.1.2⟩, ⟨this.2.1⟩, ⟨this.2.2⟩⟩
theorem ckb {a b c p q r : Int} (h : ck a b c = ck p q r) : (ck a b c == ck p q r) = true := by rw [h]; exact beq_self_eq_true _
theorem primb {a b c p q r : Int} (h : prim a b c = prim p q r) : (prim a b c != prim p q r) = false := by rw [h]; exact bne_self_eq_false _
section
variable {a b c p q r s : Int} (h : (p * s - q * r) * (p * s - q * r) = 1)
include h
theorem disc_appE : (!decide (dsc a b c = dsc (vl a b c p r) (apB a b c p q r s) (vl a b c q s))) = false := congrArg Bool.not (decide_eq_true (disc_app1 ⟨a, b, c⟩ (m := ⟨p, q, r, s⟩) h).symm)
theorem prim_appE : (prim a b c != prim (vl a b c p r) (apB a b c p q r s) (vl a b c q s)) = false := primb (prim_app ⟨a, b, c⟩ (m := ⟨p, q, r, s⟩) h)
theorem ck_appE : (ck a b c == ck (vl a b c p r) (apB a b c p q r s) (vl a b c q s)) = true := ckb (ck_app ⟨a, b, c⟩ (m := ⟨p, q, r, s⟩) h)
end
end Go.AM
end

section
/- FormMatchesReference -/
namespace Go.Proofs.YtjfoccjngbgolaaGreat
open Go Go.AM

/- algorist/algoristref08.Principal -/
set_option maxHeartbeats 1000000 in
set_option maxRecDepth 100000 in
theorem r8_Principal (d : Int) (hd : L 40 d) :
    Call0 Tryz.prog 30 [I d] (.t [PF (prF d), PE (prE d)]) := by
  have id_ : LB d 40 := ⟨hd⟩
  refine callM_of (np := 0) Tryz.func30 (by kernel_rfl) rfl rfl (Nat.le_of_ble_eq_true rfl) (fun m h => absurd rfl h) (fun m h => absurd rfl h) rfl ?_
  refine AWp_seq ?_
  refine AWp_region hP ?_
  refine RK.alc guard_none (op_box rfl rfl) ?_
  refine RK.alc guard_none (op_alloc hT rfl rfl) ?_
  refine RK.val guard_none (op_assign (rfl : _ = AV.p (.c _))) ?_
  refine RK.done (by kernel_rfl) ?_
  refine AWp_seq ?_
  refine AWp_region hP ?_
  refine RK.val guard_none (op_load_agg hT rfl rfl rfl rfl (cs := [_, _]) rfl rfl) ?_
  refine RK.val guard_none (Eff.call0 (r_Of _ (by first | assumption | decide))) ?_
  refine RK.val guard_none (Eff.call0 (r_Mod _ _ lz lz (by decide))) ?_
  refine RK.alc guard_none (op_alloc hT rfl rfl) ?_
  refine RK.sto guard_none (op_store hT rfl rfl rfl rfl rfl rfl (cs := [_, _]) rfl) ?_
  refine RK.done (by kernel_rfl) ?_
  refine AWp_seq ?_
  refine AWp_seq ?_
  refine AWp_region hP ?_
  refine RK.val guard_none (op_load_agg hT rfl rfl rfl rfl (cs := [_, _]) rfl rfl) ?_
  refine RK.val guard_none (Eff.call0 (r_Of _ (by first | assumption | decide))) ?_
  refine RK.val guard_none (Eff.call0 (r_Cmp _ _)) ?_
  refine RK.val guard_none (op_gtr rfl rfl) ?_
  refine RK.val guard_none (op_move (rfl : _ = AV.p (.c _))) ?_
  refine RK.split (t := 12) rfl (fun hg1 => ?_) (fun hg1 => ?_)
  · have hg1_ := of_decide_eq_true hg1
    refine RK.skip (guard_no rfl rfl hg1) ?_
    refine RK.skip (guard_no rfl rfl hg1) ?_
    refine RK.val guard_none (op_pick_t rfl hg1 (rfl : _ = AV.p (.c _))) ?_
    refine RK.done (by kernel_rfl) ?_
    refine AWp_cond_true rfl rfl ?_
    refine AWp_seq ?_
    refine AWp_region hP ?_
    refine RK.val guard_none (op_build_st hT rfl rfl rfl (es := [_, _, _, _, _, _]) rfl) ?_
    refine RK.sto guard_none (op_store hT rfl rfl rfl rfl rfl rfl (cs := [_, _, _, _, _, _]) rfl) ?_
    refine RK.val guard_none (op_assign (rfl : _ = AV.p (.c _))) ?_
    refine RK.done (by kernel_rfl) ?_
    refine AWp_ret ?_
    refine ends_two rfl (.inr rfl) (res_cell_agg hT rfl rfl rfl rfl (cs := [_, _, _, _, _, _]) rfl rfl) (res_tmp rfl) ?_ O_ends
    exact Sub.of_eq (pr_no (.inl (cmpI_gt_zero.1 hg1_)))
  · have hg1_ := of_decide_eq_false hg1
    refine RK.val (guard_yes rfl rfl hg1) (op_load_agg hT rfl rfl rfl rfl (cs := [_, _]) rfl rfl) ?_
    refine RK.val (guard_yes rfl rfl hg1) (Eff.call0 (r8_Square _ lz)) ?_
    refine RK.val guard_none (op_pick_f rfl hg1 (rfl : _ = AV.p (.c _))) ?_
    refine RK.done (by kernel_rfl) ?_
    refine AWp_cond rfl (fun hb2 => ?_) (fun hb2 => ?_)
    · refine AWp_seq ?_
      refine AWp_region hP ?_
      refine RK.val guard_none (op_build_st hT rfl rfl rfl (es := [_, _, _, _, _, _]) rfl) ?_
      refine RK.sto guard_none (op_store hT rfl rfl rfl rfl rfl rfl (cs := [_, _, _, _, _, _]) rfl) ?_
      refine RK.val guard_none (op_assign (rfl : _ = AV.p (.c _))) ?_
      refine RK.done (by kernel_rfl) ?_
      refine AWp_ret ?_
      refine ends_two rfl (.inr rfl) (res_cell_agg hT rfl rfl rfl rfl (cs := [_, _, _, _, _, _]) rfl rfl) (res_tmp rfl) ?_ O_ends
      exact Sub.of_eq (pr_no (.inr hb2))
    · refine AWp_skip ?_
      refine AWp_seq ?_
      refine AWp_region hP ?_
      refine RK.val guard_none (Eff.call0 (r_Of _ (by first | assumption | decide))) ?_
      refine RK.val guard_none (op_load_agg hT rfl rfl rfl rfl (cs := [_, _]) rfl rfl) ?_
      refine RK.val guard_none (op_load_agg hT rfl rfl rfl rfl (cs := [_, _]) rfl rfl) ?_
      refine RK.val guard_none (op_load_agg hT rfl rfl rfl rfl (cs := [_, _]) rfl rfl) ?_
      refine RK.val guard_none (Eff.call0 (r_Sub _ _ lz lz)) ?_
      refine RK.val guard_none (Eff.call0 (r_Of _ (by first | assumption | decide))) ?_
      refine RK.val guard_none (Eff.call0 (r_Div _ _ lz lz (by decide))) ?_
      refine RK.val guard_none (op_build_st hT rfl rfl rfl (es := [_, _, _, _, _, _]) rfl) ?_
      refine RK.sto guard_none (op_store hT rfl rfl rfl rfl rfl rfl (cs := [_, _, _, _, _, _]) rfl) ?_
      refine RK.val guard_none (op_assign (rfl : _ = AV.p (.c _))) ?_
      refine RK.done (by kernel_rfl) ?_
      refine AWp_ret ?_
      refine ends_two rfl (.inr rfl) (res_cell_agg hT rfl rfl rfl rfl (cs := [_, _, _, _, _, _]) rfl rfl) (res_tmp rfl) ?_ O_ends
      exact Sub.of_eq (by rw [pr_c]; exact pr_yes (fun x => hg1_ (cmpI_gt_zero.2 x)) hb2)

/- algorist/algoristref08.Inverse -/
set_option maxHeartbeats 1000000 in
set_option maxRecDepth 100000 in
theorem r8_Inverse (a b c : Int) (ha : L 26 a) (hb : L 26 b) (hc : L 26 c) :
    Call0 Tryz.prog 31 [FA a b c] (.t [PF (rdF a (-b) c), PE (rdE a b c)]) := by
  have ia : LB a 26 := ⟨ha⟩
  have ib : LB b 26 := ⟨hb⟩
  have ic : LB c 26 := ⟨hc⟩
  refine callM_of (np := 0) Tryz.func31 (by kernel_rfl) rfl rfl (Nat.le_of_ble_eq_true rfl) (fun m h => absurd rfl h) (fun m h => absurd rfl h) rfl ?_
  refine AWp_seq ?_
  refine AWp_region hP ?_
  refine RK.alc guard_none (op_box rfl rfl) ?_
  refine RK.alc guard_none (op_alloc hT rfl rfl) ?_
  refine RK.val guard_none (op_assign (rfl : _ = AV.p (.c _))) ?_
  refine RK.done (by kernel_rfl) ?_
  refine AWp_seq ?_
  refine AWp_region hP ?_
  refine RK.val guard_none (op_load_agg hT rfl rfl rfl rfl (cs := [_, _, _, _, _, _]) rfl rfl) ?_
  refine RK.val guard_none (Eff.call0 (r8_Reduce _ _ _ lz lz lz)) ?_
  refine RK.val guard_none (op_move (rfl : _ = AV.t _)) ?_
  refine RK.val guard_none (op_extract rfl (v := .a _) rfl) ?_
  refine RK.val guard_none (op_extract rfl (v := .a _) rfl) ?_
  refine RK.val guard_none (op_extract rfl (v := .c _) rfl) ?_
  refine RK.alc guard_none (op_alloc hT rfl rfl) ?_
  refine RK.alc guard_none (op_alloc hT rfl rfl) ?_
  refine RK.sto guard_none (op_store hT rfl rfl rfl rfl rfl rfl (cs := [_, _, _, _, _, _]) rfl) ?_
  refine RK.sto guard_none (op_store hT rfl rfl rfl rfl rfl rfl (cs := [_, _, _, _, _, _, _, _]) rfl) ?_
  refine RK.val guard_none (op_assign (rfl : _ = AV.p (.c _))) ?_
  refine RK.done (by kernel_rfl) ?_
  refine AWp_seq ?_
  refine AWp_seq ?_
  refine AWp_region hP ?_
  refine RK.val guard_none (op_move (rfl : _ = AV.p (.c _))) ?_
  refine RK.val guard_none (op_neq rfl rfl) ?_
  refine RK.done (by kernel_rfl) ?_
  refine AWp_cond rfl (fun hb1 => ?_) (fun hb1 => ?_)
  · have hb1_ := bneT hb1
    refine AWp_seq ?_
    refine AWp_region hP ?_
    refine RK.val guard_none (op_build_st hT rfl rfl rfl (es := [_, _, _, _, _, _]) rfl) ?_
    refine RK.val guard_none (op_move (rfl : _ = AV.p (.c _))) ?_
    refine RK.sto guard_none (op_store hT rfl rfl rfl rfl rfl rfl (cs := [_, _, _, _, _, _]) rfl) ?_
    refine RK.val guard_none (op_assign (rfl : _ = AV.p (.c _))) ?_
    refine RK.done (by kernel_rfl) ?_
    refine AWp_ret ?_
    refine ends_two rfl (.inr rfl) (res_cell_agg hT rfl rfl rfl rfl (cs := [_, _, _, _, _, _]) rfl rfl) (res_tmp rfl) ?_ O_ends
    exact Sub.of_eq (by rw [(rdF_zero (a := a) (b := -b) (c := c) (by rw [rdE_neg]; exact hb1_)).1])
  · have hb1_ := bneF hb1
    refine AWp_skip ?_
    refine AWp_seq ?_
    refine AWp_region hP ?_
    refine RK.val guard_none (op_field_loc hT rfl rfl rfl rfl rfl rfl) ?_
    refine RK.val guard_none (op_load_agg hT rfl rfl rfl rfl (cs := [_, _]) rfl rfl) ?_
    refine RK.val guard_none (op_field_loc hT rfl rfl rfl rfl rfl rfl) ?_
    refine RK.val guard_none (op_load_agg hT rfl rfl rfl rfl (cs := [_, _]) rfl rfl) ?_
    refine RK.val guard_none (Eff.call0 (r_Neg _)) ?_
    refine RK.val guard_none (op_field_loc hT rfl rfl rfl rfl rfl rfl) ?_
    refine RK.val guard_none (op_load_agg hT rfl rfl rfl rfl (cs := [_, _]) rfl rfl) ?_
    refine RK.val guard_none (op_build_st hT rfl rfl rfl (es := [_, _, _, _, _, _]) rfl) ?_
    refine RK.val guard_none (Eff.call0 (r8_Reduce _ _ _ lz lz lz)) ?_
    refine RK.val guard_none (op_move (rfl : _ = AV.t _)) ?_
    refine RK.val guard_none (op_extract rfl (v := .a _) rfl) ?_
    refine RK.val guard_none (op_extract rfl (v := .a _) rfl) ?_
    refine RK.val guard_none (op_extract rfl (v := .c _) rfl) ?_
    refine RK.alc guard_none (op_alloc hT rfl rfl) ?_
    refine RK.alc guard_none (op_alloc hT rfl rfl) ?_
    refine RK.sto guard_none (op_store hT rfl rfl rfl rfl rfl rfl (cs := [_, _, _, _, _, _]) rfl) ?_
    refine RK.sto guard_none (op_store hT rfl rfl rfl rfl rfl rfl (cs := [_, _, _, _, _, _, _, _]) rfl) ?_
    refine RK.val guard_none (op_assign (rfl : _ = AV.p (.c _))) ?_
    refine RK.done (by kernel_rfl) ?_
    refine AWp_seq ?_
    refine AWp_region hP ?_
    refine RK.val guard_none (op_load_agg hT rfl rfl rfl rfl (cs := [_, _, _, _, _, _]) rfl rfl) ?_
    refine RK.val guard_none (op_move (rfl : _ = AV.p (.c _))) ?_
    refine RK.sto guard_none (op_store hT rfl rfl rfl rfl rfl rfl (cs := [_, _, _, _, _, _]) rfl) ?_
    refine RK.val guard_none (op_assign (rfl : _ = AV.p (.c _))) ?_
    refine RK.done (by kernel_rfl) ?_
    refine AWp_ret ?_
    refine ends_two rfl (.inr rfl) (res_cell_agg hT rfl rfl rfl rfl (cs := [_, _, _, _, _, _]) rfl rfl) (res_tmp rfl) ?_ O_ends
    exact Sub.of_eq (by rw [rdE_neg])

/- algorist/algoristlaw08.FormMatchesReference -/
set_option maxHeartbeats 1000000 in
set_option maxRecDepth 100000 in
theorem l_FormMatchesReference (xn0 xn1 xn2 xn3 xn4 xn5 xn6 : Bool) (xw0 xw1 xw2 xw3 xw4 xw5 xw6 : List Nat) (xh0 : okW xw0) (xh1 : okW xw1) (xh2 : okW xw2) (xh3 : okW xw3) (xh4 : okW xw4) (xh5 : okW xw5) (xh6 : okW xw6) (yn0 yn1 yn2 yn3 yn4 yn5 yn6 : Bool) (yw0 yw1 yw2 yw3 yw4 yw5 yw6 : List Nat) (yh0 : okW yw0) (yh1 : okW yw1) (yh2 : okW yw2) (yh3 : okW yw3) (yh4 : okW yw4) (yh5 : okW yw5) (yh6 : okW yw6) :
    Call0 Tryz.prog 6 [.p (.a [.v (.bool xn0), W xw0, .v (.bool xn1), W xw1, .v (.bool xn2), W xw2, .v (.bool xn3), W xw3, .v (.bool xn4), W xw4, .v (.bool xn5), W xw5, .v (.bool xn6), W xw6]), .p (.a [.v (.bool yn0), W yw0, .v (.bool yn1), W yw1, .v (.bool yn2), W yw2, .v (.bool yn3), W yw3, .v (.bool yn4), W yw4, .v (.bool yn5), W yw5, .v (.bool yn6), W yw6])] (B true) := by
  have xi0 : LB (md xn0 xw0) 6 := ⟨md_L xh0⟩
  have xi1 : LB (md xn1 xw1) 6 := ⟨md_L xh1⟩
  have xi2 : LB (md xn2 xw2) 6 := ⟨md_L xh2⟩
  have xi3 : LB (md xn3 xw3) 6 := ⟨md_L xh3⟩
  have xi4 : LB (md xn4 xw4) 6 := ⟨md_L xh4⟩
  have xi5 : LB (md xn5 xw5) 6 := ⟨md_L xh5⟩
  have xi6 : LB (md xn6 xw6) 6 := ⟨md_L xh6⟩
  have yi0 : LB (md yn0 yw0) 6 := ⟨md_L yh0⟩
  have yi1 : LB (md yn1 yw1) 6 := ⟨md_L yh1⟩
  have yi2 : LB (md yn2 yw2) 6 := ⟨md_L yh2⟩
  have yi3 : LB (md yn3 yw3) 6 := ⟨md_L yh3⟩
  have yi4 : LB (md yn4 yw4) 6 := ⟨md_L yh4⟩
  have yi5 : LB (md yn5 yw5) 6 := ⟨md_L yh5⟩
  have yi6 : LB (md yn6 yw6) 6 := ⟨md_L yh6⟩
  refine callM_of (np := 0) Tryz.func6 (by kernel_rfl) rfl rfl (Nat.le_of_ble_eq_true rfl) (fun m h => absurd rfl h) (fun m h => absurd rfl h) rfl ?_
  refine AWp_seq ?_
  refine AWp_region hP ?_
  refine RK.alc guard_none (op_box rfl rfl) ?_
  refine RK.alc guard_none (op_box rfl rfl) ?_
  refine RK.val guard_none (op_assign (rfl : _ = AV.p (.c _))) ?_
  refine RK.done (by kernel_rfl) ?_
  refine AWp_seq ?_
  refine AWp_region hP ?_
  refine RK.val guard_none (Eff.call0 l_examples) ?_
  refine RK.val guard_none (op_assign (rfl : _ = AV.p (.c _))) ?_
  refine RK.done (by kernel_rfl) ?_
  refine AWp_seq ?_
  refine AWp_seq ?_
  refine AWp_region hP ?_
  refine RK.val guard_none (op_move (rfl : _ = AV.p (.c _))) ?_
  refine RK.val guard_none (op_unot rfl) ?_
  refine RK.done (by kernel_rfl) ?_
  refine AWp_cond_false rfl rfl ?_
  refine AWp_skip ?_
  refine AWp_seq ?_
  refine AWp_region hP ?_
  refine RK.val guard_none (op_load_agg hT rfl rfl rfl rfl (cs := [_, _, _, _, _, _, _, _, _, _, _, _, _, _]) rfl rfl) ?_
  refine RK.val guard_none (Eff.call0 (r8_Any xn0 xn1 xn2 xn3 xn4 xn5 xn6 xw0 xw1 xw2 xw3 xw4 xw5 xw6 xh0 xh1 xh2 xh3 xh4 xh5 xh6)) ?_
  refine RK.val guard_none (op_load_agg hT rfl rfl rfl rfl (cs := [_, _, _, _, _, _, _, _, _, _, _, _, _, _]) rfl rfl) ?_
  refine RK.val guard_none (Eff.call0 (r8_AnyMat xn0 xn1 xn2 xn3 xn4 xn5 xn6 xw0 xw1 xw2 xw3 xw4 xw5 xw6 xh0 xh1 xh2 xh3 xh4 xh5 xh6)) ?_
  refine RK.val guard_none (op_load_agg hT rfl rfl rfl rfl (cs := [_, _, _, _, _, _, _, _, _, _, _, _, _, _]) rfl rfl) ?_
  refine RK.val guard_none (Eff.call0 (r8_AnyMat yn0 yn1 yn2 yn3 yn4 yn5 yn6 yw0 yw1 yw2 yw3 yw4 yw5 yw6 yh0 yh1 yh2 yh3 yh4 yh5 yh6)) ?_
  refine RK.alc guard_none (op_alloc hT rfl rfl) ?_
  refine RK.alc guard_none (op_alloc hT rfl rfl) ?_
  refine RK.alc guard_none (op_alloc hT rfl rfl) ?_
  refine RK.sto guard_none (op_store hT rfl rfl rfl rfl rfl rfl (cs := [_, _, _, _, _, _]) rfl) ?_
  refine RK.sto guard_none (op_store hT rfl rfl rfl rfl rfl rfl (cs := [_, _, _, _, _, _, _, _]) rfl) ?_
  refine RK.sto guard_none (op_store hT rfl rfl rfl rfl rfl rfl (cs := [_, _, _, _, _, _, _, _]) rfl) ?_
  refine RK.done (by kernel_rfl) ?_
  refine AWp_seq ?_
  refine AWp_region hP ?_
  refine RK.val guard_none (op_field_loc hT rfl rfl rfl rfl rfl rfl) ?_
  refine RK.val guard_none (op_load_agg hT rfl rfl rfl rfl (cs := [_, _]) rfl rfl) ?_
  refine RK.val guard_none (Eff.call0 (q_Principal _ lz)) ?_
  refine RK.val guard_none (op_move (rfl : _ = AV.t _)) ?_
  refine RK.val guard_none (op_extract rfl (v := .a _) rfl) ?_
  refine RK.val guard_none (op_extract rfl (v := .c _) rfl) ?_
  refine RK.alc guard_none (op_alloc hT rfl rfl) ?_
  refine RK.sto guard_none (op_store hT rfl rfl rfl rfl rfl rfl (cs := [_, _, _, _, _, _]) rfl) ?_
  refine RK.val guard_none (op_assign (rfl : _ = AV.p (.c _))) ?_
  refine RK.done (by kernel_rfl) ?_
  refine AWp_seq ?_
  refine AWp_region hP ?_
  refine RK.val guard_none (op_field_loc hT rfl rfl rfl rfl rfl rfl) ?_
  refine RK.val guard_none (op_load_agg hT rfl rfl rfl rfl (cs := [_, _]) rfl rfl) ?_
  refine RK.val guard_none (Eff.call0 (r8_Principal _ lz)) ?_
  refine RK.val guard_none (op_move (rfl : _ = AV.t _)) ?_
  refine RK.val guard_none (op_extract rfl (v := .a _) rfl) ?_
  refine RK.val guard_none (op_extract rfl (v := .c _) rfl) ?_
  refine RK.alc guard_none (op_alloc hT rfl rfl) ?_
  refine RK.sto guard_none (op_store hT rfl rfl rfl rfl rfl rfl (cs := [_, _, _, _, _, _]) rfl) ?_
  refine RK.val guard_none (op_assign (rfl : _ = AV.p (.c _))) ?_
  refine RK.done (by kernel_rfl) ?_
  refine AWp_seq ?_
  refine AWp_region hP ?_
  refine RK.val guard_none (op_load_agg hT rfl rfl rfl rfl (cs := [_, _, _, _, _, _]) rfl rfl) ?_
  refine RK.val guard_none (Eff.call0 (q_Inverse _ _ _ lz lz lz)) ?_
  refine RK.val guard_none (op_move (rfl : _ = AV.t _)) ?_
  refine RK.val guard_none (op_extract rfl (v := .a _) rfl) ?_
  refine RK.val guard_none (op_extract rfl (v := .c _) rfl) ?_
  refine RK.alc guard_none (op_alloc hT rfl rfl) ?_
  refine RK.sto guard_none (op_store hT rfl rfl rfl rfl rfl rfl (cs := [_, _, _, _, _, _]) rfl) ?_
  refine RK.val guard_none (op_assign (rfl : _ = AV.p (.c _))) ?_
  refine RK.done (by kernel_rfl) ?_
  refine AWp_seq ?_
  refine AWp_region hP ?_
  refine RK.val guard_none (op_load_agg hT rfl rfl rfl rfl (cs := [_, _, _, _, _, _]) rfl rfl) ?_
  refine RK.val guard_none (Eff.call0 (r8_Inverse _ _ _ lz lz lz)) ?_
  refine RK.val guard_none (op_move (rfl : _ = AV.t _)) ?_
  refine RK.val guard_none (op_extract rfl (v := .a _) rfl) ?_
  refine RK.val guard_none (op_extract rfl (v := .c _) rfl) ?_
  refine RK.alc guard_none (op_alloc hT rfl rfl) ?_
  refine RK.sto guard_none (op_store hT rfl rfl rfl rfl rfl rfl (cs := [_, _, _, _, _, _]) rfl) ?_
  refine RK.val guard_none (op_assign (rfl : _ = AV.p (.c _))) ?_
  refine RK.done (by kernel_rfl) ?_
  refine AWp_seq ?_
  refine AWp_seq ?_
  refine AWp_region hP ?_
  refine RK.val guard_none (op_load_agg hT rfl rfl rfl rfl (cs := [_, _, _, _, _, _]) rfl rfl) ?_
  refine RK.val guard_none (Eff.call0 (q_Check _ _ _ lz lz lz)) ?_
  refine RK.val guard_none (op_load_agg hT rfl rfl rfl rfl (cs := [_, _, _, _, _, _]) rfl rfl) ?_
  refine RK.val guard_none (Eff.call0 (r8_Check _ _ _ lz lz lz)) ?_
  refine RK.val guard_none (op_neq rfl rfl) ?_
  refine RK.val guard_none (op_move (rfl : _ = AV.p (.c _))) ?_
  refine RK.val (guard_yes rfl rfl (bne_self_eq_false _)) (op_move (rfl : _ = AV.p (.c _))) ?_
  refine RK.val (guard_yes rfl rfl (bne_self_eq_false _)) (op_move (rfl : _ = AV.p (.c _))) ?_
  refine RK.val (guard_yes rfl rfl (bne_self_eq_false _)) (op_neq rfl rfl) ?_
  refine RK.val guard_none (op_pick_f rfl (bne_self_eq_false _) (rfl : _ = AV.p (.c _))) ?_
  refine RK.val guard_none (op_move (rfl : _ = AV.p (.c _))) ?_
  refine RK.val (guard_yes rfl rfl (bne_self_eq_false _)) (op_move (rfl : _ = AV.p (.c _))) ?_
  refine RK.val (guard_yes rfl rfl (bne_self_eq_false _)) (op_move (rfl : _ = AV.p (.c _))) ?_
  refine RK.val (guard_yes rfl rfl (bne_self_eq_false _)) (op_neq rfl rfl) ?_
  refine RK.val guard_none (op_pick_f rfl (bne_self_eq_false _) (rfl : _ = AV.p (.c _))) ?_
  refine RK.val guard_none (op_move (rfl : _ = AV.p (.c _))) ?_
  refine RK.val (guard_yes rfl rfl (bne_self_eq_false _)) (op_load_agg hT rfl rfl rfl rfl (cs := [_, _, _, _, _, _]) rfl rfl) ?_
  refine RK.val (guard_yes rfl rfl (bne_self_eq_false _)) (op_load_agg hT rfl rfl rfl rfl (cs := [_, _, _, _, _, _]) rfl rfl) ?_
  refine RK.val (guard_yes rfl rfl (bne_self_eq_false _)) (Eff.call0 (r8_Equal _ _ _ _ _ _)) ?_
  refine RK.val (guard_yes rfl rfl (bne_self_eq_false _)) (op_unot rfl) ?_
  refine RK.val guard_none (op_pick_f rfl (bne_self_eq_false _) (rfl : _ = AV.p (.c _))) ?_
  refine RK.val guard_none (op_move (rfl : _ = AV.p (.c _))) ?_
  refine RK.val (guard_yes rfl rfl (congrArg Bool.not (decide_eq_true ⟨rfl, rfl, rfl⟩))) (op_load_agg hT rfl rfl rfl rfl (cs := [_, _, _, _, _, _]) rfl rfl) ?_
  refine RK.val (guard_yes rfl rfl (congrArg Bool.not (decide_eq_true ⟨rfl, rfl, rfl⟩))) (op_load_agg hT rfl rfl rfl rfl (cs := [_, _, _, _, _, _]) rfl rfl) ?_
  refine RK.val (guard_yes rfl rfl (congrArg Bool.not (decide_eq_true ⟨rfl, rfl, rfl⟩))) (Eff.call0 (r8_Equal _ _ _ _ _ _)) ?_
  refine RK.val (guard_yes rfl rfl (congrArg Bool.not (decide_eq_true ⟨rfl, rfl, rfl⟩))) (op_unot rfl) ?_
  refine RK.val guard_none (op_pick_f rfl (congrArg Bool.not (decide_eq_true ⟨rfl, rfl, rfl⟩)) (rfl : _ = AV.p (.c _))) ?_
  refine RK.done (by kernel_rfl) ?_
  refine AWp_cond_false rfl (congrArg Bool.not (decide_eq_true ⟨rfl, rfl, rfl⟩)) ?_
  refine AWp_skip ?_
  refine AWp_seq ?_
  refine AWp_seq ?_
  refine AWp_region hP ?_
  refine RK.val guard_none (op_load_agg hT rfl rfl rfl rfl (cs := [_, _, _, _, _, _]) rfl rfl) ?_
  refine RK.val guard_none (Eff.call0 (q_Disc _ _ _ lz lz lz)) ?_
  refine RK.val guard_none (op_load_agg hT rfl rfl rfl rfl (cs := [_, _, _, _, _, _]) rfl rfl) ?_
  refine RK.val guard_none (Eff.call0 (r8_Disc _ _ _ lz lz lz)) ?_
  refine RK.val guard_none (Eff.call0 (r_Same _ _)) ?_
  refine RK.val guard_none (op_unot rfl) ?_
  refine RK.val guard_none (op_move (rfl : _ = AV.p (.c _))) ?_
  refine RK.val (guard_yes rfl rfl (congrArg Bool.not (decide_eq_true rfl))) (op_load_agg hT rfl rfl rfl rfl (cs := [_, _, _, _, _, _]) rfl rfl) ?_
  refine RK.val (guard_yes rfl rfl (congrArg Bool.not (decide_eq_true rfl))) (Eff.call0 (q_Primitive _ _ _ lz lz lz)) ?_
  refine RK.val (guard_yes rfl rfl (congrArg Bool.not (decide_eq_true rfl))) (op_load_agg hT rfl rfl rfl rfl (cs := [_, _, _, _, _, _]) rfl rfl) ?_
  refine RK.val (guard_yes rfl rfl (congrArg Bool.not (decide_eq_true rfl))) (Eff.call0 (r8_Primitive _ _ _ lz lz lz)) ?_
  refine RK.val (guard_yes rfl rfl (congrArg Bool.not (decide_eq_true rfl))) (op_bne hT rfl rfl rfl rfl) ?_
  refine RK.val guard_none (op_pick_f rfl (congrArg Bool.not (decide_eq_true rfl)) (rfl : _ = AV.p (.c _))) ?_
  refine RK.val guard_none (op_move (rfl : _ = AV.p (.c _))) ?_
  refine RK.val (guard_yes rfl rfl (bne_self_eq_false _)) (op_load_agg hT rfl rfl rfl rfl (cs := [_, _, _, _, _, _]) rfl rfl) ?_
  refine RK.val (guard_yes rfl rfl (bne_self_eq_false _)) (Eff.call0 (q_Reduced _ _ _ lz lz lz)) ?_
  refine RK.val (guard_yes rfl rfl (bne_self_eq_false _)) (op_load_agg hT rfl rfl rfl rfl (cs := [_, _, _, _, _, _]) rfl rfl) ?_
  refine RK.val (guard_yes rfl rfl (bne_self_eq_false _)) (Eff.call0 (r8_Reduced _ _ _ lz lz lz)) ?_
  refine RK.val (guard_yes rfl rfl (bne_self_eq_false _)) (op_bne hT rfl rfl rfl rfl) ?_
  refine RK.val guard_none (op_pick_f rfl (bne_self_eq_false _) (rfl : _ = AV.p (.c _))) ?_
  refine RK.val guard_none (op_move (rfl : _ = AV.p (.c _))) ?_
  refine RK.val (guard_yes rfl rfl (bne_self_eq_false _)) (op_load_agg hT rfl rfl rfl rfl (cs := [_, _, _, _, _, _]) rfl rfl) ?_
  refine RK.val (guard_yes rfl rfl (bne_self_eq_false _)) (op_field_loc hT rfl rfl rfl rfl rfl rfl) ?_
  refine RK.val (guard_yes rfl rfl (bne_self_eq_false _)) (op_load_agg hT rfl rfl rfl rfl (cs := [_, _]) rfl rfl) ?_
  refine RK.val (guard_yes rfl rfl (bne_self_eq_false _)) (op_field_loc hT rfl rfl rfl rfl rfl rfl) ?_
  refine RK.val (guard_yes rfl rfl (bne_self_eq_false _)) (op_load_agg hT rfl rfl rfl rfl (cs := [_, _]) rfl rfl) ?_
  refine RK.val (guard_yes rfl rfl (bne_self_eq_false _)) (Eff.call0 (q_Value _ _ _ _ _ lz lz lz lz lz)) ?_
  refine RK.val (guard_yes rfl rfl (bne_self_eq_false _)) (op_load_agg hT rfl rfl rfl rfl (cs := [_, _, _, _, _, _]) rfl rfl) ?_
  refine RK.val (guard_yes rfl rfl (bne_self_eq_false _)) (op_field_loc hT rfl rfl rfl rfl rfl rfl) ?_
  refine RK.val (guard_yes rfl rfl (bne_self_eq_false _)) (op_load_agg hT rfl rfl rfl rfl (cs := [_, _]) rfl rfl) ?_
  refine RK.val (guard_yes rfl rfl (bne_self_eq_false _)) (op_field_loc hT rfl rfl rfl rfl rfl rfl) ?_
  refine RK.val (guard_yes rfl rfl (bne_self_eq_false _)) (op_load_agg hT rfl rfl rfl rfl (cs := [_, _]) rfl rfl) ?_
  refine RK.val (guard_yes rfl rfl (bne_self_eq_false _)) (Eff.call0 (r8_Value _ _ _ _ _ lz lz lz lz lz)) ?_
  refine RK.val (guard_yes rfl rfl (bne_self_eq_false _)) (Eff.call0 (r_Same _ _)) ?_
  refine RK.val (guard_yes rfl rfl (bne_self_eq_false _)) (op_unot rfl) ?_
  refine RK.val guard_none (op_pick_f rfl (bne_self_eq_false _) (rfl : _ = AV.p (.c _))) ?_
  refine RK.done (by kernel_rfl) ?_
  refine AWp_cond_false rfl (congrArg Bool.not (decide_eq_true rfl)) ?_
  refine AWp_skip ?_
  refine AWp_seq ?_
  refine AWp_region hP ?_
  refine RK.val guard_none (op_load_agg hT rfl rfl rfl rfl (cs := [_, _, _, _, _, _]) rfl rfl) ?_
  refine RK.val guard_none (op_load_agg hT rfl rfl rfl rfl (cs := [_, _, _, _, _, _, _, _]) rfl rfl) ?_
  refine RK.val guard_none (Eff.call0 (q_Apply _ _ _ _ _ _ _ lz lz lz lz lz lz lz)) ?_
  refine RK.val guard_none (op_load_agg hT rfl rfl rfl rfl (cs := [_, _, _, _, _, _]) rfl rfl) ?_
  refine RK.val guard_none (op_load_agg hT rfl rfl rfl rfl (cs := [_, _, _, _, _, _, _, _]) rfl rfl) ?_
  refine RK.val guard_none (Eff.call0 (r8_Apply _ _ _ _ _ _ _ lz lz lz lz lz lz lz)) ?_
  refine RK.val guard_none (Eff.call0 (r8_Equal _ _ _ _ _ _)) ?_
  refine RK.val guard_none (op_move (rfl : _ = AV.p (.c _))) ?_
  refine RK.val (guard_yes rfl rfl (decide_eq_true ⟨rfl, rfl, rfl⟩)) (op_load_agg hT rfl rfl rfl rfl (cs := [_, _, _, _, _, _, _, _]) rfl rfl) ?_
  refine RK.val (guard_yes rfl rfl (decide_eq_true ⟨rfl, rfl, rfl⟩)) (Eff.call0 (q_Det _ _ _ _ lz lz lz lz)) ?_
  refine RK.val (guard_yes rfl rfl (decide_eq_true ⟨rfl, rfl, rfl⟩)) (op_load_agg hT rfl rfl rfl rfl (cs := [_, _, _, _, _, _, _, _]) rfl rfl) ?_
  refine RK.val (guard_yes rfl rfl (decide_eq_true ⟨rfl, rfl, rfl⟩)) (Eff.call0 (r8_Det _ _ _ _ lz lz lz lz)) ?_
  refine RK.val (guard_yes rfl rfl (decide_eq_true ⟨rfl, rfl, rfl⟩)) (Eff.call0 (r_Same _ _)) ?_
  refine RK.val guard_none (op_pick_t rfl (decide_eq_true ⟨rfl, rfl, rfl⟩) (rfl : _ = AV.p (.c _))) ?_
  refine RK.val guard_none (op_move (rfl : _ = AV.p (.c _))) ?_
  refine RK.val (guard_yes rfl rfl (decide_eq_true rfl)) (op_load_agg hT rfl rfl rfl rfl (cs := [_, _, _, _, _, _, _, _]) rfl rfl) ?_
  refine RK.val (guard_yes rfl rfl (decide_eq_true rfl)) (op_load_agg hT rfl rfl rfl rfl (cs := [_, _, _, _, _, _, _, _]) rfl rfl) ?_
  refine RK.val (guard_yes rfl rfl (decide_eq_true rfl)) (Eff.call0 (q_Times _ _ _ _ _ _ _ _ lz lz lz lz lz lz lz lz)) ?_
  refine RK.val (guard_yes rfl rfl (decide_eq_true rfl)) (op_load_agg hT rfl rfl rfl rfl (cs := [_, _, _, _, _, _, _, _]) rfl rfl) ?_
  refine RK.val (guard_yes rfl rfl (decide_eq_true rfl)) (op_load_agg hT rfl rfl rfl rfl (cs := [_, _, _, _, _, _, _, _]) rfl rfl) ?_
  refine RK.val (guard_yes rfl rfl (decide_eq_true rfl)) (Eff.call0 (r8_Times _ _ _ _ _ _ _ _ lz lz lz lz lz lz lz lz)) ?_
  refine RK.val (guard_yes rfl rfl (decide_eq_true rfl)) (Eff.call0 (l_sameMat _ _ _ _ _ _ _ _)) ?_
  refine RK.val guard_none (op_pick_t rfl (decide_eq_true rfl) (rfl : _ = AV.p (.c _))) ?_
  refine RK.val guard_none (op_move (rfl : _ = AV.p (.c _))) ?_
  refine RK.val (guard_yes rfl rfl (decide_eq_true ⟨rfl, rfl, rfl, rfl⟩)) (op_move (rfl : _ = AV.p (.c _))) ?_
  refine RK.val guard_none (op_pick_t rfl (decide_eq_true ⟨rfl, rfl, rfl, rfl⟩) (rfl : _ = AV.p (.c _))) ?_
  refine RK.val guard_none (op_assign (rfl : _ = AV.p (.c _))) ?_
  refine RK.done (by kernel_rfl) ?_
  refine AWp_ret ?_
  refine ends_one rfl (.inr rfl) (res_tmp rfl) ?_ O_ends
  exact .refl _

end Go.Proofs.YtjfoccjngbgolaaGreat
end
