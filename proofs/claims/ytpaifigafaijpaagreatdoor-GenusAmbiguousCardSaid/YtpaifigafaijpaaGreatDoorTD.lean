/- Texts merged by program, in build order. -/
import Derived.Test.YtpaifigafaijpaaGreatDoorTC
section
/- The ambiguous forms, sorted, each once. -/
namespace Go.AM
open Go Go.RowKit
theorem ggV_nn : ∀ (f : Nat) (a b : Int), 0 ≤ a → 0 ≤ b → 0 ≤ ggV f a b
  | 0, a, b, ha, hb => by unfold ggV; first | exact ha | omega
  | f + 1, a, b, ha, hb => by
    unfold ggV
    split
    · exact ha
    · exact ggV_nn f b (a.tmod b) hb (Int.tmod_nonneg _ ha)
theorem gg_nn {a b : Int} (ha : 0 ≤ a) (hb : 0 ≤ b) : 0 ≤ gg a b := ggV_nn _ a b ha hb
theorem gg_prim {a b c : Int} (ha : 0 ≤ a) (hb : 0 ≤ b) (hc : 0 ≤ c) : gg (gg a b) c = 1 ↔ prim a b c = true := by
  have h1 := gg_nn ha hb
  have h2 := gg_nn h1 hc
  have h3 := gg_abs a b
  have h4 := gg_abs (gg a b) c
  unfold prim
  rw [decide_eq_true_iff]
  have e : Int.gcd (gg a b) c = Int.gcd a (Int.gcd b c : Int) := by
    have e1 : Int.gcd (gg a b) c = Nat.gcd (Nat.gcd a.natAbs b.natAbs) c.natAbs := by
      show Nat.gcd (gg a b).natAbs c.natAbs = _
      rw [h3]; rfl
    rw [e1, Nat.gcd_assoc]
    rfl
  rw [← e]
  omega
theorem okS_iff {m : Int} {f : Fm} : okS m f = true ↔ f.b * f.b - 4 * f.a * f.c = -m ∧ 0 ≤ f.b ∧ f.b ≤ f.a ∧ f.a ≤ f.c ∧ gg (gg f.a f.b) f.c = 1 := by
  unfold okS
  simp only [Bool.and_eq_true, decide_eq_true_iff]
theorem okS_cl {m : Int} (hm : 0 < m) {f : Fm} : okS m f = true ↔ Cl (-m) f ∧ f.rd = f ∧ 0 ≤ f.b := by
  rw [okS_iff]
  constructor
  · rintro ⟨h1, h2, h3, h4, h5⟩
    have ha : 0 < f.a := by
      rcases (show f.a = 0 ∨ 0 < f.a by omega) with q | q
      · have hb : f.b = 0 := by omega
        rw [q, hb] at h1
        simp at h1
        omega
      · exact q
    have hp : f.pos := ⟨ha, by show f.b * f.b - 4 * f.a * f.c < 0; omega⟩
    refine ⟨⟨hp, (gg_prim (by omega) h2 (by omega)).1 h5, h1⟩, rd_of_Rd ⟨ha, by omega, h4, .inr h2⟩ hp, h2⟩
  · rintro ⟨h1, h2, h3⟩
    have hr : Rd f := h2 ▸ h1.rd_Rd
    have ha := hr.a
    have hb := hr.b
    have hc := hr.c
    exact ⟨h1.disc, h3, by omega, hc, (gg_prim (by omega) h3 (by omega)).2 h1.prim⟩
theorem shp_amb {m k : Int} (j : Nat) : amb (shp m k j) = true := by
  unfold amb
  rw [Bool.or_eq_true, Bool.or_eq_true, decide_eq_true_iff, decide_eq_true_iff, decide_eq_true_iff]
  match j with
  | 0 => exact .inl rfl
  | 1 => exact .inr (.inl rfl)
  | _ + 2 => exact .inr (.inr rfl)
theorem amR_mem {m k : Int} {f : Fm} {j : Nat} : f ∈ amR m k j ↔ ∃ i : Nat, i < j ∧ f = shp m k i ∧ okS m f = true := by
  unfold amR
  rw [List.mem_filter, List.mem_map]
  constructor
  · rintro ⟨⟨i, h1, rfl⟩, h2⟩
    exact ⟨i, List.mem_range.1 h1, rfl, h2⟩
  · rintro ⟨i, h1, rfl, h2⟩
    exact ⟨⟨i, List.mem_range.2 h1, rfl⟩, h2⟩
theorem amG_mem {m : Int} {f : Fm} : ∀ {n : Nat}, f ∈ amG m n ↔ ∃ k j : Nat, k < n ∧ j < 3 ∧ f = shp m ((k : Int) + 1) j ∧ okS m f = true
  | 0 => by simp [amG]
  | n + 1 => by
    unfold amG
    rw [List.mem_append, amG_mem, amR_mem]
    constructor
    · rintro (⟨k, j, h1, h2⟩ | ⟨i, h1, h2⟩)
      · exact ⟨k, j, by omega, h2⟩
      · exact ⟨n, i, by omega, h1, h2⟩
    · rintro ⟨k, j, h1, h2, h3⟩
      rcases (show k < n ∨ k = n by omega) with q | q
      · exact .inl ⟨k, j, q, h2, h3⟩
      · subst q; exact .inr ⟨j, h2, h3⟩
theorem Rd.amb_b {f : Fm} (h : Rd f) (ha : amb f = true) : 0 ≤ f.b ∧ (f.b = 0 ∨ f.a = f.b ∨ f.a = f.c) := by
  unfold amb at ha
  rw [Bool.or_eq_true, Bool.or_eq_true, decide_eq_true_iff, decide_eq_true_iff, decide_eq_true_iff] at ha
  have h1 := h.a
  have h2 := h.s
  refine ⟨?_, ha⟩
  omega
theorem am_place {m : Int} (hm : 0 < m ∧ m ≤ 4194304) {f : Fm} {k : Int} {j : Nat} (hk : 1 ≤ k) (hkk : k * k ≤ m) (hj : j < 3) (e : f = shp m k j) (ho : okS m f = true) : f ∈ amL m := by
  obtain ⟨n, hn⟩ : ∃ n : Nat, k = (n : Int) + 1 := ⟨(k - 1).toNat, by omega⟩
  subst hn
  refine amG_mem.2 ⟨n, j, ?_, hj, e, ho⟩
  rcases Nat.lt_or_ge n (amS m) with q | q
  · exact q
  · exfalso
    have h1 := (amS_ok hm).1
    have h2 : ((amS m : Int) + 1) * ((amS m : Int) + 1) ≤ ((n : Int) + 1) * ((n : Int) + 1) := Int.mul_le_mul (by omega) (by omega) (by omega) (by omega)
    omega
theorem amL_mem {m : Int} (hm : 0 < m ∧ m ≤ 4194304) {f : Fm} : f ∈ amL m ↔ (Cl (-m) f ∧ f.rd = f) ∧ amb f = true := by
  constructor
  · intro h
    obtain ⟨k, j, _, _, h3, h4⟩ := amG_mem.1 h
    obtain ⟨c1, c2, _⟩ := (okS_cl hm.1).1 h4
    exact ⟨⟨c1, c2⟩, h3 ▸ shp_amb j⟩
  · rintro ⟨⟨c1, c2⟩, ha⟩
    have hr : Rd f := c2 ▸ c1.rd_Rd
    obtain ⟨hb, hcase⟩ := hr.amb_b ha
    have ho := (okS_cl hm.1).2 ⟨c1, c2, hb⟩
    have hd : f.b * f.b - 4 * f.a * f.c = -m := c1.disc
    have ra := hr.a
    have rb := hr.b
    have rc := hr.c
    obtain ⟨a, b, c⟩ := f
    simp only at hd ra rb rc hb hcase
    have eac : 4 * a * c = 4 * (a * c) := Int.mul_assoc ..
    rcases hcase with q | q | q
    · subst q
      have em : m = a * (4 * c) := by rw [Int.mul_left_comm]; omega
      refine am_place hm (k := a) (j := 0) (by omega) ?_ (by omega) ?_ ho
      · have : a * a ≤ a * (4 * c) := Int.mul_le_mul_of_nonneg_left (by omega) (by omega)
        omega
      · have e1 : m / 4 = a * c := by rw [show m = a * c * 4 by omega]; exact Int.mul_ediv_cancel _ (by omega)
        have e2 : m / 4 / a = c := by rw [e1]; exact Int.mul_ediv_cancel_left _ (by omega)
        show Fm.mk a 0 c = Fm.mk a 0 (m / 4 / a)
        rw [e2]
    · subst q
      have em : m = a * (4 * c - a) := by rw [Int.mul_sub, Int.mul_left_comm]; omega
      have e1 : m / a = 4 * c - a := by rw [em]; exact Int.mul_ediv_cancel_left _ (by omega)
      refine am_place hm (k := a) (j := 1) (by omega) ?_ (by omega) ?_ ho
      · have : a * a ≤ a * (4 * c - a) := Int.mul_le_mul_of_nonneg_left (by omega) (by omega)
        omega
      · show Fm.mk a a c = Fm.mk a a ((m / a + a) / 4)
        rw [e1, show (4 * c - a + a) / 4 = c by omega]
    · subst q
      have em : m = (2 * a - b) * (2 * a + b) := by
        have : (2 * a - b) * (2 * a + b) = 4 * (a * a) - b * b := by grind
        omega
      have e1 : m / (2 * a - b) = 2 * a + b := by rw [em]; exact Int.mul_ediv_cancel_left _ (by omega)
      refine am_place hm (k := 2 * a - b) (j := 2) (by omega) ?_ (by omega) ?_ ho
      · have : (2 * a - b) * (2 * a - b) ≤ (2 * a - b) * (2 * a + b) := Int.mul_le_mul_of_nonneg_left (by omega) (by omega)
        omega
      · show Fm.mk a b a = Fm.mk ((m / (2 * a - b) + (2 * a - b)) / 4) ((m / (2 * a - b) - (2 * a - b)) / 2) ((m / (2 * a - b) + (2 * a - b)) / 4)
        rw [e1, show (2 * a + b + (2 * a - b)) / 4 = a by omega, show (2 * a + b - (2 * a - b)) / 2 = b by omega]
theorem gcd_self_prim {a : Int} (ha : 0 < a) (h : prim a 0 a = true ∨ prim a a a = true) : a = 1 := by
  rcases h with h | h <;> unfold prim at h <;> rw [decide_eq_true_iff] at h
  · have : Int.gcd a (Int.gcd 0 a : Int) = a.natAbs := by simp [Int.gcd]
    omega
  · have : Int.gcd a (Int.gcd a a : Int) = a.natAbs := by simp [Int.gcd]
    omega
theorem shp_key2 {m k : Int} (_hm : 0 < m) (hk : 1 ≤ k) (hkk : k * k ≤ m) {a b : Int} (ha : a = (m / k + k) / 4) (hb : b = (m / k - k) / 2) (h0 : 0 ≤ b) (_hba : b ≤ a) (hd : b * b - 4 * a * a = -m) : k = 2 * a - b := by
  have h1 : k ≤ m / k := (Int.le_ediv_iff_mul_le (by omega)).2 hkk
  have h2 := Int.mul_ediv_self_le (x := m) (k := k) (by omega)
  generalize m / k = q at *
  have e : (2 * a - b) * (2 * a + b) = m := by
    have : (2 * a - b) * (2 * a + b) = 4 * a * a - b * b := by grind
    omega
  obtain ⟨X, hX⟩ : ∃ X, 2 * a - b = X := ⟨_, rfl⟩
  obtain ⟨Y, hY⟩ : ∃ Y, 2 * a + b = Y := ⟨_, rfl⟩
  rw [hX, hY] at e
  rcases (show (k = X ∧ q = Y) ∨ (k = X ∧ q = Y + 1) ∨ (k = X + 1 ∧ q = Y + 1) ∨ (k = X + 1 ∧ q = Y + 2) by omega) with ⟨z1, z2⟩ | ⟨z1, z2⟩ | ⟨z1, z2⟩ | ⟨z1, z2⟩
  · omega
  · omega
  · exfalso
    rw [z1, z2] at h2
    have : (X + 1) * (Y + 1) = X * Y + X + Y + 1 := by grind
    omega
  · exfalso
    rw [z1, z2] at h2
    have : (X + 1) * (Y + 2) = X * Y + 2 * X + Y + 2 := by grind
    omega
theorem shp_cases {m k : Int} (hm : 0 < m) (hk : 1 ≤ k) (hkk : k * k ≤ m) {f : Fm} {j : Nat} (hj : j < 3) (e : f = shp m k j) (ho : okS m f = true) : (j = 0 ∧ f.b = 0 ∧ k = f.a) ∨ (j = 1 ∧ f.a = f.b ∧ k = f.a) ∨ (j = 2 ∧ f.a = f.c ∧ k = 2 * f.a - f.b) := by
  obtain ⟨h1, h2, h3, h4, _⟩ := okS_iff.1 ho
  rcases (show j = 0 ∨ j = 1 ∨ j = 2 by omega) with rfl | rfl | rfl
  · subst e; exact .inl ⟨rfl, rfl, rfl⟩
  · subst e; exact .inr (.inl ⟨rfl, rfl, rfl⟩)
  · subst e
    refine .inr (.inr ⟨rfl, rfl, ?_⟩)
    exact shp_key2 hm hk hkk rfl rfl h2 h3 h1
theorem shp_uni {m k k' : Int} (hm : 0 < m) (h3 : m ≠ 3) (h4 : m ≠ 4) (hk : 1 ≤ k) (hkk : k * k ≤ m) (hk' : 1 ≤ k') (hkk' : k' * k' ≤ m) {f : Fm} {j j' : Nat} (hj : j < 3) (hj' : j' < 3) (e : f = shp m k j) (e' : f = shp m k' j') (ho : okS m f = true) : k = k' ∧ j = j' := by
  have c1 := shp_cases hm hk hkk hj e ho
  have c2 := shp_cases hm hk' hkk' hj' e' ho
  obtain ⟨cl, cr, _⟩ := (okS_cl hm).1 ho
  have hr : Rd f := cr ▸ cl.rd_Rd
  have ha := hr.a
  have hd : f.b * f.b - 4 * f.a * f.c = -m := cl.disc
  have hp := cl.prim
  have n1 : ¬ (f.b = 0 ∧ f.a = f.c) := fun ⟨q1, q2⟩ => by
    rw [q1, ← q2] at hp hd
    have := gcd_self_prim ha (.inl hp)
    rw [this] at hd
    omega
  have n2 : ¬ (f.a = f.b ∧ f.a = f.c) := fun ⟨q1, q2⟩ => by
    rw [← q1, ← q2] at hp hd
    have := gcd_self_prim ha (.inr hp)
    rw [this] at hd
    omega
  omega
theorem amS_le {m : Int} (hm : 0 < m ∧ m ≤ 4194304) {k n : Nat} (hn : n ≤ amS m) (h : k < n) : ((k : Int) + 1) * ((k : Int) + 1) ≤ m := (amS_ok hm).2 k (by omega)
theorem amG_nd {m : Int} (hm : 0 < m ∧ m ≤ 4194304) (h3 : m ≠ 3) (h4 : m ≠ 4) : ∀ n : Nat, n ≤ amS m → (amG m n).Nodup
  | 0, _ => List.nodup_nil
  | n + 1, hn => by
    unfold amG
    have hs := amS_le hm hn (show n < n + 1 by omega)
    rw [List.nodup_append]
    refine ⟨amG_nd hm h3 h4 n (by omega), ?_, ?_⟩
    · have e : amR m ((n : Int) + 1) 3 = [shp m ((n : Int) + 1) 0, shp m ((n : Int) + 1) 1, shp m ((n : Int) + 1) 2].filter (okS m) := rfl
      rw [e]
      unfold List.Nodup
      rw [List.pairwise_filter]
      have key : ∀ i j : Nat, i < 3 → j < 3 → i ≠ j → okS m (shp m ((n : Int) + 1) i) = true → okS m (shp m ((n : Int) + 1) j) = true → shp m ((n : Int) + 1) i ≠ shp m ((n : Int) + 1) j := fun i j hi hj hij o1 o2 he =>
        hij (shp_uni hm.1 h3 h4 (by omega) hs (by omega) hs hi hj rfl he o1).2
      simp only [List.pairwise_cons, List.mem_cons, List.not_mem_nil, or_false, forall_eq_or_imp, forall_eq, List.Pairwise.nil, and_true, false_imp_iff, implies_true]
      exact ⟨⟨key 0 1 (by omega) (by omega) (by omega), key 0 2 (by omega) (by omega) (by omega)⟩, key 1 2 (by omega) (by omega) (by omega)⟩
    · intro x hx y hy hxy
      subst hxy
      obtain ⟨k, j, q1, q2, q3, q4⟩ := amG_mem.1 hx
      obtain ⟨i, r1, r2, _⟩ := amR_mem.1 hy
      have := (shp_uni hm.1 h3 h4 (by omega) (amS_le hm hn (by omega)) (by omega) hs q2 r1 q3 r2 q4).1
      omega
theorem amL_nd {m : Int} (hm : 0 < m ∧ m ≤ 4194304) (h3 : m ≠ 3) (h4 : m ≠ 4) : (amL m).Nodup := amG_nd hm h3 h4 _ (Nat.le_refl _)
theorem cm3_lt {f g : Fm} : cm3 f g < 0 ↔ f.a < g.a ∨ (f.a = g.a ∧ f.b < g.b) := by
  unfold cm3 cmpI; repeat' split <;> omega
theorem cm3_swo : Sort.SWO (Proofs.ltOf cm3) where
  irrefl x := by unfold Proofs.ltOf; rw [decide_eq_false_iff_not, cm3_lt]; omega
  trans x y z := by unfold Proofs.ltOf; rw [decide_eq_true_iff, decide_eq_true_iff, decide_eq_true_iff, cm3_lt, cm3_lt, cm3_lt]; omega
  ntrans x y z := by unfold Proofs.ltOf; rw [decide_eq_false_iff_not, decide_eq_false_iff_not, decide_eq_false_iff_not, cm3_lt, cm3_lt, cm3_lt]; omega
theorem cl_anti {D : Int} {f g : Fm} (hf : Cl D f) (hg : Cl D g) (h1 : ¬ cm3 f g < 0) (h2 : ¬ cm3 g f < 0) : f = g := by
  rw [cm3_lt] at h1 h2
  have ea : f.a = g.a := by omega
  have eb : f.b = g.b := by omega
  have d1 : f.b * f.b - 4 * f.a * f.c = D := hf.disc
  have d2 : g.b * g.b - 4 * g.a * g.c = D := hg.disc
  have hp := hf.pos.1
  rw [← ea, ← eb] at d2
  have : 4 * f.a * f.c = 4 * f.a * g.c := by omega
  exact Fm.ext ea eb (Int.eq_of_mul_eq_mul_left (by omega) this)
def srtM (l : List Fm) : List Fm := l.mergeSort fun x y => !decide (cm3 y x < 0)
theorem srtM_perm (l : List Fm) : (srtM l).Perm l := List.mergeSort_perm _ _
theorem srtM_ord (l : List Fm) : (srtM l).Pairwise fun x y => ¬ cm3 y x < 0 := by
  have h : (srtM l).Pairwise fun x y => (!decide (cm3 y x < 0)) = true := by
    refine List.pairwise_mergeSort ?_ ?_ _
    · intro a b c h1 h2
      simp only [Bool.not_eq_true', decide_eq_false_iff_not, cm3_lt] at h1 h2 ⊢
      omega
    · intro a b
      simp only [Bool.or_eq_true, Bool.not_eq_true', decide_eq_false_iff_not, cm3_lt]
      omega
  exact h.imp fun hx => by simpa using hx
/-- what is left of neighbours that are equal -/
def cpt : List Fm → List Fm
  | [] => []
  | [x] => [x]
  | x :: y :: l => if x = y then cpt (y :: l) else x :: cpt (y :: l)
theorem cpt_mem {z : Fm} : ∀ l : List Fm, z ∈ cpt l ↔ z ∈ l
  | [] => by simp [cpt]
  | [x] => by simp [cpt]
  | x :: y :: l => by
    unfold cpt
    have ih := cpt_mem (z := z) (y :: l)
    split
    · next h => subst h; rw [ih]; simp
    · rw [List.mem_cons, ih]; simp
theorem cpt_strict : ∀ {l : List Fm}, (∀ x ∈ l, ∀ y ∈ l, ¬ cm3 x y < 0 → ¬ cm3 y x < 0 → x = y) → (l.Pairwise fun x y => ¬ cm3 y x < 0) → (cpt l).Pairwise fun x y => cm3 x y < 0
  | [], _, _ => List.Pairwise.nil
  | [x], _, _ => List.pairwise_singleton _ _
  | x :: y :: l, ha, hs => by
    unfold cpt
    rw [List.pairwise_cons] at hs
    have ih := cpt_strict (l := y :: l) (fun u hu v hv => ha u (List.mem_cons_of_mem _ hu) v (List.mem_cons_of_mem _ hv)) hs.2
    split
    · exact ih
    · next hne =>
      rw [List.pairwise_cons]
      refine ⟨fun z hz => ?_, ih⟩
      rw [cpt_mem] at hz
      have h1 := hs.1 z hz
      by_cases q : cm3 x z < 0
      · exact q
      · exfalso
        have hxz := ha x (List.mem_cons_self ..) z (List.mem_cons_of_mem _ hz) q h1
        subst hxz
        -- x = z stands behind y: y is between
        have hy := hs.1 y (List.mem_cons_self ..)
        rcases List.mem_cons.1 hz with e | e
        · exact hne e
        · have h2 := (List.pairwise_cons.1 hs.2).1 x e
          exact hne (ha x (List.mem_cons_self ..) y (by simp) h2 hy)
theorem cpt_nd : ∀ {l : List Fm}, l.Nodup → cpt l = l
  | [], _ => rfl
  | [x], _ => rfl
  | x :: y :: l, h => by
    unfold cpt
    rw [List.nodup_cons] at h
    rw [if_neg (fun e => h.1 (by rw [e]; exact List.mem_cons_self ..)), cpt_nd h.2]
theorem strict_eq {l l' : List Fm} (h1 : l.Pairwise fun x y => cm3 x y < 0) (h2 : l'.Pairwise fun x y => cm3 x y < 0) (h : ∀ x, x ∈ l ↔ x ∈ l') : l = l' := by
  have nd : ∀ {m : List Fm}, (m.Pairwise fun x y => cm3 x y < 0) → m.Nodup := fun hm => hm.imp fun {a b} hx e => by subst e; rw [cm3_lt] at hx; omega
  refine List.Perm.eq_of_pairwise (le := fun x y => cm3 x y < 0) ?_ h1 h2 ((List.perm_ext_iff_of_nodup (nd h1) (nd h2)).2 h)
  intro a b _ _ q1 q2
  rw [cm3_lt] at q1 q2
  omega
/-- the program's list of ambiguous forms -/
def amA (d : Int) : List Fm := if szE d = 0 then cpt (srtM (amL (-d))) else []
theorem amA_n {d : Int} (h : ¬ szE d = 0) : amA d = [] := by unfold amA; rw [if_neg h]
theorem amL_cl {m : Int} (hm : 0 < m ∧ m ≤ 4194304) {f : Fm} (h : f ∈ amL m) : Cl (-m) f := ((amL_mem hm).1 h).1.1
theorem amL_anti {m : Int} (hm : 0 < m ∧ m ≤ 4194304) : ∀ x ∈ amL m, ∀ y ∈ amL m, ¬ cm3 x y < 0 → ¬ cm3 y x < 0 → x = y := fun _ hx _ hy => cl_anti (amL_cl hm hx) (amL_cl hm hy)
theorem amA_mem {d : Int} (hE : szE d = 0) {f : Fm} : f ∈ amA d ↔ (Cl d f ∧ f.rd = f) ∧ amb f = true := by
  obtain ⟨_, h2, h3⟩ := gnV_0 hE
  unfold amA
  rw [if_pos hE, cpt_mem, (srtM_perm _).mem_iff, amL_mem ⟨by omega, by omega⟩, Int.neg_neg]
theorem amA_ord {d : Int} (hE : szE d = 0) : (amA d).Pairwise fun x y => cm3 x y < 0 := by
  obtain ⟨_, h2, h3⟩ := gnV_0 hE
  unfold amA
  rw [if_pos hE]
  refine cpt_strict (fun x hx y hy => ?_) (srtM_ord _)
  exact amL_anti ⟨by omega, by omega⟩ x ((srtM_perm _).mem_iff.1 hx) y ((srtM_perm _).mem_iff.1 hy)
/-- the reference's list of reduced forms is in order -/
theorem lsRow_ord (n a : Int) : ∀ (k : Nat) (b : Int), (lsRow n a k b).Pairwise fun x y => cm3 x y < 0
  | 0, _ => List.Pairwise.nil
  | k + 1, b => by
    unfold lsRow
    rw [List.pairwise_append]
    refine ⟨by split <;> simp, lsRow_ord n a k (b + 1), ?_⟩
    intro x hx y hy
    obtain ⟨b', h1, _, _, rfl⟩ := mem_lsRow hy
    split at hx
    · simp at hx; subst hx; rw [cm3_lt]; exact .inr ⟨rfl, (by omega : b < b')⟩
    · simp at hx
theorem lsAll_ord (n : Int) : ∀ (k : Nat) (a : Int), 1 ≤ a → (lsAll n k a).Pairwise fun x y => cm3 x y < 0
  | 0, _, _ => List.Pairwise.nil
  | k + 1, a, ha => by
    unfold lsAll
    split
    · rw [List.pairwise_append]
      refine ⟨lsRow_ord n a _ _, lsAll_ord n k (a + 1) (by omega), ?_⟩
      intro x hx y hy
      obtain ⟨b1, _, _, _, rfl⟩ := mem_lsRow hx
      have : a + 1 ≤ y.a := lsAll_a k (a + 1) y hy
      rw [cm3_lt]; exact .inl (by omega : a < y.a)
    · exact List.Pairwise.nil
where
  lsAll_a : ∀ (k : Nat) (a : Int) (y : Fm), y ∈ lsAll n k a → a ≤ y.a
    | 0, a, y, h => by simp [lsAll] at h
    | k + 1, a, y, h => by
      unfold lsAll at h
      split at h
      · rw [List.mem_append] at h
        rcases h with h | h
        · obtain ⟨b1, _, _, _, rfl⟩ := mem_lsRow h; simp only; omega
        · have := lsAll_a k (a + 1) y h; omega
      · simp at h
theorem lst_ord (n : Int) : (lst n).Pairwise fun x y => cm3 x y < 0 := lsAll_ord n 100 1 (by omega)
theorem amA_lst {N : Int} (hE : szE (-N) = 0) (hN : N ≤ 20000) : amA (-N) = (lst N).filter amb := by
  refine strict_eq (amA_ord hE) ((lst_ord N).filter _) fun f => ?_
  rw [amA_mem hE, List.mem_filter, (lst_whole hN).mem]
end Go.AM
end

section
/- The ambiguous forms as the reference lists them. -/
namespace Go.AM
open Go Go.RowKit
end Go.AM
end

section
/- Slices of elements of z cells, in general: reading, growing, clearing the tail. -/
namespace Go.AM
open Go Go.RowKit
section
variable {β : Type} {encD : β → List DV} {z : Nat}
abbrev VB (z : Nat) (e : TypeId) (encD : β → List DV) (l : List β) : Blk := ⟨true, z, e, l.flatMap encD⟩
theorem flat_drop (hL : ∀ b, (encD b).length = z) : ∀ (l : List β) (i : Nat) (h : i < l.length), (l.flatMap encD).drop (i * z) = encD l[i] ++ (l.drop (i + 1)).flatMap encD
  | x :: l, 0, _ => by simp
  | x :: l, i + 1, h => by
    have ih := flat_drop hL l i (by simpa using h)
    have e : (i + 1) * z = (encD x).length + i * z := by rw [hL, Nat.add_mul, Nat.one_mul, Nat.add_comm]
    rw [e, List.flatMap_cons, List.drop_length_add_append, ih]
    simp
variable {P : Program} {tt : TT} (hT : TTok P tt)
variable {dst : Option Nat} {ty : TypeId} {pos : String} {af : Array Edge} {gd : Option (Nat × Bool)} {d : Nat} {ρ : Operand → AV} {own : Own}
variable {T e : TypeId} {i j : TyI} {x y : Operand}
include hT
theorem op_index_vecG (hL : ∀ b, (encD b).length = z) {m : Nat} {k : IntKind} {n : Nat} {l : List β} {be : TypeId} (ht : tt T = some i) (hs : i.sh = .sl e) (he : tt e = some j) (hj : j.size = z) (hz : Nat.blt 0 z = true) (hx : ρ x = .vec m) (hb : own m = some (VB z be encD l)) (hy : ρ y = .p (.c (.v (.int k (n : Int))))) (hn : n < l.length) :
    Eff P ⟨dst, .indexAddr T x y, ty, pos, af, gd⟩ d ρ own (.loc m (n * z)) [] none [m] := by
  have hz1 : 0 < z := by simpa using hz
  have h2 : n * z < l.length * z := Nat.mul_lt_mul_of_pos_right hn hz1
  have h := op_index_vec (dst := dst) (ty := ty) (pos := pos) (af := af) (gd := gd) (d := d) hT ht hs he hx hb rfl hj.symm hy ⟨by omega, by
    rw [hj]; show (_ + 1) * _ ≤ (l.flatMap encD).length; rw [flat_len hL]
    exact Nat.mul_le_mul_right z (by omega)⟩ (by rw [hj]; exact hz)
  rw [hj] at h
  exact h
theorem op_len_vecG (hL : ∀ b, (encD b).length = z) (hz : Nat.blt 0 z = true) {m : Nat} {l : List β} {be : TypeId} (ht : tt T = some i) (hs : i.sh = .sl e) (hx : ρ x = .vec m) (hb : own m = some (VB z be encD l)) :
    Eff P ⟨dst, .call ⟨.builtin .len, #[x], #[T]⟩, ty, pos, af, gd⟩ d ρ own (.p (.c (.v (.int .i64 (l.length : Nat))))) [] none [m] :=
  op_len_vec hT ht hs hx hb rfl hz (flat_len hL l).symm
theorem op_load_vecG (hL : ∀ b, (encD b).length = z) (b0 : β) {m n : Nat} {l : List β} {be : TypeId} (ht : tt T = some i) (hg : i.sh.agg = true) (hz : i.size = z) (hx : ρ x = .loc m (n * z)) (hb : own m = some (VB z be encD l)) (hn : n < l.length) :
    Eff P ⟨dst, .load T x, ty, pos, af, gd⟩ d ρ own (.p (.a (encD (l.getD n b0)))) [] none [m] := by
  have e1 : l.getD n b0 = l[n] := by simp [List.getD, hn]
  rw [e1]
  exact op_load_agg hT ht hg hx hb (flat_drop hL l n hn) (by rw [hz]; exact hL _)
end
section
end
section
variable {P : Program} {tt : TT} (hT : TTok P tt)
variable {dst : Option Nat} {ty : TypeId} {pos : String} {af : Array Edge} {gd : Option (Nat × Bool)} {d : Nat} {ρ : Operand → AV} {own : Own}
variable {T e : TypeId} {i j : TyI} {x y : Operand}
include hT
/-- the tail of an owned slice, of which only the length is asked -/
theorem op_slice_vl {m n l z : Nat} {k : IntKind} {be : TypeId} {cs : List DV} (ht : tt T = some i) (hs : i.sh = .sl e) (he : tt e = some j) (_hj : j.size = z) (hz : Nat.blt 0 z = true) (hx : ρ x = .vec m) (hb : own m = some ⟨true, z, be, cs⟩) (hcs : cs.length = l * z) (hy : ρ y = .p (.c (.v (.int k (n : Int))))) (hn : n ≤ l) :
    Eff P ⟨dst, .slice T x (some y) none none, ty, pos, af, gd⟩ d ρ own (.ax fun _ v => ∃ a c, v = .slice a (l - n) c) [] none [m] :=
  Eff.value fun C h r own' a w hrep hrd hw => by
    have e1 := hrep x (by simp [Op.operands])
    have e2 := hrep y (by simp [Op.operands])
    rw [hx] at e1; rw [hy] at e2
    have hz1 : 0 < z := by simpa using hz
    have hold := hw.ow m _ ((hrd m (by simp)).trans hb)
    unfold BlkRep at hold
    simp only at hold
    obtain ⟨ad, l', cap, q1, q2, q3, q4, _⟩ := hold
    have hl : l' = l := Nat.eq_of_mul_eq_mul_right hz1 (q2.trans hcs)
    subst hl
    have v1 : a.eval x = .slice ad l' cap := (show a.eval x = r m from e1).trans q1
    have v2 : a.eval y = .int k (n : Int) := rep_val e2
    have hu := (hT T i ht).slice hs
    have hel : P.elem T = e := by simp [Program.elem, hu]
    have hu' : P.underlying T = some (.slice (P.elem T)) := by rw [hel]; exact hu
    refine ⟨sliced ad n l' cap j.size, ?_, fun h' _ => ⟨_, _, rfl⟩⟩
    simp only [execOp, v1, Option.map_some, Option.map_none, v2, Sem.run_bind, run_sliceAt_slice w T _ _ _ _ hu', run_slice_l w T _ l' cap hu' k (n : Int) (by omega) (by omega), hel, (hT e j he).size, Result.andThen_ok, Sem.run_pure, Int.toNat_natCast]
theorem op_len_ax {n : Nat} (ht : tt T = some i) (hs : i.sh = .sl e) (hx : ρ x = .ax fun _ v => ∃ a c, v = .slice a n c) : Eff P ⟨dst, .call ⟨.builtin .len, #[x], #[T]⟩, ty, pos, af, gd⟩ d ρ own (.p (.c (.v (.int .i64 n)))) [] none [] :=
  builtin_run (fun C h r own' a w hrep _ => by
    have e1 := hrep x (by simp)
    rw [hx] at e1
    obtain ⟨ad, c, e2⟩ := e1 h (fun _ _ _ e => e)
    simp [builtin, e2, Builtin.len_, run_underlying ((hT T i ht).slice hs), goInt]) rfl
end
theorem AWp_clearG {P : Program} {tt : TT} (hT : TTok P tt) {B : Bool} {N np : Nat} {Q : Exit → St → Prop} {s : St} {id t0 t5 t36 t37 t38 m T e be : Nat} {i j : TyI} {n l z : Nat} {cs : List DV} {y1 y2 y3 y4 : TypeId} {p1 p2 p3 p4 : String} {a1 a2 a3 a4 : Array Edge}
    (ht : tt T = some i) (hs : i.sh = .sl e) (he : tt e = some j) (hj : j.size = z) (hx : s.regs t0 = .vec m) (hb : s.own m = some ⟨true, z, be, cs⟩) (hcs : cs.length = l * z) (hy : s.regs t5 = .p (.c (.v (.int .i64 (n : Int))))) (hn : n < l) (hz : Nat.blt 0 z = true)
    (hd1 : (!Nat.beq t5 t36) = true) (hd2 : (!Nat.beq t36 t37) = true) (hN : (Nat.blt t36 N && Nat.blt t37 N && Nat.blt t38 N) = true)
    (h : ∀ zs : List DV, zs.length = (l - n) * z → Q .normal ⟨upd (upd (upd s.regs t36 .junk) t37 .junk) t38 .junk, upd s.own m (some ⟨true, z, be, cs.take (n * z) ++ zs⟩)⟩) :
    AWp P B N np (.region id #[⟨some t36, .move (.tmp t0), y1, p1, a1, none⟩, ⟨some t37, .move (.tmp t5), y2, p2, a2, none⟩, ⟨some t38, .slice T (.tmp t36) (some (.tmp t37)) none none, y3, p3, a3, none⟩,
      ⟨none, .call ⟨.builtin .clear, #[.tmp t38], #[T]⟩, y4, p4, a4, none⟩] false) Q s := by
  intro ro hB C hh r a w hnp hc
  have hz1 : 0 < z := by simpa using hz
  simp only [Bool.and_eq_true, Nat.blt_eq] at hN
  obtain ⟨⟨n1, n2⟩, n3⟩ := hN
  have hd1' : t5 ≠ t36 := fun e => by rw [e] at hd1; simp at hd1
  have hd2' : t36 ≠ t37 := fun e => by rw [e] at hd2; simp at hd2
  have hs0 : a.tmps.size = N := hc.sz
  have hu := (hT T i ht).slice hs
  have r0 := hc.rg t0
  have r5 := hc.rg t5
  rw [hx] at r0; rw [hy] at r5
  have v0 : a.eval (.tmp t0) = r m := r0
  have v5 : a.eval (.tmp t5) = .int .i64 (n : Int) := rep_val r5
  have hold := hc.wk.ow m _ hb
  unfold BlkRep at hold
  simp only at hold
  obtain ⟨ad, l', cap, q1, q2, q3, q4, q5⟩ := hold
  have hl : l' = l := Nat.eq_of_mul_eq_mul_right hz1 (q2.trans hcs)
  subst hl
  rcases q5 with q5 | ⟨k', c0, rfl, o2, o3, o4⟩
  · omega
  apply wpIn_region
  show wpOpsIn (Wd ro) 0 P _ _ [0, 1, 2, 3] a w
  rw [wpOpsIn_cons]
  refine wpOpIn_val (o := ⟨some t36, .move (.tmp t0), y1, p1, a1, none⟩) rfl rfl rfl (x := r m) (w' := w) (by simp only [execOp, v0, Sem.run_pure]) ?_
  rw [wpOpsIn_cons]
  have g1 : (a.put (some t36) (r m)).eval (.tmp t5) = .int .i64 (n : Int) := by
    rw [← v5]; simp [Act.put, Act.eval, hd1'.symm]
  refine wpOpIn_val (o := ⟨some t37, .move (.tmp t5), y2, p2, a2, none⟩) rfl rfl rfl (x := .int .i64 (n : Int)) (w' := w) (by simp only [execOp, g1, Sem.run_pure]) ?_
  rw [wpOpsIn_cons]
  have g2 : ((a.put (some t36) (r m)).put (some t37) (.int .i64 (n : Int))).eval (.tmp t36) = r m := by
    simp [Act.put, Act.eval, hs0, n1, hd2'.symm]
  have g3 : ((a.put (some t36) (r m)).put (some t37) (.int .i64 (n : Int))).eval (.tmp t37) = .int .i64 (n : Int) := by
    simp [Act.put, Act.eval, hs0, n2]
  obtain ⟨q, hq⟩ : ∃ q, l' - n = q + 1 := ⟨l' - n - 1, by omega⟩
  have hel : P.elem T = e := by simp [Program.elem, hu]
  have hu' : P.underlying T = some (.slice (P.elem T)) := by rw [hel]; exact hu
  have hcl : sliced (some ⟨k', 0, none⟩) (n : Int).toNat l' cap j.size = .slice (some ⟨k', n * z, none⟩) (q + 1) (cap - n) := by
    simp only [sliced, Int.toNat_natCast]
    rw [if_neg (by omega), hq, hj]
    simp [Addr.add_lit]
  refine wpOpIn_val (o := ⟨some t38, .slice T (.tmp t36) (some (.tmp t37)) none none, y3, p3, a3, none⟩) rfl rfl rfl (x := .slice (some ⟨k', n * z, none⟩) (q + 1) (cap - n)) (w' := w) (by
    simp only [execOp, g2.trans q1, Option.map_some, Option.map_none, g3, Sem.run_bind, run_sliceAt_slice w T _ _ _ _ hu', run_slice_l w T _ l' cap hu' .i64 (n : Int) (by omega) (by omega), hel, (hT e j he).size, Result.andThen_ok, Sem.run_pure, hcl]) ?_
  rw [wpOpsIn_cons]
  have g4 : (((a.put (some t36) (r m)).put (some t37) (.int .i64 (n : Int))).put (some t38) (.slice (some ⟨k', n * z, none⟩) (q + 1) (cap - n))).eval (.tmp t38) = .slice (some ⟨k', n * z, none⟩) (q + 1) (cap - n) := by
    simp [Act.put, Act.eval, hs0, n3]
  obtain ⟨w', c', k1, k2, k3, k4, k5, k6⟩ := run_clear (T := T) (ty := y4) (q := q) (cap := cap - n) (off := n * z) (h := hh) hu (hT e j he) o2 (by
    rw [hj, o3, ← Nat.add_mul]
    exact Nat.mul_le_mul_right z (by omega))
  rw [hj] at k6
  refine wpOpIn_val (o := ⟨none, .call ⟨.builtin .clear, #[.tmp t38], #[T]⟩, y4, p4, a4, none⟩) rfl rfl rfl (x := .tuple #[]) (w' := w') (by
    apply run_builtin
    simp only [List.map_toArray, List.map_cons, List.map_nil, g4, builtin, Sem.run_bind, k1, Result.andThen_ok, Sem.run_pure]) ?_
  let zs : List DV := (List.range ((q + 1) * z)).map fun p => j.zero.getD (p % z) (.v (.bool false))
  have hzl : zs.length = (q + 1) * z := by simp [zs]
  have hnl : n * z ≤ cs.length := by rw [hcs]; exact Nat.mul_le_mul_right z (by omega)
  show ∃ s' h' r', Q .normal s' ∧ Conc C N h' r' s' _ _
  refine ⟨_, hh, r, h zs (by rw [hzl, hq]), ?_, ?_, ?_, ?_⟩
  · simp [Act.put]; exact hs0
  · exact hc.df
  · have r1 := (show RegsOK hh r s.regs a from hc.rg).put (dst := some t36) (fun d' e => by cases e; omega) (v := .junk) (x := r m) trivial
    have r2 := r1.put (dst := some t37) (fun d' e => by cases e; simp [Act.put]; omega) (v := .junk) (x := .int .i64 (n : Int)) trivial
    exact r2.put (dst := some t38) (fun d' e => by cases e; simp [Act.put]; omega) (v := .junk) (x := .slice (some ⟨k', n * z, none⟩) (q + 1) (cap - n)) trivial
  · refine hc.wk.write (by rw [hb]; simp) (i := k') (by rw [q1]; simp only [hblk]; rw [if_neg (by omega)]) k2 ?_ (by intro j hj; cases hj)
    unfold BlkRep
    simp only
    have hlen : (cs.take (n * z) ++ zs).length = l' * z := by
      rw [List.length_append, hzl, List.length_take, Nat.min_eq_left hnl, ← hq, ← Nat.add_mul]; congr 1; omega
    refine ⟨_, l', cap, q1, by rw [hlen], q3, q4, .inr ⟨k', c', rfl, k3, by rw [k4, o3], ?_⟩⟩
    rw [DReps.iff]
    intro p dv hp
    have htl : (cs.take (n * z)).length = n * z := by rw [List.length_take, Nat.min_eq_left hnl]
    by_cases hpn : p < n * z
    · rw [List.getElem?_append_left (by rw [htl]; exact hpn), List.getElem?_take_of_lt hpn] at hp
      rw [k5 p hpn]
      exact o4.get _ _ hp
    · rw [List.getElem?_append_right (by rw [htl]; omega), htl] at hp
      have hlt := (List.getElem?_eq_some_iff.1 hp).1
      rw [hzl] at hlt
      obtain ⟨y, y1, y2⟩ := k6 (p - n * z) hlt
      have e1 : n * z + (p - n * z) = p := by omega
      rw [e1] at y1
      refine ⟨y, y1, ?_⟩
      simp only [zs, List.getElem?_map, List.getElem?_range hlt, Option.map_some, Option.some.injEq] at hp
      rw [← hp]; exact y2
end Go.AM
end

section
/- The ambiguous forms: neighbours in the sorted list. -/
namespace Go.AM
open Go Go.RowKit
theorem TC_one (f : Fm) : (TC f).length = 3 := rfl
/-- no two neighbours are equal -/
def NoN (l : List Fm) : Prop := ∀ i : Nat, i + 1 < l.length → l.getD (i + 1) ⟨0, 0, 0⟩ ≠ l.getD i ⟨0, 0, 0⟩
theorem NoN.of_nodup {l : List Fm} (h : l.Nodup) : NoN l := fun i hi e => by
  have h1 : l.getD (i + 1) ⟨0, 0, 0⟩ = l[i + 1] := by simp [List.getD, hi]
  have h2 : l.getD i ⟨0, 0, 0⟩ = l[i]'(by omega) := by simp [List.getD, show i < l.length by omega]
  rw [h1, h2] at e
  have := (List.getElem_inj h).1 e
  omega
theorem NoN.at {l : List Fm} (h : NoN l) {k : Nat} (h1 : 1 ≤ k) (hk : (k : Int) < l.length) : ¬ l.getD k ⟨0, 0, 0⟩ = l.getD ((k : Int) - 1).toNat ⟨0, 0, 0⟩ := by
  have := h (k - 1) (by omega)
  rw [show k - 1 + 1 = k by omega] at this
  rw [show ((k : Int) - 1).toNat = k - 1 by omega]
  exact this
theorem cpt_two (x : Fm) : cpt [x, x] = [x] := by simp [cpt]
theorem amL_3 : amL 3 = [⟨1, 1, 1⟩, ⟨1, 1, 1⟩] := by decide +kernel
theorem amL_4 : amL 4 = [⟨1, 0, 1⟩, ⟨1, 0, 1⟩] := by decide +kernel
theorem srtM_two {x : Fm} {l : List Fm} (h : l = [x, x]) : srtM l = [x, x] := by
  have hp := srtM_perm l
  rw [h] at hp ⊢
  exact List.perm_replicate.1 (show (srtM [x, x]).Perm (List.replicate 2 x) from hp)
/-- what the program's Compact meets -/
theorem am_cpt {m : Int} (hm : 0 < m ∧ m ≤ 4194304) : (NoN (srtM (amL m)) ∧ cpt (srtM (amL m)) = srtM (amL m)) ∨ ∃ x, srtM (amL m) = [x, x] := by
  by_cases h3 : m = 3
  · exact .inr ⟨_, srtM_two (by rw [h3]; exact amL_3)⟩
  by_cases h4 : m = 4
  · exact .inr ⟨_, srtM_two (by rw [h4]; exact amL_4)⟩
  have nd : (srtM (amL m)).Nodup := (srtM_perm _).nodup_iff.2 (amL_nd hm h3 h4)
  exact .inl ⟨.of_nodup nd, cpt_nd nd⟩
theorem amL_len {m : Int} (hm : 0 < m ∧ m ≤ 4194304) : (srtM (amL m)).length ≤ 9000 := by
  rw [(srtM_perm _).length_eq]
  have h := amG_len m (amS m)
  have h2 := fst1_ok (P := fun k => decide (m < ((k : Int) + 1) * ((k : Int) + 1))) (f := 3000) (n := 0) (m := 2048) (by omega) (by omega) (decide_eq_true (by omega))
  have h3 : amS m ≤ 2048 := by have := h2.2; unfold amS; omega
  unfold amL
  omega
theorem cpt_len : ∀ l : List Fm, (cpt l).length ≤ l.length
  | [] => Nat.le_refl _
  | [_] => Nat.le_refl _
  | x :: y :: l => by
    unfold cpt
    have := cpt_len (y :: l)
    split
    · simp only [List.length_cons] at this ⊢; omega
    · simp only [List.length_cons] at this ⊢; omega
theorem amA_0 {m d : Int} (h : szE d = 0) (hd : d = -m) : amA d = cpt (srtM (amL m)) := by
  unfold amA; rw [if_pos h, hd, Int.neg_neg]
theorem amA_bd {m : Int} (hm : 0 < m ∧ m ≤ 4194304) {f : Fm} (h : f ∈ cpt (srtM (amL m))) : (0 ≤ f.a ∧ f.a ≤ 4200000) ∧ (0 ≤ f.b ∧ f.b ≤ 4200000) ∧ 0 ≤ f.c ∧ f.c ≤ 4200000 :=
  amL_bd hm ((srtM_perm _).mem_iff.1 ((cpt_mem _).1 h))
theorem zs3_take {x : Fm} {zs : List DV} : (((([x, x] : List Fm).flatMap TC).take (1 * 3) ++ zs).take ((1 : Int).toNat * 3)) = [x].flatMap TC := by
  simp [TC]
end Go.AM
end

section
/- The law of the ambiguous forms: the lists are equal. -/
namespace Go.AM
open Go Go.RowKit
def ambQ (f : Fm) : Bool := decide (f.mi.rd = f)
def ambK (l : List Fm) (k : Nat) : List Fm := (l.take k).filter ambQ
theorem ambK_yes {l : List Fm} {k : Nat} (h : (k : Int) < l.length) (e : (l.getD k ⟨0, 0, 0⟩).mi.rd = l.getD k ⟨0, 0, 0⟩) : ambK l k ++ [l.getD k ⟨0, 0, 0⟩] = ambK l (k + 1) := by
  unfold ambK
  rw [← take_snocF h, List.filter_append, List.filter_cons, show ambQ (l.getD k ⟨0, 0, 0⟩) = true from decide_eq_true e]
  rfl
theorem ambK_no {l : List Fm} {k : Nat} (h : (k : Int) < l.length) (e : ¬ (l.getD k ⟨0, 0, 0⟩).mi.rd = l.getD k ⟨0, 0, 0⟩) : ambK l k = ambK l (k + 1) := by
  unfold ambK
  rw [← take_snocF h, List.filter_append, List.filter_cons, show ambQ (l.getD k ⟨0, 0, 0⟩) = false from decide_eq_false e]
  simp
theorem ambK_len (l : List Fm) (k : Nat) : (ambK l k).length ≤ l.length := Nat.le_trans (List.length_filter_le _ _) (by rw [List.length_take]; omega)
theorem ga_list (D : Nat) : amA (-szz D) = (lst (szz D)).filter ambQ := by
  have hs := szz_spec D
  have w := lst_whole (n := szz D) (by omega)
  rw [amA_lst (szz_szE D) (by omega)]
  refine List.filter_congr fun x hx => ?_
  obtain ⟨a, b⟩ := (w.mem x).1 hx
  have hr : Rd x := b ▸ a.rd_Rd
  rw [Bool.eq_iff_iff, amb_mi a hr]
  unfold ambQ
  rw [decide_eq_true_iff]
theorem ga_len (D : Nat) : gnN (-szz D) = ((amA (-szz D)).length : Int) := by
  have hs := szz_spec D
  rw [amA_lst (szz_szE D) (by omega), (gc_szz D).2]
  unfold gnN
  rw [if_pos (szz_szE D)]
  simp
theorem ambK_all {l : List Fm} {k : Nat} (h : ¬ (k : Int) < l.length) : ambK l k = l.filter ambQ := by unfold ambK; rw [List.take_of_length_le (by omega)]
end Go.AM
end

section
/- integer.Low: the words of a number, the first one last; the number of 64 bits. -/
namespace Go.AM
open Go Go.RowKit
/-- the words, as they come -/
def bkL (zs : List Nat) : List (List PV) := (List.range zs.length).map fun (k : Nat) => [.c (.v (.int .i64 ((zs.length : Int) - 1 - (k : Int)))), .c (w32 (zs.getD (zs.length - 1 - k) 0))]
theorem bkL_len (zs : List Nat) : (bkL zs).length = zs.length := by unfold bkL; simp
theorem bkL_at {zs : List Nat} {k : Nat} (h : k < zs.length) : (bkL zs)[k]? = some [.c (.v (.int .i64 ((zs.length : Int) - 1 - (k : Int)))), .c (w32 (zs.getD (zs.length - 1 - k) 0))] := by
  unfold bkL; rw [List.getElem?_map, List.getElem?_range h]; rfl
theorem bkL_get {zs : List Nat} {k : Nat} {x : List PV} (h : (bkL zs)[k]? = some x) : k < zs.length ∧ x = [.c (.v (.int .i64 ((zs.length : Int) - 1 - (k : Int)))), .c (w32 (zs.getD (zs.length - 1 - k) 0))] := by
  have hk : k < zs.length := by have := (List.getElem?_eq_some_iff.1 h).1; rwa [bkL_len] at this
  rw [bkL_at hk] at h
  exact ⟨hk, (Option.some.inj h).symm⟩
theorem bkL_two (zs : List Nat) : ∀ x ∈ bkL zs, x.length = 2 := by
  intro x hx
  unfold bkL at hx
  obtain ⟨k, _, rfl⟩ := List.mem_map.1 hx
  rfl
/-- the number of the last k words -/
def lwA (zs : List Nat) (k : Nat) : Nat := wv (zs.drop (zs.length - k))
theorem lwA_0 (zs : List Nat) : lwA zs 0 = 0 := by unfold lwA; rw [Nat.sub_zero, List.drop_length]; rfl
theorem lwA_all (zs : List Nat) : lwA zs zs.length = wv zs := by unfold lwA; rw [Nat.sub_self]; rfl
theorem lwA_next {zs : List Nat} {k : Nat} (h : k < zs.length) : lwA zs (k + 1) = lwA zs k * 4294967296 + zs.getD (zs.length - 1 - k) 0 := by
  unfold lwA
  have hi : zs.length - (k + 1) < zs.length := by omega
  rw [List.drop_eq_getElem_cons hi, show zs.length - (k + 1) + 1 = zs.length - k by omega]
  have e : zs.getD (zs.length - 1 - k) 0 = zs[zs.length - (k + 1)] := by
    rw [List.getD_eq_getElem?_getD, show zs.length - 1 - k = zs.length - (k + 1) by omega, List.getElem?_eq_getElem hi]; rfl
  rw [e]
  show _ + 4294967296 * _ = _
  omega
theorem lwA_b {zs : List Nat} (hok : okW zs) (h2 : zs.length ≤ 2) {k : Nat} (h : k < zs.length) : lwA zs k < 4294967296 := by
  rcases (show k = 0 ∨ k = 1 by omega) with rfl | rfl
  · rw [lwA_0]; omega
  · have h0 : 0 < zs.length := by omega
    rw [lwA_next h0, lwA_0]
    have := hok.getD (zs.length - 1 - 0)
    omega
theorem or64 {m x : Nat} (hm : m < 4294967296) (hx : x < 4294967296) : bits .or .u64 ((m * 4294967296 : Nat) : Int) (x : Int) = ((m * 4294967296 + x : Nat) : Int) := by
  rw [bits_or rfl (lt64 (by omega)) (lt64 (by omega)), Nat.mul_comm m, show (4294967296 : Nat) = 2 ^ 32 by rfl, Nat.two_pow_add_eq_or_of_lt (i := 32) (by omega)]
/-- as a signed number -/
def sw64 (m : Nat) : Int := if m < 9223372036854775808 then m else (m : Int) - 18446744073709551616
theorem wrap64 (z : Int) : IntKind.i64.wrap z = if 9223372036854775808 ≤ z % 18446744073709551616 then z % 18446744073709551616 - 18446744073709551616 else z % 18446744073709551616 := by
  simp [IntKind.wrap, IntKind.signed, IntKind.bits]
theorem sw64_w {m : Nat} (h : m < 18446744073709551616) : IntKind.i64.wrap (m : Int) = sw64 m := by
  rw [wrap64]
  unfold sw64
  split <;> split <;> omega
def yL (x : Int) : Int := if x < 0 then IntKind.i64.wrap (0 - sw64 x.natAbs) else sw64 x.natAbs
theorem yL_neg {x : Int} (h : x < 0) : IntKind.i64.wrap (0 - sw64 x.natAbs) = yL x := by unfold yL; rw [if_pos h]
theorem yL_pos {x : Int} (h : ¬ x < 0) : sw64 x.natAbs = yL x := by unfold yL; rw [if_neg h]
theorem yL_ok {x : Int} (h : x.natAbs < 18446744073709551616) : (lwO x = true ∧ yL x = x) ∨ (lwO x = false ∧ ¬ yL x = 0 ∧ ¬ ((x < 0) ↔ (yL x < 0))) := by
  have hy : yL x = if x < 0 then (if x.natAbs ≤ 9223372036854775808 then x else 18446744073709551616 + x) else (if x < 9223372036854775808 then x else x - 18446744073709551616) := by
    unfold yL
    rw [wrap64]
    unfold sw64
    repeat' split
    all_goals omega
  rw [hy]
  unfold lwO
  by_cases hr : -9223372036854775808 ≤ x ∧ x < 9223372036854775808
  · refine .inl ⟨decide_eq_true hr, ?_⟩
    repeat' split
    all_goals omega
  · refine .inr ⟨decide_eq_false hr, ?_⟩
    repeat' split
    all_goals omega
theorem low_bad {x : Int} (h : x.natAbs < 18446744073709551616) (h1 : (decide (x < 0) != decide (yL x < 0)) = true) : AV.t [PE 0, PB false] = .t [PE (lwV x), PB (lwO x)] := by
  rcases yL_ok h with ⟨a, b⟩ | ⟨a, b, c⟩
  · rw [b] at h1; simp at h1
  · unfold lwV; rw [a]; rfl
theorem low_good {x : Int} (h : x.natAbs < 18446744073709551616) (h1 : (decide (x < 0) != decide (yL x < 0)) = false) : AV.t [PE (yL x), PB true] = .t [PE (lwV x), PB (lwO x)] := by
  rcases yL_ok h with ⟨a, b⟩ | ⟨a, b, c⟩
  · unfold lwV; rw [a, b]; rfl
  · exfalso
    apply c
    rw [bne_eq_false_iff_eq] at h1
    exact decide_eq_decide.1 h1
theorem low_zero0 {x : Int} (h : x.natAbs < 18446744073709551616) (h1 : yL x = 0) : AV.t [PE (yL x), PB true] = .t [PE (lwV x), PB (lwO x)] := by
  rcases yL_ok h with ⟨a, b⟩ | ⟨a, b, c⟩
  · unfold lwV; rw [a, b]; rfl
  · exact absurd h1 b
end Go.AM
end
