import Derived.Test.YthaiejfjnllglaaGreatDoorCBC
import Derived.ChangeKeysEq
import Derived.Laws.StructEq
import Derived.Shelf.SlSortCmp.NoneTotal
set_option maxRecDepth 100000
set_option maxHeartbeats 2000000
namespace Go.AM
section
open Go Go.RowKit
theorem nS {c : Int} : ∀ (f : Nat) (p n : Int), 3 ≤ p → p % 2 = 1 → 1 ≤ n → n % 2 = 1 → c ∈ gGo f p n → 3 ≤ c ∧ c % 2 = 1 ∧ c ∣ n
 | 0, _, _, _, _, _, _, h => by simp [gGo] at h
 | f + 1, p, n, hp, hpo, hn, ho, h => by
  unfold gGo at h
  split at h
  ·split at h
   ·next e =>
    obtain ⟨r1, r2, r3, k, r4⟩ := fJ (p := p) (by omega) n.toNat n (Nat.le_refl _) (by omega)
    rcases List.mem_cons.1 h with h | h
    ·subst h; exact ⟨hp, hpo, Int.dvd_of_emod_eq_zero e⟩
    obtain ⟨g1, g2, g3⟩ := nS f (p + 2) (rmp n p) (by omega) (by omega) (by omega) (nA hp (by omega) ho) h
    exact ⟨g1, g2, Int.dvd_trans g3 ⟨_, r4⟩⟩
   exact nS f (p + 2) n (by omega) (by omega) hn ho h
  split at h
  ·next e =>
   rw [List.mem_singleton] at h; subst h
   exact ⟨by omega, ho, Int.dvd_refl _⟩
  simp at h
theorem qI {d c : Int} (h0 : d < 0) (h : c ∈ jI (rmp (-d) 2)) : 3 ≤ c ∧ c % 2 = 1 ∧ c ∣ d := by
 obtain ⟨r1, r2, r3, k, r4⟩ := fJ (p := 2) (by omega) (-d).toNat (-d) (Nat.le_refl _) (by omega)
 obtain ⟨g1, g2, g3⟩ := nS 1200 3 (rmp (-d) 2) (by omega) (by omega) (by omega) (by omega) h
 refine ⟨g1, g2, ?_⟩
 have : c ∣ -d := Int.dvd_trans g3 ⟨_, r4⟩
 exact Int.dvd_neg.1 this
theorem sQ {d c : Int} (h : c ∈ spC d) : d % 4 = 0 ∧ ((c = -4 ∧ ((-d / 4) % 8 = 0 ∨ (-d / 4) % 8 = 1 ∨ (-d / 4) % 8 = 4 ∨ (-d / 4) % 8 = 5)) ∨ (c = 8 ∧ ((-d / 4) % 8 = 0 ∨ (-d / 4) % 8 = 6)) ∨ (c = -8 ∧ (-d / 4) % 8 = 2)) := by
 unfold spC at h
 split at h
 ·simp at h
 next h4 =>
 refine ⟨Classical.not_not.1 h4, ?_⟩
 split at h
 ·next e => simp only [List.mem_cons, List.not_mem_nil, or_false] at h; rcases h with rfl | rfl <;> simp [e]
 split at h
 ·next e => simp only [List.mem_cons, List.not_mem_nil, or_false] at h; subst h; left; exact ⟨rfl, .inr e⟩
 split at h
 ·next e => simp only [List.mem_cons, List.not_mem_nil, or_false] at h; subst h; right; right; exact ⟨rfl, e⟩
 split at h
 ·next e => simp only [List.mem_cons, List.not_mem_nil, or_false] at h; subst h; right; left; exact ⟨rfl, .inr e⟩
 simp at h
def spv (c r : Int) : Int := sgB (nP (spR c) r)
theorem gX {c n : Int} (h : c = -4 ∨ c = 8 ∨ c = -8) : cv c n = spv c (n % 8) := (Aq h).symm
theorem lO (n : Int) : ∃ r : Fin 8, n % 8 = (r.val : Int) := ⟨⟨(n % 8).toNat, by omega⟩, by show n % 8 = (((n % 8).toNat : Nat) : Int); omega⟩
theorem Dj (a b c x1 y1 x2 y2 : Int) : 4 * (vl a b c x1 y1 * vl a b c x2 y2) = (2 * a * x1 * x2 + b * (x1 * y2 + x2 * y1) + 2 * c * y1 * y2) * (2 * a * x1 * x2 + b * (x1 * y2 + x2 * y1) + 2 * c * y1 * y2) - (b * b - 4 * a * c) * ((x1 * y2 - x2 * y1) * (x1 * y2 - x2 * y1)) := by
 unfold vl; grind
theorem tB {N d : Int} (h : Int.gcd N (2 * d) = 1) : N % 2 = 1 := by
 have h1 : Cop N (2 * d) := h
 have h2 : Cop (2 * d) N := h1.symm
 have h3 : Cop 2 N := h2.left
 have h4 : Cop N 2 := h3.symm
 rcases (show N % 2 = 0 ∨ N % 2 = 1 by omega) with g | g
 ·exfalso
  have hd : (2 : Int) ∣ N := Int.dvd_of_emod_eq_zero g
  have h5 : Int.gcd N 2 = 1 := h4
  have h6 := Int.dvd_gcd hd (Int.dvd_refl 2)
  rw [h5] at h6
  exact absurd h6 (by decide)
 exact g
theorem tC {N d c : Int} (h : Int.gcd N (2 * d) = 1) (hc : c ∣ d) : Cop N c := by
 obtain ⟨k, hk⟩ := hc
 have h1 : Cop N (2 * d) := h
 have h2 : Cop (2 * d) N := h1.symm
 have h3 : Cop d N := h2.right
 rw [hk] at h3
 exact h3.left.symm
theorem Al {N c : Int} (hc : 0 < c) (ho : c % 2 = 1) (h : Cop N c) : kr N c = 1 ∨ kr N c = -1 := by
 rw [gR hc ho, if_pos h]; exact AB N
theorem D8 : ∀ (r s u v m : Fin 8), r.val % 2 = 1 → s.val % 2 = 1 → (r.val * s.val % 8 = (u.val * u.val + m.val * (v.val * v.val)) % 8) →
  ((m.val = 0 ∨ m.val = 1 ∨ m.val = 4 ∨ m.val = 5) → spv (-4) r.val = spv (-4) s.val) ∧ ((m.val = 0 ∨ m.val = 6) → spv 8 r.val = spv 8 s.val) ∧ (m.val = 2 → spv (-8) r.val = spv (-8) s.val) := by decide +kernel
theorem FP {d : Int} {g : Fm} {c M N : Int} (hd : d < 0) (hg : dsc g.a g.b g.c = d) (hM : RpN g M) (hN : RpN g N) (cM : Int.gcd M (2 * d) = 1) (cN : Int.gcd N (2 * d) = 1) (hc : c ∈ chs d) : cv c M = cv c N := by
 obtain ⟨x1, y1, rfl⟩ := hM
 obtain ⟨x2, y2, rfl⟩ := hN
 have oM := tB cM
 have oN := tB cN
 have two := Dj g.a g.b g.c x1 y1 x2 y2
 have hdd : g.b * g.b - 4 * g.a * g.c = d := hg
 rw [hdd] at two
 unfold chs at hc
 rcases List.mem_append.1 hc with h | h
 ·obtain ⟨c3, co, cd⟩ := qI hd h
  have cpM := tC cM cd
  have cpN := tC cN cd
  generalize vl g.a g.b g.c x1 y1 = M at *
  generalize vl g.a g.b g.c x2 y2 = N at *
  generalize (2 * g.a * x1 * x2 + g.b * (x1 * y2 + x2 * y1) + 2 * g.c * y1 * y2) = U at two
  generalize (x1 * y2 - x2 * y1) * (x1 * y2 - x2 * y1) = V at two
  have hUU : c ∣ U * U - 4 * (M * N) := by
   have e : U * U - 4 * (M * N) = d * V := by omega
   rw [e]; exact Int.dvd_trans cd ⟨V, rfl⟩
  have c2 : Cop 2 c := jY co
  have c4 : Cop (2 * 2) c := c2.mul c2
  have c4MN : Cop (4 * (M * N)) c := c4.mul (cpM.mul cpN)
  have cUU : Cop (U * U) c := eY (n := c) (a := 4 * (M * N)) (b := U * U) (by
   have e : 4 * (M * N) - U * U = -(U * U - 4 * (M * N)) := by omega
   rw [e]; exact Int.dvd_neg.2 hUU) c4MN
  have k1 : kr (U * U) c = 1 := wo (by omega) co cUU.left
  have k2 : kr (U * U) c = kr (4 * (M * N)) c := wq (by omega) co hUU
  have k3 : kr (4 * (M * N)) c = kr (2 * 2) c * (kr M c * kr N c) := by
   rw [show 4 * (M * N) = 2 * 2 * (M * N) from rfl, cK (a := 2 * 2) (b := M * N) (by omega) co, cK (a := M) (b := N) (by omega) co]
  have k4 : kr (2 * 2) c = 1 := wo (by omega) co c2
  rw [← rD (by omega), ← rD (by omega)]
  rw [k1, k3, k4, Int.one_mul] at k2
  rcases Al (by omega) co cpM with e1 | e1 <;> rcases Al (by omega) co cpN with e2 | e2 <;> rw [e1, e2] at k2 <;> rw [e1, e2] <;> omega
 obtain ⟨h4, hs⟩ := sQ h
 have hb : g.b % 2 = 0 := by
  rcases (show g.b % 2 = 0 ∨ g.b % 2 = 1 by omega) with q | q
  ·exact q
  exfalso
  obtain ⟨t, ht⟩ : ∃ t, g.b = 2 * t + 1 := ⟨g.b / 2, by omega⟩
  have e1 : g.b * g.b = 4 * (t * t + t) + 1 := by rw [ht]; grind
  rw [Int.mul_assoc] at hdd
  omega
 obtain ⟨t, ht⟩ : ∃ t, g.b = 2 * t := ⟨g.b / 2, by omega⟩
 obtain ⟨m, hm⟩ : ∃ m, d = -(4 * m) := ⟨-d / 4, by omega⟩
 have em : -d / 4 = m := by omega
 rw [em] at hs
 have eU : 2 * g.a * x1 * x2 + g.b * (x1 * y2 + x2 * y1) + 2 * g.c * y1 * y2 = 2 * (g.a * x1 * x2 + t * (x1 * y2 + x2 * y1) + g.c * y1 * y2) := by rw [ht]; grind
 rw [eU] at two
 generalize vl g.a g.b g.c x1 y1 = M at *
 generalize vl g.a g.b g.c x2 y2 = N at *
 generalize g.a * x1 * x2 + t * (x1 * y2 + x2 * y1) + g.c * y1 * y2 = U at two
 generalize x1 * y2 - x2 * y1 = V at two
 have eMN : M * N = U * U + m * (V * V) := by
  have e1 : 2 * U * (2 * U) = 4 * (U * U) := by grind
  have e2 : d * (V * V) = -(4 * (m * (V * V))) := by rw [hm]; grind
  omega
 obtain ⟨r, er⟩ := lO M
 obtain ⟨s, es⟩ := lO N
 obtain ⟨u, eu⟩ := lO U
 obtain ⟨v, ev⟩ := lO V
 obtain ⟨q, eq⟩ := lO m
 have key : ((r.val * s.val : Nat) : Int) % 8 = ((u.val * u.val + q.val * (v.val * v.val) : Nat) : Int) % 8 := by
  have h1 : (M * N) % 8 = ((r.val * s.val : Nat) : Int) % 8 := by rw [Int.mul_emod, er, es, Int.natCast_mul]
  have h2 : (U * U + m * (V * V)) % 8 = ((u.val * u.val + q.val * (v.val * v.val) : Nat) : Int) % 8 := by
   obtain ⟨U', hU⟩ : ∃ k, U = 8 * k + (u.val : Int) := ⟨U / 8, by omega⟩
   obtain ⟨V', hV⟩ : ∃ k, V = 8 * k + (v.val : Int) := ⟨V / 8, by omega⟩
   obtain ⟨m', hm'⟩ : ∃ k, m = 8 * k + (q.val : Int) := ⟨m / 8, by omega⟩
   simp only [Int.natCast_add, Int.natCast_mul]
   generalize (u.val : Int) = u' at hU ⊢
   generalize (v.val : Int) = v' at hV ⊢
   generalize (q.val : Int) = q' at hm' ⊢
   have e : U * U + m * (V * V) = 8 * (8 * U' * U' + 2 * U' * u' + m' * (V * V) + q' * (8 * V' * V' + 2 * V' * v')) + (u' * u' + q' * (v' * v')) := by rw [hU, hm', hV]; grind
   rw [e]
   generalize 8 * U' * U' + 2 * U' * u' + m' * (V * V) + q' * (8 * V' * V' + 2 * V' * v') = K
   generalize u' * u' + q' * (v' * v') = R
   omega
  rw [← h1, eMN, h2]
 have key2 : r.val * s.val % 8 = (u.val * u.val + q.val * (v.val * v.val)) % 8 := by omega
 have k := D8 r s u v q (by omega) (by omega) key2
 rw [eq] at hs
 rcases hs with ⟨rfl, h5⟩ | ⟨rfl, h5⟩ | ⟨rfl, h5⟩
 ·rw [gX (by simp), gX (by simp), er, es]; exact k.1 (by omega)
 ·rw [gX (by simp), gX (by simp), er, es]; exact k.2.1 (by omega)
 rw [gX (by simp), gX (by simp), er, es]; exact k.2.2 (by omega)
end
section
open Go Go.RowKit
section
variable {f : Fm}
theorem I5 (h : ¬ ck f.a f.b f.c = 0) : AV.t [PE 0, PE (ck f.a f.b f.c)] = .t [PE (gpV f), PE (gpE f)] := by
 have e : gpE f = ck f.a f.b f.c := by unfold gpE; rw [if_pos h]
 unfold gpV; rw [e, if_neg h]
theorem I4 (h : ck f.a f.b f.c = 0) (h1 : szE (dsc f.a f.b f.c) = 0) (h2 : prim f.a f.b f.c = false) : AV.t [PE 0, PE 80] = .t [PE (gpV f), PE (gpE f)] := by
 have e : gpE f = 80 := by unfold gpE; rw [if_neg (fun x => x h), if_neg (fun x => x h1), if_neg (by rw [h2]; decide)]
 unfold gpV; rw [e]; rfl
theorem I3 (h : ck f.a f.b f.c = 0) (h1 : szE (dsc f.a f.b f.c) = 0) (h2 : prim f.a f.b f.c = true) : AV.t [PE (gnV (dsc f.a f.b f.c)), PE (szE (dsc f.a f.b f.c))] = .t [PE (gpV f), PE (gpE f)] := by
 have e : gpE f = 0 := by unfold gpE; rw [if_neg (fun x => x h), if_neg (fun x => x h1), if_pos h2]
 unfold gpV gnV; rw [e, h1]
theorem I2 (h : ck f.a f.b f.c = 0) (h1 : ¬ szE (dsc f.a f.b f.c) = 0) : AV.t [PE (gnV (dsc f.a f.b f.c)), PE (szE (dsc f.a f.b f.c))] = .t [PE (gpV f), PE (gpE f)] := by
 have e : gpE f = szE (dsc f.a f.b f.c) := by unfold gpE; rw [if_neg (fun x => x h), if_pos h1]
 unfold gpV gnV; rw [e, if_neg h1]
end
def gN (f : Fm) (d : Int) : Int := (f.rd.app (cpM f.rd (2 * d))).a
theorem HT {d : Int} {f : Fm} (hf : Cl d f) (hd : -4194304 ≤ d) (h0 : d < 0) : RpN f.rd (gN f d) ∧ Int.gcd (gN f d) (2 * d) = 1 := by
 have hp := hf.rd.prim
 have h1 := (H1 (f := f.rd) (a := 2 * d) hp (by omega) (by omega)).1
 exact ⟨⟨_, _, rfl⟩, (FQ h1).2⟩
def gvL (f : Fm) : List Int := if gpE f = 0 then (chs (dsc f.a f.b f.c)).map (fun c => cv c (gN f (dsc f.a f.b f.c))) else []
theorem Fj {d N : Int} {f : Fm} (hf : Cl d f) (hd : -4194304 ≤ d) (h0 : d < 0) (hE : szE d = 0) (hN : RpN f.rd N) (cN : Int.gcd N (2 * d) = 1) : (chs d).map (fun c => cv c N) = gvL f := by
 unfold gvL
 rw [if_pos (rS hf hd hE), hf.disc]
 have hg := HT hf hd h0
 exact List.map_congr_left fun c hc => FP h0 hf.rd.disc hN hg.1 cN hg.2 hc
theorem G0 {d N : Int} {g : Fm} (hg : Cl d g) (hN : RpN g N) (h0 : d < 0) : 0 ≤ N := by
 obtain ⟨x, y, rfl⟩ := hN
 have ha := hg.pos.1
 have hd : g.b * g.b - 4 * g.a * g.c = d := hg.disc
 have e : 4 * g.a * vl g.a g.b g.c x y = (2 * g.a * x + g.b * y) * (2 * g.a * x + g.b * y) - d * (y * y) := by rw [← hd]; unfold vl; grind
 have h1 := cG (2 * g.a * x + g.b * y)
 have h2 := Int.mul_nonneg (show 0 ≤ -d by omega) (cG y)
 rw [Int.neg_mul] at h2
 rcases Int.lt_or_le (vl g.a g.b g.c x y) 0 with q | q
 ·have h3 : 4 * g.a * vl g.a g.b g.c x y < 0 := Int.mul_neg_of_pos_of_neg (by omega) q
  omega
 exact q
theorem uY {d c : Int} (h0 : d < 0) (hd : -4194304 ≤ d) (h : c ∈ chs d) : -8 ≤ c ∧ c ≤ 4194304 := by
 unfold chs at h
 rcases List.mem_append.1 h with h | h
 ·obtain ⟨h1, h2, h3⟩ := qI h0 h
  have h4 : c ∣ -d := Int.dvd_neg.2 h3
  have := Int.le_of_dvd (by omega) h4
  omega
 rcases (sQ h).2 with ⟨rfl, _⟩ | ⟨rfl, _⟩ | ⟨rfl, _⟩ <;> omega
section
variable {P : Program}
variable {dst : Option Nat} {ty : TypeId} {pos : String} {af : Array Edge} {gd : Option (Nat × Bool)} {d : Nat} {ρ : Operand → AV} {own : Own}
theorem Eff.callCh {fo fs : FuncId} {c0 N : Int} {c x : Operand} {tys : Array TypeId} (hx : ρ c = .p (.c (chF fo fs c0))) (hN : ρ x = .p (.c (.v (.int .i64 N))))
  (h1 : aF P fs [.p (.c (.v (.int .i64 N))), .ip [IS (spR c0)]] (.p (.c (.v (.int .i64 (sgB (nP (spR c0) (N % 8)))))))) (h2 : aF P fo [.p (.c (.v (.int .i64 N))), .ip [IC c0]] (.p (.c (.v (.int .i64 (kr N c0)))))) :
  Eff P ⟨dst, .call ⟨.value c, #[x], tys⟩, ty, pos, af, gd⟩ d ρ own (.p (.c (.v (.int .i64 (cv c0 N))))) [] none [] := by
 by_cases h : c0 = -4 ∨ c0 = 8 ∨ c0 = -8
 ·rw [← Aq h]
  have e : chF fo fs c0 = .fn fs ([[IS (spR c0)]].map .ip) := by unfold chF; rw [if_pos h]; rfl
  rw [e] at hx
  exact Eff.callD hx (by simpa [hN] using h1)
 rw [← rD h]
 have e : chF fo fs c0 = .fn fo ([[IC c0]].map .ip) := by unfold chF; rw [if_neg h]; rfl
 rw [e] at hx
 exact Eff.callD hx (by simpa [hN] using h2)
end
theorem yr {l : List Int} {k : Nat} {N : Int} (h : (k : Int) < l.length) : (l.take k).map (fun c => cv c N) ++ [cv (l.getD k 0) N] = (l.take (k + 1)).map (fun c => cv c N) := by
 rw [← oj h, List.map_append]; rfl
theorem gg1 {n d : Int} (h : ((gg n (2 * d)).natAbs : Int) = 1) : Int.gcd n (2 * d) = 1 := by rw [← mZ]; omega
theorem Fu {n d : Int} (h : ((gg n (2 * d)).natAbs : Int) ≠ 1) : Int.gcd n (2 * d) ≠ 1 := by rw [← mZ]; omega
theorem Gy (a b c x y : Int) : a * y * y + b * x * y + c * x * x = vl a b c y x := by unfold vl; grind
theorem HQ {f : Fm} (h : ¬ gpE f = 0) : gvL f = [] := by unfold gvL; rw [if_neg h]
theorem Ft {n d : Int} (h0 : d < 0) (hd : -4194304 ≤ d) : -9223372036854775808 < gg n (2 * d) ∧ gg n (2 * d) ≤ 9223372036854775807 := by
 have h1 := mZ n (2 * d)
 have h2 : Int.gcd n (2 * d) ≤ (2 * d).natAbs := Nat.le_of_dvd (by omega) (Nat.gcd_dvd_right _ _)
 omega
theorem oY {l : List Int} {k : Nat} (h : (k : Int) < l.length) : l.getD k 0 ∈ l := by
 have hk : k < l.length := by omega
 have e : l.getD k 0 = l[k] := by simp [List.getD, hk]
 rw [e]; exact List.getElem_mem hk
end
section
open Go Go.RowKit
section
end
section
end
end
section
open Go Go.RowKit
section
end
section
end
end
section
open Go Go.RowKit
section
end
section
end
end
section
open Go Go.RowKit
end
section
open Go Go.RowKit
theorem sM (D : Nat) : szE (-szz D) = 0 := by
 have h := iW D
 unfold szE
 rw [if_neg (by omega), if_neg (by omega)]
end
section
open Go Go.RowKit
section
variable {D : Int} {f g h : Fm}
structure Whole (D : Int) (l : List Fm) : Prop where
 nd : l.Nodup
 mem : ∀ f, f ∈ l ↔ Cl D f ∧ f.rd = f
theorem Whole.rd {l : List Fm} (w : Whole D l) (hf : Cl D f) : f.rd ∈ l := (w.mem _).2 ⟨hf.rd, hf.rd_rd⟩
theorem qM {α : Type} [DecidableEq α] : ∀ {l m : List α}, l.Nodup → (∀ x ∈ l, x ∈ m) → l.length ≤ m.length
 | [], m, _, _ => Nat.zero_le _
 | x :: l, m, hn, hs => by
  rw [List.nodup_cons] at hn
  have hx := hs x (List.mem_cons_self ..)
  have h1 : l.length ≤ (m.erase x).length := qM hn.2 (fun y hy => by
   have hne : y ≠ x := fun e => hn.1 (e ▸ hy)
   exact (List.mem_erase_of_ne hne).2 (hs y (List.mem_cons_of_mem _ hy)))
  have h2 := List.length_erase_of_mem hx
  have h3 := List.length_pos_of_mem hx
  rw [List.length_cons]; omega
end
end
section
open Go Go.RowKit
theorem oP {n a b : Int} : ∀ {k : Nat} {c : Int}, c ≤ b → b < c + k → okF n a b = true → (⟨a, b, (b * b + n) / (4 * a)⟩ : Fm) ∈ iI n a k c
 | 0, c, h1, h2, _ => by omega
 | k + 1, c, h1, h2, h3 => by
  unfold iI
  rw [List.mem_append]
  rcases Int.lt_or_eq_of_le h1 with g | g
  ·exact .inr (oP (by omega) (by omega) h3)
  subst g
  rw [if_pos h3]
  exact .inl (List.mem_singleton.2 rfl)
theorem oQ {n a b : Int} (hb : -a ≤ b ∧ b ≤ a) (hs : 3 * a * a ≤ n) (hk : okF n a b = true) : ∀ {k : Nat} {c : Int}, 1 ≤ c → c ≤ a → a < c + k → (⟨a, b, (b * b + n) / (4 * a)⟩ : Fm) ∈ fA n k c
 | 0, c, _, h1, h2 => by omega
 | k + 1, c, h0, h1, h2 => by
  have hc : 3 * c * c ≤ n := by
   have : c * c ≤ a * a := Int.mul_le_mul h1 h1 (by omega) (by omega)
   have e1 : 3 * c * c = 3 * (c * c) := Int.mul_assoc ..
   have e2 : 3 * a * a = 3 * (a * a) := Int.mul_assoc ..
   omega
  unfold fA
  rw [if_pos hc, List.mem_append]
  rcases Int.lt_or_eq_of_le h1 with g | g
  ·exact .inr (oQ hb hs hk (by omega) (by omega) (by omega))
  subst g
  exact .inl (oP hb.1 (by omega) hk)
theorem l4 {n a : Int} : ∀ (k : Nat) (b : Int), (iI n a k b).Nodup
 | 0, _ => List.Pairwise.nil
 | k + 1, b => by
  unfold iI
  have ih := l4 k (b + 1) (n := n) (a := a)
  split
  ·rw [List.singleton_append, List.nodup_cons]
   refine ⟨fun hm => ?_, ih⟩
   obtain ⟨b', h1, _, _, h4⟩ := gU hm
   have := congrArg Fm.b h4
   simp only at this
   omega
  exact ih
theorem l5 {n : Int} : ∀ (k : Nat) (a : Int), 1 ≤ a → (fA n k a).Nodup
 | 0, _, _ => List.Pairwise.nil
 | k + 1, a, ha => by
  unfold fA
  split
  ·rw [List.nodup_append]
   refine ⟨l4 _ _, l5 k (a + 1) (by omega), fun x hx y hy e => ?_⟩
   subst e
   obtain ⟨b', _, _, _, h4⟩ := gU hx
   have h5 : ∀ {k : Nat} {c : Int}, 1 ≤ c → x ∈ fA n k c → c ≤ x.a := by
    intro k
    induction k with
    | zero => intro c _ h; simp [fA] at h
    | succ k ih =>
     intro c hc h
     unfold fA at h
     split at h
     ·rw [List.mem_append] at h
      rcases h with h | h
      ·obtain ⟨_, _, _, _, h6⟩ := gU h
       rw [h6]; exact Int.le_refl _
      have := ih (by omega) h; omega
     simp at h
   have h6 := h5 (by omega) hy
   rw [h4] at h6
   simp only at h6
   omega
  exact List.Pairwise.nil
theorem wi (n : Int) : (lst n).Nodup := l5 100 1 (by omega)
theorem HZ {a b c n : Int} (ha : 0 < a) (h : dsc a b c = -n) : (b * b + n) % (4 * a) = 0 ∧ (b * b + n) / (4 * a) = c := by
 unfold dsc at h
 have e : b * b + n = 4 * a * c := by omega
 rw [e]
 exact ⟨Int.mul_emod_right .., Int.mul_ediv_cancel_left _ (by omega)⟩
theorem Rd.sq3 {f : Fm} {n : Int} (h : Rd f) (hd : dsc f.a f.b f.c = -n) : 3 * f.a * f.a ≤ n := by
 have h1 := h.a
 have h2 := h.b
 have h3 := h.c
 unfold dsc at hd
 have e1 : 4 * f.a * f.c = 4 * (f.a * f.c) := Int.mul_assoc ..
 have e2 : 3 * f.a * f.a = 3 * (f.a * f.a) := Int.mul_assoc ..
 have h4 : f.a * f.a ≤ f.a * f.c := Int.mul_le_mul_of_nonneg_left h3 (by omega)
 have h5 : f.b * f.b ≤ f.a * f.a := eW (by omega)
 omega
theorem wg {n : Int} (hn : n ≤ 20000) : Whole (-n) (lst n) := by
 refine ⟨wi n, fun f => ⟨fun hm => ?_, fun h => ?_⟩⟩
 ·obtain ⟨h1, h2, h3, h4, h5, h6, h7⟩ := Cn hm
  have hp : f.pos := ⟨by omega, by show dsc _ _ _ < 0; have h8 : 1 * 1 ≤ f.a * f.a := Int.mul_le_mul h1 h1 (by omega) (by omega); have e : 3 * f.a * f.a = 3 * (f.a * f.a) := Int.mul_assoc ..; omega⟩
  exact ⟨⟨hp, h7, h5⟩, qi (Rd.of (by omega) h6) hp⟩
 have hr : Rd f := h.2 ▸ h.1.rd_Rd
 have hd := h.1.disc
 have ha := hr.a
 have hb := hr.b
 obtain ⟨e1, e2⟩ := HZ ha hd
 have hs := hr.sq3 hd
 have hk : okF n f.a f.b = true := by
  rw [EO e1, e2, h.1.prim, Bool.and_true]
  exact (nC h.1.pos).2 ⟨hr.b, hr.c, hr.s⟩
 have ha2 : f.a ≤ 100 := by
  rcases Int.lt_or_le 100 f.a with g | g
  ·have h3 : (101 : Int) * 101 ≤ f.a * f.a := Int.mul_le_mul (by omega) (by omega) (by omega) (by omega)
   have e : 3 * f.a * f.a = 3 * (f.a * f.a) := Int.mul_assoc ..
   omega
  exact g
 have hm := oQ (n := n) (a := f.a) (b := f.b) (by omega) hs hk (k := 100) (c := 1) (by omega) (by omega) (by omega)
 rw [e2] at hm
 exact hm
end
section
open Go Go.RowKit
section
end
end
section
open Go Go.RowKit
theorem EZ : ∀ k : Fin 50, (lst (4 * (0 + k.val) + 3)).length ≤ 199 ∧ (lst (4 * (0 + k.val) + 4)).length ≤ 199 := by decide +kernel
theorem Ck : ∀ k : Fin 50, (lst (4 * (50 + k.val) + 3)).length ≤ 199 ∧ (lst (4 * (50 + k.val) + 4)).length ≤ 199 := by decide +kernel
theorem yB : ∀ k : Fin 50, (lst (4 * (100 + k.val) + 3)).length ≤ 199 ∧ (lst (4 * (100 + k.val) + 4)).length ≤ 199 := by decide +kernel
theorem yA : ∀ k : Fin 50, (lst (4 * (150 + k.val) + 3)).length ≤ 199 ∧ (lst (4 * (150 + k.val) + 4)).length ≤ 199 := by decide +kernel
theorem yz : ∀ k : Fin 50, (lst (4 * (200 + k.val) + 3)).length ≤ 199 ∧ (lst (4 * (200 + k.val) + 4)).length ≤ 199 := by decide +kernel
theorem yy : ∀ k : Fin 50, (lst (4 * (250 + k.val) + 3)).length ≤ 199 ∧ (lst (4 * (250 + k.val) + 4)).length ≤ 199 := by decide +kernel
theorem yx : ∀ k : Fin 50, (lst (4 * (300 + k.val) + 3)).length ≤ 199 ∧ (lst (4 * (300 + k.val) + 4)).length ≤ 199 := by decide +kernel
theorem yw : ∀ k : Fin 50, (lst (4 * (350 + k.val) + 3)).length ≤ 199 ∧ (lst (4 * (350 + k.val) + 4)).length ≤ 199 := by decide +kernel
theorem yv : ∀ k : Fin 50, (lst (4 * (400 + k.val) + 3)).length ≤ 199 ∧ (lst (4 * (400 + k.val) + 4)).length ≤ 199 := by decide +kernel
theorem yu : ∀ k : Fin 50, (lst (4 * (450 + k.val) + 3)).length ≤ 199 ∧ (lst (4 * (450 + k.val) + 4)).length ≤ 199 := by decide +kernel
theorem yt : ∀ k : Fin 1, (lst (4 * (500 + k.val) + 3)).length ≤ 199 ∧ (lst (4 * (500 + k.val) + 4)).length ≤ 199 := by decide +kernel
theorem Co {n : Int} (h1 : 3 ≤ n) (h2 : n ≤ 2003) (h : n % 4 = 0 ∨ n % 4 = 3) : (lst n).length ≤ 199 := by
 have key : ∀ k : Nat, k < 501 → (lst (4 * (k : Int) + 3)).length ≤ 199 ∧ (lst (4 * (k : Int) + 4)).length ≤ 199 := by
  intro k hk
  by_cases c0 : k < 50
  ·have h := EZ ⟨k - 0, by omega⟩
   have e : (0 : Int) + ((k - 0 : Nat) : Int) = (k : Int) := by omega
   rw [e] at h; exact h
  by_cases c50 : k < 100
  ·have h := Ck ⟨k - 50, by omega⟩
   have e : (50 : Int) + ((k - 50 : Nat) : Int) = (k : Int) := by omega
   rw [e] at h; exact h
  by_cases c100 : k < 150
  ·have h := yB ⟨k - 100, by omega⟩
   have e : (100 : Int) + ((k - 100 : Nat) : Int) = (k : Int) := by omega
   rw [e] at h; exact h
  by_cases c150 : k < 200
  ·have h := yA ⟨k - 150, by omega⟩
   have e : (150 : Int) + ((k - 150 : Nat) : Int) = (k : Int) := by omega
   rw [e] at h; exact h
  by_cases c200 : k < 250
  ·have h := yz ⟨k - 200, by omega⟩
   have e : (200 : Int) + ((k - 200 : Nat) : Int) = (k : Int) := by omega
   rw [e] at h; exact h
  by_cases c250 : k < 300
  ·have h := yy ⟨k - 250, by omega⟩
   have e : (250 : Int) + ((k - 250 : Nat) : Int) = (k : Int) := by omega
   rw [e] at h; exact h
  by_cases c300 : k < 350
  ·have h := yx ⟨k - 300, by omega⟩
   have e : (300 : Int) + ((k - 300 : Nat) : Int) = (k : Int) := by omega
   rw [e] at h; exact h
  by_cases c350 : k < 400
  ·have h := yw ⟨k - 350, by omega⟩
   have e : (350 : Int) + ((k - 350 : Nat) : Int) = (k : Int) := by omega
   rw [e] at h; exact h
  by_cases c400 : k < 450
  ·have h := yv ⟨k - 400, by omega⟩
   have e : (400 : Int) + ((k - 400 : Nat) : Int) = (k : Int) := by omega
   rw [e] at h; exact h
  by_cases c450 : k < 500
  ·have h := yu ⟨k - 450, by omega⟩
   have e : (450 : Int) + ((k - 450 : Nat) : Int) = (k : Int) := by omega
   rw [e] at h; exact h
  by_cases c500 : k < 501
  ·have h := yt ⟨k - 500, by omega⟩
   have e : (500 : Int) + ((k - 500 : Nat) : Int) = (k : Int) := by omega
   rw [e] at h; exact h
  omega
 obtain ⟨k, hk⟩ : ∃ k : Nat, n = 4 * (k : Int) + 3 ∨ n = 4 * (k : Int) + 4 := ⟨((n - 3) / 4).toNat, by omega⟩
 rcases hk with e | e
 ·rw [e]; exact (key k (by omega)).1
 rw [e]; exact (key k (by omega)).2
end
section
open Go Go.RowKit
end
section
open Go Go.RowKit
section
end
end
section
open Go Go.RowKit
end
section
open Go Go.RowKit
theorem xe {D : Int} {l : List Fm} (w : Whole D l) (hD : -1000000000000000000 ≤ D) : ∀ g ∈ l, L 6 g.a ∧ L 6 g.b ∧ L 6 g.c := fun g hg => Ej ((w.mem g).1 hg).1 ((w.mem g).1 hg).2 hD
section
end
end
section
open Go Go.RowKit
end
section
open Go Go.RowKit
section
end
end
section
open Go Go.RowKit
def frq (D n b : Int) : Fm := ⟨n, b, (b * b - D) / (4 * n)⟩
def isR (D n b : Int) : Bool := decide (b * b % (4 * n) = D % (4 * n)) && prim n b ((b * b - D) / (4 * n))
def rbL (D n : Int) : List Int := ((List.range (2 * n).toNat).map fun (i : Nat) => (i : Int)).filter (isR D n)
theorem rbL_mem {D n b : Int} : b ∈ rbL D n ↔ (0 ≤ b ∧ b < 2 * n) ∧ isR D n b = true := by
 unfold rbL
 rw [List.mem_filter, List.mem_map]
 constructor
 ·rintro ⟨⟨i, h1, rfl⟩, h2⟩
  rw [List.mem_range] at h1
  exact ⟨by omega, h2⟩
 rintro ⟨⟨h1, h2⟩, h3⟩
 exact ⟨⟨b.toNat, by rw [List.mem_range]; omega, by omega⟩, h3⟩
theorem Fi {D n b : Int} (h : isR D n b = true) : b * b - D = 4 * n * ((b * b - D) / (4 * n)) := by
 unfold isR at h
 rw [Bool.and_eq_true, decide_eq_true_iff] at h
 have h1 : (4 * n) ∣ (b * b - D) := Int.dvd_of_emod_eq_zero (Int.emod_eq_emod_iff_emod_sub_eq_zero.1 h.1)
 exact (Int.mul_ediv_cancel' h1).symm
theorem rq {D n b : Int} (hn : 0 < n) (hD : D < 0) (h : isR D n b = true) : Cl D (frq D n b) := by
 have e := Fi h
 unfold isR at h
 rw [Bool.and_eq_true] at h
 have hd : dsc n b ((b * b - D) / (4 * n)) = D := by
  unfold dsc
  generalize (b * b - D) / (4 * n) = c at *
  omega
 exact ⟨⟨hn, by show dsc _ _ _ < 0; rw [show dsc (frq D n b).a (frq D n b).b (frq D n b).c = D from hd]; exact hD⟩, h.2, hd⟩
theorem qf {D n b b' : Int} {f : Fm} {M N : Mt} (hn : 0 < n) (hb : 0 ≤ b ∧ b < 2 * n) (hb' : 0 ≤ b' ∧ b' < 2 * n) (hM : M.det = 1) (hN : N.det = 1) (ea : M.a = N.a) (ec : M.c = N.c)
  (eM : f.app M = frq D n b) (eN : f.app N = frq D n b') : M = N ∧ b = b' := by
 obtain ⟨a, p, c, q⟩ := M
 obtain ⟨a', p', c', q'⟩ := N
 simp only at ea ec
 subst ea; subst ec
 have h1 : a * q - p * c = 1 := hM
 have h2 : a * q' - p' * c = 1 := hN
 obtain ⟨k, hk⟩ : ∃ k, k = p' * q - p * q' := ⟨_, rfl⟩
 have hp : p' = p + a * k := by rw [hk]; grind
 have hq : q' = q + c * k := by rw [hk]; grind
 have eB : apB f.a f.b f.c a p c q = b := congrArg Fm.b eM
 have eB' : apB f.a f.b f.c a p' c q' = b' := congrArg Fm.b eN
 have eA : vl f.a f.b f.c a c = n := congrArg Fm.a eM
 have e3 : b' = b + 2 * n * k := by
  rw [← eB', ← eB, ← eA, hp, hq]; unfold apB vl; grind
 have hk0 : k = 0 := by
  have h5 : 2 * n * k < 2 * n := by omega
  have h6 : -(2 * n) < 2 * n * k := by omega
  rcases Int.lt_trichotomy k 0 with g | g | g
  ·have : 2 * n * k ≤ 2 * n * (-1) := Int.mul_le_mul_of_nonneg_left (by omega) (by omega)
   omega
  ·exact g
  have : 2 * n * 1 ≤ 2 * n * k := Int.mul_le_mul_of_nonneg_left (by omega) (by omega)
  omega
 rw [hk0] at hp hq e3
 refine ⟨?_, by omega⟩
 simp only [Mt.mk.injEq]
 exact ⟨trivial, by omega, trivial, by omega⟩
def auM (g : Fm) (t u : Int) : Mt := ⟨(t - g.b * u) / 2, -g.c * u, g.a * u, (t + g.b * u) / 2⟩
theorem F9 {D t u : Int} {g : Fm} (h : dsc g.a g.b g.c = D) (e : t * t - D * (u * u) = 4) : (t - g.b * u) % 2 = 0 := by
 have e1 : t * t - (g.b * u) * (g.b * u) = 4 - 4 * (g.a * g.c * (u * u)) := by
  have : D * (u * u) = (g.b * u) * (g.b * u) - 4 * (g.a * g.c * (u * u)) := by rw [← h]; unfold dsc; grind
  omega
 generalize g.b * u = s at *
 generalize g.a * g.c * (u * u) = r at *
 have ht : t % 2 = 0 ∨ t % 2 = 1 := by omega
 have hs : s % 2 = 0 ∨ s % 2 = 1 := by omega
 rcases ht with ht | ht <;> rcases hs with hs | hs
 ·omega
 ·obtain ⟨p, hp⟩ : ∃ p, t = 2 * p := ⟨t / 2, by omega⟩
  obtain ⟨q, hq⟩ : ∃ q, s = 2 * q + 1 := ⟨s / 2, by omega⟩
  have : t * t - s * s = 4 * (p * p) - 4 * (q * q + q) - 1 := by rw [hp, hq]; grind
  omega
 ·obtain ⟨p, hp⟩ : ∃ p, t = 2 * p + 1 := ⟨t / 2, by omega⟩
  obtain ⟨q, hq⟩ : ∃ q, s = 2 * q := ⟨s / 2, by omega⟩
  have : t * t - s * s = 4 * (p * p + p) + 1 - 4 * (q * q) := by rw [hp, hq]; grind
  omega
 omega
theorem lU {D t u : Int} {g : Fm} (h : dsc g.a g.b g.c = D) (e : t * t - D * (u * u) = 4) : ∃ p s, (auM g t u) = ⟨p, -g.c * u, g.a * u, s⟩ ∧ t = p + s ∧ g.b * u = s - p := by
 have h1 := F9 h e
 refine ⟨(t - g.b * u) / 2, (t + g.b * u) / 2, rfl, ?_, ?_⟩ <;> omega
theorem wY {D t u : Int} {g : Fm} (h : dsc g.a g.b g.c = D) (e : t * t - D * (u * u) = 4) : (auM g t u).det = 1 := by
 obtain ⟨p, s, e1, e2, e3⟩ := lU h e
 rw [e1]
 unfold dsc at h
 unfold Mt.det
 have e4 : (p + s) * (p + s) - (s - p) * (s - p) + 4 * (g.a * g.c) * (u * u) = 4 := by
  rw [← e2, ← e3]; grind
 have e5 : 4 * (p * s) + 4 * (g.a * g.c) * (u * u) = 4 := by grind
 show p * s - -g.c * u * (g.a * u) = 1
 have e6 : -g.c * u * (g.a * u) = -(g.a * g.c * (u * u)) := by grind
 rw [e6]
 have e7 : 4 * (g.a * g.c) * (u * u) = 4 * (g.a * g.c * (u * u)) := by grind
 omega
theorem Ga {D t u : Int} {g : Fm} (h : dsc g.a g.b g.c = D) (e : t * t - D * (u * u) = 4) : g.app (auM g t u) = g := by
 have hd := wY h e
 obtain ⟨p, s, e1, e2, e3⟩ := lU h e
 rw [e1] at hd ⊢
 have hd' : p * s + g.a * g.c * (u * u) = 1 := by unfold Mt.det at hd; grind
 obtain ⟨a, b, c⟩ := g
 simp only at *
 unfold Fm.app vl apB
 simp only [Fm.mk.injEq]
 have hb : s = p + b * u := by omega
 subst hb
 refine ⟨?_, ?_, ?_⟩ <;> grind
def unL (D : Int) : List (Int × Int) := if D = -3 then [(2, 0), (-2, 0), (1, 1), (1, -1), (-1, 1), (-1, -1)] else if D = -4 then [(2, 0), (-2, 0), (0, 1), (0, -1)] else [(2, 0), (-2, 0)]
theorem vw {u : Int} (h : u * u ≤ 1) : u = 0 ∨ u = 1 ∨ u = -1 := by
 rcases Int.lt_or_le u (-1) with g | g
 ·have : 2 * 2 ≤ -u * -u := Int.mul_le_mul (by omega) (by omega) (by omega) (by omega)
  have e : -u * -u = u * u := by grind
  omega
 rcases Int.lt_or_le 1 u with g' | g'
 ·have : 2 * 2 ≤ u * u := Int.mul_le_mul (by omega) (by omega) (by omega) (by omega)
  omega
 omega
theorem p6 {t : Int} (h : t * t ≤ 4) : -2 ≤ t ∧ t ≤ 2 := by
 constructor
 ·rcases Int.lt_or_le t (-2) with g | g
  ·have : 3 * 3 ≤ -t * -t := Int.mul_le_mul (by omega) (by omega) (by omega) (by omega)
   have e : -t * -t = t * t := by grind
   omega
  exact g
 rcases Int.lt_or_le 2 t with g | g
 ·have : 3 * 3 ≤ t * t := Int.mul_le_mul (by omega) (by omega) (by omega) (by omega)
  omega
 exact g
theorem z8 (t : Int) : 0 ≤ t * t := by
 rcases Int.lt_or_le t 0 with g | g
 ·exact Int.mul_nonneg_of_nonpos_of_nonpos (by omega) (by omega)
 exact Int.mul_nonneg g g
theorem nr {D : Int} (hD : D < 0) (h4 : D % 4 = 0 ∨ D % 4 = 1) {t u : Int} : (t, u) ∈ unL D ↔ t * t - D * (u * u) = 4 := by
 have ht := z8 t
 have hu := z8 u
 have two : t * t = 4 → t = 2 ∨ t = -2 := fun h => by
  have := p6 (t := t) (by omega)
  have : t = -2 ∨ t = -1 ∨ t = 0 ∨ t = 1 ∨ t = 2 := by omega
  rcases this with rfl | rfl | rfl | rfl | rfl <;> simp at h ⊢
 unfold unL
 by_cases h1 : D = -3
 ·subst h1
  rw [if_pos rfl]
  constructor
  ·intro h; simp at h
   rcases h with ⟨rfl, rfl⟩ | ⟨rfl, rfl⟩ | ⟨rfl, rfl⟩ | ⟨rfl, rfl⟩ | ⟨rfl, rfl⟩ | ⟨rfl, rfl⟩ <;> decide
  intro h
  have hu1 := vw (u := u) (by omega)
  have ht2 := p6 (t := t) (by omega)
  have : t = -2 ∨ t = -1 ∨ t = 0 ∨ t = 1 ∨ t = 2 := by omega
  rcases hu1 with rfl | rfl | rfl <;> rcases this with rfl | rfl | rfl | rfl | rfl <;> simp at h ⊢
 rw [if_neg h1]
 by_cases h2 : D = -4
 ·subst h2
  rw [if_pos rfl]
  constructor
  ·intro h; simp at h
   rcases h with ⟨rfl, rfl⟩ | ⟨rfl, rfl⟩ | ⟨rfl, rfl⟩ | ⟨rfl, rfl⟩ <;> decide
  intro h
  have hu1 := vw (u := u) (by omega)
  have ht2 := p6 (t := t) (by omega)
  have : t = -2 ∨ t = -1 ∨ t = 0 ∨ t = 1 ∨ t = 2 := by omega
  rcases hu1 with rfl | rfl | rfl <;> rcases this with rfl | rfl | rfl | rfl | rfl <;> simp at h ⊢
 rw [if_neg h2]
 constructor
 ·intro h; simp at h
  rcases h with ⟨rfl, rfl⟩ | ⟨rfl, rfl⟩ <;> simp
 intro h
 have hu0 : u * u = 0 := by
  rcases Int.lt_or_le 0 (u * u) with g | g
  ·have : -D * 1 ≤ -D * (u * u) := Int.mul_le_mul_of_nonneg_left (by omega) (by omega)
   have e : -D * (u * u) = -(D * (u * u)) := by grind
   omega
  omega
 have : u = 0 := by rcases Int.mul_eq_zero.1 hu0 with g | g <;> exact g
 subst this
 have := two (by omega)
 rcases this with rfl | rfl <;> simp
end
section
open Go Go.RowKit
def smf (f g : Fm) : Bool := smB f.a f.b f.c g.a g.b g.c
def smm (f g : Fm) : Mt := smM f.a f.b f.c g.a g.b g.c
def rJ (f : Fm) (D n b : Int) (p : Int × Int) : Mt := (smm f (frq D n b)).mul (auM (frq D n b) p.1 p.2)
def col (f : Fm) (D n b : Int) (p : Int × Int) : Int × Int := ((rJ f D n b p).a, (rJ f D n b p).c)
def prL (D n : Int) (f : Fm) : List (Int × Int) := (rbL D n).flatMap fun b => if smf f (frq D n b) = true then (unL D).map (col f D n b) else []
section
variable {D n : Int} {f : Fm}
theorem rR {D : Int} {f : Fm} (h : Cl D f) : D % 4 = 0 ∨ D % 4 = 1 := by
 have := h.disc
 unfold dsc at this
 rw [Int.mul_assoc] at this
 generalize f.a * f.c = t at *
 have hb : f.b % 2 = 0 ∨ f.b % 2 = 1 := by omega
 rcases hb with g | g
 ·obtain ⟨q, hq⟩ : ∃ q, f.b = 2 * q := ⟨f.b / 2, by omega⟩
  have e : f.b * f.b = 4 * (q * q) := by rw [hq]; grind
  omega
 obtain ⟨q, hq⟩ : ∃ q, f.b = 2 * q + 1 := ⟨f.b / 2, by omega⟩
 have e : f.b * f.b = 4 * (q * q + q) + 1 := by rw [hq]; grind
 omega
theorem lp {D : Int} {f : Fm} (h : Cl D f) : D < 0 := by have h1 : dsc f.a f.b f.c < 0 := h.pos.2; rw [h.disc] at h1; exact h1
theorem Bx {g : Fm} (hf : f.pos) (hg : g.pos) : smf f g = true ↔ f.rd = g.rd := by
 unfold smf smB
 rw [decide_eq_true_iff]
 exact ⟨fun h => h.2.2, fun h => ⟨iN hf, iN hg, h⟩⟩
theorem lQ (h : Cl D f) (hn : 0 < n) {b : Int} (hb : b ∈ rbL D n) (hs : smf f (frq D n b) = true) {p : Int × Int} (hp : p ∈ unL D) : (rJ f D n b p).det = 1 ∧ f.app (rJ f D n b p) = frq D n b := by
 have hg := rq hn (lp h) (rbL_mem.1 hb).2
 have hu := (nr (lp h) (rR h)).1 hp
 obtain ⟨s1, s2⟩ := vz h.pos hg.pos hs
 unfold rJ
 refine ⟨by rw [iQ, wY hg.disc hu]; rw [show (smm f (frq D n b)).det = 1 from s1]; rfl, ?_⟩
 rw [← fR, show f.app (smm f (frq D n b)) = frq D n b from s2]
 exact Ga hg.disc hu
theorem vH : (rbL D n).Nodup := by
 unfold rbL
 refine List.Pairwise.filter _ ?_
 refine List.pairwise_map.2 ?_
 refine List.Pairwise.imp (fun h e => h (by omega)) List.nodup_range
theorem vj : (unL D).Nodup := by
 unfold unL
 split
 ·decide
 split <;> decide
theorem vR (h : Cl D f) (hn : 0 < n) : (prL D n f).Nodup := by
 unfold prL
 refine List.pairwise_flatMap.2 ⟨fun b hb => ?_, ?_⟩
 ·split
  ·rename_i hs
   have hc := rq hn (lp h) (rbL_mem.1 hb).2
   have hb' := (rbL_mem.1 hb).1
   refine List.pairwise_map.2 (List.Pairwise.imp_of_mem (fun {p q} hp hq hne e => hne ?_) vj)
   obtain ⟨k1, k2⟩ := lQ h hn hb hs hp
   obtain ⟨l1, l2⟩ := lQ h hn hb hs hq
   have hm := (qf hn hb' hb' k1 l1 (congrArg Prod.fst e) (congrArg Prod.snd e) k2 l2).1
   obtain ⟨s1, s2⟩ := vz h.pos hc.pos hs
   have hA : auM (frq D n b) p.1 p.2 = auM (frq D n b) q.1 q.2 := by
    have inv : ∀ X : Mt, (smm f (frq D n b)).adj.mul ((smm f (frq D n b)).mul X) = X := fun X => by
     have h1 : (smm f (frq D n b)).a * (smm f (frq D n b)).d - (smm f (frq D n b)).b * (smm f (frq D n b)).c = 1 := s1
     generalize smm f (frq D n b) = S at h1
     unfold Mt.mul Mt.adj
     ext <;> simp only <;> grind
    rw [← inv (auM (frq D n b) p.1 p.2), ← inv (auM (frq D n b) q.1 q.2)]
    exact congrArg _ hm
   have hup := (nr (lp h) (rR h)).1 hp
   have huq := (nr (lp h) (rR h)).1 hq
   obtain ⟨p1, s1, e1, e2, e3⟩ := lU hc.disc hup
   obtain ⟨q1, s1', e1', e2', e3'⟩ := lU hc.disc huq
   rw [e1, e1'] at hA
   simp only [Mt.mk.injEq] at hA
   obtain ⟨g1, _, g3, g4⟩ := hA
   have hu : p.2 = q.2 := Int.eq_of_mul_eq_mul_left (show (frq D n b).a ≠ 0 by have := hc.pos.1; omega) g3
   exact Prod.ext (by omega) hu
  exact List.Pairwise.nil
 refine List.Pairwise.imp_of_mem (fun {b b'} hb hb' hne x hx y hy e => hne ?_) (vH (D := D) (n := n))
 subst e
 split at hx
 ·rename_i hs
  split at hy
  ·rename_i hs'
   obtain ⟨p, hp, e⟩ := List.mem_map.1 hx
   obtain ⟨q, hq, e'⟩ := List.mem_map.1 hy
   obtain ⟨k1, k2⟩ := lQ h hn hb hs hp
   obtain ⟨l1, l2⟩ := lQ h hn hb' hs' hq
   rw [← e'] at e
   exact (qf hn (rbL_mem.1 hb).1 (rbL_mem.1 hb').1 k1 l1 (congrArg Prod.fst e) (congrArg Prod.snd e) k2 l2).2
  cases hy
 cases hx
def unN (D : Int) : Nat := if D = -3 then 6 else if D = -4 then 4 else 2
theorem ns : (unL D).length = unN D := by
 unfold unL unN
 split
 ·rfl
 split <;> rfl
theorem tG {α β : Type} {w : Nat} (P : α → Bool) (L : α → List β) (hL : ∀ a, (L a).length = w) : ∀ l : List α, (l.flatMap fun a => if P a = true then L a else []).length = w * (l.filter P).length
 | [] => by simp
 | a :: l => by
  rw [List.flatMap_cons, List.length_append, tG P L hL l, List.filter_cons]
  by_cases h : P a = true
  ·rw [if_pos h, if_pos h, hL, List.length_cons, Nat.mul_succ, Nat.add_comm]
  rw [if_neg h, if_neg h, List.length_nil, Nat.zero_add]
theorem s8 : (prL D n f).length = unN D * ((rbL D n).filter fun b => smf f (frq D n b)).length := by
 unfold prL
 exact tG (fun b => smf f (frq D n b)) (fun b => (unL D).map (col f D n b)) (fun b => by rw [List.length_map, ns]) _
theorem wL {l : List Fm} (P : Fm → Bool) {g : Fm} (hn : l.Nodup) (hg : g ∈ l) (hP : ∀ f ∈ l, P f = true ↔ f = g) : (l.filter P).length = 1 := by
 induction l with
 | nil => cases hg
 | cons x l ih =>
  rw [List.filter_cons]
  have hx := List.nodup_cons.1 hn
  by_cases e : x = g
  ·subst e
   rw [if_pos ((hP x (by simp)).2 rfl), List.length_cons]
   have : l.filter P = [] := List.filter_eq_nil_iff.2 fun f hf h => hx.1 (((hP f (by simp [hf])).1 h) ▸ hf)
   rw [this]; rfl
  rw [if_neg (fun h => e ((hP x (by simp)).1 h))]
  rcases List.mem_cons.1 hg with h | h
  ·exact absurd h.symm e
  exact ih hx.2 h fun f hf => hP f (by simp [hf])
def dm : List Nat → Nat
 | [] => 0
 | x :: l => x + dm l
theorem kz {α : Type} (a b : α → Nat) : ∀ l : List α, dm (l.map fun x => a x + b x) = dm (l.map a) + dm (l.map b)
 | [] => rfl
 | x :: l => by simp only [List.map_cons, dm, kz a b l]; omega
theorem oo {α : Type} : ∀ l : List α, dm (l.map fun _ => 0) = 0
 | [] => rfl
 | x :: l => by simp only [List.map_cons, dm, oo l]
theorem pT {α : Type} (w : Nat) (a : α → Nat) : ∀ l : List α, dm (l.map fun x => w * a x) = w * dm (l.map a)
 | [] => rfl
 | x :: l => by simp only [List.map_cons, dm, pT w a l, Nat.mul_add]
theorem pU {α : Type} (P : α → Bool) : ∀ l : List α, dm (l.map fun x => if P x = true then 1 else 0) = (l.filter P).length
 | [] => rfl
 | x :: l => by
  simp only [List.map_cons, dm, pU P l, List.filter_cons]
  by_cases h : P x = true
  ·simp [h]; omega
  simp [h]
theorem om {l : List Fm} (Q : Fm → Int → Bool) : ∀ bs : List Int, (∀ b ∈ bs, (l.filter fun f => Q f b).length = 1) → dm (l.map fun f => (bs.filter (Q f)).length) = bs.length
 | [], _ => oo l
 | b :: bs, h => by
  have e : (fun f => ((b :: bs).filter (Q f)).length) = fun f => (if Q f b = true then 1 else 0) + (bs.filter (Q f)).length := by
   funext f
   rw [List.filter_cons]
   by_cases g : Q f b = true
   ·rw [if_pos g, if_pos g, List.length_cons]; omega
   rw [if_neg g, if_neg g]; omega
  rw [e, kz, pU (fun f => Q f b), h b (by simp), om Q bs (fun b' hb => h b' (by simp [hb])), List.length_cons]
  omega
theorem B0 {l : List Fm} (w : Whole D l) (hD : D < 0) (hn : 0 < n) : dm (l.map fun f => (prL D n f).length) = unN D * (rbL D n).length := by
 have e : (fun f => (prL D n f).length) = fun f => unN D * ((rbL D n).filter fun b => smf f (frq D n b)).length := by funext f; exact s8
 rw [e, pT, om (fun f b => smf f (frq D n b))]
 intro b hb
 have hc := rq hn hD (rbL_mem.1 hb).2
 refine wL _ w.nd (w.rd hc) fun f hf => ?_
 have hf' := (w.mem f).1 hf
 rw [Bx hf'.1.pos hc.pos, hf'.2]
end
end
section
open Go Go.RowKit
abbrev Pr2 := Int × Int
def lt2 (p q : Pr2) : Bool := decide (p.1 < q.1 ∨ (p.1 = q.1 ∧ p.2 < q.2))
theorem lt2_iff {p q : Pr2} : lt2 p q = true ↔ p.1 < q.1 ∨ (p.1 = q.1 ∧ p.2 < q.2) := decide_eq_true_iff
theorem we {p q r : Pr2} (h : lt2 p q = true) (k : lt2 q r = true) : lt2 p r = true := by rw [lt2_iff] at *; omega
theorem Cj {p q : Pr2} (h : p ≠ q) (k : lt2 p q = false) : lt2 q p = true := by
 rw [lt2_iff]
 have k' : ¬ (p.1 < q.1 ∨ (p.1 = q.1 ∧ p.2 < q.2)) := fun x => by rw [lt2_iff.2 x] at k; cases k
 have : ¬ (p.1 = q.1 ∧ p.2 = q.2) := fun x => h (Prod.ext x.1 x.2)
 omega
def ik (p : Pr2) : List Pr2 → List Pr2
 | [] => [p]
 | q :: l => if lt2 q p = true then q :: ik p l else p :: q :: l
theorem insP_mem {p x : Pr2} : ∀ {l : List Pr2}, x ∈ ik p l ↔ x = p ∨ x ∈ l
 | [] => by simp [ik]
 | q :: l => by
  unfold ik
  split
  ·rw [List.mem_cons, insP_mem, List.mem_cons]
   constructor
   ·rintro (h | h | h)
    ·exact .inr (.inl h)
    ·exact .inl h
    exact .inr (.inr h)
   rintro (h | h | h)
   ·exact .inr (.inl h)
   ·exact .inl h
   exact .inr (.inr h)
  rw [List.mem_cons]
theorem rh {p : Pr2} : ∀ {l : List Pr2}, (ik p l).length = l.length + 1
 | [] => rfl
 | q :: l => by
  unfold ik
  split
  ·rw [List.length_cons, rh, List.length_cons]
  rfl
abbrev mw (l : List Pr2) : Prop := l.Pairwise fun x y => lt2 x y = true
theorem rf {p : Pr2} : ∀ {l : List Pr2}, mw l → p ∉ l → mw (ik p l)
 | [], _, _ => List.pairwise_singleton _ _
 | q :: l, h, hp => by
  have h' := List.pairwise_cons.1 h
  unfold ik
  split
  ·rename_i hq
   refine List.pairwise_cons.2 ⟨fun x hx => ?_, rf h'.2 fun e => hp (by simp [e])⟩
   rcases insP_mem.1 hx with rfl | hx
   ·exact hq
   exact h'.1 x hx
  rename_i hq
  have hpq : lt2 p q = true := Cj (fun e => hp (by simp [e])) (by simpa using hq)
  refine List.pairwise_cons.2 ⟨fun x hx => ?_, h⟩
  rcases List.mem_cons.1 hx with rfl | hx
  ·exact hpq
  exact we hpq (h'.1 x hx)
def srP : List Pr2 → List Pr2
 | [] => []
 | p :: l => ik p (srP l)
theorem srP_mem {x : Pr2} : ∀ {l : List Pr2}, x ∈ srP l ↔ x ∈ l
 | [] => Iff.rfl
 | p :: l => by show x ∈ ik p (srP l) ↔ _; rw [insP_mem, srP_mem, List.mem_cons]
theorem sO : ∀ {l : List Pr2}, (srP l).length = l.length
 | [] => rfl
 | _ :: _ => by unfold srP; rw [rh, sO, List.length_cons]
theorem sN : ∀ {l : List Pr2}, l.Nodup → mw (srP l)
 | [], _ => List.Pairwise.nil
 | _ :: _, h => rf (sN (List.nodup_cons.1 h).2) fun e => (List.nodup_cons.1 h).1 (srP_mem.1 e)
def prS (D n : Int) (f : Fm) : List Pr2 := srP (prL D n f)
theorem BZ {D n : Int} {f : Fm} (h : Cl D f) (hn : 0 < n) : mw (prS D n f) := sN (vR h hn)
def pB (g : Fm) (n : Int) (p : Pr2) : Bool := decide (Int.gcd p.1 p.2 = 1) && decide (vl g.a g.b g.c p.1 p.2 = n)
def okP (p : Pr2) : Bool := decide (0 < p.2 ∨ (p.2 = 0 ∧ 0 ≤ p.1))
def btr (p q : Pr2) : Bool := decide (p.2 < q.2 ∨ (p.2 = q.2 ∧ p.1 < q.1))
def fT (b : Option Pr2) (p : Pr2) : Option Pr2 := if okP p = true then (match b with | none => some p | some q => if btr p q = true then some p else some q) else b
def dR (l : List Pr2) : Option Pr2 := l.foldl fT none
end
section
open Go Go.RowKit
end
section
open Go Go.RowKit
def el (p : Nat) : Nat → Nat → Nat → Nat × Nat
 | 0, n, q => (n, q)
 | f + 1, n, q => if n % p = 0 then el p f (n / p) (q * p) else (n, q)
def ptN (p n : Nat) : Nat × Nat := el p n n 1
def ppL : Nat → Nat → Nat → List Nat
 | 0, _, _ => []
 | f + 1, n, p => if n ≤ 1 then [] else (if 1 < (ptN p n).2 then [(ptN p n).2] else []) ++ ppL f (ptN p n).1 (p + 1)
def parts (n : Nat) : List Nat := ppL n n 2
theorem pX {p : Nat} (hp : 2 ≤ p) : ∀ (f n q : Nat), 0 < n → n ≤ f → 0 < (el p f n q).1 ∧ (el p f n q).1 * (el p f n q).2 = n * q ∧ (el p f n q).1 % p ≠ 0 ∧ ∃ k, (el p f n q).2 = q * p ^ k
 | 0, n, q, h0, hf => by omega
 | f + 1, n, q, h0, hf => by
  unfold el
  by_cases h : n % p = 0
  ·rw [if_pos h]
   have hd : p ∣ n := Nat.dvd_of_mod_eq_zero h
   have hpn : p ≤ n := Nat.le_of_dvd h0 hd
   have h1 : 0 < n / p := Nat.div_pos hpn (by omega)
   have h2 : n / p < n := Nat.div_lt_self h0 (by omega)
   obtain ⟨k1, k2, k3, k, k4⟩ := pX hp f (n / p) (q * p) h1 (by omega)
   refine ⟨k1, ?_, k3, k + 1, ?_⟩
   ·rw [k2]
    have := Nat.div_mul_cancel hd
    calc n / p * (q * p) = n / p * p * q := by rw [Nat.mul_comm q p, Nat.mul_assoc]
     _ = n * q := by rw [this]
   rw [k4, Nat.pow_succ, Nat.mul_assoc, Nat.mul_comm p]
  rw [if_neg h]
  exact ⟨h0, rfl, h, 0, by simp⟩
theorem pA {p n : Nat} (hp : 2 ≤ p) (hn : 0 < n) : 0 < (ptN p n).1 ∧ (ptN p n).1 * (ptN p n).2 = n ∧ (ptN p n).1 % p ≠ 0 ∧ ∃ k, (ptN p n).2 = p ^ k := by
 obtain ⟨h1, h2, h3, k, h4⟩ := pX hp n n 1 hn (Nat.le_refl _)
 exact ⟨h1, by rw [Nat.mul_one] at h2; exact h2, h3, k, by rw [Nat.one_mul] at h4; exact h4⟩
theorem nX {a p : Nat} (h : Nat.gcd a p = 1) : ∀ k, Nat.gcd a (p ^ k) = 1
 | 0 => by simp
 | k + 1 => by
  rw [Nat.pow_succ]
  exact Nat.Coprime.mul_right (nX h k) h
theorem uA {p n : Nat} (hp : 2 ≤ p) (hn : 0 < n) (h : Nd n p) : Nat.gcd (ptN p n).1 (ptN p n).2 = 1 ∧ Nd (ptN p n).1 (p + 1) := by
 obtain ⟨h1, h2, h3, k, h4⟩ := pA hp hn
 have hd : (ptN p n).1 ∣ n := ⟨_, h2.symm⟩
 have hnd : Nd (ptN p n).1 p := fun e e2 e3 e4 => h e e2 e3 (Nat.dvd_trans e4 hd)
 refine ⟨?_, fun e e2 e3 e4 => ?_⟩
 ·rw [h4]
  refine nX ?_ k
  have g1 : Nat.gcd (ptN p n).1 p ∣ (ptN p n).1 := Nat.gcd_dvd_left ..
  have g2 : Nat.gcd (ptN p n).1 p ∣ p := Nat.gcd_dvd_right ..
  have g3 : Nat.gcd (ptN p n).1 p ≤ p := Nat.le_of_dvd (by omega) g2
  have g4 : 0 < Nat.gcd (ptN p n).1 p := Nat.gcd_pos_of_pos_left _ h1
  generalize Nat.gcd (ptN p n).1 p = g at *
  rcases Nat.lt_or_ge g 2 with x | x
  ·omega
  rcases Nat.lt_or_ge g p with y | y
  ·exact absurd g1 (hnd g x y)
  have : g = p := by omega
  subst this
  exact absurd (Nat.mod_eq_zero_of_dvd g1) h3
 rcases Nat.lt_or_ge e p with x | x
 ·exact hnd e e2 x e4
 have : e = p := by omega
 subst this
 exact h3 (Nat.mod_eq_zero_of_dvd e4)
def blk (D : Int) (n : Nat) : Option Nat := (parts n).find? fun q => (rbL D (q : Int)).isEmpty
end
section
open Go Go.RowKit
end
section
open Go Go.RowKit
end
section
open Go Go.RowKit
end
section
open Go Go.RowKit
end
section
open Go Go.RowKit
section
end
end
section
open Go Go.RowKit
end
section
open Go Go.RowKit
section
variable {A B C : Int}
theorem fO {p : Nat} (hp : Pr p) (pf : prim A B C = true) {a m k : Nat} (e : a = p ^ k * m) (hm : ¬ p ∣ m) {b : Nat} (ih : ∃ x y : Nat, Nat.Coprime (vl A B C x y).natAbs m ∧ x ≤ b ∧ y ≤ b) :
  ∃ x y : Nat, Nat.Coprime (vl A B C x y).natAbs a ∧ x ≤ b + 2 * m ∧ y ≤ b + 2 * m := by
 obtain ⟨x, y, hc, hbx, hby⟩ := ih
 obtain ⟨i, j, hi, hj, hv⟩ := Fp hp pf hm (x : Int) (y : Int)
 have mi : m * i ≤ m * 2 := Nat.mul_le_mul_left m hi
 have mj : m * j ≤ m * 2 := Nat.mul_le_mul_left m hj
 refine ⟨x + m * i, y + m * j, ?_, by omega, by omega⟩
 have ex : ((x + m * i : Nat) : Int) = (x : Int) + m * i := by rw [Int.natCast_add, Int.natCast_mul]
 have ey : ((y + m * j : Nat) : Int) = (y : Int) + m * j := by rw [Int.natCast_add, Int.natCast_mul]
 rw [ex, ey]
 have c1 : Nat.Coprime (vl A B C ((x : Int) + m * i) (y + m * j)).natAbs m := by
  have hg := pM (A := A) (B := B) (C := C) (m := (m : Int)) (x : Int) (y : Int) i j
  generalize vl A B C ((x : Int) + m * i) (y + m * j) = V at *
  generalize vl A B C (x : Int) (y : Int) = W at *
  have d1 := Nat.gcd_dvd_left V.natAbs m
  have d2 := Nat.gcd_dvd_right V.natAbs m
  have d3 : ((Nat.gcd V.natAbs m : Nat) : Int) ∣ W := by
   have e1 : ((Nat.gcd V.natAbs m : Nat) : Int) ∣ V := Int.ofNat_dvd_left.2 d1
   have e2 : ((Nat.gcd V.natAbs m : Nat) : Int) ∣ (m : Int) := Int.natCast_dvd_natCast.2 d2
   have e3 := Int.dvd_sub e1 (Int.dvd_trans e2 hg)
   have : V - (V - W) = W := by omega
   rwa [this] at e3
  have d4 := Nat.dvd_gcd (Int.ofNat_dvd_left.1 d3) d2
  unfold Nat.Coprime at hc ⊢
  rw [hc] at d4
  exact Nat.eq_one_of_dvd_one d4
 have c2 : Nat.Coprime (vl A B C ((x : Int) + m * i) (y + m * j)).natAbs p := qo hp (fun h => hv (Int.ofNat_dvd_left.2 h))
 rw [e]
 exact Nat.Coprime.mul_right (Nat.Coprime.pow_right k c2) c1
theorem lP (pf : prim A B C = true) : ∀ (n a : Nat), a ≤ n → 1 ≤ a → ∃ x y : Nat, Nat.Coprime (vl A B C x y).natAbs a ∧ x ≤ 2 * a ∧ y ≤ 2 * a
 | 0, a, h, h1 => by omega
 | n + 1, a, h, h1 => by
  by_cases h2 : a = 1
  ·subst h2
   exact ⟨0, 0, Nat.coprime_one_right _, by omega, by omega⟩
  obtain ⟨p, hp, hpa⟩ := mY a a (Nat.le_refl a) (by omega)
  obtain ⟨k, m, e, hm, m1, hle⟩ := j9 hp a a (Nat.le_refl a) h1
  have hle := hle hpa
  have h3 : 2 * m ≤ p * m := Nat.mul_le_mul_right m hp.1
  obtain ⟨x, y, hc, hx, hy⟩ := fO hp pf e hm (lP pf n m (by omega) m1)
  exact ⟨x, y, hc, by omega, by omega⟩
theorem Ht {q : Nat} (hq : Pr q) (h : q ≤ 23) : q ∣ 223092870 := by
 have h2 := hq.1
 rcases Nat.lt_or_ge 16 q with g | g
 ·rcases (show q = 17 ∨ q = 18 ∨ q = 19 ∨ q = 20 ∨ q = 21 ∨ q = 22 ∨ q = 23 by omega) with rfl | rfl | rfl | rfl | rfl | rfl | rfl
  ·decide
  ·rcases hq.2 2 9 (by decide) with g | g <;> revert g <;> decide
  ·decide
  ·rcases hq.2 4 5 (by decide) with g | g <;> revert g <;> decide
  ·rcases hq.2 3 7 (by decide) with g | g <;> revert g <;> decide
  ·rcases hq.2 2 11 (by decide) with g | g <;> revert g <;> decide
  decide
 exact Nat.dvd_trans (qn hq g) ⟨7429, by decide⟩
theorem lE : Pr 19 := ⟨by omega, fun x y h => by
 have e : (x * y) % 19 = ((x % 19) * (y % 19)) % 19 := Nat.mul_mod ..
 have h1 : (x * y) % 19 = 0 := Nat.mod_eq_zero_of_dvd h
 have key : ∀ u v : Fin 19, (u.val * v.val) % 19 = 0 → u.val = 0 ∨ v.val = 0 := by decide +kernel
 rcases key ⟨x % 19, Nat.mod_lt _ (by omega)⟩ ⟨y % 19, Nat.mod_lt _ (by omega)⟩ (by rw [← e]; exact h1) with g | g
 ·exact .inl (Nat.dvd_of_mod_eq_zero g)
 exact .inr (Nat.dvd_of_mod_eq_zero g)⟩
theorem nG : Pr 23 := ⟨by omega, fun x y h => by
 have e : (x * y) % 23 = ((x % 23) * (y % 23)) % 23 := Nat.mul_mod ..
 have h1 : (x * y) % 23 = 0 := Nat.mod_eq_zero_of_dvd h
 have key : ∀ u v : Fin 23, (u.val * v.val) % 23 = 0 → u.val = 0 ∨ v.val = 0 := by decide +kernel
 rcases key ⟨x % 23, Nat.mod_lt _ (by omega)⟩ ⟨y % 23, Nat.mod_lt _ (by omega)⟩ (by rw [← e]; exact h1) with g | g
 ·exact .inl (Nat.dvd_of_mod_eq_zero g)
 exact .inr (Nat.dvd_of_mod_eq_zero g)⟩
theorem nV {q n g : Nat} (hq : Pr q) (h : g ∣ q * n) (hg : ¬ q ∣ g) : g ∣ n :=
 Nat.Coprime.dvd_of_dvd_mul_left (qo hq hg) h
theorem tM {m : Nat} (h : m ∣ 510510) (h2 : m < 510510) : m ≤ 255255 := by
 obtain ⟨k, hk⟩ := h
 rcases (show k = 0 ∨ k = 1 ∨ 2 ≤ k by omega) with rfl | rfl | g
 ·omega
 ·omega
 have := Nat.mul_le_mul_left m g
 omega
theorem H3 (pf : prim A B C = true) {g : Nat} (h1 : 1 ≤ g) (h2 : g ≤ 8388608) (hd : g ∣ 223092870) : ∃ x y : Nat, Nat.Coprime (vl A B C x y).natAbs g ∧ x ≤ 1400000 ∧ y ≤ 1400000 := by
 by_cases h23 : 23 ∣ g
 ·obtain ⟨m, rfl⟩ := h23
  have hm : m ∣ 9699690 := Nat.dvd_of_mul_dvd_mul_left (by omega : 0 < 23) (show 23 * m ∣ 23 * 9699690 from hd)
  have hn : ¬ 23 ∣ m := fun h => by have := Nat.dvd_trans h hm; revert this; decide
  rcases Nat.lt_or_ge 350000 m with q | q
  ·by_cases h19 : 19 ∣ m
   ·obtain ⟨t, rfl⟩ := h19
    have ht : t ∣ 510510 := Nat.dvd_of_mul_dvd_mul_left (by omega : 0 < 19) (show 19 * t ∣ 19 * 510510 from hm)
    have hn2 : ¬ 19 ∣ t := fun h => by have := Nat.dvd_trans h ht; revert this; decide
    have c1 := fO lE pf (a := 19 * t) (k := 1) (by omega) hn2 (lP pf t t (Nat.le_refl t) (by omega))
    obtain ⟨x, y, hc, hx, hy⟩ := fO nG pf (a := 23 * (19 * t)) (k := 1) (by omega) hn c1
    exact ⟨x, y, hc, by omega, by omega⟩
   have h5 : m ∣ 510510 := nV lE (show m ∣ 19 * 510510 from hm) h19
   have := tM h5 (by omega)
   omega
  obtain ⟨x, y, hc, hx, hy⟩ := fO nG pf (a := 23 * m) (k := 1) (by omega) hn (lP pf m m (Nat.le_refl m) (by omega))
  exact ⟨x, y, hc, by omega, by omega⟩
 have hm : g ∣ 9699690 := nV nG (show g ∣ 23 * 9699690 from hd) h23
 by_cases h19 : 19 ∣ g
 ·obtain ⟨t, rfl⟩ := h19
  have ht : t ∣ 510510 := Nat.dvd_of_mul_dvd_mul_left (by omega : 0 < 19) (show 19 * t ∣ 19 * 510510 from hm)
  have hn2 : ¬ 19 ∣ t := fun h => by have := Nat.dvd_trans h ht; revert this; decide
  have := tM ht (by omega)
  obtain ⟨x, y, hc, hx, hy⟩ := fO lE pf (a := 19 * t) (k := 1) (by omega) hn2 (lP pf t t (Nat.le_refl t) (by omega))
  exact ⟨x, y, hc, by omega, by omega⟩
 have h5 : g ∣ 510510 := nV lE (show g ∣ 19 * 510510 from hm) h19
 have := Nat.le_of_dvd (by omega) h5
 obtain ⟨x, y, hc, hx, hy⟩ := lP pf g g (Nat.le_refl g) h1
 exact ⟨x, y, hc, by omega, by omega⟩
theorem CW (pf : prim A B C = true) {a : Nat} (h1 : 1 ≤ a) (h2 : a ≤ 8388608) : ∃ x y : Nat, Nat.Coprime (vl A B C x y).natAbs a ∧ x ≤ 1400000 ∧ y ≤ 1400000 := by
 by_cases h : ∃ p, Pr p ∧ p ∣ a ∧ 24 ≤ p
 ·obtain ⟨p, hp, hpa, h24⟩ := h
  obtain ⟨k, m, e, hm, m1, hle⟩ := j9 hp a a (Nat.le_refl a) h1
  have hle := hle hpa
  have h3 : 24 * m ≤ p * m := Nat.mul_le_mul_right m h24
  obtain ⟨x, y, hc, hx, hy⟩ := fO hp pf e hm (lP pf m m (Nat.le_refl m) m1)
  exact ⟨x, y, hc, by omega, by omega⟩
 have hg1 : 1 ≤ Nat.gcd a 223092870 := Nat.gcd_pos_of_pos_left _ (by omega)
 have hg2 := Nat.le_of_dvd (by omega) (Nat.gcd_dvd_left a 223092870)
 obtain ⟨x, y, hc, hx, hy⟩ := H3 pf hg1 (by omega) (Nat.gcd_dvd_right a 223092870)
 refine ⟨x, y, ?_, hx, hy⟩
 by_cases g : Nat.Coprime (vl A B C x y).natAbs a
 ·exact g
 exfalso
 obtain ⟨q, hq, d1, d2⟩ := th h1 g
 have h16 : q ≤ 23 := by
  rcases Nat.lt_or_ge 23 q with g | g
  ·exact absurd ⟨q, hq, d2, g⟩ h
  exact g
 have d3 := Nat.dvd_gcd d1 (Nat.dvd_gcd d2 (Ht hq h16))
 unfold Nat.Coprime at hc
 rw [hc] at d3
 have := Nat.le_of_dvd (by omega) d3
 have := hq.1
 omega
end
theorem CX {d : Int} {g : Fm} (hg : Cl d g) (h0 : d < 0) (hd : -4194304 ≤ d) : ∃ x y : Int, 0 ≤ x ∧ x ≤ 1400000 ∧ 0 ≤ y ∧ y ≤ 1400000 ∧ Int.gcd (vl g.a g.b g.c x y) (2 * d) = 1 := by
 obtain ⟨x, y, h1, h2, h3⟩ := CW hg.prim (a := (2 * d).natAbs) (by omega) (by omega)
 exact ⟨x, y, by omega, by omega, by omega, by omega, h1⟩
theorem HR {f : Fm} : gpE f = 0 → ∃ x y : Int, 0 ≤ x ∧ x ≤ 1400000 ∧ 0 ≤ y ∧ y ≤ 1400000 ∧ Int.gcd (vl f.rd.a f.rd.b f.rd.c x y) (2 * dsc f.a f.b f.c) = 1 := fun h => by
 obtain ⟨h1, h2⟩ := wy h
 obtain ⟨_, h3, h4⟩ := uL h2
 exact CX h1.rd h3 h4
end
section
open Go Go.RowKit
theorem CG {w w' : World} (os : w'.os = w.os) (tp : w'.tape = w.tape) (out : OutD w' w) (sz : w.heap.size ≤ w'.heap.size) (old : ∀ k, k < w.heap.size → w'.heap[k]? = w.heap[k]?) :
  ∃ q os', w' = Sort.grow (w.drewN q) os' := by
 obtain ⟨o1, o2⟩ := out
 refine ⟨w'.drawn - w.drawn, w'.heap.extract w.heap.size w'.heap.size, ?_⟩
 have hh : w'.heap = w.heap ++ w'.heap.extract w.heap.size w'.heap.size := by
  apply Array.ext_getElem?
  intro k
  rw [Array.getElem?_append]
  by_cases hk : k < w.heap.size
  ·rw [if_pos hk, old k hk]
  rw [if_neg hk, Array.getElem?_extract]
  by_cases h2 : k < w'.heap.size
  ·rw [if_pos (by omega), show w.heap.size + (k - w.heap.size) = k by omega]
  rw [if_neg (by omega), Array.getElem?_eq_none (by omega)]
 have hd : w'.drawn = w.drawn + (w'.drawn - w.drawn) := by omega
 unfold Sort.grow World.drewN
 generalize w'.heap.extract w.heap.size w'.heap.size = x at hh
 generalize w'.drawn - w.drawn = y at hd
 cases w'
 simp only at os tp o1 hh hd
 subst os tp o1 hh hd
 rfl
section
variable {β : Type} {encD : β → List DV} {k : Nat}
theorem mr (hL : ∀ b, (encD b).length = k) : ∀ (l : List β) (t : Nat) (dv : DV), (l.flatMap encD)[t]? = some dv → ∃ b, l[t / k]? = some b ∧ (encD b)[t % k]? = some dv
 | [], t, dv, h => by simp at h
 | b :: l, t, dv, h => by
  rw [List.flatMap_cons, List.getElem?_append] at h
  rw [hL b] at h
  by_cases ht : t < k
  ·rw [if_pos ht] at h
   rw [Nat.div_eq_of_lt ht, Nat.mod_eq_of_lt ht]
   exact ⟨b, rfl, h⟩
  rw [if_neg ht] at h
  obtain ⟨b', h1, h2⟩ := mr hL l (t - k) dv h
  have hk : 0 < k := by
   rcases Nat.eq_zero_or_pos k with e | e
   ·subst e
    have := List.length_eq_zero_iff.1 (hL b')
    rw [this] at h2; simp at h2
   exact e
  have e1 : t / k = (t - k) / k + 1 := by
   rw [Nat.div_eq_sub_div hk (by omega)]
  have e2 : t % k = (t - k) % k := Nat.mod_eq_sub_mod (by omega)
  rw [e1, e2]
  exact ⟨b', by simpa using h1, h2⟩
theorem dq (hL : ∀ b, (encD b).length = k) (l : List β) : (l.flatMap encD).length = l.length * k := by
 induction l with
 | nil => simp
 | cons b l ih => rw [List.flatMap_cons, List.length_append, ih, hL, List.length_cons, Nat.add_mul]; omega
def ElS (h : Hp) (encD : β → List DV) (k : Nat) : Type := {x : List Value × β // x.1.length = k ∧ DReps h (encD x.2) fun i => x.1[i]?}
def ElS.enc {h : Hp} (x : ElS h encD k) : List Value := x.1.1
def ElS.ob {h : Hp} (x : ElS h encD k) : β := x.1.2
theorem ElS.one {h : Hp} (hL : ∀ b, (encD b).length = k) (x : ElS h encD k) : ∀ v ∈ x.enc, v.oneCell' = true := by
 intro v hv
 obtain ⟨i, hi⟩ := List.mem_iff_getElem?.1 hv
 have hlt := (List.getElem?_eq_some_iff.1 hi).1
 have e1 : x.enc.length = k := x.2.1
 obtain ⟨y, y1, y2⟩ := x.2.2.get i ((encD x.1.2)[i]'(by rw [hL]; omega)) (List.getElem?_eq_getElem _)
 have e2 : x.enc[i]? = some y := y1
 rw [hi] at e2; cases e2
 exact y2.one
end
theorem iK {α : Type} [Inhabited α] (enc : α → List Value) (k : Nat) (w : World) (blk off n : Nat) (d : Array α) (os : Array Obj) (i : Nat) (hi : i < w.heap.size) :
  (Proofs.sortWorldK enc k w blk off n d os).heap[i]? = if i = blk then (w.heap[i]?).map (Sort.onCells (Sort.putCells id off (Sort.flatK enc k d))) else w.heap[i]? := by
 unfold Proofs.sortWorldK
 rw [Sort.heap_grow_old _ _ (by show i < (Sort.putRow _ _ _ _ _).heap.size; rw [Sort.size_putRow]; exact hi)]
 show (w.heap.modify blk _)[i]? = _
 rw [Array.getElem?_modify]
 by_cases e : blk = i
 ·subst e; rw [if_pos rfl]
 rw [if_neg e, if_neg (fun x => e x.symm)]
open Go.Proofs in
theorem tY {P : Program} {ρ : Shelf.Ren} (L : SlLaysF0.n6 P ρ) {tt : TT} (hT : dz P tt) {j : TyI} (he : tt (ρ.t 24) = some j) (hag : j.sh.agg = true) {k : Nat} (hjs : j.size = k) (hk0 : 0 < k) {β : Type} {encD : β → List DV} (hL : ∀ b, (encD b).length = k)
  (cb : β → β → Int) (hO : Sort.SWO (ltOf cb)) {g : Nat} (hc : ∀ x y : β, aF P g [.p (.a (encD x)), .p (.a (encD y))] (.p (.c (.v (.int .i64 (cb x y)))))) {m : Nat} {e : TypeId} {l l' : List β} (hp : l'.Perm l) (hs : l'.Pairwise fun x y => ¬ cb y x < 0)
  (ha : ∀ x ∈ l, ∀ y ∈ l, ¬ cb x y < 0 → ¬ cb y x < 0 → x = y) :
  CallM P (ρ.f 6) [.vec m, .p (.c (.v (.func (.func g) #[] #[])))] (upd O m (some ⟨true, k, e, l.flatMap encD⟩)) (.t []) (upd O m (some ⟨true, k, e, l'.flatMap encD⟩)) where
 fn := by
  obtain ⟨nm, hn, hf⟩ := L.f6
  exact ⟨_, hf, hn, rfl⟩
 go h r w cargs hrep hbef := by
  obtain ⟨cl⟩ := cargs
  match cl, hrep with
  | [a, b], hrep =>
  obtain ⟨ha1, hb1, _⟩ := hrep
  simp only [AVRep] at ha1
  have hb2 : b = .func (.func g) #[] #[] := bN hb1
  subst ha1 hb2
  have hB := hbef.ow m _ (upd_same _ _ _)
  unfold BlkRep at hB
  obtain ⟨aa, n, cap, hr, hn, hcap, hn47, hmem⟩ := hB
  simp only at hn hmem
  rw [dq hL] at hn
  have hnl : n = l.length := Nat.eq_of_mul_eq_mul_right hk0 hn
  have hown : ∀ q, upd O m (some (⟨true, k, e, l.flatMap encD⟩ : Blk)) q ≠ none → q = m := fun q hq => by
   by_cases hqm : q = m
   ·exact hqm
   rw [aH _ _ _ _ hqm] at hq; exact absurd rfl hq
  have hown' : ∀ q b, upd O m (some (⟨true, k, e, l'.flatMap encD⟩ : Blk)) q = some b → q = m ∧ b = ⟨true, k, e, l'.flatMap encD⟩ := fun q b hq => by
   by_cases hqm : q = m
   ·subst hqm; rw [upd_same] at hq; cases hq; exact ⟨rfl, rfl⟩
   rw [aH _ _ _ _ hqm] at hq; cases hq
  have hself : upd O m (some (⟨true, k, e, l.flatMap encD⟩ : Blk)) m ≠ none := by rw [upd_same]; simp
  rcases List.eq_nil_or_concat l with hl | ⟨l0, b0, hl⟩
  ·subst hl
   have hl' : l' = [] := List.Perm.eq_nil hp
   subst hl'
   have hn0 : n = 0 := by simpa using hnl
   subst hn0
   rw [hr]
   refine (AnyF.slices_SortFunc_none L aa cap (.func (.func g) #[] #[]) w).mono ?_
   rintro e' w' ⟨rfl, rfl⟩
   refine ⟨_, h, rfl, ⟨[], rfl, trivial⟩, ⟨fun q b hq => ?_, fun q hq => ?_, hbef.hi, fun q i hq => hbef.ho q i ?_, rfl, rfl, .refl _, Nat.le_refl _, fun _ _ _ => rfl, .refl _, fun _ hq => .inl hq⟩⟩
   ·obtain ⟨rfl, rfl⟩ := hown' q b hq
    exact hbef.ow q _ (upd_same _ _ _)
   ·exact hq
   exact hq
  have hlen : 0 < l.length := by rw [hl]; simp
  have hcap0 : cap ≠ 0 := by omega
  rcases hmem with hmem | ⟨kk, c, haa, hheap, hcs, hrd⟩
  ·exact absurd hmem hcap0
  subst haa
  have hkk : kk < w.heap.size := (Array.getElem?_eq_some_iff.1 hheap).1
  have hrm : aX (r m) = some kk := by rw [hr]; simp [aX, hcap0]
  have hkn : h kk = none := hbef.ho m kk hself hrm
  have hel : ∀ i : Fin n, (((c.toList.drop (i.val * k)).take k).length = k ∧ DReps h (encD (l[i.val]'(by omega))) fun q => ((c.toList.drop (i.val * k)).take k)[q]?) := fun i => by
   have hik : i.val * k + k ≤ c.size := by
    rw [hcs]
    have := Nat.mul_le_mul_right k (show i.val + 1 ≤ cap by omega)
    rw [Nat.add_mul, Nat.one_mul] at this; exact this
   refine ⟨by rw [List.length_take, List.length_drop, Array.length_toList]; omega, ?_⟩
   rw [DReps.iff]
   intro q d hq
   have hqk : q < k := by have := (List.getElem?_eq_some_iff.1 hq).1; rwa [hL] at this
   have hfl : (l.flatMap encD)[i.val * k + q]? = some d := by
    have hlt : i.val * k + q < (l.flatMap encD).length := by
     rw [dq hL]
     have := Nat.mul_le_mul_right k (show i.val + 1 ≤ l.length by omega)
     rw [Nat.add_mul, Nat.one_mul] at this; omega
    obtain ⟨b', g1, g2⟩ := mr hL l (i.val * k + q) _ (List.getElem?_eq_getElem hlt)
    have e1 : (i.val * k + q) / k = i.val := by rw [Nat.mul_comm, Nat.mul_add_div hk0, Nat.div_eq_of_lt hqk]; rfl
    have e2 : (i.val * k + q) % k = q := by rw [Nat.mul_comm, Nat.mul_add_mod, Nat.mod_eq_of_lt hqk]
    rw [e1, List.getElem?_eq_getElem (by omega)] at g1
    rw [e2] at g2
    cases g1
    rw [hq] at g2
    rw [List.getElem?_eq_getElem hlt, ← g2]
   obtain ⟨y, y1, y2⟩ := hrd.get _ d hfl
   refine ⟨y, ?_, y2⟩
   rw [List.getElem?_take, if_pos hqk, List.getElem?_drop, Array.getElem?_toList]; exact y1
  let mk : Fin n → ElS h encD k := fun i => ⟨((c.toList.drop (i.val * k)).take k, l[i.val]'(by omega)), hel i⟩
  let D : Array (ElS h encD k) := Array.ofFn mk
  have hDs : D.size = n := by simp [D]
  haveI : Inhabited (ElS h encD k) := ⟨mk ⟨0, by omega⟩⟩
  have hDob : D.toList.map ElS.ob = l := by
   apply List.ext_getElem
   ·simp [hDs, hnl]
   intro i h1 h2
   rw [List.getElem_map, Array.getElem_toList]
   have e3 : D[i]'(by simpa using h1) = mk ⟨i, by simpa [hDs] using h1⟩ := by simp [D]
   rw [e3]; rfl
  have hDget : ∀ i, (hi : i < n) → D[i]! = mk ⟨i, hi⟩ := fun i hi => by
   rw [getElem!_pos D i (by omega)]
   simp [D]
  have hH : Sort.HoldsK ElS.enc k w kk 0 D := by
   intro q hq
   have hq' : q < n * k := by rw [Sort.size_flatK, hDs] at hq; exact hq
   have hqn : q / k < n := (Nat.div_lt_iff_lt_mul hk0).2 hq'
   rw [Sort.get_flatK _ _ _ _ (by rw [hDs]; exact hq'), hDget _ hqn, Nat.zero_add]
   have hqc : q < c.size := by
    rw [hcs]
    exact Nat.lt_of_lt_of_le hq' (Nat.mul_le_mul_right k hcap)
   have ev : ((mk ⟨q / k, hqn⟩).enc)[q % k]! = c[q] := by
    have hmod := Nat.mod_lt q hk0
    have edm : q / k * k + q % k = q := by rw [Nat.mul_comm]; exact Nat.div_add_mod q k
    show ((c.toList.drop (q / k * k)).take k)[q % k]! = c[q]
    rw [List.getElem!_eq_getElem?_getD, List.getElem?_take, if_pos hmod, List.getElem?_drop, edm, Array.getElem?_toList, Array.getElem?_eq_getElem hqc]
    rfl
   rw [ev]
   refine ⟨?_, ?_⟩
   ·simp [World.cell?, hheap, hqc]
   simp [World.frozen?, hheap]
  have hnot : ∀ i o, h i = some o → i ≠ kk := fun i o ho hik => by subst hik; rw [hkn] at ho; cases ho
  have hcmp : CmpLays P g #[] ElS.enc k (fun x y : ElS h encD k => cb x.ob y.ob) kk 0 D.size w := by
   intro m0 os0 dk hdk x y
   have hWi : ∀ i o, h i = some o → (sortWorldK ElS.enc k w kk 0 m0 dk os0).heap[i]? = some o := fun i o ho => by
    have hiw : i < w.heap.size := (Array.getElem?_eq_some_iff.1 (hbef.hi i o ho)).1
    rw [iK _ _ _ _ _ _ _ _ _ hiw, if_neg (hnot i o ho)]
    exact hbef.hi i o ho
   have hW : Before h r O (sortWorldK ElS.enc k w kk 0 m0 dk os0) := ⟨fun q b hq => (by cases hq), fun q _ _ hq => absurd rfl hq, hWi, fun q _ hq => absurd rfl hq, hbef.gl⟩
   have e0 : (#[Value.agg x.enc.toArray, Value.agg y.enc.toArray] ++ #[] : Array Value) = #[Value.agg x.enc.toArray, Value.agg y.enc.toArray] := by simp
   rw [e0]
   have rx : ∀ z : ElS h encD k, AVRep h r (.p (.a (encD z.ob))) (Value.agg z.enc.toArray) := fun z => by
    refine ⟨z.1.1.toArray, rfl, by rw [hL, List.size_toArray]; exact z.2.1, ?_⟩
    show DReps h (encD z.1.2) fun i => (z.1.1).toArray[i]?
    simp only [List.getElem?_toArray]
    exact z.2.2
   have hcx := (hc x.ob y.ob).go h r _ #[.agg x.enc.toArray, .agg y.enc.toArray] ⟨rx x, rx y, trivial⟩ hW
   refine hcx.mono ?_
   rintro e' w' ⟨v, h', rfl, hv, q⟩
   refine ⟨by rw [bN hv], CG q.os q.tape q.output q.size fun i hi => q.old i hi ?_⟩
   rintro ⟨m1, hm1, _⟩
   exact hm1 rfl
  have hO' : Sort.SWO (ltOf fun x y : ElS h encD k => cb x.ob y.ob) := ⟨fun x => hO.irrefl x.ob, fun x y z => hO.trans x.ob y.ob z.ob, fun x y z => hO.ntrans x.ob y.ob z.ob⟩
  have eg : ∀ args w, (callFunc g args).run P w = .ok (.enter g args) w := fun args w => cO (hc (mk ⟨0, by omega⟩).ob (mk ⟨0, by omega⟩).ob).fn args w
  have hcon := AnyQ.slices_SortFunc L k (fun w => by rw [(hT _ _ he).isAgg w, hag]) (fun w => by rw [(hT _ _ he).size w, hjs]) ElS.enc (fun x => x.2.1) (fun x => x.one hL) (fun x y : ElS h encD k => cb x.ob y.ob) hO' g #[] kk 0 cap D w eg hcmp hH hkk (by omega)
  rw [hDs] at hcon
  rw [hr]
  refine hcon.mono ?_
  rintro e' w' ⟨rfl, d', n', os', hperm, hsort, rfl⟩
  obtain ⟨hsz, _, hpm⟩ := hperm
  have e1 : d'.extract 0 n = d' := by rw [← hDs, ← hsz]; exact Array.extract_size
  have e2 : D.extract 0 n = D := by rw [← hDs]; exact Array.extract_size
  rw [e1, e2] at hpm
  have hpl : (d'.toList.map ElS.ob).Perm l := by rw [← hDob]; exact hpm.map _
  have hds : d'.size = n := by rw [hsz, hDs]
  have hsl : (d'.toList.map ElS.ob).Pairwise fun x y => ¬ cb y x < 0 := by
   rw [List.pairwise_iff_getElem]
   intro i j hi hj hij
   simp only [List.length_map, Array.length_toList] at hi hj
   have := hsort i j (Nat.zero_le _) hij (by omega)
   unfold ltOf at this
   have := dF0 this
   rw [getElem!_pos d' j hj, getElem!_pos d' i hi] at this
   simpa using this
  have hll : d'.toList.map ElS.ob = l' := by
   refine List.Perm.eq_of_pairwise (le := fun x y => ¬ cb y x < 0) ?_ hsl hs (hpl.trans hp.symm)
   intro x y hx hy h1 h2
   exact ha x (hpl.mem_iff.1 hx) y (hp.mem_iff.1 hy) h2 h1
  refine ⟨_, h, rfl, ⟨[], rfl, trivial⟩, ⟨fun q b hq => ?_, fun q hq => ?_, fun i o ho => ?_, fun q i hq => ?_, rfl, rfl, ⟨rfl, Nat.le_add_right _ _⟩, ?_, fun i hi hno => ?_, .refl _, fun _ hq => .inl hq⟩⟩
  ·obtain ⟨rfl, rfl⟩ := hown' q b hq
   unfold BlkRep
   simp only
   refine ⟨_, n, cap, hr, by rw [dq hL, ← hll]; simp [hds], hcap, hn47, .inr ⟨kk, Sort.putCells id 0 (Sort.flatK ElS.enc k d') c, rfl, ?_, ?_, ?_⟩⟩
   ·rw [iK _ _ _ _ _ _ _ _ _ hkk, if_pos rfl, hheap]; rfl
   ·simp [Sort.putCells, hcs]
   rw [DReps.iff]
   intro t dv ht
   obtain ⟨b', g1, g2⟩ := mr hL l' t dv ht
   have hlt : t < l'.length * k := by have := (List.getElem?_eq_some_iff.1 ht).1; rwa [dq hL] at this
   have hl'n : l'.length = n := by rw [← hll]; simp [hds]
   rw [hl'n] at hlt
   have htn : t / k < n := (Nat.div_lt_iff_lt_mul hk0).2 hlt
   have htc : t < c.size := by rw [hcs]; exact Nat.lt_of_lt_of_le hlt (Nat.mul_le_mul_right k hcap)
   rw [← hll, List.getElem?_map, Array.getElem?_toList, Array.getElem?_eq_getElem (by omega)] at g1
   simp only [Option.map_some, Option.some.injEq] at g1
   subst g1
   obtain ⟨y, y1, y2⟩ := (d'[t / k]'(by omega)).2.2.get _ dv g2
   refine ⟨y, ?_, y2⟩
   simp only [Sort.putCells, Array.getElem?_mapIdx, Array.getElem?_eq_getElem htc, Option.map_some]
   rw [if_pos ⟨Nat.zero_le _, by rw [Sort.size_flatK, hds]; omega⟩, Nat.sub_zero, Sort.get_flatK _ _ _ _ (by rw [hds]; exact hlt), getElem!_pos d' (t / k) (by omega)]
   have y3 : ((d'[t / k]'(by omega)).enc)[t % k]? = some y := y1
   rw [List.getElem!_eq_getElem?_getD, y3]
   rfl
  ·have := hown' q
   cases hq2 : upd O m (some (⟨true, k, e, l'.flatMap encD⟩ : Blk)) q with
   | none => exact absurd hq2 hq
   | some b => obtain ⟨rfl, _⟩ := hown' q b hq2; exact hself
  ·have hiw : i < w.heap.size := (Array.getElem?_eq_some_iff.1 (hbef.hi i o ho)).1
   rw [iK _ _ _ _ _ _ _ _ _ hiw, if_neg (hnot i o ho)]; exact hbef.hi i o ho
  ·intro hqi
   cases hq2 : upd O m (some (⟨true, k, e, l'.flatMap encD⟩ : Blk)) q with
   | none => exact absurd hq2 hq
   | some b => obtain ⟨rfl, _⟩ := hown' q b hq2; exact hbef.ho q i hself hqi
  ·exact size_sortWorldK_c _ _ _ _ _ _ _ _
  rw [iK _ _ _ _ _ _ _ _ _ hi, if_neg]
  intro hik
  exact hno ⟨m, hself, by rw [hrm, hik]⟩
end
section
open Go Go.RowKit
end
section
open Go Go.RowKit
end
section
open Go Go.RowKit
section
variable {β : Type} {encD : β → List DV} {z : Nat}
abbrev SL (encD : β → List DV) (l : List β) : DV := .sl l.length (l.flatMap encD)
abbrev VB (z : Nat) (e : TypeId) (encD : β → List DV) (l : List β) : Blk := ⟨true, z, e, l.flatMap encD⟩
theorem oZ (hL : ∀ b, (encD b).length = z) : ∀ (l : List β) (i : Nat) (h : i < l.length), (l.flatMap encD).drop (i * z) = encD l[i] ++ (l.drop (i + 1)).flatMap encD
 | x :: l, 0, _ => by simp
 | x :: l, i + 1, h => by
  have ih := oZ hL l i (by simpa using h)
  have e : (i + 1) * z = (encD x).length + i * z := by rw [hL, Nat.add_mul, Nat.one_mul, Nat.add_comm]
  rw [e, List.flatMap_cons, List.drop_length_add_append, ih]
  simp
variable {P : Program} {tt : TT} (hT : dz P tt)
variable {dst : Option Nat} {ty : TypeId} {pos : String} {af : Array Edge} {gd : Option (Nat × Bool)} {d : Nat} {ρ : Operand → AV} {own : Own}
variable {T e : TypeId} {i j : TyI} {x y : Operand}
include hT
theorem dy (hL : ∀ b, (encD b).length = z) (hz : 0 < z) (b0 : β) {k : IntKind} {n : Int} {l : List β} (ht : tt T = some i) (hs : i.sh = .sl e) (he : tt e = some j) (hj : j.size = z) (hx : ρ x = .p (.c (SL encD l))) (hy : ρ y = .p (.c (.v (.int k n)))) (hn : 0 ≤ n ∧ n < l.length) :
  Eff P ⟨dst, .indexAddr T x y, ty, pos, af, gd⟩ d ρ own (.ip (encD (l.getD n.toNat b0) ++ (l.drop (n.toNat + 1)).flatMap encD)) [] none [] := by
 have hi : n.toNat < l.length := by omega
 have h := bW (dst := dst) (ty := ty) (pos := pos) (af := af) (gd := gd) (d := d) (own := own) hT ht hs he hx (l := l.length) (xs := l.flatMap encD) (by rfl) hy hn (by
  intro h0
  have := dq hL l
  rw [h0] at this
  have h1 : 1 * 1 ≤ l.length * z := Nat.mul_le_mul (by omega) hz
  simp at this
  omega)
 rw [hj, oZ hL l n.toNat hi] at h
 have e1 : l.getD n.toNat b0 = l[n.toNat] := by simp [List.getD, hi]
 rw [e1]; exact h
theorem mT (hL : ∀ b, (encD b).length = z) (hz : Nat.blt 0 z = true) {m : Nat} {l : List β} {b : β} (ht : tt T = some i) (hs : i.sh = .sl e) (he : tt e = some j) (hj : j.size = z) (hjb : Nat.ble j.bytes (32 * z) = true) (hx : ρ x = .vec m) (hb : own m = some (VB z e encD l)) (hy : ρ y = .p (.c (.sl 1 (encD b)))) (hfit : l.length ≤ 10000000) (hmd : m ≠ d) (hzb : Nat.ble z 96 = true) :
  Eff P ⟨dst, .call ⟨.builtin .append, #[x, y], #[T, T]⟩, ty, pos, af, gd⟩ d ρ own (.vec d) [(m, none)] (some (VB z e encD (l ++ [b]))) [m] := by
 have hl : (VB z e encD l).cs.length = l.length * z := dq hL l
 have hz2 := bL0 hzb
 have h1 : l.length * z ≤ 10000000 * 96 := Nat.mul_le_mul hfit hz2
 have h := fN (dst := dst) (ty := ty) (pos := pos) (af := af) (gd := gd) hT ht hs he hx hb rfl hj.symm rfl hy (by rfl) (by rw [hj, Nat.one_mul]; exact hL b) (by rw [hj]; exact hjb) (by rw [hl, hj]; omega) (by rw [hj]; exact hz) hmd
 unfold VB
 rw [List.flatMap_append]
 rw [hj] at h
 simpa using h
end
section
variable {β : Type} {encD : β → List DV} {z : Nat}
theorem jL {P : Program} {B : Bool} {N np : Nat} {Q : Exit → St → Prop} {s : St} {c : Code} (hL : ∀ b, (encD b).length = z) (hz : Nat.blt 0 z = true) {t m : Nat} {l : List β} {e : TypeId} (ht : s.regs t = .vec m) (hb : s.own m = some (VB z e encD l)) (h : AWp P B N np c Q ⟨upd s.regs t (.p (.c (SL encD l))), upd s.own m none⟩) : AWp P B N np c Q s :=
 gm (n := l.length) ht hb rfl (dq hL l).symm (show 0 < z by simpa using hz) h
end
section
end
end
section
open Go Go.RowKit
end
section
open Go Go.RowKit
end
section
open Go Go.RowKit
def ow (o s k : Int) : Int := if k % 2 = 1 then o * s else o
theorem pH {c n : Int} (hn : 0 < n) (ho : n % 2 = 1) (hc : c = -4 ∨ c = 8 ∨ c = -8) : kr c n = cv c n := by
 rw [gX hc]
 have h2 : kr 2 n = sg8 n := by
  have hcp := jY (n := n) ho
  rw [gR hn ho, if_pos hcp, r8 hn ho]
 have hm1 : kr (-1) n = if n % 4 = 1 then 1 else -1 := kr_m1 hn ho
 have h4 : kr (-4) n = kr (-1) n * (kr 2 n * kr 2 n) := by rw [← cK hn ho, ← cK hn ho]; rfl
 have h8 : kr 8 n = kr 2 n * (kr 2 n * kr 2 n) := by rw [← cK hn ho, ← cK hn ho]; rfl
 have h8m : kr (-8) n = kr (-1) n * (kr 2 n * (kr 2 n * kr 2 n)) := by rw [← cK hn ho, ← cK hn ho, ← cK hn ho]; rfl
 have hs : sg8 n * sg8 n = 1 := nw ho
 rw [h2, hs] at h4 h8 h8m
 rw [hm1] at h4 h8m
 obtain ⟨r, hr⟩ := lO n
 have key : ∀ r : Fin 8, r.val % 2 = 1 → spv (-4) r.val = (if (r.val : Int) % 4 = 1 then 1 else -1) ∧ spv 8 r.val = sg8 r.val ∧ spv (-8) r.val = (if (r.val : Int) % 4 = 1 then 1 else -1) * sg8 r.val := by decide +kernel
 obtain ⟨k1, k2, k3⟩ := key r (by omega)
 have e4 : n % 4 = (r.val : Int) % 4 := by omega
 have e8 : sg8 n = sg8 r.val := by unfold sg8; rw [hr, show ((r.val : Int)) % 8 = (r.val : Int) by have := r.isLt; omega]
 rw [hr]
 rcases hc with rfl | rfl | rfl
 ·rw [h4, k1, e4, Int.mul_one]
 ·rw [h8, k2, e8, Int.mul_one]
 rw [h8m, k3, e4, e8, Int.mul_one]
where
 kr_m1 {n : Int} (hn : 0 < n) (ho : n % 2 = 1) : kr (-1) n = if n % 4 = 1 then 1 else -1 := by
  have hc : Cop (-1) n := Cop.of_inv (b := -1) ⟨0, by omega⟩
  rw [gR hn ho, if_pos hc]
  exact SS_m1 hn ho
 SS_m1 {n : Int} (hn : 0 < n) (ho : n % 2 = 1) : SS (-1) n = if n % 4 = 1 then 1 else -1 := by
  have e : bC ((rg n).map fun x => up n (-1 * x)) = n / 2 := by
   rw [← qR n hn]
   refine cZ fun x hx => ?_
   have := (eF hn).1 hx
   have e1 : (-1 * x) % n = n - x := by
    rw [← Int.add_emod_right (-1 * x) n, Int.emod_eq_of_lt (by omega) (by omega)]; omega
   unfold up
   rw [e1, if_neg (by omega)]
  rw [r9, e]
  unfold par
  split <;> split <;> omega
end
section
open Go Go.RowKit
theorem Fk {d : Int} {f : Fm} (hf : Cl d f) (hd : -4194304 ≤ d) (hE : szE d = 0) : (gvL f).length = (chs d).length := by
 unfold gvL
 rw [if_pos (rS hf hd hE), hf.disc, List.length_map]
end
section
open Go Go.RowKit
def agL (D n : Int) (f : Fm) : List Int := if Int.gcd (2 * D) n = 1 then (((chs D).zip (gvL f)).filter fun p => decide (cv p.1 n ≠ p.2)).map Prod.fst else []
structure Ans where
 kind : Int
 x : Int
 y : Int
 m : Int
 roots : List Int
 forms : List Fm
def fmL (D n : Int) : List Fm := (rbL D n).map fun b => (frq D n b).rd
def fnd (D : Int) (n : Nat) (f : Fm) : Ans :=
 match dR (prL D n f) with
 | some p => ⟨1, p.1, p.2, 0, [], []⟩
 | none => match blk D n with
  | some q => ⟨2, 0, 0, q, [], []⟩
  | none => match agL D n f with
   | c :: _ => ⟨2, 0, 0, c, [], []⟩
   | [] => ⟨3, 0, 0, 0, rbL D n, fmL D n⟩
section
variable {D : Int} {n : Nat} {f g : Fm}
theorem yS {p : Pr2} (h : dR (prL D n f) = some p) : fnd D n f = ⟨1, p.1, p.2, 0, [], []⟩ := by unfold fnd; rw [h]
theorem CN {q : Nat} (h : dR (prL D n f) = none) (k : blk D n = some q) : fnd D n f = ⟨2, 0, 0, q, [], []⟩ := by unfold fnd; rw [h, k]
theorem FF {c : Int} {l : List Int} (h : dR (prL D n f) = none) (k : blk D n = none) (j : agL D n f = c :: l) : fnd D n f = ⟨2, 0, 0, c, [], []⟩ := by unfold fnd; rw [h, k]; simp only [j]
theorem CM (h : dR (prL D n f) = none) (k : blk D n = none) (j : agL D n f = []) : fnd D n f = ⟨3, 0, 0, 0, rbL D n, fmL D n⟩ := by unfold fnd; rw [h, k]; simp only [j]
end
end
section
open Go Go.RowKit
end
section
open Go Go.RowKit
theorem ov {p r : Nat} (hp : 2 ≤ p) (hr : Nat.gcd p r = 1) (hr0 : 0 < r) : ∀ (f f' a q : Nat), 0 < a → a ≤ f' → a * r ≤ f → (el p f (a * r) q).2 = (el p f' a q).2
 | 0, f', a, q, h0, _, h => by have := Nat.mul_pos h0 hr0; omega
 | f + 1, 0, a, q, h0, h1, _ => by omega
 | f + 1, f' + 1, a, q, h0, h1, h2 => by
  unfold el
  by_cases h : a % p = 0
  ·have hd : p ∣ a := Nat.dvd_of_mod_eq_zero h
   have hd2 : p ∣ a * r := Nat.dvd_trans hd ⟨r, rfl⟩
   rw [if_pos h, if_pos (Nat.mod_eq_zero_of_dvd hd2)]
   have e : a * r / p = a / p * r := by
    rw [Nat.mul_comm, Nat.mul_div_assoc _ hd, Nat.mul_comm]
   have hlt : a / p < a := Nat.div_lt_self h0 (by omega)
   have hpos : 0 < a / p := Nat.div_pos (Nat.le_of_dvd h0 hd) (by omega)
   rw [e]
   refine ov hp hr hr0 f f' (a / p) (q * p) hpos (by omega) ?_
   have : a / p * r < a * r := Nat.mul_lt_mul_of_pos_right hlt hr0
   omega
  have h3 : ¬ a * r % p = 0 := fun x => h (by
   have hd : p ∣ r * a := by rw [Nat.mul_comm]; exact Nat.dvd_of_mod_eq_zero x
   exact Nat.mod_eq_zero_of_dvd (Nat.Coprime.dvd_of_dvd_mul_left hr hd))
  rw [if_neg h, if_neg h3]
theorem EA {p a r : Nat} (hp : 2 ≤ p) (h0 : 0 < a) (hr0 : 0 < r) (hr : Nat.gcd p r = 1) : (ptN p (a * r)).2 = (ptN p a).2 :=
 ov hp hr hr0 (a * r) a a 1 h0 (Nat.le_refl _) (Nat.le_refl _)
theorem BV {p n : Nat} (h : n % p ≠ 0) (hn : 0 < n) : ptN p n = (n, 1) := by
 unfold ptN
 cases n with
 | zero => omega
 | succ n => unfold el; rw [if_neg h]
structure BkI (D : Int) (n0 left p : Nat) : Prop where
 two : 2 ≤ p
 pos : 0 < left
 nd : Nd left p
 ex : ∃ r, n0 = left * r ∧ 0 < r ∧ Nat.gcd left r = 1
 fd : ∃ f, left + 2 ≤ f + p ∧ blk D n0 = (ppL f left p).find? fun (q : Nat) => (rbL D (q : Int)).isEmpty
section
end
end
section
open Go Go.RowKit
def Prm (p : Nat) : Prop := 2 ≤ p ∧ ∀ k, 2 ≤ k → k * k ≤ p → ¬ k ∣ p
theorem BW {p d : Nat} (h : Prm p) (hd : d ∣ p) : d = 1 ∨ d = p := by
 obtain ⟨h2, hk⟩ := h
 obtain ⟨e, he⟩ := hd
 have hd0 : d ≠ 0 := fun x => by rw [x, Nat.zero_mul] at he; omega
 have he0 : e ≠ 0 := fun x => by rw [x, Nat.mul_zero] at he; omega
 rcases Nat.lt_or_ge d 2 with x | x
 ·exact .inl (by omega)
 rcases Nat.lt_or_ge e 2 with y | y
 ·have : e = 1 := by omega
  exact .inr (by rw [he, this, Nat.mul_one])
 exfalso
 rcases Nat.le_total d e with z | z
 ·exact hk d x (by rw [he]; exact Nat.mul_le_mul_left d z) ⟨e, he⟩
 exact hk e y (by rw [he]; exact Nat.mul_le_mul_right e z) ⟨d, by rw [Nat.mul_comm]; exact he⟩
theorem ET {p left : Nat} (hp : 2 ≤ p) (h : Nd left p) (hd : p ∣ left) : Prm p := by
 refine ⟨hp, fun k hk hkk hkd => ?_⟩
 have hlt : k < p := by
  rcases Nat.lt_or_ge k p with x | x
  ·exact x
  have : p * 2 ≤ k * k := Nat.mul_le_mul x hk
  omega
 exact h k hk hlt (Nat.dvd_trans hkd hd)
theorem BX {p p' : Nat} (h : Prm p') (hp : 2 ≤ p) (hlt : p < p') : Nat.gcd p' p = 1 := by
 have h1 : Nat.gcd p' p ∣ p' := Nat.gcd_dvd_left ..
 have h2 : Nat.gcd p' p ∣ p := Nat.gcd_dvd_right ..
 rcases BW h h1 with e | e
 ·exact e
 rw [e] at h2
 have := Nat.le_of_dvd (by omega) h2
 omega
theorem nH {n0 : Nat} : ∀ (f left p : Nat), 2 ≤ p → 0 < left → Nd left p → (∃ r, n0 = left * r ∧ 0 < r ∧ Nat.gcd left r = 1) → left + 2 ≤ f + p →
  ∀ q, q ∈ ppL f left p ↔ ∃ p', p ≤ p' ∧ Prm p' ∧ p' ∣ left ∧ q = (ptN p' n0).2
 | 0, left, p, hp, hl, hd, hr, hf, q => by
  have h1 : left = 1 := by
   rcases Nat.lt_or_ge left 2 with x | x
   ·omega
   exact absurd (Nat.dvd_refl left) (hd left x (by omega))
  subst h1
  refine ⟨fun h => (by cases h), ?_⟩
  rintro ⟨p', h1, h2, h3, _⟩
  have := Nat.le_of_dvd (by decide) h3
  omega
 | f + 1, left, p, hp, hl, hd, hr, hf, q => by
  unfold ppL
  by_cases h : left ≤ 1
  ·rw [if_pos h]
   refine ⟨fun h => (by cases h), ?_⟩
   rintro ⟨p', h1, h2, h3, _⟩
   have := Nat.le_of_dvd hl h3
   omega
  rw [if_neg h]
  by_cases hm : left % p = 0
  ·have hB : BkI 0 left left 2 ∨ True := .inr trivial
   obtain ⟨h1, h2, h3, k, h5⟩ := pA hp hl
   obtain ⟨g1, g2⟩ := uA hp hl hd
   have hdv : p ∣ left := Nat.dvd_of_mod_eq_zero hm
   have hq1 : 1 < (ptN p left).2 := by
    rcases Nat.lt_or_ge 1 (ptN p left).2 with x | x
    ·exact x
    exfalso
    have : 0 < (ptN p left).2 := by rw [h5]; exact Nat.pow_pos (by omega)
    have e : (ptN p left).2 = 1 := by omega
    rw [e, Nat.mul_one] at h2
    rw [h2] at h3
    exact h3 hm
   have hle : (ptN p left).1 ≤ left := Nat.le_of_dvd hl ⟨_, h2.symm⟩
   obtain ⟨r, r1, r2, r3⟩ := hr
   have hpart : (ptN p n0).2 = (ptN p left).2 := by
    rw [r1]
    refine EA hp hl r2 ?_
    have hx : Nat.gcd p r ∣ Nat.gcd left r := Nat.dvd_gcd (Nat.dvd_trans (Nat.gcd_dvd_left ..) hdv) (Nat.gcd_dvd_right ..)
    rw [r3] at hx
    exact Nat.dvd_one.1 hx
   have ih := nH (n0 := n0) f (ptN p left).1 (p + 1) (by omega) h1 g2 ⟨(ptN p left).2 * r, by rw [← Nat.mul_assoc, h2]; exact r1, Nat.mul_pos (by omega) r2, by
    refine Nat.Coprime.mul_right g1 ?_
    have hx : Nat.gcd (ptN p left).1 r ∣ Nat.gcd left r := Nat.dvd_gcd (Nat.dvd_trans (Nat.gcd_dvd_left ..) ⟨_, h2.symm⟩) (Nat.gcd_dvd_right ..)
    rw [r3] at hx
    exact Nat.dvd_one.1 hx⟩ (by omega) q
   rw [if_pos hq1, List.singleton_append, List.mem_cons, ih]
   constructor
   ·rintro (rfl | ⟨p', a1, a2, a3, a4⟩)
    ·exact ⟨p, Nat.le_refl _, ET hp hd hdv, hdv, hpart.symm⟩
    exact ⟨p', by omega, a2, Nat.dvd_trans a3 ⟨_, h2.symm⟩, a4⟩
   rintro ⟨p', a1, a2, a3, a4⟩
   rcases Nat.lt_or_ge p p' with x | x
   ·refine .inr ⟨p', x, a2, ?_, a4⟩
    have hc := nX (BX a2 hp x) k
    rw [← h5] at hc
    rw [← h2] at a3
    exact Nat.Coprime.dvd_of_dvd_mul_right hc a3
   have : p' = p := by omega
   subst this
   exact .inl (by rw [a4, hpart])
  have e := BV hm hl
  rw [e]
  have ih := nH (n0 := n0) f left (p + 1) (by omega) hl (fun e e1 e2 e3 => by
   rcases Nat.lt_or_ge e p with x | x
   ·exact hd e e1 x e3
   have : e = p := by omega
   subst this
   exact hm (Nat.mod_eq_zero_of_dvd e3)) hr (by omega) q
  simp only [Nat.lt_irrefl, if_false, List.nil_append]
  rw [ih]
  constructor
  ·rintro ⟨p', a1, a⟩; exact ⟨p', by omega, a⟩
  rintro ⟨p', a1, a2, a3, a4⟩
  rcases Nat.lt_or_ge p p' with x | x
  ·exact ⟨p', x, a2, a3, a4⟩
  have : p' = p := by omega
  subst this
  exact absurd (Nat.mod_eq_zero_of_dvd a3) hm
theorem vS {n q : Nat} (hn : 0 < n) : q ∈ parts n ↔ ∃ p, Prm p ∧ p ∣ n ∧ q = (ptN p n).2 := by
 unfold parts
 rw [nH (n0 := n) n n 2 (by decide) hn (fun e e1 e2 => by omega) ⟨1, by omega, by decide, by simp⟩ (by omega)]
 constructor
 ·rintro ⟨p, _, a⟩; exact ⟨p, a⟩
 rintro ⟨p, a⟩; exact ⟨p, a.1.1, a⟩
def jE (D : Int) (n : Nat) (f : Fm) (m : Int) : Bool := decide (m ∈ agL D n f) || (decide (m ∈ (parts n).map fun (q : Nat) => (q : Int)) && decide (rbL D m = []))
def iZ (D : Int) (n : Nat) (f : Fm) (roots : List Int) (forms : List Fm) : Bool := decide (rbL D n ≠ []) && decide (roots = rbL D n) && decide (forms = fmL D n) && !decide (f.rd ∈ fmL D n)
def rgt (D : Int) (n : Nat) (f : Fm) (a : Ans) : Bool :=
 if a.kind = 1 then decide (a.m = 0) && decide (a.roots = [] ∧ a.forms = []) && pB f n (a.x, a.y)
 else if a.kind = 2 then decide (a.x = 0 ∧ a.y = 0) && decide (a.roots = [] ∧ a.forms = []) && jE D n f a.m
 else if a.kind = 3 then decide (a.x = 0 ∧ a.y = 0) && decide (a.m = 0) && iZ D n f a.roots a.forms
 else false
end
section
open Go Go.RowKit
section
end
end
section
open Go Go.RowKit
section
end
section
end
end
section
open Go Go.RowKit
abbrev enI (z : Int) : List DV := [zn z, zm z]
theorem eO (z : Int) : (enI z).length = 2 := rfl
end
section
open Go Go.RowKit
section
variable {P : Program} {n0 : Nat} {J : Nat → Hp → (Nat → Prop) → World → Prop} {N np : Nat} {Q : Exit → Nat → St → Prop} {ops : Array Oper} {os : List Oper} {i k : Nat} {s : St}
theorem RY.split {t : Nat} {b : Bool} (_h : s.regs t = .p (.c (.v (.bool b)))) (h1 : b = true → RY P n0 J N np Q ops os i k s) (h2 : b = false → RY P n0 J N np Q ops os i k s) : RY P n0 J N np Q ops os i k s := by
 cases b
 ·exact h2 rfl
 exact h1 rfl
theorem uv {n k : Nat} {b : Bool} (h : b = true) : nx n k b = k + 1 := by rw [h]; rfl
theorem uw {n k : Nat} {b : Bool} (h : b = false) : n ≤ nx n k b := by rw [h]; show n ≤ n + 1 + k; omega
end
theorem C3 (a b : Int) : (bu a b == 0) = decide (a = b) := by
 by_cases h : a = b
 ·rw [decide_eq_true h, cmpI_eq_zero.2 h]; rfl
 rw [decide_eq_false h]
 exact beq_eq_false_iff_ne.2 fun x => h (cmpI_eq_zero.1 x)
theorem BD (a : Int) : (sgn a == 0) = decide (a = 0) := by
 unfold sgn
 by_cases h : a = 0
 ·subst h; rfl
 rw [decide_eq_false h, if_neg h]
 split <;> rfl
def cmP (p q : Pr2) : Int := if bu p.1 q.1 ≠ 0 then bu p.1 q.1 else bu p.2 q.2
def rgE (n : Int) : Int := if n < 1 then 1 else if 65536 < n then 2 else 0
theorem G5 {n : Int} (h : n < 1) : rgE n = 1 := by unfold rgE; rw [if_pos h]
theorem G4 {n : Int} (h : 65536 < n) : rgE n = 2 := by unfold rgE; rw [if_neg (by omega), if_pos h]
theorem ug {n : Int} (h1 : ¬ n < 1) (h2 : ¬ 65536 < n) : rgE n = 0 := by unfold rgE; rw [if_neg h1, if_neg h2]
theorem mL {D : Int} {m : Nat} : ∀ x ∈ (rbL D m).map (fun b => ([PI b, PF (frq D m b)] : List PV)), x.length = 2 := by
 intro x hx
 obtain ⟨b, _, rfl⟩ := List.mem_map.1 hx
 rfl
theorem Hn {D : Int} {m k : Nat} {x : List PV} (h : ((rbL D m).map (fun b => ([PI b, PF (frq D m b)] : List PV)))[k]? = some x) : decide (rbL D m = []) = false :=
 decide_eq_false fun e => by rw [e] at h; cases h
theorem mN {D : Int} {m k : Nat} {x : List PV} (h : ((rbL D m).map (fun b => ([PI b, PF (frq D m b)] : List PV)))[k]? = some x) : ∃ b, (rbL D m)[k]? = some b ∧ x = [PI b, PF (frq D m b)] := by
 rw [List.getElem?_map] at h
 cases e : (rbL D (m : Int))[k]? with
 | none => rw [e] at h; cases h
 | some b => rw [e] at h; exact ⟨b, rfl, (Option.some.inj h).symm⟩
theorem mM (D : Int) (m : Nat) (hm : m ≤ 65536) : (rbL D m).length ≤ 131072 := by
 have : (rbL D m).length ≤ (2 * (m : Int)).toNat := by
  unfold rbL
  exact Nat.le_trans (List.length_filter_le _ _) (by rw [List.length_map, List.length_range]; exact Nat.le_refl _)
 omega
theorem Ab {D : Int} {m k : Nat} {b : Int} (h : (rbL D m)[k]? = some b) : (rbL D m).take (k + 1) = (rbL D m).take k ++ [b] := by
 obtain ⟨hk, e⟩ := List.getElem?_eq_some_iff.1 h
 rw [List.take_succ_eq_append_getElem hk, e]
theorem Es {D : Int} {m : Nat} : (rbL D m).take ((rbL D m).map (fun b => ([PI b, PF (frq D m b)] : List PV))).length = rbL D m := by
 rw [List.length_map, List.take_length]
theorem wB (D : Int) (m : Nat) (hm : m ≤ 65536) : (fmL D m).length ≤ 131072 := by
 unfold fmL; rw [List.length_map]; exact mM D m hm
theorem HU {D : Int} {m k : Nat} {b : Int} (h : (rbL D m)[k]? = some b) : (fmL D m).take (k + 1) = (fmL D m).take k ++ [(frq D m b).rd] := by
 unfold fmL
 rw [← List.map_take, ← List.map_take, Ab h, List.map_append]; rfl
theorem FH {D : Int} {m : Nat} : (fmL D m).take ((rbL D m).map (fun b => ([PI b, PF (frq D m b)] : List PV))).length = fmL D m := by
 rw [List.length_map]; unfold fmL; rw [← List.map_take, List.take_length]
theorem Er {D : Int} {m : Nat} (h : ((rbL D m).map (fun b => ([PI b, PF (frq D m b)] : List PV))).length = 0) : decide (rbL D m = []) = true :=
 decide_eq_true (by simpa using h)
def rbT (D n : Int) (i : Nat) : List Int := ((List.range i).map fun (j : Nat) => (j : Int)).filter (isR D n)
theorem py {D n : Int} {i : Nat} : rbT D n (i + 1) = rbT D n i ++ if isR D n i = true then [(i : Int)] else [] := by
 unfold rbT
 rw [List.range_succ, List.map_append, List.filter_append]
 congr 1
 simp only [List.map_cons, List.map_nil, List.filter_cons, List.filter_nil]
theorem vG {D n : Int} {i : Nat} (h : isR D n i = false) : (rbT D n (i + 1)).length = (rbT D n i).length := by
 rw [py, h]; simp
theorem BO {D n : Int} {i : Nat} (h : isR D n i = true) : (rbT D n (i + 1)).length = (rbT D n i).length + 1 := by
 rw [py, h]; simp
theorem sY {D n : Int} : rbT D n (2 * n).toNat = rbL D n := rfl
theorem BP {D n : Int} {i j : Nat} (h : i ≤ j) : ∃ l, rbT D n j = rbT D n i ++ l := by
 obtain ⟨d, rfl⟩ : ∃ d, j = i + d := ⟨j - i, by omega⟩
 clear h
 induction d with
 | zero => exact ⟨[], by simp⟩
 | succ d ih =>
  obtain ⟨l, hl⟩ := ih
  refine ⟨l ++ (if isR D n ((i + d : Nat) : Int) = true then [((i + d : Nat) : Int)] else []), ?_⟩
  rw [← Nat.add_assoc, py, hl, List.append_assoc]
theorem BQ {D n : Int} {i : Nat} (h : isR D n i = true) (hi : (i : Int) < 2 * n) : (rbL D n)[(rbT D n i).length]? = some (i : Int) := by
 obtain ⟨l, hl⟩ := BP (D := D) (n := n) (i := i + 1) (j := (2 * n).toNat) (by omega)
 rw [← sY, hl, py, if_pos h, List.append_assoc, List.getElem?_append_right (Nat.le_refl _), Nat.sub_self]
 rfl
theorem CE {D n : Int} {b : Int} (h : ¬ b * b % (4 * n) = D % (4 * n)) : isR D n b = false := by
 unfold isR; rw [decide_eq_false h]; rfl
theorem CC {D n : Int} {b : Int} (h : prim n b ((b * b - D) / (4 * n)) = false) : isR D n b = false := by
 unfold isR; rw [h, Bool.and_false]
theorem CA {D n : Int} {b : Int} (h1 : b * b % (4 * n) = D % (4 * n)) (h : prim n b ((b * b - D) / (4 * n)) = true) : isR D n b = true := by
 unfold isR; rw [h, decide_eq_true h1]; rfl
end
section
open Go Go.RowKit
section
variable {α β : Type}
theorem ee {l : List α} {k : Nat} {x : α} (h : l[k]? = some x) : l.take (k + 1) = l.take k ++ [x] := by
 rw [List.take_add_one, h]; rfl
theorem nQ {l : List α} {k : Nat} {x : α} (h : l[k]? = some x) : ∃ r, l = l.take k ++ x :: r := by
 obtain ⟨hk, e⟩ := List.getElem?_eq_some_iff.1 h
 refine ⟨l.drop (k + 1), ?_⟩
 rw [← e, List.getElem_cons_drop, List.take_append_drop]
def ez (p : α → Bool) (l : List α) (k : Nat) : Nat := ((l.take k).filter p).length
theorem yU {p : α → Bool} {l : List α} {k : Nat} {x : α} (h : l[k]? = some x) (hp : p x = true) : ez p l (k + 1) = ez p l k + 1 := by
 unfold ez
 rw [ee h, List.filter_append, List.length_append, List.filter_cons, if_pos hp]
 rfl
theorem CQ {p : α → Bool} {l : List α} {k : Nat} {x : α} (h : l[k]? = some x) (hp : p x = false) : ez p l (k + 1) = ez p l k := by
 unfold ez
 rw [ee h, List.filter_append, List.length_append, List.filter_cons, if_neg (by rw [hp]; decide)]
 rfl
theorem yV {p : α → Bool} {l : List α} {k : Nat} {x : α} (h : l[k]? = some x) (hp : p x = true) : (l.filter p)[ez p l k]? = some x := by
 obtain ⟨r, e⟩ := nQ h
 have : l.filter p = (l.take k).filter p ++ x :: r.filter p := by
  conv => lhs; rw [e]
  rw [List.filter_append, List.filter_cons, if_pos hp]
 rw [this]
 unfold ez
 rw [List.getElem?_append_right (Nat.le_refl _), Nat.sub_self]
 rfl
theorem yW {p : α → Bool} {l : List α} {k : Nat} (h : l.length ≤ k) : ez p l k = (l.filter p).length := by
 unfold ez; rw [List.take_of_length_le h]
def fmN (G : α → List β) (l : List α) (k : Nat) : Nat := ((l.take k).flatMap G).length
theorem fmN_0 {G : α → List β} {l : List α} : fmN G l 0 = 0 := by unfold fmN; simp
theorem Ao {G : α → List β} {l : List α} {k : Nat} {x : α} (h : l[k]? = some x) : fmN G l (k + 1) = fmN G l k + (G x).length := by
 unfold fmN
 rw [ee h, List.flatMap_append, List.length_append]
 simp
theorem CO {G : α → List β} {l : List α} {k j : Nat} {x : α} {y : β} (h : l[k]? = some x) (hy : (G x)[j]? = some y) : (l.flatMap G)[fmN G l k + j]? = some y := by
 obtain ⟨r, e⟩ := nQ h
 have : l.flatMap G = (l.take k).flatMap G ++ (G x ++ r.flatMap G) := by
  conv => lhs; rw [e]
  rw [List.flatMap_append, List.flatMap_cons]
 rw [this]
 unfold fmN
 rw [List.getElem?_append_right (Nat.le_add_right _ _), Nat.add_sub_cancel_left, List.getElem?_append_left (List.getElem?_eq_some_iff.1 hy).1, hy]
theorem CP {G : α → List β} {l : List α} : fmN G l l.length = (l.flatMap G).length := by
 unfold fmN; rw [List.take_length]
end
def atV (m n : Int) : Int := if m = -4 then 2 - n % 4 else if m = 8 then kr 2 n else if m = -8 then kr (-2) n else kr n m
theorem Ig {m n : Int} (h : m = -4) : 2 - n % 4 = atV m n := by unfold atV; rw [if_pos h]
theorem If {m n : Int} (h : m = 8) : kr 2 n = atV m n := by unfold atV; rw [if_neg (by omega), if_pos h]
theorem Ie {m n : Int} (h : m = -8) : kr (-2) n = atV m n := by unfold atV; rw [if_neg (by omega), if_neg (by omega), if_pos h]
theorem Ic {m n : Int} (h1 : ¬ m = -4) (h2 : ¬ m = 8) (h3 : ¬ m = -8) : kr n m = atV m n := by unfold atV; rw [if_neg h1, if_neg h2, if_neg h3]
theorem Gb {m n : Int} (hn : 0 < n) (ho : n % 2 = 1) : atV m n = cv m n := by
 have h2 : kr 2 n = sg8 n := by
  have hcp := jY (n := n) ho
  rw [gR hn ho, if_pos hcp, r8 hn ho]
 have hs : sg8 n * sg8 n = 1 := nw ho
 have hm1 : kr (-1) n = if n % 4 = 1 then 1 else -1 := by
  have := pH hn ho (c := -4) (.inl rfl)
  have h4 : kr (-4) n = kr (-1) n * (kr 2 n * kr 2 n) := by rw [← cK hn ho, ← cK hn ho]; rfl
  rw [h2, hs, Int.mul_one] at h4
  rw [← h4, this, gX (.inl rfl)]
  have : n % 8 = 1 ∨ n % 8 = 3 ∨ n % 8 = 5 ∨ n % 8 = 7 := by omega
  rcases this with e | e | e | e
  ·rw [e, if_pos (by omega)]; decide
  ·rw [e, if_neg (by omega)]; decide
  ·rw [e, if_pos (by omega)]; decide
  rw [e, if_neg (by omega)]; decide
 unfold atV
 split
 ·next h =>
  subst h
  have h4 : kr (-4) n = kr (-1) n * (kr 2 n * kr 2 n) := by rw [← cK hn ho, ← cK hn ho]; rfl
  rw [h2, hs, Int.mul_one, pH hn ho (.inl rfl), hm1] at h4
  rw [h4]; split <;> omega
 split
 ·next h =>
  subst h
  have h8 : kr 8 n = kr 2 n * (kr 2 n * kr 2 n) := by rw [← cK hn ho, ← cK hn ho]; rfl
  rw [pH hn ho (.inr (.inl rfl)), h2, hs, Int.mul_one] at h8
  rw [h8, h2]
 split
 ·next h =>
  subst h
  have h8 : kr (-8) n = kr (-1) n * (kr 2 n * (kr 2 n * kr 2 n)) := by rw [← cK hn ho, ← cK hn ho, ← cK hn ho]; rfl
  have hm2 : kr (-2) n = kr (-1) n * kr 2 n := by rw [← cK hn ho]; rfl
  rw [pH hn ho (.inr (.inr rfl)), h2, hs, Int.mul_one] at h8
  rw [h8, hm2, h2]
 next h1 h2 h3 =>
 unfold cv
 rw [if_neg (by omega)]
abbrev enP (p : Pr2) : List DV := [zn p.1, zm p.1, zn p.2, zm p.2]
theorem gE (p : Pr2) : (enP p).length = 4 := rfl
theorem gi {p q : Pr2} : cmP p q < 0 ↔ p.1 < q.1 ∨ (p.1 = q.1 ∧ p.2 < q.2) := by
 unfold cmP
 split
 ·next h =>
  rw [cmpI_lt_zero]
  have : p.1 ≠ q.1 := fun e => h (cmpI_eq_zero.2 e)
  constructor
  ·exact .inl
  rintro (h | h)
  ·exact h
  exact absurd h.1 this
 next h =>
 have e : p.1 = q.1 := cmpI_eq_zero.1 (Decidable.not_not.1 h)
 rw [cmpI_lt_zero]
 constructor
 ·exact fun h => .inr ⟨e, h⟩
 rintro (h | h)
 ·omega
 exact h.2
theorem C4 : Sort.SWO (Proofs.ltOf cmP) where
 irrefl x := by unfold Proofs.ltOf; rw [decide_eq_false_iff_not, gi]; omega
 trans x y z := by unfold Proofs.ltOf; rw [decide_eq_true_iff, decide_eq_true_iff, decide_eq_true_iff, gi, gi, gi]; omega
 ntrans x y z := by unfold Proofs.ltOf; rw [decide_eq_false_iff_not, decide_eq_false_iff_not, decide_eq_false_iff_not, gi, gi, gi]; omega
theorem zc {x y : Pr2} (h1 : ¬ cmP x y < 0) (h2 : ¬ cmP y x < 0) : x = y := by
 rw [gi] at h1 h2
 obtain ⟨a, b⟩ := x
 obtain ⟨c, d⟩ := y
 simp only at h1 h2
 have e1 : a = c := by omega
 have e2 : b = d := by omega
 subst e1 e2
 rfl
theorem Bv {l : List Pr2} (h : mw l) : l.Pairwise fun x y => ¬ cmP y x < 0 :=
 List.Pairwise.imp (fun {x y} k => by have := lt2_iff.1 k; rw [gi]; omega) h
theorem oX {p : Pr2} : ∀ l : List Pr2, (ik p l).Perm (p :: l)
 | [] => List.Perm.refl _
 | q :: l => by
  unfold ik
  split
  ·exact ((oX l).cons q).trans (List.Perm.swap p q l)
  exact List.Perm.refl _
theorem p5 : ∀ l : List Pr2, (srP l).Perm l
 | [] => List.Perm.refl _
 | p :: l => (oX _).trans ((p5 l).cons p)
end
section
open Go Go.RowKit
def PtI (p n m q : Nat) : Prop := 0 < m ∧ 0 < q ∧ m * q ≤ n ∧ ∃ f, m ≤ f ∧ el p f m q = ptN p n
theorem PtI.start {p n : Nat} (hn : 0 < n) : PtI p n n 1 := ⟨hn, by decide, by omega, n, Nat.le_refl _, rfl⟩
theorem PtI.next {p n m q : Nat} (hp : 2 ≤ p) (h : PtI p n m q) (hm : m % p = 0) : PtI p n (m / p) (q * p) ∧ m / p < m ∧ q * p ≤ n := by
 obtain ⟨h1, h2, h3, f, h4, h5⟩ := h
 have hd : p ∣ m := Nat.dvd_of_mod_eq_zero hm
 have hpm : p ≤ m := Nat.le_of_dvd h1 hd
 have k1 : 0 < m / p := Nat.div_pos hpm (by omega)
 have k2 : m / p < m := Nat.div_lt_self h1 (by omega)
 have k3 := Nat.div_mul_cancel hd
 have e : m / p * (q * p) = m * q := by
  calc m / p * (q * p) = m / p * p * q := by rw [Nat.mul_comm q p, Nat.mul_assoc]
   _ = m * q := by rw [k3]
 have hq : q * p ≤ n := by
  have : 1 * (q * p) ≤ m / p * (q * p) := Nat.mul_le_mul_right _ k1
  omega
 refine ⟨⟨k1, Nat.mul_pos h2 (by omega), by omega, ?_⟩, k2, hq⟩
 cases f with
 | zero => omega
 | succ f =>
  refine ⟨f, by omega, ?_⟩
  rw [← h5]
  conv => rhs; unfold el
  rw [if_pos hm]
theorem PtI.done {p n m q : Nat} (h : PtI p n m q) (hm : ¬ m % p = 0) : m = (ptN p n).1 ∧ q = (ptN p n).2 := by
 obtain ⟨h1, h2, h3, f, h4, h5⟩ := h
 cases f with
 | zero => omega
 | succ f =>
  rw [← h5]
  unfold el
  rw [if_neg hm]
  exact ⟨rfl, rfl⟩
theorem PtI.b {p n m q : Nat} (h : PtI p n m q) : 0 < m ∧ m ≤ n ∧ 0 < q ∧ q ≤ n := by
 obtain ⟨h1, h2, h3, _⟩ := h
 have a1 : m * 1 ≤ m * q := Nat.mul_le_mul_left _ h2
 have a2 : 1 * q ≤ m * q := Nat.mul_le_mul_right _ h1
 omega
structure PaI (n0 m p d : Nat) : Prop where
 two : 2 ≤ p
 pos : 0 < m
 le : m ≤ n0
 nd : Nd m p
 ex : ∃ done f, parts n0 = done ++ ppL f m p ∧ done.length = d ∧ m + 2 ≤ f + p
theorem PaI.start {n : Nat} (hn : 0 < n) : PaI n n 2 0 := ⟨Nat.le_refl _, hn, Nat.le_refl _, fun e h1 h2 => by omega, [], n, rfl, rfl, Nat.le_refl _⟩
theorem PaI.ple {n0 m p d : Nat} (h : PaI n0 m p d) (hm : 1 < m) : p ≤ m := by
 rcases Nat.lt_or_ge m p with x | x
 ·exact absurd (Nat.dvd_refl m) (h.nd m hm x)
 exact x
theorem Ae {f m p : Nat} (h : 1 < m) : ppL (f + 1) m p = (if 1 < (ptN p m).2 then [(ptN p m).2] else []) ++ ppL f (ptN p m).1 (p + 1) := by
 conv => lhs; unfold ppL
 rw [if_neg (by omega)]
theorem Hv {f m p : Nat} (h : ¬ 1 < m) : ppL f m p = [] := by
 cases f with
 | zero => rfl
 | succ f => unfold ppL; rw [if_pos (by omega)]
theorem PaI.pt1 {n0 m p d : Nat} (h : PaI n0 m p d) : 0 < (ptN p m).1 ∧ (ptN p m).1 ≤ m := by
 obtain ⟨h1, h2, h3, k, h4⟩ := pA h.two h.pos
 exact ⟨h1, Nat.le_of_dvd h.pos ⟨_, h2.symm⟩⟩
theorem PaI.yes {n0 m p d : Nat} (h : PaI n0 m p d) (hm : 1 < m) (hq : 1 < (ptN p m).2) : (parts n0)[d]? = some (ptN p m).2 ∧ PaI n0 (ptN p m).1 (p + 1) (d + 1) := by
 have hp := h.ple hm
 obtain ⟨k1, k2⟩ := h.pt1
 obtain ⟨done, f, h1, h2, h3⟩ := h.ex
 cases f with
 | zero => omega
 | succ f =>
  rw [Ae hm, if_pos hq] at h1
  refine ⟨?_, ⟨by have := h.two; omega, k1, by have := h.le; omega, (uA h.two h.pos h.nd).2, done ++ [(ptN p m).2], f, ?_, by rw [List.length_append, h2]; rfl, by omega⟩⟩
  ·rw [h1, List.getElem?_append_right (by omega), h2, Nat.sub_self]; rfl
  rw [h1]; simp
theorem PaI.no {n0 m p d : Nat} (h : PaI n0 m p d) (hm : 1 < m) (hq : ¬ 1 < (ptN p m).2) : PaI n0 (ptN p m).1 (p + 1) d := by
 have hp := h.ple hm
 obtain ⟨k1, k2⟩ := h.pt1
 obtain ⟨done, f, h1, h2, h3⟩ := h.ex
 cases f with
 | zero => omega
 | succ f =>
  rw [Ae hm, if_neg hq] at h1
  exact ⟨by have := h.two; omega, k1, by have := h.le; omega, (uA h.two h.pos h.nd).2, done, f, by rw [h1]; simp, h2, by omega⟩
theorem PaI.done {n0 m p d : Nat} (h : PaI n0 m p d) (hm : ¬ 1 < m) : (parts n0).length = d := by
 obtain ⟨done, f, h1, h2, h3⟩ := h.ex
 rw [h1, Hv hm, List.append_nil, h2]
theorem B3 {n q : Nat} (hn : 0 < n) (h : q ∈ parts n) : 2 ≤ q ∧ q ≤ n := by
 obtain ⟨p, h1, h2, rfl⟩ := (vS hn).1 h
 obtain ⟨k1, k2, k3, k, k4⟩ := pA h1.1 hn
 have hd : (ptN p n).2 ∣ n := ⟨_, by rw [Nat.mul_comm]; exact k2.symm⟩
 refine ⟨?_, Nat.le_of_dvd hn hd⟩
 cases k with
 | zero =>
  rw [Nat.pow_zero] at k4
  rw [k4, Nat.mul_one] at k2
  rw [k2] at k3
  exact absurd (Nat.mod_eq_zero_of_dvd h2) k3
 | succ k =>
  rw [k4, Nat.pow_succ]
  have := h1.1
  have : 1 * p ≤ p ^ k * p := Nat.mul_le_mul_right _ (Nat.pow_pos (by omega))
  omega
end
section
open Go Go.RowKit
def bk : Option Pr2 → Int
 | none => 0
 | some _ => 1
def bx (b : Option Pr2) : Int := (b.getD (0, 0)).1
def by_ (b : Option Pr2) : Int := (b.getD (0, 0)).2
theorem Ji {b : Option Pr2} (h : bk b = 0) : b = none := by
 cases b
 ·rfl
 cases h
theorem zg {b : Option Pr2} (h : ¬ bk b = 0) : b = some (bx b, by_ b) := by
 cases b
 ·exact absurd rfl h
 rfl
theorem pZ {b : Option Pr2} {p : Pr2} (h : p.2 < 0 ∨ (p.2 = 0 ∧ p.1 < 0)) : fT b p = b := by
 unfold fT okP
 rw [if_neg (by simp only [decide_eq_true_eq]; omega)]
theorem vv {p : Pr2} (h : ¬ p.2 < 0) (h2 : ¬ (p.2 = 0 ∧ p.1 < 0)) : okP p = true := by
 unfold okP; rw [decide_eq_true_eq]; omega
theorem z7 {b : Option Pr2} {p : Pr2} (ho : okP p = true) (h : bk b = 0) : fT b p = some p := by
 rw [Ji h]; unfold fT; rw [if_pos ho]
theorem pq {b : Option Pr2} {p : Pr2} (ho : okP p = true) (h : ¬ bk b = 0) (hy : p.2 < by_ b ∨ (p.2 = by_ b ∧ p.1 < bx b)) : fT b p = some p := by
 rw [zg h]; unfold fT; rw [if_pos ho]
 show (if btr p (bx b, by_ b) = true then some p else _) = some p
 rw [if_pos]
 unfold btr; rw [decide_eq_true_eq]; exact hy
theorem px {b : Option Pr2} {p : Pr2} (ho : okP p = true) (h : ¬ bk b = 0) (hy : ¬ (p.2 < by_ b ∨ (p.2 = by_ b ∧ p.1 < bx b))) : fT b p = b := by
 rw [zg h]; unfold fT; rw [if_pos ho]
 show (if btr p (bx b, by_ b) = true then some p else some (bx b, by_ b)) = _
 rw [if_neg]
 unfold btr; rw [decide_eq_true_eq]; exact hy
def dc (l : List Pr2) (k : Nat) : Option Pr2 := (l.take k).foldl fT none
theorem C9 (l : List Pr2) : dc l 0 = none := by unfold dc; simp
theorem dU {l : List Pr2} {k : Nat} {p : Pr2} (h : l[k]? = some p) : dc l (k + 1) = fT (dc l k) p := by
 unfold dc; rw [ee h, List.foldl_append]; rfl
theorem wX {l : List Pr2} {k : Nat} (h : l.length ≤ k) : dc l k = dR l := by
 unfold dc; rw [List.take_of_length_le h]; rfl
theorem BJ {D : Int} {n : Nat} {f : Fm} {m : Int} (ha : m ∈ agL D n f) : jE D n f m = true := by
 unfold jE; rw [decide_eq_true ha, Bool.true_or]
end
section
open Go Go.RowKit
def anS (a : Ans) : List DV := [.v (.int .i64 a.kind), zn a.x, zm a.x, zn a.y, zm a.y, zn a.m, zm a.m, SL enI a.roots, FS a.forms]
abbrev Rw := Bool × List Nat
abbrev rC (r : Rw) : List DV := [.v (.bool r.1), W r.2]
theorem mO (r : Rw) : (rC r).length = 2 := rfl
def rV (r : Rw) : Bool := if r.2 = [] then !r.1 else decide (r.2.getD (r.2.length - 1) 0 ≠ 0)
def rZ (r : Rw) : Int := sg r.1 (wv r.2)
theorem vJ {r : Rw} (h : r.2 ≠ []) (hv : rV r = true) : 0 < wv r.2 := by
 unfold rV at hv
 rw [if_neg h, decide_eq_true_eq] at hv
 have hl : 0 < r.2.length := List.length_pos_iff.2 h
 rcases Nat.eq_zero_or_pos (wv r.2) with e | e
 ·exfalso
  have hs := dX r.2 (r.2.length - 1) (by omega)
  have hd : r.2.drop (r.2.length - 1) = [r.2.getD (r.2.length - 1) 0] := by
   rw [List.drop_eq_getElem_cons (by omega), show r.2.length - 1 + 1 = r.2.length by omega, List.drop_length, List.getD_eq_getElem?_getD, List.getElem?_eq_getElem (by omega)]
   rfl
  rw [hd] at hs
  have : wv [r.2.getD (r.2.length - 1) 0] = r.2.getD (r.2.length - 1) 0 := by simp [wv]
  rw [this] at hs
  have hp : 0 < 4294967296 ^ (r.2.length - 1) * r.2.getD (r.2.length - 1) 0 := Nat.mul_pos (Nat.pow_pos (by decide)) (by omega)
  omega
 exact e
theorem mm {r : Rw} (ho : okW r.2) (hv : rV r = true) : rC r = enI (rZ r) := by
 obtain ⟨neg, ws⟩ := r
 have e1 : (rZ (neg, ws)).natAbs = wv ws := by
  unfold rZ sg
  split <;> simp
 have e2 : wl (wv ws) = ws := by
  refine mB ho ?_
  by_cases h : ws = []
  ·left; rw [h]; rfl
  right
  unfold rV at hv
  rw [if_neg h, decide_eq_true_eq] at hv
  exact hv
 have e3 : decide (rZ (neg, ws) < 0) = neg := by
  by_cases h : ws = []
  ·subst h
   have : neg = false := by unfold rV at hv; simpa using hv
   subst this
   rfl
  have := vJ (r := (neg, ws)) h hv
  simp only at this
  unfold rZ sg
  cases neg
  ·rw [if_neg (fun x => by cases x)]; exact decide_eq_false (by omega)
  rw [if_pos rfl]; exact decide_eq_true (by show -((wv ws : Nat) : Int) < 0; omega)
 show [DV.v (.bool neg), W ws] = [DV.v (.bool (decide (rZ (neg, ws) < 0))), W (wl (rZ (neg, ws)).natAbs)]
 rw [e3, e1, e2]
theorem yb {r : Rw} (hv : rV r = true) : decide (r.2 = []) = decide (rZ r = 0) := by
 rw [decide_eq_decide]
 constructor
 ·intro h
  unfold rZ sg
  rw [h]
  split <;> simp [wv]
 intro h
 by_cases k : r.2 = []
 ·exact k
 have := vJ k hv
 exfalso
 unfold rZ sg at h
 split at h <;> omega
def dS (z : Int) : Rw := (decide (z < 0), wl z.natAbs)
theorem ui (z : Int) : rZ (dS z) = z := by
 unfold rZ dS sg
 simp only [bJ, decide_eq_true_eq]
 split <;> omega
theorem Hq (z : Int) : rV (dS z) = true := by
 unfold rV dS
 simp only
 split
 ·next h =>
  have : z.natAbs = 0 := lA (by rw [h]; rfl)
  rw [Bool.not_eq_true', decide_eq_false_iff_not]; omega
 next h =>
 rw [decide_eq_true_eq]
 have := nq h
 rw [List.getLast_eq_getElem] at this
 rw [List.getD_eq_getElem?_getD, List.getElem?_eq_getElem (by have := List.length_pos_iff.2 h; omega)]
 exact this
theorem EN (z : Int) : okW (dS z).2 := bS _
abbrev RF := Rw × Rw × Rw
abbrev rfC (f : RF) : List DV := rC f.1 ++ (rC f.2.1 ++ rC f.2.2)
theorem BK (f : RF) : (rfC f).length = 6 := rfl
structure RA where
 kind : Int
 x : Rw
 y : Rw
 m : Rw
 roots : List Rw
 forms : List RF
def raS (a : RA) : List DV := [.v (.int .i64 a.kind), .v (.bool a.x.1), W a.x.2, .v (.bool a.y.1), W a.y.2, .v (.bool a.m.1), W a.m.2, SL rC a.roots, SL rfC a.forms]
def rfL (f : RF) : List Rw := [f.1, f.2.1, f.2.2]
def RA.nums (a : RA) : List Rw := [a.x, a.y, a.m] ++ a.roots ++ a.forms.flatMap rfL
def RA.ans (a : RA) : Ans := ⟨a.kind, rZ a.x, rZ a.y, rZ a.m, a.roots.map rZ, a.forms.map fun f => ⟨rZ f.1, rZ f.2.1, rZ f.2.2⟩⟩
theorem tF : ∀ {l : List Rw}, (∀ r ∈ l, okW r.2 ∧ rV r = true) → l.flatMap rC = (l.map rZ).flatMap enI
 | [], _ => rfl
 | r :: l, h => by
  rw [List.flatMap_cons, List.map_cons, List.flatMap_cons, tF fun r hr => h r (by simp [hr]), mm (h r (by simp)).1 (h r (by simp)).2]
theorem rr : ∀ {l : List RF}, (∀ f ∈ l, ∀ r ∈ rfL f, okW r.2 ∧ rV r = true) → l.flatMap rfC = (l.map fun f => (⟨rZ f.1, rZ f.2.1, rZ f.2.2⟩ : Fm)).flatMap FC
 | [], _ => rfl
 | f :: l, h => by
  have h1 := h f (by simp)
  rw [List.flatMap_cons, List.map_cons, List.flatMap_cons, rr fun f hf => h f (by simp [hf])]
  show rC f.1 ++ (rC f.2.1 ++ rC f.2.2) ++ _ = _
  rw [mm (h1 f.1 (by simp [rfL])).1 (h1 f.1 (by simp [rfL])).2, mm (h1 f.2.1 (by simp [rfL])).1 (h1 f.2.1 (by simp [rfL])).2, mm (h1 f.2.2 (by simp [rfL])).1 (h1 f.2.2 (by simp [rfL])).2]
  rfl
theorem sZ {a : RA} (h : ∀ r ∈ a.nums, okW r.2 ∧ rV r = true) : raS a = anS a.ans := by
 have hm : ∀ r, r = a.x ∨ r = a.y ∨ r = a.m → okW r.2 ∧ rV r = true := fun r hr => h r (by
  unfold RA.nums; rcases hr with rfl | rfl | rfl <;> simp)
 have e1 := mm (hm a.x (.inl rfl)).1 (hm a.x (.inl rfl)).2
 have e2 := mm (hm a.y (.inr (.inl rfl))).1 (hm a.y (.inr (.inl rfl))).2
 have e3 := mm (hm a.m (.inr (.inr rfl))).1 (hm a.m (.inr (.inr rfl))).2
 have e4 := tF (l := a.roots) fun r hr => h r (by unfold RA.nums; simp [hr])
 have e5 := rr (l := a.forms) fun f hf r hr => h r (by
  unfold RA.nums
  rw [List.mem_append]
  exact .inr (List.mem_flatMap.2 ⟨f, hf, hr⟩))
 simp only [List.cons.injEq, and_true] at e1 e2 e3
 unfold raS anS RA.ans SL FS
 rw [e1.1, e1.2, e2.1, e2.2, e3.1, e3.2, e4, e5]
 simp
def rgA (D : Int) (n : Nat) (f : Fm) (a : RA) : Bool := a.nums.all rV && rgt D n f a.ans
def je (a : Ans) : RA := ⟨a.kind, dS a.x, dS a.y, dS a.m, a.roots.map dS, a.forms.map fun f => (dS f.a, dS f.b, dS f.c)⟩
theorem qj (a : Ans) : (je a).ans = a := by
 unfold je RA.ans
 simp only [ui, List.map_map]
 have e1 : a.roots.map (rZ ∘ dS) = a.roots := by
  rw [show (rZ ∘ dS) = id from funext ui, List.map_id]
 have e2 : a.forms.map ((fun f : RF => (⟨rZ f.1, rZ f.2.1, rZ f.2.2⟩ : Fm)) ∘ fun f : Fm => (dS f.a, dS f.b, dS f.c)) = a.forms := by
  have : ((fun f : RF => (⟨rZ f.1, rZ f.2.1, rZ f.2.2⟩ : Fm)) ∘ fun f : Fm => (dS f.a, dS f.b, dS f.c)) = id := by
   funext f; simp [ui]
  rw [this, List.map_id]
 rw [e1, e2]
theorem nE (a : Ans) : ∀ r ∈ (je a).nums, okW r.2 ∧ rV r = true := by
 intro r hr
 have : ∃ z, r = dS z := by
  unfold RA.nums je at hr
  simp only [List.mem_append, List.mem_cons, List.not_mem_nil, or_false, List.mem_map, List.mem_flatMap] at hr
  rcases hr with ((h | h | h) | ⟨z, _, h⟩) | ⟨f, ⟨g, _, rfl⟩, h⟩
  ·exact ⟨_, h⟩
  ·exact ⟨_, h⟩
  ·exact ⟨_, h⟩
  ·exact ⟨z, h.symm⟩
  simp only [rfL, List.mem_cons, List.not_mem_nil, or_false] at h
  rcases h with h | h | h <;> exact ⟨_, h⟩
 obtain ⟨z, rfl⟩ := this
 exact ⟨EN z, Hq z⟩
theorem Ev (a : Ans) : raS (je a) = anS a := by rw [sZ (nE a), qj]
theorem Ee {D : Int} {n : Nat} {f : Fm} (a : Ans) : rgA D n f (je a) = rgt D n f a := by
 unfold rgA
 rw [qj, List.all_eq_true.2 fun r hr => (nE a r hr).2, Bool.true_and]
end
section
open Go Go.RowKit
theorem yZ : fnd (-23) 3 ⟨2, 1, 3⟩ = ⟨1, 0, 1, 0, [], []⟩ := by kernel_rfl
theorem CR : fnd (-23) 5 ⟨2, 1, 3⟩ = ⟨2, 0, 0, 5, [], []⟩ := by kernel_rfl
theorem FJ : fnd (-23) 1 ⟨2, 1, 3⟩ = ⟨3, 0, 0, 0, [1], [⟨1, 1, 6⟩]⟩ := by kernel_rfl
theorem y4 : fnd (-20) 3 ⟨1, 0, 5⟩ = ⟨2, 0, 0, 5, [], []⟩ := by kernel_rfl
theorem FN : (prS (-4) 5 ⟨1, 0, 1⟩).length = 8 ∧ (prS (-4) 5 ⟨1, 0, 1⟩).getD 0 (0, 0) = (-2, -1) := by decide +kernel
theorem y0 : rbL (-23) 6 = [1, 5, 7, 11] := by decide +kernel
theorem FI : rgt (-23) 3 ⟨2, 1, 3⟩ ⟨1, 0, 1, 0, [], []⟩ = true := by kernel_rfl
theorem HW : rgt (-23) 3 ⟨2, 1, 3⟩ ⟨3, 0, 0, 0, [1], [⟨1, 1, 6⟩]⟩ = false := by kernel_rfl
end
section
open Go Go.RowKit
abbrev enU (p : Int × Int) : List DV := [.v (.int .i64 p.1), .v (.int .i64 p.2)]
theorem CT (p : Int × Int) : (enU p).length = 2 := rfl
abbrev PA (p : Pr2) : PV := .a (enP p)
def prQ (D n : Int) (f : Fm) (b : Int) : List Pr2 := if smf f (frq D n b) = true then (unL D).map (col f D n b) else []
def Jf (M : Mt) (n b : Int) (p : Int × Int) : Pr2 := (M.a * ((p.1 - b * p.2) / 2) + M.b * (n * p.2), M.c * ((p.1 - b * p.2) / 2) + M.d * (n * p.2))
theorem GC {D : Int} {p : Int × Int} (h : p ∈ unL D) : (-2 ≤ p.1 ∧ p.1 ≤ 2) ∧ (-1 ≤ p.2 ∧ p.2 ≤ 1) := by
 unfold unL at h
 split at h
 ·simp only [List.mem_cons, List.not_mem_nil, or_false] at h
  rcases h with rfl | rfl | rfl | rfl | rfl | rfl <;> decide
 split at h
 ·simp only [List.mem_cons, List.not_mem_nil, or_false] at h
  rcases h with rfl | rfl | rfl | rfl <;> decide
 simp only [List.mem_cons, List.not_mem_nil, or_false] at h
 rcases h with rfl | rfl <;> decide
theorem pO (D : Int) : (unL D).length ≤ 6 := by
 unfold unL
 split
 ·exact Nat.le_refl _
 split <;> exact bL0 rfl
theorem kY {α : Type} {l : List α} {d : α} {k : Nat} (h : k < l.length) : l.getD k d ∈ l := by
 rw [List.getD_eq_getElem?_getD, List.getElem?_eq_getElem h]; exact List.getElem_mem h
theorem ID {a b c p q r : Int} (h1 : decide (a = p) = true) (h2 : decide (b = q) = true) : decide (c = r) = decide (a = p ∧ b = q ∧ c = r) := by
 rw [decide_eq_decide]; exact ⟨fun h => ⟨dT0 h1, dT0 h2, h⟩, fun h => h.2.2⟩
theorem IE {a b c p q r : Int} (_h1 : decide (a = p) = true) (h2 : decide (b = q) = false) : false = decide (a = p ∧ b = q ∧ c = r) :=
 (decide_eq_false fun h => dF0 h2 h.2.1).symm
theorem IF {a b c p q r : Int} (h1 : decide (a = p) = false) : false = decide (a = p ∧ b = q ∧ c = r) :=
 (decide_eq_false fun h => dF0 h1 h.1).symm
theorem Iu {D : Int} (h : D = -3) : [((2 : Int), (0 : Int)), (-2, 0), (1, 1), (1, -1), (-1, 1), (-1, -1)] = unL D := by unfold unL; rw [if_pos h]
theorem It {D : Int} (h : ¬ D = -3) (h2 : D = -4) : [((2 : Int), (0 : Int)), (-2, 0), (0, 1), (0, -1)] = unL D := by unfold unL; rw [if_neg h, if_pos h2]
theorem Iw {D : Int} (h : ¬ D = -3) (h2 : ¬ D = -4) : [((2 : Int), (0 : Int)), (-2, 0)] = unL D := by unfold unL; rw [if_neg h, if_neg h2]
section
variable {D : Int} {m i j : Nat} {f : Fm} {b : Int}
theorem EE (hb : (rbL D m)[i]? = some b) (hs : smf f (frq D m b) = true) (hj : j < (unL D).length) :
  ((prL D m f).map fun p => ([PA p] : List PV))[fmN (prQ D m f) (rbL D m) i + j]? = some [PA (Jf (smm f (frq D m b)) m b ((unL D).getD j (0, 0)))] := by
 have h1 : (prQ D m f b)[j]? = some (col f D m b ((unL D).getD j (0, 0))) := by
  unfold prQ
  rw [if_pos hs, List.getElem?_map, List.getD_eq_getElem?_getD, List.getElem?_eq_getElem hj]
  rfl
 have h2 := CO hb h1
 rw [List.getElem?_map]
 rw [show prL D m f = (rbL D m).flatMap (prQ D m f) from rfl, h2]
 rfl
theorem IR (hb : (rbL D m)[i]? = some b) (hs : smf f (frq D m b) = true) : fmN (prQ D m f) (rbL D m) (i + 1) = fmN (prQ D m f) (rbL D m) i + (unL D).length := by
 rw [Ao hb]; unfold prQ; rw [if_pos hs, List.length_map]
theorem IT (hb : (rbL D m)[i]? = some b) (hs : smf f (frq D m b) = false) : fmN (prQ D m f) (rbL D m) (i + 1) = fmN (prQ D m f) (rbL D m) i := by
 rw [Ao hb]; unfold prQ; rw [if_neg (by rw [hs]; decide)]; rfl
theorem EG : ((prL D m f).map fun p => ([PA p] : List PV)).length ≤ fmN (prQ D m f) (rbL D m) ((rbL D m).map fun b => ([PI b, PF (frq D m b)] : List PV)).length := by
 rw [List.length_map, List.length_map, CP]
 exact Nat.le_refl _
theorem ED : ∀ x ∈ (prL D m f).map (fun p => ([PA p] : List PV)), x.length = 1 := by
 intro x hx
 obtain ⟨p, _, rfl⟩ := List.mem_map.1 hx
 rfl
theorem Hs {x : List PV} {k : Nat} (h : ((prL D m f).map fun p => ([PA p] : List PV))[k]? = some x) : ∃ p, (prL D m f)[k]? = some p ∧ x = [PA p] := by
 rw [List.getElem?_map] at h
 obtain ⟨p, h1, rfl⟩ := Option.map_eq_some_iff.1 h
 exact ⟨p, h1, rfl⟩
end
def agZ (D : Int) (f : Fm) : List (Int × Int) := (chs D).zip (gvL f)
def agP (n : Int) (p : Int × Int) : Bool := decide (cv p.1 n ≠ p.2)
theorem Ax {D n : Int} {f : Fm} (h : Int.gcd (2 * D) n = 1) : agL D n f = ((agZ D f).filter (agP n)).map Prod.fst := by unfold agL; rw [if_pos h]; rfl
theorem Ij {D n : Int} {f : Fm} (h : ¬ Int.gcd (2 * D) n = 1) : agL D n f = [] := by unfold agL; rw [if_neg h]
section
variable {D n : Int} {f : Fm} {k : Nat}
theorem od (hl : (gvL f).length = (chs D).length) (hk : k < (chs D).length) : (agZ D f)[k]? = some ((chs D).getD k 0, (gvL f).getD k 0) := by
 unfold agZ
 rw [List.getElem?_eq_getElem (by rw [List.length_zip]; omega), List.getElem_zip, List.getD_eq_getElem?_getD, List.getElem?_eq_getElem hk, List.getD_eq_getElem?_getD, List.getElem?_eq_getElem (by omega)]
 rfl
theorem Ge (h : Int.gcd (2 * D) n = 1) (hl : (gvL f).length = (chs D).length) (hk : k < (chs D).length) (hne : ¬ cv ((chs D).getD k 0) n = (gvL f).getD k 0) :
  ((agL D n f).map fun c => ([PE c] : List PV))[ez (agP n) (agZ D f) k]? = some [PE ((chs D).getD k 0)] := by
 rw [Ax h, List.getElem?_map, List.getElem?_map, yV (od hl hk) (by unfold agP; rw [decide_eq_true_eq]; exact hne)]
 rfl
theorem Jj (hl : (gvL f).length = (chs D).length) (hk : k < (chs D).length) (hne : ¬ cv ((chs D).getD k 0) n = (gvL f).getD k 0) : ez (agP n) (agZ D f) (k + 1) = ez (agP n) (agZ D f) k + 1 :=
 yU (od hl hk) (by unfold agP; rw [decide_eq_true_eq]; exact hne)
theorem Jk (hl : (gvL f).length = (chs D).length) (hk : k < (chs D).length) (hne : cv ((chs D).getD k 0) n = (gvL f).getD k 0) : ez (agP n) (agZ D f) (k + 1) = ez (agP n) (agZ D f) k :=
 CQ (od hl hk) (by unfold agP; rw [decide_eq_false_iff_not]; exact fun x => x hne)
theorem Gg (h : Int.gcd (2 * D) n = 1) (hl : (gvL f).length = (chs D).length) (hk : (chs D).length ≤ k) : ((agL D n f).map fun c => ([PE c] : List PV)).length ≤ ez (agP n) (agZ D f) k := by
 rw [Ax h, List.length_map, List.length_map, yW (by unfold agZ; rw [List.length_zip]; omega)]
 exact Nat.le_refl _
theorem Dd (h : ¬ Int.gcd (2 * D) n = 1) (j : Nat) : ((agL D n f).map fun c => ([PE c] : List PV)).length ≤ j := by
 rw [Ij h]; exact Nat.zero_le _
theorem w4 : ∀ x ∈ (agL D n f).map (fun c => ([PE c] : List PV)), x.length = 1 := by
 intro x hx
 obtain ⟨p, _, rfl⟩ := List.mem_map.1 hx
 rfl
theorem Aw {x : List PV} (h : ((agL D n f).map fun c => ([PE c] : List PV))[k]? = some x) : ∃ c, (agL D n f)[k]? = some c ∧ x = [PE c] := by
 rw [List.getElem?_map] at h
 obtain ⟨p, h1, rfl⟩ := Option.map_eq_some_iff.1 h
 exact ⟨p, h1, rfl⟩
end
end
section
open Go Go.RowKit
theorem BY {l : List Pr2} : ∀ x ∈ l.map (fun p => ([PA p] : List PV)), x.length = 1 := by
 intro x hx
 obtain ⟨p, _, rfl⟩ := List.mem_map.1 hx
 rfl
theorem EF {l : List Pr2} {x : List PV} {k : Nat} (h : (l.map fun p => ([PA p] : List PV))[k]? = some x) : ∃ p, l[k]? = some p ∧ x = [PA p] := by
 rw [List.getElem?_map] at h
 obtain ⟨p, h1, rfl⟩ := Option.map_eq_some_iff.1 h
 exact ⟨p, h1, rfl⟩
theorem vP {D : Int} {m : Nat} {f : Fm} (hm : 1 ≤ m ∧ m ≤ 65536) : (prL D m f).length ≤ 1000000 := by
 rw [s8]
 have h1 : ((rbL D m).filter fun b => smf f (frq D m b)).length ≤ (rbL D m).length := List.length_filter_le _ _
 have h2 := mM D m hm.2
 have h3 : unN D ≤ 6 := by rw [← ns]; exact pO D
 have : unN D * ((rbL D m).filter fun b => smf f (frq D m b)).length ≤ 6 * 131072 := Nat.mul_le_mul h3 (by omega)
 omega
def alE (f : Fm) (n : Int) : Int := if rfE f = 0 then rgE n else rfE f
theorem Ii {f : Fm} {n : Int} (h : ¬ rfE f = 0) : rfE f = alE f n := by unfold alE; rw [if_neg h]
theorem Av {f : Fm} {n : Int} (h : rfE f = 0) : rgE n = alE f n := by unfold alE; rw [if_pos h]
theorem va {D : Int} {f : Fm} {m : Nat} (h : Cl D f) (hm : 1 ≤ m ∧ m ≤ 65536) : alE f m = 0 := by
 rw [← Av (wQ h)]
 exact ug (by omega) (by omega)
theorem Hu {D : Int} (hD : D < 0) (h4 : D % 4 = 0 ∨ D % 4 = 1) : prE D = 0 := by
 unfold prE
 rw [if_neg]
 rintro (k | k)
 ·omega
 rw [q9 hD] at k; cases k
theorem EV {a b : Nat} (h : a * b ≤ 1000000000) : (.i64 : IntKind).wrap ((a : Int) * (b : Int)) = ((a * b : Nat) : Int) := by
 rw [← Int.natCast_mul]
 generalize a * b = q at *
 exact iW0 _ (by omega)
theorem yQ {D n : Int} (h : Int.gcd (2 * D) n = 1) : n % 2 = 1 := by
 rcases Int.emod_two_eq n with e | e
 ·exfalso
  have h1 : (2 : Int) ∣ (Int.gcd (2 * D) n : Nat) := Int.dvd_coe_gcd ⟨D, rfl⟩ (Int.dvd_of_emod_eq_zero e)
  rw [h] at h1
  omega
 exact e
end
section
open Go Go.RowKit
section
variable {F : Fence} {n : Nat} {P : Program}
theorem Dl {o : Oper} {a : Act} {w : World} {K : Act → World → Prop} {QA Q : Exit → Act → World → Prop} (hq : ∀ e a w, QA e a w → e = .normal) (h : o.wpIn F n P a w K QA) : o.wpIn F n P a w K Q := by
  unfold Oper.wpIn at *
  refine ⟨h.1, ?_⟩
  have hh := h.2
  have no : ∀ {X : Prop} {e : Exit} {a : Act} {w : World}, e ≠ .normal → QA e a w → X := fun hne h => absurd (hq _ _ _ h) hne
  generalize (o.semAt F.round a.eval).run P w = r at *
  cases r with
  | ok x w' =>
    cases x <;> simp only [Oper.uponIn] at hh ⊢ <;>
      first
        | exact hh
        | exact ⟨hh.1, CallsIn.mono hh.2 (fun e w'' he => by cases e <;> first | exact he | exact no (by simp) he | (obtain ⟨a1, w1, h1⟩ := he; exact no (by simp) h1))⟩
        | exact ⟨hh.1, RoundIn.mono hh.2 (fun e w'' he => by cases e <;> first | exact he | exact no (by simp) he | (obtain ⟨a1, w1, h1⟩ := he; exact no (by simp) h1))⟩
  | halt x w' => cases x <;> simp only [Oper.uponIn] at hh ⊢ <;> first | exact hh | exact no (by simp) hh
theorem xc {ops ops' : Array Oper} {i : Nat} {a : Act} {w : World} {K K' : Act → World → Prop} {QA Q : Exit → Act → World → Prop} (hq : ∀ e a w, QA e a w → e = .normal) (h1 : ops'[i]? = ops[i]?)
    (h2 : ∀ o j want, ops[i]? = some o → o.guard = some (j, want) → ops'[j]? = ops[j]?) (hK : ∀ a w, K a w → K' a w) (h : wpOpIn F n P ops' QA i K a w) : wpOpIn F n P ops Q i K' a w := by
  refine wpOpIn_mono hK ?_
  unfold wpOpIn at *
  rw [h1] at h
  cases ho : ops[i]? with
  | none => rw [ho] at h; exact h
  | some o =>
    rw [ho] at h
    simp only at h ⊢
    have e : Region.wanted o (yielded ops' a.tmps) = Region.wanted o (yielded ops a.tmps) := by
      unfold Region.wanted
      cases hg : o.guard with
      | none => rfl
      | some x =>
        obtain ⟨j, want⟩ := x
        simp only
        have : yielded ops' a.tmps j = yielded ops a.tmps j := by
          unfold yielded; rw [h2 o j want ho hg]
        rw [this]
    rw [e] at h
    split at h
    · next hw => rw [if_pos hw]; exact Dl hq h
    next hw => rw [if_neg hw]; exact h
def zd (ops : List Oper) (y : Nat) : Bool :=
  Nat.blt y ops.length && (ops.zipIdx.all fun (o, i) => (o.after.toList.all fun e => !Region.binds .any e || Nat.blt e.on i) && (match o.guard with | some (j, _) => Nat.blt j i | none => true)) &&
  (let bs := r5 ops
   (List.range ops.length).all fun i => Nat.blt i y || (List.range i).all fun j => (bs.getD i 0).testBit j)
structure OkY (ops : Array Oper) (y : Nat) : Prop where
  lt : y < ops.size
  edge : ∀ k o, ops[k]? = some o → ∀ e ∈ o.after.toList, Region.binds .any e = true → e.on < k
  guard : ∀ (k : Nat) (o : Oper) (j : Nat) (b : Bool), ops[k]? = some o → o.guard = some (j, b) → j < k
  bef : ∀ i j, y ≤ i → i < ops.size → j < i → ((r5 ops.toList).getD i 0).testBit j = true
theorem C5 {ops : Array Oper} {y : Nat} (h : zd ops.toList y = true) : OkY ops y := by
  unfold zd at h
  simp only [Bool.and_eq_true] at h
  obtain ⟨⟨h1, h2⟩, h3⟩ := h
  have get : ∀ (k : Nat) (o : Oper), ops[k]? = some o → (o, k) ∈ ops.toList.zipIdx := fun k o ho => by
    rw [List.mem_zipIdx_iff_getElem?, Array.getElem?_toList]; exact ho
  refine ⟨by simpa using h1, fun k o ho e he hb => ?_, fun k o j b ho hg => ?_, fun i j hy hi hj => ?_⟩
  · have := List.all_eq_true.1 h2 _ (get k o ho)
    simp only [Bool.and_eq_true] at this
    have := List.all_eq_true.1 this.1 e he
    simpa [hb] using this
  · have := List.all_eq_true.1 h2 _ (get k o ho)
    simp only [Bool.and_eq_true, hg] at this
    simpa using this.2
  have := List.all_eq_true.1 h3 i (by simpa using hi)
  rw [Bool.or_eq_true] at this
  rcases this with k | k
  · simp at k; omega
  exact List.all_eq_true.1 k j (by simpa using hj)
def j0 (ops : Array Oper) (l : Array Bool) : Prop := ∀ (k : Nat) (o : Oper), ops.toList[k]? = some o → l.getD k false = true → ∀ e ∈ o.after.toList, Region.binds .any e = true → l.getD e.on false = true
theorem ni {l : Array Bool} {i : Nat} (hi : i < l.size) : l.getD i true = false ↔ l.getD i false = false := by
  simp only [Array.getD_eq_getD_getElem?]
  rw [Array.getElem?_eq_getElem hi]
  simp
theorem kt {ops : Array Oper} {l : Array Bool} {i : Nat} (hs : l.size = ops.size) (hc : j0 ops l) (hr : i ∈ Region.ready .any ops l) : j0 ops (l.setIfInBounds i true) := by
  rw [dI] at hr
  obtain ⟨h1, h2, o, h3, h4⟩ := hr
  intro k o' hk hS e he hb
  rw [cI _ _ _ (by omega)] at hS ⊢
  simp only [Bool.or_eq_true, beq_iff_eq] at hS ⊢
  rcases hS with hS | hS
  · exact .inl (hc k o' hk hS e he hb)
  subst hS
  rw [Array.getElem?_toList, h3] at hk; cases hk
  exact .inl (h4 e he hb)
theorem oy {ops : Array Oper} {y : Nat} (ok : OkY ops y) {l : Array Bool} {i : Nat} (hs : l.size = ops.size) (hc : j0 ops l) (hr : i ∈ Region.ready .any ops l) (hi : y ≤ i) : ∀ j, j < i → l.getD j false = true := fun j hj => by
  have hr' := hr
  rw [dI] at hr
  have hi2 := hr.1
  have := lr (fun k => (l.setIfInBounds i true).getD k false) ops.toList (kt hs hc hr') i j (ok.bef i j hi hi2 hj) (by show (l.setIfInBounds i true).getD i false = true; rw [cI _ _ _ (by omega)]; simp)
  rw [cI _ _ _ (by omega)] at this
  have hne : (j == i) = false := by simp; omega
  simpa [hne] using this
theorem mH {ops : Array Oper} {y : Nat} (ok : OkY ops y) {l : Array Bool} (hs : l.size = ops.size) : ∀ i, i < ops.size → l.getD i false = false → ∃ j, j ≤ i ∧ j ∈ Region.ready .any ops l := by
  intro i
  induction i using Nat.strongRecOn with
  | _ i ih =>
    intro hi hl
    by_cases h : ∃ j, j < i ∧ l.getD j false = false
    · obtain ⟨j, hj, hlj⟩ := h
      obtain ⟨j', h1, h2⟩ := ih j hj (by omega) hlj
      exact ⟨j', by omega, h2⟩
    refine ⟨i, Nat.le_refl _, ?_⟩
    rw [dI]
    refine ⟨hi, (ni (by omega)).2 hl, ops[i], Array.getElem?_eq_getElem hi, fun e he hb => ?_⟩
    have := ok.edge i ops[i] (Array.getElem?_eq_getElem hi) e he hb
    cases hx : l.getD e.on false with
    | true => rfl
    | false => exact absurd ⟨_, this, hx⟩ h
variable {Q : Exit → Act → World → Prop}
theorem r6 {ops : Array Oper} {y : Nat} (ok : OkY ops y) : ∀ (m : Nat) (l : Array Bool), l.size = ops.size → j0 ops l → y + m ≤ ops.size → (∀ j, j < ops.size → (l.getD j false = true ↔ j < ops.size - m)) →
    ∀ a w, wpOpsIn F n P ops Q (List.range' (ops.size - m) m) a w → wpAnyIn F n P .any ops Q m l a w
  | 0, l, hs, hc, hy, hl, a, w, h => by
    refine ⟨?_, h⟩
    cases hr : Region.ready .any ops l with
    | nil => rfl
    | cons i rest =>
      have : i ∈ Region.ready .any ops l := by rw [hr]; simp
      rw [dI] at this
      have h2 := (ni (by omega)).1 this.2.1
      rw [(hl i this.1).2 (by omega)] at h2; cases h2
  | m + 1, l, hs, hc, hy, hl, a, w, h => by
    have hun : l.getD (ops.size - (m + 1)) false = false := by
      cases hx : l.getD (ops.size - (m + 1)) false with
      | false => rfl
      | true => have := (hl _ (by omega)).1 hx; omega
    refine ⟨fun hr => ?_, fun i hi => ?_⟩
    · obtain ⟨j, _, hj⟩ := mH ok hs _ (by omega) hun
      rw [hr] at hj; simp at hj
    have hi' := hi
    rw [dI] at hi'
    have h2 := (ni (by omega)).1 hi'.2.1
    have hge : ops.size - (m + 1) ≤ i := by
      rcases Nat.lt_or_ge i (ops.size - (m + 1)) with x | x
      · rw [(hl i hi'.1).2 x] at h2; cases h2
      exact x
    have hall := oy ok hs hc hi (by omega)
    have he : i = ops.size - (m + 1) := by
      rcases Nat.lt_or_ge (ops.size - (m + 1)) i with x | x
      · have := hall _ x; rw [hun] at this; cases this
      omega
    subst he
    rw [List.range'_succ, wpOpsIn_cons] at h
    refine wpOpIn_mono (fun a' w' hk => ?_) h
    refine r6 ok m _ (by simp [hs]) (kt hs hc hi) (by omega) (fun j hj => ?_) a' w' (by rw [show ops.size - m = ops.size - (m + 1) + 1 by omega]; exact hk)
    rw [cI _ _ _ (by omega), Bool.or_eq_true, hl j hj, beq_iff_eq]
    omega
theorem Dc {ops : Array Oper} {y : Nat} (ok : OkY ops y) : ∀ (m : Nat) (l l' : Array Bool), l.size = ops.size → l'.size = y → (∀ j, j < y → l'.getD j false = l.getD j false) → j0 ops l → (∀ j, y ≤ j → l.getD j false = false) → left l' y = m →
    ∀ a w, wpAnyIn F n P .any (ops.toList.take y).toArray (fun e a w => e = .normal ∧ wpOpsIn F n P ops Q (List.range' y (ops.size - y)) a w) m l' a w → wpAnyIn F n P .any ops Q (m + (ops.size - y)) l a w := by
  have ylt := ok.lt
  have hsz : (ops.toList.take y).toArray.size = y := by simp; omega
  have hget : ∀ j, j < y → (ops.toList.take y).toArray[j]? = ops[j]? := fun j hj => by
    rw [List.getElem?_toArray, List.getElem?_take, if_pos hj, Array.getElem?_toList]
  intro m
  induction m with
  | zero =>
    intro l l' hs hs' hll hc hbe hm a w h
    have all : ∀ j, j < y → l.getD j false = true := fun j hj => by
      rw [← hll j hj]
      cases hb : l'.getD j false with
      | true => rfl
      | false =>
        have : j ∈ (List.range y).filter fun i => !l'.getD i false := by rw [List.mem_filter]; exact ⟨by simpa using hj, by simpa using hb⟩
        have h0 : (List.range y).filter (fun i => !l'.getD i false) = [] := List.eq_nil_of_length_eq_zero hm
        rw [h0] at this; simp at this
    rw [Nat.zero_add]
    refine r6 ok (ops.size - y) l hs hc (by omega) (fun j hj => ?_) a w (by rw [show ops.size - (ops.size - y) = y by omega]; exact h.2.2)
    rw [show ops.size - (ops.size - y) = y by omega]
    constructor
    · intro hx
      rcases Nat.lt_or_ge j y with q | q
      · exact q
      rw [hbe j q] at hx; cases hx
    exact all j
  | succ m ih =>
    intro l l' hs hs' hll hc hbe hm a w h
    obtain ⟨q, hq, hqf⟩ : ∃ q, q < y ∧ l.getD q false = false := by
      have : 0 < ((List.range y).filter fun i => !l'.getD i false).length := by show 0 < left l' y; omega
      obtain ⟨q, hq⟩ := List.exists_mem_of_length_pos this
      rw [List.mem_filter] at hq
      have h1 : q < y := by simpa using hq.1
      exact ⟨q, h1, by rw [← hll q h1]; simpa using hq.2⟩
    rw [show m + 1 + (ops.size - y) = m + (ops.size - y) + 1 by omega]
    refine ⟨fun hr => ?_, fun i hi => ?_⟩
    · obtain ⟨j, _, hj⟩ := mH ok hs q (by omega) hqf
      rw [hr] at hj; simp at hj
    have hi' := hi
    rw [dI] at hi'
    obtain ⟨i1, i2, o, i3, i4⟩ := hi'
    have hiy : i < y := by
      rcases Nat.lt_or_ge i y with x | x
      · exact x
      have := oy ok hs hc hi x q (by omega)
      rw [hqf] at this; cases this
    have hun := (ni (by omega)).1 i2
    have hri : i ∈ Region.ready .any (ops.toList.take y).toArray l' := by
      rw [dI]
      refine ⟨by omega, (ni (by omega)).2 (by rw [hll i hiy]; exact hun), o, by rw [hget i hiy]; exact i3, fun e he hb => ?_⟩
      have := ok.edge i o i3 e he hb
      rw [hll e.on (by omega)]; exact i4 e he hb
    refine xc (fun e a w k => k.1) (hget i hiy) (fun o' j want ho hg => hget j ?_) (fun a' w' hk => ?_) (h.2 i hri)
    · have := ok.guard i o' j want ho hg; omega
    refine ih (l.setIfInBounds i true) (l'.setIfInBounds i true) (by simp [hs]) (by simp [hs']) (fun j hj => ?_) (kt hs hc hi) (fun j hj => ?_) ?_ a' w' hk
    · rw [cI _ _ _ (by omega), cI _ _ _ (by omega), hll j hj]
    · rw [cI _ _ _ (by omega), hbe j hj]
      simp; omega
    have := qS l' y i hiy (by omega) (by rw [hll i hiy]; exact hun)
    omega
end
section
variable {P : Program} {n0 : Nat} {J : Nat → Hp → (Nat → Prop) → World → Prop} {N np : Nat} {Q : Exit → Nat → St → Prop} {k : Nat} {s : St}
abbrev kN (ops : Array Oper) (y : Nat) : Array Oper := (ops.toList.take y).toArray
theorem sE (hP : P.follows .mixedOrders = true) {id : Nat} {ops : Array Oper} (y : Nat) (hy : zd ops.toList y = true)
  (h : RK P N np (kN ops y) true (kN ops y).toList (cC (dh (kN ops y).toList) s) [] fun s' => RY P n0 J N np Q ops (ops.toList.drop y) y k s') : AK P n0 J N np (.region id ops true) Q k s := by
 intro ro S hh r a w G hc
 have ok := C5 hy
 obtain ⟨C, hw, hj, hs, hF, hn, hm, hr0, hfr⟩ := hc.kj
 obtain ⟨sts, ios, h1, h2, h3, h4, h5⟩ := h
 simp only [List.nil_append] at h2 h3
 have hst : Start C.np N (kN ops y) (kN ops y).toList (cC (dh (kN ops y).toList) s) ios := ⟨hn.symm ▸ h2, h4, gz _ _, jm _ _, gA _ _⟩
 have hc' := gV (dh (kN ops y).toList) (show Conc C N hh r s a w from ⟨hc.sz, by rw [hc.df]; trivial, hc.rg, hw⟩)
 refine wpIn_region_any hP ?_
 have hyl := ok.lt
 have hsz : (kN ops y).size = y := by simp; omega
 have A := tf (ro := ro) (P := P) (Q := fun e a w => e = .normal ∧ wpOpsIn (Wd ro) 0 P ops (fun e a' w' => ∃ k' s' h' r' G', Q e k' s' ∧ CK n0 J N np S k' G' h' r' s' a' w') (List.range' y (ops.size - y)) a w)
  rfl h1 hst (by simpa using h3) (fun h' r' a' w' c' => ⟨rfl, by
   have hdf : a'.defers = [] := by
    have := c'.df
    cases hd : a'.defers with
    | nil => rfl
    | cons d ds =>
     rw [hd] at this
     have h1 := this.1
     rw [hm] at h1
     cases h1
   have h6 := h5 rfl ro S h' r' a' w' G ⟨c'.sz, hdf, c'.rg, C, c'.wk, hj, hs, hF, hn, hm, hr0, hfr⟩
   rw [List.length_drop] at h6
   simpa using h6⟩) y (Array.replicate y false) (by simp; omega) ?_ ?_ hh r a { w with drawn := w.drawn + 1 } ?_
 ·have := Dc ok y (Array.replicate ops.size false) (Array.replicate y false) (by simp) (by simp) (fun j hj => ?_) ?_ (fun j hj => ?_) ?_ a { w with drawn := w.drawn + 1 } A
  ·rw [show y + (ops.size - y) = ops.size by omega] at this
   exact this
  ·simp only [Array.getD_eq_getD_getElem?, Array.getElem?_replicate]
   split <;> split <;> rfl
  ·intro k o hk hS
   simp only [Array.getD_eq_getD_getElem?, Array.getElem?_replicate] at hS
   split at hS <;> cases hS
  ·simp only [Array.getD_eq_getD_getElem?, Array.getElem?_replicate]
   split <;> rfl
  unfold left
  rw [List.filter_eq_self.2]
  ·simp
  intro i hi
  simp only [Array.getD_eq_getD_getElem?, Array.getElem?_replicate]
  split <;> rfl
 ·unfold left
  rw [List.filter_eq_self.2]
  ·simp; omega
  intro i hi
  simp only [Array.getD_eq_getD_getElem?, Array.getElem?_replicate]
  split <;> rfl
 ·intro k o hk hS
  simp only [Array.getD_eq_getD_getElem?, Array.getElem?_replicate] at hS
  split at hS <;> cases hS
 rw [fx (T := fun _ => false) (fun j => by
  simp only [Array.getD_eq_getD_getElem?, Array.getElem?_replicate]
  split <;> rfl), kq]
 exact ⟨hc'.sz, hc'.df, hc'.rg, hc'.wk.drew⟩
end
end
section
open Go Go.RowKit
abbrev bsC (b : Option Pr2) : List DV := anS ⟨bk b, bx b, by_ b, 0, [], []⟩
theorem qA {rest : List (Nat × Blk)} {m : Nat} {b : Blk} (h : ci rest m = none) : ∀ x, ci rest x = upd (ci ((m, b) :: rest)) m none x := by
 intro x
 show _ = upd (upd (ci rest) m (some b)) m none x
 by_cases e : x = m
 ·subst e; rw [upd_same, h]
 rw [aH _ _ _ _ e, aH _ _ _ _ e]
section
variable {D : Int} {m : Nat} {f : Fm}
theorem Jc (h : bk (dR (prL D m f)) > 0) : bsC (dR (prL D m f)) = anS (fnd D m f) := by
 have e := zg (b := dR (prL D m f)) (by omega)
 rw [yS e]
 have : bk (dR (prL D m f)) = 1 := by rw [e]; rfl
 unfold bsC
 rw [this]
theorem Jd (h : ¬ bk (dR (prL D m f)) > 0) : dR (prL D m f) = none := by
 cases e : dR (prL D m f) with
 | none => rfl
 | some q => rw [e] at h; exact absurd (show (1 : Int) > 0 by decide) h
def PtR (D : Int) (m k : Nat) : Prop := ∀ q ∈ (parts m).take k, rbL D (q : Int) ≠ []
theorem PtR.start : PtR D m 0 := fun q hq => by simp at hq
theorem PtR.next {k q : Nat} (h : PtR D m k) (hq : (parts m)[k]? = some q) (hr : ¬ rbL D (q : Int) = []) : PtR D m (k + 1) := by
 intro q' hq'
 rw [ee hq, List.mem_append] at hq'
 rcases hq' with x | x
 ·exact h q' x
 simp only [List.mem_cons, List.not_mem_nil, or_false] at x; subst x; exact hr
theorem PtR.hit {k q : Nat} (h : PtR D m k) (hq : (parts m)[k]? = some q) (hr : rbL D (q : Int) = []) : blk D m = some q := by
 unfold blk
 obtain ⟨r, e⟩ := nQ hq
 rw [e, List.find?_append, List.find?_eq_none.2, Option.none_or, List.find?_cons_of_pos (by rw [hr]; rfl)]
 intro x hx
 have := h x hx
 simpa using this
theorem PtR.done {k : Nat} (h : PtR D m k) (hk : (parts m).length ≤ k) : blk D m = none := by
 unfold blk
 rw [List.find?_eq_none]
 intro x hx
 have := h x (by rw [List.take_of_length_le hk]; exact hx)
 simpa using this
theorem Jb {k q : Nat} (h0 : dR (prL D m f) = none) (h : PtR D m k) (hq : (parts m)[k]? = some q) (hr : rbL D (q : Int) = []) : anS ⟨2, 0, 0, q, [], []⟩ = anS (fnd D m f) := by
 rw [CN h0 (h.hit hq hr)]
theorem Ja {k : Nat} {c : Int} (h0 : dR (prL D m f) = none) (h1 : blk D m = none) (hc : (agL D m f)[k]? = some c) (hk : k = 0) : anS ⟨2, 0, 0, c, [], []⟩ = anS (fnd D m f) := by
 subst hk
 cases e : agL D m f with
 | nil => rw [e] at hc; simp at hc
 | cons a l =>
  rw [e] at hc
  simp only [List.getElem?_cons_zero, Option.some.injEq] at hc
  subst hc
  rw [FF h0 h1 e]
theorem I9 (h0 : dR (prL D m f) = none) (h1 : blk D m = none) (hk : ((agL D m f).map fun c => ([PE c] : List PV)).length = 0) : anS ⟨3, 0, 0, 0, rbL D m, fmL D m⟩ = anS (fnd D m f) := by
 have e : agL D m f = [] := by rw [List.length_map] at hk; exact List.length_eq_zero_iff.1 hk
 rw [CM h0 h1 e]
theorem vN {n : Nat} : ∀ x ∈ (parts n).map (fun (q : Nat) => ([PE (q : Int)] : List PV)), x.length = 1 := by
 intro x hx
 obtain ⟨p, _, rfl⟩ := List.mem_map.1 hx
 rfl
theorem Ac {x : List PV} {k n : Nat} (h : ((parts n).map fun (q : Nat) => ([PE (q : Int)] : List PV))[k]? = some x) : ∃ q, (parts n)[k]? = some q ∧ x = [PE (q : Int)] := by
 rw [List.getElem?_map] at h
 obtain ⟨p, h1, rfl⟩ := Option.map_eq_some_iff.1 h
 exact ⟨p, h1, rfl⟩
theorem EB {k n : Nat} (hk : k = ((parts n).map fun (q : Nat) => ([PE (q : Int)] : List PV)).length) : (parts n).length ≤ k := by
 rw [hk, List.length_map]; exact Nat.le_refl _
theorem uj {k n q : Nat} (hn : 1 ≤ n ∧ n ≤ 65536) (h : (parts n)[k]? = some q) : 1 ≤ q ∧ q ≤ 65536 := by
 have := B3 (by omega) (List.mem_of_getElem? h)
 omega
theorem Gf {k : Nat} {c n : Int} (hD : -4194304 ≤ D ∧ D < 0) (h : (agL D n f)[k]? = some c) : -8 ≤ c ∧ c ≤ 4194304 := by
 have h1 := List.mem_of_getElem? h
 unfold agL at h1
 split at h1
 ·obtain ⟨p, hp, rfl⟩ := List.mem_map.1 h1
  have h2 := (List.of_mem_zip (List.mem_filter.1 hp).1).1
  exact uY hD.2 hD.1 h2
 simp at h1
theorem wW {l : List Pr2} {n : Nat} (h : n = (l.map fun p => ([PA p] : List PV)).length) : dc l n = dR l := wX (by rw [h, List.length_map]; exact Nat.le_refl _)
end
end
section
open Go Go.RowKit
def lg (l : List (Int × Bool)) (es : List MapEntry) : Prop := es.map (fun e => (e.key, e.val)) = l.map fun p => (Value.int .i64 p.1, Value.bool p.2)
def Gn (l : List (Int × Bool)) : Hp → Value → Prop := fun h x => ∃ b es clk, x = .map (some b) ∧ h b = some (.map es clk) ∧ lg l es.toList
theorem rz {n : Int} : ∀ (l : List (Int × Bool)) (es : List MapEntry) (i : Nat), lg l es → (l.lookup n = none → Instr.findNow (.int .i64) (.int .i64 n) es i = some none) ∧ ∀ v, l.lookup n = some v → ∃ j, Instr.findNow (.int .i64) (.int .i64 n) es i = some (some (j, .bool v))
 | [], [], i, _ => ⟨fun _ => rfl, fun v h => by simp at h⟩
 | [], _ :: _, _, h => by simp [lg] at h
 | _ :: _, [], _, h => by simp [lg] at h
 | (k, v) :: l, e :: es, i, h => by
  unfold lg at h
  simp only [List.map_cons, List.cons.injEq, Prod.mk.injEq] at h
  obtain ⟨⟨h1, h2⟩, h3⟩ := h
  have ih := rz (n := n) l es (i + 1) h3
  by_cases hk : n = k
  ·subst hk
   have hl : List.lookup n ((n, v) :: l) = some v := by simp [List.lookup]
   refine ⟨fun h => (by rw [hl] at h; cases h), fun v' hv => ?_⟩
   rw [hl] at hv; cases hv
   exact ⟨i, by simp [Instr.findNow, Instr.sameNow, h1, h2]⟩
  have hb : (n == k) = false := by simpa using hk
  have hl : List.lookup n ((k, v) :: l) = List.lookup n l := by simp [List.lookup, hb]
  have hf : Instr.findNow (.int .i64) (.int .i64 n) (e :: es) i = Instr.findNow (.int .i64) (.int .i64 n) es (i + 1) := by
   simp [Instr.findNow, Instr.sameNow, h1, hb]
  rw [hl, hf]
  exact ih
section
variable {P : Program} {T K E : TypeId}
theorem ry {n : Int} {l : List (Int × Bool)} {es : List MapEntry} (hK : P.underlying K = some (.int .i64)) (hl : lg l es) (w : World) :
  (l.lookup n = none → (Instr.findKey K (.int .i64 n) es).run P w = .ok none w) ∧ ∀ v, l.lookup n = some v → ∃ j, (Instr.findKey K (.int .i64 n) es).run P w = .ok (some (j, .bool v)) w := by
 obtain ⟨h1, h2⟩ := rz (n := n) l es 0 hl
 refine ⟨fun h => ?_, fun v hv => ?_⟩
 ·simp [Instr.findKey, Sem.run_bind, run_underlying hK, h1 h]
 obtain ⟨j, hj⟩ := h2 v hv
 exact ⟨j, by simp [Instr.findKey, Sem.run_bind, run_underlying hK, hj]⟩
theorem o6 (hK : P.underlying K = some (.int .i64)) (n : Int) (e : Bool) (w2 : World) : (Instr.checkKey e 10000 K (.int .i64 n)).run P w2 = .ok () w2 := by
 unfold Instr.checkKey
 simp [Sem.run_bind, run_underlying hK]
theorem uq {dst : Option Nat} {ty : TypeId} {pos : String} {af : Array Edge} {gd : Option (Nat × Bool)} {d : Nat} {ρ : Operand → AV} {own : Own} {x y : Operand} {n : Int} {l : List (Int × Bool)} {u : Bool}
  (hu : P.underlying T = some (.map K E)) (hK : P.underlying K = some (.int .i64)) (hE : ∀ w, (zeroValue E).run P w = .ok (.bool false) w)
  (hx : ρ x = .ax (Gn l)) (hy : ρ y = .p (.c (.v (.int .i64 n)))) (hr : (l.lookup n).getD false = u) :
  Eff P ⟨dst, .lookup T x y false, ty, pos, af, gd⟩ d ρ own (.p (.c (.v (.bool u)))) [] none [] :=
 bp fun C h r own' a w hrep hrd hw => by
  have e1 := hrep x (by simp [Op.operands])
  have e2 := hrep y (by simp [Op.operands])
  rw [hx] at e1; rw [hy] at e2
  obtain ⟨b, es, clk, h1, h2, h3⟩ := e1 h (fun _ _ _ e => e)
  have h4 := hw.hi _ _ h2
  have hgo : (getObj b).run P w = .ok (.map es clk) w := by simp [getObj, Sem.run, h4]
  obtain ⟨f1, f2⟩ := ry (n := n) hK h3 w
  have hck := o6 (P := P) hK n
  refine ⟨.bool u, ?_, jV _ _ _⟩
  cases hl : l.lookup n with
  | none =>
   rw [hl] at hr
   simp only [Option.getD_none] at hr
   subst hr
   simp [execOp, Instr.lookup, h1, bN e2, Sem.run_bind, run_underlying hu, hgo, hck, f1 hl, hE]
  | some v =>
   obtain ⟨j, hj⟩ := f2 v hl
   rw [hl] at hr
   simp only [Option.getD_some] at hr
   subst hr
   simp [execOp, Instr.lookup, h1, bN e2, Sem.run_bind, run_underlying hu, hgo, hck, hj]
end
section
variable (P : Program) (B : Bool) (N np : Nat) (Q : Exit → St → Prop) (ops : Array Oper)
def TQ (C : Ctx) : Exit → Act → World → Prop := fun e a' w' => ∃ s' h' r', Q e s' ∧ Conc C N h' r' s' a' w'
def RT (os : List Oper) (i : Nat) (s : St) : Prop := ops.toList.drop i = os → ∀ (ro : Option Nat), (B = false → ro = none) → ∀ (C : Ctx) (h : Hp) (r : Nat → Value) (a : Act) (w : World), C.np = np ∧ C.mar = !B → Conc C N h r s a w →
 wpOpsIn (Wd ro) 0 P ops (TQ N Q C) (List.range' i os.length) a w
def RM (d : Nat) (l : List (Int × Bool)) (os : List Oper) (i : Nat) (s : St) : Prop := ops.toList.drop i = os → ∀ (ro : Option Nat), (B = false → ro = none) → ∀ (C : Ctx) (h : Hp) (r : Nat → Value) (a : Act) (w : World) (b clk : Nat) (es : Array MapEntry),
 C.np = np ∧ C.mar = !B → Conc C N h r s a w → w.heap[b]? = some (.map es clk) → lg l es.toList → a.tmps.getD d undef = .map (some b) → C.w0.heap.size ≤ b → h b = none → (∀ m, s.own m ≠ none → aX (r m) ≠ some b) →
 wpOpsIn (Wd ro) 0 P ops (TQ N Q C) (List.range' i os.length) a w
variable {P : Program} {B : Bool} {N np : Nat} {Q : Exit → St → Prop} {ops : Array Oper} {os : List Oper} {i d t : Nat} {s : St} {l : List (Int × Bool)}
variable {op : Op} {ty : TypeId} {pos : String} {af : Array Edge} {gd : Option (Nat × Bool)}
theorem RT.done (h : Q .normal s) : RT P B N np Q ops [] i s := fun _ _ _ _ hh r _ _ _ hc => ⟨s, hh, r, h, hc⟩
theorem Conc.put {C : Ctx} {h : Hp} {r : Nat → Value} {a : Act} {w : World} {v : AV} {x : Value} (hc : Conc C N h r s a w) (ht : t < N) (hv : AVRep h r v x) : Conc C N h r ⟨upd s.regs t v, s.own⟩ (a.put (some t) x) w :=
 ⟨by simp [Act.put, hc.sz], hc.df, hc.rg.put (dst := some t) (fun d e => by cases e; rw [hc.sz]; exact ht) hv, hc.wk⟩
theorem jw {a : Act} {x : Value} (h : d ≠ t) : (a.put (some t) x).tmps.getD d undef = a.tmps.getD d undef := by
 simp only [Act.put]
 simp only [Array.getD_eq_getD_getElem?, Array.getElem?_setIfInBounds]
 rw [if_neg (fun e => h e.symm)]
theorem RT.mv {x : Operand} {v : AV} (hop : op = .move x ∨ op = .assign x) (hv : ev s.regs x = v) (hr : RT P B N np Q ops os (i + 1) ⟨upd s.regs t v, s.own⟩) (hN : Nat.blt t N = true := by rfl) : RT P B N np Q ops (⟨some t, op, ty, pos, af, none⟩ :: os) i s := by
 intro hd ro hB C hh r a w hn hc
 obtain ⟨h1, h2⟩ := dJ hd
 rw [Nat.blt_eq] at hN
 rw [List.length_cons, List.range'_succ, wpOpsIn_cons]
 refine iE h1 rfl (by rcases hop with rfl | rfl <;> rfl) (x := a.eval x) (w' := w) (by rcases hop with rfl | rfl <;> simp only [execOp, Sem.run_pure]) ?_
 exact hr h2 ro hB C hh r _ w hn (hc.put hN (hv ▸ de hc.rg x))
theorem RM.mv {x : Operand} {v : AV} (hop : op = .move x ∨ op = .assign x) (hv : ev s.regs x = v) (hr : RM P B N np Q ops d l os (i + 1) ⟨upd s.regs t v, s.own⟩) (hN : (Nat.blt t N && !Nat.beq d t) = true := by rfl) : RM P B N np Q ops d l (⟨some t, op, ty, pos, af, none⟩ :: os) i s := by
 intro hd ro hB C hh r a w b clk es hn hc h3 h4 h5 h6 h7 h8
 obtain ⟨h1, h2⟩ := dJ hd
 simp only [Bool.and_eq_true, Nat.blt_eq, Bool.not_eq_true'] at hN
 rw [List.length_cons, List.range'_succ, wpOpsIn_cons]
 refine iE h1 rfl (by rcases hop with rfl | rfl <;> rfl) (x := a.eval x) (w' := w) (by rcases hop with rfl | rfl <;> simp only [execOp, Sem.run_pure]) ?_
 exact hr h2 ro hB C hh r _ w b clk es hn (hc.put hN.1 (hv ▸ de hc.rg x)) h3 h4 (by rw [jw (fun e => by rw [e] at hN; simp at hN)]; exact h5) h6 h7 h8
theorem RM.and {t1 t2 j : Nat} {y : Operand} {b1 b2 : Bool} {op1 : Op} {ty1 ty2 : TypeId} {pos1 pos2 : String} {af1 af2 : Array Edge} {c : Nat}
  (hop : op1 = .move y) (hg : gD ops j = some c) (hx : ev s.regs (.tmp c) = .p (.c (.v (.bool b1)))) (hy : ev s.regs y = .p (.c (.v (.bool b2))))
  (hr : RM P B N np Q ops d l os (i + 1 + 1) ⟨upd (upd s.regs t1 .junk) t2 (.p (.c (.v (.bool (b1 && b2))))), s.own⟩)
  (hN : (Nat.blt t1 N && Nat.blt t2 N && !Nat.beq d t1 && !Nat.beq d t2 && !Nat.beq c t1) = true := by rfl) :
  RM P B N np Q ops d l (⟨some t1, op1, ty1, pos1, af1, some (j, true)⟩ :: ⟨some t2, .pick (.tmp c) (.tmp t1) (.const (.bool false)), ty2, pos2, af2, none⟩ :: os) i s := by
 intro hd ro hB C hh r a w b clk es hn hc h3 h4 h5 h6 h7 h8
 subst hop
 obtain ⟨h1, h2⟩ := dJ hd
 obtain ⟨h1', h2'⟩ := dJ h2
 simp only [Bool.and_eq_true, Nat.blt_eq, Bool.not_eq_true'] at hN
 obtain ⟨⟨⟨⟨n1, n2⟩, n3⟩, n4⟩, n5⟩ := hN
 have d1 : d ≠ t1 := fun e => by rw [e] at n3; simp at n3
 have d2 : d ≠ t2 := fun e => by rw [e] at n4; simp at n4
 have d3 : c ≠ t1 := fun e => by rw [e] at n5; simp at n5
 rw [List.length_cons, List.range'_succ, wpOpsIn_cons]
 have ec : a.tmps.getD c undef = .bool b1 := by
  have := de hc.rg (.tmp c)
  rw [hx] at this
  exact bN this
 have ey : a.eval y = .bool b2 := by
  have := de hc.rg y
  rw [hy] at this
  exact bN this
 have hw : ∀ o : Oper, o.guard = some (j, true) → Region.wanted o (yielded ops a.tmps) = b1 := fun o ho => by
  have hyy := j6 hc.rg hg (c := b1) (by exact hx)
  unfold Region.wanted
  rw [ho]
  simp only [hyy]
  cases b1 <;> rfl
 have step : ∀ x1 : Value, (b1 = true → x1 = .bool b2) → wpOpsIn (Wd ro) 0 P ops (TQ N Q C) (List.range' (i + 1) (os.length + 1)) (a.put (some t1) x1) w := fun x1 hx1 => by
  rw [List.range'_succ, wpOpsIn_cons]
  have e1 : (a.put (some t1) x1).tmps.getD c undef = .bool b1 := by rw [jw d3]; exact ec
  have e2 : (a.put (some t1) x1).tmps.getD t1 undef = x1 := by
   simp only [Act.put]
   rw [dV _ _ _ _ (by rw [hc.sz]; exact n1), if_pos rfl]
  refine iE h1' rfl rfl (x := .bool (b1 && b2)) (w' := w) ?_ ?_
  ·have e1' : (a.put (some t1) x1).eval (.tmp c) = .bool b1 := e1
   have e2' : (a.put (some t1) x1).eval (.tmp t1) = x1 := e2
   have e3' : (a.put (some t1) x1).eval (.const (.bool false)) = .bool false := rfl
   cases b1
   ·simp [execOp, e1', e3', asBool]
   have e4 := hx1 rfl
   subst e4
   simp [execOp, e1', e2', asBool]
  refine hr h2' ro hB C hh r _ w b clk es hn ((hc.put (t := t1) (v := .junk) n1 trivial).put (t := t2) n2 (jV _ _ _)) h3 h4 (by rw [jw d2, jw d1]; exact h5) h6 h7 h8
 unfold wpOpIn
 simp only [h1]
 rw [hw _ rfl]
 cases hb : b1 with
 | true =>
  rw [if_pos rfl]
  refine ⟨fun _ _ => trivial, ?_⟩
  rw [Oper.semAt_eq _ _ _ (fun c' e => by cases e)]
  have hrun : (execOp a.eval ⟨some t1, .move y, ty1, pos1, af1, some (j, true)⟩).run P w = .ok (.value (.bool b2)) w := by simp only [execOp, ey, Sem.run_pure]
  rw [hrun]
  exact step _ fun _ => rfl
 | false =>
  rw [if_neg (by simp)]
  exact ⟨fun _ _ => trivial, step _ fun e => by rw [hb] at e; cases e⟩
theorem RM.insert {T K E : TypeId} {k : Int} {v : Bool} {y : Operand} (hu : P.underlying T = some (.map K E)) (hK : P.underlying K = some (.int .i64)) (hy : ev s.regs y = .p (.c (.v (.bool v)))) (hl : l.lookup k = none)
  (hr : RM P B N np Q ops d (l ++ [(k, v)]) os (i + 1) s) : RM P B N np Q ops d l (⟨none, .insert T (.tmp d) (.const (.int .i64 k)) y, ty, pos, af, none⟩ :: os) i s := by
 intro hd ro hB C hh r a w b clk es hn hc h3 h4 h5 h6 h7 h8
 obtain ⟨h1, h2⟩ := dJ hd
 rw [List.length_cons, List.range'_succ, wpOpsIn_cons]
 have ey : a.eval y = .bool v := by
  have := de hc.rg y
  rw [hy] at this
  exact bN this
 have ed : a.eval (.tmp d) = .map (some b) := h5
 have ek : a.eval (.const (.int .i64 k)) = .int .i64 k := rfl
 have hgo : (getObj b).run P w = .ok (.map es clk) w := by simp [getObj, Sem.run, h3]
 have hso : ∀ o, (setObj b o).run P w = .ok () (w.putObj b o) := fun o => by simp [setObj, Sem.run, h3, World.putObj]
 have hf := (ry (n := k) hK h4 w).1 hl
 have hck := o6 (P := P) hK k
 refine se h1 rfl rfl (w' := w.putObj b (.map (es.push ⟨.int .i64 k, .bool v, clk⟩) (clk + 1))) ?_ ?_
 ·simp [execOp, ed, ek, ey, Sem.run_bind, Instr.mapUpdate, run_underlying hu, hgo, hck, hf, hso]
 have hlt : b < w.heap.size := (Array.getElem?_eq_some_iff.1 h3).1
 refine hr h2 ro hB C hh r _ _ b (clk + 1) (es.push ⟨.int .i64 k, .bool v, clk⟩) hn ⟨by simp [Act.put, hc.sz], hc.df, fun t => hc.rg t, hc.wk.putL h8 h7 h6⟩ ?_ ?_ h5 h6 h7 h8
 ·simp [World.putObj, hlt]
 unfold lg at h4 ⊢
 rw [Array.toList_push, List.map_append, List.map_append, h4]
 rfl
theorem WOK.learn {C : Ctx} {h : Hp} {r : Nat → Value} {own : Own} {w : World} (k : WOK C h r own w) {b : Nat} {o : Obj} (hb : w.heap[b]? = some o) (h6 : C.w0.heap.size ≤ b) (h7 : h b = none) (h8 : ∀ m, own m ≠ none → aX (r m) ≠ some b) :
  WOK C (fun j => if j = b then some o else h j) r own w ∧ Hle h (fun j => if j = b then some o else h j) := by
 have hle : Hle h (fun j => if j = b then some o else h j) := fun j o' hj => by
  show (if j = b then some o else h j) = _
  rw [if_neg fun hji => by subst hji; rw [h7] at hj; cases hj]; exact hj
 refine ⟨⟨fun m b' hm => (k.ow m b' hm).mono hle, k.inj, fun j o' hj => ?_, fun m j hm e => ?_, k.os, k.tape, k.output, k.size, k.old, k.fo, k.hg.trans hle, fun j hj => ?_, k.gl.mono hle, k.kp, k.lk⟩, hle⟩
 ·by_cases e : j = b
  ·subst e; simp only [if_true] at hj; rw [hb]; exact hj
  rw [if_neg e] at hj; exact k.hi j o' hj
 ·show (if j = b then some o else h j) = none
  rw [if_neg fun x => by subst x; exact h8 m hm e]; exact k.ho m j hm e
 by_cases e : j = b
 ·subst e; exact .inr (.inl h6)
 have hj' : h j ≠ none := by intro x; apply hj; show (if j = b then some o else h j) = none; rw [if_neg e]; exact x
 exact k.hn j hj'
theorem RM.freeze (hr : RT P B N np Q ops os i ⟨upd s.regs d (.ax (Gn l)), s.own⟩) : RM P B N np Q ops d l os i s := by
 intro hd ro hB C hh r a w b clk es hn hc h3 h4 h5 h6 h7 h8
 obtain ⟨f1, f2⟩ := hc.wk.learn h3 h6 h7 h8
 refine hr hd ro hB C _ r a w hn ⟨hc.sz, hc.df.mono f2, fun t' => ?_, f1⟩
 show AVRep _ _ (upd s.regs d _ t') _
 by_cases e' : t' = d
 ·subst e'
  rw [upd_same]
  intro h' hl
  exact ⟨b, es, clk, h5, hl _ _ (fun q e => by cases e) (if_pos rfl), h4⟩
 rw [aH _ _ _ _ e']; exact AVRep.mono f2 _ _ (hc.rg t')
theorem sC {id : Nat} {T : TypeId} {os : List Oper} (h0 : ops.toList = ⟨some d, .makeMap T none, ty, pos, af, none⟩ :: os) (h : RM P B N np Q ops d [] os 1 ⟨upd s.regs d .junk, s.own⟩) (hN : Nat.blt d N = true := by rfl) : AWp P B N np (.region id ops false) Q s := by
 intro ro hB C hh r a w hn hc
 rw [Nat.blt_eq] at hN
 apply wpIn_region
 have hsz : ops.size = os.length + 1 := by rw [← Array.length_toList, h0]; rfl
 rw [List.range_eq_range', hsz, List.range'_succ, wpOpsIn_cons]
 have h1 : ops[0]? = some ⟨some d, .makeMap T none, ty, pos, af, none⟩ := by rw [← Array.getElem?_toList, h0]; rfl
 refine iE h1 rfl rfl (x := .map (some w.heap.size)) (w' := w.alloc (.map #[] 0)) (by simp [execOp, Instr.makeMap]) ?_
 have old : ∀ i, i < w.heap.size → (w.alloc (.map #[] 0)).heap[i]? = w.heap[i]? := fun i hi => by rw [bH, if_neg (by omega)]
 have hw := hc.wk.beside (w' := w.alloc (.map #[] 0)) rfl rfl (.refl _) (by show w.heap.size ≤ (w.heap.push _).size; rw [Array.size_push]; omega) old
 refine h (by rw [h0]; rfl) ro hB C hh r _ _ w.heap.size 0 #[] hn ((show Conc C N hh r s a (w.alloc (.map #[] 0)) from ⟨hc.sz, hc.df, hc.rg, hw⟩).put hN trivial) (by rw [bH, if_pos rfl]) rfl ?_ hc.wk.size ?_ ?_
 ·simp only [Act.put]
  rw [dV _ _ _ _ (by rw [hc.sz]; exact hN), if_pos rfl]
 ·cases hx : hh w.heap.size with
  | none => rfl
  | some o => exact absurd (hc.wk.hlt hx) (Nat.lt_irrefl _)
 intro m hm e
 exact absurd (hc.wk.lt hm e) (Nat.lt_irrefl _)
end
end
section
open Go Go.RowKit
section
variable {α : Type}
structure SmG (l m : List α) (k : Nat) : Prop where
 len : l.length = m.length
 le : k ≤ l.length
 eq : l.take k = m.take k
theorem SmG.start {l m : List α} (h : l.length = m.length) : SmG l m 0 := ⟨h, Nat.zero_le _, by simp⟩
theorem jq {l : List α} {k : Nat} (h : k < l.length) (d : α) : l[k]? = some (l.getD k d) := by
 rw [List.getD_eq_getElem?_getD, List.getElem?_eq_getElem h]; rfl
theorem SmG.next {l m : List α} {k : Nat} {d : α} (i : SmG l m k) (hk : k < l.length) (h : l.getD k d = m.getD k d) : SmG l m (k + 1) :=
 ⟨i.len, hk, by rw [ee (jq hk d), ee (jq (by have := i.len; omega) d), i.eq, h]⟩
theorem SmG.yes {l m : List α} {k : Nat} (i : SmG l m k) (hk : ¬ k < l.length) : l = m := by
 have h := i.eq
 rw [List.take_of_length_le (by omega), List.take_of_length_le (by have := i.len; omega)] at h
 exact h
theorem SmG.no {l m : List α} {k : Nat} {d : α} (h : ¬ l.getD k d = m.getD k d) : ¬ l = m := fun e => h (by rw [e])
def iA (p : α → Bool) : List α → Nat → Int
 | [], _ => -1
 | x :: l, k => if p x = true then (k : Int) else iA p l (k + 1)
theorem wC {p : α → Bool} {l : List α} {k : Nat} {d : α} (h : k < l.length) (hp : p (l.getD k d) = false) : iA p (l.drop k) k = iA p (l.drop (k + 1)) (k + 1) := by
 rw [List.drop_eq_getElem_cons h]
 show (if p l[k] = true then (k : Int) else iA p (l.drop (k + 1)) (k + 1)) = _
 rw [List.getD_eq_getElem?_getD, List.getElem?_eq_getElem h] at hp
 simp only [Option.getD_some] at hp
 rw [if_neg (by rw [hp]; decide)]
theorem yX {p : α → Bool} {l : List α} {k : Nat} {d : α} (h : k < l.length) (hp : p (l.getD k d) = true) : iA p (l.drop k) k = k := by
 rw [List.drop_eq_getElem_cons h]
 show (if p l[k] = true then (k : Int) else iA p (l.drop (k + 1)) (k + 1)) = _
 rw [List.getD_eq_getElem?_getD, List.getElem?_eq_getElem h] at hp
 simp only [Option.getD_some] at hp
 rw [if_pos hp]
theorem yY {p : α → Bool} {l : List α} {k : Nat} (h : l.length ≤ k) : iA p (l.drop k) k = -1 := by
 rw [List.drop_eq_nil_of_le h]; rfl
theorem ru {p : α → Bool} : ∀ (l : List α) (k : Nat), decide (iA p l k ≥ 0) = l.any p
 | [], _ => rfl
 | x :: l, k => by
  rw [List.any_cons]
  unfold iA
  cases h : p x with
  | true => rw [if_pos rfl, Bool.true_or, decide_eq_true_eq]; omega
  | false => rw [if_neg (by decide), Bool.false_or]; exact ru l (k + 1)
end
theorem Gd {o : Fm} {l : List Fm} : (l.any fun g => decide (g.a = o.a ∧ g.b = o.b ∧ g.c = o.c)) = decide (o ∈ l) := by
 rw [Bool.eq_iff_iff, List.any_eq_true, decide_eq_true_eq]
 constructor
 ·rintro ⟨g, hg, h⟩
  rw [decide_eq_true_eq] at h
  have : g = o := Fm.ext h.1 h.2.1 h.2.2
  exact this ▸ hg
 intro h; exact ⟨o, h, by simp⟩
section
variable {D : Int} {m : Nat} {f : Fm} {a : Ans}
def rgV (D : Int) (m : Nat) (f : Fm) (a : Ans) : Bool := if a.kind = 1 then pB f m (a.x, a.y) else if a.kind = 2 then jE D m f a.m else iZ D m f a.roots a.forms
theorem IH (h : a.kind = 1) (h1 : decide ((Int.gcd a.x a.y : Int) = 1) = true) : decide (vl f.a f.b f.c a.x a.y = m) = rgV D m f a := by
 unfold rgV pB
 have := dT0 h1
 rw [if_pos h, show decide (Int.gcd (a.x, a.y).1 (a.x, a.y).2 = 1) = true from decide_eq_true (by show Int.gcd a.x a.y = 1; omega), Bool.true_and]
theorem GU (h : a.kind = 1) (h1 : decide ((Int.gcd a.x a.y : Int) = 1) = false) : false = rgV D m f a := by
 unfold rgV pB
 have := dF0 h1
 rw [if_pos h, show decide (Int.gcd (a.x, a.y).1 (a.x, a.y).2 = 1) = false from decide_eq_false (by show ¬ Int.gcd a.x a.y = 1; omega), Bool.false_and]
theorem xW (h1 : ¬ a.kind = 1) (h2 : a.kind = 2) {b : Bool} (h : jE D m f a.m = b) : b = rgV D m f a := by
 unfold rgV; rw [if_neg h1, if_pos h2, h]
theorem uc (h1 : ¬ a.kind = 1) (h2 : ¬ a.kind = 2) {b : Bool} (h : iZ D m f a.roots a.forms = b) : b = rgV D m f a := by
 unfold rgV; rw [if_neg h1, if_neg h2, h]
def AgN (D : Int) (m : Nat) (f : Fm) (x : Int) (k : Nat) : Prop := x ∉ (agL D m f).take k
theorem AgN.start {x : Int} : AgN D m f x 0 := by unfold AgN; simp
theorem AgN.next {x c : Int} {k : Nat} (h : AgN D m f x k) (hc : (agL D m f)[k]? = some c) (hn : ¬ x = c) : AgN D m f x (k + 1) := by
 unfold AgN at *
 rw [ee hc, List.mem_append]
 rintro (q | q)
 ·exact h q
 simp only [List.mem_cons, List.not_mem_nil, or_false] at q; exact hn q
theorem AgN.done {x : Int} {k : Nat} (h : AgN D m f x k) (hk : k = ((agL D m f).map fun c => ([PE c] : List PV)).length) : x ∉ agL D m f := by
 unfold AgN at h
 rw [List.length_map] at hk
 rwa [hk, List.take_length] at h
def PtX (m : Nat) (x : Int) (k : Nat) : Prop := ∀ q ∈ (parts m).take k, x ≠ (q : Int)
theorem PtX.start {x : Int} : PtX m x 0 := fun q hq => by simp at hq
theorem PtX.next {x : Int} {k q : Nat} (h : PtX m x k) (hq : (parts m)[k]? = some q) (hn : ¬ x = (q : Int)) : PtX m x (k + 1) := by
 intro q' hq'
 rw [ee hq, List.mem_append] at hq'
 rcases hq' with z | z
 ·exact h q' z
 simp only [List.mem_cons, List.not_mem_nil, or_false] at z; subst z; exact hn
theorem Eh {x c : Int} {k : Nat} (hc : (agL D m f)[k]? = some c) (h : x = c) : jE D m f x = true := BJ (by rw [h]; exact List.mem_of_getElem? hc)
theorem Ef {x : Int} {k q : Nat} (hn : x ∉ agL D m f) (hq : (parts m)[k]? = some q) (h : x = (q : Int)) : jE D m f x = decide (rbL D (q : Int) = []) := by
 unfold jE
 rw [decide_eq_false hn, Bool.false_or, decide_eq_true (List.mem_map.2 ⟨q, List.mem_of_getElem? hq, h.symm⟩), Bool.true_and, h]
theorem Eg {x : Int} {k : Nat} (hn : x ∉ agL D m f) (h : PtX m x k) (hk : k = ((parts m).map fun (q : Nat) => ([PE (q : Int)] : List PV)).length) : jE D m f x = false := by
 unfold jE
 rw [decide_eq_false hn, Bool.false_or, Bool.and_eq_false_iff]
 left
 rw [decide_eq_false_iff_not]
 intro hm
 obtain ⟨q, hq, e⟩ := List.mem_map.1 hm
 exact h q (by rw [hk, List.length_map, List.take_length]; exact hq) e.symm
theorem rg3 {roots : List Int} {forms : List Fm} (h1 : decide (((fmL D m).length : Int) > 0) = true) (h2 : decide (roots = rbL D m) = true) (h3 : decide (forms = fmL D m) = true) :
  iZ D m f roots forms = !decide (f.rd ∈ fmL D m) := by
 have h4 := dT0 h1
 unfold iZ
 rw [h2, h3, decide_eq_true]
 ·simp
 intro e; unfold fmL at h4; rw [e] at h4; simp at h4
theorem G9 {roots : List Int} {forms : List Fm} (h1 : decide (((fmL D m).length : Int) > 0) = false) : iZ D m f roots forms = false := by
 have h4 := dF0 h1
 have : rbL D m = [] := by
  unfold fmL at h4
  rw [List.length_map] at h4
  exact List.length_eq_zero_iff.1 (by omega)
 unfold iZ
 rw [this]; rfl
theorem G8 {roots : List Int} {forms : List Fm} (h2 : decide (roots = rbL D m) = false) : iZ D m f roots forms = false := by
 unfold iZ; rw [h2]; simp
theorem G7 {roots : List Int} {forms : List Fm} (h3 : decide (forms = fmL D m) = false) : iZ D m f roots forms = false := by
 unfold iZ; rw [h3]; simp
theorem HV {hm : m ≤ 65536} : ((fmL D m).length : Int) ≤ 131072 := by
 have := wB D m hm; omega
def mE (a : RA) : List (Int × Bool) := [(1, decide (a.m.2 = []) && decide (((a.roots.length + a.forms.length : Nat) : Int) = 0)), (2, (decide (a.x.2 = []) && decide (a.y.2 = [])) && decide (((a.roots.length + a.forms.length : Nat) : Int) = 0)), (3, (decide (a.x.2 = []) && decide (a.y.2 = [])) && decide (a.m.2 = []))]
theorem FZ {a : RA} {r : Rw} (h : r ∈ a.nums) (hv : rV r = false) : false = rgA D m f a := by
 unfold rgA
 rw [(List.all_eq_false.2 ⟨r, h, by rw [hv]; decide⟩), Bool.false_and]
theorem o4 {a : RA} (h : ∀ r ∈ a.nums, rV r = true) : rgA D m f a = (((mE a).lookup a.kind).getD false && rgV D m f a.ans) := by
 have hx := yb (h a.x (by unfold RA.nums; simp))
 have hy := yb (h a.y (by unfold RA.nums; simp))
 have hm := yb (h a.m (by unfold RA.nums; simp))
 have hl : decide (((a.roots.length + a.forms.length : Nat) : Int) = 0) = decide (a.ans.roots = [] ∧ a.ans.forms = []) := by
  rw [decide_eq_decide]
  unfold RA.ans
  simp only [List.map_eq_nil_iff]
  constructor
  ·intro e; exact ⟨List.length_eq_zero_iff.1 (by omega), List.length_eq_zero_iff.1 (by omega)⟩
  rintro ⟨e1, e2⟩; rw [e1, e2]; rfl
 unfold rgA mE
 rw [List.all_eq_true.2 h, Bool.true_and, hx, hy, hm, hl]
 unfold rgt rgV
 have ek : a.ans.kind = a.kind := rfl
 have e1 : (decide (rZ a.x = 0) && decide (rZ a.y = 0)) = decide (a.ans.x = 0 ∧ a.ans.y = 0) := by
  show _ = decide (rZ a.x = 0 ∧ rZ a.y = 0)
  rw [Bool.decide_and]
 have e2 : decide (rZ a.m = 0) = decide (a.ans.m = 0) := rfl
 rw [e1, e2, ek]
 generalize a.ans = b at *
 by_cases k1 : a.kind = 1
 ·rw [k1]; simp [List.lookup]
 by_cases k2 : a.kind = 2
 ·rw [k2]; simp [List.lookup]
 by_cases k3 : a.kind = 3
 ·rw [k3]; simp [List.lookup]
 have f1 : (a.kind == 1) = false := by simpa using k1
 have f2 : (a.kind == 2) = false := by simpa using k2
 have f3 : (a.kind == 3) = false := by simpa using k3
 rw [if_neg k1, if_neg k2, if_neg k3]
 simp [List.lookup, f1, f2, f3]
theorem H7 {a : RA} (h : ∀ r ∈ a.nums, rV r = true) {u : Bool} (hu : ((mE a).lookup a.kind).getD false = u) (ht : u = true) : rgV D m f a.ans = rgA D m f a := by
 rw [o4 h, hu, ht, Bool.true_and]
theorem H8 {a : RA} (h : ∀ r ∈ a.nums, rV r = true) {u : Bool} (hu : ((mE a).lookup a.kind).getD false = u) (ht : u = false) : false = rgA D m f a := by
 rw [o4 h, hu, ht, Bool.false_and]
end
end
section
open Go Go.RowKit
section
variable {r : Rw}
theorem vD (h : ((r.2.length : Nat) : Int) = 0) : r.2 = [] := List.length_eq_zero_iff.1 (by omega)
theorem ua (h : ¬ ((r.2.length : Nat) : Int) = 0) : r.2 ≠ [] := fun e => h (by rw [e]; rfl)
theorem IL (h : ((r.2.length : Nat) : Int) = 0) : (!r.1) = rV r := by unfold rV; rw [if_pos (vD h)]
theorem IK (h : ¬ ((r.2.length : Nat) : Int) = 0) : (((r.2.getD (((r.2.length : Nat) : Int) - 1).toNat 0 : Nat) : Int) != 0) = rV r := by
 unfold rV
 rw [if_neg (ua h), show (((r.2.length : Nat) : Int) - 1).toNat = r.2.length - 1 by omega]
 generalize r.2.getD (r.2.length - 1) 0 = x
 rw [Bool.eq_iff_iff, bne_iff_ne, decide_eq_true_eq]
 omega
def rsg (r : Rw) : Int := if r.2 = [] then 0 else if r.1 = true then -1 else 1
theorem GZ (h : ((r.2.length : Nat) : Int) = 0) : 0 = rsg r := by unfold rsg; rw [if_pos (vD h)]
theorem GY (h : ¬ ((r.2.length : Nat) : Int) = 0) (h1 : r.1 = true) : -1 = rsg r := by unfold rsg; rw [if_neg (ua h), if_pos h1]
theorem GX (h : ¬ ((r.2.length : Nat) : Int) = 0) (h1 : r.1 = false) : 1 = rsg r := by unfold rsg; rw [if_neg (ua h), if_neg (by rw [h1]; decide)]
theorem GV : (rsg r == 0) = decide (r.2 = []) := by
 unfold rsg
 by_cases h : r.2 = []
 ·rw [if_pos h, decide_eq_true h]; rfl
 rw [if_neg h, decide_eq_false h]; split <;> rfl
end
def VaK (l : List Rw) (k : Nat) : Prop := ∀ r ∈ l.take k, rV r = true
theorem VaK.start {l : List Rw} : VaK l 0 := fun r hr => by simp at hr
theorem VaK.next {l : List Rw} {k : Nat} {d : Rw} (h : VaK l k) (hk : k < l.length) (hv : rV (l.getD k d) = true) : VaK l (k + 1) := by
 intro r hr
 rw [ee (jq hk d), List.mem_append] at hr
 rcases hr with z | z
 ·exact h r z
 simp only [List.mem_cons, List.not_mem_nil, or_false] at z; subst z; exact hv
theorem VaK.done {l : List Rw} {k : Nat} (h : VaK l k) (hk : l.length ≤ k) : ∀ r ∈ l, rV r = true := by
 unfold VaK at h; rwa [List.take_of_length_le hk] at h
def ei (a : RA) (k : Nat) : List Rw := [a.x, a.y, a.m] ++ a.roots ++ (a.forms.take k).flatMap rfL
theorem ER (a : RA) : ([.v (.bool a.x.1), W a.x.2, .v (.bool a.y.1), W a.y.2, .v (.bool a.m.1), W a.m.2] ++ a.roots.flatMap rC : List DV) = (ei a 0).flatMap rC := by
 unfold ei; simp
theorem EQ {a : RA} {k : Nat} {f : RF} (h : a.forms[k]? = some f) : (ei a k).flatMap rC ++ rfC f = (ei a (k + 1)).flatMap rC := by
 unfold ei
 rw [ee h]
 simp [rfL]
theorem yo {a : RA} {k : Nat} (h : a.forms.length ≤ k) : ei a k = a.nums := by
 unfold ei RA.nums; rw [List.take_of_length_le h]
theorem qJ {a : RA} {k : Nat} : (ei a k).length ≤ 3 + a.roots.length + 3 * a.forms.length := by
 unfold ei
 have : ∀ l : List RF, (l.flatMap rfL).length = 3 * l.length := by
  intro l
  induction l with
  | nil => rfl
  | cons f l ih => rw [List.flatMap_cons, List.length_append, ih]; simp [rfL]; omega
 rw [List.length_append, List.length_append, this, List.length_take]
 simp only [List.length_cons, List.length_nil]
 omega
end
section
open Go Go.RowKit
theorem Hr {k n : Nat} (h : 32 * k ≤ n) : (4294967296 : Nat) ^ k ≤ 2 ^ n := by
 rw [show (4294967296 : Nat) = 2 ^ 32 by rfl, ← Nat.pow_mul]
 exact Nat.pow_le_pow_right (by decide) h
theorem Ho {n : Nat} {r : Rw} (ho : okW r.2) (h : 32 * r.2.length ≤ 2 ^ n) : L n (rZ r) := by
 have h1 := gL ho
 have h2 : (rZ r).natAbs = wv r.2 := by unfold rZ sg; split <;> simp
 unfold L
 rw [h2]
 exact Nat.lt_of_lt_of_le h1 (Hr h)
theorem Ey {r : Rw} (ho : okW r.2) (h : r.2.length ≤ 1000) : L 30 (rZ r) := Ho ho (Nat.le_trans (Nat.mul_le_mul_left 32 h) (by decide))
theorem tu {x y : Nat} : (((x : Nat) : Int) + ((y : Nat) : Int) == 0) = decide (((x + y : Nat) : Int) = 0) := by
 rw [Bool.eq_iff_iff, beq_iff_eq, decide_eq_true_eq]
 omega
theorem Eu {a : RA} : a.x ∈ a.nums := by unfold RA.nums; simp
theorem Et {a : RA} : a.y ∈ a.nums := by unfold RA.nums; simp
theorem ra_len {a : RA} : a.ans.roots.length = a.roots.length ∧ a.ans.forms.length = a.forms.length := by unfold RA.ans; simp
end
section
open Go Go.RowKit
section
variable {P : Program} {tt : TT} (hT : dz P tt)
variable {dst : Option Nat} {ty : TypeId} {pos : String} {af : Array Edge} {gd : Option (Nat × Bool)} {d : Nat} {ρ : Operand → AV} {own : Own} {T : TypeId} {i : TyI} {x y : Operand}
include hT in
theorem jA {e l : Nat} {j : TyI} {k : IntKind} {n : Int} {xs : List DV} (ht : tt T = some i) (hs : i.sh = .ar l e) (he : tt e = some j) (hx : ρ x = .ip xs) (hy : ρ y = .p (.c (.v (.int k n)))) (hn : 0 ≤ n ∧ n < l) :
  Eff P ⟨dst, .indexAddr T x y, ty, pos, af, gd⟩ d ρ own (.ip (xs.drop (n.toNat * j.size))) [] none [] :=
 bp fun C h r own' a w hrep hrd hw => by
  have e1 := hrep x (by simp [Op.operands])
  have e2 := hrep y (by simp [Op.operands])
  rw [hx] at e1; rw [hy] at e2
  obtain ⟨b, off, c, e', fr, h1, h2, h3⟩ := e1
  refine ⟨.pointer (some ⟨b, off + n.toNat * j.size, none⟩), ?_, b, off + n.toNat * j.size, c, e', fr, rfl, h2, ?_⟩
  ·have hu := (hT T i ht).array hs
   simp only [execOp, h1, bN e2, Instr.indexAt, asIntOf, Sem.run_bind, Sem.run_pure, Result.andThen_ok, run_underlying hu, Instr.sureAddr, hn, and_self, if_true, (hT e j he).size, Addr.add_lit]
  exact (h3.drop (n.toNat * j.size)).congr fun k _ => by rw [Nat.add_assoc]
end
def sA (a b : Ans) : Bool := decide (a.kind = b.kind ∧ a.x = b.x ∧ a.y = b.y ∧ a.m = b.m ∧ a.roots = b.roots ∧ a.forms = b.forms)
theorem cA (a : Ans) : (!sA a a) = false := by unfold sA; simp
theorem IG {a b : Ans} (h0 : a.kind = b.kind) (h1 : a.x = b.x) (h2 : a.y = b.y) (h3 : a.m = b.m) (h4 : a.roots = b.roots) : decide (a.forms = b.forms) = sA a b := by
 unfold sA
 rw [decide_eq_decide]
 exact ⟨fun h => ⟨h0, h1, h2, h3, h4, h⟩, fun z => z.2.2.2.2.2⟩
theorem lf : Cl (-23) ⟨2, 1, 3⟩ := ⟨⟨by decide, by decide⟩, by decide +kernel, rfl⟩
theorem FM : Cl (-20) ⟨1, 0, 5⟩ := ⟨⟨by decide, by decide⟩, by decide +kernel, rfl⟩
theorem HX : Cl (-4) ⟨1, 0, 1⟩ := ⟨⟨by decide, by decide⟩, by decide +kernel, rfl⟩
theorem GA {D : Int} (h : D = -3) : (6 : Int) = (unN D : Nat) := by unfold unN; rw [if_pos h]; rfl
theorem Gz {D : Int} (h : ¬ D = -3) (h2 : D = -4) : (4 : Int) = (unN D : Nat) := by unfold unN; rw [if_neg h, if_pos h2]; rfl
theorem GB {D : Int} (h : ¬ D = -3) (h2 : ¬ D = -4) : (2 : Int) = (unN D : Nat) := by unfold unN; rw [if_neg h, if_neg h2]; rfl
end
section
open Go Go.RowKit
theorem gq {z : Int} (h : L 8 z) : (dS z).2.length ≤ 1000 := by
 have := pL (n := 3) h
 show (wl z.natAbs).length ≤ 1000
 omega
theorem BR {a : Ans} (hx : L 8 a.x) (hy : L 8 a.y) (hz : L 8 a.m) (hr : ∀ z ∈ a.roots, L 8 z) (hg : ∀ g ∈ a.forms, L 8 g.a ∧ L 8 g.b ∧ L 8 g.c) : ∀ r ∈ (je a).nums, r.2.length ≤ 1000 := by
 intro r h
 unfold RA.nums je at h
 simp only [List.mem_append, List.mem_cons, List.not_mem_nil, or_false, List.mem_map, List.mem_flatMap] at h
 rcases h with ((h | h | h) | ⟨z, h1, h⟩) | ⟨f, ⟨g, h1, rfl⟩, h⟩
 ·rw [h]; exact gq hx
 ·rw [h]; exact gq hy
 ·rw [h]; exact gq hz
 ·rw [← h]; exact gq (hr z h1)
 simp only [rfL, List.mem_cons, List.not_mem_nil, or_false] at h
 obtain ⟨g1, g2, g3⟩ := hg g h1
 rcases h with h | h | h
 ·rw [h]; exact gq g1
 ·rw [h]; exact gq g2
 rw [h]; exact gq g3
end
section
open Go Go.RowKit
def hM (p j : Int) : Mt := if j < p then ⟨p, j, 0, 1⟩ else ⟨1, 0, 0, p⟩
def gdV (p a b c j : Int) : Int := if j < p then a * j * j + b * j + c else a
def gd (p : Int) (f : Fm) (j : Int) : Bool := decide (gdV p f.a f.b f.c j % p ≠ 0)
section
end
end
section
open Go Go.RowKit
section
end
end
section
open Go Go.RowKit
theorem Gp {n : Int} {f : Fm} (hn : n ≤ 4194304) (h : f ∈ LW n prG) : f.pos ∧ Rd f ∧ dsc f.a f.b f.c = -n ∧ prim f.a f.b f.c = true := by
 have h1 := (xa hn).1 h
 have h2 : Rd f := h1.1.rd
 exact ⟨h1.1.pos, h2, h1.1.dsc, h1.2⟩
theorem Eo {n : Int} {f : Fm} (hn : n ≤ 4194304) (hf : f.pos) (hd : dsc f.a f.b f.c = -n) (hp : prim f.a f.b f.c = true) : f.rd ∈ LW n prG := by
 rw [xa hn]
 obtain ⟨m, h1, h2⟩ := mJ hf
 have hr : Rd f.rd := Rd.rdF hf
 have h3 := hr.redT
 have hd2 : dsc f.rd.a f.rd.b f.rd.c = -n := by
  rw [h2]
  have : (f.app m).disc = f.disc := lh h1
  exact this.trans hd
 rw [hd2, Int.neg_neg] at h3
 refine ⟨h3, ?_⟩
 unfold prG
 rw [h2, ← qm f (by rw [h1]; rfl)]
 exact hp
abbrev LWp (n : Int) : List Fm := LW n (fun f => prim f.a f.b f.c)
theorem sa {n : Int} (hn : n ≤ 4194304) : Whole (-n) (LWp n) := by
 refine ⟨zo n _, fun f => ⟨fun hm => ?_, fun h => ?_⟩⟩
 ·obtain ⟨h1, h2, h3, h4⟩ := Gp hn (show f ∈ LW n prG from hm)
  exact ⟨⟨h1, h4, h3⟩, qi h2 h1⟩
 have := Eo hn h.1.pos h.1.disc h.1.prim
 rw [h.2] at this
 exact this
theorem Gq (D : Nat) : (LWp (szz D)).length ≤ 199 := by
 have hs := iW D
 have h1 := sa (n := szz D) (by omega)
 have h2 := wg (n := szz D) (by omega)
 have h3 := qM (l := LWp (szz D)) (m := lst (szz D)) h1.nd (fun x hx => (h2.mem x).2 ((h1.mem x).1 hx))
 have h4 := Co (n := szz D) (by omega) (by omega) (by omega)
 omega
theorem Bu (D : Nat) : (-szz D) % 4 = 0 ∨ (-szz D) % 4 = 1 := by
 have := sM D
 unfold szE at this
 split at this
 ·cases this
 omega
theorem wK {a b n : Nat} (h : n = a * b) : (((n : Nat) : Int) == ((a * b : Nat) : Int)) = true := by rw [h]; exact beq_self_eq_true _
def smK (F : Fm → Nat) (l : List Fm) (k : Nat) : Nat := dm ((l.take k).map F)
theorem pV : ∀ (a b : List Nat), dm (a ++ b) = dm a + dm b
 | [], b => by simp [dm]
 | x :: a, b => by rw [List.cons_append]; simp only [dm]; rw [pV a b]; omega
theorem GP {F : Fm → Nat} {l : List Fm} : smK F l 0 = 0 := by unfold smK; simp [dm]
theorem GN {F : Fm → Nat} {l : List Fm} {k : Nat} {d : Fm} (hk : k < l.length) : smK F l (k + 1) = smK F l k + F (l.getD k d) := by
 unfold smK
 rw [ee (jq hk d), List.map_append, pV]
 simp [dm]
theorem By {F : Fm → Nat} {l : List Fm} {k : Nat} (h : l.length ≤ k) : smK F l k = dm (l.map F) := by unfold smK; rw [List.take_of_length_le h]
theorem GO {F : Fm → Nat} {l : List Fm} {k B : Nat} (hF : ∀ f, F f ≤ B) : smK F l k ≤ l.length * B := by
 unfold smK
 have : ∀ (m : List Fm), dm (m.map F) ≤ m.length * B := by
  intro m
  induction m with
  | nil => simp [dm]
  | cons f m ih =>
   rw [List.map_cons, List.length_cons, Nat.add_mul]
   simp only [dm]
   have := hF f
   omega
 refine Nat.le_trans (this _) (Nat.mul_le_mul_right _ ?_)
 rw [List.length_take]; exact Nat.min_le_right _ _
theorem vQ {D n : Int} {f : Fm} : (prS D n f).length = (prL D n f).length := sO
end
section
open Go Go.RowKit
end
section
open Go Go.RowKit
def bkL (zs : List Nat) : List (List PV) := (List.range zs.length).map fun (k : Nat) => [.c (.v (.int .i64 ((zs.length : Int) - 1 - (k : Int)))), .c (w32 (zs.getD (zs.length - 1 - k) 0))]
theorem oa (zs : List Nat) : (bkL zs).length = zs.length := by unfold bkL; simp
theorem wU {zs : List Nat} {k : Nat} (h : k < zs.length) : (bkL zs)[k]? = some [.c (.v (.int .i64 ((zs.length : Int) - 1 - (k : Int)))), .c (w32 (zs.getD (zs.length - 1 - k) 0))] := by
 unfold bkL; rw [List.getElem?_map, List.getElem?_range h]; rfl
theorem C8 {zs : List Nat} {k : Nat} {x : List PV} (h : (bkL zs)[k]? = some x) : k < zs.length ∧ x = [.c (.v (.int .i64 ((zs.length : Int) - 1 - (k : Int)))), .c (w32 (zs.getD (zs.length - 1 - k) 0))] := by
 have hk : k < zs.length := by have := (List.getElem?_eq_some_iff.1 h).1; rwa [oa] at this
 rw [wU hk] at h
 exact ⟨hk, (Option.some.inj h).symm⟩
theorem C7 (zs : List Nat) : ∀ x ∈ bkL zs, x.length = 2 := by
 intro x hx
 unfold bkL at hx
 obtain ⟨k, _, rfl⟩ := List.mem_map.1 hx
 rfl
def lwA (zs : List Nat) (k : Nat) : Nat := wv (zs.drop (zs.length - k))
theorem uF (zs : List Nat) : lwA zs 0 = 0 := by unfold lwA; rw [Nat.sub_zero, List.drop_length]; rfl
theorem Ci (zs : List Nat) : lwA zs zs.length = wv zs := by unfold lwA; rw [Nat.sub_self]; rfl
theorem qO {zs : List Nat} {k : Nat} (h : k < zs.length) : lwA zs (k + 1) = lwA zs k * 4294967296 + zs.getD (zs.length - 1 - k) 0 := by
 unfold lwA
 have hi : zs.length - (k + 1) < zs.length := by omega
 rw [List.drop_eq_getElem_cons hi, show zs.length - (k + 1) + 1 = zs.length - k by omega]
 have e : zs.getD (zs.length - 1 - k) 0 = zs[zs.length - (k + 1)] := by
  rw [List.getD_eq_getElem?_getD, show zs.length - 1 - k = zs.length - (k + 1) by omega, List.getElem?_eq_getElem hi]; rfl
 rw [e]
 show _ + 4294967296 * _ = _
 omega
theorem HJ {zs : List Nat} (hok : okW zs) (h2 : zs.length ≤ 2) {k : Nat} (h : k < zs.length) : lwA zs k < 4294967296 := by
 rcases (show k = 0 ∨ k = 1 by omega) with rfl | rfl
 ·rw [uF]; omega
 have h0 : 0 < zs.length := by omega
 rw [qO h0, uF]
 have := hok.getD (zs.length - 1 - 0)
 omega
theorem IW {m x : Nat} (hm : m < 4294967296) (hx : x < 4294967296) : bits .or .u64 ((m * 4294967296 : Nat) : Int) (x : Int) = ((m * 4294967296 + x : Nat) : Int) := by
 rw [lT rfl (gy (by omega)) (gy (by omega)), Nat.mul_comm m, show (4294967296 : Nat) = 2 ^ 32 by rfl, Nat.two_pow_add_eq_or_of_lt (i := 32) (by omega)]
def mf (m : Nat) : Int := if m < 9223372036854775808 then m else (m : Int) - 18446744073709551616
theorem vh (z : Int) : IntKind.i64.wrap z = if 9223372036854775808 ≤ z % 18446744073709551616 then z % 18446744073709551616 - 18446744073709551616 else z % 18446744073709551616 := by
 simp [IntKind.wrap, IntKind.signed, IntKind.bits]
theorem D7 {m : Nat} (h : m < 18446744073709551616) : IntKind.i64.wrap (m : Int) = mf m := by
 rw [vh]
 unfold mf
 split <;> split <;> omega
def yL (x : Int) : Int := if x < 0 then IntKind.i64.wrap (0 - mf x.natAbs) else mf x.natAbs
theorem Dh {x : Int} (h : x < 0) : IntKind.i64.wrap (0 - mf x.natAbs) = yL x := by unfold yL; rw [if_pos h]
theorem Dg {x : Int} (h : ¬ x < 0) : mf x.natAbs = yL x := by unfold yL; rw [if_neg h]
theorem tR {x : Int} (h : x.natAbs < 18446744073709551616) : (lwO x = true ∧ yL x = x) ∨ (lwO x = false ∧ ¬ yL x = 0 ∧ ¬ ((x < 0) ↔ (yL x < 0))) := by
 have hy : yL x = if x < 0 then (if x.natAbs ≤ 9223372036854775808 then x else 18446744073709551616 + x) else (if x < 9223372036854775808 then x else x - 18446744073709551616) := by
  unfold yL
  rw [vh]
  unfold mf
  repeat' split
  all_goals omega
 rw [hy]
 unfold lwO
 by_cases hr : -9223372036854775808 ≤ x ∧ x < 9223372036854775808
 ·refine .inl ⟨decide_eq_true hr, ?_⟩
  repeat' split
  all_goals omega
 refine .inr ⟨decide_eq_false hr, ?_⟩
 repeat' split
 all_goals omega
theorem tv {x : Int} (h : x.natAbs < 18446744073709551616) (h1 : (decide (x < 0) != decide (yL x < 0)) = true) : AV.t [PE 0, PB false] = .t [PE (lwV x), PB (lwO x)] := by
 rcases tR h with ⟨a, b⟩ | ⟨a, b, c⟩
 ·rw [b] at h1; simp at h1
 unfold lwV; rw [a]; rfl
theorem qP {x : Int} (h : x.natAbs < 18446744073709551616) (h1 : (decide (x < 0) != decide (yL x < 0)) = false) : AV.t [PE (yL x), PB true] = .t [PE (lwV x), PB (lwO x)] := by
 rcases tR h with ⟨a, b⟩ | ⟨a, b, c⟩
 ·unfold lwV; rw [a, b]; rfl
 exfalso
 apply c
 rw [bne_eq_false_iff_eq] at h1
 exact decide_eq_decide.1 h1
theorem oR {x : Int} (h : x.natAbs < 18446744073709551616) (h1 : yL x = 0) : AV.t [PE (yL x), PB true] = .t [PE (lwV x), PB (lwO x)] := by
 rcases tR h with ⟨a, b⟩ | ⟨a, b, c⟩
 ·unfold lwV; rw [a, b]; rfl
 exact absurd h1 b
end
section
open Go Go.RowKit
def pz0 (f : Fm) : Fm := if rfE f = 0 then prF (dsc f.a f.b f.c) else ⟨0, 0, 0⟩
theorem IQ {f : Fm} (h : ¬ rfE f = 0) : AV.t [PF ⟨0, 0, 0⟩, PE (rfE f)] = .t [PF (pz0 f), PE (rfE f)] := by unfold pz0; rw [if_neg h]
theorem IP {f : Fm} (h : rfE f = 0) : AV.t [PF (prF (dsc f.a f.b f.c)), PE 0] = .t [PF (pz0 f), PE (rfE f)] := by unfold pz0; rw [if_pos h, h]
end
end Go.AM
