import Derived.Test.YthaiejfjnllglaaGreatDoorTBC
import Derived.ChangeKeysEq
import Derived.Laws.StructEq
import Derived.Shelf.SlSortCmp.NoneTotal
set_option maxRecDepth 100000
namespace Go.AM
section
open Go Go.RowKit
theorem nf {c : Int} : ∀ (f : Nat) (p n : Int), 3 ≤ p → p % 2 = 1 → 1 ≤ n → n % 2 = 1 → c ∈ gGo f p n → 3 ≤ c ∧ c % 2 = 1 ∧ c ∣ n
 | 0, _, _, _, _, _, _, h => by simp [gGo] at h
 | f + 1, p, n, hp, hpo, hn, ho, h => by
  unfold gGo at h
  split at h
  ·split at h
   ·next e =>
    obtain ⟨r1, r2, r3, k, r4⟩ := fp (p := p) (by omega) n.toNat n (Nat.le_refl _) (by omega)
    rcases List.mem_cons.1 h with h | h
    ·subst h; exact ⟨hp, hpo, Int.dvd_of_emod_eq_zero e⟩
    obtain ⟨g1, g2, g3⟩ := nf f (p + 2) (rmp n p) (by omega) (by omega) (by omega) (mM hp (by omega) ho) h
    exact ⟨g1, g2, Int.dvd_trans g3 ⟨_, r4⟩⟩
   exact nf f (p + 2) n (by omega) (by omega) hn ho h
  split at h
  ·next e =>
   rw [List.mem_singleton] at h; subst h
   exact ⟨by omega, ho, Int.dvd_refl _⟩
  simp at h
theorem pQ {d c : Int} (h0 : d < 0) (h : c ∈ iZ (rmp (-d) 2)) : 3 ≤ c ∧ c % 2 = 1 ∧ c ∣ d := by
 obtain ⟨r1, r2, r3, k, r4⟩ := fp (p := 2) (by omega) (-d).toNat (-d) (Nat.le_refl _) (by omega)
 obtain ⟨g1, g2, g3⟩ := nf 1200 3 (rmp (-d) 2) (by omega) (by omega) (by omega) (by omega) h
 refine ⟨g1, g2, ?_⟩
 have : c ∣ -d := Int.dvd_trans g3 ⟨_, r4⟩
 exact Int.dvd_neg.1 this
theorem rA {d c : Int} (h : c ∈ spC d) : d % 4 = 0 ∧ ((c = -4 ∧ ((-d / 4) % 8 = 0 ∨ (-d / 4) % 8 = 1 ∨ (-d / 4) % 8 = 4 ∨ (-d / 4) % 8 = 5)) ∨ (c = 8 ∧ ((-d / 4) % 8 = 0 ∨ (-d / 4) % 8 = 6)) ∨ (c = -8 ∧ (-d / 4) % 8 = 2)) := by
 unfold spC at h
 split at h
 ·simp at h
 next h4 =>
 refine ⟨Classical.not_not.1 h4, ?_⟩
 split at h
 ·next e => simp only [List.mem_cons, List.not_mem_nil, or_false] at h; rcases h with rfl | rfl <;> simp [e]
 split at h
 ·next e => simp only [List.mem_cons, List.not_mem_nil, or_false] at h; subst h; left; exact ⟨rfl, .inr e⟩
 split at h
 ·next e => simp only [List.mem_cons, List.not_mem_nil, or_false] at h; subst h; right; right; exact ⟨rfl, e⟩
 split at h
 ·next e => simp only [List.mem_cons, List.not_mem_nil, or_false] at h; subst h; right; left; exact ⟨rfl, .inr e⟩
 simp at h
def spv (c r : Int) : Int := sgB (mZ (spR c) r)
theorem gu {c n : Int} (h : c = -4 ∨ c = 8 ∨ c = -8) : cv c n = spv c (n % 8) := (yX h).symm
theorem lj (n : Int) : ∃ r : Fin 8, n % 8 = (r.val : Int) := ⟨⟨(n % 8).toNat, by omega⟩, by show n % 8 = (((n % 8).toNat : Nat) : Int); omega⟩
theorem BN (a b c x1 y1 x2 y2 : Int) : 4 * (vl a b c x1 y1 * vl a b c x2 y2) = (2 * a * x1 * x2 + b * (x1 * y2 + x2 * y1) + 2 * c * y1 * y2) * (2 * a * x1 * x2 + b * (x1 * y2 + x2 * y1) + 2 * c * y1 * y2) - (b * b - 4 * a * c) * ((x1 * y2 - x2 * y1) * (x1 * y2 - x2 * y1)) := by
 unfold vl; grind
theorem sj {N d : Int} (h : Int.gcd N (2 * d) = 1) : N % 2 = 1 := by
 have h1 : Cop N (2 * d) := h
 have h2 : Cop (2 * d) N := h1.symm
 have h3 : Cop 2 N := h2.left
 have h4 : Cop N 2 := h3.symm
 rcases (show N % 2 = 0 ∨ N % 2 = 1 by omega) with g | g
 ·exfalso
  have hd : (2 : Int) ∣ N := Int.dvd_of_emod_eq_zero g
  have h5 : Int.gcd N 2 = 1 := h4
  have h6 := Int.dvd_gcd hd (Int.dvd_refl 2)
  rw [h5] at h6
  exact absurd h6 (by decide)
 exact g
theorem sk {N d c : Int} (h : Int.gcd N (2 * d) = 1) (hc : c ∣ d) : Cop N c := by
 obtain ⟨k, hk⟩ := hc
 have h1 : Cop N (2 * d) := h
 have h2 : Cop (2 * d) N := h1.symm
 have h3 : Cop d N := h2.right
 rw [hk] at h3
 exact h3.left.symm
theorem yR {N c : Int} (hc : 0 < c) (ho : c % 2 = 1) (h : Cop N c) : kr N c = 1 ∨ kr N c = -1 := by
 rw [fZ hc ho, if_pos h]; exact y7 N
theorem CH : ∀ (r s u v m : Fin 8), r.val % 2 = 1 → s.val % 2 = 1 → (r.val * s.val % 8 = (u.val * u.val + m.val * (v.val * v.val)) % 8) →
  ((m.val = 0 ∨ m.val = 1 ∨ m.val = 4 ∨ m.val = 5) → spv (-4) r.val = spv (-4) s.val) ∧ ((m.val = 0 ∨ m.val = 6) → spv 8 r.val = spv 8 s.val) ∧ (m.val = 2 → spv (-8) r.val = spv (-8) s.val) := by decide +kernel
theorem D1 {d : Int} {g : Fm} {c M N : Int} (hd : d < 0) (hg : dsc g.a g.b g.c = d) (hM : RpN g M) (hN : RpN g N) (cM : Int.gcd M (2 * d) = 1) (cN : Int.gcd N (2 * d) = 1) (hc : c ∈ chs d) : cv c M = cv c N := by
 obtain ⟨x1, y1, rfl⟩ := hM
 obtain ⟨x2, y2, rfl⟩ := hN
 have oM := sj cM
 have oN := sj cN
 have two := BN g.a g.b g.c x1 y1 x2 y2
 have hdd : g.b * g.b - 4 * g.a * g.c = d := hg
 rw [hdd] at two
 unfold chs at hc
 rcases List.mem_append.1 hc with h | h
 ·obtain ⟨c3, co, cd⟩ := pQ hd h
  have cpM := sk cM cd
  have cpN := sk cN cd
  generalize vl g.a g.b g.c x1 y1 = M at *
  generalize vl g.a g.b g.c x2 y2 = N at *
  generalize (2 * g.a * x1 * x2 + g.b * (x1 * y2 + x2 * y1) + 2 * g.c * y1 * y2) = U at two
  generalize (x1 * y2 - x2 * y1) * (x1 * y2 - x2 * y1) = V at two
  have hUU : c ∣ U * U - 4 * (M * N) := by
   have e : U * U - 4 * (M * N) = d * V := by omega
   rw [e]; exact Int.dvd_trans cd ⟨V, rfl⟩
  have c2 : Cop 2 c := jt co
  have c4 : Cop (2 * 2) c := c2.mul c2
  have c4MN : Cop (4 * (M * N)) c := c4.mul (cpM.mul cpN)
  have cUU : Cop (U * U) c := eI (n := c) (a := 4 * (M * N)) (b := U * U) (by
   have e : 4 * (M * N) - U * U = -(U * U - 4 * (M * N)) := by omega
   rw [e]; exact Int.dvd_neg.2 hUU) c4MN
  have k1 : kr (U * U) c = 1 := uU (by omega) co cUU.left
  have k2 : kr (U * U) c = kr (4 * (M * N)) c := uV (by omega) co hUU
  have k3 : kr (4 * (M * N)) c = kr (2 * 2) c * (kr M c * kr N c) := by
   rw [show 4 * (M * N) = 2 * 2 * (M * N) from rfl, cA (a := 2 * 2) (b := M * N) (by omega) co, cA (a := M) (b := N) (by omega) co]
  have k4 : kr (2 * 2) c = 1 := uU (by omega) co c2
  rw [← qu (by omega), ← qu (by omega)]
  rw [k1, k3, k4, Int.one_mul] at k2
  rcases yR (by omega) co cpM with e1 | e1 <;> rcases yR (by omega) co cpN with e2 | e2 <;> rw [e1, e2] at k2 <;> rw [e1, e2] <;> omega
 obtain ⟨h4, hs⟩ := rA h
 have hb : g.b % 2 = 0 := by
  rcases (show g.b % 2 = 0 ∨ g.b % 2 = 1 by omega) with q | q
  ·exact q
  exfalso
  obtain ⟨t, ht⟩ : ∃ t, g.b = 2 * t + 1 := ⟨g.b / 2, by omega⟩
  have e1 : g.b * g.b = 4 * (t * t + t) + 1 := by rw [ht]; grind
  rw [Int.mul_assoc] at hdd
  omega
 obtain ⟨t, ht⟩ : ∃ t, g.b = 2 * t := ⟨g.b / 2, by omega⟩
 obtain ⟨m, hm⟩ : ∃ m, d = -(4 * m) := ⟨-d / 4, by omega⟩
 have em : -d / 4 = m := by omega
 rw [em] at hs
 have eU : 2 * g.a * x1 * x2 + g.b * (x1 * y2 + x2 * y1) + 2 * g.c * y1 * y2 = 2 * (g.a * x1 * x2 + t * (x1 * y2 + x2 * y1) + g.c * y1 * y2) := by rw [ht]; grind
 rw [eU] at two
 generalize vl g.a g.b g.c x1 y1 = M at *
 generalize vl g.a g.b g.c x2 y2 = N at *
 generalize g.a * x1 * x2 + t * (x1 * y2 + x2 * y1) + g.c * y1 * y2 = U at two
 generalize x1 * y2 - x2 * y1 = V at two
 have eMN : M * N = U * U + m * (V * V) := by
  have e1 : 2 * U * (2 * U) = 4 * (U * U) := by grind
  have e2 : d * (V * V) = -(4 * (m * (V * V))) := by rw [hm]; grind
  omega
 obtain ⟨r, er⟩ := lj M
 obtain ⟨s, es⟩ := lj N
 obtain ⟨u, eu⟩ := lj U
 obtain ⟨v, ev⟩ := lj V
 obtain ⟨q, eq⟩ := lj m
 have key : ((r.val * s.val : Nat) : Int) % 8 = ((u.val * u.val + q.val * (v.val * v.val) : Nat) : Int) % 8 := by
  have h1 : (M * N) % 8 = ((r.val * s.val : Nat) : Int) % 8 := by rw [Int.mul_emod, er, es, Int.natCast_mul]
  have h2 : (U * U + m * (V * V)) % 8 = ((u.val * u.val + q.val * (v.val * v.val) : Nat) : Int) % 8 := by
   obtain ⟨U', hU⟩ : ∃ k, U = 8 * k + (u.val : Int) := ⟨U / 8, by omega⟩
   obtain ⟨V', hV⟩ : ∃ k, V = 8 * k + (v.val : Int) := ⟨V / 8, by omega⟩
   obtain ⟨m', hm'⟩ : ∃ k, m = 8 * k + (q.val : Int) := ⟨m / 8, by omega⟩
   simp only [Int.natCast_add, Int.natCast_mul]
   generalize (u.val : Int) = u' at hU ⊢
   generalize (v.val : Int) = v' at hV ⊢
   generalize (q.val : Int) = q' at hm' ⊢
   have e : U * U + m * (V * V) = 8 * (8 * U' * U' + 2 * U' * u' + m' * (V * V) + q' * (8 * V' * V' + 2 * V' * v')) + (u' * u' + q' * (v' * v')) := by rw [hU, hm', hV]; grind
   rw [e]
   generalize 8 * U' * U' + 2 * U' * u' + m' * (V * V) + q' * (8 * V' * V' + 2 * V' * v') = K
   generalize u' * u' + q' * (v' * v') = R
   omega
  rw [← h1, eMN, h2]
 have key2 : r.val * s.val % 8 = (u.val * u.val + q.val * (v.val * v.val)) % 8 := by omega
 have k := CH r s u v q (by omega) (by omega) key2
 rw [eq] at hs
 rcases hs with ⟨rfl, h5⟩ | ⟨rfl, h5⟩ | ⟨rfl, h5⟩
 ·rw [gu (by simp), gu (by simp), er, es]; exact k.1 (by omega)
 ·rw [gu (by simp), gu (by simp), er, es]; exact k.2.1 (by omega)
 rw [gu (by simp), gu (by simp), er, es]; exact k.2.2 (by omega)
end
section
open Go Go.RowKit
section
variable {f : Fm}
theorem GV (h : ¬ ck f.a f.b f.c = 0) : AV.t [PE 0, PE (ck f.a f.b f.c)] = .t [PE (gpV f), PE (gpE f)] := by
 have e : gpE f = ck f.a f.b f.c := by unfold gpE; rw [if_pos h]
 unfold gpV; rw [e, if_neg h]
theorem GU (h : ck f.a f.b f.c = 0) (h1 : szE (dsc f.a f.b f.c) = 0) (h2 : prim f.a f.b f.c = false) : AV.t [PE 0, PE 80] = .t [PE (gpV f), PE (gpE f)] := by
 have e : gpE f = 80 := by unfold gpE; rw [if_neg (fun x => x h), if_neg (fun x => x h1), if_neg (by rw [h2]; decide)]
 unfold gpV; rw [e]; rfl
theorem GT (h : ck f.a f.b f.c = 0) (h1 : szE (dsc f.a f.b f.c) = 0) (h2 : prim f.a f.b f.c = true) : AV.t [PE (gnV (dsc f.a f.b f.c)), PE (szE (dsc f.a f.b f.c))] = .t [PE (gpV f), PE (gpE f)] := by
 have e : gpE f = 0 := by unfold gpE; rw [if_neg (fun x => x h), if_neg (fun x => x h1), if_pos h2]
 unfold gpV gnV; rw [e, h1]
theorem GS (h : ck f.a f.b f.c = 0) (h1 : ¬ szE (dsc f.a f.b f.c) = 0) : AV.t [PE (gnV (dsc f.a f.b f.c)), PE (szE (dsc f.a f.b f.c))] = .t [PE (gpV f), PE (gpE f)] := by
 have e : gpE f = szE (dsc f.a f.b f.c) := by unfold gpE; rw [if_neg (fun x => x h), if_pos h1]
 unfold gpV gnV; rw [e, if_neg h1]
end
def gN (f : Fm) (d : Int) : Int := (f.rd.app (cpM f.rd (2 * d))).a
theorem FY {d : Int} {f : Fm} (hf : Cl d f) (hd : -4194304 ≤ d) (h0 : d < 0) : RpN f.rd (gN f d) ∧ Int.gcd (gN f d) (2 * d) = 1 := by
 have hp := hf.rd.prim
 have h1 := (F7 (f := f.rd) (a := 2 * d) hp (by omega) (by omega)).1
 exact ⟨⟨_, _, rfl⟩, (D2 h1).2⟩
def gvL (f : Fm) : List Int := if gpE f = 0 then (chs (dsc f.a f.b f.c)).map (fun c => cv c (gN f (dsc f.a f.b f.c))) else []
theorem u6 {d N : Int} {f : Fm} (hf : Cl d f) (hd : -4194304 ≤ d) (h0 : d < 0) (hE : szE d = 0) (hN : RpN f.rd N) (cN : Int.gcd N (2 * d) = 1) : (chs d).map (fun c => cv c N) = gvL f := by
 unfold gvL
 rw [if_pos (mE hf hd hE), hf.disc]
 have hg := FY hf hd h0
 exact List.map_congr_left fun c hc => D1 h0 hf.rd.disc hN hg.1 cN hg.2 hc
theorem EW {d N : Int} {g : Fm} (hg : Cl d g) (hN : RpN g N) (h0 : d < 0) : 0 ≤ N := by
 obtain ⟨x, y, rfl⟩ := hN
 have ha := hg.pos.1
 have hd : g.b * g.b - 4 * g.a * g.c = d := hg.disc
 have e : 4 * g.a * vl g.a g.b g.c x y = (2 * g.a * x + g.b * y) * (2 * g.a * x + g.b * y) - d * (y * y) := by rw [← hd]; unfold vl; grind
 have h1 := cp (2 * g.a * x + g.b * y)
 have h2 := Int.mul_nonneg (show 0 ≤ -d by omega) (cp y)
 rw [Int.neg_mul] at h2
 rcases Int.lt_or_le (vl g.a g.b g.c x y) 0 with q | q
 ·have h3 : 4 * g.a * vl g.a g.b g.c x y < 0 := Int.mul_neg_of_pos_of_neg (by omega) q
  omega
 exact q
theorem tI {d c : Int} (h0 : d < 0) (hd : -4194304 ≤ d) (h : c ∈ chs d) : -8 ≤ c ∧ c ≤ 4194304 := by
 unfold chs at h
 rcases List.mem_append.1 h with h | h
 ·obtain ⟨h1, h2, h3⟩ := pQ h0 h
  have h4 : c ∣ -d := Int.dvd_neg.2 h3
  have := Int.le_of_dvd (by omega) h4
  omega
 rcases (rA h).2 with ⟨rfl, _⟩ | ⟨rfl, _⟩ | ⟨rfl, _⟩ <;> omega
section
variable {P : Program}
variable {dst : Option Nat} {ty : TypeId} {pos : String} {af : Array Edge} {gd : Option (Nat × Bool)} {d : Nat} {ρ : Operand → AV} {own : Own}
theorem Eff.callCh {fo fs : FuncId} {c0 N : Int} {c x : Operand} {tys : Array TypeId} (hx : ρ c = .p (.c (chF fo fs c0))) (hN : ρ x = .p (.c (.v (.int .i64 N))))
  (h1 : aG P fs [.p (.c (.v (.int .i64 N))), .ip [IS (spR c0)]] (.p (.c (.v (.int .i64 (sgB (mZ (spR c0) (N % 8)))))))) (h2 : aG P fo [.p (.c (.v (.int .i64 N))), .ip [IC c0]] (.p (.c (.v (.int .i64 (kr N c0)))))) :
  Eff P ⟨dst, .call ⟨.value c, #[x], tys⟩, ty, pos, af, gd⟩ d ρ own (.p (.c (.v (.int .i64 (cv c0 N))))) [] none [] := by
 by_cases h : c0 = -4 ∨ c0 = 8 ∨ c0 = -8
 ·rw [← yX h]
  have e : chF fo fs c0 = .fn fs ([[IS (spR c0)]].map .ip) := by unfold chF; rw [if_pos h]; rfl
  rw [e] at hx
  exact Eff.callD hx (by simpa [hN] using h1)
 rw [← qu h]
 have e : chF fo fs c0 = .fn fo ([[IC c0]].map .ip) := by unfold chF; rw [if_neg h]; rfl
 rw [e] at hx
 exact Eff.callD hx (by simpa [hN] using h2)
end
theorem w6 {l : List Int} {k : Nat} {N : Int} (h : (k : Int) < l.length) : (l.take k).map (fun c => cv c N) ++ [cv (l.getD k 0) N] = (l.take (k + 1)).map (fun c => cv c N) := by
 rw [← nG h, List.map_append]; rfl
theorem gg1 {n d : Int} (h : ((gg n (2 * d)).natAbs : Int) = 1) : Int.gcd n (2 * d) = 1 := by rw [← mx]; omega
theorem DN {n d : Int} (h : ((gg n (2 * d)).natAbs : Int) ≠ 1) : Int.gcd n (2 * d) ≠ 1 := by rw [← mx]; omega
theorem EG (a b c x y : Int) : a * y * y + b * x * y + c * x * x = vl a b c y x := by unfold vl; grind
theorem FV {f : Fm} (h : ¬ gpE f = 0) : gvL f = [] := by unfold gvL; rw [if_neg h]
theorem DM {n d : Int} (h0 : d < 0) (hd : -4194304 ≤ d) : -9223372036854775808 < gg n (2 * d) ∧ gg n (2 * d) ≤ 9223372036854775807 := by
 have h1 := mx n (2 * d)
 have h2 : Int.gcd n (2 * d) ≤ (2 * d).natAbs := Nat.le_of_dvd (by omega) (Nat.gcd_dvd_right _ _)
 omega
theorem oj {l : List Int} {k : Nat} (h : (k : Int) < l.length) : l.getD k 0 ∈ l := by
 have hk : k < l.length := by omega
 have e : l.getD k 0 = l[k] := by simp [List.getD, hk]
 rw [e]; exact List.getElem_mem hk
end
section
open Go Go.RowKit
section
end
section
end
theorem Bc (f : Fm) : ((gvL f).length : Int) ≤ 1000000 := by
 unfold gvL
 split
 ·next h =>
  obtain ⟨h1, h2⟩ := qd h
  obtain ⟨_, h3, h4⟩ := oH h2
  rw [List.length_map]
  have := lq h3 h4
  omega
 simp
end
section
open Go Go.RowKit
section
end
section
end
end
section
open Go Go.RowKit
section
end
section
end
end
section
open Go Go.RowKit
end
section
open Go Go.RowKit
theorem CV {D : Int} {f : Fm} {N : Int} (hf : Cl D f) (h : RpN f N) : RpN f.rd N := by
 obtain ⟨u, v, hv⟩ := h
 obtain ⟨m, hm, em⟩ := kn hf.pos
 have e3 : f.rd.app m.adj = f := by rw [em, jv hm]
 have e4 := BP f.rd m.adj u v
 rw [e3] at e4
 exact ⟨_, _, hv.trans e4⟩
theorem ry (D : Nat) : szE (-szz D) = 0 := by
 have h := dN D
 unfold szE
 rw [if_neg (by omega), if_neg (by omega)]
end
section
open Go Go.RowKit
section
variable {D : Int} {f g h : Fm}
structure Whole (D : Int) (l : List Fm) : Prop where
 nd : l.Nodup
 mem : ∀ f, f ∈ l ↔ Cl D f ∧ f.rd = f
theorem Whole.rd {l : List Fm} (w : Whole D l) (hf : Cl D f) : f.rd ∈ l := (w.mem _).2 ⟨hf.rd, hf.rd_rd⟩
theorem pS {α : Type} [DecidableEq α] : ∀ {l m : List α}, l.Nodup → (∀ x ∈ l, x ∈ m) → l.length ≤ m.length
 | [], m, _, _ => Nat.zero_le _
 | x :: l, m, hn, hs => by
  rw [List.nodup_cons] at hn
  have hx := hs x (List.mem_cons_self ..)
  have h1 : l.length ≤ (m.erase x).length := pS hn.2 (fun y hy => by
   have hne : y ≠ x := fun e => hn.1 (e ▸ hy)
   exact (List.mem_erase_of_ne hne).2 (hs y (List.mem_cons_of_mem _ hy)))
  have h2 := List.length_erase_of_mem hx
  have h3 := List.length_pos_of_mem hx
  rw [List.length_cons]; omega
end
end
section
open Go Go.RowKit
theorem n5 {n a b : Int} : ∀ {k : Nat} {c : Int}, c ≤ b → b < c + k → okF n a b = true → (⟨a, b, (b * b + n) / (4 * a)⟩ : Fm) ∈ fB n a k c
 | 0, c, h1, h2, _ => by omega
 | k + 1, c, h1, h2, h3 => by
  unfold fB
  rw [List.mem_append]
  rcases Int.lt_or_eq_of_le h1 with g | g
  ·exact .inr (n5 (by omega) (by omega) h3)
  subst g
  rw [if_pos h3]
  exact .inl (List.mem_singleton.2 rfl)
theorem n9 {n a b : Int} (hb : -a ≤ b ∧ b ≤ a) (hs : 3 * a * a ≤ n) (hk : okF n a b = true) : ∀ {k : Nat} {c : Int}, 1 ≤ c → c ≤ a → a < c + k → (⟨a, b, (b * b + n) / (4 * a)⟩ : Fm) ∈ ee n k c
 | 0, c, _, h1, h2 => by omega
 | k + 1, c, h0, h1, h2 => by
  have hc : 3 * c * c ≤ n := by
   have : c * c ≤ a * a := Int.mul_le_mul h1 h1 (by omega) (by omega)
   have e1 : 3 * c * c = 3 * (c * c) := Int.mul_assoc ..
   have e2 : 3 * a * a = 3 * (a * a) := Int.mul_assoc ..
   omega
  unfold ee
  rw [if_pos hc, List.mem_append]
  rcases Int.lt_or_eq_of_le h1 with g | g
  ·exact .inr (n9 hb hs hk (by omega) (by omega) (by omega))
  subst g
  exact .inl (n5 hb.1 (by omega) hk)
theorem lC {n a : Int} : ∀ (k : Nat) (b : Int), (fB n a k b).Nodup
 | 0, _ => List.Pairwise.nil
 | k + 1, b => by
  unfold fB
  have ih := lC k (b + 1) (n := n) (a := a)
  split
  ·rw [List.singleton_append, List.nodup_cons]
   refine ⟨fun hm => ?_, ih⟩
   obtain ⟨b', h1, _, _, h4⟩ := gk hm
   have := congrArg Fm.b h4
   simp only at this
   omega
  exact ih
theorem lD {n : Int} : ∀ (k : Nat) (a : Int), 1 ≤ a → (ee n k a).Nodup
 | 0, _, _ => List.Pairwise.nil
 | k + 1, a, ha => by
  unfold ee
  split
  ·rw [List.nodup_append]
   refine ⟨lC _ _, lD k (a + 1) (by omega), fun x hx y hy e => ?_⟩
   subst e
   obtain ⟨b', _, _, _, h4⟩ := gk hx
   have h5 : ∀ {k : Nat} {c : Int}, 1 ≤ c → x ∈ ee n k c → c ≤ x.a := by
    intro k
    induction k with
    | zero => intro c _ h; simp [ee] at h
    | succ k ih =>
     intro c hc h
     unfold ee at h
     split at h
     ·rw [List.mem_append] at h
      rcases h with h | h
      ·obtain ⟨_, _, _, _, h6⟩ := gk h
       rw [h6]; exact Int.le_refl _
      have := ih (by omega) h; omega
     simp at h
   have h6 := h5 (by omega) hy
   rw [h4] at h6
   simp only at h6
   omega
  exact List.Pairwise.nil
theorem uQ (n : Int) : (lst n).Nodup := lD 100 1 (by omega)
theorem F5 {a b c n : Int} (ha : 0 < a) (h : dsc a b c = -n) : (b * b + n) % (4 * a) = 0 ∧ (b * b + n) / (4 * a) = c := by
 unfold dsc at h
 have e : b * b + n = 4 * a * c := by omega
 rw [e]
 exact ⟨Int.mul_emod_right .., Int.mul_ediv_cancel_left _ (by omega)⟩
theorem Rd.sq3 {f : Fm} {n : Int} (h : Rd f) (hd : dsc f.a f.b f.c = -n) : 3 * f.a * f.a ≤ n := by
 have h1 := h.a
 have h2 := h.b
 have h3 := h.c
 unfold dsc at hd
 have e1 : 4 * f.a * f.c = 4 * (f.a * f.c) := Int.mul_assoc ..
 have e2 : 3 * f.a * f.a = 3 * (f.a * f.a) := Int.mul_assoc ..
 have h4 : f.a * f.a ≤ f.a * f.c := Int.mul_le_mul_of_nonneg_left h3 (by omega)
 have h5 : f.b * f.b ≤ f.a * f.a := eD (by omega)
 omega
theorem uP {n : Int} (hn : n ≤ 20000) : Whole (-n) (lst n) := by
 refine ⟨uQ n, fun f => ⟨fun hm => ?_, fun h => ?_⟩⟩
 ·obtain ⟨h1, h2, h3, h4, h5, h6, h7⟩ := sa hm
  have hp : f.pos := ⟨by omega, by show dsc _ _ _ < 0; have h8 : 1 * 1 ≤ f.a * f.a := Int.mul_le_mul h1 h1 (by omega) (by omega); have e : 3 * f.a * f.a = 3 * (f.a * f.a) := Int.mul_assoc ..; omega⟩
  exact ⟨⟨hp, h7, h5⟩, px (Rd.of (by omega) h6) hp⟩
 have hr : Rd f := h.2 ▸ h.1.rd_Rd
 have hd := h.1.disc
 have ha := hr.a
 have hb := hr.b
 obtain ⟨e1, e2⟩ := F5 ha hd
 have hs := hr.sq3 hd
 have hk : okF n f.a f.b = true := by
  rw [Dk e1, e2, h.1.prim, Bool.and_true]
  exact (kP h.1.pos).2 ⟨hr.b, hr.c, hr.s⟩
 have ha2 : f.a ≤ 100 := by
  rcases Int.lt_or_le 100 f.a with g | g
  ·have h3 : (101 : Int) * 101 ≤ f.a * f.a := Int.mul_le_mul (by omega) (by omega) (by omega) (by omega)
   have e : 3 * f.a * f.a = 3 * (f.a * f.a) := Int.mul_assoc ..
   omega
  exact g
 have hm := n9 (n := n) (a := f.a) (b := f.b) (by omega) hs hk (k := 100) (c := 1) (by omega) (by omega) (by omega)
 rw [e2] at hm
 exact hm
end
section
open Go Go.RowKit
section
end
end
section
open Go Go.RowKit
theorem Dt : ∀ k : Fin 50, (lst (4 * (0 + k.val) + 3)).length ≤ 199 ∧ (lst (4 * (0 + k.val) + 4)).length ≤ 199 := by decide +kernel
theorem AT : ∀ k : Fin 50, (lst (4 * (50 + k.val) + 3)).length ≤ 199 ∧ (lst (4 * (50 + k.val) + 4)).length ≤ 199 := by decide +kernel
theorem xh : ∀ k : Fin 50, (lst (4 * (100 + k.val) + 3)).length ≤ 199 ∧ (lst (4 * (100 + k.val) + 4)).length ≤ 199 := by decide +kernel
theorem xf : ∀ k : Fin 50, (lst (4 * (150 + k.val) + 3)).length ≤ 199 ∧ (lst (4 * (150 + k.val) + 4)).length ≤ 199 := by decide +kernel
theorem xe : ∀ k : Fin 50, (lst (4 * (200 + k.val) + 3)).length ≤ 199 ∧ (lst (4 * (200 + k.val) + 4)).length ≤ 199 := by decide +kernel
theorem xd : ∀ k : Fin 50, (lst (4 * (250 + k.val) + 3)).length ≤ 199 ∧ (lst (4 * (250 + k.val) + 4)).length ≤ 199 := by decide +kernel
theorem xc : ∀ k : Fin 50, (lst (4 * (300 + k.val) + 3)).length ≤ 199 ∧ (lst (4 * (300 + k.val) + 4)).length ≤ 199 := by decide +kernel
theorem xa : ∀ k : Fin 50, (lst (4 * (350 + k.val) + 3)).length ≤ 199 ∧ (lst (4 * (350 + k.val) + 4)).length ≤ 199 := by decide +kernel
theorem w9 : ∀ k : Fin 50, (lst (4 * (400 + k.val) + 3)).length ≤ 199 ∧ (lst (4 * (400 + k.val) + 4)).length ≤ 199 := by decide +kernel
theorem w8 : ∀ k : Fin 50, (lst (4 * (450 + k.val) + 3)).length ≤ 199 ∧ (lst (4 * (450 + k.val) + 4)).length ≤ 199 := by decide +kernel
theorem w7 : ∀ k : Fin 1, (lst (4 * (500 + k.val) + 3)).length ≤ 199 ∧ (lst (4 * (500 + k.val) + 4)).length ≤ 199 := by decide +kernel
theorem AW {n : Int} (h1 : 3 ≤ n) (h2 : n ≤ 2003) (h : n % 4 = 0 ∨ n % 4 = 3) : (lst n).length ≤ 199 := by
 have key : ∀ k : Nat, k < 501 → (lst (4 * (k : Int) + 3)).length ≤ 199 ∧ (lst (4 * (k : Int) + 4)).length ≤ 199 := by
  intro k hk
  by_cases c0 : k < 50
  ·have h := Dt ⟨k - 0, by omega⟩
   have e : (0 : Int) + ((k - 0 : Nat) : Int) = (k : Int) := by omega
   rw [e] at h; exact h
  by_cases c50 : k < 100
  ·have h := AT ⟨k - 50, by omega⟩
   have e : (50 : Int) + ((k - 50 : Nat) : Int) = (k : Int) := by omega
   rw [e] at h; exact h
  by_cases c100 : k < 150
  ·have h := xh ⟨k - 100, by omega⟩
   have e : (100 : Int) + ((k - 100 : Nat) : Int) = (k : Int) := by omega
   rw [e] at h; exact h
  by_cases c150 : k < 200
  ·have h := xf ⟨k - 150, by omega⟩
   have e : (150 : Int) + ((k - 150 : Nat) : Int) = (k : Int) := by omega
   rw [e] at h; exact h
  by_cases c200 : k < 250
  ·have h := xe ⟨k - 200, by omega⟩
   have e : (200 : Int) + ((k - 200 : Nat) : Int) = (k : Int) := by omega
   rw [e] at h; exact h
  by_cases c250 : k < 300
  ·have h := xd ⟨k - 250, by omega⟩
   have e : (250 : Int) + ((k - 250 : Nat) : Int) = (k : Int) := by omega
   rw [e] at h; exact h
  by_cases c300 : k < 350
  ·have h := xc ⟨k - 300, by omega⟩
   have e : (300 : Int) + ((k - 300 : Nat) : Int) = (k : Int) := by omega
   rw [e] at h; exact h
  by_cases c350 : k < 400
  ·have h := xa ⟨k - 350, by omega⟩
   have e : (350 : Int) + ((k - 350 : Nat) : Int) = (k : Int) := by omega
   rw [e] at h; exact h
  by_cases c400 : k < 450
  ·have h := w9 ⟨k - 400, by omega⟩
   have e : (400 : Int) + ((k - 400 : Nat) : Int) = (k : Int) := by omega
   rw [e] at h; exact h
  by_cases c450 : k < 500
  ·have h := w8 ⟨k - 450, by omega⟩
   have e : (450 : Int) + ((k - 450 : Nat) : Int) = (k : Int) := by omega
   rw [e] at h; exact h
  by_cases c500 : k < 501
  ·have h := w7 ⟨k - 500, by omega⟩
   have e : (500 : Int) + ((k - 500 : Nat) : Int) = (k : Int) := by omega
   rw [e] at h; exact h
  omega
 obtain ⟨k, hk⟩ : ∃ k : Nat, n = 4 * (k : Int) + 3 ∨ n = 4 * (k : Int) + 4 := ⟨((n - 3) / 4).toNat, by omega⟩
 rcases hk with e | e
 ·rw [e]; exact (key k (by omega)).1
 rw [e]; exact (key k (by omega)).2
end
section
open Go Go.RowKit
end
section
open Go Go.RowKit
section
end
end
section
open Go Go.RowKit
end
section
open Go Go.RowKit
theorem vJ {D : Int} {l : List Fm} (w : Whole D l) (hD : -1000000000000000000 ≤ D) : ∀ g ∈ l, L 6 g.a ∧ L 6 g.b ∧ L 6 g.c := fun g hg => CQ ((w.mem g).1 hg).1 ((w.mem g).1 hg).2 hD
section
end
end
section
open Go Go.RowKit
end
section
open Go Go.RowKit
section
end
end
section
open Go Go.RowKit
def frq (D n b : Int) : Fm := ⟨n, b, (b * b - D) / (4 * n)⟩
def isR (D n b : Int) : Bool := decide (b * b % (4 * n) = D % (4 * n)) && prim n b ((b * b - D) / (4 * n))
def rbL (D n : Int) : List Int := ((List.range (2 * n).toNat).map fun (i : Nat) => (i : Int)).filter (isR D n)
theorem rbL_mem {D n b : Int} : b ∈ rbL D n ↔ (0 ≤ b ∧ b < 2 * n) ∧ isR D n b = true := by
 unfold rbL
 rw [List.mem_filter, List.mem_map]
 constructor
 ·rintro ⟨⟨i, h1, rfl⟩, h2⟩
  rw [List.mem_range] at h1
  exact ⟨by omega, h2⟩
 rintro ⟨⟨h1, h2⟩, h3⟩
 exact ⟨⟨b.toNat, by rw [List.mem_range]; omega, by omega⟩, h3⟩
theorem uY {D n b : Int} (h : isR D n b = true) : b * b - D = 4 * n * ((b * b - D) / (4 * n)) := by
 unfold isR at h
 rw [Bool.and_eq_true, decide_eq_true_iff] at h
 have h1 : (4 * n) ∣ (b * b - D) := Int.dvd_of_emod_eq_zero (Int.emod_eq_emod_iff_emod_sub_eq_zero.1 h.1)
 exact (Int.mul_ediv_cancel' h1).symm
theorem ql {D n b : Int} (hn : 0 < n) (hD : D < 0) (h : isR D n b = true) : Cl D (frq D n b) := by
 have e := uY h
 unfold isR at h
 rw [Bool.and_eq_true] at h
 have hd : dsc n b ((b * b - D) / (4 * n)) = D := by
  unfold dsc
  generalize (b * b - D) / (4 * n) = c at *
  omega
 exact ⟨⟨hn, by show dsc _ _ _ < 0; rw [show dsc (frq D n b).a (frq D n b).b (frq D n b).c = D from hd]; exact hD⟩, h.2, hd⟩
theorem D7 {D : Int} {f : Fm} (h : Cl D f) : isR D f.a f.b = true ∧ frq D f.a f.b = f := by
 have ha : 0 < f.a := h.pos.1
 have e : f.b * f.b - D = 4 * f.a * f.c := by have := h.disc; unfold dsc at this; omega
 have e2 : (f.b * f.b - D) / (4 * f.a) = f.c := by rw [e]; exact Int.mul_ediv_cancel_left _ (by omega)
 refine ⟨?_, ?_⟩
 ·unfold isR
  rw [Bool.and_eq_true, decide_eq_true_iff, e2]
  refine ⟨?_, h.prim⟩
  rw [Int.emod_eq_emod_iff_emod_sub_eq_zero, e]
  exact Int.mul_emod_right _ _
 unfold frq; rw [e2]
theorem wH {D n x y : Int} {f : Fm} (h : Cl D f) (hg : Int.gcd x y = 1) (hv : vl f.a f.b f.c x y = n) :
  ∃ (b : Int) (M : Mt), b ∈ rbL D n ∧ M.det = 1 ∧ M.a = x ∧ M.c = y ∧ f.app M = frq D n b := by
 have hb : bzU x y * x + bzV x y * y = 1 := by
  have := oy y.natAbs x y (Nat.le_refl _)
  rw [hg] at this
  unfold bzV
  by_cases hy : y = 0
  ·subst hy
   rw [if_pos rfl]
   unfold bzU
   rw [if_pos rfl]
   have hx : x.natAbs = 1 := by simpa using hg
   unfold sgn
   rcases Int.natAbs_eq x with e | e <;> rw [hx] at e <;> subst e <;> decide
  rw [if_neg hy, hg]
  have hd : y ∣ (1 : Int) - bzU x y * x := by
   unfold bzU
   rw [if_neg hy, hg, show y / ((1 : Nat) : Int) = y from Int.ediv_one y]
   have h1 : (xg y.natAbs x y).1 % y = (xg y.natAbs x y).1 - y * ((xg y.natAbs x y).1 / y) := Int.emod_def _ _
   rw [h1]
   refine ⟨(xg y.natAbs x y).2 + ((xg y.natAbs x y).1 / y) * x, ?_⟩
   generalize (xg y.natAbs x y).1 / y = q at *
   generalize (xg y.natAbs x y).1 = u at *
   generalize (xg y.natAbs x y).2 = v at *
   have e : u * x + v * y = 1 := this
   grind
  have := Int.ediv_mul_cancel hd
  have e : ((1 : Nat) : Int) = 1 := rfl
  rw [e]; omega
 have hM : (⟨x, -bzV x y, y, bzU x y⟩ : Mt).det = 1 := by unfold Mt.det; grind
 have hc := h.app hM
 have ha : (f.app ⟨x, -bzV x y, y, bzU x y⟩).a = n := hv
 have hn : 0 < n := by rw [← ha]; exact hc.pos.1
 generalize hF : f.app ⟨x, -bzV x y, y, bzU x y⟩ = F at *
 generalize -bzV x y = p at *
 generalize bzU x y = q at *
 have hT : (Mt.T (-(F.b / (2 * n)))).det = 1 := by unfold Mt.T Mt.det; simp
 have hc2 := hc.app hT
 have e2 := tN F (-(F.b / (2 * n)))
 have eb : (F.app (.T (-(F.b / (2 * n))))).b = F.b % (2 * n) := by
  rw [e2, ha, Int.emod_def]
  show F.b + 2 * n * -(F.b / (2 * n)) = _
  grind
 have ea : (F.app (.T (-(F.b / (2 * n))))).a = n := by rw [e2]; exact ha
 obtain ⟨g1, g2⟩ := D7 hc2
 rw [ea, eb] at g1 g2
 refine ⟨F.b % (2 * n), (⟨x, p, y, q⟩ : Mt).mul (.T (-(F.b / (2 * n)))), rbL_mem.2 ⟨⟨Int.emod_nonneg _ (by omega), Int.emod_lt_of_pos _ (by omega)⟩, g1⟩, by rw [en, hM, hT]; rfl, ?_, ?_, ?_⟩
 ·simp [Mt.mul, Mt.T]
 ·simp [Mt.mul, Mt.T]
 rw [← eo, hF, g2]
def auM (g : Fm) (t u : Int) : Mt := ⟨(t - g.b * u) / 2, -g.c * u, g.a * u, (t + g.b * u) / 2⟩
theorem Eh {D t u : Int} {g : Fm} (h : dsc g.a g.b g.c = D) (e : t * t - D * (u * u) = 4) : (t - g.b * u) % 2 = 0 := by
 have e1 : t * t - (g.b * u) * (g.b * u) = 4 - 4 * (g.a * g.c * (u * u)) := by
  have : D * (u * u) = (g.b * u) * (g.b * u) - 4 * (g.a * g.c * (u * u)) := by rw [← h]; unfold dsc; grind
  omega
 generalize g.b * u = s at *
 generalize g.a * g.c * (u * u) = r at *
 have ht : t % 2 = 0 ∨ t % 2 = 1 := by omega
 have hs : s % 2 = 0 ∨ s % 2 = 1 := by omega
 rcases ht with ht | ht <;> rcases hs with hs | hs
 ·omega
 ·obtain ⟨p, hp⟩ : ∃ p, t = 2 * p := ⟨t / 2, by omega⟩
  obtain ⟨q, hq⟩ : ∃ q, s = 2 * q + 1 := ⟨s / 2, by omega⟩
  have : t * t - s * s = 4 * (p * p) - 4 * (q * q + q) - 1 := by rw [hp, hq]; grind
  omega
 ·obtain ⟨p, hp⟩ : ∃ p, t = 2 * p + 1 := ⟨t / 2, by omega⟩
  obtain ⟨q, hq⟩ : ∃ q, s = 2 * q := ⟨s / 2, by omega⟩
  have : t * t - s * s = 4 * (p * p + p) + 1 - 4 * (q * q) := by rw [hp, hq]; grind
  omega
 omega
theorem sF {D t u : Int} {g : Fm} (h : dsc g.a g.b g.c = D) (e : t * t - D * (u * u) = 4) : ∃ p s, (auM g t u) = ⟨p, -g.c * u, g.a * u, s⟩ ∧ t = p + s ∧ g.b * u = s - p := by
 have h1 := Eh h e
 refine ⟨(t - g.b * u) / 2, (t + g.b * u) / 2, rfl, ?_, ?_⟩ <;> omega
theorem vy {D t u : Int} {g : Fm} (h : dsc g.a g.b g.c = D) (e : t * t - D * (u * u) = 4) : (auM g t u).det = 1 := by
 obtain ⟨p, s, e1, e2, e3⟩ := sF h e
 rw [e1]
 unfold dsc at h
 unfold Mt.det
 have e4 : (p + s) * (p + s) - (s - p) * (s - p) + 4 * (g.a * g.c) * (u * u) = 4 := by
  rw [← e2, ← e3]; grind
 have e5 : 4 * (p * s) + 4 * (g.a * g.c) * (u * u) = 4 := by grind
 show p * s - -g.c * u * (g.a * u) = 1
 have e6 : -g.c * u * (g.a * u) = -(g.a * g.c * (u * u)) := by grind
 rw [e6]
 have e7 : 4 * (g.a * g.c) * (u * u) = 4 * (g.a * g.c * (u * u)) := by grind
 omega
theorem Ei {D t u : Int} {g : Fm} (h : dsc g.a g.b g.c = D) (e : t * t - D * (u * u) = 4) : g.app (auM g t u) = g := by
 have hd := vy h e
 obtain ⟨p, s, e1, e2, e3⟩ := sF h e
 rw [e1] at hd ⊢
 have hd' : p * s + g.a * g.c * (u * u) = 1 := by unfold Mt.det at hd; grind
 obtain ⟨a, b, c⟩ := g
 simp only at *
 unfold Fm.app vl apB
 simp only [Fm.mk.injEq]
 have hb : s = p + b * u := by omega
 subst hb
 refine ⟨?_, ?_, ?_⟩ <;> grind
theorem Ej {D : Int} {g : Fm} {N : Mt} (h : Cl D g) (hN : N.det = 1) (e : g.app N = g) : ∃ t u, t * t - D * (u * u) = 4 ∧ N = auM g t u := by
 obtain ⟨p, q, r, s⟩ := N
 obtain ⟨a, b, c⟩ := g
 have h1 : p * s - q * r = 1 := hN
 have k1 : vl a b c p r = a := congrArg Fm.a e
 have k2 : apB a b c p q r s = b := congrArg Fm.b e
 have k3 : vl a b c q s = c := congrArg Fm.c e
 unfold vl at k1 k3
 unfold apB at k2
 have m1 : a * (s - p) = b * r := by
  have : s * (2 * (a * p * p + b * p * r + c * r * r)) - r * (2 * (a * p * q + c * r * s) + b * (p * s + q * r)) = (2 * a * p + b * r) * (p * s - q * r) := by grind
  rw [k1, k2, h1] at this
  grind
 have m2 : a * q = -(c * r) := by
  have : p * (2 * (a * p * q + c * r * s) + b * (p * s + q * r)) - q * (2 * (a * p * p + b * p * r + c * r * r)) = (b * p + 2 * c * r) * (p * s - q * r) := by grind
  rw [k1, k2, h1] at this
  grind
 have m3 : c * (p - s) = b * q := by
  have : p * (2 * (a * q * q + b * q * s + c * s * s)) - q * (2 * (a * p * q + c * r * s) + b * (p * s + q * r)) = (b * q + 2 * c * s) * (p * s - q * r) := by grind
  rw [k3, k2, h1] at this
  grind
 obtain ⟨x, y, z, hz⟩ := wM h.prim
 simp only at hz
 obtain ⟨u, hu⟩ : ∃ u, u = r * x + (s - p) * y - q * z := ⟨_, rfl⟩
 have n1 : a * u = r := by
  have : a * u = r * (a * x + b * y + c * z) := by rw [hu]; grind
  rw [this, hz]; omega
 have n2 : b * u = s - p := by
  have : b * u = (s - p) * (a * x + b * y + c * z) := by rw [hu]; grind
  rw [this, hz]; omega
 have n3 : c * u = -q := by
  have : c * u = -q * (a * x + b * y + c * z) := by rw [hu]; grind
  rw [this, hz]; omega
 have hd : b * b - 4 * a * c = D := h.disc
 refine ⟨p + s, u, ?_, ?_⟩
 ·have : D * (u * u) = (b * u) * (b * u) - 4 * ((a * u) * (c * u)) := by rw [← hd]; grind
  rw [this, n1, n2, n3]
  have : (p + s) * (p + s) - ((s - p) * (s - p) - 4 * (r * -q)) = 4 * (p * s - q * r) := by grind
  rw [this, h1]; rfl
 unfold auM
 simp only [Mt.mk.injEq]
 refine ⟨?_, ?_, n1.symm, ?_⟩
 ·rw [n2]; omega
 ·have : -c * u = -(c * u) := by grind
  rw [this, n3]; omega
 rw [n2]; omega
def unL (D : Int) : List (Int × Int) := if D = -3 then [(2, 0), (-2, 0), (1, 1), (1, -1), (-1, 1), (-1, -1)] else if D = -4 then [(2, 0), (-2, 0), (0, 1), (0, -1)] else [(2, 0), (-2, 0)]
theorem uh {u : Int} (h : u * u ≤ 1) : u = 0 ∨ u = 1 ∨ u = -1 := by
 rcases Int.lt_or_le u (-1) with g | g
 ·have : 2 * 2 ≤ -u * -u := Int.mul_le_mul (by omega) (by omega) (by omega) (by omega)
  have e : -u * -u = u * u := by grind
  omega
 rcases Int.lt_or_le 1 u with g' | g'
 ·have : 2 * 2 ≤ u * u := Int.mul_le_mul (by omega) (by omega) (by omega) (by omega)
  omega
 omega
theorem o9 {t : Int} (h : t * t ≤ 4) : -2 ≤ t ∧ t ≤ 2 := by
 constructor
 ·rcases Int.lt_or_le t (-2) with g | g
  ·have : 3 * 3 ≤ -t * -t := Int.mul_le_mul (by omega) (by omega) (by omega) (by omega)
   have e : -t * -t = t * t := by grind
   omega
  exact g
 rcases Int.lt_or_le 2 t with g | g
 ·have : 3 * 3 ≤ t * t := Int.mul_le_mul (by omega) (by omega) (by omega) (by omega)
  omega
 exact g
theorem yG (t : Int) : 0 ≤ t * t := by
 rcases Int.lt_or_le t 0 with g | g
 ·exact Int.mul_nonneg_of_nonpos_of_nonpos (by omega) (by omega)
 exact Int.mul_nonneg g g
theorem ri {D : Int} (hD : D < 0) (h4 : D % 4 = 0 ∨ D % 4 = 1) {t u : Int} : (t, u) ∈ unL D ↔ t * t - D * (u * u) = 4 := by
 have ht := yG t
 have hu := yG u
 have two : t * t = 4 → t = 2 ∨ t = -2 := fun h => by
  have := o9 (t := t) (by omega)
  have : t = -2 ∨ t = -1 ∨ t = 0 ∨ t = 1 ∨ t = 2 := by omega
  rcases this with rfl | rfl | rfl | rfl | rfl <;> simp at h ⊢
 unfold unL
 by_cases h1 : D = -3
 ·subst h1
  rw [if_pos rfl]
  constructor
  ·intro h; simp at h
   rcases h with ⟨rfl, rfl⟩ | ⟨rfl, rfl⟩ | ⟨rfl, rfl⟩ | ⟨rfl, rfl⟩ | ⟨rfl, rfl⟩ | ⟨rfl, rfl⟩ <;> decide
  intro h
  have hu1 := uh (u := u) (by omega)
  have ht2 := o9 (t := t) (by omega)
  have : t = -2 ∨ t = -1 ∨ t = 0 ∨ t = 1 ∨ t = 2 := by omega
  rcases hu1 with rfl | rfl | rfl <;> rcases this with rfl | rfl | rfl | rfl | rfl <;> simp at h ⊢
 rw [if_neg h1]
 by_cases h2 : D = -4
 ·subst h2
  rw [if_pos rfl]
  constructor
  ·intro h; simp at h
   rcases h with ⟨rfl, rfl⟩ | ⟨rfl, rfl⟩ | ⟨rfl, rfl⟩ | ⟨rfl, rfl⟩ <;> decide
  intro h
  have hu1 := uh (u := u) (by omega)
  have ht2 := o9 (t := t) (by omega)
  have : t = -2 ∨ t = -1 ∨ t = 0 ∨ t = 1 ∨ t = 2 := by omega
  rcases hu1 with rfl | rfl | rfl <;> rcases this with rfl | rfl | rfl | rfl | rfl <;> simp at h ⊢
 rw [if_neg h2]
 constructor
 ·intro h; simp at h
  rcases h with ⟨rfl, rfl⟩ | ⟨rfl, rfl⟩ <;> simp
 intro h
 have hu0 : u * u = 0 := by
  rcases Int.lt_or_le 0 (u * u) with g | g
  ·have : -D * 1 ≤ -D * (u * u) := Int.mul_le_mul_of_nonneg_left (by omega) (by omega)
   have e : -D * (u * u) = -(D * (u * u)) := by grind
   omega
  omega
 have : u = 0 := by rcases Int.mul_eq_zero.1 hu0 with g | g <;> exact g
 subst this
 have := two (by omega)
 rcases this with rfl | rfl <;> simp
end
section
open Go Go.RowKit
def smf (f g : Fm) : Bool := smB f.a f.b f.c g.a g.b g.c
def smm (f g : Fm) : Mt := smM f.a f.b f.c g.a g.b g.c
def jT (f : Fm) (D n b : Int) (p : Int × Int) : Mt := (smm f (frq D n b)).mul (auM (frq D n b) p.1 p.2)
def col (f : Fm) (D n b : Int) (p : Int × Int) : Int × Int := ((jT f D n b p).a, (jT f D n b p).c)
def prL (D n : Int) (f : Fm) : List (Int × Int) := (rbL D n).flatMap fun b => if smf f (frq D n b) = true then (unL D).map (col f D n b) else []
section
variable {D n : Int} {f : Fm}
theorem qD {D : Int} {f : Fm} (h : Cl D f) : D % 4 = 0 ∨ D % 4 = 1 := by
 have := h.disc
 unfold dsc at this
 rw [Int.mul_assoc] at this
 generalize f.a * f.c = t at *
 have hb : f.b % 2 = 0 ∨ f.b % 2 = 1 := by omega
 rcases hb with g | g
 ·obtain ⟨q, hq⟩ : ∃ q, f.b = 2 * q := ⟨f.b / 2, by omega⟩
  have e : f.b * f.b = 4 * (q * q) := by rw [hq]; grind
  omega
 obtain ⟨q, hq⟩ : ∃ q, f.b = 2 * q + 1 := ⟨f.b / 2, by omega⟩
 have e : f.b * f.b = 4 * (q * q + q) + 1 := by rw [hq]; grind
 omega
theorem kF {D : Int} {f : Fm} (h : Cl D f) : D < 0 := by have h1 : dsc f.a f.b f.c < 0 := h.pos.2; rw [h.disc] at h1; exact h1
theorem rB {g : Fm} (hf : f.pos) (hg : g.pos) : smf f g = true ↔ f.rd = g.rd := by
 unfold smf smB
 rw [decide_eq_true_iff]
 exact ⟨fun h => h.2.2, fun h => ⟨gJ hf, gJ hg, h⟩⟩
theorem Bn {m : Mt} (h : m.det = 1) : Int.gcd m.a m.c = 1 := by
 unfold Mt.det at h
 have h1 : ((Int.gcd m.a m.c : Nat) : Int) ∣ 1 := by
  rw [← h]
  exact Int.dvd_sub (Int.dvd_trans (Int.gcd_dvd_left ..) ⟨m.d, rfl⟩) (Int.dvd_trans (Int.gcd_dvd_right ..) ⟨m.b, Int.mul_comm _ _⟩)
 have h2 : Int.gcd m.a m.c ∣ 1 := by exact_mod_cast h1
 exact Nat.dvd_one.1 h2
theorem Br (h : Cl D f) (hn : 0 < n) {b : Int} (hb : b ∈ rbL D n) (hs : smf f (frq D n b) = true) {p : Int × Int} (hp : p ∈ unL D) : (jT f D n b p).det = 1 ∧ f.app (jT f D n b p) = frq D n b := by
 have hg := ql hn (kF h) (rbL_mem.1 hb).2
 have hu := (ri (kF h) (qD h)).1 hp
 obtain ⟨s1, s2⟩ := uj h.pos hg.pos hs
 unfold jT
 refine ⟨by rw [en, vy hg.disc hu]; rw [show (smm f (frq D n b)).det = 1 from s1]; rfl, ?_⟩
 rw [← eo, show f.app (smm f (frq D n b)) = frq D n b from s2]
 exact Ei hg.disc hu
theorem kV (h : Cl D f) (hn : 0 < n) {x y : Int} : (x, y) ∈ prL D n f ↔ Int.gcd x y = 1 ∧ vl f.a f.b f.c x y = n := by
 unfold prL
 rw [List.mem_flatMap]
 constructor
 ·rintro ⟨b, hb, hm⟩
  split at hm
  ·rename_i hs
   obtain ⟨p, hp, e⟩ := List.mem_map.1 hm
   obtain ⟨k1, k2⟩ := Br h hn hb hs hp
   have e1 : (jT f D n b p).a = x := congrArg Prod.fst e
   have e2 : (jT f D n b p).c = y := congrArg Prod.snd e
   rw [← e1, ← e2]
   exact ⟨Bn k1, congrArg Fm.a k2⟩
  cases hm
 rintro ⟨hg, hv⟩
 obtain ⟨b, M, hb, hM, e1, e2, e3⟩ := wH h hg hv
 have hc := ql hn (kF h) (rbL_mem.1 hb).2
 have hs : smf f (frq D n b) = true := (rB h.pos hc.pos).2 (by rw [← e3]; exact (rJ h.pos hM).symm)
 refine ⟨b, hb, ?_⟩
 rw [if_pos hs, List.mem_map]
 obtain ⟨s1, s2⟩ := uj h.pos hc.pos hs
 obtain ⟨S, hS⟩ : ∃ S, S = smm f (frq D n b) := ⟨_, rfl⟩
 have s1' : S.det = 1 := by rw [hS]; exact s1
 have s2' : f.app S = frq D n b := by rw [hS]; exact s2
 have hN : (S.adj.mul M).det = 1 := by rw [en, lu, s1', hM]; rfl
 have hmul : S.mul (S.adj.mul M) = M := by
  have h1 : S.a * S.d - S.b * S.c = 1 := s1'
  unfold Mt.mul Mt.adj
  ext <;> simp only <;> grind
 have e : (frq D n b).app (S.adj.mul M) = frq D n b := by
  have : (f.app S).app (S.adj.mul M) = f.app M := by rw [eo, hmul]
  rw [← s2', this, e3, s2']
 obtain ⟨t, u, k1, k2⟩ := Ej hc hN e
 refine ⟨(t, u), (ri (kF h) (qD h)).2 k1, ?_⟩
 have : jT f D n b (t, u) = M := by
  unfold jT
  rw [← hS]
  show S.mul (auM (frq D n b) t u) = M
  rw [← k2, hmul]
 unfold col
 rw [this, e1, e2]
def unN (D : Int) : Nat := if D = -3 then 6 else if D = -4 then 4 else 2
theorem ze : (unL D).length = unN D := by
 unfold unL unN
 split
 ·rfl
 split <;> rfl
theorem ss {α β : Type} {w : Nat} (P : α → Bool) (L : α → List β) (hL : ∀ a, (L a).length = w) : ∀ l : List α, (l.flatMap fun a => if P a = true then L a else []).length = w * (l.filter P).length
 | [] => by simp
 | a :: l => by
  rw [List.flatMap_cons, List.length_append, ss P L hL l, List.filter_cons]
  by_cases h : P a = true
  ·rw [if_pos h, if_pos h, hL, List.length_cons, Nat.mul_succ, Nat.add_comm]
  rw [if_neg h, if_neg h, List.length_nil, Nat.zero_add]
theorem Aq : (prL D n f).length = unN D * ((rbL D n).filter fun b => smf f (frq D n b)).length := by
 unfold prL
 exact ss (fun b => smf f (frq D n b)) (fun b => (unL D).map (col f D n b)) (fun b => by rw [List.length_map, ze]) _
theorem vk {l : List Fm} (P : Fm → Bool) {g : Fm} (hn : l.Nodup) (hg : g ∈ l) (hP : ∀ f ∈ l, P f = true ↔ f = g) : (l.filter P).length = 1 := by
 induction l with
 | nil => cases hg
 | cons x l ih =>
  rw [List.filter_cons]
  have hx := List.nodup_cons.1 hn
  by_cases e : x = g
  ·subst e
   rw [if_pos ((hP x (by simp)).2 rfl), List.length_cons]
   have : l.filter P = [] := List.filter_eq_nil_iff.2 fun f hf h => hx.1 (((hP f (by simp [hf])).1 h) ▸ hf)
   rw [this]; rfl
  rw [if_neg (fun h => e ((hP x (by simp)).1 h))]
  rcases List.mem_cons.1 hg with h | h
  ·exact absurd h.symm e
  exact ih hx.2 h fun f hf => hP f (by simp [hf])
def ep : List Nat → Nat
 | [] => 0
 | x :: l => x + ep l
theorem j6 {α : Type} (a b : α → Nat) : ∀ l : List α, ep (l.map fun x => a x + b x) = ep (l.map a) + ep (l.map b)
 | [] => rfl
 | x :: l => by simp only [List.map_cons, ep, j6 a b l]; omega
theorem nI {α : Type} : ∀ l : List α, ep (l.map fun _ => 0) = 0
 | [] => rfl
 | x :: l => by simp only [List.map_cons, ep, nI l]
theorem oZ {α : Type} (w : Nat) (a : α → Nat) : ∀ l : List α, ep (l.map fun x => w * a x) = w * ep (l.map a)
 | [] => rfl
 | x :: l => by simp only [List.map_cons, ep, oZ w a l, Nat.mul_add]
theorem o3 {α : Type} (P : α → Bool) : ∀ l : List α, ep (l.map fun x => if P x = true then 1 else 0) = (l.filter P).length
 | [] => rfl
 | x :: l => by
  simp only [List.map_cons, ep, o3 P l, List.filter_cons]
  by_cases h : P x = true
  ·simp [h]; omega
  simp [h]
theorem nH {l : List Fm} (Q : Fm → Int → Bool) : ∀ bs : List Int, (∀ b ∈ bs, (l.filter fun f => Q f b).length = 1) → ep (l.map fun f => (bs.filter (Q f)).length) = bs.length
 | [], _ => nI l
 | b :: bs, h => by
  have e : (fun f => ((b :: bs).filter (Q f)).length) = fun f => (if Q f b = true then 1 else 0) + (bs.filter (Q f)).length := by
   funext f
   rw [List.filter_cons]
   by_cases g : Q f b = true
   ·rw [if_pos g, if_pos g, List.length_cons]; omega
   rw [if_neg g, if_neg g]; omega
  rw [e, j6, o3 (fun f => Q f b), h b (by simp), nH Q bs (fun b' hb => h b' (by simp [hb])), List.length_cons]
  omega
theorem Ap {l : List Fm} (w : Whole D l) (hD : D < 0) (hn : 0 < n) : ep (l.map fun f => (prL D n f).length) = unN D * (rbL D n).length := by
 have e : (fun f => (prL D n f).length) = fun f => unN D * ((rbL D n).filter fun b => smf f (frq D n b)).length := by funext f; exact Aq
 rw [e, oZ, nH (fun f b => smf f (frq D n b))]
 intro b hb
 have hc := ql hn hD (rbL_mem.1 hb).2
 refine vk _ w.nd (w.rd hc) fun f hf => ?_
 have hf' := (w.mem f).1 hf
 rw [rB hf'.1.pos hc.pos, hf'.2]
end
end
section
open Go Go.RowKit
abbrev Pr2 := Int × Int
def okP (p : Pr2) : Bool := decide (0 < p.2 ∨ (p.2 = 0 ∧ 0 ≤ p.1))
def btr (p q : Pr2) : Bool := decide (p.2 < q.2 ∨ (p.2 = q.2 ∧ p.1 < q.1))
def dY (b : Option Pr2) (p : Pr2) : Option Pr2 := if okP p = true then (match b with | none => some p | some q => if btr p q = true then some p else some q) else b
def c7 (l : List Pr2) : Option Pr2 := l.foldl dY none
structure IsBest (l : List Pr2) (b : Option Pr2) : Prop where
 no : b = none → ∀ p ∈ l, okP p = false
 so : ∀ q, b = some q → q ∈ l ∧ okP q = true ∧ ∀ p ∈ l, okP p = true → btr p q = false
theorem IsBest.step {l : List Pr2} {b : Option Pr2} (h : IsBest l b) (p : Pr2) : IsBest (l ++ [p]) (dY b p) := by
 unfold dY
 by_cases hp : okP p = true
 ·rw [if_pos hp]
  cases b with
  | none =>
   refine ⟨fun e => (by cases e), fun q e => ?_⟩
   cases e
   refine ⟨by simp, hp, fun x hx ho => ?_⟩
   rcases List.mem_append.1 hx with hx | hx
   ·rw [h.no rfl x hx] at ho; cases ho
   rw [List.mem_singleton] at hx; subst hx
   unfold btr; exact decide_eq_false (by omega)
  | some q =>
   obtain ⟨h1, h2, h3⟩ := h.so q rfl
   by_cases hq : btr p q = true
   ·simp only [hq, if_true]
    refine ⟨fun e => (by cases e), fun q' e => ?_⟩
    cases e
    refine ⟨by simp, hp, fun x hx ho => ?_⟩
    rcases List.mem_append.1 hx with hx | hx
    ·have := h3 x hx ho
     unfold btr at *
     have a1 := dF0 this
     have a2 := dT0 hq
     exact decide_eq_false (by omega)
    rw [List.mem_singleton] at hx; subst hx
    unfold btr; exact decide_eq_false (by omega)
   simp only [hq]
   refine ⟨fun e => (by cases e), fun q' e => ?_⟩
   have e' : q = q' := by simpa using e
   subst e'
   refine ⟨by simp [h1], h2, fun x hx ho => ?_⟩
   rcases List.mem_append.1 hx with hx | hx
   ·exact h3 x hx ho
   rw [List.mem_singleton] at hx; subst hx
   simpa using hq
 rw [if_neg hp]
 refine ⟨fun e x hx => ?_, fun q e => ?_⟩
 ·rcases List.mem_append.1 hx with hx | hx
  ·exact h.no e x hx
  rw [List.mem_singleton] at hx; subst hx; simpa using hp
 obtain ⟨h1, h2, h3⟩ := h.so q e
 refine ⟨by simp [h1], h2, fun x hx ho => ?_⟩
 rcases List.mem_append.1 hx with hx | hx
 ·exact h3 x hx ho
 rw [List.mem_singleton] at hx; subst hx; exact absurd ho hp
theorem lE : ∀ (l l0 : List Pr2) (b : Option Pr2), IsBest l0 b → IsBest (l0 ++ l) (l.foldl dY b)
 | [], l0, b, h => by simpa using h
 | p :: l, l0, b, h => by
  have := lE l (l0 ++ [p]) (dY b p) (h.step p)
  simpa using this
theorem xS (l : List Pr2) : IsBest l (c7 l) := by
 have := lE l [] none ⟨fun _ p hp => by simp at hp, fun q e => by cases e⟩
 rw [List.nil_append] at this
 exact this
theorem om {D n : Int} {f : Fm} (h : Cl D f) (hn : 0 < n) : c7 (prL D n f) = none ↔ prL D n f = [] := by
 constructor
 ·intro e
  have hb := (xS (prL D n f)).no e
  rw [List.eq_nil_iff_forall_not_mem]
  rintro ⟨x, y⟩ hx
  have h1 := hb _ hx
  have hm := (kV h hn).1 hx
  have hx' : (-x, -y) ∈ prL D n f := (kV h hn).2 ⟨by rw [Int.gcd_neg, Int.neg_gcd]; exact hm.1, by rw [← hm.2]; unfold vl; grind⟩
  have h2 := hb _ hx'
  unfold okP at h1 h2
  have a1 := dF0 h1
  have a2 := dF0 h2
  simp only at a1 a2
  have : ¬ (x = 0 ∧ y = 0) := by rintro ⟨rfl, rfl⟩; have := hm.1; simp at this
  omega
 intro e; rw [e]; rfl
end
section
open Go Go.RowKit
theorem Eg (a b : Int) : ∃ u v : Int, u * a + v * b = (Int.gcd a b : Nat) := ⟨_, _, oy b.natAbs a b (Nat.le_refl _)⟩
theorem ju {g x y : Int} (h : Int.gcd g x = 1) (k : g ∣ x * y) : g ∣ y := by
 obtain ⟨u, v, e⟩ := Eg g x
 rw [h] at e
 have e' : u * g + v * x = 1 := e
 obtain ⟨t, ht⟩ := k
 refine ⟨u * y + v * t, ?_⟩
 have : y = (u * g + v * x) * y := by rw [e']; omega
 grind
theorem qU {g m b : Int} (h : g ∣ m) (k : Int.gcd m b = 1) : Int.gcd g b = 1 := by
 have h1 : ((Int.gcd g b : Nat) : Int) ∣ ((Int.gcd m b : Nat) : Int) := Int.dvd_coe_gcd (Int.dvd_trans (Int.gcd_dvd_left ..) h) (Int.gcd_dvd_right ..)
 rw [k] at h1
 exact Nat.dvd_one.1 (by exact_mod_cast h1)
theorem crt {m M b1 b2 : Int} (h : Int.gcd m M = 1) : ∃ b, m ∣ b - b1 ∧ M ∣ b - b2 := by
 obtain ⟨u, v, e⟩ := Eg m M
 rw [h] at e
 have e' : u * m + v * M = 1 := e
 refine ⟨b1 * (v * M) + b2 * (u * m), ⟨u * (b2 - b1), ?_⟩, ⟨v * (b1 - b2), ?_⟩⟩
 ·have : b1 = (u * m + v * M) * b1 := by rw [e']; omega
  grind
 have : b2 = (u * m + v * M) * b2 := by rw [e']; omega
 grind
structure Rt (D n b c : Int) : Prop where
 eq : b * b - D = 4 * n * c
 pr : prim n b c = true
theorem DI {D n b : Int} (h : isR D n b = true) : Rt D n b ((b * b - D) / (4 * n)) := ⟨uY h, by
 unfold isR at h
 rw [Bool.and_eq_true] at h
 exact h.2⟩
theorem Rt.isR {D n b c : Int} (hn : 0 < n) (h : Rt D n b c) : isR D n b = true := by
 have e : (b * b - D) / (4 * n) = c := by rw [h.eq]; exact Int.mul_ediv_cancel_left _ (by omega)
 unfold AM.isR
 rw [e, Bool.and_eq_true, decide_eq_true_iff]
 exact ⟨by rw [Int.emod_eq_emod_iff_emod_sub_eq_zero, h.eq]; exact Int.mul_emod_right _ _, h.pr⟩
theorem Rt.all {D n b c : Int} (h : Rt D n b c) {g : Int} (h1 : g ∣ n) (h2 : g ∣ b) (h3 : g ∣ c) : g ∣ 1 := by
 have := h.pr
 unfold prim at this
 rw [decide_eq_true_iff] at this
 have k : g ∣ ((Int.gcd n (Int.gcd b c : Int) : Nat) : Int) := Int.dvd_coe_gcd h1 (Int.dvd_coe_gcd h2 h3)
 rw [this] at k
 exact k
theorem Rt.mk' {D n b c : Int} (h : b * b - D = 4 * n * c) (k : ∀ g : Int, g ∣ n → g ∣ b → g ∣ c → g ∣ 1) : Rt D n b c := by
 refine ⟨h, ?_⟩
 unfold prim
 rw [decide_eq_true_iff]
 have := k ((Int.gcd n (Int.gcd b c : Int) : Nat) : Int) (Int.gcd_dvd_left ..) (Int.dvd_trans (Int.gcd_dvd_right ..) (Int.gcd_dvd_left ..)) (Int.dvd_trans (Int.gcd_dvd_right ..) (Int.gcd_dvd_right ..))
 exact Nat.dvd_one.1 (by exact_mod_cast this)
theorem mg {D n : Int} (hn : 0 < n) : rbL D n ≠ [] ↔ ∃ b c, Rt D n b c := by
 constructor
 ·intro h
  obtain ⟨b, hb⟩ := List.exists_mem_of_ne_nil _ h
  exact ⟨_, _, DI (rbL_mem.1 hb).2⟩
 rintro ⟨b, c, h⟩ e
 have hm : b % (2 * n) ∈ rbL D n := by
  refine rbL_mem.2 ⟨⟨Int.emod_nonneg _ (by omega), Int.emod_lt_of_pos _ (by omega)⟩, ?_⟩
  obtain ⟨k, hk⟩ : ∃ k, k = b / (2 * n) := ⟨_, rfl⟩
  have hb : b % (2 * n) = b - 2 * n * k := by rw [hk]; exact Int.emod_def _ _
  rw [hb]
  refine (Rt.mk' (c := c - b * k + n * k * k) ?_ fun g h1 h2 h3 => ?_).isR hn
  ·have := h.eq; grind
  have g2 : g ∣ b := by
   have : b = (b - 2 * n * k) + n * (2 * k) := by grind
   rw [this]; exact Int.dvd_add h2 (eF h1 _)
  refine h.all h1 g2 ?_
  have : c = (c - b * k + n * k * k) + (b * k - n * (k * k)) := by grind
  rw [this]; exact Int.dvd_add h3 (Int.dvd_sub (eF g2 _) (eF h1 _))
 rw [e] at hm; cases hm
theorem pP {g c : Int} (hg : g % 2 = 1) (h : g ∣ 4 * c) : g ∣ c := by
 refine ju (x := 4) ?_ h
 have h1 : ((Int.gcd g 4 : Nat) : Int) ∣ g := Int.gcd_dvd_left ..
 have h2 : Int.gcd g 4 ∣ 4 := by have : ((Int.gcd g 4 : Nat) : Int) ∣ 4 := Int.gcd_dvd_right ..; exact_mod_cast this
 have h3 : Int.gcd g 4 ≤ 4 := Nat.le_of_dvd (by decide) h2
 generalize Int.gcd g 4 = k at *
 have : k = 0 ∨ k = 1 ∨ k = 2 ∨ k = 3 ∨ k = 4 := by omega
 rcases this with rfl | rfl | rfl | rfl | rfl
 ·simp at h2
 ·rfl
 ·omega
 ·exact absurd h2 (by decide)
 omega
theorem sv {g m : Int} (h : g ∣ m) (hm : m % 2 = 1) : g % 2 = 1 := by
 obtain ⟨t, ht⟩ := h
 rcases Int.emod_two_eq g with e | e
 ·exfalso
  have : g = 2 * (g / 2) := by omega
  rw [this] at ht
  have : m = 2 * (g / 2 * t) := by rw [ht]; grind
  omega
 exact e
theorem Rt.mul_odd {D m n b1 c1 b2 c2 : Int} (hm : m % 2 = 1) (hg : Int.gcd m n = 1) (h1 : Rt D m b1 c1) (h2 : Rt D n b2 c2) : ∃ b c, Rt D (m * n) b c := by
 have hg2 : Int.gcd m (2 * n) = 1 := by
  have k : ((Int.gcd m (2 * n) : Nat) : Int) ∣ n := ju (x := 2) (by
   have := sv (Int.gcd_dvd_left m (2 * n)) hm
   have k2 : Int.gcd ((Int.gcd m (2 * n) : Nat) : Int) 2 ∣ 2 := by have : ((Int.gcd ((Int.gcd m (2 * n) : Nat) : Int) 2 : Nat) : Int) ∣ 2 := Int.gcd_dvd_right ..; exact_mod_cast this
   have k3 : ((Int.gcd ((Int.gcd m (2 * n) : Nat) : Int) 2 : Nat) : Int) ∣ ((Int.gcd m (2 * n) : Nat) : Int) := Int.gcd_dvd_left ..
   have k4 := Nat.le_of_dvd (by decide) k2
   generalize Int.gcd ((Int.gcd m (2 * n) : Nat) : Int) 2 = r at *
   have : r = 0 ∨ r = 1 ∨ r = 2 := by omega
   rcases this with rfl | rfl | rfl
   ·simp at k2
   ·rfl
   omega) (Int.gcd_dvd_right ..)
  have k1 : ((Int.gcd m (2 * n) : Nat) : Int) ∣ ((Int.gcd m n : Nat) : Int) := Int.dvd_coe_gcd (Int.gcd_dvd_left ..) k
  rw [hg] at k1
  exact Nat.dvd_one.1 (by exact_mod_cast k1)
 obtain ⟨b, ⟨k, hk⟩, ⟨s, hs⟩⟩ := crt (b1 := b1) (b2 := b2) hg2
 have e1 := h1.eq
 have e2 := h2.eq
 have d1 : m ∣ b * b - D := ⟨4 * c1 + k * (b + b1), by
  have : b * b - D = (b1 * b1 - D) + (b - b1) * (b + b1) := by grind
  rw [this, e1, hk]; grind⟩
 have hb2 : b = b2 + 2 * n * s := by omega
 have d2 : b * b - D = n * (4 * (c2 + s * b2 + n * s * s)) := by
  have : b * b - D = (b2 * b2 - D) + (b - b2) * (b + b2) := by grind
  rw [this, e2, hs, hb2]; grind
 rw [d2] at d1
 have d3 : m ∣ c2 + s * b2 + n * s * s := pP hm (ju hg d1)
 obtain ⟨c, hc⟩ := d3
 have e3 : b * b - D = 4 * (m * n) * c := by rw [d2, hc]; grind
 refine ⟨b, c, Rt.mk' e3 fun g g1 g2 g3 => ?_⟩
 have q1 : Int.gcd g m = 1 := by
  have u1 : ((Int.gcd g m : Nat) : Int) ∣ g := Int.gcd_dvd_left ..
  have u2 : ((Int.gcd g m : Nat) : Int) ∣ m := Int.gcd_dvd_right ..
  have u3 := Int.dvd_trans u1 g2
  have u4 : ((Int.gcd g m : Nat) : Int) ∣ b1 := by
   have : b1 = b - m * k := by omega
   rw [this]; exact Int.dvd_sub u3 (eF u2 _)
  have u5 : ((Int.gcd g m : Nat) : Int) ∣ c1 := by
   refine pP (sv u2 hm) ?_
   have hm0 : m ≠ 0 := by omega
   have : m * (4 * c1) = m * (4 * (n * c) - k * (b + b1)) := by
    have h3 : b1 * b1 - D = (b * b - D) - (b - b1) * (b + b1) := by grind
    rw [e1, e3, hk] at h3
    grind
   rw [Int.eq_of_mul_eq_mul_left hm0 this]
   refine Int.dvd_sub ?_ ?_
   ·have : 4 * (n * c) = c * (4 * n) := by grind
    rw [this]; exact eF (Int.dvd_trans u1 g3) _
   rw [Int.mul_comm]; exact eF (Int.dvd_add u3 u4) _
  exact Nat.dvd_one.1 (by exact_mod_cast h1.all u2 u4 u5)
 have u1 : g ∣ n := ju q1 g1
 have u4 : g ∣ b2 := by
  have : b2 = b - n * (2 * s) := by rw [hb2]; grind
  rw [this]; exact Int.dvd_sub g2 (eF u1 _)
 refine h2.all u1 u4 ?_
 have : c2 = c * m - (b2 * s + n * (s * s)) := by
  have : c * m = c2 + s * b2 + n * s * s := by rw [hc, Int.mul_comm]
  rw [this]; grind
 rw [this]
 exact Int.dvd_sub (eF g3 _) (Int.dvd_add (eF u4 _) (eF u1 _))
theorem Rt.left {D m n b c : Int} (hg : Int.gcd m n = 1) (h : Rt D (m * n) b c) : Rt D m b (n * c) := by
 refine Rt.mk' (by rw [h.eq]; grind) fun g g1 g2 g3 => ?_
 exact h.all (eF g1 _) g2 (ju (qU g1 hg) g3)
theorem Ai {D m n : Int} (hm : 0 < m) (hn : 0 < n) (hg : Int.gcd m n = 1) : rbL D (m * n) ≠ [] ↔ rbL D m ≠ [] ∧ rbL D n ≠ [] := by
 rw [mg (Int.mul_pos hm hn), mg hm, mg hn]
 constructor
 ·rintro ⟨b, c, h⟩
  refine ⟨⟨b, _, h.left hg⟩, b, m * c, ?_⟩
  have h' : Rt D (n * m) b c := by rw [Int.mul_comm]; exact h
  exact h'.left (by rw [Int.gcd_comm]; exact hg)
 rintro ⟨⟨b1, c1, h1⟩, b2, c2, h2⟩
 by_cases ho : m % 2 = 1
 ·exact h1.mul_odd ho hg h2
 have : n % 2 = 1 := by
  rcases Int.emod_two_eq n with e | e
  ·exfalso
   have k : (2 : Int) ∣ ((Int.gcd m n : Nat) : Int) := Int.dvd_coe_gcd (by omega) (by omega)
   rw [hg] at k
   exact absurd k (by decide)
  exact e
 rw [Int.mul_comm]
 exact h2.mul_odd this (by rw [Int.gcd_comm]; exact hg) h1
end
section
open Go Go.RowKit
def dX (p : Nat) : Nat → Nat → Nat → Nat × Nat
 | 0, n, q => (n, q)
 | f + 1, n, q => if n % p = 0 then dX p f (n / p) (q * p) else (n, q)
def ptN (p n : Nat) : Nat × Nat := dX p n n 1
def ppL : Nat → Nat → Nat → List Nat
 | 0, _, _ => []
 | f + 1, n, p => if n ≤ 1 then [] else (if 1 < (ptN p n).2 then [(ptN p n).2] else []) ++ ppL f (ptN p n).1 (p + 1)
def parts (n : Nat) : List Nat := ppL n n 2
theorem o6 {p : Nat} (hp : 2 ≤ p) : ∀ (f n q : Nat), 0 < n → n ≤ f → 0 < (dX p f n q).1 ∧ (dX p f n q).1 * (dX p f n q).2 = n * q ∧ (dX p f n q).1 % p ≠ 0 ∧ ∃ k, (dX p f n q).2 = q * p ^ k
 | 0, n, q, h0, hf => by omega
 | f + 1, n, q, h0, hf => by
  unfold dX
  by_cases h : n % p = 0
  ·rw [if_pos h]
   have hd : p ∣ n := Nat.dvd_of_mod_eq_zero h
   have hpn : p ≤ n := Nat.le_of_dvd h0 hd
   have h1 : 0 < n / p := Nat.div_pos hpn (by omega)
   have h2 : n / p < n := Nat.div_lt_self h0 (by omega)
   obtain ⟨k1, k2, k3, k, k4⟩ := o6 hp f (n / p) (q * p) h1 (by omega)
   refine ⟨k1, ?_, k3, k + 1, ?_⟩
   ·rw [k2]
    have := Nat.div_mul_cancel hd
    calc n / p * (q * p) = n / p * p * q := by rw [Nat.mul_comm q p, Nat.mul_assoc]
     _ = n * q := by rw [this]
   rw [k4, Nat.pow_succ, Nat.mul_assoc, Nat.mul_comm p]
  rw [if_neg h]
  exact ⟨h0, rfl, h, 0, by simp⟩
theorem mm {p n : Nat} (hp : 2 ≤ p) (hn : 0 < n) : 0 < (ptN p n).1 ∧ (ptN p n).1 * (ptN p n).2 = n ∧ (ptN p n).1 % p ≠ 0 ∧ ∃ k, (ptN p n).2 = p ^ k := by
 obtain ⟨h1, h2, h3, k, h4⟩ := o6 hp n n 1 hn (Nat.le_refl _)
 exact ⟨h1, by rw [Nat.mul_one] at h2; exact h2, h3, k, by rw [Nat.one_mul] at h4; exact h4⟩
theorem nq {a p : Nat} (h : Nat.gcd a p = 1) : ∀ k, Nat.gcd a (p ^ k) = 1
 | 0 => by simp
 | k + 1 => by
  rw [Nat.pow_succ]
  exact Nat.Coprime.mul_right (nq h k) h
theorem oE {p n : Nat} (hp : 2 ≤ p) (hn : 0 < n) (h : Nd n p) : Nat.gcd (ptN p n).1 (ptN p n).2 = 1 ∧ Nd (ptN p n).1 (p + 1) := by
 obtain ⟨h1, h2, h3, k, h4⟩ := mm hp hn
 have hd : (ptN p n).1 ∣ n := ⟨_, h2.symm⟩
 have hnd : Nd (ptN p n).1 p := fun e e2 e3 e4 => h e e2 e3 (Nat.dvd_trans e4 hd)
 refine ⟨?_, fun e e2 e3 e4 => ?_⟩
 ·rw [h4]
  refine nq ?_ k
  have g1 : Nat.gcd (ptN p n).1 p ∣ (ptN p n).1 := Nat.gcd_dvd_left ..
  have g2 : Nat.gcd (ptN p n).1 p ∣ p := Nat.gcd_dvd_right ..
  have g3 : Nat.gcd (ptN p n).1 p ≤ p := Nat.le_of_dvd (by omega) g2
  have g4 : 0 < Nat.gcd (ptN p n).1 p := Nat.gcd_pos_of_pos_left _ h1
  generalize Nat.gcd (ptN p n).1 p = g at *
  rcases Nat.lt_or_ge g 2 with x | x
  ·omega
  rcases Nat.lt_or_ge g p with y | y
  ·exact absurd g1 (hnd g x y)
  have : g = p := by omega
  subst this
  exact absurd (Nat.mod_eq_zero_of_dvd g1) h3
 rcases Nat.lt_or_ge e p with x | x
 ·exact hnd e e2 x e4
 have : e = p := by omega
 subst this
 exact h3 (Nat.mod_eq_zero_of_dvd e4)
theorem py {D : Int} (h4 : D % 4 = 0 ∨ D % 4 = 1) : rbL D 1 ≠ [] := by
 refine (mg (by decide)).2 ⟨D % 2, (D % 2 * (D % 2) - D) / 4, Rt.mk' ?_ fun g h _ _ => h⟩
 have : D % 2 = 0 ∨ D % 2 = 1 := by omega
 rcases this with e | e <;> rw [e] <;> omega
theorem rR {D : Int} (h4 : D % 4 = 0 ∨ D % 4 = 1) : ∀ (f n p : Nat), 0 < n → 2 ≤ p → Nd n p → n + 2 ≤ f + p → (rbL D (n : Int) ≠ [] ↔ ∀ q ∈ ppL f n p, rbL D (q : Int) ≠ [])
 | 0, n, p, hn, hp, hd, hf => by
  have h1 : n = 1 := by
   rcases Nat.lt_or_ge n 2 with x | x
   ·omega
   exact absurd (Nat.dvd_refl n) (hd n x (by omega))
  subst h1
  exact ⟨fun _ q hq => (by cases hq), fun _ => py h4⟩
 | f + 1, n, p, hn, hp, hd, hf => by
  unfold ppL
  by_cases h : n ≤ 1
  ·rw [if_pos h]
   have h1 : n = 1 := by omega
   subst h1
   exact ⟨fun _ q hq => (by cases hq), fun _ => py h4⟩
  rw [if_neg h]
  obtain ⟨h1, h2, h3, k, h5⟩ := mm hp hn
  obtain ⟨g1, g2⟩ := oE hp hn hd
  have hle : (ptN p n).1 ≤ n := Nat.le_of_dvd hn ⟨_, h2.symm⟩
  have hq : 0 < (ptN p n).2 := by rw [h5]; exact Nat.pow_pos (by omega)
  have ih := rR h4 f (ptN p n).1 (p + 1) h1 (by omega) g2 (by omega)
  have hm : rbL D (n : Int) ≠ [] ↔ rbL D ((ptN p n).1 : Int) ≠ [] ∧ rbL D ((ptN p n).2 : Int) ≠ [] := by
   have := Ai (D := D) (m := ((ptN p n).1 : Int)) (n := ((ptN p n).2 : Int)) (by omega) (by omega) (by rw [Int.gcd_natCast_natCast]; exact g1)
   rw [← this, ← Int.natCast_mul, h2]
  rw [hm, ih]
  generalize (ptN p n).2 = q at *
  constructor
  ·rintro ⟨a, b⟩ x hx
   rcases List.mem_append.1 hx with hx | hx
   ·split at hx
    ·rw [List.mem_singleton] at hx; subst hx; exact b
    cases hx
   exact a x hx
  intro a
  refine ⟨fun x hx => a x (List.mem_append.2 (.inr hx)), ?_⟩
  by_cases h1 : 1 < q
  ·exact a q (List.mem_append.2 (.inl (by rw [if_pos h1]; simp)))
  have : q = 1 := by omega
  subst this
  exact py h4
theorem s7 {D : Int} (h4 : D % 4 = 0 ∨ D % 4 = 1) {n : Nat} (hn : 0 < n) : rbL D (n : Int) ≠ [] ↔ ∀ q ∈ parts n, rbL D (q : Int) ≠ [] :=
 rR h4 n n 2 hn (by decide) (fun e e1 e2 => by omega) (by omega)
def blk (D : Int) (n : Nat) : Option Nat := (parts n).find? fun q => (rbL D (q : Int)).isEmpty
theorem xM {D : Int} (h4 : D % 4 = 0 ∨ D % 4 = 1) {n : Nat} (hn : 0 < n) : blk D n = none ↔ rbL D (n : Int) ≠ [] := by
 unfold blk
 rw [List.find?_eq_none, s7 h4 hn]
 constructor
 ·intro h q hq e; exact h q hq (by rw [e]; rfl)
 intro h q hq e; exact h q hq (List.isEmpty_iff.1 e)
theorem ux {D : Int} {n : Int} {f : Fm} (hx : prL D n f ≠ []) : rbL D n ≠ [] := by
 intro e
 unfold prL at hx
 rw [e] at hx
 exact hx rfl
end
section
open Go Go.RowKit
end
section
open Go Go.RowKit
end
section
open Go Go.RowKit
end
section
open Go Go.RowKit
end
section
open Go Go.RowKit
section
end
end
section
open Go Go.RowKit
end
section
open Go Go.RowKit
section
variable {A B C : Int}
theorem fu {p : Nat} (hp : Pr p) (pf : prim A B C = true) {a m k : Nat} (e : a = p ^ k * m) (hm : ¬ p ∣ m) {b : Nat} (ih : ∃ x y : Nat, Nat.Coprime (vl A B C x y).natAbs m ∧ x ≤ b ∧ y ≤ b) :
  ∃ x y : Nat, Nat.Coprime (vl A B C x y).natAbs a ∧ x ≤ b + 2 * m ∧ y ≤ b + 2 * m := by
 obtain ⟨x, y, hc, hbx, hby⟩ := ih
 obtain ⟨i, j, hi, hj, hv⟩ := DJ hp pf hm (x : Int) (y : Int)
 have mi : m * i ≤ m * 2 := Nat.mul_le_mul_left m hi
 have mj : m * j ≤ m * 2 := Nat.mul_le_mul_left m hj
 refine ⟨x + m * i, y + m * j, ?_, by omega, by omega⟩
 have ex : ((x + m * i : Nat) : Int) = (x : Int) + m * i := by rw [Int.natCast_add, Int.natCast_mul]
 have ey : ((y + m * j : Nat) : Int) = (y : Int) + m * j := by rw [Int.natCast_add, Int.natCast_mul]
 rw [ex, ey]
 have c1 : Nat.Coprime (vl A B C ((x : Int) + m * i) (y + m * j)).natAbs m := by
  have hg := oR (A := A) (B := B) (C := C) (m := (m : Int)) (x : Int) (y : Int) i j
  generalize vl A B C ((x : Int) + m * i) (y + m * j) = V at *
  generalize vl A B C (x : Int) (y : Int) = W at *
  have d1 := Nat.gcd_dvd_left V.natAbs m
  have d2 := Nat.gcd_dvd_right V.natAbs m
  have d3 : ((Nat.gcd V.natAbs m : Nat) : Int) ∣ W := by
   have e1 : ((Nat.gcd V.natAbs m : Nat) : Int) ∣ V := Int.ofNat_dvd_left.2 d1
   have e2 : ((Nat.gcd V.natAbs m : Nat) : Int) ∣ (m : Int) := Int.natCast_dvd_natCast.2 d2
   have e3 := Int.dvd_sub e1 (Int.dvd_trans e2 hg)
   have : V - (V - W) = W := by omega
   rwa [this] at e3
  have d4 := Nat.dvd_gcd (Int.ofNat_dvd_left.1 d3) d2
  unfold Nat.Coprime at hc ⊢
  rw [hc] at d4
  exact Nat.eq_one_of_dvd_one d4
 have c2 : Nat.Coprime (vl A B C ((x : Int) + m * i) (y + m * j)).natAbs p := pD hp (fun h => hv (Int.ofNat_dvd_left.2 h))
 rw [e]
 exact Nat.Coprime.mul_right (Nat.Coprime.pow_right k c2) c1
theorem ll (pf : prim A B C = true) : ∀ (n a : Nat), a ≤ n → 1 ≤ a → ∃ x y : Nat, Nat.Coprime (vl A B C x y).natAbs a ∧ x ≤ 2 * a ∧ y ≤ 2 * a
 | 0, a, h, h1 => by omega
 | n + 1, a, h, h1 => by
  by_cases h2 : a = 1
  ·subst h2
   exact ⟨0, 0, Nat.coprime_one_right _, by omega, by omega⟩
  obtain ⟨p, hp, hpa⟩ := mw a a (Nat.le_refl a) (by omega)
  obtain ⟨k, m, e, hm, m1, hle⟩ := jD hp a a (Nat.le_refl a) h1
  have hle := hle hpa
  have h3 : 2 * m ≤ p * m := Nat.mul_le_mul_right m hp.1
  obtain ⟨x, y, hc, hx, hy⟩ := fu hp pf e hm (ll pf n m (by omega) m1)
  exact ⟨x, y, hc, by omega, by omega⟩
theorem Fp {q : Nat} (hq : Pr q) (h : q ≤ 23) : q ∣ 223092870 := by
 have h2 := hq.1
 rcases Nat.lt_or_ge 16 q with g | g
 ·rcases (show q = 17 ∨ q = 18 ∨ q = 19 ∨ q = 20 ∨ q = 21 ∨ q = 22 ∨ q = 23 by omega) with rfl | rfl | rfl | rfl | rfl | rfl | rfl
  ·decide
  ·rcases hq.2 2 9 (by decide) with g | g <;> revert g <;> decide
  ·decide
  ·rcases hq.2 4 5 (by decide) with g | g <;> revert g <;> decide
  ·rcases hq.2 3 7 (by decide) with g | g <;> revert g <;> decide
  ·rcases hq.2 2 11 (by decide) with g | g <;> revert g <;> decide
  decide
 exact Nat.dvd_trans (pC hq g) ⟨7429, by decide⟩
theorem kU : Pr 19 := ⟨by omega, fun x y h => by
 have e : (x * y) % 19 = ((x % 19) * (y % 19)) % 19 := Nat.mul_mod ..
 have h1 : (x * y) % 19 = 0 := Nat.mod_eq_zero_of_dvd h
 have key : ∀ u v : Fin 19, (u.val * v.val) % 19 = 0 → u.val = 0 ∨ v.val = 0 := by decide +kernel
 rcases key ⟨x % 19, Nat.mod_lt _ (by omega)⟩ ⟨y % 19, Nat.mod_lt _ (by omega)⟩ (by rw [← e]; exact h1) with g | g
 ·exact .inl (Nat.dvd_of_mod_eq_zero g)
 exact .inr (Nat.dvd_of_mod_eq_zero g)⟩
theorem mP : Pr 23 := ⟨by omega, fun x y h => by
 have e : (x * y) % 23 = ((x % 23) * (y % 23)) % 23 := Nat.mul_mod ..
 have h1 : (x * y) % 23 = 0 := Nat.mod_eq_zero_of_dvd h
 have key : ∀ u v : Fin 23, (u.val * v.val) % 23 = 0 → u.val = 0 ∨ v.val = 0 := by decide +kernel
 rcases key ⟨x % 23, Nat.mod_lt _ (by omega)⟩ ⟨y % 23, Nat.mod_lt _ (by omega)⟩ (by rw [← e]; exact h1) with g | g
 ·exact .inl (Nat.dvd_of_mod_eq_zero g)
 exact .inr (Nat.dvd_of_mod_eq_zero g)⟩
theorem nk {q n g : Nat} (hq : Pr q) (h : g ∣ q * n) (hg : ¬ q ∣ g) : g ∣ n :=
 Nat.Coprime.dvd_of_dvd_mul_left (pD hq hg) h
theorem sE {m : Nat} (h : m ∣ 510510) (h2 : m < 510510) : m ≤ 255255 := by
 obtain ⟨k, hk⟩ := h
 rcases (show k = 0 ∨ k = 1 ∨ 2 ≤ k by omega) with rfl | rfl | g
 ·omega
 ·omega
 have := Nat.mul_le_mul_left m g
 omega
theorem F8 (pf : prim A B C = true) {g : Nat} (h1 : 1 ≤ g) (h2 : g ≤ 8388608) (hd : g ∣ 223092870) : ∃ x y : Nat, Nat.Coprime (vl A B C x y).natAbs g ∧ x ≤ 1400000 ∧ y ≤ 1400000 := by
 by_cases h23 : 23 ∣ g
 ·obtain ⟨m, rfl⟩ := h23
  have hm : m ∣ 9699690 := Nat.dvd_of_mul_dvd_mul_left (by omega : 0 < 23) (show 23 * m ∣ 23 * 9699690 from hd)
  have hn : ¬ 23 ∣ m := fun h => by have := Nat.dvd_trans h hm; revert this; decide
  rcases Nat.lt_or_ge 350000 m with q | q
  ·by_cases h19 : 19 ∣ m
   ·obtain ⟨t, rfl⟩ := h19
    have ht : t ∣ 510510 := Nat.dvd_of_mul_dvd_mul_left (by omega : 0 < 19) (show 19 * t ∣ 19 * 510510 from hm)
    have hn2 : ¬ 19 ∣ t := fun h => by have := Nat.dvd_trans h ht; revert this; decide
    have c1 := fu kU pf (a := 19 * t) (k := 1) (by omega) hn2 (ll pf t t (Nat.le_refl t) (by omega))
    obtain ⟨x, y, hc, hx, hy⟩ := fu mP pf (a := 23 * (19 * t)) (k := 1) (by omega) hn c1
    exact ⟨x, y, hc, by omega, by omega⟩
   have h5 : m ∣ 510510 := nk kU (show m ∣ 19 * 510510 from hm) h19
   have := sE h5 (by omega)
   omega
  obtain ⟨x, y, hc, hx, hy⟩ := fu mP pf (a := 23 * m) (k := 1) (by omega) hn (ll pf m m (Nat.le_refl m) (by omega))
  exact ⟨x, y, hc, by omega, by omega⟩
 have hm : g ∣ 9699690 := nk mP (show g ∣ 23 * 9699690 from hd) h23
 by_cases h19 : 19 ∣ g
 ·obtain ⟨t, rfl⟩ := h19
  have ht : t ∣ 510510 := Nat.dvd_of_mul_dvd_mul_left (by omega : 0 < 19) (show 19 * t ∣ 19 * 510510 from hm)
  have hn2 : ¬ 19 ∣ t := fun h => by have := Nat.dvd_trans h ht; revert this; decide
  have := sE ht (by omega)
  obtain ⟨x, y, hc, hx, hy⟩ := fu kU pf (a := 19 * t) (k := 1) (by omega) hn2 (ll pf t t (Nat.le_refl t) (by omega))
  exact ⟨x, y, hc, by omega, by omega⟩
 have h5 : g ∣ 510510 := nk kU (show g ∣ 19 * 510510 from hm) h19
 have := Nat.le_of_dvd (by omega) h5
 obtain ⟨x, y, hc, hx, hy⟩ := ll pf g g (Nat.le_refl g) h1
 exact ⟨x, y, hc, by omega, by omega⟩
theorem Bo (pf : prim A B C = true) {a : Nat} (h1 : 1 ≤ a) (h2 : a ≤ 8388608) : ∃ x y : Nat, Nat.Coprime (vl A B C x y).natAbs a ∧ x ≤ 1400000 ∧ y ≤ 1400000 := by
 by_cases h : ∃ p, Pr p ∧ p ∣ a ∧ 24 ≤ p
 ·obtain ⟨p, hp, hpa, h24⟩ := h
  obtain ⟨k, m, e, hm, m1, hle⟩ := jD hp a a (Nat.le_refl a) h1
  have hle := hle hpa
  have h3 : 24 * m ≤ p * m := Nat.mul_le_mul_right m h24
  obtain ⟨x, y, hc, hx, hy⟩ := fu hp pf e hm (ll pf m m (Nat.le_refl m) m1)
  exact ⟨x, y, hc, by omega, by omega⟩
 have hg1 : 1 ≤ Nat.gcd a 223092870 := Nat.gcd_pos_of_pos_left _ (by omega)
 have hg2 := Nat.le_of_dvd (by omega) (Nat.gcd_dvd_left a 223092870)
 obtain ⟨x, y, hc, hx, hy⟩ := F8 pf hg1 (by omega) (Nat.gcd_dvd_right a 223092870)
 refine ⟨x, y, ?_, hx, hy⟩
 by_cases g : Nat.Coprime (vl A B C x y).natAbs a
 ·exact g
 exfalso
 obtain ⟨q, hq, d1, d2⟩ := rX h1 g
 have h16 : q ≤ 23 := by
  rcases Nat.lt_or_ge 23 q with g | g
  ·exact absurd ⟨q, hq, d2, g⟩ h
  exact g
 have d3 := Nat.dvd_gcd d1 (Nat.dvd_gcd d2 (Fp hq h16))
 unfold Nat.Coprime at hc
 rw [hc] at d3
 have := Nat.le_of_dvd (by omega) d3
 have := hq.1
 omega
end
theorem Bp {d : Int} {g : Fm} (hg : Cl d g) (h0 : d < 0) (hd : -4194304 ≤ d) : ∃ x y : Int, 0 ≤ x ∧ x ≤ 1400000 ∧ 0 ≤ y ∧ y ≤ 1400000 ∧ Int.gcd (vl g.a g.b g.c x y) (2 * d) = 1 := by
 obtain ⟨x, y, h1, h2, h3⟩ := Bo hg.prim (a := (2 * d).natAbs) (by omega) (by omega)
 exact ⟨x, y, by omega, by omega, by omega, by omega, h1⟩
theorem yS {f : Fm} : gpE f = 0 → ∃ x y : Int, 0 ≤ x ∧ x ≤ 1400000 ∧ 0 ≤ y ∧ y ≤ 1400000 ∧ Int.gcd (vl f.rd.a f.rd.b f.rd.c x y) (2 * dsc f.a f.b f.c) = 1 := fun h => by
 obtain ⟨h1, h2⟩ := qd h
 obtain ⟨_, h3, h4⟩ := oH h2
 exact Bp h1.rd h3 h4
end
section
open Go Go.RowKit
section
variable {β : Type} {encD : β → List DV} {k : Nat}
theorem iH (hL : ∀ b, (encD b).length = k) (l : List β) : (l.flatMap encD).length = l.length * k := by
 induction l with
 | nil => simp
 | cons b l ih => rw [List.flatMap_cons, List.length_append, ih, hL, List.length_cons, Nat.add_mul]; omega
end
end
section
open Go Go.RowKit
end
section
open Go Go.RowKit
end
section
open Go Go.RowKit
section
variable {β : Type} {encD : β → List DV} {z : Nat}
abbrev SL (encD : β → List DV) (l : List β) : DV := .sl l.length (l.flatMap encD)
abbrev VB (z : Nat) (e : TypeId) (encD : β → List DV) (l : List β) : Blk := ⟨true, z, e, l.flatMap encD⟩
theorem ol (hL : ∀ b, (encD b).length = z) : ∀ (l : List β) (i : Nat) (h : i < l.length), (l.flatMap encD).drop (i * z) = encD l[i] ++ (l.drop (i + 1)).flatMap encD
 | x :: l, 0, _ => by simp
 | x :: l, i + 1, h => by
  have ih := ol hL l i (by simpa using h)
  have e : (i + 1) * z = (encD x).length + i * z := by rw [hL, Nat.add_mul, Nat.one_mul, Nat.add_comm]
  rw [e, List.flatMap_cons, List.drop_length_add_append, ih]
  simp
variable {P : Program} {tt : TT} (hT : dx P tt)
variable {dst : Option Nat} {ty : TypeId} {pos : String} {af : Array Edge} {gd : Option (Nat × Bool)} {d : Nat} {ρ : Operand → AV} {own : Own}
variable {T e : TypeId} {i j : TyI} {x y : Operand}
include hT
theorem uH (hL : ∀ b, (encD b).length = z) (hz : 0 < z) (b0 : β) {k : IntKind} {n : Int} {l : List β} (ht : tt T = some i) (hs : i.sh = .sl e) (he : tt e = some j) (hj : j.size = z) (hx : ρ x = .p (.c (SL encD l))) (hy : ρ y = .p (.c (.v (.int k n)))) (hn : 0 ≤ n ∧ n < l.length) :
  Eff P ⟨dst, .indexAddr T x y, ty, pos, af, gd⟩ d ρ own (.ip (encD (l.getD n.toNat b0) ++ (l.drop (n.toNat + 1)).flatMap encD)) [] none [] := by
 have hi : n.toNat < l.length := by omega
 have h := ce (dst := dst) (ty := ty) (pos := pos) (af := af) (gd := gd) (d := d) (own := own) hT ht hs he hx (l := l.length) (xs := l.flatMap encD) (by rfl) hy hn (by
  intro h0
  have := iH hL l
  rw [h0] at this
  have h1 : 1 * 1 ≤ l.length * z := Nat.mul_le_mul (by omega) hz
  simp at this
  omega)
 rw [hj, ol hL l n.toNat hi] at h
 have e1 : l.getD n.toNat b0 = l[n.toNat] := by simp [List.getD, hi]
 rw [e1]; exact h
theorem td (hL : ∀ b, (encD b).length = z) (hz : Nat.blt 0 z = true) {m : Nat} {l : List β} {b : β} (ht : tt T = some i) (hs : i.sh = .sl e) (he : tt e = some j) (hj : j.size = z) (hjb : Nat.ble j.bytes (32 * z) = true) (hx : ρ x = .vec m) (hb : own m = some (VB z e encD l)) (hy : ρ y = .p (.c (.sl 1 (encD b)))) (hfit : l.length ≤ 10000000) (hmd : m ≠ d) (hzb : Nat.ble z 96 = true) :
  Eff P ⟨dst, .call ⟨.builtin .append, #[x, y], #[T, T]⟩, ty, pos, af, gd⟩ d ρ own (.vec d) [(m, none)] (some (VB z e encD (l ++ [b]))) [m] := by
 have hl : (VB z e encD l).cs.length = l.length * z := iH hL l
 have hz2 := bL0 hzb
 have h1 : l.length * z ≤ 10000000 * 96 := Nat.mul_le_mul hfit hz2
 have h := iS (dst := dst) (ty := ty) (pos := pos) (af := af) (gd := gd) hT ht hs he hx hb rfl hj.symm rfl hy (by rfl) (by rw [hj, Nat.one_mul]; exact hL b) (by rw [hj]; exact hjb) (by rw [hl, hj]; omega) (by rw [hj]; exact hz) hmd
 unfold VB
 rw [List.flatMap_append]
 rw [hj] at h
 simpa using h
end
section
variable {β : Type} {encD : β → List DV} {z : Nat}
theorem q6 {P : Program} {B : Bool} {N np : Nat} {Q : Exit → St → Prop} {s : St} {c : Code} (hL : ∀ b, (encD b).length = z) (hz : Nat.blt 0 z = true) {t m : Nat} {l : List β} {e : TypeId} (ht : s.regs t = .vec m) (hb : s.own m = some (VB z e encD l)) (h : AWp P B N np c Q ⟨upd s.regs t (.p (.c (SL encD l))), upd s.own m none⟩) : AWp P B N np c Q s :=
 fI (n := l.length) ht hb rfl (iH hL l).symm (show 0 < z by simpa using hz) h
end
section
end
end
section
open Go Go.RowKit
end
section
open Go Go.RowKit
end
section
open Go Go.RowKit
def ow (o s k : Int) : Int := if k % 2 = 1 then o * s else o
theorem oL {c n : Int} (hn : 0 < n) (ho : n % 2 = 1) (hc : c = -4 ∨ c = 8 ∨ c = -8) : kr c n = cv c n := by
 rw [gu hc]
 have h2 : kr 2 n = sg8 n := by
  have hcp := jt (n := n) ho
  rw [fZ hn ho, if_pos hcp, qM hn ho]
 have hm1 : kr (-1) n = if n % 4 = 1 then 1 else -1 := kr_m1 hn ho
 have h4 : kr (-4) n = kr (-1) n * (kr 2 n * kr 2 n) := by rw [← cA hn ho, ← cA hn ho]; rfl
 have h8 : kr 8 n = kr 2 n * (kr 2 n * kr 2 n) := by rw [← cA hn ho, ← cA hn ho]; rfl
 have h8m : kr (-8) n = kr (-1) n * (kr 2 n * (kr 2 n * kr 2 n)) := by rw [← cA hn ho, ← cA hn ho, ← cA hn ho]; rfl
 have hs : sg8 n * sg8 n = 1 := mL ho
 rw [h2, hs] at h4 h8 h8m
 rw [hm1] at h4 h8m
 obtain ⟨r, hr⟩ := lj n
 have key : ∀ r : Fin 8, r.val % 2 = 1 → spv (-4) r.val = (if (r.val : Int) % 4 = 1 then 1 else -1) ∧ spv 8 r.val = sg8 r.val ∧ spv (-8) r.val = (if (r.val : Int) % 4 = 1 then 1 else -1) * sg8 r.val := by decide +kernel
 obtain ⟨k1, k2, k3⟩ := key r (by omega)
 have e4 : n % 4 = (r.val : Int) % 4 := by omega
 have e8 : sg8 n = sg8 r.val := by unfold sg8; rw [hr, show ((r.val : Int)) % 8 = (r.val : Int) by have := r.isLt; omega]
 rw [hr]
 rcases hc with rfl | rfl | rfl
 ·rw [h4, k1, e4, Int.mul_one]
 ·rw [h8, k2, e8, Int.mul_one]
 rw [h8m, k3, e4, e8, Int.mul_one]
where
 kr_m1 {n : Int} (hn : 0 < n) (ho : n % 2 = 1) : kr (-1) n = if n % 4 = 1 then 1 else -1 := by
  have hc : Cop (-1) n := Cop.of_inv (b := -1) ⟨0, by omega⟩
  rw [fZ hn ho, if_pos hc]
  exact SS_m1 hn ho
 SS_m1 {n : Int} (hn : 0 < n) (ho : n % 2 = 1) : SS (-1) n = if n % 4 = 1 then 1 else -1 := by
  have e : bo ((rg n).map fun x => up n (-1 * x)) = n / 2 := by
   rw [← pX n hn]
   refine cO fun x hx => ?_
   have := (eh hn).1 hx
   have e1 : (-1 * x) % n = n - x := by
    rw [← Int.add_emod_right (-1 * x) n, Int.emod_eq_of_lt (by omega) (by omega)]; omega
   unfold up
   rw [e1, if_neg (by omega)]
  rw [qN, e]
  unfold par
  split <;> split <;> omega
end
section
open Go Go.RowKit
theorem u7 {d : Int} {f : Fm} (hf : Cl d f) (hd : -4194304 ≤ d) (hE : szE d = 0) : (gvL f).length = (chs d).length := by
 unfold gvL
 rw [if_pos (mE hf hd hE), hf.disc, List.length_map]
end
section
open Go Go.RowKit
def agL (D n : Int) (f : Fm) : List Int := if Int.gcd (2 * D) n = 1 then (((chs D).zip (gvL f)).filter fun p => decide (cv p.1 n ≠ p.2)).map Prod.fst else []
structure Ans where
 kind : Int
 x : Int
 y : Int
 m : Int
 roots : List Int
 forms : List Fm
def fmL (D n : Int) : List Fm := (rbL D n).map fun b => (frq D n b).rd
def fnd (D : Int) (n : Nat) (f : Fm) : Ans :=
 match c7 (prL D n f) with
 | some p => ⟨1, p.1, p.2, 0, [], []⟩
 | none => match blk D n with
  | some q => ⟨2, 0, 0, q, [], []⟩
  | none => match agL D n f with
   | c :: _ => ⟨2, 0, 0, c, [], []⟩
   | [] => ⟨3, 0, 0, 0, rbL D n, fmL D n⟩
section
variable {D : Int} {n : Nat} {f g : Fm}
theorem y9 {l : List Int} (F : Int → Int) : ∀ p ∈ l.zip (l.map F), p.2 = F p.1 := by
 induction l with
 | nil => intro p hp; simp at hp
 | cons a l ih =>
  intro p hp
  rw [List.map_cons, List.zip_cons_cons] at hp
  rcases List.mem_cons.1 hp with rfl | hp
  ·rfl
  exact ih p hp
theorem q8 {F : Int → Int} : ∀ {l v : List Int}, l.length = v.length → (∀ p ∈ l.zip v, p.2 = F p.1) → v = l.map F
 | [], [], _, _ => rfl
 | [], _ :: _, h, _ => by simp at h
 | _ :: _, [], h, _ => by simp at h
 | a :: l, b :: v, h, k => by
  rw [List.map_cons, ← q8 (l := l) (v := v) (by simpa using h) fun p hp => k p (by simp [hp])]
  have : b = F a := k (a, b) (by simp)
  rw [this]
theorem sG (hf : Cl D f) (hd : -4194304 ≤ D) (hE : szE D = 0) (hg : Int.gcd (2 * D) n = 1) : agL D n f = [] ↔ gvL f = (chs D).map fun c => cv c n := by
 unfold agL
 rw [if_pos hg, List.map_eq_nil_iff, List.filter_eq_nil_iff]
 constructor
 ·intro h
  exact q8 (u7 hf hd hE).symm fun p hp => by
   have := h p hp
   simp only [ne_eq, decide_not, Bool.not_eq_true', decide_eq_false_iff_not, Decidable.not_not] at this
   exact this.symm
 intro h p hp
 rw [h] at hp
 have := y9 (fun c => cv c n) p hp
 simp [this]
theorem Dd (hn : 0 < n) (hf : Cl D f) : prL D n f ≠ [] ↔ ∃ x y, Int.gcd x y = 1 ∧ vl f.a f.b f.c x y = n := by
 constructor
 ·intro h
  obtain ⟨p, hp⟩ := List.exists_mem_of_ne_nil _ h
  exact ⟨p.1, p.2, (kV hf (by omega)).1 hp⟩
 rintro ⟨x, y, h⟩ e
 have := (kV hf (n := (n : Int)) (by omega)).2 h
 rw [e] at this; cases this
theorem uy (hn : 0 < n) (hf : Cl D f) (hd : -4194304 ≤ D) (hE : szE D = 0) (hg : Int.gcd (2 * D) n = 1) (h : prL D n f ≠ []) : gvL f = (chs D).map fun c => cv c n := by
 obtain ⟨x, y, h1, h2⟩ := (Dd hn hf).1 h
 exact (u6 hf hd (kF hf) hE (CV hf ⟨x, y, h2.symm⟩) (by rw [Int.gcd_comm]; exact hg)).symm
theorem lT {p : Pr2} (h : c7 (prL D n f) = some p) : fnd D n f = ⟨1, p.1, p.2, 0, [], []⟩ := by unfold fnd; rw [h]
theorem ni {q : Nat} (h : c7 (prL D n f) = none) (k : blk D n = some q) : fnd D n f = ⟨2, 0, 0, q, [], []⟩ := by unfold fnd; rw [h, k]
theorem qn {c : Int} {l : List Int} (h : c7 (prL D n f) = none) (k : blk D n = none) (j : agL D n f = c :: l) : fnd D n f = ⟨2, 0, 0, c, [], []⟩ := by unfold fnd; rw [h, k]; simp only [j]
theorem nh (h : c7 (prL D n f) = none) (k : blk D n = none) (j : agL D n f = []) : fnd D n f = ⟨3, 0, 0, 0, rbL D n, fmL D n⟩ := by unfold fnd; rw [h, k]; simp only [j]
theorem qm (hn : 0 < n) (hf : Cl D f) : (fnd D n f).kind = 1 ↔ prL D n f ≠ [] := by
 have hb := om hf (n := (n : Int)) (by omega)
 cases h : c7 (prL D n f) with
 | some p =>
  rw [lT h]
  exact ⟨fun _ e => (by rw [hb.2 e] at h; cases h), fun _ => rfl⟩
 | none =>
  refine ⟨fun e => ?_, fun e => absurd (hb.1 h) e⟩
  exfalso
  cases k : blk D n with
  | some q => rw [ni h k] at e; exact absurd (show (2 : Int) = 1 ∨ (3 : Int) = 1 ∨ (1 : Int) = 2 ∨ (3 : Int) = 2 from by first | exact .inl e | exact .inr (.inl e) | exact .inr (.inr (.inl e)) | exact .inr (.inr (.inr e))) (by decide)
  | none =>
   cases j : agL D n f with
   | cons c l => rw [qn h k j] at e; exact absurd (show (2 : Int) = 1 ∨ (3 : Int) = 1 ∨ (1 : Int) = 2 ∨ (3 : Int) = 2 from by first | exact .inl e | exact .inr (.inl e) | exact .inr (.inr (.inl e)) | exact .inr (.inr (.inr e))) (by decide)
   | nil => rw [nh h k j] at e; exact absurd (show (2 : Int) = 1 ∨ (3 : Int) = 1 ∨ (1 : Int) = 2 ∨ (3 : Int) = 2 from by first | exact .inl e | exact .inr (.inl e) | exact .inr (.inr (.inl e)) | exact .inr (.inr (.inr e))) (by decide)
theorem DW (hn : 0 < n) (hf : Cl D f) : (fnd D n f).kind = 2 ↔ prL D n f = [] ∧ (rbL D n = [] ∨ agL D n f ≠ []) := by
 have hb := om hf (n := (n : Int)) (by omega)
 have hk := xM (qD hf) hn
 cases h : c7 (prL D n f) with
 | some p =>
  rw [lT h]
  refine ⟨fun e => absurd (show (2 : Int) = 1 ∨ (3 : Int) = 1 ∨ (1 : Int) = 2 ∨ (3 : Int) = 2 from by first | exact .inl e | exact .inr (.inl e) | exact .inr (.inr (.inl e)) | exact .inr (.inr (.inr e))) (by decide), fun e => ?_⟩
  rw [hb.2 e.1] at h; cases h
 | none =>
  have h0 := hb.1 h
  cases k : blk D n with
  | some q =>
   rw [ni h k]
   refine ⟨fun _ => ⟨h0, .inl ?_⟩, fun _ => rfl⟩
   cases e : rbL D n with
   | nil => rfl
   | cons b l => have := hk.2 (by rw [e]; simp); rw [k] at this; cases this
  | none =>
   have h1 := hk.1 k
   cases j : agL D n f with
   | cons c l => rw [qn h k j]; exact ⟨fun _ => ⟨h0, .inr (by simp)⟩, fun _ => rfl⟩
   | nil =>
    rw [nh h k j]
    refine ⟨fun e => absurd (show (2 : Int) = 1 ∨ (3 : Int) = 1 ∨ (1 : Int) = 2 ∨ (3 : Int) = 2 from by first | exact .inl e | exact .inr (.inl e) | exact .inr (.inr (.inl e)) | exact .inr (.inr (.inr e))) (by decide), fun e => ?_⟩
    rcases e.2 with e | e
    ·exact absurd e h1
    exact absurd rfl e
theorem zW (hn : 0 < n) (hf : Cl D f) (hg : Cl D g) (hd : -4194304 ≤ D) (hE : szE D = 0) (hc : Int.gcd (2 * D) n = 1) (hp : prL D n g ≠ []) : (fnd D n f).kind = 2 ↔ gvL f ≠ gvL g := by
 have e := uy hn hg hd hE hc hp
 have hr := ux hp
 rw [DW hn hf, e]
 constructor
 ·rintro ⟨_, h⟩ h2
  exact (h.resolve_left hr) ((sG hf hd hE hc).2 h2)
 intro h
 refine ⟨?_, .inr fun h2 => h ((sG hf hd hE hc).1 h2)⟩
 cases e2 : prL D n f with
 | nil => rfl
 | cons p l => exact absurd (uy hn hf hd hE hc (by rw [e2]; simp)) h
end
end
section
open Go Go.RowKit
end
section
open Go Go.RowKit
theorem nM {p r : Nat} (hp : 2 ≤ p) (hr : Nat.gcd p r = 1) (hr0 : 0 < r) : ∀ (f f' a q : Nat), 0 < a → a ≤ f' → a * r ≤ f → (dX p f (a * r) q).2 = (dX p f' a q).2
 | 0, f', a, q, h0, _, h => by have := Nat.mul_pos h0 hr0; omega
 | f + 1, 0, a, q, h0, h1, _ => by omega
 | f + 1, f' + 1, a, q, h0, h1, h2 => by
  unfold dX
  by_cases h : a % p = 0
  ·have hd : p ∣ a := Nat.dvd_of_mod_eq_zero h
   have hd2 : p ∣ a * r := Nat.dvd_trans hd ⟨r, rfl⟩
   rw [if_pos h, if_pos (Nat.mod_eq_zero_of_dvd hd2)]
   have e : a * r / p = a / p * r := by
    rw [Nat.mul_comm, Nat.mul_div_assoc _ hd, Nat.mul_comm]
   have hlt : a / p < a := Nat.div_lt_self h0 (by omega)
   have hpos : 0 < a / p := Nat.div_pos (Nat.le_of_dvd h0 hd) (by omega)
   rw [e]
   refine nM hp hr hr0 f f' (a / p) (q * p) hpos (by omega) ?_
   have : a / p * r < a * r := Nat.mul_lt_mul_of_pos_right hlt hr0
   omega
  have h3 : ¬ a * r % p = 0 := fun x => h (by
   have hd : p ∣ r * a := by rw [Nat.mul_comm]; exact Nat.dvd_of_mod_eq_zero x
   exact Nat.mod_eq_zero_of_dvd (Nat.Coprime.dvd_of_dvd_mul_left hr hd))
  rw [if_neg h, if_neg h3]
theorem C6 {p a r : Nat} (hp : 2 ≤ p) (h0 : 0 < a) (hr0 : 0 < r) (hr : Nat.gcd p r = 1) : (ptN p (a * r)).2 = (ptN p a).2 :=
 nM hp hr hr0 (a * r) a a 1 h0 (Nat.le_refl _) (Nat.le_refl _)
theorem Am {p n : Nat} (h : n % p ≠ 0) (hn : 0 < n) : ptN p n = (n, 1) := by
 unfold ptN
 cases n with
 | zero => omega
 | succ n => unfold dX; rw [if_neg h]
structure BkI (D : Int) (n0 left p : Nat) : Prop where
 two : 2 ≤ p
 pos : 0 < left
 nd : Nd left p
 ex : ∃ r, n0 = left * r ∧ 0 < r ∧ Nat.gcd left r = 1
 fd : ∃ f, left + 2 ≤ f + p ∧ blk D n0 = (ppL f left p).find? fun (q : Nat) => (rbL D (q : Int)).isEmpty
section
end
end
section
open Go Go.RowKit
def Prm (p : Nat) : Prop := 2 ≤ p ∧ ∀ k, 2 ≤ k → k * k ≤ p → ¬ k ∣ p
theorem An {p d : Nat} (h : Prm p) (hd : d ∣ p) : d = 1 ∨ d = p := by
 obtain ⟨h2, hk⟩ := h
 obtain ⟨e, he⟩ := hd
 have hd0 : d ≠ 0 := fun x => by rw [x, Nat.zero_mul] at he; omega
 have he0 : e ≠ 0 := fun x => by rw [x, Nat.mul_zero] at he; omega
 rcases Nat.lt_or_ge d 2 with x | x
 ·exact .inl (by omega)
 rcases Nat.lt_or_ge e 2 with y | y
 ·have : e = 1 := by omega
  exact .inr (by rw [he, this, Nat.mul_one])
 exfalso
 rcases Nat.le_total d e with z | z
 ·exact hk d x (by rw [he]; exact Nat.mul_le_mul_left d z) ⟨e, he⟩
 exact hk e y (by rw [he]; exact Nat.mul_le_mul_right e z) ⟨d, by rw [Nat.mul_comm]; exact he⟩
theorem Dn {p left : Nat} (hp : 2 ≤ p) (h : Nd left p) (hd : p ∣ left) : Prm p := by
 refine ⟨hp, fun k hk hkk hkd => ?_⟩
 have hlt : k < p := by
  rcases Nat.lt_or_ge k p with x | x
  ·exact x
  have : p * 2 ≤ k * k := Nat.mul_le_mul x hk
  omega
 exact h k hk hlt (Nat.dvd_trans hkd hd)
theorem Ao {p p' : Nat} (h : Prm p') (hp : 2 ≤ p) (hlt : p < p') : Nat.gcd p' p = 1 := by
 have h1 : Nat.gcd p' p ∣ p' := Nat.gcd_dvd_left ..
 have h2 : Nat.gcd p' p ∣ p := Nat.gcd_dvd_right ..
 rcases An h h1 with e | e
 ·exact e
 rw [e] at h2
 have := Nat.le_of_dvd (by omega) h2
 omega
theorem mQ {n0 : Nat} : ∀ (f left p : Nat), 2 ≤ p → 0 < left → Nd left p → (∃ r, n0 = left * r ∧ 0 < r ∧ Nat.gcd left r = 1) → left + 2 ≤ f + p →
  ∀ q, q ∈ ppL f left p ↔ ∃ p', p ≤ p' ∧ Prm p' ∧ p' ∣ left ∧ q = (ptN p' n0).2
 | 0, left, p, hp, hl, hd, hr, hf, q => by
  have h1 : left = 1 := by
   rcases Nat.lt_or_ge left 2 with x | x
   ·omega
   exact absurd (Nat.dvd_refl left) (hd left x (by omega))
  subst h1
  refine ⟨fun h => (by cases h), ?_⟩
  rintro ⟨p', h1, h2, h3, _⟩
  have := Nat.le_of_dvd (by decide) h3
  omega
 | f + 1, left, p, hp, hl, hd, hr, hf, q => by
  unfold ppL
  by_cases h : left ≤ 1
  ·rw [if_pos h]
   refine ⟨fun h => (by cases h), ?_⟩
   rintro ⟨p', h1, h2, h3, _⟩
   have := Nat.le_of_dvd hl h3
   omega
  rw [if_neg h]
  by_cases hm : left % p = 0
  ·have hB : BkI 0 left left 2 ∨ True := .inr trivial
   obtain ⟨h1, h2, h3, k, h5⟩ := mm hp hl
   obtain ⟨g1, g2⟩ := oE hp hl hd
   have hdv : p ∣ left := Nat.dvd_of_mod_eq_zero hm
   have hq1 : 1 < (ptN p left).2 := by
    rcases Nat.lt_or_ge 1 (ptN p left).2 with x | x
    ·exact x
    exfalso
    have : 0 < (ptN p left).2 := by rw [h5]; exact Nat.pow_pos (by omega)
    have e : (ptN p left).2 = 1 := by omega
    rw [e, Nat.mul_one] at h2
    rw [h2] at h3
    exact h3 hm
   have hle : (ptN p left).1 ≤ left := Nat.le_of_dvd hl ⟨_, h2.symm⟩
   obtain ⟨r, r1, r2, r3⟩ := hr
   have hpart : (ptN p n0).2 = (ptN p left).2 := by
    rw [r1]
    refine C6 hp hl r2 ?_
    have hx : Nat.gcd p r ∣ Nat.gcd left r := Nat.dvd_gcd (Nat.dvd_trans (Nat.gcd_dvd_left ..) hdv) (Nat.gcd_dvd_right ..)
    rw [r3] at hx
    exact Nat.dvd_one.1 hx
   have ih := mQ (n0 := n0) f (ptN p left).1 (p + 1) (by omega) h1 g2 ⟨(ptN p left).2 * r, by rw [← Nat.mul_assoc, h2]; exact r1, Nat.mul_pos (by omega) r2, by
    refine Nat.Coprime.mul_right g1 ?_
    have hx : Nat.gcd (ptN p left).1 r ∣ Nat.gcd left r := Nat.dvd_gcd (Nat.dvd_trans (Nat.gcd_dvd_left ..) ⟨_, h2.symm⟩) (Nat.gcd_dvd_right ..)
    rw [r3] at hx
    exact Nat.dvd_one.1 hx⟩ (by omega) q
   rw [if_pos hq1, List.singleton_append, List.mem_cons, ih]
   constructor
   ·rintro (rfl | ⟨p', a1, a2, a3, a4⟩)
    ·exact ⟨p, Nat.le_refl _, Dn hp hd hdv, hdv, hpart.symm⟩
    exact ⟨p', by omega, a2, Nat.dvd_trans a3 ⟨_, h2.symm⟩, a4⟩
   rintro ⟨p', a1, a2, a3, a4⟩
   rcases Nat.lt_or_ge p p' with x | x
   ·refine .inr ⟨p', x, a2, ?_, a4⟩
    have hc := nq (Ao a2 hp x) k
    rw [← h5] at hc
    rw [← h2] at a3
    exact Nat.Coprime.dvd_of_dvd_mul_right hc a3
   have : p' = p := by omega
   subst this
   exact .inl (by rw [a4, hpart])
  have e := Am hm hl
  rw [e]
  have ih := mQ (n0 := n0) f left (p + 1) (by omega) hl (fun e e1 e2 e3 => by
   rcases Nat.lt_or_ge e p with x | x
   ·exact hd e e1 x e3
   have : e = p := by omega
   subst this
   exact hm (Nat.mod_eq_zero_of_dvd e3)) hr (by omega) q
  simp only [Nat.lt_irrefl, if_false, List.nil_append]
  rw [ih]
  constructor
  ·rintro ⟨p', a1, a⟩; exact ⟨p', by omega, a⟩
  rintro ⟨p', a1, a2, a3, a4⟩
  rcases Nat.lt_or_ge p p' with x | x
  ·exact ⟨p', x, a2, a3, a4⟩
  have : p' = p := by omega
  subst this
  exact absurd (Nat.mod_eq_zero_of_dvd a3) hm
theorem uz {n q : Nat} (hn : 0 < n) : q ∈ parts n ↔ ∃ p, Prm p ∧ p ∣ n ∧ q = (ptN p n).2 := by
 unfold parts
 rw [mQ (n0 := n) n n 2 (by decide) hn (fun e e1 e2 => by omega) ⟨1, by omega, by decide, by simp⟩ (by omega)]
 constructor
 ·rintro ⟨p, _, a⟩; exact ⟨p, a⟩
 rintro ⟨p, a⟩; exact ⟨p, a.1.1, a⟩
end
section
open Go Go.RowKit
section
end
end
section
open Go Go.RowKit
section
end
section
end
end
section
open Go Go.RowKit
abbrev enI (z : Int) : List DV := [zn z, zm z]
theorem li (z : Int) : (enI z).length = 2 := rfl
end
section
open Go Go.RowKit
section
variable {P : Program} {n0 : Nat} {J : Nat → Hp → (Nat → Prop) → World → Prop} {N np : Nat} {Q : Exit → Nat → St → Prop} {ops : Array Oper} {os : List Oper} {i k : Nat} {s : St}
theorem RY.split {t : Nat} {b : Bool} (_h : s.regs t = .p (.c (.v (.bool b)))) (h1 : b = true → RY P n0 J N np Q ops os i k s) (h2 : b = false → RY P n0 J N np Q ops os i k s) : RY P n0 J N np Q ops os i k s := by
 cases b
 ·exact h2 rfl
 exact h1 rfl
theorem tg {n k : Nat} {b : Bool} (h : b = true) : nx n k b = k + 1 := by rw [h]; rfl
theorem th {n k : Nat} {b : Bool} (h : b = false) : n ≤ nx n k b := by rw [h]; show n ≤ n + 1 + k; omega
end
theorem Bt (a b : Int) : (bq a b == 0) = decide (a = b) := by
 by_cases h : a = b
 ·rw [decide_eq_true h, cmpI_eq_zero.2 h]; rfl
 rw [decide_eq_false h]
 exact beq_eq_false_iff_ne.2 fun x => h (cmpI_eq_zero.1 x)
theorem z8 (a : Int) : (sgn a == 0) = decide (a = 0) := by
 unfold sgn
 by_cases h : a = 0
 ·subst h; rfl
 rw [decide_eq_false h, if_neg h]
 split <;> rfl
def rgE (n : Int) : Int := if n < 1 then 1 else if 65536 < n then 2 else 0
theorem EZ {n : Int} (h : n < 1) : rgE n = 1 := by unfold rgE; rw [if_pos h]
theorem EY {n : Int} (h : 65536 < n) : rgE n = 2 := by unfold rgE; rw [if_neg (by omega), if_pos h]
theorem sW {n : Int} (h1 : ¬ n < 1) (h2 : ¬ 65536 < n) : rgE n = 0 := by unfold rgE; rw [if_neg h1, if_neg h2]
theorem me {D : Int} {m : Nat} : ∀ x ∈ (rbL D m).map (fun b => ([PI b, PF (frq D m b)] : List PV)), x.length = 2 := by
 intro x hx
 obtain ⟨b, _, rfl⟩ := List.mem_map.1 hx
 rfl
theorem Fi {D : Int} {m k : Nat} {x : List PV} (h : ((rbL D m).map (fun b => ([PI b, PF (frq D m b)] : List PV)))[k]? = some x) : decide (rbL D m = []) = false :=
 decide_eq_false fun e => by rw [e] at h; cases h
theorem mf {D : Int} {m k : Nat} {x : List PV} (h : ((rbL D m).map (fun b => ([PI b, PF (frq D m b)] : List PV)))[k]? = some x) : ∃ b, (rbL D m)[k]? = some b ∧ x = [PI b, PF (frq D m b)] := by
 rw [List.getElem?_map] at h
 cases e : (rbL D (m : Int))[k]? with
 | none => rw [e] at h; cases h
 | some b => rw [e] at h; exact ⟨b, rfl, (Option.some.inj h).symm⟩
theorem pz (D : Int) (m : Nat) (hm : m ≤ 65536) : (rbL D m).length ≤ 131072 := by
 have : (rbL D m).length ≤ (2 * (m : Int)).toNat := by
  unfold rbL
  exact Nat.le_trans (List.length_filter_le _ _) (by rw [List.length_map, List.length_range]; exact Nat.le_refl _)
 omega
theorem yI {D : Int} {m k : Nat} {b : Int} (h : (rbL D m)[k]? = some b) : (rbL D m).take (k + 1) = (rbL D m).take k ++ [b] := by
 obtain ⟨hk, e⟩ := List.getElem?_eq_some_iff.1 h
 rw [List.take_succ_eq_append_getElem hk, e]
theorem CZ {D : Int} {m : Nat} : (rbL D m).take ((rbL D m).map (fun b => ([PI b, PF (frq D m b)] : List PV))).length = rbL D m := by
 rw [List.length_map, List.take_length]
theorem DX (D : Int) (m : Nat) (hm : m ≤ 65536) : (fmL D m).length ≤ 131072 := by
 unfold fmL; rw [List.length_map]; exact pz D m hm
theorem FZ {D : Int} {m k : Nat} {b : Int} (h : (rbL D m)[k]? = some b) : (fmL D m).take (k + 1) = (fmL D m).take k ++ [(frq D m b).rd] := by
 unfold fmL
 rw [← List.map_take, ← List.map_take, yI h, List.map_append]; rfl
theorem DZ {D : Int} {m : Nat} : (fmL D m).take ((rbL D m).map (fun b => ([PI b, PF (frq D m b)] : List PV))).length = fmL D m := by
 rw [List.length_map]; unfold fmL; rw [← List.map_take, List.take_length]
theorem CY {D : Int} {m : Nat} (h : ((rbL D m).map (fun b => ([PI b, PF (frq D m b)] : List PV))).length = 0) : decide (rbL D m = []) = true :=
 decide_eq_true (by simpa using h)
def rbT (D n : Int) (i : Nat) : List Int := ((List.range i).map fun (j : Nat) => (j : Int)).filter (isR D n)
theorem oC {D n : Int} {i : Nat} : rbT D n (i + 1) = rbT D n i ++ if isR D n i = true then [(i : Int)] else [] := by
 unfold rbT
 rw [List.range_succ, List.map_append, List.filter_append]
 congr 1
 simp only [List.map_cons, List.map_nil, List.filter_cons, List.filter_nil]
theorem uq {D n : Int} {i : Nat} (h : isR D n i = false) : (rbT D n (i + 1)).length = (rbT D n i).length := by
 rw [oC, h]; simp
theorem Af {D n : Int} {i : Nat} (h : isR D n i = true) : (rbT D n (i + 1)).length = (rbT D n i).length + 1 := by
 rw [oC, h]; simp
theorem rN {D n : Int} : rbT D n (2 * n).toNat = rbL D n := rfl
theorem Ag {D n : Int} {i j : Nat} (h : i ≤ j) : ∃ l, rbT D n j = rbT D n i ++ l := by
 obtain ⟨d, rfl⟩ : ∃ d, j = i + d := ⟨j - i, by omega⟩
 clear h
 induction d with
 | zero => exact ⟨[], by simp⟩
 | succ d ih =>
  obtain ⟨l, hl⟩ := ih
  refine ⟨l ++ (if isR D n ((i + d : Nat) : Int) = true then [((i + d : Nat) : Int)] else []), ?_⟩
  rw [← Nat.add_assoc, oC, hl, List.append_assoc]
theorem Ah {D n : Int} {i : Nat} (h : isR D n i = true) (hi : (i : Int) < 2 * n) : (rbL D n)[(rbT D n i).length]? = some (i : Int) := by
 obtain ⟨l, hl⟩ := Ag (D := D) (n := n) (i := i + 1) (j := (2 * n).toNat) (by omega)
 rw [← rN, hl, oC, if_pos h, List.append_assoc, List.getElem?_append_right (Nat.le_refl _), Nat.sub_self]
 rfl
theorem Ba {D n : Int} {b : Int} (h : ¬ b * b % (4 * n) = D % (4 * n)) : isR D n b = false := by
 unfold isR; rw [decide_eq_false h]; rfl
theorem A9 {D n : Int} {b : Int} (h : prim n b ((b * b - D) / (4 * n)) = false) : isR D n b = false := by
 unfold isR; rw [h, Bool.and_false]
theorem A8 {D n : Int} {b : Int} (h1 : b * b % (4 * n) = D % (4 * n)) (h : prim n b ((b * b - D) / (4 * n)) = true) : isR D n b = true := by
 unfold isR; rw [h, decide_eq_true h1]; rfl
end
section
open Go Go.RowKit
section
variable {α β : Type}
theorem gV {l : List α} {k : Nat} {x : α} (h : l[k]? = some x) : l.take (k + 1) = l.take k ++ [x] := by
 rw [List.take_add_one, h]; rfl
theorem na {l : List α} {k : Nat} {x : α} (h : l[k]? = some x) : ∃ r, l = l.take k ++ x :: r := by
 obtain ⟨hk, e⟩ := List.getElem?_eq_some_iff.1 h
 refine ⟨l.drop (k + 1), ?_⟩
 rw [← e, List.getElem_cons_drop, List.take_append_drop]
def cZ (p : α → Bool) (l : List α) (k : Nat) : Nat := ((l.take k).filter p).length
theorem lU {p : α → Bool} {l : List α} {k : Nat} {x : α} (h : l[k]? = some x) (hp : p x = true) : cZ p l (k + 1) = cZ p l k + 1 := by
 unfold cZ
 rw [gV h, List.filter_append, List.length_append, List.filter_cons, if_pos hp]
 rfl
theorem nj {p : α → Bool} {l : List α} {k : Nat} {x : α} (h : l[k]? = some x) (hp : p x = false) : cZ p l (k + 1) = cZ p l k := by
 unfold cZ
 rw [gV h, List.filter_append, List.length_append, List.filter_cons, if_neg (by rw [hp]; decide)]
 rfl
theorem xB {p : α → Bool} {l : List α} {k : Nat} {x : α} (h : l[k]? = some x) (hp : p x = true) : (l.filter p)[cZ p l k]? = some x := by
 obtain ⟨r, e⟩ := na h
 have : l.filter p = (l.take k).filter p ++ x :: r.filter p := by
  conv => lhs; rw [e]
  rw [List.filter_append, List.filter_cons, if_pos hp]
 rw [this]
 unfold cZ
 rw [List.getElem?_append_right (Nat.le_refl _), Nat.sub_self]
 rfl
theorem qo {p : α → Bool} {l : List α} {k : Nat} (h : l.length ≤ k) : cZ p l k = (l.filter p).length := by
 unfold cZ; rw [List.take_of_length_le h]
def fmN (G : α → List β) (l : List α) (k : Nat) : Nat := ((l.take k).flatMap G).length
theorem fmN_0 {G : α → List β} {l : List α} : fmN G l 0 = 0 := by unfold fmN; simp
theorem yW {G : α → List β} {l : List α} {k : Nat} {x : α} (h : l[k]? = some x) : fmN G l (k + 1) = fmN G l k + (G x).length := by
 unfold fmN
 rw [gV h, List.flatMap_append, List.length_append]
 simp
theorem Bh {G : α → List β} {l : List α} {k j : Nat} {x : α} {y : β} (h : l[k]? = some x) (hy : (G x)[j]? = some y) : (l.flatMap G)[fmN G l k + j]? = some y := by
 obtain ⟨r, e⟩ := na h
 have : l.flatMap G = (l.take k).flatMap G ++ (G x ++ r.flatMap G) := by
  conv => lhs; rw [e]
  rw [List.flatMap_append, List.flatMap_cons]
 rw [this]
 unfold fmN
 rw [List.getElem?_append_right (Nat.le_add_right _ _), Nat.add_sub_cancel_left, List.getElem?_append_left (List.getElem?_eq_some_iff.1 hy).1, hy]
theorem Bi {G : α → List β} {l : List α} : fmN G l l.length = (l.flatMap G).length := by
 unfold fmN; rw [List.take_length]
end
def atV (m n : Int) : Int := if m = -4 then 2 - n % 4 else if m = 8 then kr 2 n else if m = -8 then kr (-2) n else kr n m
theorem Gj {m n : Int} (h : m = -4) : 2 - n % 4 = atV m n := by unfold atV; rw [if_pos h]
theorem Gi {m n : Int} (h : m = 8) : kr 2 n = atV m n := by unfold atV; rw [if_neg (by omega), if_pos h]
theorem Gh {m n : Int} (h : m = -8) : kr (-2) n = atV m n := by unfold atV; rw [if_neg (by omega), if_neg (by omega), if_pos h]
theorem Gg {m n : Int} (h1 : ¬ m = -4) (h2 : ¬ m = 8) (h3 : ¬ m = -8) : kr n m = atV m n := by unfold atV; rw [if_neg h1, if_neg h2, if_neg h3]
theorem Ek {m n : Int} (hn : 0 < n) (ho : n % 2 = 1) : atV m n = cv m n := by
 have h2 : kr 2 n = sg8 n := by
  have hcp := jt (n := n) ho
  rw [fZ hn ho, if_pos hcp, qM hn ho]
 have hs : sg8 n * sg8 n = 1 := mL ho
 have hm1 : kr (-1) n = if n % 4 = 1 then 1 else -1 := by
  have := oL hn ho (c := -4) (.inl rfl)
  have h4 : kr (-4) n = kr (-1) n * (kr 2 n * kr 2 n) := by rw [← cA hn ho, ← cA hn ho]; rfl
  rw [h2, hs, Int.mul_one] at h4
  rw [← h4, this, gu (.inl rfl)]
  have : n % 8 = 1 ∨ n % 8 = 3 ∨ n % 8 = 5 ∨ n % 8 = 7 := by omega
  rcases this with e | e | e | e
  ·rw [e, if_pos (by omega)]; decide
  ·rw [e, if_neg (by omega)]; decide
  ·rw [e, if_pos (by omega)]; decide
  rw [e, if_neg (by omega)]; decide
 unfold atV
 split
 ·next h =>
  subst h
  have h4 : kr (-4) n = kr (-1) n * (kr 2 n * kr 2 n) := by rw [← cA hn ho, ← cA hn ho]; rfl
  rw [h2, hs, Int.mul_one, oL hn ho (.inl rfl), hm1] at h4
  rw [h4]; split <;> omega
 split
 ·next h =>
  subst h
  have h8 : kr 8 n = kr 2 n * (kr 2 n * kr 2 n) := by rw [← cA hn ho, ← cA hn ho]; rfl
  rw [oL hn ho (.inr (.inl rfl)), h2, hs, Int.mul_one] at h8
  rw [h8, h2]
 split
 ·next h =>
  subst h
  have h8 : kr (-8) n = kr (-1) n * (kr 2 n * (kr 2 n * kr 2 n)) := by rw [← cA hn ho, ← cA hn ho, ← cA hn ho]; rfl
  have hm2 : kr (-2) n = kr (-1) n * kr 2 n := by rw [← cA hn ho]; rfl
  rw [oL hn ho (.inr (.inr rfl)), h2, hs, Int.mul_one] at h8
  rw [h8, hm2, h2]
 next h1 h2 h3 =>
 unfold cv
 rw [if_neg (by omega)]
abbrev enP (p : Pr2) : List DV := [zn p.1, zm p.1, zn p.2, zm p.2]
end
section
open Go Go.RowKit
def PtI (p n m q : Nat) : Prop := 0 < m ∧ 0 < q ∧ m * q ≤ n ∧ ∃ f, m ≤ f ∧ dX p f m q = ptN p n
theorem PtI.start {p n : Nat} (hn : 0 < n) : PtI p n n 1 := ⟨hn, by decide, by omega, n, Nat.le_refl _, rfl⟩
theorem PtI.next {p n m q : Nat} (hp : 2 ≤ p) (h : PtI p n m q) (hm : m % p = 0) : PtI p n (m / p) (q * p) ∧ m / p < m ∧ q * p ≤ n := by
 obtain ⟨h1, h2, h3, f, h4, h5⟩ := h
 have hd : p ∣ m := Nat.dvd_of_mod_eq_zero hm
 have hpm : p ≤ m := Nat.le_of_dvd h1 hd
 have k1 : 0 < m / p := Nat.div_pos hpm (by omega)
 have k2 : m / p < m := Nat.div_lt_self h1 (by omega)
 have k3 := Nat.div_mul_cancel hd
 have e : m / p * (q * p) = m * q := by
  calc m / p * (q * p) = m / p * p * q := by rw [Nat.mul_comm q p, Nat.mul_assoc]
   _ = m * q := by rw [k3]
 have hq : q * p ≤ n := by
  have : 1 * (q * p) ≤ m / p * (q * p) := Nat.mul_le_mul_right _ k1
  omega
 refine ⟨⟨k1, Nat.mul_pos h2 (by omega), by omega, ?_⟩, k2, hq⟩
 cases f with
 | zero => omega
 | succ f =>
  refine ⟨f, by omega, ?_⟩
  rw [← h5]
  conv => rhs; unfold dX
  rw [if_pos hm]
theorem PtI.done {p n m q : Nat} (h : PtI p n m q) (hm : ¬ m % p = 0) : m = (ptN p n).1 ∧ q = (ptN p n).2 := by
 obtain ⟨h1, h2, h3, f, h4, h5⟩ := h
 cases f with
 | zero => omega
 | succ f =>
  rw [← h5]
  unfold dX
  rw [if_neg hm]
  exact ⟨rfl, rfl⟩
theorem PtI.b {p n m q : Nat} (h : PtI p n m q) : 0 < m ∧ m ≤ n ∧ 0 < q ∧ q ≤ n := by
 obtain ⟨h1, h2, h3, _⟩ := h
 have a1 : m * 1 ≤ m * q := Nat.mul_le_mul_left _ h2
 have a2 : 1 * q ≤ m * q := Nat.mul_le_mul_right _ h1
 omega
structure PaI (n0 m p d : Nat) : Prop where
 two : 2 ≤ p
 pos : 0 < m
 le : m ≤ n0
 nd : Nd m p
 ex : ∃ done f, parts n0 = done ++ ppL f m p ∧ done.length = d ∧ m + 2 ≤ f + p
theorem PaI.start {n : Nat} (hn : 0 < n) : PaI n n 2 0 := ⟨Nat.le_refl _, hn, Nat.le_refl _, fun e h1 h2 => by omega, [], n, rfl, rfl, Nat.le_refl _⟩
theorem PaI.ple {n0 m p d : Nat} (h : PaI n0 m p d) (hm : 1 < m) : p ≤ m := by
 rcases Nat.lt_or_ge m p with x | x
 ·exact absurd (Nat.dvd_refl m) (h.nd m hm x)
 exact x
theorem yK {f m p : Nat} (h : 1 < m) : ppL (f + 1) m p = (if 1 < (ptN p m).2 then [(ptN p m).2] else []) ++ ppL f (ptN p m).1 (p + 1) := by
 conv => lhs; unfold ppL
 rw [if_neg (by omega)]
theorem Fu {f m p : Nat} (h : ¬ 1 < m) : ppL f m p = [] := by
 cases f with
 | zero => rfl
 | succ f => unfold ppL; rw [if_pos (by omega)]
theorem PaI.pt1 {n0 m p d : Nat} (h : PaI n0 m p d) : 0 < (ptN p m).1 ∧ (ptN p m).1 ≤ m := by
 obtain ⟨h1, h2, h3, k, h4⟩ := mm h.two h.pos
 exact ⟨h1, Nat.le_of_dvd h.pos ⟨_, h2.symm⟩⟩
theorem PaI.yes {n0 m p d : Nat} (h : PaI n0 m p d) (hm : 1 < m) (hq : 1 < (ptN p m).2) : (parts n0)[d]? = some (ptN p m).2 ∧ PaI n0 (ptN p m).1 (p + 1) (d + 1) := by
 have hp := h.ple hm
 obtain ⟨k1, k2⟩ := h.pt1
 obtain ⟨done, f, h1, h2, h3⟩ := h.ex
 cases f with
 | zero => omega
 | succ f =>
  rw [yK hm, if_pos hq] at h1
  refine ⟨?_, ⟨by have := h.two; omega, k1, by have := h.le; omega, (oE h.two h.pos h.nd).2, done ++ [(ptN p m).2], f, ?_, by rw [List.length_append, h2]; rfl, by omega⟩⟩
  ·rw [h1, List.getElem?_append_right (by omega), h2, Nat.sub_self]; rfl
  rw [h1]; simp
theorem PaI.no {n0 m p d : Nat} (h : PaI n0 m p d) (hm : 1 < m) (hq : ¬ 1 < (ptN p m).2) : PaI n0 (ptN p m).1 (p + 1) d := by
 have hp := h.ple hm
 obtain ⟨k1, k2⟩ := h.pt1
 obtain ⟨done, f, h1, h2, h3⟩ := h.ex
 cases f with
 | zero => omega
 | succ f =>
  rw [yK hm, if_neg hq] at h1
  exact ⟨by have := h.two; omega, k1, by have := h.le; omega, (oE h.two h.pos h.nd).2, done, f, by rw [h1]; simp, h2, by omega⟩
theorem PaI.done {n0 m p d : Nat} (h : PaI n0 m p d) (hm : ¬ 1 < m) : (parts n0).length = d := by
 obtain ⟨done, f, h1, h2, h3⟩ := h.ex
 rw [h1, Fu hm, List.append_nil, h2]
theorem Aw {n q : Nat} (hn : 0 < n) (h : q ∈ parts n) : 2 ≤ q ∧ q ≤ n := by
 obtain ⟨p, h1, h2, rfl⟩ := (uz hn).1 h
 obtain ⟨k1, k2, k3, k, k4⟩ := mm h1.1 hn
 have hd : (ptN p n).2 ∣ n := ⟨_, by rw [Nat.mul_comm]; exact k2.symm⟩
 refine ⟨?_, Nat.le_of_dvd hn hd⟩
 cases k with
 | zero =>
  rw [Nat.pow_zero] at k4
  rw [k4, Nat.mul_one] at k2
  rw [k2] at k3
  exact absurd (Nat.mod_eq_zero_of_dvd h2) k3
 | succ k =>
  rw [k4, Nat.pow_succ]
  have := h1.1
  have : 1 * p ≤ p ^ k * p := Nat.mul_le_mul_right _ (Nat.pow_pos (by omega))
  omega
end
section
open Go Go.RowKit
def bk : Option Pr2 → Int
 | none => 0
 | some _ => 1
def bx (b : Option Pr2) : Int := (b.getD (0, 0)).1
def by_ (b : Option Pr2) : Int := (b.getD (0, 0)).2
theorem Hc {b : Option Pr2} (h : bk b = 0) : b = none := by
 cases b
 ·rfl
 cases h
theorem xO {b : Option Pr2} (h : ¬ bk b = 0) : b = some (bx b, by_ b) := by
 cases b
 ·exact absurd rfl h
 rfl
theorem o8 {b : Option Pr2} {p : Pr2} (h : p.2 < 0 ∨ (p.2 = 0 ∧ p.1 < 0)) : dY b p = b := by
 unfold dY okP
 rw [if_neg (by simp only [decide_eq_true_eq]; omega)]
theorem ug {p : Pr2} (h : ¬ p.2 < 0) (h2 : ¬ (p.2 = 0 ∧ p.1 < 0)) : okP p = true := by
 unfold okP; rw [decide_eq_true_eq]; omega
theorem yF {b : Option Pr2} {p : Pr2} (ho : okP p = true) (h : bk b = 0) : dY b p = some p := by
 rw [Hc h]; unfold dY; rw [if_pos ho]
theorem oA {b : Option Pr2} {p : Pr2} (ho : okP p = true) (h : ¬ bk b = 0) (hy : p.2 < by_ b ∨ (p.2 = by_ b ∧ p.1 < bx b)) : dY b p = some p := by
 rw [xO h]; unfold dY; rw [if_pos ho]
 show (if btr p (bx b, by_ b) = true then some p else _) = some p
 rw [if_pos]
 unfold btr; rw [decide_eq_true_eq]; exact hy
theorem oB {b : Option Pr2} {p : Pr2} (ho : okP p = true) (h : ¬ bk b = 0) (hy : ¬ (p.2 < by_ b ∨ (p.2 = by_ b ∧ p.1 < bx b))) : dY b p = b := by
 rw [xO h]; unfold dY; rw [if_pos ho]
 show (if btr p (bx b, by_ b) = true then some p else some (bx b, by_ b)) = _
 rw [if_neg]
 unfold btr; rw [decide_eq_true_eq]; exact hy
def c8 (l : List Pr2) (k : Nat) : Option Pr2 := (l.take k).foldl dY none
theorem BC (l : List Pr2) : c8 l 0 = none := by unfold c8; simp
theorem dK {l : List Pr2} {k : Nat} {p : Pr2} (h : l[k]? = some p) : c8 l (k + 1) = dY (c8 l k) p := by
 unfold c8; rw [gV h, List.foldl_append]; rfl
theorem vx {l : List Pr2} {k : Nat} (h : l.length ≤ k) : c8 l k = c7 l := by
 unfold c8; rw [List.take_of_length_le h]; rfl
end
section
open Go Go.RowKit
def anS (a : Ans) : List DV := [.v (.int .i64 a.kind), zn a.x, zm a.x, zn a.y, zm a.y, zn a.m, zm a.m, SL enI a.roots, FS a.forms]
end
section
open Go Go.RowKit
end
section
open Go Go.RowKit
abbrev enU (p : Int × Int) : List DV := [.v (.int .i64 p.1), .v (.int .i64 p.2)]
theorem Bk (p : Int × Int) : (enU p).length = 2 := rfl
abbrev PA (p : Pr2) : PV := .a (enP p)
def prQ (D n : Int) (f : Fm) (b : Int) : List Pr2 := if smf f (frq D n b) = true then (unL D).map (col f D n b) else []
def G9 (M : Mt) (n b : Int) (p : Int × Int) : Pr2 := (M.a * ((p.1 - b * p.2) / 2) + M.b * (n * p.2), M.c * ((p.1 - b * p.2) / 2) + M.d * (n * p.2))
theorem EH {D : Int} {p : Int × Int} (h : p ∈ unL D) : (-2 ≤ p.1 ∧ p.1 ≤ 2) ∧ (-1 ≤ p.2 ∧ p.2 ≤ 1) := by
 unfold unL at h
 split at h
 ·simp only [List.mem_cons, List.not_mem_nil, or_false] at h
  rcases h with rfl | rfl | rfl | rfl | rfl | rfl <;> decide
 split at h
 ·simp only [List.mem_cons, List.not_mem_nil, or_false] at h
  rcases h with rfl | rfl | rfl | rfl <;> decide
 simp only [List.mem_cons, List.not_mem_nil, or_false] at h
 rcases h with rfl | rfl <;> decide
theorem BR (D : Int) : (unL D).length ≤ 6 := by
 unfold unL
 split
 ·exact Nat.le_refl _
 split <;> exact bL0 rfl
theorem iU {α : Type} {l : List α} {d : α} {k : Nat} (h : k < l.length) : l.getD k d ∈ l := by
 rw [List.getD_eq_getElem?_getD, List.getElem?_eq_getElem h]; exact List.getElem_mem h
theorem Gx {D : Int} (h : D = -3) : [((2 : Int), (0 : Int)), (-2, 0), (1, 1), (1, -1), (-1, 1), (-1, -1)] = unL D := by unfold unL; rw [if_pos h]
theorem Gw {D : Int} (h : ¬ D = -3) (h2 : D = -4) : [((2 : Int), (0 : Int)), (-2, 0), (0, 1), (0, -1)] = unL D := by unfold unL; rw [if_neg h, if_pos h2]
theorem Gy {D : Int} (h : ¬ D = -3) (h2 : ¬ D = -4) : [((2 : Int), (0 : Int)), (-2, 0)] = unL D := by unfold unL; rw [if_neg h, if_neg h2]
section
variable {D : Int} {m i j : Nat} {f : Fm} {b : Int}
theorem Db (hb : (rbL D m)[i]? = some b) (hs : smf f (frq D m b) = true) (hj : j < (unL D).length) :
  ((prL D m f).map fun p => ([PA p] : List PV))[fmN (prQ D m f) (rbL D m) i + j]? = some [PA (G9 (smm f (frq D m b)) m b ((unL D).getD j (0, 0)))] := by
 have h1 : (prQ D m f b)[j]? = some (col f D m b ((unL D).getD j (0, 0))) := by
  unfold prQ
  rw [if_pos hs, List.getElem?_map, List.getD_eq_getElem?_getD, List.getElem?_eq_getElem hj]
  rfl
 have h2 := Bh hb h1
 rw [List.getElem?_map]
 rw [show prL D m f = (rbL D m).flatMap (prQ D m f) from rfl, h2]
 rfl
theorem GI (hb : (rbL D m)[i]? = some b) (hs : smf f (frq D m b) = true) : fmN (prQ D m f) (rbL D m) (i + 1) = fmN (prQ D m f) (rbL D m) i + (unL D).length := by
 rw [yW hb]; unfold prQ; rw [if_pos hs, List.length_map]
theorem GJ (hb : (rbL D m)[i]? = some b) (hs : smf f (frq D m b) = false) : fmN (prQ D m f) (rbL D m) (i + 1) = fmN (prQ D m f) (rbL D m) i := by
 rw [yW hb]; unfold prQ; rw [if_neg (by rw [hs]; decide)]; rfl
theorem Dc : ((prL D m f).map fun p => ([PA p] : List PV)).length ≤ fmN (prQ D m f) (rbL D m) ((rbL D m).map fun b => ([PI b, PF (frq D m b)] : List PV)).length := by
 rw [List.length_map, List.length_map, Bi]
 exact Nat.le_refl _
theorem Da : ∀ x ∈ (prL D m f).map (fun p => ([PA p] : List PV)), x.length = 1 := by
 intro x hx
 obtain ⟨p, _, rfl⟩ := List.mem_map.1 hx
 rfl
theorem Fk {x : List PV} {k : Nat} (h : ((prL D m f).map fun p => ([PA p] : List PV))[k]? = some x) : ∃ p, (prL D m f)[k]? = some p ∧ x = [PA p] := by
 rw [List.getElem?_map] at h
 obtain ⟨p, h1, rfl⟩ := Option.map_eq_some_iff.1 h
 exact ⟨p, h1, rfl⟩
end
def agZ (D : Int) (f : Fm) : List (Int × Int) := (chs D).zip (gvL f)
def agP (n : Int) (p : Int × Int) : Bool := decide (cv p.1 n ≠ p.2)
theorem y3 {D n : Int} {f : Fm} (h : Int.gcd (2 * D) n = 1) : agL D n f = ((agZ D f).filter (agP n)).map Prod.fst := by unfold agL; rw [if_pos h]; rfl
theorem Gn {D n : Int} {f : Fm} (h : ¬ Int.gcd (2 * D) n = 1) : agL D n f = [] := by unfold agL; rw [if_neg h]
section
variable {D n : Int} {f : Fm} {k : Nat}
theorem nB (hl : (gvL f).length = (chs D).length) (hk : k < (chs D).length) : (agZ D f)[k]? = some ((chs D).getD k 0, (gvL f).getD k 0) := by
 unfold agZ
 rw [List.getElem?_eq_getElem (by rw [List.length_zip]; omega), List.getElem_zip, List.getD_eq_getElem?_getD, List.getElem?_eq_getElem hk, List.getD_eq_getElem?_getD, List.getElem?_eq_getElem (by omega)]
 rfl
theorem Eo (h : Int.gcd (2 * D) n = 1) (hl : (gvL f).length = (chs D).length) (hk : k < (chs D).length) (hne : ¬ cv ((chs D).getD k 0) n = (gvL f).getD k 0) :
  ((agL D n f).map fun c => ([PE c] : List PV))[cZ (agP n) (agZ D f) k]? = some [PE ((chs D).getD k 0)] := by
 rw [y3 h, List.getElem?_map, List.getElem?_map, xB (nB hl hk) (by unfold agP; rw [decide_eq_true_eq]; exact hne)]
 rfl
theorem Hd (hl : (gvL f).length = (chs D).length) (hk : k < (chs D).length) (hne : ¬ cv ((chs D).getD k 0) n = (gvL f).getD k 0) : cZ (agP n) (agZ D f) (k + 1) = cZ (agP n) (agZ D f) k + 1 :=
 lU (nB hl hk) (by unfold agP; rw [decide_eq_true_eq]; exact hne)
theorem He (hl : (gvL f).length = (chs D).length) (hk : k < (chs D).length) (hne : cv ((chs D).getD k 0) n = (gvL f).getD k 0) : cZ (agP n) (agZ D f) (k + 1) = cZ (agP n) (agZ D f) k :=
 nj (nB hl hk) (by unfold agP; rw [decide_eq_false_iff_not]; exact fun x => x hne)
theorem Ep (h : Int.gcd (2 * D) n = 1) (hl : (gvL f).length = (chs D).length) (hk : (chs D).length ≤ k) : ((agL D n f).map fun c => ([PE c] : List PV)).length ≤ cZ (agP n) (agZ D f) k := by
 rw [y3 h, List.length_map, List.length_map, qo (by unfold agZ; rw [List.length_zip]; omega)]
 exact Nat.le_refl _
theorem BH (h : ¬ Int.gcd (2 * D) n = 1) (j : Nat) : ((agL D n f).map fun c => ([PE c] : List PV)).length ≤ j := by
 rw [Gn h]; exact Nat.zero_le _
theorem En : ∀ x ∈ (agL D n f).map (fun c => ([PE c] : List PV)), x.length = 1 := by
 intro x hx
 obtain ⟨p, _, rfl⟩ := List.mem_map.1 hx
 rfl
theorem Gm {x : List PV} (h : ((agL D n f).map fun c => ([PE c] : List PV))[k]? = some x) : ∃ c, (agL D n f)[k]? = some c ∧ x = [PE c] := by
 rw [List.getElem?_map] at h
 obtain ⟨p, h1, rfl⟩ := Option.map_eq_some_iff.1 h
 exact ⟨p, h1, rfl⟩
end
end
section
open Go Go.RowKit
def alE (f : Fm) (n : Int) : Int := if rfE f = 0 then rgE n else rfE f
theorem Gl {f : Fm} {n : Int} (h : ¬ rfE f = 0) : rfE f = alE f n := by unfold alE; rw [if_neg h]
theorem y0 {f : Fm} {n : Int} (h : rfE f = 0) : rgE n = alE f n := by unfold alE; rw [if_pos h]
theorem Gk {D : Int} {f : Fm} {m : Nat} (h : Cl D f) (hm : 1 ≤ m ∧ m ≤ 65536) : alE f m = 0 := by
 rw [← y0 (vp h)]
 exact sW (by omega) (by omega)
theorem Ft {D : Int} (hD : D < 0) (h4 : D % 4 = 0 ∨ D % 4 = 1) : prE D = 0 := by
 unfold prE
 rw [if_neg]
 rintro (k | k)
 ·omega
 rw [p7 hD] at k; cases k
theorem GN {a b : Nat} (h : a * b ≤ 1000000000) : (.i64 : IntKind).wrap ((a : Int) * (b : Int)) = ((a * b : Nat) : Int) := by
 rw [← Int.natCast_mul]
 generalize a * b = q at *
 exact iW0 _ (by omega)
theorem xz {D n : Int} (h : Int.gcd (2 * D) n = 1) : n % 2 = 1 := by
 rcases Int.emod_two_eq n with e | e
 ·exfalso
  have h1 : (2 : Int) ∣ (Int.gcd (2 * D) n : Nat) := Int.dvd_coe_gcd ⟨D, rfl⟩ (Int.dvd_of_emod_eq_zero e)
  rw [h] at h1
  omega
 exact e
end
section
open Go Go.RowKit
section
variable {F : Fence} {n : Nat} {P : Program}
theorem BQ {o : Oper} {a : Act} {w : World} {K : Act → World → Prop} {QA Q : Exit → Act → World → Prop} (hq : ∀ e a w, QA e a w → e = .normal) (h : o.wpIn F n P a w K QA) : o.wpIn F n P a w K Q := by
  unfold Oper.wpIn at *
  refine ⟨h.1, ?_⟩
  have hh := h.2
  have no : ∀ {X : Prop} {e : Exit} {a : Act} {w : World}, e ≠ .normal → QA e a w → X := fun hne h => absurd (hq _ _ _ h) hne
  generalize (o.semAt F.round a.eval).run P w = r at *
  cases r with
  | ok x w' =>
    cases x <;> simp only [Oper.uponIn] at hh ⊢ <;>
      first
        | exact hh
        | exact ⟨hh.1, CallsIn.mono hh.2 (fun e w'' he => by cases e <;> first | exact he | exact no (by simp) he | (obtain ⟨a1, w1, h1⟩ := he; exact no (by simp) h1))⟩
        | exact ⟨hh.1, RoundIn.mono hh.2 (fun e w'' he => by cases e <;> first | exact he | exact no (by simp) he | (obtain ⟨a1, w1, h1⟩ := he; exact no (by simp) h1))⟩
  | halt x w' => cases x <;> simp only [Oper.uponIn] at hh ⊢ <;> first | exact hh | exact no (by simp) hh
theorem vG {ops ops' : Array Oper} {i : Nat} {a : Act} {w : World} {K K' : Act → World → Prop} {QA Q : Exit → Act → World → Prop} (hq : ∀ e a w, QA e a w → e = .normal) (h1 : ops'[i]? = ops[i]?)
    (h2 : ∀ o j want, ops[i]? = some o → o.guard = some (j, want) → ops'[j]? = ops[j]?) (hK : ∀ a w, K a w → K' a w) (h : wpOpIn F n P ops' QA i K a w) : wpOpIn F n P ops Q i K' a w := by
  refine wpOpIn_mono hK ?_
  unfold wpOpIn at *
  rw [h1] at h
  cases ho : ops[i]? with
  | none => rw [ho] at h; exact h
  | some o =>
    rw [ho] at h
    simp only at h ⊢
    have e : Region.wanted o (yielded ops' a.tmps) = Region.wanted o (yielded ops a.tmps) := by
      unfold Region.wanted
      cases hg : o.guard with
      | none => rfl
      | some x =>
        obtain ⟨j, want⟩ := x
        simp only
        have : yielded ops' a.tmps j = yielded ops a.tmps j := by
          unfold yielded; rw [h2 o j want ho hg]
        rw [this]
    rw [e] at h
    split at h
    · next hw => rw [if_pos hw]; exact BQ hq h
    next hw => rw [if_neg hw]; exact h
def xK (ops : List Oper) (y : Nat) : Bool :=
  Nat.blt y ops.length && (ops.zipIdx.all fun (o, i) => (o.after.toList.all fun e => !Region.binds .any e || Nat.blt e.on i) && (match o.guard with | some (j, _) => Nat.blt j i | none => true)) &&
  (let bs := qI ops
   (List.range ops.length).all fun i => Nat.blt i y || (List.range i).all fun j => (bs.getD i 0).testBit j)
structure OkY (ops : Array Oper) (y : Nat) : Prop where
  lt : y < ops.size
  edge : ∀ k o, ops[k]? = some o → ∀ e ∈ o.after.toList, Region.binds .any e = true → e.on < k
  guard : ∀ (k : Nat) (o : Oper) (j : Nat) (b : Bool), ops[k]? = some o → o.guard = some (j, b) → j < k
  bef : ∀ i j, y ≤ i → i < ops.size → j < i → ((qI ops.toList).getD i 0).testBit j = true
theorem Bw {ops : Array Oper} {y : Nat} (h : xK ops.toList y = true) : OkY ops y := by
  unfold xK at h
  simp only [Bool.and_eq_true] at h
  obtain ⟨⟨h1, h2⟩, h3⟩ := h
  have get : ∀ (k : Nat) (o : Oper), ops[k]? = some o → (o, k) ∈ ops.toList.zipIdx := fun k o ho => by
    rw [List.mem_zipIdx_iff_getElem?, Array.getElem?_toList]; exact ho
  refine ⟨by simpa using h1, fun k o ho e he hb => ?_, fun k o j b ho hg => ?_, fun i j hy hi hj => ?_⟩
  · have := List.all_eq_true.1 h2 _ (get k o ho)
    simp only [Bool.and_eq_true] at this
    have := List.all_eq_true.1 this.1 e he
    simpa [hb] using this
  · have := List.all_eq_true.1 h2 _ (get k o ho)
    simp only [Bool.and_eq_true, hg] at this
    simpa using this.2
  have := List.all_eq_true.1 h3 i (by simpa using hi)
  rw [Bool.or_eq_true] at this
  rcases this with k | k
  · simp at k; omega
  exact List.all_eq_true.1 k j (by simpa using hj)
def jw (ops : Array Oper) (l : Array Bool) : Prop := ∀ (k : Nat) (o : Oper), ops.toList[k]? = some o → l.getD k false = true → ∀ e ∈ o.after.toList, Region.binds .any e = true → l.getD e.on false = true
theorem mF {l : Array Bool} {i : Nat} (hi : i < l.size) : l.getD i true = false ↔ l.getD i false = false := by
  simp only [Array.getD_eq_getD_getElem?]
  rw [Array.getElem?_eq_getElem hi]
  simp
theorem jU {ops : Array Oper} {l : Array Bool} {i : Nat} (hs : l.size = ops.size) (hc : jw ops l) (hr : i ∈ Region.ready .any ops l) : jw ops (l.setIfInBounds i true) := by
  rw [dz] at hr
  obtain ⟨h1, h2, o, h3, h4⟩ := hr
  intro k o' hk hS e he hb
  rw [cw _ _ _ (by omega)] at hS ⊢
  simp only [Bool.or_eq_true, beq_iff_eq] at hS ⊢
  rcases hS with hS | hS
  · exact .inl (hc k o' hk hS e he hb)
  subst hS
  rw [Array.getElem?_toList, h3] at hk; cases hk
  exact .inl (h4 e he hb)
theorem nO {ops : Array Oper} {y : Nat} (ok : OkY ops y) {l : Array Bool} {i : Nat} (hs : l.size = ops.size) (hc : jw ops l) (hr : i ∈ Region.ready .any ops l) (hi : y ≤ i) : ∀ j, j < i → l.getD j false = true := fun j hj => by
  have hr' := hr
  rw [dz] at hr
  have hi2 := hr.1
  have := kH (fun k => (l.setIfInBounds i true).getD k false) ops.toList (jU hs hc hr') i j (ok.bef i j hi hi2 hj) (by show (l.setIfInBounds i true).getD i false = true; rw [cw _ _ _ (by omega)]; simp)
  rw [cw _ _ _ (by omega)] at this
  have hne : (j == i) = false := by simp; omega
  simpa [hne] using this
theorem ma {ops : Array Oper} {y : Nat} (ok : OkY ops y) {l : Array Bool} (hs : l.size = ops.size) : ∀ i, i < ops.size → l.getD i false = false → ∃ j, j ≤ i ∧ j ∈ Region.ready .any ops l := by
  intro i
  induction i using Nat.strongRecOn with
  | _ i ih =>
    intro hi hl
    by_cases h : ∃ j, j < i ∧ l.getD j false = false
    · obtain ⟨j, hj, hlj⟩ := h
      obtain ⟨j', h1, h2⟩ := ih j hj (by omega) hlj
      exact ⟨j', by omega, h2⟩
    refine ⟨i, Nat.le_refl _, ?_⟩
    rw [dz]
    refine ⟨hi, (mF (by omega)).2 hl, ops[i], Array.getElem?_eq_getElem hi, fun e he hb => ?_⟩
    have := ok.edge i ops[i] (Array.getElem?_eq_getElem hi) e he hb
    cases hx : l.getD e.on false with
    | true => rfl
    | false => exact absurd ⟨_, this, hx⟩ h
variable {Q : Exit → Act → World → Prop}
theorem qJ {ops : Array Oper} {y : Nat} (ok : OkY ops y) : ∀ (m : Nat) (l : Array Bool), l.size = ops.size → jw ops l → y + m ≤ ops.size → (∀ j, j < ops.size → (l.getD j false = true ↔ j < ops.size - m)) →
    ∀ a w, wpOpsIn F n P ops Q (List.range' (ops.size - m) m) a w → wpAnyIn F n P .any ops Q m l a w
  | 0, l, hs, hc, hy, hl, a, w, h => by
    refine ⟨?_, h⟩
    cases hr : Region.ready .any ops l with
    | nil => rfl
    | cons i rest =>
      have : i ∈ Region.ready .any ops l := by rw [hr]; simp
      rw [dz] at this
      have h2 := (mF (by omega)).1 this.2.1
      rw [(hl i this.1).2 (by omega)] at h2; cases h2
  | m + 1, l, hs, hc, hy, hl, a, w, h => by
    have hun : l.getD (ops.size - (m + 1)) false = false := by
      cases hx : l.getD (ops.size - (m + 1)) false with
      | false => rfl
      | true => have := (hl _ (by omega)).1 hx; omega
    refine ⟨fun hr => ?_, fun i hi => ?_⟩
    · obtain ⟨j, _, hj⟩ := ma ok hs _ (by omega) hun
      rw [hr] at hj; simp at hj
    have hi' := hi
    rw [dz] at hi'
    have h2 := (mF (by omega)).1 hi'.2.1
    have hge : ops.size - (m + 1) ≤ i := by
      rcases Nat.lt_or_ge i (ops.size - (m + 1)) with x | x
      · rw [(hl i hi'.1).2 x] at h2; cases h2
      exact x
    have hall := nO ok hs hc hi (by omega)
    have he : i = ops.size - (m + 1) := by
      rcases Nat.lt_or_ge (ops.size - (m + 1)) i with x | x
      · have := hall _ x; rw [hun] at this; cases this
      omega
    subst he
    rw [List.range'_succ, wpOpsIn_cons] at h
    refine wpOpIn_mono (fun a' w' hk => ?_) h
    refine qJ ok m _ (by simp [hs]) (jU hs hc hi) (by omega) (fun j hj => ?_) a' w' (by rw [show ops.size - m = ops.size - (m + 1) + 1 by omega]; exact hk)
    rw [cw _ _ _ (by omega), Bool.or_eq_true, hl j hj, beq_iff_eq]
    omega
theorem BG {ops : Array Oper} {y : Nat} (ok : OkY ops y) : ∀ (m : Nat) (l l' : Array Bool), l.size = ops.size → l'.size = y → (∀ j, j < y → l'.getD j false = l.getD j false) → jw ops l → (∀ j, y ≤ j → l.getD j false = false) → left l' y = m →
    ∀ a w, wpAnyIn F n P .any (ops.toList.take y).toArray (fun e a w => e = .normal ∧ wpOpsIn F n P ops Q (List.range' y (ops.size - y)) a w) m l' a w → wpAnyIn F n P .any ops Q (m + (ops.size - y)) l a w := by
  have ylt := ok.lt
  have hsz : (ops.toList.take y).toArray.size = y := by simp; omega
  have hget : ∀ j, j < y → (ops.toList.take y).toArray[j]? = ops[j]? := fun j hj => by
    rw [List.getElem?_toArray, List.getElem?_take, if_pos hj, Array.getElem?_toList]
  intro m
  induction m with
  | zero =>
    intro l l' hs hs' hll hc hbe hm a w h
    have all : ∀ j, j < y → l.getD j false = true := fun j hj => by
      rw [← hll j hj]
      cases hb : l'.getD j false with
      | true => rfl
      | false =>
        have : j ∈ (List.range y).filter fun i => !l'.getD i false := by rw [List.mem_filter]; exact ⟨by simpa using hj, by simpa using hb⟩
        have h0 : (List.range y).filter (fun i => !l'.getD i false) = [] := List.eq_nil_of_length_eq_zero hm
        rw [h0] at this; simp at this
    rw [Nat.zero_add]
    refine qJ ok (ops.size - y) l hs hc (by omega) (fun j hj => ?_) a w (by rw [show ops.size - (ops.size - y) = y by omega]; exact h.2.2)
    rw [show ops.size - (ops.size - y) = y by omega]
    constructor
    · intro hx
      rcases Nat.lt_or_ge j y with q | q
      · exact q
      rw [hbe j q] at hx; cases hx
    exact all j
  | succ m ih =>
    intro l l' hs hs' hll hc hbe hm a w h
    obtain ⟨q, hq, hqf⟩ : ∃ q, q < y ∧ l.getD q false = false := by
      have : 0 < ((List.range y).filter fun i => !l'.getD i false).length := by show 0 < left l' y; omega
      obtain ⟨q, hq⟩ := List.exists_mem_of_length_pos this
      rw [List.mem_filter] at hq
      have h1 : q < y := by simpa using hq.1
      exact ⟨q, h1, by rw [← hll q h1]; simpa using hq.2⟩
    rw [show m + 1 + (ops.size - y) = m + (ops.size - y) + 1 by omega]
    refine ⟨fun hr => ?_, fun i hi => ?_⟩
    · obtain ⟨j, _, hj⟩ := ma ok hs q (by omega) hqf
      rw [hr] at hj; simp at hj
    have hi' := hi
    rw [dz] at hi'
    obtain ⟨i1, i2, o, i3, i4⟩ := hi'
    have hiy : i < y := by
      rcases Nat.lt_or_ge i y with x | x
      · exact x
      have := nO ok hs hc hi x q (by omega)
      rw [hqf] at this; cases this
    have hun := (mF (by omega)).1 i2
    have hri : i ∈ Region.ready .any (ops.toList.take y).toArray l' := by
      rw [dz]
      refine ⟨by omega, (mF (by omega)).2 (by rw [hll i hiy]; exact hun), o, by rw [hget i hiy]; exact i3, fun e he hb => ?_⟩
      have := ok.edge i o i3 e he hb
      rw [hll e.on (by omega)]; exact i4 e he hb
    refine vG (fun e a w k => k.1) (hget i hiy) (fun o' j want ho hg => hget j ?_) (fun a' w' hk => ?_) (h.2 i hri)
    · have := ok.guard i o' j want ho hg; omega
    refine ih (l.setIfInBounds i true) (l'.setIfInBounds i true) (by simp [hs]) (by simp [hs']) (fun j hj => ?_) (jU hs hc hi) (fun j hj => ?_) ?_ a' w' hk
    · rw [cw _ _ _ (by omega), cw _ _ _ (by omega), hll j hj]
    · rw [cw _ _ _ (by omega), hbe j hj]
      simp; omega
    have := pY l' y i hiy (by omega) (by rw [hll i hiy]; exact hun)
    omega
end
section
variable {P : Program} {n0 : Nat} {J : Nat → Hp → (Nat → Prop) → World → Prop} {N np : Nat} {Q : Exit → Nat → St → Prop} {k : Nat} {s : St}
abbrev ko (ops : Array Oper) (y : Nat) : Array Oper := (ops.toList.take y).toArray
theorem q7 (hP : P.follows .mixedOrders = true) {id : Nat} {ops : Array Oper} (y : Nat) (hy : xK ops.toList y = true)
  (h : RK P N np (ko ops y) true (ko ops y).toList (ci (c9 (ko ops y).toList) s) [] fun s' => RY P n0 J N np Q ops (ops.toList.drop y) y k s') : AK P n0 J N np (.region id ops true) Q k s := by
 intro ro S hh r a w G hc
 have ok := Bw hy
 obtain ⟨C, hw, hj, hs, hF, hn, hm, hr0, hfr⟩ := hc.kj
 obtain ⟨sts, ios, h1, h2, h3, h4, h5⟩ := h
 simp only [List.nil_append] at h2 h3
 have hst : Start C.np N (ko ops y) (ko ops y).toList (ci (c9 (ko ops y).toList) s) ios := ⟨hn.symm ▸ h2, h4, fO _ _, iE _ _, fP _ _⟩
 have hc' := gm (c9 (ko ops y).toList) (show Conc C N hh r s a w from ⟨hc.sz, by rw [hc.df]; trivial, hc.rg, hw⟩)
 refine wpIn_region_any hP ?_
 have hyl := ok.lt
 have hsz : (ko ops y).size = y := by simp; omega
 have A := rU (ro := ro) (P := P) (Q := fun e a w => e = .normal ∧ wpOpsIn (Wd ro) 0 P ops (fun e a' w' => ∃ k' s' h' r' G', Q e k' s' ∧ CK n0 J N np S k' G' h' r' s' a' w') (List.range' y (ops.size - y)) a w)
  rfl h1 hst (by simpa using h3) (fun h' r' a' w' c' => ⟨rfl, by
   have hdf : a'.defers = [] := by
    have := c'.df
    cases hd : a'.defers with
    | nil => rfl
    | cons d ds =>
     rw [hd] at this
     have h1 := this.1
     rw [hm] at h1
     cases h1
   have h6 := h5 rfl ro S h' r' a' w' G ⟨c'.sz, hdf, c'.rg, C, c'.wk, hj, hs, hF, hn, hm, hr0, hfr⟩
   rw [List.length_drop] at h6
   simpa using h6⟩) y (Array.replicate y false) (by simp; omega) ?_ ?_ hh r a { w with drawn := w.drawn + 1 } ?_
 ·have := BG ok y (Array.replicate ops.size false) (Array.replicate y false) (by simp) (by simp) (fun j hj => ?_) ?_ (fun j hj => ?_) ?_ a { w with drawn := w.drawn + 1 } A
  ·rw [show y + (ops.size - y) = ops.size by omega] at this
   exact this
  ·simp only [Array.getD_eq_getD_getElem?, Array.getElem?_replicate]
   split <;> split <;> rfl
  ·intro k o hk hS
   simp only [Array.getD_eq_getD_getElem?, Array.getElem?_replicate] at hS
   split at hS <;> cases hS
  ·simp only [Array.getD_eq_getD_getElem?, Array.getElem?_replicate]
   split <;> rfl
  unfold left
  rw [List.filter_eq_self.2]
  ·simp
  intro i hi
  simp only [Array.getD_eq_getD_getElem?, Array.getElem?_replicate]
  split <;> rfl
 ·unfold left
  rw [List.filter_eq_self.2]
  ·simp; omega
  intro i hi
  simp only [Array.getD_eq_getD_getElem?, Array.getElem?_replicate]
  split <;> rfl
 ·intro k o hk hS
  simp only [Array.getD_eq_getD_getElem?, Array.getElem?_replicate] at hS
  split at hS <;> cases hS
 rw [eY (T := fun _ => false) (fun j => by
  simp only [Array.getD_eq_getD_getElem?, Array.getElem?_replicate]
  split <;> rfl), jS]
 exact ⟨hc'.sz, hc'.df, hc'.rg, hc'.wk.drew⟩
end
end
section
open Go Go.RowKit
abbrev bsC (b : Option Pr2) : List DV := anS ⟨bk b, bx b, by_ b, 0, [], []⟩
theorem wU {rest : List (Nat × Blk)} {m : Nat} {b : Blk} (h : bZ rest m = none) : ∀ x, bZ rest x = upd (bZ ((m, b) :: rest)) m none x := by
 intro x
 show _ = upd (upd (bZ rest) m (some b)) m none x
 by_cases e : x = m
 ·subst e; rw [upd_same, h]
 rw [aF _ _ _ _ e, aF _ _ _ _ e]
section
variable {D : Int} {m : Nat} {f : Fm}
theorem G5 (h : bk (c7 (prL D m f)) > 0) : bsC (c7 (prL D m f)) = anS (fnd D m f) := by
 have e := xO (b := c7 (prL D m f)) (by omega)
 rw [lT e]
 have : bk (c7 (prL D m f)) = 1 := by rw [e]; rfl
 unfold bsC
 rw [this]
theorem G7 (h : ¬ bk (c7 (prL D m f)) > 0) : c7 (prL D m f) = none := by
 cases e : c7 (prL D m f) with
 | none => rfl
 | some q => rw [e] at h; exact absurd (show (1 : Int) > 0 by decide) h
def PtR (D : Int) (m k : Nat) : Prop := ∀ q ∈ (parts m).take k, rbL D (q : Int) ≠ []
theorem PtR.start : PtR D m 0 := fun q hq => by simp at hq
theorem PtR.next {k q : Nat} (h : PtR D m k) (hq : (parts m)[k]? = some q) (hr : ¬ rbL D (q : Int) = []) : PtR D m (k + 1) := by
 intro q' hq'
 rw [gV hq, List.mem_append] at hq'
 rcases hq' with x | x
 ·exact h q' x
 simp only [List.mem_cons, List.not_mem_nil, or_false] at x; subst x; exact hr
theorem PtR.hit {k q : Nat} (h : PtR D m k) (hq : (parts m)[k]? = some q) (hr : rbL D (q : Int) = []) : blk D m = some q := by
 unfold blk
 obtain ⟨r, e⟩ := na hq
 rw [e, List.find?_append, List.find?_eq_none.2, Option.none_or, List.find?_cons_of_pos (by rw [hr]; rfl)]
 intro x hx
 have := h x hx
 simpa using this
theorem PtR.done {k : Nat} (h : PtR D m k) (hk : (parts m).length ≤ k) : blk D m = none := by
 unfold blk
 rw [List.find?_eq_none]
 intro x hx
 have := h x (by rw [List.take_of_length_le hk]; exact hx)
 simpa using this
theorem G4 {k q : Nat} (h0 : c7 (prL D m f) = none) (h : PtR D m k) (hq : (parts m)[k]? = some q) (hr : rbL D (q : Int) = []) : anS ⟨2, 0, 0, q, [], []⟩ = anS (fnd D m f) := by
 rw [ni h0 (h.hit hq hr)]
theorem G1 {k : Nat} {c : Int} (h0 : c7 (prL D m f) = none) (h1 : blk D m = none) (hc : (agL D m f)[k]? = some c) (hk : k = 0) : anS ⟨2, 0, 0, c, [], []⟩ = anS (fnd D m f) := by
 subst hk
 cases e : agL D m f with
 | nil => rw [e] at hc; simp at hc
 | cons a l =>
  rw [e] at hc
  simp only [List.getElem?_cons_zero, Option.some.injEq] at hc
  subst hc
  rw [qn h0 h1 e]
theorem G0 (h0 : c7 (prL D m f) = none) (h1 : blk D m = none) (hk : ((agL D m f).map fun c => ([PE c] : List PV)).length = 0) : anS ⟨3, 0, 0, 0, rbL D m, fmL D m⟩ = anS (fnd D m f) := by
 have e : agL D m f = [] := by rw [List.length_map] at hk; exact List.length_eq_zero_iff.1 hk
 rw [nh h0 h1 e]
theorem C5 {n : Nat} : ∀ x ∈ (parts n).map (fun (q : Nat) => ([PE (q : Int)] : List PV)), x.length = 1 := by
 intro x hx
 obtain ⟨p, _, rfl⟩ := List.mem_map.1 hx
 rfl
theorem Fj {x : List PV} {k n : Nat} (h : ((parts n).map fun (q : Nat) => ([PE (q : Int)] : List PV))[k]? = some x) : ∃ q, (parts n)[k]? = some q ∧ x = [PE (q : Int)] := by
 rw [List.getElem?_map] at h
 obtain ⟨p, h1, rfl⟩ := Option.map_eq_some_iff.1 h
 exact ⟨p, h1, rfl⟩
theorem C8 {k n : Nat} (hk : k = ((parts n).map fun (q : Nat) => ([PE (q : Int)] : List PV)).length) : (parts n).length ≤ k := by
 rw [hk, List.length_map]; exact Nat.le_refl _
theorem C7 {k n q : Nat} (hn : 1 ≤ n ∧ n ≤ 65536) (h : (parts n)[k]? = some q) : 1 ≤ q ∧ q ≤ 65536 := by
 have := Aw (by omega) (List.mem_of_getElem? h)
 omega
theorem Hf {k : Nat} {c n : Int} (hD : -4194304 ≤ D ∧ D < 0) (h : (agL D n f)[k]? = some c) : -8 ≤ c ∧ c ≤ 4194304 := by
 have h1 := List.mem_of_getElem? h
 unfold agL at h1
 split at h1
 ·obtain ⟨p, hp, rfl⟩ := List.mem_map.1 h1
  have h2 := (List.of_mem_zip (List.mem_filter.1 hp).1).1
  exact tI hD.2 hD.1 h2
 simp at h1
theorem vw {l : List Pr2} {n : Nat} (h : n = (l.map fun p => ([PA p] : List PV)).length) : c8 l n = c7 l := vx (by rw [h, List.length_map]; exact Nat.le_refl _)
end
end
section
open Go Go.RowKit
section
end
section
end
end
section
open Go Go.RowKit
section
variable {α : Type}
structure SmG (l m : List α) (k : Nat) : Prop where
 len : l.length = m.length
 le : k ≤ l.length
 eq : l.take k = m.take k
theorem SmG.start {l m : List α} (h : l.length = m.length) : SmG l m 0 := ⟨h, Nat.zero_le _, by simp⟩
theorem jP {l : List α} {k : Nat} (h : k < l.length) (d : α) : l[k]? = some (l.getD k d) := by
 rw [List.getD_eq_getElem?_getD, List.getElem?_eq_getElem h]; rfl
theorem SmG.next {l m : List α} {k : Nat} {d : α} (i : SmG l m k) (hk : k < l.length) (h : l.getD k d = m.getD k d) : SmG l m (k + 1) :=
 ⟨i.len, hk, by rw [gV (jP hk d), gV (jP (by have := i.len; omega) d), i.eq, h]⟩
theorem SmG.yes {l m : List α} {k : Nat} (i : SmG l m k) (hk : ¬ k < l.length) : l = m := by
 have h := i.eq
 rw [List.take_of_length_le (by omega), List.take_of_length_le (by have := i.len; omega)] at h
 exact h
theorem SmG.no {l m : List α} {k : Nat} {d : α} (h : ¬ l.getD k d = m.getD k d) : ¬ l = m := fun e => h (by rw [e])
end
section
end
end
section
open Go Go.RowKit
section
end
end
section
open Go Go.RowKit
end
section
open Go Go.RowKit
section
end
end
section
open Go Go.RowKit
end
section
open Go Go.RowKit
def hM (p j : Int) : Mt := if j < p then ⟨p, j, 0, 1⟩ else ⟨1, 0, 0, p⟩
def gdV (p a b c j : Int) : Int := if j < p then a * j * j + b * j + c else a
def gd (p : Int) (f : Fm) (j : Int) : Bool := decide (gdV p f.a f.b f.c j % p ≠ 0)
section
end
end
section
open Go Go.RowKit
section
end
end
section
open Go Go.RowKit
theorem Ex {n : Int} {f : Fm} (hn : n ≤ 4194304) (h : f ∈ LW n prG) : f.pos ∧ Rd f ∧ dsc f.a f.b f.c = -n ∧ prim f.a f.b f.c = true := by
 have h1 := (vF hn).1 h
 have h2 : Rd f := h1.1.rd
 exact ⟨h1.1.pos, h2, h1.1.dsc, h1.2⟩
theorem CW {n : Int} {f : Fm} (hn : n ≤ 4194304) (hf : f.pos) (hd : dsc f.a f.b f.c = -n) (hp : prim f.a f.b f.c = true) : f.rd ∈ LW n prG := by
 rw [vF hn]
 obtain ⟨m, h1, h2⟩ := kn hf
 have hr : Rd f.rd := Rd.rdF hf
 have h3 := hr.redT
 have hd2 : dsc f.rd.a f.rd.b f.rd.c = -n := by
  rw [h2]
  have : (f.app m).disc = f.disc := iI h1
  exact this.trans hd
 rw [hd2, Int.neg_neg] at h3
 refine ⟨h3, ?_⟩
 unfold prG
 rw [h2, ← lO f (by rw [h1]; rfl)]
 exact hp
abbrev LWp (n : Int) : List Fm := LW n (fun f => prim f.a f.b f.c)
theorem lY {n : Int} (hn : n ≤ 4194304) : Whole (-n) (LWp n) := by
 refine ⟨xV n _, fun f => ⟨fun hm => ?_, fun h => ?_⟩⟩
 ·obtain ⟨h1, h2, h3, h4⟩ := Ex hn (show f ∈ LW n prG from hm)
  exact ⟨⟨h1, h4, h3⟩, px h2 h1⟩
 have := CW hn h.1.pos h.1.disc h.1.prim
 rw [h.2] at this
 exact this
theorem Ey (D : Nat) : (LWp (szz D)).length ≤ 199 := by
 have hs := dN D
 have h1 := lY (n := szz D) (by omega)
 have h2 := uP (n := szz D) (by omega)
 have h3 := pS (l := LWp (szz D)) (m := lst (szz D)) h1.nd (fun x hx => (h2.mem x).2 ((h1.mem x).1 hx))
 have h4 := AW (n := szz D) (by omega) (by omega) (by omega)
 omega
theorem zX (D : Nat) : (-szz D) % 4 = 0 ∨ (-szz D) % 4 = 1 := by
 have := ry D
 unfold szE at this
 split at this
 ·cases this
 omega
theorem Bj {α : Type} {p : α → Bool} {l : List α} {k : Nat} : cZ p l k ≤ l.length :=
 Nat.le_trans (List.length_filter_le _ _) (by rw [List.length_take]; exact Nat.min_le_right _ _)
theorem vc {α : Type} {p : α → Bool} {l : List α} : cZ p l 0 = 0 := by unfold cZ; simp
end
section
open Go Go.RowKit
theorem xA {α : Type} {p : α → Bool} {l : List α} : 0 < cZ p l l.length ↔ ∃ x ∈ l, p x = true := by
 rw [qo (Nat.le_refl _), List.length_pos_iff_exists_mem]
 constructor
 ·rintro ⟨x, hx⟩; exact ⟨x, (List.mem_filter.1 hx).1, (List.mem_filter.1 hx).2⟩
 rintro ⟨x, hx, h⟩; exact ⟨x, List.mem_filter.2 ⟨hx, h⟩⟩
def isV (D : Int) (m : Nat) (g : Fm) : Bool := decide ((fnd D m g).kind = 1)
theorem oY : ∀ {l : List Nat}, 0 < ep l → ∃ x ∈ l, 0 < x
 | [], h => by simp [ep] at h
 | x :: l, h => by
  simp only [ep] at h
  rcases Nat.eq_zero_or_pos x with e | e
  ·subst e
   obtain ⟨y, h1, h2⟩ := oY (l := l) (by omega)
   exact ⟨y, by simp [h1], h2⟩
  exact ⟨x, by simp, e⟩
theorem wz {D : Int} {m : Nat} {l : List Fm} (w : Whole D l) (hD : D < 0) (hm : 0 < m) : (decide (((cZ (isV D m) l l.length : Nat) : Int) > 0) != decide ((((rbL D m).length : Nat) : Int) > 0)) = false := by
 have hs := Ap (n := (m : Int)) w hD (by omega)
 have hu : 0 < unN D := by
  unfold unN
  split
  ·decide
  split <;> decide
 have key : 0 < cZ (isV D m) l l.length ↔ 0 < (rbL D m).length := by
  rw [xA]
  constructor
  ·rintro ⟨g, hg, h⟩
   have hc := ((w.mem g).1 hg).1
   have hp := (qm hm hc).1 (dT0 h)
   exact List.length_pos_iff.2 (ux hp)
  intro h
  have : 0 < ep (l.map fun f => (prL D m f).length) := by rw [hs]; exact Nat.mul_pos hu h
  obtain ⟨x, hx, h0⟩ := oY this
  obtain ⟨g, hg, rfl⟩ := List.mem_map.1 hx
  have hc := ((w.mem g).1 hg).1
  exact ⟨g, hg, decide_eq_true ((qm hm hc).2 (List.length_pos_iff.1 h0))⟩
 have : decide (((cZ (isV D m) l l.length : Nat) : Int) > 0) = decide ((((rbL D m).length : Nat) : Int) > 0) := by
  rw [decide_eq_decide]; omega
 rw [this]; simp
def FiI (V : Fm → Bool) (l : List Fm) (k : Nat) (fi : Int) : Prop := (fi = -1 ∧ cZ V l k = 0) ∨ (0 ≤ fi ∧ fi.toNat < k ∧ V (l.getD fi.toNat ⟨0, 0, 0⟩) = true)
theorem FiI.start {V : Fm → Bool} {l : List Fm} : FiI V l 0 (-1) := .inl ⟨rfl, vc⟩
theorem FiI.no {V : Fm → Bool} {l : List Fm} {k : Nat} {fi : Int} (h : FiI V l k fi) (hk : k < l.length) (hv : V (l.getD k ⟨0, 0, 0⟩) = false) : FiI V l (k + 1) fi := by
 rcases h with ⟨h1, h2⟩ | ⟨h1, h2, h3⟩
 ·exact .inl ⟨h1, by rw [nj (jP hk ⟨0, 0, 0⟩) hv, h2]⟩
 exact .inr ⟨h1, by omega, h3⟩
theorem FiI.yes {V : Fm → Bool} {l : List Fm} {k : Nat} (hv : V (l.getD k ⟨0, 0, 0⟩) = true) : FiI V l (k + 1) k := .inr ⟨by omega, by omega, hv⟩
theorem FiI.old {V : Fm → Bool} {l : List Fm} {k : Nat} {fi : Int} (h : FiI V l k fi) (hf : ¬ fi < 0) : FiI V l (k + 1) fi := by
 rcases h with ⟨h1, h2⟩ | ⟨h1, h2, h3⟩
 ·omega
 exact .inr ⟨h1, by omega, h3⟩
theorem FiI.get {V : Fm → Bool} {l : List Fm} {k : Nat} {fi : Int} (h : FiI V l k fi) (hk : k ≤ l.length) (hf : ¬ fi < 0) : 0 ≤ fi ∧ fi < l.length ∧ V (l.getD fi.toNat ⟨0, 0, 0⟩) = true := by
 rcases h with ⟨h1, h2⟩ | ⟨h1, h2, h3⟩
 ·omega
 exact ⟨h1, by omega, h3⟩
theorem EJ {k : Int} {v o : List Int} (h : k = 2 ↔ v ≠ o) : ((k == 2) != !decide (v = o)) = false := by
 by_cases e : v = o
 ·rw [decide_eq_true e]
  have : k ≠ 2 := fun x => h.1 x e
  simp [this]
 rw [decide_eq_false e, h.2 e]; rfl
theorem Gr (D : Nat) : 0 < (LWp (szz D)).length := by
 have hs := dN D
 have w := lY (n := szz D) (by omega)
 exact List.length_pos_of_mem (w.rd (Dp D 0 0))
theorem top_cl : clE (-23) = 3 ∧ szE (-23) = 0 := by decide +kernel
end
section
open Go Go.RowKit
def bkL (zs : List Nat) : List (List PV) := (List.range zs.length).map fun (k : Nat) => [.c (.v (.int .i64 ((zs.length : Int) - 1 - (k : Int)))), .c (w32 (zs.getD (zs.length - 1 - k) 0))]
theorem nw (zs : List Nat) : (bkL zs).length = zs.length := by unfold bkL; simp
theorem vu {zs : List Nat} {k : Nat} (h : k < zs.length) : (bkL zs)[k]? = some [.c (.v (.int .i64 ((zs.length : Int) - 1 - (k : Int)))), .c (w32 (zs.getD (zs.length - 1 - k) 0))] := by
 unfold bkL; rw [List.getElem?_map, List.getElem?_range h]; rfl
theorem BB {zs : List Nat} {k : Nat} {x : List PV} (h : (bkL zs)[k]? = some x) : k < zs.length ∧ x = [.c (.v (.int .i64 ((zs.length : Int) - 1 - (k : Int)))), .c (w32 (zs.getD (zs.length - 1 - k) 0))] := by
 have hk : k < zs.length := by have := (List.getElem?_eq_some_iff.1 h).1; rwa [nw] at this
 rw [vu hk] at h
 exact ⟨hk, (Option.some.inj h).symm⟩
theorem BA (zs : List Nat) : ∀ x ∈ bkL zs, x.length = 2 := by
 intro x hx
 unfold bkL at hx
 obtain ⟨k, _, rfl⟩ := List.mem_map.1 hx
 rfl
def lwA (zs : List Nat) (k : Nat) : Nat := wv (zs.drop (zs.length - k))
theorem tu (zs : List Nat) : lwA zs 0 = 0 := by unfold lwA; rw [Nat.sub_zero, List.drop_length]; rfl
theorem AS (zs : List Nat) : lwA zs zs.length = wv zs := by unfold lwA; rw [Nat.sub_self]; rfl
theorem pU {zs : List Nat} {k : Nat} (h : k < zs.length) : lwA zs (k + 1) = lwA zs k * 4294967296 + zs.getD (zs.length - 1 - k) 0 := by
 unfold lwA
 have hi : zs.length - (k + 1) < zs.length := by omega
 rw [List.drop_eq_getElem_cons hi, show zs.length - (k + 1) + 1 = zs.length - k by omega]
 have e : zs.getD (zs.length - 1 - k) 0 = zs[zs.length - (k + 1)] := by
  rw [List.getD_eq_getElem?_getD, show zs.length - 1 - k = zs.length - (k + 1) by omega, List.getElem?_eq_getElem hi]; rfl
 rw [e]
 show _ + 4294967296 * _ = _
 omega
theorem FN {zs : List Nat} (hok : okW zs) (h2 : zs.length ≤ 2) {k : Nat} (h : k < zs.length) : lwA zs k < 4294967296 := by
 rcases (show k = 0 ∨ k = 1 by omega) with rfl | rfl
 ·rw [tu]; omega
 have h0 : 0 < zs.length := by omega
 rw [pU h0, tu]
 have := hok.getD (zs.length - 1 - 0)
 omega
theorem GM {m x : Nat} (hm : m < 4294967296) (hx : x < 4294967296) : bits .or .u64 ((m * 4294967296 : Nat) : Int) (x : Int) = ((m * 4294967296 + x : Nat) : Int) := by
 rw [lr rfl (fN (by omega)) (fN (by omega)), Nat.mul_comm m, show (4294967296 : Nat) = 2 ^ 32 by rfl, Nat.two_pow_add_eq_or_of_lt (i := 32) (by omega)]
def lM (m : Nat) : Int := if m < 9223372036854775808 then m else (m : Int) - 18446744073709551616
theorem tV (z : Int) : IntKind.i64.wrap z = if 9223372036854775808 ≤ z % 18446744073709551616 then z % 18446744073709551616 - 18446744073709551616 else z % 18446744073709551616 := by
 simp [IntKind.wrap, IntKind.signed, IntKind.bits]
theorem CG {m : Nat} (h : m < 18446744073709551616) : IntKind.i64.wrap (m : Int) = lM m := by
 rw [tV]
 unfold lM
 split <;> split <;> omega
def yL (x : Int) : Int := if x < 0 then IntKind.i64.wrap (0 - lM x.natAbs) else lM x.natAbs
theorem BL {x : Int} (h : x < 0) : IntKind.i64.wrap (0 - lM x.natAbs) = yL x := by unfold yL; rw [if_pos h]
theorem BK {x : Int} (h : ¬ x < 0) : lM x.natAbs = yL x := by unfold yL; rw [if_neg h]
theorem sL {x : Int} (h : x.natAbs < 18446744073709551616) : (lwO x = true ∧ yL x = x) ∨ (lwO x = false ∧ ¬ yL x = 0 ∧ ¬ ((x < 0) ↔ (yL x < 0))) := by
 have hy : yL x = if x < 0 then (if x.natAbs ≤ 9223372036854775808 then x else 18446744073709551616 + x) else (if x < 9223372036854775808 then x else x - 18446744073709551616) := by
  unfold yL
  rw [tV]
  unfold lM
  repeat' split
  all_goals omega
 rw [hy]
 unfold lwO
 by_cases hr : -9223372036854775808 ≤ x ∧ x < 9223372036854775808
 ·refine .inl ⟨decide_eq_true hr, ?_⟩
  repeat' split
  all_goals omega
 refine .inr ⟨decide_eq_false hr, ?_⟩
 repeat' split
 all_goals omega
theorem sd {x : Int} (h : x.natAbs < 18446744073709551616) (h1 : (decide (x < 0) != decide (yL x < 0)) = true) : AV.t [PE 0, PB false] = .t [PE (lwV x), PB (lwO x)] := by
 rcases sL h with ⟨a, b⟩ | ⟨a, b, c⟩
 ·rw [b] at h1; simp at h1
 unfold lwV; rw [a]; rfl
theorem pV {x : Int} (h : x.natAbs < 18446744073709551616) (h1 : (decide (x < 0) != decide (yL x < 0)) = false) : AV.t [PE (yL x), PB true] = .t [PE (lwV x), PB (lwO x)] := by
 rcases sL h with ⟨a, b⟩ | ⟨a, b, c⟩
 ·unfold lwV; rw [a, b]; rfl
 exfalso
 apply c
 rw [bne_eq_false_iff_eq] at h1
 exact decide_eq_decide.1 h1
theorem oa {x : Int} (h : x.natAbs < 18446744073709551616) (h1 : yL x = 0) : AV.t [PE (yL x), PB true] = .t [PE (lwV x), PB (lwO x)] := by
 rcases sL h with ⟨a, b⟩ | ⟨a, b, c⟩
 ·unfold lwV; rw [a, b]; rfl
 exact absurd h1 b
end
section
open Go Go.RowKit
def pz0 (f : Fm) : Fm := if rfE f = 0 then prF (dsc f.a f.b f.c) else ⟨0, 0, 0⟩
theorem GH {f : Fm} (h : ¬ rfE f = 0) : AV.t [PF ⟨0, 0, 0⟩, PE (rfE f)] = .t [PF (pz0 f), PE (rfE f)] := by unfold pz0; rw [if_neg h]
theorem GG {f : Fm} (h : rfE f = 0) : AV.t [PF (prF (dsc f.a f.b f.c)), PE 0] = .t [PF (pz0 f), PE (rfE f)] := by unfold pz0; rw [if_pos h, h]
end
end Go.AM
