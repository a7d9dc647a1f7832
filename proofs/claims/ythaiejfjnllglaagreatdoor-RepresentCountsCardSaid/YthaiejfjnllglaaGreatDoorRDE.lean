import Derived.Test.YthaiejfjnllglaaGreatDoorRDD
import Derived.Test.YthaiejfjnllglaaGreatDoorRDC
set_option maxRecDepth 100000
namespace Go.AM
section
open Go Go.RowKit
section
variable {α : Type}
structure SmG (l m : List α) (k : Nat) : Prop where
 len : l.length = m.length
 le : k ≤ l.length
 eq : l.take k = m.take k
theorem SmG.start {l m : List α} (h : l.length = m.length) : SmG l m 0 := ⟨h, Nat.zero_le _, by simp⟩
theorem jH {l : List α} {k : Nat} (h : k < l.length) (d : α) : l[k]? = some (l.getD k d) := by
 rw [List.getD_eq_getElem?_getD, List.getElem?_eq_getElem h]; rfl
theorem SmG.next {l m : List α} {k : Nat} {d : α} (i : SmG l m k) (hk : k < l.length) (h : l.getD k d = m.getD k d) : SmG l m (k + 1) :=
 ⟨i.len, hk, by rw [fh (jH hk d), fh (jH (by have := i.len; omega) d), i.eq, h]⟩
theorem SmG.yes {l m : List α} {k : Nat} (i : SmG l m k) (hk : ¬ k < l.length) : l = m := by
 have h := i.eq
 rw [List.take_of_length_le (by omega), List.take_of_length_le (by have := i.len; omega)] at h
 exact h
theorem SmG.no {l m : List α} {k : Nat} {d : α} (h : ¬ l.getD k d = m.getD k d) : ¬ l = m := fun e => h (by rw [e])
def iS (p : α → Bool) : List α → Nat → Int
 | [], _ => -1
 | x :: l, k => if p x = true then (k : Int) else iS p l (k + 1)
theorem xN {p : α → Bool} {l : List α} {k : Nat} {d : α} (h : k < l.length) (hp : p (l.getD k d) = false) : iS p (l.drop k) k = iS p (l.drop (k + 1)) (k + 1) := by
 rw [List.drop_eq_getElem_cons h]
 show (if p l[k] = true then (k : Int) else iS p (l.drop (k + 1)) (k + 1)) = _
 rw [List.getD_eq_getElem?_getD, List.getElem?_eq_getElem h] at hp
 simp only [Option.getD_some] at hp
 rw [if_neg (by rw [hp]; decide)]
theorem Am {p : α → Bool} {l : List α} {k : Nat} {d : α} (h : k < l.length) (hp : p (l.getD k d) = true) : iS p (l.drop k) k = k := by
 rw [List.drop_eq_getElem_cons h]
 show (if p l[k] = true then (k : Int) else iS p (l.drop (k + 1)) (k + 1)) = _
 rw [List.getD_eq_getElem?_getD, List.getElem?_eq_getElem h] at hp
 simp only [Option.getD_some] at hp
 rw [if_pos hp]
theorem An {p : α → Bool} {l : List α} {k : Nat} (h : l.length ≤ k) : iS p (l.drop k) k = -1 := by
 rw [List.drop_eq_nil_of_le h]; rfl
theorem sy {p : α → Bool} : ∀ (l : List α) (k : Nat), decide (iS p l k ≥ 0) = l.any p
 | [], _ => rfl
 | x :: l, k => by
  rw [List.any_cons]
  unfold iS
  cases h : p x with
  | true => rw [if_pos rfl, Bool.true_or, decide_eq_true_eq]; omega
  | false => rw [if_neg (by decide), Bool.false_or]; exact sy l (k + 1)
end
theorem HW {o : Fm} {l : List Fm} : (l.any fun g => decide (g.a = o.a ∧ g.b = o.b ∧ g.c = o.c)) = decide (o ∈ l) := by
 rw [Bool.eq_iff_iff, List.any_eq_true, decide_eq_true_eq]
 constructor
 ·rintro ⟨g, hg, h⟩
  rw [decide_eq_true_eq] at h
  have : g = o := Fm.ext h.1 h.2.1 h.2.2
  exact this ▸ hg
 intro h; exact ⟨o, h, by simp⟩
section
variable {D : Int} {m : Nat} {f : Fm} {a : Ans}
def rgV (D : Int) (m : Nat) (f : Fm) (a : Ans) : Bool := if a.kind = 1 then qg f m (a.x, a.y) else if a.kind = 2 then jV D m f a.m else ju D m f a.roots a.forms
theorem J4 (h : a.kind = 1) (h1 : decide ((Int.gcd a.x a.y : Int) = 1) = true) : decide (vl f.a f.b f.c a.x a.y = m) = rgV D m f a := by
 unfold rgV qg
 have := of_decide_eq_true h1
 rw [if_pos h, show decide (Int.gcd (a.x, a.y).1 (a.x, a.y).2 = 1) = true from decide_eq_true (by show Int.gcd a.x a.y = 1; omega), Bool.true_and]
theorem It (h : a.kind = 1) (h1 : decide ((Int.gcd a.x a.y : Int) = 1) = false) : false = rgV D m f a := by
 unfold rgV qg
 have := of_decide_eq_false h1
 rw [if_pos h, show decide (Int.gcd (a.x, a.y).1 (a.x, a.y).2 = 1) = false from decide_eq_false (by show ¬ Int.gcd a.x a.y = 1; omega), Bool.false_and]
theorem zj (h1 : ¬ a.kind = 1) (h2 : a.kind = 2) {b : Bool} (h : jV D m f a.m = b) : b = rgV D m f a := by
 unfold rgV; rw [if_neg h1, if_pos h2, h]
theorem vd (h1 : ¬ a.kind = 1) (h2 : ¬ a.kind = 2) {b : Bool} (h : ju D m f a.roots a.forms = b) : b = rgV D m f a := by
 unfold rgV; rw [if_neg h1, if_neg h2, h]
def AgN (D : Int) (m : Nat) (f : Fm) (x : Int) (k : Nat) : Prop := x ∉ (agL D m f).take k
theorem AgN.start {x : Int} : AgN D m f x 0 := by unfold AgN; simp
theorem AgN.next {x c : Int} {k : Nat} (h : AgN D m f x k) (hc : (agL D m f)[k]? = some c) (hn : ¬ x = c) : AgN D m f x (k + 1) := by
 unfold AgN at *
 rw [fh hc, List.mem_append]
 rintro (q | q)
 ·exact h q
 simp only [List.mem_cons, List.not_mem_nil, or_false] at q; exact hn q
theorem AgN.done {x : Int} {k : Nat} (h : AgN D m f x k) (hk : k = ((agL D m f).map fun c => ([PE c] : List PV)).length) : x ∉ agL D m f := by
 unfold AgN at h
 rw [List.length_map] at hk
 rwa [hk, List.take_length] at h
def PtX (m : Nat) (x : Int) (k : Nat) : Prop := ∀ q ∈ (parts m).take k, x ≠ (q : Int)
theorem PtX.start {x : Int} : PtX m x 0 := fun q hq => by simp at hq
theorem PtX.next {x : Int} {k q : Nat} (h : PtX m x k) (hq : (parts m)[k]? = some q) (hn : ¬ x = (q : Int)) : PtX m x (k + 1) := by
 intro q' hq'
 rw [fh hq, List.mem_append] at hq'
 rcases hq' with z | z
 ·exact h q' z
 simp only [List.mem_cons, List.not_mem_nil, or_false] at z; subst z; exact hn
theorem Ga {x c : Int} {k : Nat} (hc : (agL D m f)[k]? = some c) (h : x = c) : jV D m f x = true := CZ (by rw [h]; exact List.mem_of_getElem? hc)
theorem F8 {x : Int} {k q : Nat} (hn : x ∉ agL D m f) (hq : (parts m)[k]? = some q) (h : x = (q : Int)) : jV D m f x = decide (rbL D (q : Int) = []) := by
 unfold jV
 rw [decide_eq_false hn, Bool.false_or, decide_eq_true (List.mem_map.2 ⟨q, List.mem_of_getElem? hq, h.symm⟩), Bool.true_and, h]
theorem F9 {x : Int} {k : Nat} (hn : x ∉ agL D m f) (h : PtX m x k) (hk : k = ((parts m).map fun (q : Nat) => ([PE (q : Int)] : List PV)).length) : jV D m f x = false := by
 unfold jV
 rw [decide_eq_false hn, Bool.false_or, Bool.and_eq_false_iff]
 left
 rw [decide_eq_false_iff_not]
 intro hm
 obtain ⟨q, hq, e⟩ := List.mem_map.1 hm
 exact h q (by rw [hk, List.length_map, List.take_length]; exact hq) e.symm
theorem rg3 {roots : List Int} {forms : List Fm} (h1 : decide (((fmL D m).length : Int) > 0) = true) (h2 : decide (roots = rbL D m) = true) (h3 : decide (forms = fmL D m) = true) :
  ju D m f roots forms = !decide (f.rd ∈ fmL D m) := by
 have h4 := of_decide_eq_true h1
 unfold ju
 rw [h2, h3, decide_eq_true]
 ·simp
 intro e; unfold fmL at h4; rw [e] at h4; simp at h4
theorem IG {roots : List Int} {forms : List Fm} (h1 : decide (((fmL D m).length : Int) > 0) = false) : ju D m f roots forms = false := by
 have h4 := of_decide_eq_false h1
 have : rbL D m = [] := by
  unfold fmL at h4
  rw [List.length_map] at h4
  exact List.length_eq_zero_iff.1 (by omega)
 unfold ju
 rw [this]; rfl
theorem IF {roots : List Int} {forms : List Fm} (h2 : decide (roots = rbL D m) = false) : ju D m f roots forms = false := by
 unfold ju; rw [h2]; simp
theorem IE {roots : List Int} {forms : List Fm} (h3 : decide (forms = fmL D m) = false) : ju D m f roots forms = false := by
 unfold ju; rw [h3]; simp
theorem Jw {hm : m ≤ 65536} : ((fmL D m).length : Int) ≤ 131072 := by
 have := xM D m hm; omega
def nu (a : RA) : List (Int × Bool) := [(1, decide (a.m.2 = []) && decide (((a.roots.length + a.forms.length : Nat) : Int) = 0)), (2, (decide (a.x.2 = []) && decide (a.y.2 = [])) && decide (((a.roots.length + a.forms.length : Nat) : Int) = 0)), (3, (decide (a.x.2 = []) && decide (a.y.2 = [])) && decide (a.m.2 = []))]
theorem HP {a : RA} {r : Rw} (h : r ∈ a.nums) (hv : rV r = false) : false = rgA D m f a := by
 unfold rgA
 rw [(List.all_eq_false.2 ⟨r, h, by rw [hv]; decide⟩), Bool.false_and]
theorem pU {a : RA} (h : ∀ r ∈ a.nums, rV r = true) : rgA D m f a = (((nu a).lookup a.kind).getD false && rgV D m f a.ans) := by
 have hx := zB (h a.x (by unfold RA.nums; simp))
 have hy := zB (h a.y (by unfold RA.nums; simp))
 have hm := zB (h a.m (by unfold RA.nums; simp))
 have hl : decide (((a.roots.length + a.forms.length : Nat) : Int) = 0) = decide (a.ans.roots = [] ∧ a.ans.forms = []) := by
  rw [decide_eq_decide]
  unfold RA.ans
  simp only [List.map_eq_nil_iff]
  constructor
  ·intro e; exact ⟨List.length_eq_zero_iff.1 (by omega), List.length_eq_zero_iff.1 (by omega)⟩
  rintro ⟨e1, e2⟩; rw [e1, e2]; rfl
 unfold rgA nu
 rw [List.all_eq_true.2 h, Bool.true_and, hx, hy, hm, hl]
 unfold rgt rgV
 have ek : a.ans.kind = a.kind := rfl
 have e1 : (decide (rZ a.x = 0) && decide (rZ a.y = 0)) = decide (a.ans.x = 0 ∧ a.ans.y = 0) := by
  show _ = decide (rZ a.x = 0 ∧ rZ a.y = 0)
  rw [Bool.decide_and]
 have e2 : decide (rZ a.m = 0) = decide (a.ans.m = 0) := rfl
 rw [e1, e2, ek]
 generalize a.ans = b at *
 by_cases k1 : a.kind = 1
 ·rw [k1]; simp [List.lookup]
 by_cases k2 : a.kind = 2
 ·rw [k2]; simp [List.lookup]
 by_cases k3 : a.kind = 3
 ·rw [k3]; simp [List.lookup]
 have f1 : (a.kind == 1) = false := by simpa using k1
 have f2 : (a.kind == 2) = false := by simpa using k2
 have f3 : (a.kind == 3) = false := by simpa using k3
 rw [if_neg k1, if_neg k2, if_neg k3]
 simp [List.lookup, f1, f2, f3]
theorem JF {a : RA} (h : ∀ r ∈ a.nums, rV r = true) {u : Bool} (hu : ((nu a).lookup a.kind).getD false = u) (ht : u = true) : rgV D m f a.ans = rgA D m f a := by
 rw [pU h, hu, ht, Bool.true_and]
theorem JG {a : RA} (h : ∀ r ∈ a.nums, rV r = true) {u : Bool} (hu : ((nu a).lookup a.kind).getD false = u) (ht : u = false) : false = rgA D m f a := by
 rw [pU h, hu, ht, Bool.false_and]
end
end
section
open Go Go.RowKit
section
variable {r : Rw}
theorem wR (h : ((r.2.length : Nat) : Int) = 0) : r.2 = [] := List.length_eq_zero_iff.1 (by omega)
theorem vc (h : ¬ ((r.2.length : Nat) : Int) = 0) : r.2 ≠ [] := fun e => h (by rw [e]; rfl)
theorem J9 (h : ((r.2.length : Nat) : Int) = 0) : (!r.1) = rV r := by unfold rV; rw [if_pos (wR h)]
theorem J8 (h : ¬ ((r.2.length : Nat) : Int) = 0) : (((r.2.getD (((r.2.length : Nat) : Int) - 1).toNat 0 : Nat) : Int) != 0) = rV r := by
 unfold rV
 rw [if_neg (vc h), show (((r.2.length : Nat) : Int) - 1).toNat = r.2.length - 1 by omega]
 generalize r.2.getD (r.2.length - 1) 0 = x
 rw [Bool.eq_iff_iff, bne_iff_ne, decide_eq_true_eq]
 omega
def rsg (r : Rw) : Int := if r.2 = [] then 0 else if r.1 = true then -1 else 1
theorem Ix (h : ((r.2.length : Nat) : Int) = 0) : 0 = rsg r := by unfold rsg; rw [if_pos (wR h)]
theorem Iw (h : ¬ ((r.2.length : Nat) : Int) = 0) (h1 : r.1 = true) : -1 = rsg r := by unfold rsg; rw [if_neg (vc h), if_pos h1]
theorem Iv (h : ¬ ((r.2.length : Nat) : Int) = 0) (h1 : r.1 = false) : 1 = rsg r := by unfold rsg; rw [if_neg (vc h), if_neg (by rw [h1]; decide)]
theorem Iu : (rsg r == 0) = decide (r.2 = []) := by
 unfold rsg
 by_cases h : r.2 = []
 ·rw [if_pos h, decide_eq_true h]; rfl
 rw [if_neg h, decide_eq_false h]; split <;> rfl
end
def VaK (l : List Rw) (k : Nat) : Prop := ∀ r ∈ l.take k, rV r = true
theorem VaK.start {l : List Rw} : VaK l 0 := fun r hr => by simp at hr
theorem VaK.next {l : List Rw} {k : Nat} {d : Rw} (h : VaK l k) (hk : k < l.length) (hv : rV (l.getD k d) = true) : VaK l (k + 1) := by
 intro r hr
 rw [fh (jH hk d), List.mem_append] at hr
 rcases hr with z | z
 ·exact h r z
 simp only [List.mem_cons, List.not_mem_nil, or_false] at z; subst z; exact hv
theorem VaK.done {l : List Rw} {k : Nat} (h : VaK l k) (hk : l.length ≤ k) : ∀ r ∈ l, rV r = true := by
 unfold VaK at h; rwa [List.take_of_length_le hk] at h
def eR (a : RA) (k : Nat) : List Rw := [a.x, a.y, a.m] ++ a.roots ++ (a.forms.take k).flatMap rfL
theorem GO (a : RA) : ([.v (.bool a.x.1), W a.x.2, .v (.bool a.y.1), W a.y.2, .v (.bool a.m.1), W a.m.2] ++ a.roots.flatMap rC : List DV) = (eR a 0).flatMap rC := by
 unfold eR; simp
theorem GN {a : RA} {k : Nat} {f : RF} (h : a.forms[k]? = some f) : (eR a k).flatMap rC ++ rfC f = (eR a (k + 1)).flatMap rC := by
 unfold eR
 rw [fh h]
 simp [rfL]
theorem zS {a : RA} {k : Nat} (h : a.forms.length ≤ k) : eR a k = a.nums := by
 unfold eR RA.nums; rw [List.take_of_length_le h]
theorem rM {a : RA} {k : Nat} : (eR a k).length ≤ 3 + a.roots.length + 3 * a.forms.length := by
 unfold eR
 have : ∀ l : List RF, (l.flatMap rfL).length = 3 * l.length := by
  intro l
  induction l with
  | nil => rfl
  | cons f l ih => rw [List.flatMap_cons, List.length_append, ih]; simp [rfL]; omega
 rw [List.length_append, List.length_append, this, List.length_take]
 simp only [List.length_cons, List.length_nil]
 omega
end
section
open Go Go.RowKit
theorem I6 {k n : Nat} (h : 32 * k ≤ n) : (4294967296 : Nat) ^ k ≤ 2 ^ n := by
 rw [show (4294967296 : Nat) = 2 ^ 32 by rfl, ← Nat.pow_mul]
 exact Nat.pow_le_pow_right (by decide) h
theorem I2 {n : Nat} {r : Rw} (ho : okW r.2) (h : 32 * r.2.length ≤ 2 ^ n) : L n (rZ r) := by
 have h1 := eT ho
 have h2 : (rZ r).natAbs = wv r.2 := by unfold rZ sg; split <;> simp
 unfold L
 rw [h2]
 exact Nat.lt_of_lt_of_le h1 (I6 h)
theorem Gt {r : Rw} (ho : okW r.2) (h : r.2.length ≤ 1000) : L 30 (rZ r) := I2 ho (Nat.le_trans (Nat.mul_le_mul_left 32 h) (by decide))
theorem uz {x y : Nat} : (((x : Nat) : Int) + ((y : Nat) : Int) == 0) = decide (((x + y : Nat) : Int) = 0) := by
 rw [Bool.eq_iff_iff, beq_iff_eq, decide_eq_true_eq]
 omega
theorem Gj {a : RA} : a.x ∈ a.nums := by unfold RA.nums; simp
theorem Gi {a : RA} : a.y ∈ a.nums := by unfold RA.nums; simp
theorem ra_len {a : RA} : a.ans.roots.length = a.roots.length ∧ a.ans.forms.length = a.forms.length := by unfold RA.ans; simp
end
section
open Go Go.RowKit
section
variable {P : Program} {tt : TT} (hT : eo P tt)
variable {dst : Option Nat} {ty : TypeId} {pos : String} {af : Array Edge} {gd : Option (Nat × Bool)} {d : Nat} {ρ : Operand → AV} {own : Own} {T : TypeId} {i : TyI} {x y : Operand}
include hT in
theorem cE {e l : Nat} {j : TyI} {k : IntKind} {n : Int} {xs : List DV} (ht : tt T = some i) (hs : i.sh = .ar l e) (he : tt e = some j) (hx : ρ x = .ip xs) (hy : ρ y = .p (.c (.v (.int k n)))) (hn : 0 ≤ n ∧ n < l) :
  Eff P ⟨dst, .indexAddr T x y, ty, pos, af, gd⟩ d ρ own (.ip (xs.drop (n.toNat * j.size))) [] none [] :=
 bG fun C h r own' a w hrep hrd hw => by
  have e1 := hrep x (by simp [Op.operands])
  have e2 := hrep y (by simp [Op.operands])
  rw [hx] at e1; rw [hy] at e2
  obtain ⟨b, off, c, e', fr, h1, h2, h3⟩ := e1
  refine ⟨.pointer (some ⟨b, off + n.toNat * j.size, none⟩), ?_, b, off + n.toNat * j.size, c, e', fr, rfl, h2, ?_⟩
  ·have hu := (hT T i ht).array hs
   simp only [execOp, h1, bY e2, Instr.indexAt, asIntOf, Sem.run_bind, Sem.run_pure, Result.andThen_ok, run_underlying hu, Instr.sureAddr, hn, and_self, if_true, (hT e j he).size, Addr.add_lit]
  exact (h3.drop (n.toNat * j.size)).congr fun k _ => by rw [Nat.add_assoc]
end
def sA (a b : Ans) : Bool := decide (a.kind = b.kind ∧ a.x = b.x ∧ a.y = b.y ∧ a.m = b.m ∧ a.roots = b.roots ∧ a.forms = b.forms)
theorem cQ (a : Ans) : (!sA a a) = false := by unfold sA; simp
theorem J3 {a b : Ans} (h0 : a.kind = b.kind) (h1 : a.x = b.x) (h2 : a.y = b.y) (h3 : a.m = b.m) (h4 : a.roots = b.roots) : decide (a.forms = b.forms) = sA a b := by
 unfold sA
 rw [decide_eq_decide]
 exact ⟨fun h => ⟨h0, h1, h2, h3, h4, h⟩, fun z => z.2.2.2.2.2⟩
theorem lN : Cl (-23) ⟨2, 1, 3⟩ := ⟨⟨by decide, by decide⟩, by decide +kernel, rfl⟩
theorem HE : Cl (-20) ⟨1, 0, 5⟩ := ⟨⟨by decide, by decide⟩, by decide +kernel, rfl⟩
theorem Jy : Cl (-4) ⟨1, 0, 1⟩ := ⟨⟨by decide, by decide⟩, by decide +kernel, rfl⟩
theorem Ib {D : Int} (h : D = -3) : (6 : Int) = (unN D : Nat) := by unfold unN; rw [if_pos h]; rfl
theorem Ia {D : Int} (h : ¬ D = -3) (h2 : D = -4) : (4 : Int) = (unN D : Nat) := by unfold unN; rw [if_neg h, if_pos h2]; rfl
theorem Ic {D : Int} (h : ¬ D = -3) (h2 : ¬ D = -4) : (2 : Int) = (unN D : Nat) := by unfold unN; rw [if_neg h, if_neg h2]; rfl
theorem IL {f : Fm} {D n x y : Int} (hf : Cl D f) (ha : L 6 f.a) (hc : L 6 f.c) (hn : 0 ≤ n ∧ n ≤ 65536) (h : vl f.a f.b f.c x y = n) : L 6 x ∧ L 6 y := by
 have hD := iN hf
 have hd : f.b * f.b - 4 * f.a * f.c = D := hf.disc
 have hv : f.a * (x * x) + f.b * (x * y) + f.c * (y * y) = n := by rw [← h]; unfold vl; grind
 have hap := hf.pos.1
 have hcp : 0 < f.c := by
  have h1 := nq f.b
  rcases Int.lt_or_le 0 f.c with q | q
  ·exact q
  have : f.a * f.c ≤ 0 := Int.mul_nonpos_of_nonneg_of_nonpos (by omega) q
  have e : 4 * f.a * f.c = 4 * (f.a * f.c) := by rw [Int.mul_assoc]
  omega
 have e1 : 4 * f.a * n = (2 * f.a * x + f.b * y) * (2 * f.a * x + f.b * y) - D * (y * y) := by rw [← hv, ← hd]; grind
 have e2 : 4 * f.c * n = (2 * f.c * y + f.b * x) * (2 * f.c * y + f.b * x) - D * (x * x) := by rw [← hv, ← hd]; grind
 have key : ∀ (c z u : Int), 0 < c → L 6 c → 4 * c * n = u * u - D * (z * z) → L 6 z := fun c z u h0 hL e => by
  have hu := nq u
  have hz := nq z
  have hdz : z * z ≤ -D * (z * z) := by
   have : 1 * (z * z) ≤ -D * (z * z) := Int.mul_le_mul_of_nonneg_right (by omega) hz
   omega
  have e' : -D * (z * z) = -(D * (z * z)) := Int.neg_mul _ _
  have hcn : c * n ≤ 18446744073709551616 * 65536 := Int.mul_le_mul (by unfold L at hL; omega) hn.2 hn.1 (by omega)
  have e3 : 4 * c * n = 4 * (c * n) := by rw [Int.mul_assoc]
  have hzz : z * z ≤ 4 * (18446744073709551616 * 65536) := by omega
  have : (z.natAbs : Int) < 18446744073709551616 := by
   rcases Int.lt_or_le (z.natAbs : Int) 18446744073709551616 with q | q
   ·exact q
   have h1 : (18446744073709551616 : Int) * 18446744073709551616 ≤ z.natAbs * z.natAbs := Int.mul_le_mul q q (by omega) (by omega)
   have h2 : (z.natAbs : Int) * z.natAbs = z * z := by rw [← Int.natCast_mul, Int.natAbs_mul_self]
   omega
  unfold L
  omega
 exact ⟨key f.c x _ hcp hc e2, key f.a y _ hap ha e1⟩
end
section
open Go Go.RowKit
theorem gU {z : Int} (h : L 8 z) : (en z).2.length ≤ 1000 := by
 have := qv (n := 3) h
 show (wl z.natAbs).length ≤ 1000
 omega
theorem C8 {a : Ans} (hx : L 8 a.x) (hy : L 8 a.y) (hz : L 8 a.m) (hr : ∀ z ∈ a.roots, L 8 z) (hg : ∀ g ∈ a.forms, L 8 g.a ∧ L 8 g.b ∧ L 8 g.c) : ∀ r ∈ (jx a).nums, r.2.length ≤ 1000 := by
 intro r h
 unfold RA.nums jx at h
 simp only [List.mem_append, List.mem_cons, List.not_mem_nil, or_false, List.mem_map, List.mem_flatMap] at h
 rcases h with ((h | h | h) | ⟨z, h1, h⟩) | ⟨f, ⟨g, h1, rfl⟩, h⟩
 ·rw [h]; exact gU hx
 ·rw [h]; exact gU hy
 ·rw [h]; exact gU hz
 ·rw [← h]; exact gU (hr z h1)
 simp only [rfL, List.mem_cons, List.not_mem_nil, or_false] at h
 obtain ⟨g1, g2, g3⟩ := hg g h1
 rcases h with h | h | h
 ·rw [h]; exact gU g1
 ·rw [h]; exact gU g2
 rw [h]; exact gU g3
end
section
open Go Go.RowKit
def hM (p j : Int) : Mt := if j < p then ⟨p, j, 0, 1⟩ else ⟨1, 0, 0, p⟩
def gdV (p a b c j : Int) : Int := if j < p then a * j * j + b * j + c else a
def gd (p : Int) (f : Fm) (j : Int) : Bool := decide (gdV p f.a f.b f.c j % p ≠ 0)
section
end
end
section
open Go Go.RowKit
section
end
end
section
open Go Go.RowKit
theorem CL (D : Nat) : (-szz D) % 4 = 0 ∨ (-szz D) % 4 = 1 := by
 have := tJ D
 unfold szE at this
 split at this
 ·cases this
 omega
theorem dz {a b : Int} (h : a = b) : (bv a b != 0) = false := by rw [cmpI_eq_zero.2 h]; rfl
theorem nf {p q : Pr2} (h : lt2 p q = true) : decide (bv p.1 q.1 > 0) = false := by
 rw [decide_eq_false_iff_not]
 intro h1
 have := lt2_iff.1 h
 have := cmpI_gt_zero.1 h1
 omega
theorem KC {p q : Pr2} (h : lt2 p q = true) (h1 : (bv p.1 q.1 == 0) = true) : decide (bv p.2 q.2 ≥ 0) = false := by
 rw [decide_eq_false_iff_not]
 intro h2
 have e := cmpI_eq_zero.1 (by simpa using h1)
 have h3 : p.2 < q.2 := by have := lt2_iff.1 h; omega
 have := cmpI_lt_zero.2 h3
 omega
theorem FV {l : List Pr2} (h : lW l) {j : Nat} (hj : j < l.length) (h0 : 0 < j) : lt2 (l.getD ((j : Int) - 1).toNat (0, 0)) (l.getD j (0, 0)) = true := by
 have e : ((j : Int) - 1).toNat = j - 1 := by omega
 rw [e, List.getD_eq_getElem?_getD, List.getElem?_eq_getElem (by omega), List.getD_eq_getElem?_getD, List.getElem?_eq_getElem hj]
 exact List.pairwise_iff_getElem.1 h (j - 1) j (by omega) hj (by omega)
theorem Eo {α : Type} {p : α → Bool} {l : List α} {k : Nat} : dG p l k ≤ l.length :=
 Nat.le_trans (List.length_filter_le _ _) (by rw [List.length_take]; exact Nat.min_le_right _ _)
theorem HB {α : Type} {p : α → Bool} {l : List α} : dG p l 0 = 0 := by unfold dG; simp
theorem xV {a b n : Nat} (h : n = a * b) : (((n : Nat) : Int) == ((a * b : Nat) : Int)) = true := by rw [h]; exact beq_self_eq_true _
theorem GE {D n : Int} {f : Fm} : (prS D n f).length = (prL D n f).length := om
end
section
open Go Go.RowKit
end
section
open Go Go.RowKit
def bkL (zs : List Nat) : List (List PV) := (List.range zs.length).map fun (k : Nat) => [.c (.v (.int .i64 ((zs.length : Int) - 1 - (k : Int)))), .c (w32 (zs.getD (zs.length - 1 - k) 0))]
theorem oY (zs : List Nat) : (bkL zs).length = zs.length := by unfold bkL; simp
theorem yc {zs : List Nat} {k : Nat} (h : k < zs.length) : (bkL zs)[k]? = some [.c (.v (.int .i64 ((zs.length : Int) - 1 - (k : Int)))), .c (w32 (zs.getD (zs.length - 1 - k) 0))] := by
 unfold bkL; rw [List.getElem?_map, List.getElem?_range h]; rfl
theorem EF {zs : List Nat} {k : Nat} {x : List PV} (h : (bkL zs)[k]? = some x) : k < zs.length ∧ x = [.c (.v (.int .i64 ((zs.length : Int) - 1 - (k : Int)))), .c (w32 (zs.getD (zs.length - 1 - k) 0))] := by
 have hk : k < zs.length := by have := (List.getElem?_eq_some_iff.1 h).1; rwa [oY] at this
 rw [yc hk] at h
 exact ⟨hk, (Option.some.inj h).symm⟩
theorem EE (zs : List Nat) : ∀ x ∈ bkL zs, x.length = 2 := by
 intro x hx
 unfold bkL at hx
 obtain ⟨k, _, rfl⟩ := List.mem_map.1 hx
 rfl
def lwA (zs : List Nat) (k : Nat) : Nat := wv (zs.drop (zs.length - k))
theorem vP (zs : List Nat) : lwA zs 0 = 0 := by unfold lwA; rw [Nat.sub_zero, List.drop_length]; rfl
theorem DR (zs : List Nat) : lwA zs zs.length = wv zs := by unfold lwA; rw [Nat.sub_self]; rfl
theorem rP {zs : List Nat} {k : Nat} (h : k < zs.length) : lwA zs (k + 1) = lwA zs k * 4294967296 + zs.getD (zs.length - 1 - k) 0 := by
 unfold lwA
 have hi : zs.length - (k + 1) < zs.length := by omega
 rw [List.drop_eq_getElem_cons hi, show zs.length - (k + 1) + 1 = zs.length - k by omega]
 have e : zs.getD (zs.length - 1 - k) 0 = zs[zs.length - (k + 1)] := by
  rw [List.getD_eq_getElem?_getD, show zs.length - 1 - k = zs.length - (k + 1) by omega, List.getElem?_eq_getElem hi]; rfl
 rw [e]
 show _ + 4294967296 * _ = _
 omega
theorem Jj {zs : List Nat} (hok : okW zs) (h2 : zs.length ≤ 2) {k : Nat} (h : k < zs.length) : lwA zs k < 4294967296 := by
 rcases (show k = 0 ∨ k = 1 by omega) with rfl | rfl
 ·rw [vP]; omega
 have h0 : 0 < zs.length := by omega
 rw [rP h0, vP]
 have := hok.getD (zs.length - 1 - 0)
 omega
theorem Kj {m x : Nat} (hm : m < 4294967296) (hx : x < 4294967296) : bits .or .u64 ((m * 4294967296 : Nat) : Int) (x : Int) = ((m * 4294967296 + x : Nat) : Int) := by
 rw [mw rfl (fF (by omega)) (fF (by omega)), Nat.mul_comm m, show (4294967296 : Nat) = 2 ^ 32 by rfl, Nat.two_pow_add_eq_or_of_lt (i := 32) (by omega)]
def mQ (m : Nat) : Int := if m < 9223372036854775808 then m else (m : Int) - 18446744073709551616
theorem wC (z : Int) : IntKind.i64.wrap z = if 9223372036854775808 ≤ z % 18446744073709551616 then z % 18446744073709551616 - 18446744073709551616 else z % 18446744073709551616 := by
 simp [IntKind.wrap, IntKind.signed, IntKind.bits]
theorem FU {m : Nat} (h : m < 18446744073709551616) : IntKind.i64.wrap (m : Int) = mQ m := by
 rw [wC]
 unfold mQ
 split <;> split <;> omega
def yL (x : Int) : Int := if x < 0 then IntKind.i64.wrap (0 - mQ x.natAbs) else mQ x.natAbs
theorem ET {x : Int} (h : x < 0) : IntKind.i64.wrap (0 - mQ x.natAbs) = yL x := by unfold yL; rw [if_pos h]
theorem ES {x : Int} (h : ¬ x < 0) : mQ x.natAbs = yL x := by unfold yL; rw [if_neg h]
theorem uW {x : Int} (h : x.natAbs < 18446744073709551616) : (lwO x = true ∧ yL x = x) ∨ (lwO x = false ∧ ¬ yL x = 0 ∧ ¬ ((x < 0) ↔ (yL x < 0))) := by
 have hy : yL x = if x < 0 then (if x.natAbs ≤ 9223372036854775808 then x else 18446744073709551616 + x) else (if x < 9223372036854775808 then x else x - 18446744073709551616) := by
  unfold yL
  rw [wC]
  unfold mQ
  repeat' split
  all_goals omega
 rw [hy]
 unfold lwO
 by_cases hr : -9223372036854775808 ≤ x ∧ x < 9223372036854775808
 ·refine .inl ⟨decide_eq_true hr, ?_⟩
  repeat' split
  all_goals omega
 refine .inr ⟨decide_eq_false hr, ?_⟩
 repeat' split
 all_goals omega
theorem uA {x : Int} (h : x.natAbs < 18446744073709551616) (h1 : (decide (x < 0) != decide (yL x < 0)) = true) : AV.t [PE 0, PB false] = .t [PE (lwV x), PB (lwO x)] := by
 rcases uW h with ⟨a, b⟩ | ⟨a, b, c⟩
 ·rw [b] at h1; simp at h1
 unfold lwV; rw [a]; rfl
theorem rQ {x : Int} (h : x.natAbs < 18446744073709551616) (h1 : (decide (x < 0) != decide (yL x < 0)) = false) : AV.t [PE (yL x), PB true] = .t [PE (lwV x), PB (lwO x)] := by
 rcases uW h with ⟨a, b⟩ | ⟨a, b, c⟩
 ·unfold lwV; rw [a, b]; rfl
 exfalso
 apply c
 rw [bne_eq_false_iff_eq] at h1
 exact decide_eq_decide.1 h1
theorem pK {x : Int} (h : x.natAbs < 18446744073709551616) (h1 : yL x = 0) : AV.t [PE (yL x), PB true] = .t [PE (lwV x), PB (lwO x)] := by
 rcases uW h with ⟨a, b⟩ | ⟨a, b, c⟩
 ·unfold lwV; rw [a, b]; rfl
 exact absurd h1 b
end
section
open Go Go.RowKit
def pz0 (f : Fm) : Fm := if rfE f = 0 then prF (dsc f.a f.b f.c) else ⟨0, 0, 0⟩
theorem Kd {f : Fm} (h : ¬ rfE f = 0) : AV.t [PF ⟨0, 0, 0⟩, PE (rfE f)] = .t [PF (pz0 f), PE (rfE f)] := by unfold pz0; rw [if_neg h]
theorem Kc {f : Fm} (h : rfE f = 0) : AV.t [PF (prF (dsc f.a f.b f.c)), PE 0] = .t [PF (pz0 f), PE (rfE f)] := by unfold pz0; rw [if_pos h, h]
end
end Go.AM
