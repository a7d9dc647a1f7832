import Derived.Test.YthaiejfjnllglaaGreatDoorMBD
import Derived.Test.YthaiejfjnllglaaGreatDoorMBC
set_option maxRecDepth 100000
namespace Go.AM
section
open Go Go.RowKit
section
variable {α : Type}
structure SmG (l m : List α) (k : Nat) : Prop where
 len : l.length = m.length
 le : k ≤ l.length
 eq : l.take k = m.take k
theorem SmG.start {l m : List α} (h : l.length = m.length) : SmG l m 0 := ⟨h, Nat.zero_le _, by simp⟩
theorem kX {l : List α} {k : Nat} (h : k < l.length) (d : α) : l[k]? = some (l.getD k d) := by
 rw [List.getD_eq_getElem?_getD, List.getElem?_eq_getElem h]; rfl
theorem SmG.next {l m : List α} {k : Nat} {d : α} (i : SmG l m k) (hk : k < l.length) (h : l.getD k d = m.getD k d) : SmG l m (k + 1) :=
 ⟨i.len, hk, by rw [fe (kX hk d), fe (kX (by have := i.len; omega) d), i.eq, h]⟩
theorem SmG.yes {l m : List α} {k : Nat} (i : SmG l m k) (hk : ¬ k < l.length) : l = m := by
 have h := i.eq
 rw [List.take_of_length_le (by omega), List.take_of_length_le (by have := i.len; omega)] at h
 exact h
theorem SmG.no {l m : List α} {k : Nat} {d : α} (h : ¬ l.getD k d = m.getD k d) : ¬ l = m := fun e => h (by rw [e])
def iY (p : α → Bool) : List α → Nat → Int
 | [], _ => -1
 | x :: l, k => if p x = true then (k : Int) else iY p l (k + 1)
theorem x8 {p : α → Bool} {l : List α} {k : Nat} {d : α} (h : k < l.length) (hp : p (l.getD k d) = false) : iY p (l.drop k) k = iY p (l.drop (k + 1)) (k + 1) := by
 rw [List.drop_eq_getElem_cons h]
 show (if p l[k] = true then (k : Int) else iY p (l.drop (k + 1)) (k + 1)) = _
 rw [List.getD_eq_getElem?_getD, List.getElem?_eq_getElem h] at hp
 simp only [Option.getD_some] at hp
 rw [if_neg (by rw [hp]; decide)]
theorem AF {p : α → Bool} {l : List α} {k : Nat} {d : α} (h : k < l.length) (hp : p (l.getD k d) = true) : iY p (l.drop k) k = k := by
 rw [List.drop_eq_getElem_cons h]
 show (if p l[k] = true then (k : Int) else iY p (l.drop (k + 1)) (k + 1)) = _
 rw [List.getD_eq_getElem?_getD, List.getElem?_eq_getElem h] at hp
 simp only [Option.getD_some] at hp
 rw [if_pos hp]
theorem AG {p : α → Bool} {l : List α} {k : Nat} (h : l.length ≤ k) : iY p (l.drop k) k = -1 := by
 rw [List.drop_eq_nil_of_le h]; rfl
theorem sR {p : α → Bool} : ∀ (l : List α) (k : Nat), decide (iY p l k ≥ 0) = l.any p
 | [], _ => rfl
 | x :: l, k => by
  rw [List.any_cons]
  unfold iY
  cases h : p x with
  | true => rw [if_pos rfl, Bool.true_or, decide_eq_true_eq]; omega
  | false => rw [if_neg (by decide), Bool.false_or]; exact sR l (k + 1)
end
theorem Ic {o : Fm} {l : List Fm} : (l.any fun g => decide (g.a = o.a ∧ g.b = o.b ∧ g.c = o.c)) = decide (o ∈ l) := by
 rw [Bool.eq_iff_iff, List.any_eq_true, decide_eq_true_eq]
 constructor
 ·rintro ⟨g, hg, h⟩
  rw [decide_eq_true_eq] at h
  have : g = o := Fm.ext h.1 h.2.1 h.2.2
  exact this ▸ hg
 intro h; exact ⟨o, h, by simp⟩
section
variable {D : Int} {m : Nat} {f : Fm} {a : Ans}
def rgV (D : Int) (m : Nat) (f : Fm) (a : Ans) : Bool := if a.kind = 1 then qC f m (a.x, a.y) else if a.kind = 2 then j6 D m f a.m else jB D m f a.roots a.forms
theorem Kh (h : a.kind = 1) (h1 : decide ((Int.gcd a.x a.y : Int) = 1) = true) : decide (vl f.a f.b f.c a.x a.y = m) = rgV D m f a := by
 unfold rgV qC
 have := dT0 h1
 rw [if_pos h, show decide (Int.gcd (a.x, a.y).1 (a.x, a.y).2 = 1) = true from decide_eq_true (by show Int.gcd a.x a.y = 1; omega), Bool.true_and]
theorem IK (h : a.kind = 1) (h1 : decide ((Int.gcd a.x a.y : Int) = 1) = false) : false = rgV D m f a := by
 unfold rgV qC
 have := dF0 h1
 rw [if_pos h, show decide (Int.gcd (a.x, a.y).1 (a.x, a.y).2 = 1) = false from decide_eq_false (by show ¬ Int.gcd a.x a.y = 1; omega), Bool.false_and]
theorem zA (h1 : ¬ a.kind = 1) (h2 : a.kind = 2) {b : Bool} (h : j6 D m f a.m = b) : b = rgV D m f a := by
 unfold rgV; rw [if_neg h1, if_pos h2, h]
theorem vx (h1 : ¬ a.kind = 1) (h2 : ¬ a.kind = 2) {b : Bool} (h : jB D m f a.roots a.forms = b) : b = rgV D m f a := by
 unfold rgV; rw [if_neg h1, if_neg h2, h]
def AgN (D : Int) (m : Nat) (f : Fm) (x : Int) (k : Nat) : Prop := x ∉ (agL D m f).take k
theorem AgN.start {x : Int} : AgN D m f x 0 := by unfold AgN; simp
theorem AgN.next {x c : Int} {k : Nat} (h : AgN D m f x k) (hc : (agL D m f)[k]? = some c) (hn : ¬ x = c) : AgN D m f x (k + 1) := by
 unfold AgN at *
 rw [fe hc, List.mem_append]
 rintro (q | q)
 ·exact h q
 simp only [List.mem_cons, List.not_mem_nil, or_false] at q; exact hn q
theorem AgN.done {x : Int} {k : Nat} (h : AgN D m f x k) (hk : k = ((agL D m f).map fun c => ([PE c] : List PV)).length) : x ∉ agL D m f := by
 unfold AgN at h
 rw [List.length_map] at hk
 rwa [hk, List.take_length] at h
def PtX (m : Nat) (x : Int) (k : Nat) : Prop := ∀ q ∈ (parts m).take k, x ≠ (q : Int)
theorem PtX.start {x : Int} : PtX m x 0 := fun q hq => by simp at hq
theorem PtX.next {x : Int} {k q : Nat} (h : PtX m x k) (hq : (parts m)[k]? = some q) (hn : ¬ x = (q : Int)) : PtX m x (k + 1) := by
 intro q' hq'
 rw [fe hq, List.mem_append] at hq'
 rcases hq' with z | z
 ·exact h q' z
 simp only [List.mem_cons, List.not_mem_nil, or_false] at z; subst z; exact hn
theorem Gs {x c : Int} {k : Nat} (hc : (agL D m f)[k]? = some c) (h : x = c) : j6 D m f x = true := Dp (by rw [h]; exact List.mem_of_getElem? hc)
theorem Gq {x : Int} {k q : Nat} (hn : x ∉ agL D m f) (hq : (parts m)[k]? = some q) (h : x = (q : Int)) : j6 D m f x = decide (rbL D (q : Int) = []) := by
 unfold j6
 rw [decide_eq_false hn, Bool.false_or, decide_eq_true (List.mem_map.2 ⟨q, List.mem_of_getElem? hq, h.symm⟩), Bool.true_and, h]
theorem Gr {x : Int} {k : Nat} (hn : x ∉ agL D m f) (h : PtX m x k) (hk : k = ((parts m).map fun (q : Nat) => ([PE (q : Int)] : List PV)).length) : j6 D m f x = false := by
 unfold j6
 rw [decide_eq_false hn, Bool.false_or, Bool.and_eq_false_iff]
 left
 rw [decide_eq_false_iff_not]
 intro hm
 obtain ⟨q, hq, e⟩ := List.mem_map.1 hm
 exact h q (by rw [hk, List.length_map, List.take_length]; exact hq) e.symm
theorem rg3 {roots : List Int} {forms : List Fm} (h1 : decide (((fmL D m).length : Int) > 0) = true) (h2 : decide (roots = rbL D m) = true) (h3 : decide (forms = fmL D m) = true) :
  jB D m f roots forms = !decide (f.rd ∈ fmL D m) := by
 have h4 := dT0 h1
 unfold jB
 rw [h2, h3, decide_eq_true]
 ·simp
 intro e; unfold fmL at h4; rw [e] at h4; simp at h4
theorem IX {roots : List Int} {forms : List Fm} (h1 : decide (((fmL D m).length : Int) > 0) = false) : jB D m f roots forms = false := by
 have h4 := dF0 h1
 have : rbL D m = [] := by
  unfold fmL at h4
  rw [List.length_map] at h4
  exact List.length_eq_zero_iff.1 (by omega)
 unfold jB
 rw [this]; rfl
theorem IW {roots : List Int} {forms : List Fm} (h2 : decide (roots = rbL D m) = false) : jB D m f roots forms = false := by
 unfold jB; rw [h2]; simp
theorem IV {roots : List Int} {forms : List Fm} (h3 : decide (forms = fmL D m) = false) : jB D m f roots forms = false := by
 unfold jB; rw [h3]; simp
theorem JK {hm : m ≤ 65536} : ((fmL D m).length : Int) ≤ 131072 := by
 have := sP D m hm; omega
def nI (a : RA) : List (Int × Bool) := [(1, decide (a.m.2 = []) && decide (((a.roots.length + a.forms.length : Nat) : Int) = 0)), (2, (decide (a.x.2 = []) && decide (a.y.2 = [])) && decide (((a.roots.length + a.forms.length : Nat) : Int) = 0)), (3, (decide (a.x.2 = []) && decide (a.y.2 = [])) && decide (a.m.2 = []))]
theorem H4 {a : RA} {r : Rw} (h : r ∈ a.nums) (hv : rV r = false) : false = rgA D m f a := by
 unfold rgA
 rw [(List.all_eq_false.2 ⟨r, h, by rw [hv]; decide⟩), Bool.false_and]
theorem qh {a : RA} (h : ∀ r ∈ a.nums, rV r = true) : rgA D m f a = (((nI a).lookup a.kind).getD false && rgV D m f a.ans) := by
 have hx := zO (h a.x (by unfold RA.nums; simp))
 have hy := zO (h a.y (by unfold RA.nums; simp))
 have hm := zO (h a.m (by unfold RA.nums; simp))
 have hl : decide (((a.roots.length + a.forms.length : Nat) : Int) = 0) = decide (a.ans.roots = [] ∧ a.ans.forms = []) := by
  rw [decide_eq_decide]
  unfold RA.ans
  simp only [List.map_eq_nil_iff]
  constructor
  ·intro e; exact ⟨List.length_eq_zero_iff.1 (by omega), List.length_eq_zero_iff.1 (by omega)⟩
  rintro ⟨e1, e2⟩; rw [e1, e2]; rfl
 unfold rgA nI
 rw [List.all_eq_true.2 h, Bool.true_and, hx, hy, hm, hl]
 unfold rgt rgV
 have ek : a.ans.kind = a.kind := rfl
 have e1 : (decide (rZ a.x = 0) && decide (rZ a.y = 0)) = decide (a.ans.x = 0 ∧ a.ans.y = 0) := by
  show _ = decide (rZ a.x = 0 ∧ rZ a.y = 0)
  rw [Bool.decide_and]
 have e2 : decide (rZ a.m = 0) = decide (a.ans.m = 0) := rfl
 rw [e1, e2, ek]
 generalize a.ans = b at *
 by_cases k1 : a.kind = 1
 ·rw [k1]; simp [List.lookup]
 by_cases k2 : a.kind = 2
 ·rw [k2]; simp [List.lookup]
 by_cases k3 : a.kind = 3
 ·rw [k3]; simp [List.lookup]
 have f1 : (a.kind == 1) = false := by simpa using k1
 have f2 : (a.kind == 2) = false := by simpa using k2
 have f3 : (a.kind == 3) = false := by simpa using k3
 rw [if_neg k1, if_neg k2, if_neg k3]
 simp [List.lookup, f1, f2, f3]
theorem JT {a : RA} (h : ∀ r ∈ a.nums, rV r = true) {u : Bool} (hu : ((nI a).lookup a.kind).getD false = u) (ht : u = true) : rgV D m f a.ans = rgA D m f a := by
 rw [qh h, hu, ht, Bool.true_and]
theorem JU {a : RA} (h : ∀ r ∈ a.nums, rV r = true) {u : Bool} (hu : ((nI a).lookup a.kind).getD false = u) (ht : u = false) : false = rgA D m f a := by
 rw [qh h, hu, ht, Bool.false_and]
end
end
section
open Go Go.RowKit
section
variable {r : Rw}
theorem xe (h : ((r.2.length : Nat) : Int) = 0) : r.2 = [] := List.length_eq_zero_iff.1 (by omega)
theorem vw (h : ¬ ((r.2.length : Nat) : Int) = 0) : r.2 ≠ [] := fun e => h (by rw [e]; rfl)
theorem Km (h : ((r.2.length : Nat) : Int) = 0) : (!r.1) = rV r := by unfold rV; rw [if_pos (xe h)]
theorem Kl (h : ¬ ((r.2.length : Nat) : Int) = 0) : (((r.2.getD (((r.2.length : Nat) : Int) - 1).toNat 0 : Nat) : Int) != 0) = rV r := by
 unfold rV
 rw [if_neg (vw h), show (((r.2.length : Nat) : Int) - 1).toNat = r.2.length - 1 by omega]
 generalize r.2.getD (r.2.length - 1) 0 = x
 rw [Bool.eq_iff_iff, bne_iff_ne, decide_eq_true_eq]
 omega
def rsg (r : Rw) : Int := if r.2 = [] then 0 else if r.1 = true then -1 else 1
theorem IP (h : ((r.2.length : Nat) : Int) = 0) : 0 = rsg r := by unfold rsg; rw [if_pos (xe h)]
theorem IN (h : ¬ ((r.2.length : Nat) : Int) = 0) (h1 : r.1 = true) : -1 = rsg r := by unfold rsg; rw [if_neg (vw h), if_pos h1]
theorem IM (h : ¬ ((r.2.length : Nat) : Int) = 0) (h1 : r.1 = false) : 1 = rsg r := by unfold rsg; rw [if_neg (vw h), if_neg (by rw [h1]; decide)]
theorem IL : (rsg r == 0) = decide (r.2 = []) := by
 unfold rsg
 by_cases h : r.2 = []
 ·rw [if_pos h, decide_eq_true h]; rfl
 rw [if_neg h, decide_eq_false h]; split <;> rfl
end
def VaK (l : List Rw) (k : Nat) : Prop := ∀ r ∈ l.take k, rV r = true
theorem VaK.start {l : List Rw} : VaK l 0 := fun r hr => by simp at hr
theorem VaK.next {l : List Rw} {k : Nat} {d : Rw} (h : VaK l k) (hk : k < l.length) (hv : rV (l.getD k d) = true) : VaK l (k + 1) := by
 intro r hr
 rw [fe (kX hk d), List.mem_append] at hr
 rcases hr with z | z
 ·exact h r z
 simp only [List.mem_cons, List.not_mem_nil, or_false] at z; subst z; exact hv
theorem VaK.done {l : List Rw} {k : Nat} (h : VaK l k) (hk : l.length ≤ k) : ∀ r ∈ l, rV r = true := by
 unfold VaK at h; rwa [List.take_of_length_le hk] at h
def eK (a : RA) (k : Nat) : List Rw := [a.x, a.y, a.m] ++ a.roots ++ (a.forms.take k).flatMap rfL
theorem G9 (a : RA) : ([.v (.bool a.x.1), W a.x.2, .v (.bool a.y.1), W a.y.2, .v (.bool a.m.1), W a.m.2] ++ a.roots.flatMap rC : List DV) = (eK a 0).flatMap rC := by
 unfold eK; simp
theorem G8 {a : RA} {k : Nat} {f : RF} (h : a.forms[k]? = some f) : (eK a k).flatMap rC ++ rfC f = (eK a (k + 1)).flatMap rC := by
 unfold eK
 rw [fe h]
 simp [rfL]
theorem Ac {a : RA} {k : Nat} (h : a.forms.length ≤ k) : eK a k = a.nums := by
 unfold eK RA.nums; rw [List.take_of_length_le h]
theorem r9 {a : RA} {k : Nat} : (eK a k).length ≤ 3 + a.roots.length + 3 * a.forms.length := by
 unfold eK
 have : ∀ l : List RF, (l.flatMap rfL).length = 3 * l.length := by
  intro l
  induction l with
  | nil => rfl
  | cons f l ih => rw [List.flatMap_cons, List.length_append, ih]; simp [rfL]; omega
 rw [List.length_append, List.length_append, this, List.length_take]
 simp only [List.length_cons, List.length_nil]
 omega
end
section
open Go Go.RowKit
theorem Jk {k n : Nat} (h : 32 * k ≤ n) : (4294967296 : Nat) ^ k ≤ 2 ^ n := by
 rw [show (4294967296 : Nat) = 2 ^ 32 by rfl, ← Nat.pow_mul]
 exact Nat.pow_le_pow_right (by decide) h
theorem Jg {n : Nat} {r : Rw} (ho : okW r.2) (h : 32 * r.2.length ≤ 2 ^ n) : L n (rZ r) := by
 have h1 := eL ho
 have h2 : (rZ r).natAbs = wv r.2 := by unfold rZ sg; split <;> simp
 unfold L
 rw [h2]
 exact Nat.lt_of_lt_of_le h1 (Jk h)
theorem GK {r : Rw} (ho : okW r.2) (h : r.2.length ≤ 1000) : L 30 (rZ r) := Jg ho (Nat.le_trans (Nat.mul_le_mul_left 32 h) (by decide))
theorem uR {x y : Nat} : (((x : Nat) : Int) + ((y : Nat) : Int) == 0) = decide (((x + y : Nat) : Int) = 0) := by
 rw [Bool.eq_iff_iff, beq_iff_eq, decide_eq_true_eq]
 omega
theorem GB {a : RA} : a.x ∈ a.nums := by unfold RA.nums; simp
theorem GA {a : RA} : a.y ∈ a.nums := by unfold RA.nums; simp
theorem ra_len {a : RA} : a.ans.roots.length = a.roots.length ∧ a.ans.forms.length = a.forms.length := by unfold RA.ans; simp
end
section
open Go Go.RowKit
section
variable {P : Program} {tt : TT} (hT : dO P tt)
variable {dst : Option Nat} {ty : TypeId} {pos : String} {af : Array Edge} {gd : Option (Nat × Bool)} {d : Nat} {ρ : Operand → AV} {own : Own} {T : TypeId} {i : TyI} {x y : Operand}
include hT in
theorem jX {e l : Nat} {j : TyI} {k : IntKind} {n : Int} {xs : List DV} (ht : tt T = some i) (hs : i.sh = .ar l e) (he : tt e = some j) (hx : ρ x = .ip xs) (hy : ρ y = .p (.c (.v (.int k n)))) (hn : 0 ≤ n ∧ n < l) :
  Eff P ⟨dst, .indexAddr T x y, ty, pos, af, gd⟩ d ρ own (.ip (xs.drop (n.toNat * j.size))) [] none [] :=
 bB fun C h r own' a w hrep hrd hw => by
  have e1 := hrep x (by simp [Op.operands])
  have e2 := hrep y (by simp [Op.operands])
  rw [hx] at e1; rw [hy] at e2
  obtain ⟨b, off, c, e', fr, h1, h2, h3⟩ := e1
  refine ⟨.pointer (some ⟨b, off + n.toNat * j.size, none⟩), ?_, b, off + n.toNat * j.size, c, e', fr, rfl, h2, ?_⟩
  ·have hu := (hT T i ht).array hs
   simp only [execOp, h1, bW e2, Instr.indexAt, asIntOf, Sem.run_bind, Sem.run_pure, Result.andThen_ok, run_underlying hu, Instr.sureAddr, hn, and_self, if_true, (hT e j he).size, Addr.add_lit]
  exact (h3.drop (n.toNat * j.size)).congr fun k _ => by rw [Nat.add_assoc]
end
def sA (a b : Ans) : Bool := decide (a.kind = b.kind ∧ a.x = b.x ∧ a.y = b.y ∧ a.m = b.m ∧ a.roots = b.roots ∧ a.forms = b.forms)
theorem cQ (a : Ans) : (!sA a a) = false := by unfold sA; simp
theorem Kg {a b : Ans} (h0 : a.kind = b.kind) (h1 : a.x = b.x) (h2 : a.y = b.y) (h3 : a.m = b.m) (h4 : a.roots = b.roots) : decide (a.forms = b.forms) = sA a b := by
 unfold sA
 rw [decide_eq_decide]
 exact ⟨fun h => ⟨h0, h1, h2, h3, h4, h⟩, fun z => z.2.2.2.2.2⟩
theorem lV : Cl (-23) ⟨2, 1, 3⟩ := ⟨⟨by decide, by decide⟩, by decide +kernel, rfl⟩
theorem HS : Cl (-20) ⟨1, 0, 5⟩ := ⟨⟨by decide, by decide⟩, by decide +kernel, rfl⟩
theorem JM : Cl (-4) ⟨1, 0, 1⟩ := ⟨⟨by decide, by decide⟩, by decide +kernel, rfl⟩
end
section
open Go Go.RowKit
theorem gX {z : Int} (h : L 8 z) : (el z).2.length ≤ 1000 := by
 have := qO (n := 3) h
 show (wl z.natAbs).length ≤ 1000
 omega
theorem Dw {a : Ans} (hx : L 8 a.x) (hy : L 8 a.y) (hz : L 8 a.m) (hr : ∀ z ∈ a.roots, L 8 z) (hg : ∀ g ∈ a.forms, L 8 g.a ∧ L 8 g.b ∧ L 8 g.c) : ∀ r ∈ (jE a).nums, r.2.length ≤ 1000 := by
 intro r h
 unfold RA.nums jE at h
 simp only [List.mem_append, List.mem_cons, List.not_mem_nil, or_false, List.mem_map, List.mem_flatMap] at h
 rcases h with ((h | h | h) | ⟨z, h1, h⟩) | ⟨f, ⟨g, h1, rfl⟩, h⟩
 ·rw [h]; exact gX hx
 ·rw [h]; exact gX hy
 ·rw [h]; exact gX hz
 ·rw [← h]; exact gX (hr z h1)
 simp only [rfL, List.mem_cons, List.not_mem_nil, or_false] at h
 obtain ⟨g1, g2, g3⟩ := hg g h1
 rcases h with h | h | h
 ·rw [h]; exact gX g1
 ·rw [h]; exact gX g2
 rw [h]; exact gX g3
end
section
open Go Go.RowKit
def hM (p j : Int) : Mt := if j < p then ⟨p, j, 0, 1⟩ else ⟨1, 0, 0, p⟩
def gdV (p a b c j : Int) : Int := if j < p then a * j * j + b * j + c else a
def gd (p : Int) (f : Fm) (j : Int) : Bool := decide (gdV p f.a f.b f.c j % p ≠ 0)
section
end
end
section
open Go Go.RowKit
section
end
end
section
open Go Go.RowKit
theorem Dc (D : Nat) : (-szz D) % 4 = 0 ∨ (-szz D) % 4 = 1 := by
 have := uf D
 unfold szE at this
 split at this
 ·cases this
 omega
theorem xy {D n : Int} {f : Fm} : (prS D n f).length = (prL D n f).length := uh
theorem Bh {a b c x y : Int} {A : Nat} (ha : a.natAbs ≤ A) (hb : b.natAbs ≤ A) (hc : c.natAbs ≤ A) (hx : x.natAbs ≤ 17) (hy : y.natAbs ≤ 17) : (vl a b c x y).natAbs ≤ A * 867 := by
 unfold vl
 have h1 := bm (bm ha hx) hx
 have h2 := bm (bm hb hx) hy
 have h3 := bm (bm hc hy) hy
 omega
theorem Ib {a b c p q r s : Int} {A : Nat} (ha : a.natAbs ≤ A) (hb : b.natAbs ≤ A) (hc : c.natAbs ≤ A) (hp : p.natAbs ≤ 17) (hq : q.natAbs ≤ 17) (hr : r.natAbs ≤ 17) (hs : s.natAbs ≤ 17) : (apB a b c p q r s).natAbs ≤ A * 1734 := by
 unfold apB
 have h1 := bm (bm ha hp) hq
 have h2 := bm (bm hc hr) hs
 have h3 := bm hp hs
 have h4 := bm hq hr
 have h5 := bm hb (show (p * s + q * r).natAbs ≤ 578 by omega)
 omega
theorem tx {f : Fm} {A b : Nat} (hb : b < 256) (h : f.a.natAbs ≤ A ∧ f.b.natAbs ≤ A ∧ f.c.natAbs ≤ A) : (f.app (bR b)).a.natAbs ≤ A * 1734 ∧ (f.app (bR b)).b.natAbs ≤ A * 1734 ∧ (f.app (bR b)).c.natAbs ≤ A * 1734 := by
 obtain ⟨⟨ta, tb⟩, tc, td⟩ := ue ⟨b, hb⟩
 simp only at ta tb tc td
 have h1 : (f.app (bR b)).a.natAbs ≤ A * 867 := Bh h.1 h.2.1 h.2.2 ta tc
 have h2 : (f.app (bR b)).b.natAbs ≤ A * 1734 := Ib h.1 h.2.1 h.2.2 ta tb tc td
 have h3 : (f.app (bR b)).c.natAbs ≤ A * 867 := Bh h.1 h.2.1 h.2.2 tb td
 exact ⟨Nat.le_trans h1 (Nat.mul_le_mul_left _ (by decide)), h2, Nat.le_trans h3 (Nat.mul_le_mul_left _ (by decide))⟩
theorem Hb {D i m t0 t1 : Nat} (hm : m < 256) (h0 : t0 < 256) (h1 : t1 < 256) : L 6 (((mkF D i m).app (bR t0)).app (bR t1)).a ∧ L 6 (((mkF D i m).app (bR t0)).app (bR t1)).b ∧ L 6 (((mkF D i m).app (bR t0)).app (bR t1)).c := by
 have h := tx h1 (tx h0 (lP (D := D) (i := i) hm))
 exact ⟨mK (Nat.le_trans h.1 (by decide)), mK (Nat.le_trans h.2.1 (by decide)), mK (Nat.le_trans h.2.2 (by decide))⟩
end
section
open Go Go.RowKit
theorem EF {D : Int} {m : Nat} {f : Fm} (hm : m ≤ 65536) : (fnd D m f).roots.length ≤ 131072 ∧ (fnd D m f).forms.length ≤ 131072 := by
 have h1 := nR D m hm
 have h2 := sP D m hm
 unfold fnd
 split
 ·exact ⟨Nat.zero_le _, Nat.zero_le _⟩
 split
 ·exact ⟨Nat.zero_le _, Nat.zero_le _⟩
 split
 ·exact ⟨Nat.zero_le _, Nat.zero_le _⟩
 exact ⟨h1, h2⟩
end
section
open Go Go.RowKit
def bkL (zs : List Nat) : List (List PV) := (List.range zs.length).map fun (k : Nat) => [.c (.v (.int .i64 ((zs.length : Int) - 1 - (k : Int)))), .c (w32 (zs.getD (zs.length - 1 - k) 0))]
theorem px (zs : List Nat) : (bkL zs).length = zs.length := by unfold bkL; simp
theorem yq {zs : List Nat} {k : Nat} (h : k < zs.length) : (bkL zs)[k]? = some [.c (.v (.int .i64 ((zs.length : Int) - 1 - (k : Int)))), .c (w32 (zs.getD (zs.length - 1 - k) 0))] := by
 unfold bkL; rw [List.getElem?_map, List.getElem?_range h]; rfl
theorem EY {zs : List Nat} {k : Nat} {x : List PV} (h : (bkL zs)[k]? = some x) : k < zs.length ∧ x = [.c (.v (.int .i64 ((zs.length : Int) - 1 - (k : Int)))), .c (w32 (zs.getD (zs.length - 1 - k) 0))] := by
 have hk : k < zs.length := by have := (List.getElem?_eq_some_iff.1 h).1; rwa [px] at this
 rw [yq hk] at h
 exact ⟨hk, (Option.some.inj h).symm⟩
theorem EX (zs : List Nat) : ∀ x ∈ bkL zs, x.length = 2 := by
 intro x hx
 unfold bkL at hx
 obtain ⟨k, _, rfl⟩ := List.mem_map.1 hx
 rfl
def lwA (zs : List Nat) (k : Nat) : Nat := wv (zs.drop (zs.length - k))
theorem wc (zs : List Nat) : lwA zs 0 = 0 := by unfold lwA; rw [Nat.sub_zero, List.drop_length]; rfl
theorem Ec (zs : List Nat) : lwA zs zs.length = wv zs := by unfold lwA; rw [Nat.sub_self]; rfl
theorem se {zs : List Nat} {k : Nat} (h : k < zs.length) : lwA zs (k + 1) = lwA zs k * 4294967296 + zs.getD (zs.length - 1 - k) 0 := by
 unfold lwA
 have hi : zs.length - (k + 1) < zs.length := by omega
 rw [List.drop_eq_getElem_cons hi, show zs.length - (k + 1) + 1 = zs.length - k by omega]
 have e : zs.getD (zs.length - 1 - k) 0 = zs[zs.length - (k + 1)] := by
  rw [List.getD_eq_getElem?_getD, show zs.length - 1 - k = zs.length - (k + 1) by omega, List.getElem?_eq_getElem hi]; rfl
 rw [e]
 show _ + 4294967296 * _ = _
 omega
theorem Jx {zs : List Nat} (hok : okW zs) (h2 : zs.length ≤ 2) {k : Nat} (h : k < zs.length) : lwA zs k < 4294967296 := by
 rcases (show k = 0 ∨ k = 1 by omega) with rfl | rfl
 ·rw [wc]; omega
 have h0 : 0 < zs.length := by omega
 rw [se h0, wc]
 have := hok.getD (zs.length - 1 - 0)
 omega
theorem Kw {m x : Nat} (hm : m < 4294967296) (hx : x < 4294967296) : bits .or .u64 ((m * 4294967296 : Nat) : Int) (x : Int) = ((m * 4294967296 + x : Nat) : Int) := by
 rw [mG rfl (fG (by omega)) (fG (by omega)), Nat.mul_comm m, show (4294967296 : Nat) = 2 ^ 32 by rfl, Nat.two_pow_add_eq_or_of_lt (i := 32) (by omega)]
def na (m : Nat) : Int := if m < 9223372036854775808 then m else (m : Int) - 18446744073709551616
theorem wU (z : Int) : IntKind.i64.wrap z = if 9223372036854775808 ≤ z % 18446744073709551616 then z % 18446744073709551616 - 18446744073709551616 else z % 18446744073709551616 := by
 simp [IntKind.wrap, IntKind.signed, IntKind.bits]
theorem Gg {m : Nat} (h : m < 18446744073709551616) : IntKind.i64.wrap (m : Int) = na m := by
 rw [wU]
 unfold na
 split <;> split <;> omega
def yL (x : Int) : Int := if x < 0 then IntKind.i64.wrap (0 - na x.natAbs) else na x.natAbs
theorem Fg {x : Int} (h : x < 0) : IntKind.i64.wrap (0 - na x.natAbs) = yL x := by unfold yL; rw [if_pos h]
theorem Ff {x : Int} (h : ¬ x < 0) : na x.natAbs = yL x := by unfold yL; rw [if_neg h]
theorem vm {x : Int} (h : x.natAbs < 18446744073709551616) : (lwO x = true ∧ yL x = x) ∨ (lwO x = false ∧ ¬ yL x = 0 ∧ ¬ ((x < 0) ↔ (yL x < 0))) := by
 have hy : yL x = if x < 0 then (if x.natAbs ≤ 9223372036854775808 then x else 18446744073709551616 + x) else (if x < 9223372036854775808 then x else x - 18446744073709551616) := by
  unfold yL
  rw [wU]
  unfold na
  repeat' split
  all_goals omega
 rw [hy]
 unfold lwO
 by_cases hr : -9223372036854775808 ≤ x ∧ x < 9223372036854775808
 ·refine .inl ⟨decide_eq_true hr, ?_⟩
  repeat' split
  all_goals omega
 refine .inr ⟨decide_eq_false hr, ?_⟩
 repeat' split
 all_goals omega
theorem uS {x : Int} (h : x.natAbs < 18446744073709551616) (h1 : (decide (x < 0) != decide (yL x < 0)) = true) : AV.t [PE 0, PB false] = .t [PE (lwV x), PB (lwO x)] := by
 rcases vm h with ⟨a, b⟩ | ⟨a, b, c⟩
 ·rw [b] at h1; simp at h1
 unfold lwV; rw [a]; rfl
theorem sf {x : Int} (h : x.natAbs < 18446744073709551616) (h1 : (decide (x < 0) != decide (yL x < 0)) = false) : AV.t [PE (yL x), PB true] = .t [PE (lwV x), PB (lwO x)] := by
 rcases vm h with ⟨a, b⟩ | ⟨a, b, c⟩
 ·unfold lwV; rw [a, b]; rfl
 exfalso
 apply c
 rw [bne_eq_false_iff_eq] at h1
 exact decide_eq_decide.1 h1
theorem p5 {x : Int} (h : x.natAbs < 18446744073709551616) (h1 : yL x = 0) : AV.t [PE (yL x), PB true] = .t [PE (lwV x), PB (lwO x)] := by
 rcases vm h with ⟨a, b⟩ | ⟨a, b, c⟩
 ·unfold lwV; rw [a, b]; rfl
 exact absurd h1 b
end
section
open Go Go.RowKit
def pz0 (f : Fm) : Fm := if rfE f = 0 then prF (dsc f.a f.b f.c) else ⟨0, 0, 0⟩
theorem Kq {f : Fm} (h : ¬ rfE f = 0) : AV.t [PF ⟨0, 0, 0⟩, PE (rfE f)] = .t [PF (pz0 f), PE (rfE f)] := by unfold pz0; rw [if_neg h]
theorem Kp {f : Fm} (h : rfE f = 0) : AV.t [PF (prF (dsc f.a f.b f.c)), PE 0] = .t [PF (pz0 f), PE (rfE f)] := by unfold pz0; rw [if_pos h, h]
end
end Go.AM
