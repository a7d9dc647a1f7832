/- Texts merged by program, in build order. -/
import Derived.Test.YtpaifigafaijpaaGreatDoorSC
import Derived.ChangeKeysEq
import Derived.Laws.StructEq
section
/- The values of a form, as a list. -/
namespace Go.AM
open Go Go.RowKit
section
variable {f : Fm}
theorem gp_1 (h : ¬ ck f.a f.b f.c = 0) : AV.t [PE 0, PE (ck f.a f.b f.c)] = .t [PE (gpV f), PE (gpE f)] := by
  have e : gpE f = ck f.a f.b f.c := by unfold gpE; rw [if_pos h]
  unfold gpV; rw [e, if_neg h]
theorem gp_2 (h : ck f.a f.b f.c = 0) (h1 : szE (dsc f.a f.b f.c) = 0) (h2 : prim f.a f.b f.c = false) : AV.t [PE 0, PE 80] = .t [PE (gpV f), PE (gpE f)] := by
  have e : gpE f = 80 := by unfold gpE; rw [if_neg (fun x => x h), if_neg (fun x => x h1), if_neg (by rw [h2]; decide)]
  unfold gpV; rw [e]; rfl
theorem gp_3 (h : ck f.a f.b f.c = 0) (h1 : szE (dsc f.a f.b f.c) = 0) (h2 : prim f.a f.b f.c = true) : AV.t [PE (gnV (dsc f.a f.b f.c)), PE (szE (dsc f.a f.b f.c))] = .t [PE (gpV f), PE (gpE f)] := by
  have e : gpE f = 0 := by unfold gpE; rw [if_neg (fun x => x h), if_neg (fun x => x h1), if_pos h2]
  unfold gpV gnV; rw [e, h1]
theorem gp_4 (h : ck f.a f.b f.c = 0) (h1 : ¬ szE (dsc f.a f.b f.c) = 0) : AV.t [PE (gnV (dsc f.a f.b f.c)), PE (szE (dsc f.a f.b f.c))] = .t [PE (gpV f), PE (gpE f)] := by
  have e : gpE f = szE (dsc f.a f.b f.c) := by unfold gpE; rw [if_neg (fun x => x h), if_pos h1]
  unfold gpV gnV; rw [e, if_neg h1]
end
/-- a number that the form represents, without a common divisor with 2 d -/
def gN (f : Fm) (d : Int) : Int := (f.rd.app (cpM f.rd (2 * d))).a
theorem gN_ok {d : Int} {f : Fm} (hf : Cl d f) (hd : -4194304 ≤ d) (h0 : d < 0) : RpN f.rd (gN f d) ∧ Int.gcd (gN f d) (2 * d) = 1 := by
  have hp := hf.rd.prim
  have h1 := (cp_ex (f := f.rd) (a := 2 * d) hp (by omega) (by omega)).1
  exact ⟨⟨_, _, rfl⟩, (cp_det h1).2⟩
def gvL (f : Fm) : List Int := if gpE f = 0 then (chs (dsc f.a f.b f.c)).map (fun c => cv c (gN f (dsc f.a f.b f.c))) else []
theorem gv_map {d N : Int} {f : Fm} (hf : Cl d f) (hd : -4194304 ≤ d) (h0 : d < 0) (hE : szE d = 0) (hN : RpN f.rd N) (cN : Int.gcd N (2 * d) = 1) : (chs d).map (fun c => cv c N) = gvL f := by
  unfold gvL
  rw [if_pos (cl_gpE hf hd hE), hf.disc]
  have hg := gN_ok hf hd h0
  exact List.map_congr_left fun c hc => cv_inv h0 hf.rd.disc hN hg.1 cN hg.2 hc
theorem rp_nn {d N : Int} {g : Fm} (hg : Cl d g) (hN : RpN g N) (h0 : d < 0) : 0 ≤ N := by
  obtain ⟨x, y, rfl⟩ := hN
  have ha := hg.pos.1
  have hd : g.b * g.b - 4 * g.a * g.c = d := hg.disc
  have e : 4 * g.a * vl g.a g.b g.c x y = (2 * g.a * x + g.b * y) * (2 * g.a * x + g.b * y) - d * (y * y) := by rw [← hd]; unfold vl; grind
  have h1 := sq_nonneg' (2 * g.a * x + g.b * y)
  have h2 := Int.mul_nonneg (show 0 ≤ -d by omega) (sq_nonneg' y)
  rw [Int.neg_mul] at h2
  rcases Int.lt_or_le (vl g.a g.b g.c x y) 0 with q | q
  · have h3 : 4 * g.a * vl g.a g.b g.c x y < 0 := Int.mul_neg_of_pos_of_neg (by omega) q
    omega
  · exact q
theorem chs_b {d c : Int} (h0 : d < 0) (hd : -4194304 ≤ d) (h : c ∈ chs d) : -8 ≤ c ∧ c ≤ 4194304 := by
  unfold chs at h
  rcases List.mem_append.1 h with h | h
  · obtain ⟨h1, h2, h3⟩ := oddC_mem h0 h
    have h4 : c ∣ -d := Int.dvd_neg.2 h3
    have := Int.le_of_dvd (by omega) h4
    omega
  · rcases (spC_mem h).2 with ⟨rfl, _⟩ | ⟨rfl, _⟩ | ⟨rfl, _⟩ <;> omega
theorem cop_ex {d : Int} {g : Fm} (hg : Cl d g) (h0 : d < 0) (hd : -175000 ≤ d) : ∃ x y : Int, 0 ≤ x ∧ x ≤ 1400000 ∧ 0 ≤ y ∧ y ≤ 1400000 ∧ Int.gcd (vl g.a g.b g.c x y) (2 * d) = 1 := by
  obtain ⟨x, y, h1, h2⟩ := cop_any hg.prim _ (2 * d).natAbs (Nat.le_refl _) (by omega)
  exact ⟨x, y, by omega, by omega, by omega, by omega, h1⟩
section
variable {P : Program}
variable {dst : Option Nat} {ty : TypeId} {pos : String} {af : Array Edge} {gd : Option (Nat × Bool)} {d : Nat} {ρ : Operand → AV} {own : Own}
/-- a call of a character -/
theorem Eff.callCh {fo fs : FuncId} {c0 N : Int} {c x : Operand} {tys : Array TypeId} (hx : ρ c = .p (.c (chF fo fs c0))) (hN : ρ x = .p (.c (.v (.int .i64 N))))
    (h1 : Call0 P fs [.p (.c (.v (.int .i64 N))), .ip [IS (spR c0)]] (.p (.c (.v (.int .i64 (sgB (hasI (spR c0) (N % 8)))))))) (h2 : Call0 P fo [.p (.c (.v (.int .i64 N))), .ip [IC c0]] (.p (.c (.v (.int .i64 (kr N c0)))))) :
    Eff P ⟨dst, .call ⟨.value c, #[x], tys⟩, ty, pos, af, gd⟩ d ρ own (.p (.c (.v (.int .i64 (cv c0 N))))) [] none [] := by
  by_cases h : c0 = -4 ∨ c0 = 8 ∨ c0 = -8
  · rw [← cv_sp h]
    have e : chF fo fs c0 = .fn fs ([[IS (spR c0)]].map .ip) := by unfold chF; rw [if_pos h]; rfl
    rw [e] at hx
    exact Eff.callD hx (by simpa [hN] using h1)
  · rw [← cv_odd h]
    have e : chF fo fs c0 = .fn fo ([[IC c0]].map .ip) := by unfold chF; rw [if_neg h]; rfl
    rw [e] at hx
    exact Eff.callD hx (by simpa [hN] using h2)
end
theorem map_snoc {l : List Int} {k : Nat} {N : Int} (h : (k : Int) < l.length) : (l.take k).map (fun c => cv c N) ++ [cv (l.getD k 0) N] = (l.take (k + 1)).map (fun c => cv c N) := by
  rw [← take_snoc h, List.map_append]; rfl
theorem gg1 {n d : Int} (h : ((gg n (2 * d)).natAbs : Int) = 1) : Int.gcd n (2 * d) = 1 := by rw [← gg_abs]; omega
theorem gg1n {n d : Int} (h : ((gg n (2 * d)).natAbs : Int) ≠ 1) : Int.gcd n (2 * d) ≠ 1 := by rw [← gg_abs]; omega
theorem vl_sw (a b c x y : Int) : a * y * y + b * x * y + c * x * x = vl a b c y x := by unfold vl; grind
theorem gvL_e {f : Fm} (h : ¬ gpE f = 0) : gvL f = [] := by unfold gvL; rw [if_neg h]
theorem gg_b {n d : Int} (h0 : d < 0) (hd : -4194304 ≤ d) : -9223372036854775808 < gg n (2 * d) ∧ gg n (2 * d) ≤ 9223372036854775807 := by
  have h1 := gg_abs n (2 * d)
  have h2 : Int.gcd n (2 * d) ≤ (2 * d).natAbs := Nat.le_of_dvd (by omega) (Nat.gcd_dvd_right _ _)
  omega
theorem getD_memI {l : List Int} {k : Nat} (h : (k : Int) < l.length) : l.getD k 0 ∈ l := by
  have hk : k < l.length := by omega
  have e : l.getD k 0 = l[k] := by simp [List.getD, hk]
  rw [e]; exact List.getElem_mem hk
end Go.AM
end

section
/- Lists of values compared. -/
namespace Go.AM
open Go Go.RowKit
/-- the first k of two lists are the same -/
structure EqI (l m : List Int) (k : Nat) : Prop where
  le : k ≤ l.length
  eq : ∀ j, j < k → l.getD j 0 = m.getD j 0
section
variable {l m : List Int} {k : Nat}
theorem EqI.start : EqI l m 0 := ⟨Nat.zero_le _, fun j h => by omega⟩
theorem EqI.next (h : EqI l m k) (hk : (k : Int) < l.length) (e : l.getD k 0 = m.getD k 0) : EqI l m (k + 1) :=
  ⟨by omega, fun j hj => by
    rcases Nat.lt_or_eq_of_le (show j ≤ k by omega) with g | g
    · exact h.eq j g
    · rw [g]; exact e⟩
theorem EqI.yes (h : EqI l m k) (hl : (l.length : Int) = m.length) (hk : ¬ (k : Int) < l.length) : true = decide (l = m) := by
  refine (decide_eq_true ?_).symm
  refine List.ext_getElem (by omega) fun j h1 h2 => ?_
  have := h.eq j (by omega)
  simpa [List.getD, h1, h2] using this
theorem EqI.no (e : ¬ l.getD k 0 = m.getD k 0) : false = decide (l = m) := (decide_eq_false (fun x => e (by rw [x]))).symm
theorem EqI.ln (e : ¬ (l.length : Int) = m.length) : false = decide (l = m) := (decide_eq_false (fun x => e (by rw [x]))).symm
end
/-- whether a form is of the principal genus -/
def gpr (f : Fm) : Bool := decide (gpE f = 0) && !hasI (gvL f) (-1)
def gsE (f g : Fm) : Int := if gpE f ≠ 0 then gpE f else if gpE g ≠ 0 then gpE g else if dsc f.a f.b f.c ≠ dsc g.a g.b g.c then 5 else 0
def gsB (f g : Fm) : Bool := if gsE f g = 0 then decide (gvL f = gvL g) else false
section
variable {f g : Fm}
theorem gs_1 (h : ¬ gpE f = 0) : AV.t [PB false, PE (gpE f)] = .t [PB (gsB f g), PE (gsE f g)] := by
  have e : gsE f g = gpE f := by unfold gsE; rw [if_pos h]
  unfold gsB; rw [e, if_neg h]
theorem gs_2 (h : gpE f = 0) (h1 : ¬ gpE g = 0) : AV.t [PB false, PE (gpE g)] = .t [PB (gsB f g), PE (gsE f g)] := by
  have e : gsE f g = gpE g := by unfold gsE; rw [if_neg (fun x => x h), if_pos h1]
  unfold gsB; rw [e, if_neg h1]
theorem gs_3 (h : gpE f = 0) (h1 : gpE g = 0) (h2 : dsc f.a f.b f.c ≠ dsc g.a g.b g.c) : AV.t [PB false, PE 5] = .t [PB (gsB f g), PE (gsE f g)] := by
  have e : gsE f g = 5 := by unfold gsE; rw [if_neg (fun x => x h), if_neg (fun x => x h1), if_pos h2]
  unfold gsB; rw [e]; rfl
theorem gs_4 (h : gpE f = 0) (h1 : gpE g = 0) (h2 : dsc f.a f.b f.c = dsc g.a g.b g.c) : AV.t [PB (decide (gvL f = gvL g)), PE 0] = .t [PB (gsB f g), PE (gsE f g)] := by
  have e : gsE f g = 0 := by unfold gsE; rw [if_neg (fun x => x h), if_neg (fun x => x h1), if_neg (fun x => x h2)]
  unfold gsB; rw [e, if_pos rfl]
end
theorem gvL_len (f : Fm) : ((gvL f).length : Int) ≤ 1000000 := by
  unfold gvL
  split
  · next h =>
    obtain ⟨h1, h2⟩ := gpE_cl h
    obtain ⟨_, h3, h4⟩ := gnV_0 h2
    rw [List.length_map]
    have := chs_len h3 h4
    omega
  · simp
end Go.AM
end

section
/- Triples of numbers in slices; the shapes of ambiguous forms. -/
namespace Go.AM
open Go Go.RowKit
def TC (f : Fm) : List DV := [IC f.a, IC f.b, IC f.c]
def TS (l : List Fm) : DV := .sl l.length (l.flatMap TC)
def TB (e : TypeId) (l : List Fm) : Blk := ⟨true, 3, e, l.flatMap TC⟩
theorem TS_len (l : List Fm) : (l.flatMap TC).length = l.length * 3 := by
  induction l with
  | nil => rfl
  | cons x l ih => rw [List.flatMap_cons, List.length_append, ih, List.length_cons]; show 3 + _ = _; omega
theorem TS_drop : ∀ (l : List Fm) (i : Nat) (h : i < l.length), (l.flatMap TC).drop (i * 3) = TC l[i] ++ (l.drop (i + 1)).flatMap TC
  | x :: l, 0, _ => by simp
  | x :: l, i + 1, h => by
    have ih := TS_drop l i (by simpa using h)
    have e : (i + 1) * 3 = i * 3 + 3 := by omega
    rw [e, List.flatMap_cons]
    show (IC x.a :: IC x.b :: IC x.c :: l.flatMap TC).drop (i * 3 + 3) = _
    rw [List.drop_succ_cons, List.drop_succ_cons, List.drop_succ_cons, ih]
    simp
section
variable {P : Program} {tt : TT} (hT : TTok P tt)
variable {dst : Option Nat} {ty : TypeId} {pos : String} {af : Array Edge} {gd : Option (Nat × Bool)} {d : Nat} {ρ : Operand → AV} {own : Own}
variable {T e : TypeId} {i j : TyI} {x y : Operand}
include hT
theorem op_indexT {k : IntKind} {n : Int} {l : List Fm} (ht : tt T = some i) (hs : i.sh = .sl e) (he : tt e = some j) (hj : j.size = 3) (hx : ρ x = .p (.c (TS l))) (hy : ρ y = .p (.c (.v (.int k n)))) (hn : 0 ≤ n ∧ n < l.length) :
    Eff P ⟨dst, .indexAddr T x y, ty, pos, af, gd⟩ d ρ own (.ip (TC (l.getD n.toNat ⟨0, 0, 0⟩) ++ (l.drop (n.toNat + 1)).flatMap TC)) [] none [] := by
  have hi : n.toNat < l.length := by omega
  have h := op_index_sl (dst := dst) (ty := ty) (pos := pos) (af := af) (gd := gd) (d := d) (own := own) hT ht hs he hx (l := l.length) (xs := l.flatMap TC) (by rfl) hy hn (by
    intro h0
    have := TS_len l
    rw [h0] at this
    simp at this
    omega)
  rw [hj, TS_drop l n.toNat hi] at h
  have e1 : l.getD n.toNat ⟨0, 0, 0⟩ = l[n.toNat] := by simp [List.getD, hi]
  rw [e1]; exact h
theorem op_appendT {m : Nat} {l : List Fm} {z : Fm} (ht : tt T = some i) (hs : i.sh = .sl e) (he : tt e = some j) (hj : j.size = 3) (hjb : Nat.ble j.bytes 96 = true) (hx : ρ x = .vec m) (hb : own m = some (TB e l)) (hy : ρ y = .p (.c (.sl 1 (TC z)))) (hfit : l.length ≤ 100000000) (hmd : m ≠ d) :
    Eff P ⟨dst, .call ⟨.builtin .append, #[x, y], #[T, T]⟩, ty, pos, af, gd⟩ d ρ own (.vec d) [(m, none)] (some (TB e (l ++ [z]))) [m] := by
  have hl : (TB e l).cs.length = l.length * 3 := TS_len l
  have h := op_append (dst := dst) (ty := ty) (pos := pos) (af := af) (gd := gd) hT ht hs he hx hb rfl hj.symm rfl hy (by rfl) (by rw [hj]; rfl) (by rw [hj]; exact hjb) (by rw [hl, hj]; omega) (by rw [hj]; rfl) hmd
  rw [hj] at h
  unfold TB
  rw [List.flatMap_append]
  exact h
end
section
variable {P : Program} {B : Bool} {N np : Nat} {Q : Exit → St → Prop} {s : St} {c : Code}
theorem AWp_freezeT {t m : Nat} {l : List Fm} {e : TypeId} (ht : s.regs t = .vec m) (hb : s.own m = some (TB e l)) (h : AWp P B N np c Q ⟨upd s.regs t (.p (.c (TS l))), upd s.own m none⟩) : AWp P B N np c Q s := by
  refine AWp_freeze (n := l.length) ht hb rfl (TS_len l).symm (by show 0 < 3; omega) ?_
  exact h
end
def shp (m k : Int) : Nat → Fm
  | 0 => ⟨k, 0, m / 4 / k⟩
  | 1 => ⟨k, k, (m / k + k) / 4⟩
  | _ => ⟨(m / k + k) / 4, (m / k - k) / 2, (m / k + k) / 4⟩
/-- the three functions, as data; 'f' is the first one's number -/
def shF (f : FuncId) (m : Int) (j : Nat) : DV := .fn (f + j) [.ip [IC m]]
def okS (m : Int) (f : Fm) : Bool := decide (f.b * f.b - 4 * f.a * f.c = -m) && (decide (0 ≤ f.b) && (decide (f.b ≤ f.a) && (decide (f.a ≤ f.c) && decide (gg (gg f.a f.b) f.c = 1))))
def amR (m k : Int) (j : Nat) : List Fm := ((List.range j).map (shp m k)).filter (okS m)
def amG (m : Int) : Nat → List Fm
  | 0 => []
  | k + 1 => amG m k ++ amR m ((k : Int) + 1) 3
theorem amR_no {m k : Int} {j : Nat} (h : okS m (shp m k j) = false) : amR m k (j + 1) = amR m k j := by
  unfold amR; rw [List.range_succ, List.map_append, List.filter_append]; simp [h]
theorem amR_yes {m k : Int} {j : Nat} (h : okS m (shp m k j) = true) : amR m k (j + 1) = amR m k j ++ [shp m k j] := by
  unfold amR; rw [List.range_succ, List.map_append, List.filter_append]; simp [h]
def cm3 (f g : Fm) : Int := if cmpI f.a g.a ≠ 0 then cmpI f.a g.a else cmpI f.b g.b
/-- sorted, and no two that stand together are equal -/
def srt3 (l : List Fm) : Prop := ∀ i : Nat, i + 1 < l.length → ¬ cm3 (l.getD (i + 1) ⟨0, 0, 0⟩) (l.getD i ⟨0, 0, 0⟩) < 0 ∧ l.getD (i + 1) ⟨0, 0, 0⟩ ≠ l.getD i ⟨0, 0, 0⟩
theorem shp_b {m k : Int} (hm : 0 < m ∧ m ≤ 4194304) (hk : 1 ≤ k) (hkk : k * k ≤ m) : k ≤ m / k ∧ m / k ≤ 4194304 ∧ k ≤ 2048 ∧ 0 ≤ m / 4 / k ∧ m / 4 / k ≤ 4194304 := by
  have h1 : k ≤ m / k := (Int.le_ediv_iff_mul_le (by omega)).2 hkk
  have h2 : m / k ≤ m := Int.ediv_le_self _ (by omega)
  have h3 : k ≤ 2048 := by
    rcases Int.lt_or_le 2048 k with g | g
    · have := Int.mul_le_mul g g (by omega) (by omega); omega
    · exact g
  have h4 : m / 4 / k ≤ m / 4 := Int.ediv_le_self _ (by omega)
  have h5 : 0 ≤ m / 4 / k := Int.ediv_nonneg (by omega) (by omega)
  exact ⟨h1, by omega, h3, h5, by omega⟩
end Go.AM
end

section
/- Arrays of three numbers compared. -/
namespace Go.AM
open Go Go.RowKit
section
variable {P : Program} {tt : TT} (hT : TTok P tt)
variable {dst : Option Nat} {ty : TypeId} {pos : String} {af : Array Edge} {gd : Option (Nat × Bool)} {d : Nat} {ρ : Operand → AV} {own : Own}
variable {T e yT : TypeId} {i j : TyI} {x y : Operand}
include hT
theorem run_eq3 {f g : Fm} (ht : tt T = some i) (hs : i.sh = .ar 3 e) (he : tt e = some j) (hj : j.sh = .int .i64) (hz : j.size = 1) {h : Hp} {w : World} {cs es : Array Value} (h1 : DReps h (TC f) fun i => cs[i]?) (h2 : DReps h (TC g) fun i => es[i]?) :
    (Op.equal T (.agg cs) (.agg es)).run P w = .ok (decide (f = g)) w := by
  have hu := (hT T i ht).array hs
  have hue := (hT e j he).int hj
  obtain ⟨ti, k1, k2, _⟩ := (hT e j he).info
  have hc : P.cellsOf e = 1 := by
    have : P.cellsOf e = ti.size := by unfold Program.cellsOf; rw [k1]; rfl
    rw [this, k2, hz]
  have p1 : ∀ {off : Nat} {z : Int}, (TC f)[off]? = some (IC z) → (part e cs off).run P w = .ok (.int .i64 z) w := fun {off z} hh => by
    obtain ⟨v, hv1, hv2⟩ := part_one (w := w) (hT e j he) (by rw [hj]; rfl) h1 hh
    simp only [IC] at hv2
    rw [hv1, hv2.1]
  have p2 : ∀ {off : Nat} {z : Int}, (TC g)[off]? = some (IC z) → (part e es off).run P w = .ok (.int .i64 z) w := fun {off z} hh => by
    obtain ⟨v, hv1, hv2⟩ := part_one (w := w) (hT e j he) (by rw [hj]; rfl) h2 hh
    simp only [IC] at hv2
    rw [hv1, hv2.1]
  unfold Op.equal
  have q := run_equalIn_array (P := P) (w := w) 9999 (t := T) (e := e) (n := 3) cs es hu k1
  refine Eq.trans q ?_
  rw [hc]
  have a0 := p1 (off := 0 * 1) (z := f.a) rfl
  have a1 := p1 (off := 1 * 1) (z := f.b) rfl
  have a2 := p1 (off := 2 * 1) (z := f.c) rfl
  have b0 := p2 (off := 0 * 1) (z := g.a) rfl
  have b1 := p2 (off := 1 * 1) (z := g.b) rfl
  have b2 := p2 (off := 2 * 1) (z := g.c) rfl
  have hr : List.range 3 = [0, 1, 2] := rfl
  have ee : ∀ u v : Int, (Op.equalIn 9999 e (.int .i64 u) (.int .i64 v)).run P w = .ok (u == v) w := fun u v => run_equalIn_int (w := w) 9998 e .i64 .i64 u v hue
  rw [hr]
  simp only [Op.eqItems, Sem.run_bind, a0, b0, Result.andThen_ok, ee]
  by_cases c0 : f.a = g.a
  · by_cases c1 : f.b = g.b
    · by_cases c2 : f.c = g.c
      · rw [decide_eq_true (Fm.ext c0 c1 c2)]; simp [c0, c1, c2, Sem.run_bind, a1, a2, b1, b2, ee]
      · rw [decide_eq_false (fun x => c2 (by rw [x]))]; simp [c0, c1, c2, Sem.run_bind, a1, a2, b1, b2, ee]
    · rw [decide_eq_false (fun x => c1 (by rw [x]))]; simp [c0, c1, Sem.run_bind, a1, b1, ee]
  · rw [decide_eq_false (fun x => c0 (by rw [x]))]; simp [c0]
theorem op_eqlT {f g : Fm} (ht : tt T = some i) (hs : i.sh = .ar 3 e) (he : tt e = some j) (hj : j.sh = .int .i64) (hz : j.size = 1) (hx : ρ x = .p (.a (TC f))) (hy : ρ y = .p (.a (TC g))) (hgt : P.eqGuardType P.depth T = false) :
    Eff P ⟨dst, .binOp .eql T x y yT, ty, pos, af, gd⟩ d ρ own (.p (.c (.v (.bool (decide (f = g)))))) [] none [] :=
  Eff.value fun C h r own' a w hrep _ _ => by
    have e1 := hrep x (by simp [Op.operands])
    have e2 := hrep y (by simp [Op.operands])
    rw [hx] at e1; rw [hy] at e2
    obtain ⟨cs, g1, _, g3⟩ := e1
    obtain ⟨es, k1, _, k3⟩ := e2
    refine ⟨_, ?_, mk_bool _ _ _⟩
    have hE := run_eq3 (w := w) hT ht hs he hj hz g3 k3
    simp [execOp, g1, k1, eqGuard, Sem.run_bind, Sem.run_pure, Result.andThen_ok, binOp, hE, hgt]
end
section
variable {P : Program}
variable {dst : Option Nat} {ty : TypeId} {pos : String} {af : Array Edge} {gd : Option (Nat × Bool)} {d : Nat} {ρ : Operand → AV} {own : Own}
/-- a call of a shape -/
theorem Eff.callSh {f : FuncId} {m k : Int} {j : Nat} {c x : Operand} {tys : Array TypeId} (hx : ρ c = .p (.c (shF f m j))) (hk : ρ x = .p (.c (.v (.int .i64 k))))
    (h : Call0 P (f + j) [.p (.c (.v (.int .i64 k))), .ip [IC m]] (.p (.a (TC (shp m k j))))) :
    Eff P ⟨dst, .call ⟨.value c, #[x], tys⟩, ty, pos, af, gd⟩ d ρ own (.p (.a (TC (shp m k j)))) [] none [] :=
  Eff.callD (caps := [[IC m]]) hx (by simpa [hk] using h)
end
theorem sh_get {f : FuncId} {m : Int} {j : Nat} (hj : (j : Int) < 3) : ([shF f m 0, shF f m 1, shF f m 2].drop ((j : Int).toNat * 1))[0]? = some (shF f m j) := by
  rcases (show j = 0 ∨ j = 1 ∨ j = 2 by omega) with rfl | rfl | rfl <;> rfl
theorem shp_bd {m k : Int} (hm : 0 < m ∧ m ≤ 4194304) (hk : 1 ≤ k) (hkk : k * k ≤ m) (j : Nat) : (0 ≤ (shp m k j).a ∧ (shp m k j).a ≤ 4200000) ∧ (0 ≤ (shp m k j).b ∧ (shp m k j).b ≤ 4200000) ∧ 0 ≤ (shp m k j).c ∧ (shp m k j).c ≤ 4200000 := by
  have h := shp_b hm hk hkk
  match j with
  | 0 => unfold shp; simp only; omega
  | 1 => unfold shp; simp only; omega
  | _ + 2 => unfold shp; simp only; omega
/-- how many k there are -/
def amS (m : Int) : Nat := fst1 (fun k => decide (m < ((k : Int) + 1) * ((k : Int) + 1))) 3000 0
theorem amS_ok {m : Int} (hm : 0 < m ∧ m ≤ 4194304) : m < ((amS m : Int) + 1) * ((amS m : Int) + 1) ∧ ∀ k : Nat, k < amS m → ((k : Int) + 1) * ((k : Int) + 1) ≤ m := by
  have h := fst1_ok (P := fun k => decide (m < ((k : Int) + 1) * ((k : Int) + 1))) (f := 3000) (n := 0) (m := 2048) (by omega) (by omega) (decide_eq_true (by omega))
  refine ⟨of_decide_eq_true h.1, fun k hk => ?_⟩
  rcases Int.lt_or_le m (((k : Int) + 1) * ((k : Int) + 1)) with g | g
  · have h2 := fst1_ok (P := fun k => decide (m < ((k : Int) + 1) * ((k : Int) + 1))) (f := 3000) (n := 0) (m := k) (by omega) (by have := h.2; unfold amS at hk; omega) (decide_eq_true g)
    unfold amS at hk
    omega
  · exact g
def amL (m : Int) : List Fm := amG m (amS m)
theorem amS_next {m : Int} {k : Nat} (hm : 0 < m ∧ m ≤ 4194304) (hk : k ≤ amS m) (h : ((k : Int) + 1) * ((k : Int) + 1) ≤ m) : k + 1 ≤ amS m := by
  have := (amS_ok hm).1
  rcases Nat.lt_or_eq_of_le hk with g | g
  · exact g
  · rw [← g] at this; omega
theorem amS_end {m : Int} {k : Nat} (hm : 0 < m ∧ m ≤ 4194304) (hk : k ≤ amS m) (h : ¬ ((k : Int) + 1) * ((k : Int) + 1) ≤ m) : k = amS m := by
  rcases Nat.lt_or_eq_of_le hk with g | g
  · exact absurd ((amS_ok hm).2 k g) h
  · exact g
theorem amS_w {m : Int} {k : Nat} (hm : 0 < m ∧ m ≤ 4194304) (hk : k ≤ amS m) : IntKind.i64.wrap (((k : Int) + 1) * ((k : Int) + 1)) = ((k : Int) + 1) * ((k : Int) + 1) := by
  have h := fst1_ok (P := fun k => decide (m < ((k : Int) + 1) * ((k : Int) + 1))) (f := 3000) (n := 0) (m := 2048) (by omega) (by omega) (decide_eq_true (by omega))
  have h2 : k ≤ 2048 := by have := h.2; unfold amS at hk; omega
  have h3 : ((k : Int) + 1) * ((k : Int) + 1) ≤ 2049 * 2049 := Int.mul_le_mul (by omega) (by omega) (by omega) (by omega)
  have h4 : 0 ≤ ((k : Int) + 1) * ((k : Int) + 1) := Int.mul_nonneg (by omega) (by omega)
  rw [IntWalk.i64_in _ (by omega)]
theorem amL_bd {m : Int} (hm : 0 < m ∧ m ≤ 4194304) {f : Fm} (h : f ∈ amL m) : (0 ≤ f.a ∧ f.a ≤ 4200000) ∧ (0 ≤ f.b ∧ f.b ≤ 4200000) ∧ 0 ≤ f.c ∧ f.c ≤ 4200000 := by
  have key : ∀ n : Nat, n ≤ amS m → ∀ f ∈ amG m n, (0 ≤ f.a ∧ f.a ≤ 4200000) ∧ (0 ≤ f.b ∧ f.b ≤ 4200000) ∧ 0 ≤ f.c ∧ f.c ≤ 4200000 := by
    intro n
    induction n with
    | zero => intro _ f h; simp [amG] at h
    | succ n ih =>
      intro hn f h
      unfold amG at h
      rcases List.mem_append.1 h with h | h
      · exact ih (by omega) f h
      · unfold amR at h
        obtain ⟨j, _, rfl⟩ := List.mem_map.1 (List.mem_filter.1 h).1
        exact shp_bd hm (by omega) ((amS_ok hm).2 n (by omega)) j
  exact key _ (Nat.le_refl _) f h
theorem amG_len (m : Int) : ∀ n : Nat, (amG m n).length ≤ 3 * n
  | 0 => by simp [amG]
  | n + 1 => by
    unfold amG
    have h := amG_len m n
    have h2 : (amR m ((n : Int) + 1) 3).length ≤ 3 := by
      unfold amR
      refine Nat.le_trans (List.length_filter_le _ _) ?_
      rw [List.length_map, List.length_range]; exact Nat.le_refl _
    rw [List.length_append]; omega
theorem amR_len (m k : Int) (j : Nat) : (amR m k j).length ≤ j := by
  unfold amR
  refine Nat.le_trans (List.length_filter_le _ _) ?_
  rw [List.length_map, List.length_range]; exact Nat.le_refl _
def amE (d : Int) : List Fm := if szE d = 0 then amL (-d) else []
theorem amE_0 {m d : Int} (h : szE d = 0) (hd : d = -m) : amE d = amL m := by
  unfold amE; rw [if_pos h, hd, Int.neg_neg]
theorem amE_1 {d : Int} (h : ¬ szE d = 0) : amE d = [] := by
  unfold amE; rw [if_neg h]
theorem take_snocF {l : List Fm} {k : Nat} (h : (k : Int) < l.length) : l.take k ++ [l.getD k ⟨0, 0, 0⟩] = l.take (k + 1) := by
  have hk : k < l.length := by omega
  rw [List.take_add_one, List.getElem?_eq_getElem hk]
  simp [List.getD, hk]
theorem okS_y {m d : Int} {f : Fm} (hd : d = -m) (h1 : f.b * f.b - 4 * f.a * f.c = d) (h2 : 0 ≤ f.b) (h3 : f.b ≤ f.a) (h4 : f.a ≤ f.c) (h5 : gg (gg f.a f.b) f.c = 1) : okS m f = true := by
  unfold okS; rw [decide_eq_true (h1.trans hd), decide_eq_true h2, decide_eq_true h3, decide_eq_true h4, decide_eq_true h5]; rfl
theorem okS_1 {m d : Int} {f : Fm} (hd : d = -m) (h1 : ¬ f.b * f.b - 4 * f.a * f.c = d) : okS m f = false := by
  unfold okS; rw [decide_eq_false (fun x => h1 (x.trans hd.symm))]; rfl
theorem okS_2 {m : Int} {f : Fm} (h : ¬ 0 ≤ f.b) : okS m f = false := by unfold okS; rw [decide_eq_false h]; simp
theorem okS_3 {m : Int} {f : Fm} (h : ¬ f.b ≤ f.a) : okS m f = false := by unfold okS; rw [decide_eq_false h]; simp
theorem okS_4 {m : Int} {f : Fm} (h : ¬ f.a ≤ f.c) : okS m f = false := by unfold okS; rw [decide_eq_false h]; simp
theorem okS_5 {m : Int} {f : Fm} (h : ¬ gg (gg f.a f.b) f.c = 1) : okS m f = false := by unfold okS; rw [decide_eq_false h]; simp
end Go.AM
end

section
/- Fixed numbers of chapter 10. -/
namespace Go.AM
open Go Go.RowKit
theorem fx_e4 : gpE ⟨2, 2, 2⟩ ≠ 0 := by decide +kernel
theorem fx_srt : srt3 (amL (- -20)) := by
  have e : amL (- -20) = [⟨1, 0, 5⟩, ⟨2, 2, 3⟩] := by decide +kernel
  rw [e]
  intro i hi
  have : i = 0 := by simp at hi; omega
  subst this
  decide +kernel
theorem fx_hA : szE (-20) = 0 → (amL (- -20)).length ≤ 12 ∧ srt3 (amL (- -20)) := fun _ => ⟨by decide +kernel, fx_srt⟩
theorem fx_x1 : gpE ⟨2, 2, 3⟩ = 0 → ∃ x y : Int, 0 ≤ x ∧ x ≤ 1400000 ∧ 0 ≤ y ∧ y ≤ 1400000 ∧ Int.gcd (vl (Fm.rd ⟨2, 2, 3⟩).a (Fm.rd ⟨2, 2, 3⟩).b (Fm.rd ⟨2, 2, 3⟩).c x y) (2 * dsc (Fm.mk 2 2 3).a (Fm.mk 2 2 3).b (Fm.mk 2 2 3).c) = 1 := fun _ => ⟨0, 1, by decide +kernel⟩
theorem fx_x2 : gpE ⟨1, 0, 5⟩ = 0 → ∃ x y : Int, 0 ≤ x ∧ x ≤ 1400000 ∧ 0 ≤ y ∧ y ≤ 1400000 ∧ Int.gcd (vl (Fm.rd ⟨1, 0, 5⟩).a (Fm.rd ⟨1, 0, 5⟩).b (Fm.rd ⟨1, 0, 5⟩).c x y) (2 * dsc (Fm.mk 1 0 5).a (Fm.mk 1 0 5).b (Fm.mk 1 0 5).c) = 1 := fun _ => ⟨1, 0, by decide +kernel⟩
theorem fx_x3 : gpE ⟨1, 1, 6⟩ = 0 → ∃ x y : Int, 0 ≤ x ∧ x ≤ 1400000 ∧ 0 ≤ y ∧ y ≤ 1400000 ∧ Int.gcd (vl (Fm.rd ⟨1, 1, 6⟩).a (Fm.rd ⟨1, 1, 6⟩).b (Fm.rd ⟨1, 1, 6⟩).c x y) (2 * dsc (Fm.mk 1 1 6).a (Fm.mk 1 1 6).b (Fm.mk 1 1 6).c) = 1 := fun _ => ⟨1, 0, by decide +kernel⟩
end Go.AM
end

section
/- The values of a product of two classes. -/
namespace Go.AM
open Go Go.RowKit
theorem gcd_mulc {M N d : Int} (h1 : Int.gcd M d = 1) (h2 : Int.gcd N d = 1) : Int.gcd (M * N) d = 1 := by
  rw [Int.gcd_eq_natAbs_gcd_natAbs] at *
  rw [Int.natAbs_mul]
  exact Nat.Coprime.mul_left h1 h2
theorem rd_RpN {D : Int} {f : Fm} {N : Int} (hf : Cl D f) (h : RpN f N) : RpN f.rd N := by
  obtain ⟨u, v, hv⟩ := h
  obtain ⟨m, hm, em⟩ := rd_via hf.pos
  have e3 : f.rd.app m.adj = f := by rw [em, adj_app hm]
  have e4 := vl_app f.rd m.adj u v
  rw [e3] at e4
  exact ⟨_, _, hv.trans e4⟩
theorem mlt_RpN {D : Int} {f g : Fm} {M N : Int} (hf : Cl D f) (hg : Cl D g) (hM : RpN f M) (hN : RpN g N) : RpN (mlt f g) (M * N) := by
  obtain ⟨x, y, rfl⟩ := hM
  obtain ⟨z, w, rfl⟩ := hN
  exact rd_RpN (cmp_isC hf hg).1 (isC_vals hf hg (cmp_isC hf hg) x y z w)
theorem chs_kind {d c : Int} (h0 : d < 0) (h : c ∈ chs d) : (c = -4 ∨ c = 8 ∨ c = -8) ∨ (3 ≤ c ∧ c % 2 = 1) := by
  unfold chs at h
  rcases List.mem_append.1 h with h | h
  · have := oddC_mem h0 h; exact .inr ⟨this.1, this.2.1⟩
  · have := (spC_mem h).2; exact .inl (by omega)
theorem cv_pm {d c N : Int} (h0 : d < 0) (h : c ∈ chs d) (hN : Int.gcd N (2 * d) = 1) : cv c N = 1 ∨ cv c N = -1 := by
  unfold chs at h
  rcases List.mem_append.1 h with h | h
  · have q := oddC_mem h0 h
    unfold cv
    rw [if_neg (by omega)]
    exact kr_pm (by omega) q.2.1 (gcd_cop hN q.2.2)
  · have q := (spC_mem h).2
    unfold cv
    rw [if_pos (by omega)]
    unfold sgB
    split
    · exact .inl rfl
    · exact .inr rfl
theorem gvL_mlt {d : Int} {f g : Fm} (hf : Cl d f) (hg : Cl d g) (hd : -4194304 ≤ d) (h0 : d < 0) (hE : szE d = 0) :
    (gvL f).length = (gvL g).length ∧ (gvL f).length = (gvL (mlt f g)).length ∧ ∀ k : Nat, (k : Int) < (gvL f).length →
      (gvL (mlt f g)).getD k 0 = (gvL f).getD k 0 * (gvL g).getD k 0 ∧ ((gvL f).getD k 0 = 1 ∨ (gvL f).getD k 0 = -1) ∧ ((gvL g).getD k 0 = 1 ∨ (gvL g).getD k 0 = -1) := by
  have h1 := gN_ok hf hd h0
  have h2 := gN_ok hg hd h0
  generalize gN f d = M at h1
  generalize gN g d = N at h2
  have h3 : RpN (mlt f g).rd (M * N) := by
    rw [mlt_rd hf hg, ← mlt_rdl hf hg, ← mlt_rdr hf.rd hg]
    exact mlt_RpN hf.rd hg.rd h1.1 h2.1
  have c3 := gcd_mulc h1.2 h2.2
  rw [← gv_map hf hd h0 hE h1.1 h1.2, ← gv_map hg hd h0 hE h2.1 h2.2, ← gv_map (mlt_cl hf hg) hd h0 hE h3 c3]
  refine ⟨by simp, by simp, fun k hk => ?_⟩
  rw [List.length_map] at hk
  have hk' : k < (chs d).length := by omega
  have hm := List.getElem_mem hk'
  simp only [List.getD, List.getElem?_map, List.getElem?_eq_getElem hk', Option.map_some, Option.getD_some]
  exact ⟨cv_mul (chs_kind h0 hm) (gcd_odd h1.2) (gcd_odd h2.2), cv_pm h0 hm h1.2, cv_pm h0 hm h2.2⟩
theorem szz_szE (D : Nat) : szE (-szz D) = 0 := by
  have h := szz_spec D
  unfold szE
  rw [if_neg (by omega), if_neg (by omega)]
/-- what is wanted of a form of a small discriminant, for its values -/
theorem cl_hx {d : Int} {f : Fm} (hf : Cl d f) (h0 : d < 0) (hd : -175000 ≤ d) : gpE f = 0 → ∃ x y : Int, 0 ≤ x ∧ x ≤ 1400000 ∧ 0 ≤ y ∧ y ≤ 1400000 ∧ Int.gcd (vl f.rd.a f.rd.b f.rd.c x y) (2 * dsc f.a f.b f.c) = 1 := fun _ => by
  rw [hf.disc]; exact cop_ex hf.rd h0 hd
end Go.AM
end

section
/- The group of classes, continued: cancelling, squares, the list of all classes. -/
namespace Go.AM
open Go Go.RowKit
section
variable {D : Int} {f g h : Fm}
theorem mlt_cancel (hf : Cl D f) (hg : Cl D g) : mlt (mlt f g) g.mi = f.rd := by
  rw [mlt_assoc hf hg (mi_cl hg), mlt_inv hg, mlt_one hf]
theorem mlt_inj (hf : Cl D f) (hg : Cl D g) (hh : Cl D h) (e : mlt f h = mlt g h) : f.rd = g.rd := by
  rw [← mlt_cancel hf hh, e, mlt_cancel hg hh]
theorem mlt_sq (hf : Cl D f) (hg : Cl D g) : mlt (mlt f g) (mlt f g) = mlt (mlt f f) (mlt g g) := by
  have hfg := mlt_cl hf hg
  rw [mlt_assoc hf hg hfg, mlt_comm hf hg, ← mlt_assoc hg hg hf, mlt_comm (mlt_cl hg hg) hf, ← mlt_assoc hf hf (mlt_cl hg hg)]
theorem mi_sq (hf : Cl D f) : mlt (mlt f f) (mlt f.mi f.mi) = prP D := by
  rw [← mlt_sq hf (mi_cl hf), mlt_inv hf, mlt_one (prP_cl hf), prP_rd hf]
/-- all reduced forms, once each -/
structure Whole (D : Int) (l : List Fm) : Prop where
  nd : l.Nodup
  mem : ∀ f, f ∈ l ↔ Cl D f ∧ f.rd = f
theorem Whole.rd {l : List Fm} (w : Whole D l) (hf : Cl D f) : f.rd ∈ l := (w.mem _).2 ⟨hf.rd, hf.rd_rd⟩
theorem Whole.mlt {l : List Fm} (w : Whole D l) (hf : Cl D f) (hg : Cl D g) : mlt f g ∈ l := (w.mem _).2 ⟨mlt_cl hf hg, mlt_rd hf hg⟩
theorem nodup_le {α : Type} [DecidableEq α] : ∀ {l m : List α}, l.Nodup → (∀ x ∈ l, x ∈ m) → l.length ≤ m.length
  | [], m, _, _ => Nat.zero_le _
  | x :: l, m, hn, hs => by
    rw [List.nodup_cons] at hn
    have hx := hs x (List.mem_cons_self ..)
    have h1 : l.length ≤ (m.erase x).length := nodup_le hn.2 (fun y hy => by
      have hne : y ≠ x := fun e => hn.1 (e ▸ hy)
      exact (List.mem_erase_of_ne hne).2 (hs y (List.mem_cons_of_mem _ hy)))
    have h2 := List.length_erase_of_mem hx
    have h3 := List.length_pos_of_mem hx
    rw [List.length_cons]; omega
theorem inj_le {α : Type} [DecidableEq α] {l m : List α} (φ : α → α) (hn : l.Nodup) (hs : ∀ x ∈ l, φ x ∈ m) (hi : ∀ x ∈ l, ∀ y ∈ l, φ x = φ y → x = y) : l.length ≤ m.length := by
  have h := nodup_le (l := l.map φ) (m := m) ?_ ?_
  · rwa [List.length_map] at h
  · rw [List.Nodup, List.pairwise_map]
    exact List.Pairwise.imp_of_mem (fun {x y} hx hy hne e => hne (hi x hx y hy e)) hn
  · intro x hx
    obtain ⟨y, hy, rfl⟩ := List.mem_map.1 hx
    exact hs y hy
/-- the roots of a class, in a list of all classes -/
def rtW (l : List Fm) (f : Fm) : List Fm := l.filter fun g => decide (mlt g g = f.rd)
theorem rtW_mem {l : List Fm} : g ∈ rtW l f ↔ g ∈ l ∧ mlt g g = f.rd := by
  unfold rtW; rw [List.mem_filter, decide_eq_true_iff]
theorem rtW_len {l : List Fm} (w : Whole D l) (hf : Cl D f) (hne : rtW l f ≠ []) : (rtW l f).length = (rtW l (prP D)).length := by
  refine (List.exists_mem_of_ne_nil _ hne).elim fun g hg => ?_
  obtain ⟨g1, g2⟩ := rtW_mem.1 hg
  obtain ⟨c, r⟩ := (w.mem g).1 g1
  have hO := prP_cl hf
  have eO := prP_rd hf
  refine Nat.le_antisymm ?_ ?_
  · refine inj_le (fun x => mlt x g.mi) (w.nd.filter _) (fun x hx => ?_) (fun x hx y hy e => ?_)
    · obtain ⟨x1, x2⟩ := rtW_mem.1 hx
      obtain ⟨cx, rx⟩ := (w.mem x).1 x1
      refine rtW_mem.2 ⟨w.mlt cx (mi_cl c), ?_⟩
      rw [mlt_sq cx (mi_cl c), x2, ← g2, mi_sq c, eO]
    · obtain ⟨x1, x2⟩ := rtW_mem.1 hx
      obtain ⟨y1, y2⟩ := rtW_mem.1 hy
      obtain ⟨cx, rx⟩ := (w.mem x).1 x1
      obtain ⟨cy, ry⟩ := (w.mem y).1 y1
      have := mlt_inj cx cy (mi_cl c) e
      rwa [rx, ry] at this
  · refine inj_le (fun x => mlt x g) (w.nd.filter _) (fun x hx => ?_) (fun x hx y hy e => ?_)
    · obtain ⟨x1, x2⟩ := rtW_mem.1 hx
      obtain ⟨cx, rx⟩ := (w.mem x).1 x1
      refine rtW_mem.2 ⟨w.mlt cx c, ?_⟩
      rw [mlt_sq cx c, x2, g2, eO, one_mlt hf.rd, hf.rd_rd]
    · obtain ⟨x1, x2⟩ := rtW_mem.1 hx
      obtain ⟨y1, y2⟩ := rtW_mem.1 hy
      obtain ⟨cx, rx⟩ := (w.mem x).1 x1
      obtain ⟨cy, ry⟩ := (w.mem y).1 y1
      have := mlt_inj cx cy c e
      rwa [rx, ry] at this
theorem rtW_one {l : List Fm} (w : Whole D l) (hf : Cl D f) : rtW l (prP D) ≠ [] := by
  have hO := prP_cl hf
  have eO := prP_rd hf
  exact List.ne_nil_of_mem (rtW_mem.2 ⟨(w.mem (prP D)).2 ⟨hO, eO⟩, by rw [mlt_one hO]⟩)
end
end Go.AM
end

section
/- The list of all reduced forms of a small discriminant is whole. -/
namespace Go.AM
open Go Go.RowKit
theorem lsRow_mem {n a b : Int} : ∀ {k : Nat} {c : Int}, c ≤ b → b < c + k → okF n a b = true → (⟨a, b, (b * b + n) / (4 * a)⟩ : Fm) ∈ lsRow n a k c
  | 0, c, h1, h2, _ => by omega
  | k + 1, c, h1, h2, h3 => by
    unfold lsRow
    rw [List.mem_append]
    rcases Int.lt_or_eq_of_le h1 with g | g
    · exact .inr (lsRow_mem (by omega) (by omega) h3)
    · subst g
      rw [if_pos h3]
      exact .inl (List.mem_singleton.2 rfl)
theorem lsAll_mem {n a b : Int} (hb : -a ≤ b ∧ b ≤ a) (hs : 3 * a * a ≤ n) (hk : okF n a b = true) : ∀ {k : Nat} {c : Int}, 1 ≤ c → c ≤ a → a < c + k → (⟨a, b, (b * b + n) / (4 * a)⟩ : Fm) ∈ lsAll n k c
  | 0, c, _, h1, h2 => by omega
  | k + 1, c, h0, h1, h2 => by
    have hc : 3 * c * c ≤ n := by
      have : c * c ≤ a * a := Int.mul_le_mul h1 h1 (by omega) (by omega)
      have e1 : 3 * c * c = 3 * (c * c) := Int.mul_assoc ..
      have e2 : 3 * a * a = 3 * (a * a) := Int.mul_assoc ..
      omega
    unfold lsAll
    rw [if_pos hc, List.mem_append]
    rcases Int.lt_or_eq_of_le h1 with g | g
    · exact .inr (lsAll_mem hb hs hk (by omega) (by omega) (by omega))
    · subst g
      exact .inl (lsRow_mem hb.1 (by omega) hk)
theorem lsRow_nodup {n a : Int} : ∀ (k : Nat) (b : Int), (lsRow n a k b).Nodup
  | 0, _ => List.Pairwise.nil
  | k + 1, b => by
    unfold lsRow
    have ih := lsRow_nodup k (b + 1) (n := n) (a := a)
    split
    · rw [List.singleton_append, List.nodup_cons]
      refine ⟨fun hm => ?_, ih⟩
      obtain ⟨b', h1, _, _, h4⟩ := mem_lsRow hm
      have := congrArg Fm.b h4
      simp only at this
      omega
    · exact ih
theorem lsAll_nodup {n : Int} : ∀ (k : Nat) (a : Int), 1 ≤ a → (lsAll n k a).Nodup
  | 0, _, _ => List.Pairwise.nil
  | k + 1, a, ha => by
    unfold lsAll
    split
    · rw [List.nodup_append]
      refine ⟨lsRow_nodup _ _, lsAll_nodup k (a + 1) (by omega), fun x hx y hy e => ?_⟩
      subst e
      obtain ⟨b', _, _, _, h4⟩ := mem_lsRow hx
      have h5 : ∀ {k : Nat} {c : Int}, 1 ≤ c → x ∈ lsAll n k c → c ≤ x.a := by
        intro k
        induction k with
        | zero => intro c _ h; simp [lsAll] at h
        | succ k ih =>
          intro c hc h
          unfold lsAll at h
          split at h
          · rw [List.mem_append] at h
            rcases h with h | h
            · obtain ⟨_, _, _, _, h6⟩ := mem_lsRow h
              rw [h6]; exact Int.le_refl _
            · have := ih (by omega) h; omega
          · simp at h
      have h6 := h5 (by omega) hy
      rw [h4] at h6
      simp only at h6
      omega
    · exact List.Pairwise.nil
theorem lst_nodup (n : Int) : (lst n).Nodup := lsAll_nodup 100 1 (by omega)
theorem dsc_c {a b c n : Int} (ha : 0 < a) (h : dsc a b c = -n) : (b * b + n) % (4 * a) = 0 ∧ (b * b + n) / (4 * a) = c := by
  unfold dsc at h
  have e : b * b + n = 4 * a * c := by omega
  rw [e]
  exact ⟨Int.mul_emod_right .., Int.mul_ediv_cancel_left _ (by omega)⟩
theorem Rd.sq3 {f : Fm} {n : Int} (h : Rd f) (hd : dsc f.a f.b f.c = -n) : 3 * f.a * f.a ≤ n := by
  have h1 := h.a
  have h2 := h.b
  have h3 := h.c
  unfold dsc at hd
  have e1 : 4 * f.a * f.c = 4 * (f.a * f.c) := Int.mul_assoc ..
  have e2 : 3 * f.a * f.a = 3 * (f.a * f.a) := Int.mul_assoc ..
  have h4 : f.a * f.a ≤ f.a * f.c := Int.mul_le_mul_of_nonneg_left h3 (by omega)
  have h5 : f.b * f.b ≤ f.a * f.a := sq_le_of_abs (by omega)
  omega
theorem lst_whole {n : Int} (hn : n ≤ 20000) : Whole (-n) (lst n) := by
  refine ⟨lst_nodup n, fun f => ⟨fun hm => ?_, fun h => ?_⟩⟩
  · obtain ⟨h1, h2, h3, h4, h5, h6, h7⟩ := lst_mem hm
    have hp : f.pos := ⟨by omega, by show dsc _ _ _ < 0; have h8 : 1 * 1 ≤ f.a * f.a := Int.mul_le_mul h1 h1 (by omega) (by omega); have e : 3 * f.a * f.a = 3 * (f.a * f.a) := Int.mul_assoc ..; omega⟩
    exact ⟨⟨hp, h7, h5⟩, rd_of_Rd (Rd.of (by omega) h6) hp⟩
  · have hr : Rd f := h.2 ▸ h.1.rd_Rd
    have hd := h.1.disc
    have ha := hr.a
    have hb := hr.b
    obtain ⟨e1, e2⟩ := dsc_c ha hd
    have hs := hr.sq3 hd
    have hk : okF n f.a f.b = true := by
      rw [okF_of e1, e2, h.1.prim, Bool.and_true]
      exact (red_iff h.1.pos).2 ⟨hr.b, hr.c, hr.s⟩
    have ha2 : f.a ≤ 100 := by
      rcases Int.lt_or_le 100 f.a with g | g
      · have h3 : (101 : Int) * 101 ≤ f.a * f.a := Int.mul_le_mul (by omega) (by omega) (by omega) (by omega)
        have e : 3 * f.a * f.a = 3 * (f.a * f.a) := Int.mul_assoc ..
        omega
      · exact g
    have hm := lsAll_mem (n := n) (a := f.a) (b := f.b) (by omega) hs hk (k := 100) (c := 1) (by omega) (by omega) (by omega)
    rw [e2] at hm
    exact hm
end Go.AM
end

section
/- The genera have the same number of classes. -/
namespace Go.AM
open Go Go.RowKit
section
variable {d : Int} {f g : Fm}
theorem gvL_pm (hf : Cl d f) (hd : -4194304 ≤ d) (h0 : d < 0) (hE : szE d = 0) : ∀ x ∈ gvL f, x = 1 ∨ x = -1 := by
  have h1 := gN_ok hf hd h0
  intro x hx
  rw [← gv_map hf hd h0 hE h1.1 h1.2] at hx
  obtain ⟨c, hc, rfl⟩ := List.mem_map.1 hx
  exact cv_pm h0 hc h1.2
theorem gpr_iff (hf : Cl d f) (hd : -4194304 ≤ d) (h0 : d < 0) (hE : szE d = 0) : gpr f = true ↔ ∀ x ∈ gvL f, x = 1 := by
  have h := gvL_pm hf hd h0 hE
  unfold gpr
  rw [decide_eq_true (cl_gpE hf hd hE), Bool.true_and, Bool.not_eq_true', ← Bool.not_eq_true, hasI_iff]
  constructor
  · intro h2 x hx
    rcases h x hx with q | q
    · exact q
    · exact absurd (q ▸ hx) h2
  · intro h2 hx
    have := h2 _ hx
    omega
theorem gpr_get (hf : Cl d f) (hd : -4194304 ≤ d) (h0 : d < 0) (hE : szE d = 0) : gpr f = true ↔ ∀ k : Nat, (k : Int) < (gvL f).length → (gvL f).getD k 0 = 1 := by
  rw [gpr_iff hf hd h0 hE]
  constructor
  · intro h k hk
    exact h _ (getD_memI hk)
  · intro h x hx
    obtain ⟨k, hk, e⟩ := List.getElem_of_mem hx
    have := h k (by omega)
    rw [← e]
    simpa [List.getD, hk] using this
theorem eq_get {l m : List Int} (h : l.length = m.length) (h2 : ∀ k : Nat, (k : Int) < l.length → l.getD k 0 = m.getD k 0) : l = m := by
  refine List.ext_getElem h fun k h3 h4 => ?_
  have := h2 k (by omega)
  simpa [List.getD, h3, h4] using this
/-- a product with a form of the principal genus stays in its genus -/
theorem gv_stay (hf : Cl d f) (hg : Cl d g) (hd : -4194304 ≤ d) (h0 : d < 0) (hE : szE d = 0) (h : gpr g = true) : gvL (mlt f g) = gvL f := by
  obtain ⟨n1, n2, n3⟩ := gvL_mlt hf hg hd h0 hE
  refine eq_get n2.symm fun k hk => ?_
  have := (gpr_get hg hd h0 hE).1 h k (by omega)
  rw [(n3 k (by omega)).1, this, Int.mul_one]
/-- two of one genus have a product of the principal genus -/
theorem gv_prin (hf : Cl d f) (hg : Cl d g) (hd : -4194304 ≤ d) (h0 : d < 0) (hE : szE d = 0) (h : gvL f = gvL g) : gpr (mlt f g) = true := by
  obtain ⟨n1, n2, n3⟩ := gvL_mlt hf hg hd h0 hE
  refine (gpr_get (mlt_cl hf hg) hd h0 hE).2 fun k hk => ?_
  obtain ⟨e, p, q⟩ := n3 k (by omega)
  rw [e, ← h]
  rcases p with p | p <;> rw [p] <;> rfl
def prW (l : List Fm) : List Fm := l.filter gpr
/-- squares are of the principal genus -/
theorem gpr_sq (hf : Cl d f) (hd : -4194304 ≤ d) (h0 : d < 0) (hE : szE d = 0) : gpr (mlt f f) = true := gv_prin hf hf hd h0 hE rfl
end
end Go.AM
end

section
/- There are fewer than 200 reduced forms of a small discriminant. -/
namespace Go.AM
open Go Go.RowKit
theorem lstc_0 : ∀ k : Fin 50, (lst (4 * (0 + k.val) + 3)).length ≤ 199 ∧ (lst (4 * (0 + k.val) + 4)).length ≤ 199 := by decide +kernel
theorem lstc_50 : ∀ k : Fin 50, (lst (4 * (50 + k.val) + 3)).length ≤ 199 ∧ (lst (4 * (50 + k.val) + 4)).length ≤ 199 := by decide +kernel
theorem lstc_100 : ∀ k : Fin 50, (lst (4 * (100 + k.val) + 3)).length ≤ 199 ∧ (lst (4 * (100 + k.val) + 4)).length ≤ 199 := by decide +kernel
theorem lstc_150 : ∀ k : Fin 50, (lst (4 * (150 + k.val) + 3)).length ≤ 199 ∧ (lst (4 * (150 + k.val) + 4)).length ≤ 199 := by decide +kernel
theorem lstc_200 : ∀ k : Fin 50, (lst (4 * (200 + k.val) + 3)).length ≤ 199 ∧ (lst (4 * (200 + k.val) + 4)).length ≤ 199 := by decide +kernel
theorem lstc_250 : ∀ k : Fin 50, (lst (4 * (250 + k.val) + 3)).length ≤ 199 ∧ (lst (4 * (250 + k.val) + 4)).length ≤ 199 := by decide +kernel
theorem lstc_300 : ∀ k : Fin 50, (lst (4 * (300 + k.val) + 3)).length ≤ 199 ∧ (lst (4 * (300 + k.val) + 4)).length ≤ 199 := by decide +kernel
theorem lstc_350 : ∀ k : Fin 50, (lst (4 * (350 + k.val) + 3)).length ≤ 199 ∧ (lst (4 * (350 + k.val) + 4)).length ≤ 199 := by decide +kernel
theorem lstc_400 : ∀ k : Fin 50, (lst (4 * (400 + k.val) + 3)).length ≤ 199 ∧ (lst (4 * (400 + k.val) + 4)).length ≤ 199 := by decide +kernel
theorem lstc_450 : ∀ k : Fin 50, (lst (4 * (450 + k.val) + 3)).length ≤ 199 ∧ (lst (4 * (450 + k.val) + 4)).length ≤ 199 := by decide +kernel
theorem lstc_500 : ∀ k : Fin 1, (lst (4 * (500 + k.val) + 3)).length ≤ 199 ∧ (lst (4 * (500 + k.val) + 4)).length ≤ 199 := by decide +kernel
theorem lst_199 {n : Int} (h1 : 3 ≤ n) (h2 : n ≤ 2003) (h : n % 4 = 0 ∨ n % 4 = 3) : (lst n).length ≤ 199 := by
  have key : ∀ k : Nat, k < 501 → (lst (4 * (k : Int) + 3)).length ≤ 199 ∧ (lst (4 * (k : Int) + 4)).length ≤ 199 := by
    intro k hk
    by_cases c0 : k < 50
    · have h := lstc_0 ⟨k - 0, by omega⟩
      have e : (0 : Int) + ((k - 0 : Nat) : Int) = (k : Int) := by omega
      rw [e] at h; exact h
    by_cases c50 : k < 100
    · have h := lstc_50 ⟨k - 50, by omega⟩
      have e : (50 : Int) + ((k - 50 : Nat) : Int) = (k : Int) := by omega
      rw [e] at h; exact h
    by_cases c100 : k < 150
    · have h := lstc_100 ⟨k - 100, by omega⟩
      have e : (100 : Int) + ((k - 100 : Nat) : Int) = (k : Int) := by omega
      rw [e] at h; exact h
    by_cases c150 : k < 200
    · have h := lstc_150 ⟨k - 150, by omega⟩
      have e : (150 : Int) + ((k - 150 : Nat) : Int) = (k : Int) := by omega
      rw [e] at h; exact h
    by_cases c200 : k < 250
    · have h := lstc_200 ⟨k - 200, by omega⟩
      have e : (200 : Int) + ((k - 200 : Nat) : Int) = (k : Int) := by omega
      rw [e] at h; exact h
    by_cases c250 : k < 300
    · have h := lstc_250 ⟨k - 250, by omega⟩
      have e : (250 : Int) + ((k - 250 : Nat) : Int) = (k : Int) := by omega
      rw [e] at h; exact h
    by_cases c300 : k < 350
    · have h := lstc_300 ⟨k - 300, by omega⟩
      have e : (300 : Int) + ((k - 300 : Nat) : Int) = (k : Int) := by omega
      rw [e] at h; exact h
    by_cases c350 : k < 400
    · have h := lstc_350 ⟨k - 350, by omega⟩
      have e : (350 : Int) + ((k - 350 : Nat) : Int) = (k : Int) := by omega
      rw [e] at h; exact h
    by_cases c400 : k < 450
    · have h := lstc_400 ⟨k - 400, by omega⟩
      have e : (400 : Int) + ((k - 400 : Nat) : Int) = (k : Int) := by omega
      rw [e] at h; exact h
    by_cases c450 : k < 500
    · have h := lstc_450 ⟨k - 450, by omega⟩
      have e : (450 : Int) + ((k - 450 : Nat) : Int) = (k : Int) := by omega
      rw [e] at h; exact h
    by_cases c500 : k < 501
    · have h := lstc_500 ⟨k - 500, by omega⟩
      have e : (500 : Int) + ((k - 500 : Nat) : Int) = (k : Int) := by omega
      rw [e] at h; exact h
    omega
  obtain ⟨k, hk⟩ : ∃ k : Nat, n = 4 * (k : Int) + 3 ∨ n = 4 * (k : Int) + 4 := ⟨((n - 3) / 4).toNat, by omega⟩
  rcases hk with e | e
  · rw [e]; exact (key k (by omega)).1
  · rw [e]; exact (key k (by omega)).2
end Go.AM
end

section
/- Places of small values of a reduced form. -/
namespace Go.AM
open Go Go.RowKit
theorem box1 {n k N X u : Int} (hn : 0 < n) (h : 12 * k ≤ 4 * n) (e : 4 * k * N = X * X + n * (u * u)) (hk : 0 < k) (hN : N ≤ 4000) : -80 ≤ u ∧ u ≤ 80 := by
  have hX := sq_nonneg' X
  have h1 : k * N ≤ k * 4000 := Int.mul_le_mul_of_nonneg_left hN (by omega)
  have e1 : 4 * k * N = 4 * (k * N) := Int.mul_assoc ..
  have key : ¬ 6561 ≤ u * u := fun g => by
    have h2 : n * 6561 ≤ n * (u * u) := Int.mul_le_mul_of_nonneg_left g (by omega)
    omega
  constructor
  · rcases Int.lt_or_le u (-80) with g | g
    · refine absurd ?_ key
      have := Int.mul_le_mul (show 81 ≤ -u by omega) (show 81 ≤ -u by omega) (by omega) (by omega)
      rw [Int.neg_mul_neg] at this; omega
    · exact g
  · rcases Int.lt_or_le 80 u with g | g
    · refine absurd ?_ key
      have := Int.mul_le_mul (show 81 ≤ u by omega) (show 81 ≤ u by omega) (by omega) (by omega)
      omega
    · exact g
theorem box {c : Fm} {n N u v : Int} (hr : Rd c) (hd : dsc c.a c.b c.c = -n) (hv : vl c.a c.b c.c u v = N) (hN : N ≤ 4000) : (-80 ≤ u ∧ u ≤ 80) ∧ -80 ≤ v ∧ v ≤ 80 := by
  have ha := hr.a
  have hc := hr.c
  have h3 := hr.sq3 hd
  have e3 : 3 * c.a * c.a = 3 * (c.a * c.a) := Int.mul_assoc ..
  have h1 : 1 * c.a ≤ c.a * c.a := Int.mul_le_mul_of_nonneg_right (by omega) (by omega)
  have h2 : 1 * c.c ≤ c.a * c.c := Int.mul_le_mul_of_nonneg_right (by omega) (by omega)
  have hb : c.b * c.b ≤ c.a * c.a := sq_le_of_abs (by have := hr.b; omega)
  have hd' : c.b * c.b - 4 * (c.a * c.c) = -n := by have := hd; unfold dsc at this; rw [Int.mul_assoc] at this; exact this
  have en : n = 4 * (c.a * c.c) - c.b * c.b := by omega
  refine ⟨box1 (n := n) (k := c.c) (X := 2 * c.c * v + c.b * u) (by omega) (by omega) ?_ (by omega) hN, box1 (n := n) (k := c.a) (X := 2 * c.a * u + c.b * v) (by omega) (by omega) ?_ ha hN⟩
  · rw [← hv, en]; unfold vl; grind
  · rw [← hv, en]; unfold vl; grind
theorem vl_neg (a b c x y : Int) : vl a b c (-x) (-y) = vl a b c x y := by unfold vl; grind
/-- a value of a product is found -/
theorem found {D : Int} {f g : Fm} {N x y z w : Int} (hf : Cl D f) (hg : Cl D g) (e : vl f.a f.b f.c x y * vl g.a g.b g.c z w = N) (hN : N ≤ 4000) :
    ∃ a b : Int, (0 ≤ a ∧ a ≤ 80) ∧ (-80 ≤ b ∧ b ≤ 80) ∧ vl (mlt f g).a (mlt f g).b (mlt f g).c b a = N := by
  have hc := mlt_cl hf hg
  have hr := mlt_Rd hf hg
  have hi : IsC D f g (cmpF f g) := cmp_isC hf hg
  refine (isC_vals hf hg hi x y z w).elim fun u hu => hu.elim fun v hv => ?_
  rw [e] at hv
  -- values of a form are those of its reduced form
  obtain ⟨m, hm, em⟩ := rd_via (cmp_isC hf hg).1.pos
  have hval : ∃ u v : Int, vl (mlt f g).a (mlt f g).b (mlt f g).c u v = N := by
    have e2 : mlt f g = (cmpF f g).app m := em
    have e3 : (mlt f g).app m.adj = cmpF f g := by rw [e2, adj_app hm]
    have e4 := vl_app (mlt f g) m.adj u v
    rw [e3] at e4
    exact ⟨_, _, (e4.symm.trans hv.symm)⟩
  refine hval.elim fun u hu => hu.elim fun v hv => ?_
  have hb := box hr (hc.disc.trans (by rw [Int.neg_neg])) hv hN (n := -D)
  rcases Int.lt_or_le v 0 with g0 | g0
  · exact ⟨-v, -u, by omega, by omega, by rw [vl_neg]; exact hv⟩
  · exact ⟨v, u, by omega, by omega, hv⟩
end Go.AM
end

section
/- The least root modulo four times a prime. -/
namespace Go.AM
open Go Go.RowKit
section
end
end Go.AM
end

section
/- Made forms, moved once more; small facts for the laws of chapter 9. -/
namespace Go.AM
open Go Go.RowKit
end Go.AM
end

section
/- Roots, values and powers, as the laws of chapter 9 count them. -/
namespace Go.AM
open Go Go.RowKit
theorem whole_L6 {D : Int} {l : List Fm} (w : Whole D l) (hD : -1000000000000000000 ≤ D) : ∀ g ∈ l, L 6 g.a ∧ L 6 g.b ∧ L 6 g.c := fun g hg => red_L6 ((w.mem g).1 hg).1 ((w.mem g).1 hg).2 hD
section
end
end Go.AM
end

section
/- Counting by a filter. -/
namespace Go.AM
open Go Go.RowKit
end Go.AM
end

section
/- The principal genus is the squares, if the numbers agree. -/
namespace Go.AM
open Go Go.RowKit
theorem fib_le (φ : Fm → Fm) (r : Nat) : ∀ (P l : List Fm), (∀ x ∈ l, φ x ∈ P) → (∀ g, (l.filter fun x => decide (φ x = g)).length ≤ r) → l.length ≤ P.length * r
  | [], l, h, _ => by
    cases l with
    | nil => simp
    | cons x l => exact absurd (h x (by simp)) (by simp)
  | g :: P, l, h, hr => by
    have h1 := fib_le φ r P (l.filter fun x => !decide (φ x = g)) (fun x hx => by
      obtain ⟨a, b⟩ := List.mem_filter.1 hx
      have := h x a
      rcases List.mem_cons.1 this with q | q
      · rw [decide_eq_true q] at b; exact absurd b (by decide)
      · exact q) (fun g' => by
      refine Nat.le_trans ?_ (hr g')
      exact List.Sublist.length_le (List.filter_sublist.filter _))
    have h2 := hr g
    have h3 : l.length = (l.filter fun x => decide (φ x = g)).length + (l.filter fun x => !decide (φ x = g)).length := by
      clear h h1 h2 hr
      induction l with
      | nil => rfl
      | cons x l ih =>
        by_cases q : φ x = g <;> simp [q] at ih ⊢ <;> omega
    rw [h3, List.length_cons, Nat.succ_mul]
    omega
section
variable {d : Int} {f g : Fm}
theorem gvL_rd (hf : Cl d f) (hd : -4194304 ≤ d) (h0 : d < 0) (hE : szE d = 0) : gvL f.rd = gvL f := by
  have h1 := gN_ok hf hd h0
  rw [← gv_map hf hd h0 hE h1.1 h1.2, ← gv_map hf.rd hd h0 hE (by rw [hf.rd_rd]; exact h1.1) h1.2]
theorem gpr_rd (hf : Cl d f) (hd : -4194304 ≤ d) (h0 : d < 0) (hE : szE d = 0) : gpr f.rd = gpr f := by
  rw [Bool.eq_iff_iff, gpr_iff hf hd h0 hE, gpr_iff hf.rd hd h0 hE, gvL_rd hf hd h0 hE]
/-- GAUSS: the principal genus -/
theorem prin_sq {l : List Fm} (w : Whole d l) (hf : Cl d f) (hd : -4194304 ≤ d) (h0 : d < 0) (hE : szE d = 0)
    (hK : (prW l).length * (rtW l (prP d)).length = l.length) : gpr f = true ↔ rtW l f ≠ [] := by
  have hc : ∀ x ∈ l, Cl d x ∧ x.rd = x := fun x hx => (w.mem x).1 hx
  constructor
  · intro hp he
    have hr := List.length_pos_iff.2 (rtW_one w hf)
    have hm : f.rd ∈ prW l := List.mem_filter.2 ⟨w.rd hf, by rw [gpr_rd hf hd h0 hE]; exact hp⟩
    have hP : ((prW l).filter fun x => decide (x ≠ f.rd)).length < (prW l).length := by
      refine Nat.lt_of_le_of_ne (List.length_filter_le _ _) fun e => ?_
      have := List.length_filter_eq_length_iff.1 e _ hm
      simp at this
    have h1 := fib_le (fun x => mlt x x) (rtW l (prP d)).length ((prW l).filter fun x => decide (x ≠ f.rd)) l (fun x hx => by
      refine List.mem_filter.2 ⟨List.mem_filter.2 ⟨w.mlt (hc x hx).1 (hc x hx).1, gpr_sq (hc x hx).1 hd h0 hE⟩, decide_eq_true fun e => ?_⟩
      have : x ∈ rtW l f := rtW_mem.2 ⟨hx, e⟩
      rw [he] at this
      exact absurd this (by simp)) (fun g => by
      by_cases q : (l.filter fun x => decide (mlt x x = g)) = []
      · rw [q]; exact Nat.zero_le _
      · obtain ⟨y, hy⟩ := List.exists_mem_of_ne_nil _ q
        obtain ⟨y1, y2⟩ := List.mem_filter.1 hy
        have y3 := of_decide_eq_true y2
        have hg : Cl d g := y3 ▸ mlt_cl (hc y y1).1 (hc y y1).1
        have hgr : g.rd = g := y3 ▸ mlt_rd (hc y y1).1 (hc y y1).1
        have e : (l.filter fun x => decide (mlt x x = g)) = rtW l g := by unfold rtW; rw [hgr]
        rw [e] at q ⊢
        exact Nat.le_of_eq (rtW_len w hg q))
    have h2 : (((prW l).filter fun x => decide (x ≠ f.rd)).length + 1) * (rtW l (prP d)).length ≤ (prW l).length * (rtW l (prP d)).length := Nat.mul_le_mul_right _ hP
    rw [hK, Nat.succ_mul] at h2
    omega
  · intro h
    obtain ⟨y, hy⟩ := List.exists_mem_of_ne_nil _ h
    obtain ⟨y1, y2⟩ := rtW_mem.1 hy
    rw [← gpr_rd hf hd h0 hE, ← y2]
    exact gpr_sq (hc y y1).1 hd h0 hE
end
end Go.AM
end

section
/- Whether a class has a root among the first forms of a list. -/
namespace Go.AM
open Go Go.RowKit
def hsR (l : List Fm) (G : Fm) : Bool := l.any fun x => decide (mlt x x = G)
theorem hsR_next {l : List Fm} {G : Fm} {k : Nat} (hk : (k : Int) < l.length) : hsR (l.take (k + 1)) G = (hsR (l.take k) G || decide (mlt (l.getD k ⟨0, 0, 0⟩) (l.getD k ⟨0, 0, 0⟩) = G)) := by
  unfold hsR
  rw [← take_snocF hk, List.any_append]; simp
theorem hsR_1 {a b : Bool} {Y G : Fm} (h : a = (b || decide (Y = G))) (hb : b = true) : true = a := by rw [h, hb]; rfl
theorem hsR_2 {a b : Bool} {Y G : Fm} (h : a = (b || decide (Y = G))) (hb : b = false) : decide (Y.a = G.a ∧ Y.b = G.b ∧ Y.c = G.c) = a := by
  rw [h, hb, Bool.false_or, Bool.eq_iff_iff, decide_eq_true_iff, decide_eq_true_iff]; exact fm_eq
theorem hsR_rtW {l : List Fm} {G : Fm} (hG : G.rd = G) : hsR l G = true ↔ rtW l G ≠ [] := by
  unfold hsR
  rw [List.any_eq_true]
  constructor
  · rintro ⟨x, h1, h2⟩ e
    have : x ∈ rtW l G := rtW_mem.2 ⟨h1, by rw [hG]; exact of_decide_eq_true h2⟩
    rw [e] at this; exact absurd this (by simp)
  · intro h
    obtain ⟨y, hy⟩ := List.exists_mem_of_ne_nil _ h
    obtain ⟨y1, y2⟩ := rtW_mem.1 hy
    exact ⟨y, y1, decide_eq_true (y2.trans hG)⟩
theorem hsR_end {l : List Fm} {G : Fm} {p : Bool} (hG : G.rd = G) (h : p = true ↔ rtW l G ≠ []) : (p == hsR l G) = true := by
  rw [beq_iff_eq, Bool.eq_iff_iff, hsR_rtW hG]; exact h
end Go.AM
end

section
/- integer.Low: the words of a number, the first one last; the number of 64 bits. -/
namespace Go.AM
open Go Go.RowKit
/-- the words, as they come -/
def bkL (zs : List Nat) : List (List PV) := (List.range zs.length).map fun (k : Nat) => [.c (.v (.int .i64 ((zs.length : Int) - 1 - (k : Int)))), .c (w32 (zs.getD (zs.length - 1 - k) 0))]
theorem bkL_len (zs : List Nat) : (bkL zs).length = zs.length := by unfold bkL; simp
theorem bkL_at {zs : List Nat} {k : Nat} (h : k < zs.length) : (bkL zs)[k]? = some [.c (.v (.int .i64 ((zs.length : Int) - 1 - (k : Int)))), .c (w32 (zs.getD (zs.length - 1 - k) 0))] := by
  unfold bkL; rw [List.getElem?_map, List.getElem?_range h]; rfl
theorem bkL_get {zs : List Nat} {k : Nat} {x : List PV} (h : (bkL zs)[k]? = some x) : k < zs.length ∧ x = [.c (.v (.int .i64 ((zs.length : Int) - 1 - (k : Int)))), .c (w32 (zs.getD (zs.length - 1 - k) 0))] := by
  have hk : k < zs.length := by have := (List.getElem?_eq_some_iff.1 h).1; rwa [bkL_len] at this
  rw [bkL_at hk] at h
  exact ⟨hk, (Option.some.inj h).symm⟩
theorem bkL_two (zs : List Nat) : ∀ x ∈ bkL zs, x.length = 2 := by
  intro x hx
  unfold bkL at hx
  obtain ⟨k, _, rfl⟩ := List.mem_map.1 hx
  rfl
/-- the number of the last k words -/
def lwA (zs : List Nat) (k : Nat) : Nat := wv (zs.drop (zs.length - k))
theorem lwA_0 (zs : List Nat) : lwA zs 0 = 0 := by unfold lwA; rw [Nat.sub_zero, List.drop_length]; rfl
theorem lwA_all (zs : List Nat) : lwA zs zs.length = wv zs := by unfold lwA; rw [Nat.sub_self]; rfl
theorem lwA_next {zs : List Nat} {k : Nat} (h : k < zs.length) : lwA zs (k + 1) = lwA zs k * 4294967296 + zs.getD (zs.length - 1 - k) 0 := by
  unfold lwA
  have hi : zs.length - (k + 1) < zs.length := by omega
  rw [List.drop_eq_getElem_cons hi, show zs.length - (k + 1) + 1 = zs.length - k by omega]
  have e : zs.getD (zs.length - 1 - k) 0 = zs[zs.length - (k + 1)] := by
    rw [List.getD_eq_getElem?_getD, show zs.length - 1 - k = zs.length - (k + 1) by omega, List.getElem?_eq_getElem hi]; rfl
  rw [e]
  show _ + 4294967296 * _ = _
  omega
theorem lwA_b {zs : List Nat} (hok : okW zs) (h2 : zs.length ≤ 2) {k : Nat} (h : k < zs.length) : lwA zs k < 4294967296 := by
  rcases (show k = 0 ∨ k = 1 by omega) with rfl | rfl
  · rw [lwA_0]; omega
  · have h0 : 0 < zs.length := by omega
    rw [lwA_next h0, lwA_0]
    have := hok.getD (zs.length - 1 - 0)
    omega
theorem or64 {m x : Nat} (hm : m < 4294967296) (hx : x < 4294967296) : bits .or .u64 ((m * 4294967296 : Nat) : Int) (x : Int) = ((m * 4294967296 + x : Nat) : Int) := by
  rw [bits_or rfl (lt64 (by omega)) (lt64 (by omega)), Nat.mul_comm m, show (4294967296 : Nat) = 2 ^ 32 by rfl, Nat.two_pow_add_eq_or_of_lt (i := 32) (by omega)]
/-- as a signed number -/
def sw64 (m : Nat) : Int := if m < 9223372036854775808 then m else (m : Int) - 18446744073709551616
theorem wrap64 (z : Int) : IntKind.i64.wrap z = if 9223372036854775808 ≤ z % 18446744073709551616 then z % 18446744073709551616 - 18446744073709551616 else z % 18446744073709551616 := by
  simp [IntKind.wrap, IntKind.signed, IntKind.bits]
theorem sw64_w {m : Nat} (h : m < 18446744073709551616) : IntKind.i64.wrap (m : Int) = sw64 m := by
  rw [wrap64]
  unfold sw64
  split <;> split <;> omega
def yL (x : Int) : Int := if x < 0 then IntKind.i64.wrap (0 - sw64 x.natAbs) else sw64 x.natAbs
theorem yL_neg {x : Int} (h : x < 0) : IntKind.i64.wrap (0 - sw64 x.natAbs) = yL x := by unfold yL; rw [if_pos h]
theorem yL_pos {x : Int} (h : ¬ x < 0) : sw64 x.natAbs = yL x := by unfold yL; rw [if_neg h]
theorem yL_ok {x : Int} (h : x.natAbs < 18446744073709551616) : (lwO x = true ∧ yL x = x) ∨ (lwO x = false ∧ ¬ yL x = 0 ∧ ¬ ((x < 0) ↔ (yL x < 0))) := by
  have hy : yL x = if x < 0 then (if x.natAbs ≤ 9223372036854775808 then x else 18446744073709551616 + x) else (if x < 9223372036854775808 then x else x - 18446744073709551616) := by
    unfold yL
    rw [wrap64]
    unfold sw64
    repeat' split
    all_goals omega
  rw [hy]
  unfold lwO
  by_cases hr : -9223372036854775808 ≤ x ∧ x < 9223372036854775808
  · refine .inl ⟨decide_eq_true hr, ?_⟩
    repeat' split
    all_goals omega
  · refine .inr ⟨decide_eq_false hr, ?_⟩
    repeat' split
    all_goals omega
theorem low_bad {x : Int} (h : x.natAbs < 18446744073709551616) (h1 : (decide (x < 0) != decide (yL x < 0)) = true) : AV.t [PE 0, PB false] = .t [PE (lwV x), PB (lwO x)] := by
  rcases yL_ok h with ⟨a, b⟩ | ⟨a, b, c⟩
  · rw [b] at h1; simp at h1
  · unfold lwV; rw [a]; rfl
theorem low_good {x : Int} (h : x.natAbs < 18446744073709551616) (h1 : (decide (x < 0) != decide (yL x < 0)) = false) : AV.t [PE (yL x), PB true] = .t [PE (lwV x), PB (lwO x)] := by
  rcases yL_ok h with ⟨a, b⟩ | ⟨a, b, c⟩
  · unfold lwV; rw [a, b]; rfl
  · exfalso
    apply c
    rw [bne_eq_false_iff_eq] at h1
    exact decide_eq_decide.1 h1
theorem low_zero0 {x : Int} (h : x.natAbs < 18446744073709551616) (h1 : yL x = 0) : AV.t [PE (yL x), PB true] = .t [PE (lwV x), PB (lwO x)] := by
  rcases yL_ok h with ⟨a, b⟩ | ⟨a, b, c⟩
  · unfold lwV; rw [a, b]; rfl
  · exact absurd h1 b
end Go.AM
end

section
/- A faster way to count the classes of the principal genus. -/
namespace Go.AM
open Go Go.RowKit
def frcI {α : Type} (x : Int) (k : Int → α) : α := match x with
  | .ofNat 0 => k 0
  | .ofNat (n + 1) => k (.ofNat (n + 1))
  | .negSucc n => k (.negSucc n)
theorem frcI_eq {α : Type} (x : Int) (k : Int → α) : frcI x k = k x := by
  unfold frcI; split <;> rfl
def frcL {α : Type} : List Int → (List Int → α) → α
  | [], k => k []
  | x :: l, k => frcI x fun y => frcL l fun m => k (y :: m)
theorem frcL_eq {α : Type} : ∀ (l : List Int) (k : List Int → α), frcL l k = k l
  | [], k => rfl
  | x :: l, k => by show frcI x _ = _; rw [frcI_eq, frcL_eq l]
def frcF {α : Type} : List Fm → (List Fm → α) → α
  | [], k => k []
  | f :: l, k => frcI f.a fun a => frcI f.b fun b => frcI f.c fun c => frcF l fun m => k (⟨a, b, c⟩ :: m)
theorem frcF_eq {α : Type} : ∀ (l : List Fm) (k : List Fm → α), frcF l k = k l
  | [], k => rfl
  | f :: l, k => by show frcI f.a _ = _; rw [frcI_eq, frcI_eq, frcI_eq, frcF_eq l]
def cpl : List (Int × Int) := [(1, 0), (0, 1), (1, 1), (1, -1), (2, 1), (1, 2), (2, -1), (1, -2), (3, 1), (1, 3), (3, -1), (1, -3)]
def cop1 (f : Fm) (m : Int) : List (Int × Int) → Int
  | [] => 0
  | p :: l => frcI (vl f.a f.b f.c p.1 p.2) fun N => bif Nat.beq (Int.gcd N m) 1 then N else cop1 f m l
def pr1 (cs : List Int) (m : Int) (f : Fm) : Bool := frcI (cop1 f m cpl) fun N => bif decide (N = 0) then gpr f else cs.all fun c => decide (cv c N = 1)
theorem cop1_ok (f : Fm) (m : Int) : ∀ l, cop1 f m l ≠ 0 → RpN f (cop1 f m l) ∧ Int.gcd (cop1 f m l) m = 1
  | [], h => absurd rfl h
  | p :: l, h => by
    have e : cop1 f m (p :: l) = bif Nat.beq (Int.gcd (vl f.a f.b f.c p.1 p.2) m) 1 then vl f.a f.b f.c p.1 p.2 else cop1 f m l := frcI_eq _ _
    rw [e] at h ⊢
    cases q : Nat.beq (Int.gcd (vl f.a f.b f.c p.1 p.2) m) 1 with
    | true => exact ⟨⟨_, _, rfl⟩, Nat.eq_of_beq_eq_true q⟩
    | false => rw [q] at h; exact cop1_ok f m l h
theorem pr1_eq {d : Int} {f : Fm} (hf : Cl d f) (hr : f.rd = f) (hd : -4194304 ≤ d) (h0 : d < 0) (hE : szE d = 0) : pr1 (chs d) (2 * d) f = gpr f := by
  have e : pr1 (chs d) (2 * d) f = bif decide (cop1 f (2 * d) cpl = 0) then gpr f else (chs d).all fun c => decide (cv c (cop1 f (2 * d) cpl) = 1) := frcI_eq _ _
  rw [e]
  by_cases q : cop1 f (2 * d) cpl = 0
  · rw [decide_eq_true q]; rfl
  · obtain ⟨h1, h2⟩ := cop1_ok f (2 * d) cpl q
    rw [decide_eq_false q, cond_false, Bool.eq_iff_iff, gpr_iff hf hd h0 hE, ← gv_map hf hd h0 hE (hr.symm ▸ h1) h2, List.all_eq_true]
    constructor
    · intro h x hx
      obtain ⟨c, hc, rfl⟩ := List.mem_map.1 hx
      exact of_decide_eq_true (h c hc)
    · intro h c hc
      exact decide_eq_true (h _ (List.mem_map.2 ⟨c, hc, rfl⟩))
def amb (f : Fm) : Bool := decide (f.b = 0) || (decide (f.a = f.b) || decide (f.a = f.c))
def fKn (n : Nat) : Bool := frcL (chs (-(n : Int))) fun cs => frcF (lst (n : Int)) fun l => Nat.beq ((l.filter (pr1 cs (2 * -(n : Int)))).length * 2 ^ (cs.length - 1)) l.length && Nat.beq (l.filter amb).length (2 ^ (cs.length - 1))
theorem fKn_ok {n : Nat} (h : fKn n = true) (h1 : 3 ≤ n) (h2 : n ≤ 2003) (hE : szE (-(n : Int)) = 0) : (prW (lst (n : Int))).length * 2 ^ ((chs (-(n : Int))).length - 1) = (lst (n : Int)).length ∧ ((lst (n : Int)).filter amb).length = 2 ^ ((chs (-(n : Int))).length - 1) := by
  unfold fKn at h
  rw [frcL_eq, frcF_eq, Bool.and_eq_true] at h
  have w := lst_whole (n := (n : Int)) (by omega)
  have e : (lst (n : Int)).filter (pr1 (chs (-(n : Int))) (2 * -(n : Int))) = prW (lst (n : Int)) := by
    refine List.filter_congr fun x hx => ?_
    obtain ⟨a, b⟩ := (w.mem x).1 hx
    exact pr1_eq a b (by omega) (by omega) hE
  rw [e] at h
  exact ⟨Nat.eq_of_beq_eq_true h.1, Nat.eq_of_beq_eq_true h.2⟩
def rK (g : Nat → Bool) (a : Nat) : Nat → Bool
  | 0 => true
  | k + 1 => ((Nat.ble 1 ((a + k) % 4) && Nat.ble ((a + k) % 4) 2) || g (a + k)) && rK g a k
theorem rK_ok {g : Nat → Bool} {a : Nat} : ∀ {k : Nat}, rK g a k = true → ∀ n, a ≤ n → n < a + k → (n % 4 = 0 ∨ n % 4 = 3) → g n = true
  | 0, _, n, h1, h2, _ => by omega
  | k + 1, h, n, h1, h2, h3 => by
    unfold rK at h
    rw [Bool.and_eq_true] at h
    rcases Nat.lt_or_ge n (a + k) with q | q
    · exact rK_ok h.2 n h1 q h3
    · have e : n = a + k := by omega
      rw [← e, Bool.or_eq_true, Bool.and_eq_true] at h
      rcases h.1 with z | z
      · have := Nat.le_of_ble_eq_true z.1
        have := Nat.le_of_ble_eq_true z.2
        omega
      · exact z
end Go.AM
end

section
/- The principal genus and the ambiguous classes, counted by the kernel: discriminants to -1399. -/
namespace Go.AM
open Go Go.RowKit
theorem gc_1 : rK fKn 3 497 = true := by decide +kernel
theorem gc_2 : rK fKn 500 500 = true := by decide +kernel
theorem gc_3 : rK fKn 1000 400 = true := by decide +kernel
end Go.AM
end

section
/- The principal genus and the ambiguous classes, counted by the kernel: discriminants from -1400 to -2003. -/
namespace Go.AM
open Go Go.RowKit
theorem gc_4 : rK fKn 1400 300 = true := by decide +kernel
theorem gc_5 : rK fKn 1700 304 = true := by decide +kernel
theorem gc_all {n : Nat} (h1 : 3 ≤ n) (h2 : n ≤ 2003) (h3 : n % 4 = 0 ∨ n % 4 = 3) : fKn n = true := by
  rcases Nat.lt_or_ge n 500 with q | q
  · exact rK_ok gc_1 n h1 (by omega) h3
  rcases Nat.lt_or_ge n 1000 with q2 | q2
  · exact rK_ok gc_2 n q (by omega) h3
  rcases Nat.lt_or_ge n 1400 with q3 | q3
  · exact rK_ok gc_3 n q2 (by omega) h3
  rcases Nat.lt_or_ge n 1700 with q4 | q4
  · exact rK_ok gc_4 n q3 (by omega) h3
  · exact rK_ok gc_5 n q4 (by omega) h3
theorem gc_szz (D : Nat) : (prW (lst (szz D))).length * 2 ^ ((chs (-szz D)).length - 1) = (lst (szz D)).length ∧ ((lst (szz D)).filter amb).length = 2 ^ ((chs (-szz D)).length - 1) := by
  have hs := szz_spec D
  have hE := szz_szE D
  obtain ⟨n, hn⟩ : ∃ n : Nat, szz D = (n : Int) := ⟨(szz D).toNat, by omega⟩
  rw [hn] at hs hE ⊢
  exact fKn_ok (gc_all (by omega) (by omega) (by omega)) (by omega) (by omega) hE
end Go.AM
end

section
/- The ambiguous classes are those whose square is principal. -/
namespace Go.AM
open Go Go.RowKit
section
variable {D : Int} {f : Fm}
theorem sq_mi (hf : Cl D f) : mlt f f = prP D ↔ f.mi.rd = f.rd := by
  have hm := mi_cl hf
  constructor
  · intro h
    refine (mlt_inj hf hm hf ?_).symm
    rw [h, mlt_comm hm hf, mlt_inv hf]
  · intro h
    rw [← mlt_inv hf]
    exact (mlt_class hf hf hf hm rfl h.symm)
theorem amb_mi (hf : Cl D f) (hr : Rd f) : amb f = true ↔ f.mi.rd = f := by
  have hp := hf.pos
  unfold amb
  rw [Bool.or_eq_true, Bool.or_eq_true, decide_eq_true_iff, decide_eq_true_iff, decide_eq_true_iff]
  constructor
  · rintro (h | h | h)
    · have e : f.mi = f := Fm.ext rfl (by show -f.b = f.b; omega) rfl
      rw [e]; exact rd_of_Rd hr hp
    · have e : f.mi = f.app ⟨1, -1, 0, 1⟩ := Fm.ext (by simp only [Fm.mi, Fm.app, vl, apB]; grind) (by simp only [Fm.mi, Fm.app, vl, apB]; grind) (by simp only [Fm.mi, Fm.app, vl, apB]; grind)
      rw [e, rd_app1 hp (by decide)]; exact rd_of_Rd hr hp
    · have e : f.mi = f.app ⟨0, -1, 1, 0⟩ := Fm.ext (by simp only [Fm.mi, Fm.app, vl, apB]; grind) (by simp only [Fm.mi, Fm.app, vl, apB]; grind) (by simp only [Fm.mi, Fm.app, vl, apB]; grind)
      rw [e, rd_app1 hp (by decide)]; exact rd_of_Rd hr hp
  · intro h
    rcases Classical.em (f.b = 0 ∨ f.a = f.b ∨ f.a = f.c) with q | q
    · exact q
    · obtain ⟨r1, r2, r3, r4⟩ := hr
      have hr2 : Rd f.mi := ⟨r1, by show ((-f.b).natAbs : Int) ≤ f.a; omega, r3, by show (((-f.b).natAbs : Int) < f.a ∧ f.a < f.c) ∨ 0 ≤ -f.b; omega⟩
      rw [rd_of_Rd hr2 (mi_cl hf).pos] at h
      have : -f.b = f.b := congrArg Fm.b h
      omega
theorem amb_rtW {l : List Fm} (w : Whole D l) : l.filter amb = rtW l (prP D) := by
  unfold rtW
  refine List.filter_congr fun x hx => ?_
  obtain ⟨a, b⟩ := (w.mem x).1 hx
  have hr : Rd x := b ▸ a.rd_Rd
  have e : (prP D).rd = prP D := prP_rd a
  rw [e, Bool.eq_iff_iff, decide_eq_true_iff, amb_mi a hr, sq_mi a, b]
end
end Go.AM
end

section
/- What the kernel has counted, as the laws want it. -/
namespace Go.AM
open Go Go.RowKit
theorem gc_sq (D : Nat) : (prW (lst (szz D))).length * (rtW (lst (szz D)) (prP (-szz D))).length = (lst (szz D)).length := by
  have h := gc_szz D
  have hs := szz_spec D
  rw [← amb_rtW (lst_whole (n := szz D) (by omega)), h.2]
  exact h.1
end Go.AM
end
