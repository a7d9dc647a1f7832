import Derived.Test.YthaiejfjnllglaaGreatDoorTBB
import Derived.RangeFuncLeaves
import Derived.Lib.SliceRun
set_option maxRecDepth 100000
set_option maxHeartbeats 1000000
namespace Go.AM
section
open Go Go.RowKit
theorem sZ {k n : Nat} {x : Int} (hx : L n x) (h : 2 ^ k ≤ x.natAbs) : k < 2 ^ n := by
 unfold L at hx
 generalize 2 ^ n = e at hx ⊢
 exact (Nat.pow_lt_pow_iff_right (a := 2) (by omega)).1 (Nat.lt_of_le_of_lt h hx)
theorem nT {k : Nat} {x : Int} (hx : L 40 x) (h : 2 ^ k ≤ x.natAbs) : k < 1099511627776 := Nat.lt_of_lt_of_eq (sZ hx h) (by decide)
structure TwI (x b k : Int) : Prop where
 ne : b ≠ 0
 lb : L 40 b
 tw : tw x = ((AM.tw b).1, (AM.tw b).2 + k)
 k0 : 0 ≤ k
 le : b.natAbs * 2 ^ k.toNat ≤ x.natAbs
theorem TwI.start {x : Int} (hx : L 40 x) (h : x ≠ 0) : TwI x x 0 := ⟨h, hx, by simp, by omega, by simp⟩
theorem TwI.lt {x b k : Int} (hx : L 40 x) (h : TwI x b k) : k < 1099511627776 := by
 have h1 : 1 * 2 ^ k.toNat ≤ b.natAbs * 2 ^ k.toNat := Nat.mul_le_mul_right _ (by have := h.ne; omega)
 have := nT (k := k.toNat) hx (by have := h.le; omega)
 have := h.k0
 omega
theorem TwI.next {x b k : Int} (h : TwI x b k) (ho : cH b = false) : TwI x (b / 2) (k + 1) ∧ (b / 2).natAbs < b.natAbs := by
 have h2 : b % 2 = 0 := by
  have : ¬ b % 2 = 1 := fun e => by unfold cH at ho; rw [e] at ho; cases ho
  omega
 have hne := h.ne
 have hb : b.natAbs = 2 * (b / 2).natAbs := by omega
 refine ⟨⟨by omega, L.of_le h.lb (by omega), zU hne ho h.tw, by have := h.k0; omega, ?_⟩, by omega⟩
 have e : (k + 1).toNat = k.toNat + 1 := by have := h.k0; omega
 have hl := h.le
 rw [hb] at hl
 rw [e, Nat.pow_succ]
 have e2 : (b / 2).natAbs * (2 ^ k.toNat * 2) = 2 * (b / 2).natAbs * 2 ^ k.toNat := by
  rw [Nat.mul_comm (2 ^ k.toNat) 2, ← Nat.mul_assoc, Nat.mul_comm _ 2]
 omega
theorem Cz {x : Int} (hx : L 40 x) (h0 : x ≠ 0) : LB (tw x).1 40 := ⟨L.of_le hx (eR _ x (Nat.le_refl _) h0).1⟩
theorem Cy {x : Int} (hx : L 40 x) (h0 : x ≠ 0) : 0 ≤ (tw x).2 ∧ (tw x).2 < 1099511627776 := by
 have key : ∀ (n : Nat) (a : Int), a.natAbs ≤ n → a ≠ 0 → (tw a).1.natAbs * 2 ^ (tw a).2.toNat ≤ a.natAbs := by
  intro n
  induction n with
  | zero => intro a h h0; omega
  | succ n ih =>
   intro a h h0
   cases ho : cH a with
   | true => rw [gU ho]; simp
   | false =>
    have h2 : a % 2 = 0 := by
     have : ¬ a % 2 = 1 := fun e => by unfold cH at ho; rw [e] at ho; cases ho
     omega
    have i1 := ih (a / 2) (by omega) (by omega)
    have i2 := (eR _ (a / 2) (Nat.le_refl _) (by omega)).2.2.2.1
    rw [ji h0 ho]
    simp only
    have e : ((tw (a / 2)).2 + 1).toNat = (tw (a / 2)).2.toNat + 1 := by omega
    have hb : a.natAbs = 2 * (a / 2).natAbs := by omega
    rw [e, Nat.pow_succ]
    have e2 : (tw (a / 2)).1.natAbs * (2 ^ (tw (a / 2)).2.toNat * 2) = 2 * ((tw (a / 2)).1.natAbs * 2 ^ (tw (a / 2)).2.toNat) := by
     rw [← Nat.mul_assoc, Nat.mul_comm _ 2]
    omega
 have h1 := key _ x (Nat.le_refl _) h0
 have h2 := eR _ x (Nat.le_refl _) h0
 have h3 : 1 * 2 ^ (tw x).2.toNat ≤ (tw x).1.natAbs * 2 ^ (tw x).2.toNat := Nat.mul_le_mul_right _ (by omega)
 have := nT (k := (tw x).2.toNat) hx (by omega)
 omega
def sgL : List Value := [.int .i64 0, .int .i64 1, .int .i64 0, .int .i64 (-1), .int .i64 0, .int .i64 (-1), .int .i64 0, .int .i64 1]
theorem rG (x : Int) : ((sgL.drop (x % 8).toNat).map DV.v)[0]? = some (.v (.int .i64 (sg8 x))) := by
 have h1 := Int.emod_nonneg x (show (8 : Int) ≠ 0 by omega)
 have h2 := Int.emod_lt_of_pos x (show (0 : Int) < 8 by omega)
 unfold sg8
 generalize x % 8 = r at *
 have : r = 0 ∨ r = 1 ∨ r = 2 ∨ r = 3 ∨ r = 4 ∨ r = 5 ∨ r = 6 ∨ r = 7 := by omega
 rcases this with rfl | rfl | rfl | rfl | rfl | rfl | rfl | rfl <;> rfl
theorem EV (x : Int) : -1 ≤ sg8 x ∧ sg8 x ≤ 1 := by unfold sg8; repeat' split <;> omega
theorem p6 {k x : Int} (h : -1 ≤ k ∧ k ≤ 1) : -1 ≤ k * sg8 x ∧ k * sg8 x ≤ 1 := by
 have h2 := EV x
 generalize sg8 x = s at *
 have : k = -1 ∨ k = 0 ∨ k = 1 := by omega
 rcases this with rfl | rfl | rfl <;> omega
structure KrI (R : Int × Int) (f : Nat) (k a n : Int) : Prop where
 hk : -1 ≤ k ∧ k ≤ 1
 a0 : 0 ≤ a
 n0 : 0 < n
 la : L 40 a
 ln : L 40 n
 hf : a.natAbs < f
 go : jO f k a n = R
def k1F (k a n : Int) : Int := if (tw a).2 % 2 = 1 then k * sg8 n else k
def k2F (k1 a n : Int) : Int := if (tw a).1 % 4 = 3 ∧ n % 4 = 3 then -k1 else k1
theorem KrI.next {R : Int × Int} {f : Nat} {k a n : Int} (h : KrI R f k a n) (ha : 0 < a) :
  KrI R (f - 1) (k2F (k1F k a n) a n) (n % (tw a).1) (tw a).1 ∧ (n % (tw a).1).natAbs < a.natAbs := by
 have h1 := eR _ a (Nat.le_refl _) (by omega)
 have hp := h1.2.2.2.2.2 ha
 have h3 := Int.emod_nonneg n (show (tw a).1 ≠ 0 by omega)
 have h4 := Int.emod_lt_of_pos n hp
 have hk1 : -1 ≤ k1F k a n ∧ k1F k a n ≤ 1 := by
  unfold k1F; split
  ·exact p6 h.hk
  exact h.hk
 have hla := h.la
 have hf := h.hf
 refine ⟨⟨?_, h3, hp, L.of_le hla (by omega), L.of_le hla h1.1, by omega, ?_⟩, by omega⟩
 ·unfold k2F; split <;> omega
 have e : f = (f - 1) + 1 := by omega
 have := h.go
 rw [e, jO, if_pos ha] at this
 exact this
theorem KrI.stop {R : Int × Int} {f : Nat} {k a n : Int} (h : KrI R f k a n) (ha : ¬ 0 < a) : R = (k, n) := by
 have e : f = (f - 1) + 1 := by have := h.hf; omega
 have := h.go
 rw [e, jO, if_neg ha] at this
 exact this.symm
def k0K (a n : Int) : Int := if n < 0 ∧ a < 0 then -1 else 1
def k1K (a n : Int) : Int := if (tw (n.natAbs : Int)).2 % 2 = 1 then k0K a n * sg8 a else k0K a n
def RK_ (a n : Int) : Int × Int := jO (a % (tw (n.natAbs : Int)).1).natAbs.succ (k1K a n) (a % (tw (n.natAbs : Int)).1) (tw (n.natAbs : Int)).1
theorem tz (a n : Int) : -1 ≤ k0K a n ∧ k0K a n ≤ 1 := by unfold k0K; split <;> omega
theorem FT (a n : Int) : -1 ≤ k1K a n ∧ k1K a n ≤ 1 := by
 unfold k1K; split
 ·exact p6 (tz a n)
 exact tz a n
theorem GQ {a n : Int} (h : n = 0) (h1 : (a.natAbs : Int) = 1) : 1 = kr a n := by unfold kr; rw [if_pos h, if_pos h1]
theorem FP {a n : Int} (h : n = 0) (h1 : ¬ (a.natAbs : Int) = 1) : 0 = kr a n := by unfold kr; rw [if_pos h, if_neg h1]
theorem A2 {a n : Int} (h : ¬ n = 0) (h1 : cH a = false) (h2 : cH n = false) : 0 = kr a n := by unfold kr; rw [if_neg h, if_pos ⟨h1, h2⟩]
theorem tx {a n : Int} (h : ¬ n = 0) (h1 : ¬ (cH a = false ∧ cH n = false)) : kr a n = if (RK_ a n).2 = 1 then (RK_ a n).1 else 0 := by unfold kr; rw [if_neg h, if_neg h1]; rfl
theorem KrI.start {a n : Int} (h : ¬ n = 0) (_ha : L 40 a) (hn : L 40 n) : KrI (RK_ a n) (a % (tw (n.natAbs : Int)).1).natAbs.succ (k1K a n) (a % (tw (n.natAbs : Int)).1) (tw (n.natAbs : Int)).1 := by
 have h1 := eR _ (n.natAbs : Int) (Nat.le_refl _) (by omega)
 have hp := h1.2.2.2.2.2 (by omega)
 have h3 := Int.emod_nonneg a (show (tw (n.natAbs : Int)).1 ≠ 0 by omega)
 have h4 := Int.emod_lt_of_pos a hp
 exact ⟨FT a n, h3, hp, L.of_le hn (by omega), L.of_le hn (by omega), Nat.lt_succ_self _, rfl⟩
end
section
open Go Go.RowKit
theorem rY {m : Int} (h : m < 0) : ((m.natAbs : Nat) : Int) = -m := by omega
theorem Au {m : Int} (h : ¬ m < 0) : ((m.natAbs : Nat) : Int) = m := by omega
theorem FU {k a n : Int} (h : -1 ≤ k ∧ k ≤ 1) : -1 ≤ k1F k a n ∧ k1F k a n ≤ 1 := by
 unfold k1F; split
 ·exact p6 h
 exact h
end
section
open Go Go.RowKit
def Gu (fn : Func) (res : AV) (e : Exit) (s : St) : Prop := (e = .normal ∨ e = .ret) ∧ ∃ t, fn.results = #[.tmp t] ∧ s.regs t = res
theorem iJ {P : Program} {f : FuncId} {fn : Func} {c : Code} {N : Nat} {args : List AV} {res : AV} (hf : P.funcs[f]? = some fn) (hnm : (fn.name == "runtime.NumGoroutine") = false) (hb : fn.body = some c) (hN : fn.ntmps = N) (hna : args.length ≤ N)
  (hres : men res = []) (h : AWp P false N 0 c (Gu fn res) ⟨fun t => args.getD t .junk, O⟩) : aG P f args res := by
 refine ⟨⟨fn, hf, hnm, by rw [hb]; rfl⟩, ?_⟩
 intro hh r w cargs hra hbf
 have hlen : cargs.size = args.length := by
  have : ∀ (as0 : List AV) (xs : List Value), RepArgs hh r as0 xs → xs.length = as0.length := by
   intro as0
   induction as0 with
   | nil => intro xs h; cases xs with
    | nil => rfl
    | cons _ _ => exact h.elim
   | cons p ps ih => intro xs h; cases xs with
    | nil => exact h.elim
    | cons x xs => simp [ih xs h.2]
  simpa using this _ _ hra
 have hget : ∀ (as0 : List AV) (xs : List Value), RepArgs hh r as0 xs → ∀ (t : Nat) (x : AV), as0[t]? = some x → ∃ y, xs[t]? = some y ∧ AVRep hh r x y := by
  intro as0
  induction as0 with
  | nil => intro xs _ t x h; simp at h
  | cons p ps ih => intro xs h t x hx; cases xs with
   | nil => exact h.elim
   | cons y ys => cases t with
    | zero => simp at hx; subst hx; exact ⟨y, rfl, h.1⟩
    | succ t => exact ih ys h.2 t x (by simpa using hx)
 refine ns (n := 0) (callsIn_of_wp_marks hf hb trivial ?_)
 let C : Ctx := ⟨w, hh, fun _ => False, r, 0, true⟩
 refine wpIn_mono (h none (fun _ => rfl) C hh r _ w ⟨rfl, rfl⟩ ⟨?_, trivial, ?_, ⟨hbf.ow, hbf.inj, hbf.hi, hbf.ho, rfl, rfl, .refl _, Nat.le_refl _, fun _ _ _ => rfl, fun m k hm => absurd rfl hm, .refl _, fun k hk => .inl hk, hbf.gl, fun _ _ => rfl, fun m b j hb => by cases hb⟩⟩) ?_
 ·simp [hN]; omega
 ·intro t
  show AVRep hh r (args.getD t .junk) _
  rw [List.getD_eq_getElem?_getD]
  cases ht : args[t]? with
  | none => exact trivial
  | some x =>
   obtain ⟨y, h1, h2⟩ := hget _ _ hra t x ht
   have h1' : cargs[t]? = some y := by rw [← Array.getElem?_toList]; exact h1
   have hlt : t < cargs.size := (Array.getElem?_eq_some_iff.1 h1').1
   simp only [Array.getD_eq_getD_getElem?, Array.getElem?_append_left hlt, h1', Option.getD_some]
   exact h2
 rintro e a' w' ⟨s', h', r', ⟨he, t, hrs, hreg⟩, hc⟩
 have fin : LeavesInM (Wd none) 0 P fn a'.tmps (fun e w' => ∃ v h', e = .returned v ∧ AVRep h' r res v ∧ After hh r O w h' O w') a'.defers .returning w' := by
  refine jd hc ?_
  intro h' w' hc
  have hx := hc.rg t
  rw [hreg] at hx
  have hv1 : (results fn a'.tmps).run P w' = .ok (a'.tmps.getD t undef) w' := by
   rw [eK, hrs]
   simp [gi]
  have hk := hc.wk
  refine ⟨_, hv1, _, h', rfl, AVRep.rebind _ _ (fun m hm => by rw [hres] at hm; simp at hm) hx, ?_⟩
  refine ⟨fun m b e => (by cases e), fun m hm => absurd rfl hm, hk.hi, fun m k hm => absurd rfl hm, hk.os, hk.tape, hk.output, hk.size, fun k h1 _ => hk.old k h1 (fun x => x), hk.hg, fun k e => ?_⟩
  rcases hk.hn k e with g | g | g
  ·exact .inl g
  ·exact .inr (.inl g)
  exact g.elim
 rcases he with rfl | rfl <;> exact fin
def Tr.fm (t : Tr) : Fm := ⟨t.a, t.b, t.c⟩
theorem iO {α : Type} {l : List α} {k : Nat} {x : α} (h : l[k]? = some x) : l.take (k + 1) = l.take k ++ [x] := by
 rw [List.take_add_one, h]; rfl
def LK (n : Int) (p : Fm → Bool) (k : Nat) : List Fm := (((trs n).take k).map Tr.fm).filter p
def LW (n : Int) (p : Fm → Bool) : List Fm := ((trs n).map Tr.fm).filter p
theorem Ez {n : Int} {p : Fm → Bool} {k : Nat} {t : Tr} (h : (trs n)[k]? = some t) (hp : p t.fm = true) : LK n p (k + 1) = LK n p k ++ [t.fm] := by
 unfold LK; rw [iO h]; simp [hp]
theorem Gs {n : Int} {p : Fm → Bool} {k : Nat} {t : Tr} (h : (trs n)[k]? = some t) (hp : p t.fm = false) : LK n p (k + 1) = LK n p k := by
 unfold LK; rw [iO h]; simp [hp]
theorem rr (n : Int) : (trI n).length = (trs n).length := by unfold trI; simp
theorem EB (n : Int) (p : Fm → Bool) : LK n p (trI n).length = LW n p := by unfold LK LW; rw [rr, List.take_length]
theorem ru {n : Int} {k : Nat} {x : List PV} (h : (trI n)[k]? = some x) : ∃ t, (trs n)[k]? = some t ∧ x = [.a (TP t)] := by
 unfold trI at h
 rw [List.getElem?_map] at h
 cases ht : (trs n)[k]? with
 | none => rw [ht] at h; cases h
 | some t => rw [ht] at h; cases h; exact ⟨t, rfl, rfl⟩
theorem rq (n : Int) : ∀ x ∈ trI n, x.length = 1 := by
 intro x hx
 unfold trI at hx
 obtain ⟨t, _, rfl⟩ := List.mem_map.1 hx
 rfl
theorem pd (n a : Int) : ∀ (k : Nat) (b : Int), (dO n a k b).length ≤ k
 | 0, _ => Nat.le_refl _
 | k + 1, b => by
  unfold dO
  rw [List.length_append]
  have := pd n a k (b + 1)
  split <;> simp <;> omega
theorem qK (n : Int) : ∀ (k : Nat) (a : Int), 1 ≤ a → a + k ≤ 2001 → (dG n k a).length ≤ k * 4002
 | 0, _, _, _ => by simp [dG]
 | k + 1, a, h1, h2 => by
  unfold dG
  split
  ·rw [List.length_append]
   have i1 := pd n a (2 * a).toNat (1 - a)
   have i2 := qK n k (a + 1) (by omega) (by omega)
   omega
  simp
theorem rm (n : Int) : (trs n).length ≤ 8004000 := qK n 2000 1 (by omega) (by omega)
theorem EA (n : Int) (p : Fm → Bool) (k : Nat) : (LK n p k).length ≤ 8004000 := by
 unfold LK
 have h1 := List.length_filter_le p (((trs n).take k).map Tr.fm)
 rw [List.length_map, List.length_take] at h1
 have := rm n
 omega
theorem jK {n a : Int} {t : Tr} : ∀ {k : Nat} {b : Int}, t ∈ dO n a k b → ∃ b', b ≤ b' ∧ b' < b + k ∧ okT n a b' = true ∧ t = ⟨a, b', (b' * b' + n) / (4 * a)⟩
 | 0, b, h => by simp [dO] at h
 | k + 1, b, h => by
  unfold dO at h
  rw [List.mem_append] at h
  rcases h with h | h
  ·split at h
   ·next hk => simp at h; exact ⟨b, by omega, by omega, hk, h⟩
   simp at h
  obtain ⟨b', h1, h2, h3, h4⟩ := jK h
  exact ⟨b', by omega, by omega, h3, h4⟩
theorem lQ {n : Int} {t : Tr} : ∀ {k : Nat} {a : Int}, 1 ≤ a → t ∈ dG n k a → ∃ a' b', a ≤ a' ∧ a' < a + k ∧ 3 * a' * a' ≤ n ∧ 1 - a' ≤ b' ∧ b' ≤ a' ∧ okT n a' b' = true ∧ t = ⟨a', b', (b' * b' + n) / (4 * a')⟩
 | 0, a, _, h => by simp [dG] at h
 | k + 1, a, ha, h => by
  unfold dG at h
  split at h
  ·next hk =>
   rw [List.mem_append] at h
   rcases h with h | h
   ·obtain ⟨b', h1, h2, h3, h4⟩ := jK h
    exact ⟨a, b', by omega, by omega, hk, h1, by omega, h3, h4⟩
   obtain ⟨a', b', h1, h2, h3⟩ := lQ (by omega) h
   exact ⟨a', b', by omega, by omega, h3⟩
  simp at h
structure TrB (n : Int) (t : Tr) : Prop where
 a1 : 1 ≤ t.a
 a2 : t.a ≤ 2000
 sq : 3 * t.a * t.a ≤ n
 b1 : 1 - t.a ≤ t.b
 b2 : t.b ≤ t.a
 md : (t.b * t.b + n) % (4 * t.a) = 0
 c : t.c = (t.b * t.b + n) / (4 * t.a)
 ac : t.a ≤ t.c
 bc : ¬ (t.b < 0 ∧ t.a = t.c)
theorem rl {n : Int} {t : Tr} (h : t ∈ trs n) : TrB n t := by
 obtain ⟨a, b, h1, h2, h3, h4, h5, h6, rfl⟩ := lQ (by omega) h
 unfold okT at h6
 rw [Bool.and_eq_true, Bool.and_eq_true, decide_eq_true_iff, decide_eq_true_iff] at h6
 refine ⟨h1, by simp only; omega, h3, h4, h5, h6.1, rfl, h6.2.1, ?_⟩
 rintro ⟨g1, g2⟩
 have := h6.2.2
 simp [show b < 0 from g1] at this
 exact this g2
theorem nF {n : Int} {t : Tr} (h : t ∈ trs n) (hn : n ≤ 4194304) : (0 < t.a ∧ t.a ≤ 2000) ∧ (-2000 ≤ t.b ∧ t.b ≤ 2000) ∧ 0 < t.c ∧ t.c ≤ 10000000 := by
 have k := rl h
 have h1 := k.a1; have h2 := k.a2; have h3 := k.b1; have h4 := k.b2; have h5 := k.ac; have h6 := k.sq
 have qs := ki (x := t.b) (m := 2000) (by omega)
 have qa := cp t.a
 have e : 3 * t.a * t.a = 3 * (t.a * t.a) := Int.mul_assoc ..
 have hc : t.c ≤ t.b * t.b + n := by rw [k.c]; exact Int.ediv_le_self _ (by omega)
 omega
def prT (t : Tr) : Bool := decide (Int.gcd (Int.gcd t.a t.b : Nat) t.c = 1)
def clK (n : Int) (k : Nat) : Int := (((trs n).take k).filter prT).length
def cls (n : Int) : Int := ((trs n).filter prT).length
theorem Bu {n : Int} {k : Nat} {t : Tr} (h : (trs n)[k]? = some t) (hp : prT t = true) : clK n (k + 1) = clK n k + 1 := by
 unfold clK; rw [iO h]; simp [hp]
theorem D8 {n : Int} {k : Nat} {t : Tr} (h : (trs n)[k]? = some t) (hp : prT t = false) : clK n (k + 1) = clK n k := by
 unfold clK; rw [iO h]; simp [hp]
theorem Bv (n : Int) : clK n (trI n).length = cls n := by unfold clK cls; rw [rr, List.take_length]
theorem F9 (n : Int) (k : Nat) : 0 ≤ clK n k ∧ clK n k ≤ 8004000 := by
 unfold clK
 have h1 := List.length_filter_le prT ((trs n).take k)
 rw [List.length_take] at h1
 have := rm n
 omega
theorem uw {t : Tr} : (((Int.gcd (Int.gcd t.a t.b : Nat) t.c : Nat) : Int) == 1) = prT t := by
 unfold prT; rw [Bool.eq_iff_iff]; simp; omega
def bo : List Int → Int
 | [] => 0
 | x :: l => x + bo l
theorem nK (l : List Int) (x : Int) : bo (l ++ [x]) = bo l + x := by
 induction l with
 | nil => simp [bo]
 | cons y l ih => simp only [List.cons_append, bo, ih]; omega
def szE (d : Int) : Int := if 0 ≤ d ∨ d % 4 > 1 then 5 else if -d > 4194304 then 2 else 0
def szN (d : Int) : Int := if szE d = 0 then -d else 0
theorem CF {d : Int} (h : 0 ≤ d ∨ d % 4 > 1) : AV.t [PE 0, PE 5] = AV.t [PE (szN d), PE (szE d)] := by
 have : szE d = 5 := by unfold szE; rw [if_pos h]
 unfold szN; rw [this]; rfl
theorem Gz {d : Int} (h : ¬ (0 ≤ d ∨ d % 4 > 1)) (h1 : -d > 4194304) : AV.t [PE 0, PE 2] = AV.t [PE (szN d), PE (szE d)] := by
 have : szE d = 2 := by unfold szE; rw [if_neg h, if_pos h1]
 unfold szN; rw [this]; rfl
theorem GA {d : Int} (h : ¬ (0 ≤ d ∨ d % 4 > 1)) (h1 : ¬ -d > 4194304) : AV.t [PE (-d), PE 0] = AV.t [PE (szN d), PE (szE d)] := by
 have : szE d = 0 := by unfold szE; rw [if_neg h, if_neg h1]
 unfold szN; rw [this]; rfl
theorem oz {d : Int} (h : szE d = 0) : szN d = -d ∧ 0 < -d ∧ -d ≤ 4194304 ∧ d % 4 ≤ 1 := by
 have e : szN d = -d := by unfold szN; rw [if_pos h]
 unfold szE at h
 split at h
 ·cases h
 split at h
 ·cases h
 exact ⟨e, by omega, by omega, by omega⟩
end
section
open Go Go.RowKit
theorem mK {a : Int} (h : -100000000 ≤ a ∧ a ≤ 100000000) : L 44 a := (show L 6 a by unfold L; omega).mono (by omega)
theorem FW {a b : Int} (ha : 0 < a ∧ a ≤ 2000) : 0 ≤ ((Int.gcd a b : Nat) : Int) ∧ ((Int.gcd a b : Nat) : Int) ≤ 2000 := by
 have h1 : ((Int.gcd a b : Nat) : Int) ∣ a := Int.gcd_dvd_left ..
 have h2 := Int.le_of_dvd ha.1 h1
 omega
theorem Fq {t : Tr} (h : (((Int.gcd (Int.gcd t.a t.b : Nat) t.c : Nat) : Int) == 1) = true) : prT t = true := by rw [← uw]; exact h
theorem Fs {t : Tr} (h : (((Int.gcd (Int.gcd t.a t.b : Nat) t.c : Nat) : Int) == 1) = false) : prT t = false := by rw [← uw]; exact h
def clE (d : Int) : Int := if szE d = 0 then cls (-d) else 0
section
end
theorem GW.forget_as {np' : Nat} {s o o' : Own} (h : o = o') (h2 : ∀ m, o m = s m ∨ o m = none) : GW np' s o' := GW.forget (by subst h; exact h2)
end
section
open Go Go.RowKit
def D0 (p : Int) : Nat → Int → Int
 | 0, l => l
 | k + 1, l => if l % p = 0 then D0 p k (l / p) else l
def dv (p l : Int) : Int := D0 p l.toNat l
end
section
open Go Go.RowKit
def lwO (a : Int) : Bool := decide (-9223372036854775808 ≤ a ∧ a < 9223372036854775808)
def lwV (a : Int) : Int := if lwO a = true then a else 0
def v0 (n : Nat) : Nat := wd (wl n) 0 + 4294967296 * wd (wl n) 1
theorem FI {a : Int} (h : a < -9223372036854775808 ∨ 9223372036854775808 ≤ a) : AV.t [.c (.v (.int .i64 0)), .c (.v (.bool false))] = AV.t [.c (.v (.int .i64 (lwV a))), .c (.v (.bool (lwO a)))] := by
 have e : lwO a = false := by unfold lwO; rw [decide_eq_false_iff_not]; omega
 unfold lwV; rw [e]; rfl
end
section
open Go Go.RowKit
end
section
open Go Go.RowKit
structure RedT (n : Int) (t : Tr) : Prop where
 a1 : 1 ≤ t.a
 b1 : 1 - t.a ≤ t.b
 b2 : t.b ≤ t.a
 ac : t.a ≤ t.c
 bc : ¬ (t.b < 0 ∧ t.a = t.c)
 ds : 4 * t.a * t.c = t.b * t.b + n
theorem mq {n a b' : Int} : ∀ (k : Nat) (b : Int), b ≤ b' → b' < b + k → okT n a b' = true → (⟨a, b', (b' * b' + n) / (4 * a)⟩ : Tr) ∈ dO n a k b
 | 0, b, h, h1, _ => by omega
 | k + 1, b, h, h1, h2 => by
  unfold dO
  rw [List.mem_append]
  by_cases e : b = b'
  ·subst e; rw [if_pos h2]; exact .inl (by simp)
  exact .inr (mq k (b + 1) (by omega) (by omega) h2)
theorem ui {a b : Int} (h1 : 1 ≤ a) (h : a ≤ b) : 3 * a * a ≤ 3 * b * b := by
 have : a * a ≤ b * b := Int.mul_le_mul h h (by omega) (by omega)
 rw [Int.mul_assoc, Int.mul_assoc]; omega
theorem mr {n a' b' : Int} : ∀ (k : Nat) (a : Int), 1 ≤ a → a ≤ a' → a' < a + k → 3 * a' * a' ≤ n → 1 - a' ≤ b' → b' ≤ a' → okT n a' b' = true → (⟨a', b', (b' * b' + n) / (4 * a')⟩ : Tr) ∈ dG n k a
 | 0, a, _, h, h1, _, _, _, _ => by omega
 | k + 1, a, h0, h, h1, h2, h3, h4, h5 => by
  unfold dG
  have h6 := ui h0 h
  rw [if_pos (by omega), List.mem_append]
  by_cases e : a = a'
  ·subst e; exact .inl (mq _ _ h3 (by omega) h5)
  exact .inr (mr k (a + 1) (by omega) (by omega) (by omega) h2 h3 h4 h5)
theorem RedT.sq {n : Int} {t : Tr} (h : RedT n t) : 3 * t.a * t.a ≤ n := by
 have h1 := h.ds
 have h2 : t.a * t.a ≤ t.a * t.c := Int.mul_le_mul_of_nonneg_left h.ac (by have := h.a1; omega)
 have h3 := ki (x := t.b) (m := t.a) (by have := h.b1; have := h.b2; omega)
 rw [Int.mul_assoc] at h1 ⊢
 omega
theorem okT_iff {n a b : Int} : okT n a b = true ↔ (b * b + n) % (4 * a) = 0 ∧ a ≤ (b * b + n) / (4 * a) ∧ ¬ (b < 0 ∧ a = (b * b + n) / (4 * a)) := by
 unfold okT
 simp only [Bool.and_eq_true, decide_eq_true_iff, Bool.not_eq_true', Bool.and_eq_false_iff, decide_eq_false_iff_not]
 constructor
 ·rintro ⟨h1, h2, h3⟩; exact ⟨h1, h2, fun x => h3.elim (fun g => g x.1) (fun g => g x.2)⟩
 rintro ⟨h1, h2, h3⟩; exact ⟨h1, h2, by by_cases g : b < 0; exact .inr (fun e => h3 ⟨g, e⟩); exact .inl g⟩
theorem rn {n : Int} (hn : n ≤ 4194304) (t : Tr) : t ∈ trs n ↔ RedT n t := by
 constructor
 ·intro h
  have k := rl h
  refine ⟨k.a1, k.b1, k.b2, k.ac, k.bc, ?_⟩
  have e := Int.mul_ediv_add_emod (t.b * t.b + n) (4 * t.a)
  rw [k.md, ← k.c] at e
  omega
 intro h
 have h1 := h.sq
 have h2 := y5 h.a1 h1 hn
 have hd : (t.b * t.b + n) / (4 * t.a) = t.c := by rw [← h.ds]; exact Int.mul_ediv_cancel_left _ (by have := h.a1; omega)
 have hm : (t.b * t.b + n) % (4 * t.a) = 0 := by rw [← h.ds]; exact Int.mul_emod_right _ _
 have h3 := mr (n := n) (a' := t.a) (b' := t.b) 2000 1 (by omega) h.a1 (by omega) h1 h.b1 h.b2 (okT_iff.2 ⟨hm, by rw [hd]; exact h.ac, by rw [hd]; exact h.bc⟩)
 rw [hd] at h3
 exact h3
theorem nN {n a : Int} : ∀ (k : Nat) (b : Int), (dO n a k b).Nodup
 | 0, b => by unfold dO; exact List.nodup_nil
 | k + 1, b => by
  unfold dO
  rw [List.nodup_append]
  refine ⟨by split <;> simp, nN k (b + 1), fun x hx y hy e => ?_⟩
  split at hx
  ·simp only [List.mem_singleton] at hx
   obtain ⟨b', h1, _, _, rfl⟩ := jK hy
   subst hx
   have := congrArg Tr.b e
   simp only at this
   omega
  cases hx
theorem oo {n : Int} : ∀ (k : Nat) (a : Int), 1 ≤ a → (dG n k a).Nodup
 | 0, a, _ => by unfold dG; exact List.nodup_nil
 | k + 1, a, h => by
  unfold dG
  split
  ·rw [List.nodup_append]
   refine ⟨nN _ _, oo k (a + 1) (by omega), fun x hx y hy e => ?_⟩
   obtain ⟨b', _, _, _, rfl⟩ := jK hx
   obtain ⟨a1, b1, g1, _, _, _, _, _, rfl⟩ := lQ (by omega) hy
   have := congrArg Tr.a e
   simp only at this
   omega
  exact List.nodup_nil
theorem tY (n : Int) : (trs n).Nodup := oo 2000 1 (by omega)
theorem Ad {n : Int} {t : Tr} (h : RedT n t) : 0 < n := by
 have h1 := h.sq
 have h2 := ui (show (1 : Int) ≤ 1 by omega) h.a1
 omega
def Em (n m : Int) : Bool := decide (n % (m * m) = 0) && isD (n / (m * m))
theorem ud {l m : List Int} (h : l.Perm m) : bo l = bo m := by
 induction h with
 | nil => rfl
 | cons x _ ih => simp only [bo, ih]
 | swap x y l => simp only [bo]; omega
 | trans _ _ h1 h2 => exact h1.trans h2
def xQ (f : Nat → Int) : Nat → Int
 | 0 => 0
 | k + 1 => xQ f k + f (k + 1)
end
section
open Go Go.RowKit
def wN (n : Int) : Int := if n = 3 then 4 else if n = 4 then 6 else 12
def hTm (n m : Int) : Int := if Em n m = true then wN (n / (m * m)) * cls (n / (m * m)) else 0
def hS (n m : Int) : Int := xQ (fun i => hTm n (i : Int)) (m - 1).toNat
end
section
open Go Go.RowKit
def prG (f : Fm) : Bool := prim f.a f.b f.c
theorem DY {s t : Tr} (h : s.fm = t.fm) : s = t := by
 cases s; cases t
 simp only [Tr.fm, Fm.mk.injEq] at h ⊢
 exact Tr.mk.injEq .. ▸ h
def cTm (n m : Int) : Int := if Em n m = true then ((LW (n / (m * m)) prG).length : Nat) else 0
def cS (n m : Int) : Int := xQ (fun i => cTm n (i : Int)) (m - 1).toNat
end
section
open Go Go.RowKit
section
end
end
section
open Go Go.RowKit
theorem r9 {a : Int} (h : -9223372036854775808 ≤ a ∧ a < 9223372036854775808) : lwO a = true ∧ lwV a = a := by
 have e : lwO a = true := by unfold lwO; rw [decide_eq_true_iff]; exact h
 exact ⟨e, by unfold lwV; rw [if_pos e]⟩
theorem lwO_iff {a : Int} : lwO a = true ↔ -9223372036854775808 ≤ a ∧ a < 9223372036854775808 := by unfold lwO; rw [decide_eq_true_iff]
theorem FM {a : Int} (h : lwO a = false) : ¬ (-9223372036854775808 ≤ a ∧ a < 9223372036854775808) := by unfold lwO at h; rwa [decide_eq_false_iff_not] at h
end
section
open Go Go.RowKit
theorem RedT.dsc {n : Int} {t : Tr} (h : RedT n t) : dsc t.a t.b t.c = -n := by
 have := h.ds
 unfold AM.dsc; omega
theorem RedT.pos {n : Int} {t : Tr} (h : RedT n t) : t.fm.pos := by
 refine ⟨by have := h.a1; show 0 < t.a; omega, ?_⟩
 show AM.dsc t.a t.b t.c < 0
 rw [h.dsc]
 have := Ad h
 omega
theorem RedT.rd {n : Int} {t : Tr} (h : RedT n t) : Rd t.fm := by
 obtain ⟨h1, h2, h3, h4, h5, h6⟩ := h
 refine ⟨by show 0 < t.a; omega, by show (t.b.natAbs : Int) ≤ t.a; omega, h4, ?_⟩
 show ((t.b.natAbs : Int) < t.a ∧ t.a < t.c) ∨ 0 ≤ t.b
 by_cases g : t.b < 0
 ·exact .inl ⟨by omega, by
   rcases Int.lt_or_le t.a t.c with q | q
   ·exact q
   exact absurd ⟨g, by omega⟩ h5⟩
 exact .inr (by omega)
theorem Rd.redT {f : Fm} (h : Rd f) : RedT (-(AM.dsc f.a f.b f.c)) ⟨f.a, f.b, f.c⟩ := by
 have h1 := h.a
 have h2 := h.b
 have h3 := h.c
 have h4 := h.s
 refine ⟨by show 1 ≤ f.a; omega, by show 1 - f.a ≤ f.b; omega, by show f.b ≤ f.a; omega, h3, ?_, ?_⟩
 ·rintro ⟨g1, g2⟩
  have g1' : f.b < 0 := g1
  have g2' : f.a = f.c := g2
  omega
 show 4 * f.a * f.c = f.b * f.b + -(AM.dsc f.a f.b f.c)
 unfold AM.dsc; omega
theorem vF {n : Int} {q : Fm → Bool} {f : Fm} (hn : n ≤ 4194304) : f ∈ LW n q ↔ RedT n ⟨f.a, f.b, f.c⟩ ∧ q f = true := by
 unfold LW
 rw [List.mem_filter, List.mem_map]
 constructor
 ·rintro ⟨⟨t, ht, rfl⟩, hq⟩
  exact ⟨(rn hn t).1 ht, hq⟩
 rintro ⟨h, hq⟩
 exact ⟨⟨_, (rn hn _).2 h, rfl⟩, hq⟩
theorem xV (n : Int) (q : Fm → Bool) : (LW n q).Nodup := by
 unfold LW
 refine List.Pairwise.filter _ ?_
 exact List.Pairwise.map (R := (· ≠ ·)) _ (fun a b h e => h (DY e)) (tY n)
end
section
open Go Go.RowKit
end
section
open Go Go.RowKit
structure El where
 x : Int
 y : Int
namespace El
def add (u v : El) : El := ⟨u.x + v.x, u.y + v.y⟩
def mul (s d : Int) (u v : El) : El := ⟨u.x * v.x + d * (u.y * v.y), u.x * v.y + u.y * v.x + s * (u.y * v.y)⟩
def nm (s d : Int) (u : El) : Int := u.x * u.x + s * (u.x * u.y) - d * (u.y * u.y)
end El
section
end
end
section
open Go Go.RowKit
section
end
end
section
open Go Go.RowKit
def kk (s : Int) (f : Fm) : Int := (f.b - s) / 2
section
variable {s d : Int}
theorem xR : ∀ (n : Nat) (a b : Int), b.natAbs ≤ n → ∃ x y : Int, a * x + b * y = (Int.gcd a b : Nat)
 | 0, a, b, h => by
  have hb : b = 0 := by omega
  subst hb
  rw [Int.gcd_zero_right]
  rcases Int.le_total 0 a with g | g
  ·exact ⟨1, 0, by omega⟩
  exact ⟨-1, 0, by omega⟩
 | n + 1, a, b, h => by
  by_cases hb : b = 0
  ·exact xR n a b (by omega)
  have h1 : (a % b).natAbs < b.natAbs := by
   have := Int.emod_nonneg a hb
   have := Int.emod_lt a hb
   omega
  obtain ⟨x, y, e⟩ := xR n b (a % b) (by omega)
  have eg : Int.gcd b (a % b) = Int.gcd a b := by
   refine Nat.dvd_antisymm ?_ ?_
   ·refine Int.dvd_gcd ?_ (Int.gcd_dvd_left ..)
    have h1 := Int.gcd_dvd_left (a := b) (b := a % b)
    have h2 := Int.gcd_dvd_right (a := b) (b := a % b)
    have h3 := Int.dvd_add (Int.dvd_trans h1 ⟨a / b, rfl⟩) h2
    rwa [Int.mul_ediv_add_emod a b] at h3
   refine Int.dvd_gcd (Int.gcd_dvd_right ..) ?_
   have h1 := Int.gcd_dvd_left (a := a) (b := b)
   have h2 := Int.gcd_dvd_right (a := a) (b := b)
   have e3 : a % b = a - b * (a / b) := by have := Int.mul_ediv_add_emod a b; omega
   rw [e3]
   exact Int.dvd_sub h1 (Int.dvd_trans h2 ⟨_, rfl⟩)
  have em := Int.mul_ediv_add_emod a b
  refine ⟨y, x - (a / b) * y, ?_⟩
  rw [← eg, ← e]
  generalize a / b = q at *
  generalize a % b = r at *
  subst em
  grind
theorem bez (a b : Int) : ∃ x y : Int, a * x + b * y = (Int.gcd a b : Nat) := xR _ a b (Nat.le_refl _)
end
end
section
open Go Go.RowKit
section
end
end
section
open Go Go.RowKit
theorem eF {a b : Int} (h : a ∣ b) (c : Int) : a ∣ b * c := Int.dvd_trans h ⟨c, rfl⟩
theorem wO {f : Fm} (hf : f.pos) {m : Mt} (h : m.det = 1) : (f.app m).pos := by
 refine ⟨?_, by rw [qt, h]; have := hf.2; omega⟩
 show 0 < vl f.a f.b f.c m.a m.c
 have hd : f.b * f.b - 4 * f.a * f.c < 0 := hf.2
 have ha := hf.1
 have e : 4 * f.a * vl f.a f.b f.c m.a m.c = (2 * f.a * m.a + f.b * m.c) * (2 * f.a * m.a + f.b * m.c) + -(f.b * f.b - 4 * f.a * f.c) * (m.c * m.c) := by unfold vl; grind
 have s1 := cp (2 * f.a * m.a + f.b * m.c)
 have s2 := cp m.c
 rcases Int.lt_or_le 0 (vl f.a f.b f.c m.a m.c) with g | g
 ·exact g
 exfalso
 have l1 : 4 * f.a * vl f.a f.b f.c m.a m.c ≤ 0 := Int.mul_nonpos_of_nonneg_of_nonpos (by omega) g
 have l2 : 0 ≤ -(f.b * f.b - 4 * f.a * f.c) * (m.c * m.c) := Int.mul_nonneg (by omega) s2
 have l3 : -(f.b * f.b - 4 * f.a * f.c) * (m.c * m.c) = 0 := by omega
 have c0 : m.c = 0 := by
  rcases Int.mul_eq_zero.1 l3 with q | q
  ·omega
  rcases Int.mul_eq_zero.1 q with q | q <;> exact q
 rw [c0] at e
 have s3 : (2 * f.a * m.a) * (2 * f.a * m.a) = 0 := by
  have e2 : (2 * f.a * m.a + f.b * 0) * (2 * f.a * m.a + f.b * 0) = (2 * f.a * m.a) * (2 * f.a * m.a) := by simp
  rw [c0, e2] at s1
  rw [e2] at e
  have : -(f.b * f.b - 4 * f.a * f.c) * (0 * 0) = 0 := by simp
  rw [this] at e
  rw [c0] at l1
  omega
 have a0 : m.a = 0 := by
  have := Int.mul_eq_zero.1 s3
  have h4 : 2 * f.a * m.a = 0 := by rcases this with q | q <;> exact q
  rcases Int.mul_eq_zero.1 h4 with q | q
  ·omega
  exact q
 unfold Mt.det at h
 rw [c0, a0] at h
 simp at h
section
variable {s d : Int}
theorem wM {a b c : Int} (h : prim a b c = true) : ∃ x y z : Int, a * x + b * y + c * z = 1 := by
 obtain ⟨y, z, h1⟩ := bez b c
 obtain ⟨x, w, h2⟩ := bez a (Int.gcd b c : Nat)
 unfold prim at h
 rw [dT0 h, ← h1] at h2
 exact ⟨x, y * w, z * w, by grind⟩
end
structure Cl (D : Int) (f : Fm) : Prop where
 pos : f.pos
 prim : AM.prim f.a f.b f.c = true
 disc : dsc f.a f.b f.c = D
section
variable {D : Int}
theorem Cl.app {f : Fm} {M : Mt} (h : Cl D f) (hM : M.det = 1) : Cl D (f.app M) := by
 refine ⟨wO h.pos hM, ?_, ?_⟩
 ·rw [← lO f (by rw [hM]; rfl)]; exact h.prim
 have : (f.app M).disc = f.disc := iI hM
 exact this.trans h.disc
theorem Cl.rd {f : Fm} (h : Cl D f) : Cl D f.rd := by
 obtain ⟨m, h1, h2⟩ := kn h.pos
 rw [h2]; exact h.app h1
theorem Cl.rd_Rd {f : Fm} (h : Cl D f) : Rd f.rd := Rd.rdF h.pos
theorem Cl.rd_rd {f : Fm} (h : Cl D f) : f.rd.rd = f.rd := by
 obtain ⟨m, h1, h2⟩ := kn h.pos
 have := rJ h.pos h1
 rwa [← h2] at this
end
end
section
open Go Go.RowKit
def xg : Nat → Int → Int → Int × Int
 | 0, a, _ => (if 0 ≤ a then 1 else -1, 0)
 | n + 1, a, b => if b = 0 then (if 0 ≤ a then 1 else -1, 0) else ((xg n b (a % b)).2, (xg n b (a % b)).1 - (a / b) * (xg n b (a % b)).2)
theorem xw (a b : Int) : Int.gcd b (a % b) = Int.gcd a b := by
 refine Nat.dvd_antisymm ?_ ?_
 ·refine Int.dvd_gcd ?_ (Int.gcd_dvd_left ..)
  have h1 := Int.gcd_dvd_left (a := b) (b := a % b)
  have h2 := Int.gcd_dvd_right (a := b) (b := a % b)
  have h3 := Int.dvd_add (Int.dvd_trans h1 ⟨a / b, rfl⟩) h2
  rwa [Int.mul_ediv_add_emod a b] at h3
 refine Int.dvd_gcd (Int.gcd_dvd_right ..) ?_
 have h1 := Int.gcd_dvd_left (a := a) (b := b)
 have h2 := Int.gcd_dvd_right (a := a) (b := b)
 have e3 : a % b = a - b * (a / b) := by have := Int.mul_ediv_add_emod a b; omega
 rw [e3]
 exact Int.dvd_sub h1 (Int.dvd_trans h2 ⟨_, rfl⟩)
theorem oy : ∀ (n : Nat) (a b : Int), b.natAbs ≤ n → (xg n a b).1 * a + (xg n a b).2 * b = (Int.gcd a b : Nat)
 | 0, a, b, h => by
  have hb : b = 0 := by omega
  subst hb
  rw [Int.gcd_zero_right]
  unfold xg
  simp only
  split <;> omega
 | n + 1, a, b, h => by
  unfold xg
  by_cases hb : b = 0
  ·subst hb
   rw [if_pos rfl, Int.gcd_zero_right]
   simp only
   split <;> omega
  rw [if_neg hb]
  have h1 : (a % b).natAbs < b.natAbs := by
   have := Int.emod_nonneg a hb
   have := Int.emod_lt a hb
   omega
  have e := oy n b (a % b) (by omega)
  rw [xw] at e
  have em := Int.mul_ediv_add_emod a b
  rw [← e]
  simp only
  generalize xg n b (a % b) = p
  generalize a / b = q at *
  generalize a % b = r at *
  subst em
  grind
section
variable {D : Int}
theorem px {f : Fm} (h : Rd f) (hp : f.pos) : f.rd = f := by
 obtain ⟨m, h1, h2⟩ := kn hp
 have hr : Rd f.rd := Rd.rdF hp
 rw [h2] at hr ⊢
 exact pp h h1 hr
end
end
section
open Go Go.RowKit
def eM : List Int → Int
 | [] => 1
 | x :: l => x * eM l
theorem sY {l m : List Int} (h : l.Perm m) : eM l = eM m := by
 induction h with
 | nil => rfl
 | cons x _ ih => simp only [eM, ih]
 | swap x y l => simp only [eM]; grind
 | trans _ _ h1 h2 => exact h1.trans h2
theorem nS {α : Type} (f g : α → Int) : ∀ l : List α, eM (l.map fun x => f x * g x) = eM (l.map f) * eM (l.map g)
 | [] => rfl
 | x :: l => by simp only [List.map_cons, eM, nS f g l]; grind
theorem fl {α : Type} (f g : α → Int) : ∀ l : List α, bo (l.map fun x => f x + g x) = bo (l.map f) + bo (l.map g)
 | [] => rfl
 | x :: l => by simp only [List.map_cons, bo, fl f g l]; omega
theorem kh {α : Type} (c : Int) (f : α → Int) : ∀ l : List α, bo (l.map fun x => c * f x) = c * bo (l.map f)
 | [] => by simp [bo]
 | x :: l => by simp only [List.map_cons, bo, kh c f l]; grind
def rg (n : Int) : List Int := (List.range (n / 2).toNat).map fun (i : Nat) => (i : Int) + 1
theorem eh {n x : Int} (_hn : 0 < n) : x ∈ rg n ↔ 1 ≤ x ∧ x ≤ n / 2 := by
 unfold rg
 rw [List.mem_map]
 constructor
 ·rintro ⟨i, hi, rfl⟩
  rw [List.mem_range] at hi
  omega
 rintro ⟨h1, h2⟩
 exact ⟨(x - 1).toNat, by rw [List.mem_range]; omega, by omega⟩
theorem pj (n : Int) : (rg n).Nodup := by
 unfold rg
 refine List.Pairwise.map (R := (· ≠ ·)) _ (fun a b h e => h ?_) (List.nodup_range)
 omega
def sgR (n r : Int) : Int := if r % n ≤ n / 2 then 1 else -1
def abR (n r : Int) : Int := if r % n ≤ n / 2 then r % n else n - r % n
def SS (a n : Int) : Int := eM ((rg n).map fun x => sgR n (a * x))
section
variable {n : Int}
theorem rF (r : Int) : sgR n r = sgR n (r % n) := by unfold sgR; rw [Int.emod_emod]
theorem kl {r t : Int} (h : n ∣ r - t) : sgR n r = sgR n t := by
 rw [rF r, rF t, (Int.emod_eq_emod_iff_emod_sub_eq_zero).2 (Int.emod_eq_zero_of_dvd h)]
theorem oO (h0 : 0 < n) {r : Int} (hr : r % n ≠ 0) : 1 ≤ abR n r ∧ abR n r ≤ n / 2 := by
 have h1 := Int.emod_nonneg r (show n ≠ 0 by omega)
 have h2 := Int.emod_lt_of_pos r h0
 unfold abR
 split <;> omega
theorem l8 (r : Int) : n ∣ r - sgR n r * abR n r := by
 have e := Int.mul_ediv_add_emod r n
 unfold sgR abR
 split
 ·exact ⟨r / n, by omega⟩
 exact ⟨r / n + 1, by rw [Int.mul_add]; omega⟩
theorem Aa (h0 : 0 < n) (ho : n % 2 = 1) {r : Int} (hr : r % n ≠ 0) : sgR n (-r) = -sgR n r := by
 have h1 := Int.emod_nonneg r (show n ≠ 0 by omega)
 have h2 := Int.emod_lt_of_pos r h0
 have e : (-r) % n = n - r % n := by
  have e1 := Int.mul_ediv_add_emod r n
  have e2 : -r = (n - r % n) + n * (-(r / n) - 1) := by rw [Int.mul_sub, Int.mul_neg]; omega
  rw [e2, Int.add_mul_emod_self_left, Int.emod_eq_of_lt (by omega) (by omega)]
 unfold sgR
 rw [e]
 by_cases g : r % n ≤ n / 2
 ·rw [if_pos g, if_neg (by omega)]
 rw [if_neg g, if_pos (by omega)]; rfl
theorem jm (r : Int) : sgR n r = 1 ∨ sgR n r = -1 := by unfold sgR; split; exact .inl rfl; exact .inr rfl
def Cop (a n : Int) : Prop := Int.gcd a n = 1
instance Cop.dec (a n : Int) : Decidable (Cop a n) := inferInstanceAs (Decidable (Int.gcd a n = 1))
theorem Cop.symm {a n : Int} (h : Cop a n) : Cop n a := by unfold Cop at h ⊢; rw [Int.gcd_comm]; exact h
theorem Cop.inv {a : Int} (h : Cop a n) : ∃ b, n ∣ a * b - 1 := by
 obtain ⟨x, y, e⟩ := bez a n
 rw [h] at e
 exact ⟨x, ⟨-y, by rw [Int.mul_neg]; omega⟩⟩
theorem Cop.of_inv {a b : Int} (h : n ∣ a * b - 1) : Cop a n := by
 obtain ⟨q, hq⟩ := h
 have h1 : ((Int.gcd a n : Nat) : Int) ∣ 1 := by
  have l := Int.gcd_dvd_left (a := a) (b := n)
  have r := Int.gcd_dvd_right (a := a) (b := n)
  have e : (1 : Int) = a * b - n * q := by omega
  rw [e]
  exact Int.dvd_sub (eF l _) (eF r _)
 have := Int.le_of_dvd (by omega) h1
 have h2 : Int.gcd a n ≠ 0 := fun e => by rw [e] at h1; have := Int.zero_dvd.1 h1; omega
 unfold Cop
 omega
theorem Cop.mul {a b : Int} (h : Cop a n) (h1 : Cop b n) : Cop (a * b) n := by
 obtain ⟨x, p, hp⟩ := h.inv
 obtain ⟨y, q, hq⟩ := h1.inv
 refine Cop.of_inv (b := x * y) ⟨p * (b * y) + q, ?_⟩
 have e : a * x = 1 + n * p := by omega
 have e2 : b * y = 1 + n * q := by omega
 have : a * b * (x * y) = (a * x) * (b * y) := by grind
 rw [this, e, e2]; grind
theorem Cop.left {a b : Int} (h : Cop (a * b) n) : Cop a n := by
 obtain ⟨x, q, hq⟩ := h.inv
 exact Cop.of_inv (b := b * x) ⟨q, by rw [← hq]; grind⟩
theorem Cop.right {a b : Int} (h : Cop (a * b) n) : Cop b n := Cop.left (a := b) (b := a) (by rw [Int.mul_comm]; exact h)
theorem Cop.nz {a x : Int} (_h0 : 0 < n) (h : Cop a n) (hx : 1 ≤ x ∧ x ≤ n / 2) : (a * x) % n ≠ 0 := by
 intro e
 obtain ⟨b, q, hq⟩ := h.inv
 obtain ⟨p, hp⟩ := Int.dvd_of_emod_eq_zero e
 have : n ∣ x := ⟨b * p - q * x, by
  have e1 : a * b * x - n * q * x = x := by (have : a * b = 1 + n * q := by omega); rw [this]; grind
  have e2 : a * b * x = b * (n * p) := by rw [← hp]; grind
  rw [← e1, e2]; grind⟩
 have := Int.le_of_dvd (by omega) this
 omega
theorem eI {a b : Int} (h : n ∣ a - b) (hb : Cop a n) : Cop b n := by
 obtain ⟨x, q, hq⟩ := hb.inv
 obtain ⟨p, hp⟩ := h
 refine Cop.of_inv (b := x) ⟨q - p * x, ?_⟩
 have e : b = a - n * p := by omega
 rw [e]
 have e2 : a * x = 1 + n * q := by omega
 have : (a - n * p) * x = a * x - n * (p * x) := by grind
 rw [this, e2]; grind
theorem sH (h0 : 0 < n) (ho : n % 2 = 1) {b : Int} (hb : Cop b n) : ((rg n).map fun x => abR n (b * x)).Perm (rg n) := by
 have inj : ∀ x y, 1 ≤ x ∧ x ≤ n / 2 → 1 ≤ y ∧ y ≤ n / 2 → abR n (b * x) = abR n (b * y) → x = y := by
  intro x y hx hy e
  obtain ⟨c, q, hq⟩ := hb.inv
  have h1 := l8 (n := n) (b * x)
  have h2 := l8 (n := n) (b * y)
  rw [← e] at h2
  generalize abR n (b * x) = w at h1 h2
  have h3 : n ∣ x - y ∨ n ∣ x + y := by
   have cx : ∀ z, n ∣ b * z → n ∣ z := fun z ⟨p, hp⟩ => ⟨c * p - q * z, by
    have e1 : b * c * z - n * q * z = z := by (have : b * c = 1 + n * q := by omega); rw [this]; grind
    have e2 : b * c * z = c * (n * p) := by rw [← hp]; grind
    rw [← e1, e2]; grind⟩
   rcases jm (n := n) (b * x) with s1 | s1 <;> rcases jm (n := n) (b * y) with s2 | s2 <;> rw [s1] at h1 <;> rw [s2] at h2
   ·left; refine cx _ ?_; have := Int.dvd_sub h1 h2; have e : b * x - 1 * w - (b * y - 1 * w) = b * (x - y) := by grind
    rwa [e] at this
   ·right; refine cx _ ?_; have := Int.dvd_add h1 h2; have e : b * x - 1 * w + (b * y - -1 * w) = b * (x + y) := by grind
    rwa [e] at this
   ·right; refine cx _ ?_; have := Int.dvd_add h1 h2; have e : b * x - -1 * w + (b * y - 1 * w) = b * (x + y) := by grind
    rwa [e] at this
   left; refine cx _ ?_; have := Int.dvd_sub h1 h2; have e : b * x - -1 * w - (b * y - -1 * w) = b * (x - y) := by grind
   rwa [e] at this
  rcases h3 with ⟨p, hp⟩ | ⟨p, hp⟩
  ·have : p = 0 := by
    rcases (show p ≤ -1 ∨ p = 0 ∨ 1 ≤ p by omega) with g | g | g
    ·have : n * p ≤ n * (-1) := Int.mul_le_mul_of_nonneg_left g (by omega)
     omega
    ·exact g
    have : n * 1 ≤ n * p := Int.mul_le_mul_of_nonneg_left g (by omega)
    omega
   subst this; omega
  exfalso
  rcases (show p ≤ 0 ∨ 1 ≤ p by omega) with g | g
  ·have : n * p ≤ n * 0 := Int.mul_le_mul_of_nonneg_left g (by omega)
   omega
  have : n * 1 ≤ n * p := Int.mul_le_mul_of_nonneg_left g (by omega)
  omega
 refine (List.perm_ext_iff_of_nodup ?_ (pj n)).2 (fun y => ?_)
 ·unfold List.Nodup
  rw [List.pairwise_map]
  refine List.Pairwise.imp_of_mem (R := (· ≠ ·)) (fun {x y} hx hy h e => h ?_) (pj n)
  exact inj x y ((eh h0).1 hx) ((eh h0).1 hy) e
 rw [List.mem_map, eh h0]
 constructor
 ·rintro ⟨x, hx, rfl⟩
  exact oO h0 (hb.nz h0 ((eh h0).1 hx))
 intro hy
 obtain ⟨c, hc⟩ := hb.inv
 have hcc : Cop c n := Cop.of_inv (b := b) (by rw [Int.mul_comm]; exact hc)
 have hz := hcc.nz h0 hy
 have hx := oO h0 hz
 refine ⟨abR n (c * y), (eh h0).2 hx, ?_⟩
 have h1 := l8 (n := n) (c * y)
 have h2 := l8 (n := n) (b * abR n (c * y))
 have h3 := oO h0 (hb.nz h0 hx)
 generalize abR n (c * y) = x at *
 generalize abR n (b * x) = w at *
 have key : n ∣ y - w ∨ n ∣ y + w := by
  obtain ⟨p, hp⟩ := h1
  obtain ⟨q, hq⟩ := h2
  obtain ⟨r, hr⟩ := hc
  rcases jm (n := n) (c * y) with s1 | s1 <;> rcases jm (n := n) (b * x) with s2 | s2 <;> rw [s1] at hp <;> rw [s2] at hq
  ·left; refine ⟨b * p + q - r * y, ?_⟩
   have e : y = b * c * y - n * r * y := by (have : b * c = 1 + n * r := by omega); rw [this]; grind
   have e2 : b * c * y = b * (n * p + x) := by (have : c * y = n * p + x := by omega); rw [Int.mul_assoc, this]
   grind
  ·right; refine ⟨b * p + q - r * y, ?_⟩
   have e : y = b * c * y - n * r * y := by (have : b * c = 1 + n * r := by omega); rw [this]; grind
   have e2 : b * c * y = b * (n * p + x) := by (have : c * y = n * p + x := by omega); rw [Int.mul_assoc, this]
   grind
  ·right; refine ⟨b * p - q - r * y, ?_⟩
   have e : y = b * c * y - n * r * y := by (have : b * c = 1 + n * r := by omega); rw [this]; grind
   have e2 : b * c * y = b * (n * p - x) := by (have : c * y = n * p - x := by omega); rw [Int.mul_assoc, this]
   grind
  left; refine ⟨b * p - q - r * y, ?_⟩
  have e : y = b * c * y - n * r * y := by (have : b * c = 1 + n * r := by omega); rw [this]; grind
  have e2 : b * c * y = b * (n * p - x) := by (have : c * y = n * p - x := by omega); rw [Int.mul_assoc, this]
  grind
 rcases key with ⟨p, hp⟩ | ⟨p, hp⟩
 ·rcases (show p ≤ -1 ∨ p = 0 ∨ 1 ≤ p by omega) with g | g | g
  ·have : n * p ≤ n * (-1) := Int.mul_le_mul_of_nonneg_left g (by omega)
   omega
  ·subst g; omega
  have : n * 1 ≤ n * p := Int.mul_le_mul_of_nonneg_left g (by omega)
  omega
 exfalso
 rcases (show p ≤ 0 ∨ 1 ≤ p by omega) with g | g
 ·have : n * p ≤ n * 0 := Int.mul_le_mul_of_nonneg_left g (by omega)
  omega
 have : n * 1 ≤ n * p := Int.mul_le_mul_of_nonneg_left g (by omega)
 omega
theorem vD (h0 : 0 < n) (ho : n % 2 = 1) {a b : Int} (ha : Cop a n) (hb : Cop b n) : SS (a * b) n = SS a n * SS b n := by
 have e : (rg n).map (fun x => sgR n (a * b * x)) = (rg n).map (fun x => sgR n (a * abR n (b * x)) * sgR n (b * x)) := by
  refine List.map_congr_left (fun x hx => ?_)
  have hx := (eh h0).1 hx
  have h1 := l8 (n := n) (b * x)
  have h2 := oO h0 (hb.nz h0 hx)
  have h3 := ha.nz h0 h2
  obtain ⟨q, hq⟩ := h1
  rcases jm (n := n) (b * x) with s | s
  ·rw [s] at hq ⊢
   rw [Int.mul_one]
   refine kl ⟨a * q, ?_⟩
   have : b * x = n * q + abR n (b * x) := by omega
   rw [Int.mul_assoc, this]; grind
  rw [s] at hq ⊢
  rw [Int.mul_neg, Int.mul_one, ← Aa h0 ho h3]
  refine kl ⟨a * q, ?_⟩
  have : b * x = n * q - abR n (b * x) := by omega
  rw [Int.mul_assoc, this]; grind
 unfold SS
 rw [e, nS]
 congr 1
 have hp := (sH h0 ho hb).map (fun y => sgR n (a * y))
 rw [List.map_map] at hp
 exact sY hp
theorem lX {a b : Int} (h : n ∣ a - b) : SS a n = SS b n := by
 unfold SS
 congr 1
 refine List.map_congr_left (fun x _ => kl ?_)
 have : a * x - b * x = (a - b) * x := by grind
 rw [this]
 exact eF h x
theorem y7 (a : Int) : SS a n = 1 ∨ SS a n = -1 := by
 unfold SS
 induction rg n with
 | nil => exact .inl rfl
 | cons x l ih =>
  simp only [List.map_cons, eM]
  rcases jm (n := n) (a * x) with h | h <;> rcases ih with g | g <;> rw [h, g] <;> simp
end
end
section
open Go Go.RowKit
theorem cO {α : Type} {f g : α → Int} : ∀ {l : List α}, (∀ x ∈ l, f x = g x) → bo (l.map f) = bo (l.map g)
 | [], _ => rfl
 | x :: l, h => by
  simp only [List.map_cons, bo]
  rw [h x List.mem_cons_self, cO (fun y hy => h y (List.mem_cons_of_mem _ hy))]
theorem kg {α : Type} : ∀ l : List α, bo (l.map fun _ => (0 : Int)) = 0
 | [] => rfl
 | x :: l => by simp only [List.map_cons, bo, kg l]; rfl
theorem nJ {α β : Type} (f : α → β → Int) (m : List β) : ∀ l : List α, bo (l.map fun x => bo (m.map fun y => f x y)) = bo (m.map fun y => bo (l.map fun x => f x y))
 | [] => by simp only [List.map_nil, bo]; exact (kg m).symm
 | x :: l => by
  simp only [List.map_cons, bo]
  rw [nJ f m l, ← fl]
theorem o4 {α : Type} {f g : α → Int} : ∀ {l : List α}, (∀ x ∈ l, (f x - g x) % 2 = 0) → (bo (l.map f) - bo (l.map g)) % 2 = 0
 | [], _ => rfl
 | x :: l, h => by
  simp only [List.map_cons, bo]
  have h1 := h x List.mem_cons_self
  have h2 := o4 (fun y hy => h y (List.mem_cons_of_mem _ hy))
  omega
def par (k : Int) : Int := if k % 2 = 0 then 1 else -1
theorem rS (a b : Int) : par (a + b) = par a * par b := by
 unfold par
 rcases (show a % 2 = 0 ∨ a % 2 = 1 by omega) with h | h <;> rcases (show b % 2 = 0 ∨ b % 2 = 1 by omega) with g | g
 ·rw [if_pos (by omega), if_pos h, if_pos g]; rfl
 ·rw [if_neg (by omega), if_pos h, if_neg (by omega)]; rfl
 ·rw [if_neg (by omega), if_neg (by omega), if_pos g]; rfl
 rw [if_pos (by omega), if_neg (by omega), if_neg (by omega)]; rfl
theorem nU {a b : Int} (h : (a - b) % 2 = 0) : par a = par b := by
 unfold par
 by_cases g : a % 2 = 0
 ·rw [if_pos g, if_pos (by omega)]
 rw [if_neg g, if_neg (by omega)]
def up (n r : Int) : Int := if r % n ≤ n / 2 then 0 else 1
theorem pB (n a : Int) : ∀ l : List Int, eM (l.map fun x => sgR n (a * x)) = par (bo (l.map fun x => up n (a * x)))
 | [] => rfl
 | x :: l => by
  simp only [List.map_cons, eM, bo]
  rw [rS, pB n a l]
  congr 1
  unfold sgR up
  split <;> rfl
section
variable {n : Int}
theorem qN (a n : Int) : SS a n = par (bo ((rg n).map fun x => up n (a * x))) := pB n a (rg n)
theorem yU (h0 : 0 < n) (ho : n % 2 = 1) {a : Int} (ha : Cop a n) :
  (a * bo (rg n) - (bo ((rg n).map fun x => a * x / n) + bo (rg n) + bo ((rg n).map fun x => up n (a * x)))) % 2 = 0 := by
 have e1 : a * bo (rg n) = bo ((rg n).map fun x => a * x) := by
  rw [kh]; simp
 have e2 : bo ((rg n).map fun x => abR n (a * x)) = bo (rg n) := ud (sH h0 ho ha)
 rw [e1, ← e2, ← fl, ← fl]
 refine o4 (fun x hx => ?_)
 have e := Int.mul_ediv_add_emod (a * x) n
 obtain ⟨q, hq⟩ : ∃ q, n = 2 * q + 1 := ⟨n / 2, by omega⟩
 unfold abR up
 generalize a * x / n = w at *
 generalize (a * x) % n = r at *
 have e3 : n * w = 2 * (q * w) + w := by rw [hq]; grind
 split <;> omega
theorem vC (h0 : 0 < n) (ho : n % 2 = 1) {a : Int} (ha : Cop a n) (hao : a % 2 = 1) : SS a n = par (bo ((rg n).map fun x => a * x / n)) := by
 rw [qN]
 refine nU ?_
 have h := yU h0 ho ha
 generalize bo (rg n) = S at *
 generalize bo ((rg n).map fun x => a * x / n) = F at *
 generalize bo ((rg n).map fun x => up n (a * x)) = N at *
 obtain ⟨q, hq⟩ : ∃ q, a = 2 * q + 1 := ⟨a / 2, by omega⟩
 have e3 : a * S = 2 * (q * S) + S := by rw [hq]; grind
 omega
theorem uc : ∀ k : Nat, 2 * bo ((List.range k).map fun (i : Nat) => (i : Int) + 1) = k * (k + 1)
 | 0 => rfl
 | k + 1 => by
  rw [List.range_succ, List.map_append, List.map_cons, List.map_nil, nK, Int.mul_add, uc k]
  rw [show ((k + 1 : Nat) : Int) = (k : Int) + 1 by omega]
  grind
theorem qM (h0 : 0 < n) (ho : n % 2 = 1) : SS 2 n = sg8 n := by
 have hc : Cop 2 n := Cop.of_inv (b := (n + 1) / 2) ⟨1, by omega⟩
 rw [qN]
 have h := yU h0 ho hc
 have z : bo ((rg n).map fun x => 2 * x / n) = 0 := by
  rw [cO (g := fun _ => (0 : Int)) (fun x hx => ?_), kg]
  have hx := (eh h0).1 hx
  exact Int.ediv_eq_zero_of_lt (by omega) (by omega)
 rw [z] at h
 have hs := uc (n / 2).toNat
 have hs' : bo ((List.range (n / 2).toNat).map fun (i : Nat) => (i : Int) + 1) = bo (rg n) := rfl
 rw [hs'] at hs
 rw [Int.toNat_of_nonneg (by omega)] at hs
 generalize bo ((rg n).map fun x => up n (2 * x)) = N at *
 generalize bo (rg n) = S at *
 obtain ⟨q, r, hq, hr0, hr⟩ : ∃ q r, n / 2 = 4 * q + r ∧ 0 ≤ r ∧ r < 4 := ⟨n / 2 / 4, n / 2 % 4, by omega, by omega, by omega⟩
 rw [hq] at hs
 have e : (4 * q + r) * (4 * q + r + 1) = 8 * (2 * (q * q) + q * r) + 4 * q + r * (r + 1) := by grind
 rw [e] at hs
 have h8 : n % 8 = 2 * r + 1 := by omega
 unfold sg8 par
 rw [h8]
 generalize q * q = qq at hs
 generalize q * r = qr at hs
 rcases (show r = 0 ∨ r = 1 ∨ r = 2 ∨ r = 3 by omega) with rfl | rfl | rfl | rfl
 ·rw [if_pos (by omega), if_pos (by omega)]
 ·rw [if_neg (by omega), if_neg (by omega), if_pos (by omega)]
 ·rw [if_neg (by omega), if_neg (by omega), if_neg (by omega), if_pos (by omega)]
 rw [if_pos (by omega), if_neg (by omega), if_neg (by omega), if_neg (by omega), if_pos (by omega)]
theorem qB : ∀ (k : Nat) (q : Int), 0 ≤ q → q ≤ k → bo ((List.range k).map fun (i : Nat) => if (i : Int) + 1 ≤ q then (1 : Int) else 0) = q
 | 0, q, h, h1 => by simp [bo]; omega
 | k + 1, q, h, h1 => by
  rw [List.range_succ, List.map_append, List.map_cons, List.map_nil, nK]
  by_cases g : (k : Int) + 1 ≤ q
  ·have hq : q = (k : Int) + 1 := by omega
   rw [if_pos g]
   have := qB k k (by omega) (by omega)
   have e : bo ((List.range k).map fun (i : Nat) => if (i : Int) + 1 ≤ q then (1 : Int) else 0) = bo ((List.range k).map fun (i : Nat) => if (i : Int) + 1 ≤ (k : Int) then (1 : Int) else 0) :=
    cO (fun x hx => by rw [List.mem_range] at hx; rw [if_pos (by omega), if_pos (by omega)])
   rw [e, this]; omega
  rw [if_neg g, qB k q h (by omega)]; omega
theorem qA {m q : Int} (h0 : 0 < m) (h : 0 ≤ q) (h1 : q ≤ m / 2) : bo ((rg m).map fun y => if y ≤ q then (1 : Int) else 0) = q := by
 have := qB (m / 2).toNat q h (by omega)
 unfold rg
 rw [List.map_map]
 exact this
theorem pX (m : Int) (h0 : 0 < m) : bo ((rg m).map fun _ => (1 : Int)) = m / 2 := by
 have := qA (m := m) (q := m / 2) h0 (by omega) (by omega)
 rw [← this]
 exact cO (fun y hy => by rw [if_pos ((eh h0).1 hy).2])
theorem F0 {m : Int} (h0 : 0 < n) (ho : n % 2 = 1) (m0 : 0 < m) (mo : m % 2 = 1) (hc : Cop m n) :
  bo ((rg n).map fun x => m * x / n) + bo ((rg m).map fun y => n * y / m) = (m / 2) * (n / 2) := by
 have q1 : ∀ x ∈ rg n, m * x / n = bo ((rg m).map fun y => if n * y ≤ m * x then (1 : Int) else 0) := fun x hx => by
  have hx := (eh h0).1 hx
  have b0 : 0 ≤ m * x / n := Int.ediv_nonneg (Int.mul_nonneg (by omega) (by omega)) (by omega)
  have b1 : m * x / n ≤ m / 2 := by
   have h2 : m * x ≤ m * (n / 2) := Int.mul_le_mul_of_nonneg_left hx.2 (by omega)
   have h3 : m * x / n * n ≤ m * x := Int.ediv_mul_le _ (by omega)
   generalize m * x / n = w at *
   rcases Int.lt_or_le (m / 2) w with g | g
   ·exfalso
    have h4 : (m / 2 + 1) * n ≤ w * n := Int.mul_le_mul_of_nonneg_right g (by omega)
    obtain ⟨a, ha⟩ : ∃ a, m = 2 * a + 1 := ⟨m / 2, by omega⟩
    obtain ⟨b, hb⟩ : ∃ b, n = 2 * b + 1 := ⟨n / 2, by omega⟩
    rw [show m / 2 = a by omega] at h4
    rw [show n / 2 = b by omega] at h2
    have e1 : (a + 1) * n = a * n + n := by grind
    have e2 : m * b = 2 * (a * b) + b := by rw [ha]; grind
    have e3 : a * n = 2 * (a * b) + a := by rw [hb]; grind
    omega
   exact g
  rw [← qA m0 b0 b1]
  refine cO (fun y _ => ?_)
  have : y ≤ m * x / n ↔ n * y ≤ m * x := by rw [Int.le_ediv_iff_mul_le h0, Int.mul_comm]
  by_cases g : y ≤ m * x / n
  ·rw [if_pos g, if_pos (this.1 g)]
  rw [if_neg g, if_neg (fun h => g (this.2 h))]
 have q2 : ∀ y ∈ rg m, n * y / m = bo ((rg n).map fun x => if m * x ≤ n * y then (1 : Int) else 0) := fun y hy => by
  have hy := (eh m0).1 hy
  have b0 : 0 ≤ n * y / m := Int.ediv_nonneg (Int.mul_nonneg (by omega) (by omega)) (by omega)
  have b1 : n * y / m ≤ n / 2 := by
   have h2 : n * y ≤ n * (m / 2) := Int.mul_le_mul_of_nonneg_left hy.2 (by omega)
   have h3 : n * y / m * m ≤ n * y := Int.ediv_mul_le _ (by omega)
   generalize n * y / m = w at *
   rcases Int.lt_or_le (n / 2) w with g | g
   ·exfalso
    have h4 : (n / 2 + 1) * m ≤ w * m := Int.mul_le_mul_of_nonneg_right g (by omega)
    obtain ⟨a, ha⟩ : ∃ a, m = 2 * a + 1 := ⟨m / 2, by omega⟩
    obtain ⟨b, hb⟩ : ∃ b, n = 2 * b + 1 := ⟨n / 2, by omega⟩
    rw [show n / 2 = b by omega] at h4
    rw [show m / 2 = a by omega] at h2
    have e1 : (b + 1) * m = b * m + m := by grind
    have e2 : n * a = 2 * (a * b) + a := by rw [hb]; grind
    have e3 : b * m = 2 * (a * b) + b := by rw [ha]; grind
    omega
   exact g
  rw [← qA h0 b0 b1]
  refine cO (fun x _ => ?_)
  have : x ≤ n * y / m ↔ m * x ≤ n * y := by rw [Int.le_ediv_iff_mul_le m0, Int.mul_comm]
  by_cases g : x ≤ n * y / m
  ·rw [if_pos g, if_pos (this.1 g)]
  rw [if_neg g, if_neg (fun h => g (this.2 h))]
 have sw := nJ (fun x y => if m * x ≤ n * y then (1 : Int) else 0) (rg m) (rg n)
 rw [cO q1, cO q2, ← sw, ← fl]
 have e : ∀ x ∈ rg n, (bo ((rg m).map fun y => if n * y ≤ m * x then (1 : Int) else 0) + bo ((rg m).map fun y => if m * x ≤ n * y then (1 : Int) else 0)) = m / 2 := fun x hx => by
  have hx := (eh h0).1 hx
  rw [← fl, ← pX m m0]
  refine cO (fun y hy => ?_)
  have hne : m * x ≠ n * y := fun e => hc.nz h0 hx (by rw [e]; exact Int.mul_emod_right n y)
  by_cases g : n * y ≤ m * x
  ·rw [if_pos g, if_neg (by omega)]; rfl
  rw [if_neg g, if_pos (by omega)]; rfl
 rw [cO e]
 have : bo ((rg n).map fun _ => m / 2) = bo ((rg n).map fun x => m / 2 * (fun _ => (1 : Int)) x) := cO (fun _ _ => by simp)
 rw [this, kh, pX n h0]
theorem Ev {m : Int} (h0 : 0 < n) (ho : n % 2 = 1) (m0 : 0 < m) (mo : m % 2 = 1) (hc : Cop m n) : SS m n = (if m % 4 = 3 ∧ n % 4 = 3 then -1 else 1) * SS n m := by
 have hc' : Cop n m := by unfold Cop at hc ⊢; rw [Int.gcd_comm]; exact hc
 rw [vC h0 ho hc mo, vC m0 mo hc' ho]
 have h := F0 h0 ho m0 mo hc
 generalize bo ((rg n).map fun x => m * x / n) = A at *
 generalize bo ((rg m).map fun y => n * y / m) = B at *
 have e : par A = par (m / 2 * (n / 2)) * par B := by
  rw [← rS]
  refine nU ?_
  omega
 rw [e]
 congr 1
 obtain ⟨a, r, ha, hr0, hr⟩ : ∃ a r, m / 2 = 2 * a + r ∧ 0 ≤ r ∧ r < 2 := ⟨m / 2 / 2, m / 2 % 2, by omega, by omega, by omega⟩
 obtain ⟨b, t, hb, ht0, ht⟩ : ∃ b t, n / 2 = 2 * b + t ∧ 0 ≤ t ∧ t < 2 := ⟨n / 2 / 2, n / 2 % 2, by omega, by omega, by omega⟩
 have e2 : m / 2 * (n / 2) = 2 * (2 * (a * b) + a * t + r * b) + r * t := by rw [ha, hb]; grind
 rw [e2]
 unfold par
 rcases (show r = 0 ∨ r = 1 by omega) with rfl | rfl <;> rcases (show t = 0 ∨ t = 1 by omega) with rfl | rfl
 ·rw [if_pos (by omega), if_neg (by omega)]
 ·rw [if_pos (by omega), if_neg (by omega)]
 ·rw [if_pos (by omega), if_neg (by omega)]
 rw [if_neg (by omega), if_pos (by omega)]
theorem jt (ho : n % 2 = 1) : Cop 2 n := Cop.of_inv (b := (n + 1) / 2) ⟨1, by omega⟩
theorem su {a : Int} (h : cH a = false) : a % 2 = 0 := by
 have : ¬ a % 2 = 1 := fun e => by unfold cH at h; rw [e] at h; cases h
 omega
theorem oU (_h0 : 0 < n) (ho : n % 2 = 1) : ∀ (B : Nat) (a : Int), a.natAbs ≤ B → 0 < a → (Cop a n ↔ Cop (tw a).1 n)
 | 0, a, h, h1 => by omega
 | B + 1, a, h, h1 => by
  cases g : cH a
  ·have h2 := su g
   rw [ji (by omega) g]
   simp only
   rw [← oU _h0 ho B (a / 2) (by omega) (by omega)]
   have e : a = 2 * (a / 2) := by omega
   constructor
   ·intro c
    rw [e] at c
    exact c.right
   intro c
   rw [e]
   exact (jt ho).mul c
  rw [gU g]
theorem mL {a : Int} (h : a % 2 = 1) : sg8 a * sg8 a = 1 := by
 unfold sg8
 rcases (show a % 8 = 1 ∨ a % 8 = 3 ∨ a % 8 = 5 ∨ a % 8 = 7 by omega) with e | e | e | e <;> rw [e] <;> decide
theorem yD (h0 : 0 < n) (ho : n % 2 = 1) : ∀ (B : Nat) (a : Int), a.natAbs ≤ B → 0 < a → Cop (tw a).1 n → SS a n = (if (tw a).2 % 2 = 1 then sg8 n else 1) * SS (tw a).1 n
 | 0, a, h, h1, _ => by omega
 | B + 1, a, h, h1, c => by
  cases g : cH a
  ·have h2 := su g
   rw [ji (by omega) g] at c ⊢
   simp only at c ⊢
   have ih := yD h0 ho B (a / 2) (by omega) (by omega) c
   have hc := (oU h0 ho _ (a / 2) (Nat.le_refl _) (by omega)).2 c
   have e : SS a n = SS 2 n * SS (a / 2) n := by
    rw [← vD h0 ho (jt ho) hc, show 2 * (a / 2) = a by omega]
   rw [e, qM h0 ho, ih, ← Int.mul_assoc]
   congr 1
   have hs := mL ho
   have hp := (eR _ (a / 2) (Nat.le_refl _) (by omega)).2.2.2.1
   by_cases w : (tw (a / 2)).2 % 2 = 1
   ·rw [if_pos w, if_neg (by omega), hs]
   rw [if_neg w, if_pos (by omega)]; omega
  rw [gU g, if_neg (by simp)]; simp
theorem se : ∀ (F : Nat) (k a n : Int), a.natAbs < F → 0 ≤ a → 0 < n → n % 2 = 1 → (if (jO F k a n).2 = 1 then (jO F k a n).1 else 0) = if Cop a n then k * SS a n else 0
 | 0, k, a, n, h, _, _, _ => by omega
 | F + 1, k, a, n, h, ha, hn, ho => by
  rw [jO]
  by_cases h0 : 0 < a
  ·rw [if_pos h0]
   simp only
   have ht := eR _ a (Nat.le_refl _) (by omega)
   have hp := ht.2.2.2.2.2 h0
   have hodd : (tw a).1 % 2 = 1 := dT0 ht.2.2.1
   have hm := Int.emod_nonneg n (show (tw a).1 ≠ 0 by omega)
   have hl := Int.emod_lt_of_pos n hp
   rw [se F _ (n % (tw a).1) (tw a).1 (by omega) hm hp hodd]
   have hs := yD hn ho (a.natAbs) a (Nat.le_refl _) h0
   have hcop : Cop a n ↔ Cop (tw a).1 n := oU hn ho (a.natAbs) a (Nat.le_refl _) h0
   have hcc : Cop (n % (tw a).1) (tw a).1 ↔ Cop (tw a).1 n := by
    have e := Int.mul_ediv_add_emod n (tw a).1
    constructor
    ·intro g
     exact (eI (n := (tw a).1) (a := n % (tw a).1) (b := n) ⟨-(n / (tw a).1), by rw [Int.mul_neg]; omega⟩ g).symm
    intro g
    exact eI (n := (tw a).1) (a := n) (b := n % (tw a).1) ⟨n / (tw a).1, by omega⟩ g.symm
   by_cases c : Cop (tw a).1 n
   ·rw [if_pos (hcc.2 c), if_pos (hcop.2 c), hs c, Ev hn ho hp hodd c]
    have e : SS (n % (tw a).1) (tw a).1 = SS n (tw a).1 := lX ⟨-(n / (tw a).1), by
     have := Int.mul_ediv_add_emod n (tw a).1
     rw [Int.mul_neg]; omega⟩
    rw [e]
    by_cases g : (tw a).1 % 4 = 3 ∧ n % 4 = 3 <;> by_cases w : (tw a).2 % 2 = 1 <;> simp only [g, w, if_true, if_false, and_self] <;> grind
   rw [if_neg (fun g => c (hcc.1 g)), if_neg (fun g => c (hcop.1 g))]
  rw [if_neg h0]
  have : a = 0 := by omega
  subst this
  simp only
  by_cases g : n = 1
  ·subst g
   rw [if_pos rfl, if_pos (by unfold Cop; decide)]
   have : SS 0 1 = 1 := by decide
   rw [this]; omega
  rw [if_neg g, if_neg (fun c => g (by unfold Cop at c; rw [Int.gcd_zero_left] at c; omega))]
theorem sB (n a : Int) : Cop (a % n) n ↔ Cop a n := by
 have e := Int.mul_ediv_add_emod a n
 constructor
 ·intro g
  exact eI (n := n) (a := a % n) (b := a) ⟨-(a / n), by rw [Int.mul_neg]; omega⟩ g
 intro g
 exact eI (n := n) (a := a) (b := a % n) ⟨a / n, by omega⟩ g
theorem Ew (n a : Int) : SS (a % n) n = SS a n := lX ⟨-(a / n), by
 have := Int.mul_ediv_add_emod a n
 rw [Int.mul_neg]; omega⟩
theorem fZ {a : Int} (hn : 0 < n) (ho : n % 2 = 1) : kr a n = if Cop a n then SS a n else 0 := by
 have hob : cH n = true := decide_eq_true ho
 have ea : ((n.natAbs : Nat) : Int) = n := by omega
 have hk : k1K a n = 1 := by unfold k1K k0K; rw [ea, gU hob, if_neg (by simp), if_neg (by omega)]
 rw [tx (by omega) (by rw [hob]; simp)]
 unfold RK_
 rw [ea, gU hob, hk]
 have h := se (a % n).natAbs.succ 1 (a % n) n (Nat.lt_succ_self _) (Int.emod_nonneg a (by omega)) hn ho
 rw [Int.one_mul, Ew] at h
 by_cases c : Cop a n
 ·rw [if_pos ((sB n a).2 c)] at h
  rw [if_pos c]; exact h
 rw [if_neg (fun g => c ((sB n a).1 g))] at h
 rw [if_neg c]; exact h
theorem cA {a b : Int} (hn : 0 < n) (ho : n % 2 = 1) : kr (a * b) n = kr a n * kr b n := by
 rw [fZ hn ho, fZ hn ho, fZ hn ho]
 by_cases ca : Cop a n
 ·by_cases cb : Cop b n
  ·rw [if_pos ca, if_pos cb, if_pos (ca.mul cb), vD hn ho ca cb]
  rw [if_neg cb, if_neg (fun c => cb c.right), Int.mul_zero]
 rw [if_neg ca, if_neg (fun c => ca c.left), Int.zero_mul]
theorem uV {a b : Int} (hn : 0 < n) (ho : n % 2 = 1) (h : n ∣ a - b) : kr a n = kr b n := by
 have h' : n ∣ b - a := by obtain ⟨q, hq⟩ := h; exact ⟨-q, by rw [Int.mul_neg]; omega⟩
 rw [fZ hn ho, fZ hn ho, lX h]
 by_cases c : Cop a n
 ·rw [if_pos c, if_pos (eI h c)]
 rw [if_neg c, if_neg (fun g => c (eI h' g))]
theorem uU {a : Int} (hn : 0 < n) (ho : n % 2 = 1) (c : Cop a n) : kr (a * a) n = 1 := by
 rw [cA hn ho, fZ hn ho, if_pos c]
 rcases y7 (n := n) a with h | h <;> rw [h] <;> rfl
end
end
section
open Go Go.RowKit
def Pr (p : Nat) : Prop := 2 ≤ p ∧ ∀ x y : Nat, p ∣ x * y → p ∣ x ∨ p ∣ y
theorem mw : ∀ (B n : Nat), n ≤ B → 2 ≤ n → ∃ p, Pr p ∧ p ∣ n
 | 0, n, h, h2 => by omega
 | B + 1, n, h, h2 => by
  by_cases hd : ∃ d, 2 ≤ d ∧ d < n ∧ d ∣ n
  ·obtain ⟨d, d2, dn, hdn⟩ := hd
   obtain ⟨p, hp, hpd⟩ := mw B d (by omega) d2
   exact ⟨p, hp, Nat.dvd_trans hpd hdn⟩
  refine ⟨n, ⟨h2, fun x y hxy => ?_⟩, Nat.dvd_refl n⟩
  have hg := Nat.gcd_dvd_left n x
  have hle := Nat.le_of_dvd (by omega) hg
  have h0 : Nat.gcd n x ≠ 0 := fun e => by rw [e] at hg; have := Nat.eq_zero_of_zero_dvd hg; omega
  rcases (show Nat.gcd n x = 1 ∨ Nat.gcd n x = n ∨ (2 ≤ Nat.gcd n x ∧ Nat.gcd n x < n) by omega) with e | e | e
  ·exact .inr (Nat.Coprime.dvd_of_dvd_mul_left e hxy)
  ·left; rw [← e]; exact Nat.gcd_dvd_right n x
  exact absurd ⟨_, e.1, e.2, hg⟩ hd
theorem pD {p n : Nat} (hp : Pr p) (h : ¬ p ∣ n) : Nat.Coprime n p := by
 have hg := Nat.gcd_dvd_right n p
 obtain ⟨q, hq⟩ := hg
 rcases hp.2 (Nat.gcd n p) q ⟨1, by rw [← hq]; omega⟩ with g | g
 ·exact absurd (Nat.dvd_trans g (Nat.gcd_dvd_left n p)) h
 obtain ⟨w, hw⟩ := g
 have h1 : p * 1 = p * (Nat.gcd n p * w) := by
  have : Nat.gcd n p * q = p * (Nat.gcd n p * w) := by rw [hw]; grind
  omega
 have h2 := Nat.eq_of_mul_eq_mul_left (show 0 < p by have := hp.1; omega) h1
 exact Nat.eq_one_of_mul_eq_one_right h2.symm
theorem jD {p : Nat} (hp : Pr p) : ∀ (B a : Nat), a ≤ B → 1 ≤ a → ∃ k m, a = p ^ k * m ∧ ¬ p ∣ m ∧ 1 ≤ m ∧ (p ∣ a → p * m ≤ a)
 | 0, a, h, h1 => by omega
 | B + 1, a, h, h1 => by
  by_cases hd : p ∣ a
  ·obtain ⟨b, rfl⟩ := hd
   have hb : 1 ≤ b := by
    rcases Nat.eq_zero_or_pos b with e | e
    ·subst e; simp at h1
    exact e
   have h2 : 2 * b ≤ p * b := Nat.mul_le_mul_right b hp.1
   obtain ⟨k, m, e, hm, m1, _⟩ := jD hp B b (by omega) hb
   refine ⟨k + 1, m, by rw [e, Nat.pow_succ]; grind, hm, m1, fun _ => Nat.mul_le_mul_left p ?_⟩
   rw [e]
   have : 1 ≤ p ^ k := Nat.pow_pos (by have := hp.1; omega)
   have : 1 * m ≤ p ^ k * m := Nat.mul_le_mul_right m this
   omega
  exact ⟨0, a, by simp, hd, h1, fun x => absurd x hd⟩
section
variable {A B C : Int}
theorem DJ {p : Nat} (hp : Pr p) (pf : prim A B C = true) {m : Nat} (hm : ¬ p ∣ m) (x y : Int) : ∃ i j : Nat, i ≤ 2 ∧ j ≤ 2 ∧ ¬ (p : Int) ∣ vl A B C (x + m * i) (y + m * j) := by
 by_cases h : ∃ i j : Nat, i ≤ 2 ∧ j ≤ 2 ∧ ¬ (p : Int) ∣ vl A B C (x + m * i) (y + m * j)
 ·exact h
 exfalso
 have all : ∀ i j : Nat, i ≤ 2 → j ≤ 2 → (p : Int) ∣ vl A B C (x + m * i) (y + m * j) := fun i j hi hj => by
  by_cases g : (p : Int) ∣ vl A B C (x + m * i) (y + m * j)
  ·exact g
  exact absurd ⟨i, j, hi, hj, g⟩ h
 have eu : ∀ u v : Int, (p : Int) ∣ u * v → (p : Int) ∣ u ∨ (p : Int) ∣ v := fun u v h => by
  have h1 := Int.natAbs_dvd_natAbs.2 h
  rw [Int.natAbs_mul, Int.natAbs_natCast] at h1
  rcases hp.2 _ _ h1 with g | g
  ·exact .inl (Int.ofNat_dvd_left.2 g)
  exact .inr (Int.ofNat_dvd_left.2 g)
 have nm : ¬ (p : Int) ∣ (m : Int) := fun h => hm (Int.natCast_dvd_natCast.1 h)
 have a00 := all 0 0 (by omega) (by omega)
 have a10 := all 1 0 (by omega) (by omega)
 have a20 := all 2 0 (by omega) (by omega)
 have a01 := all 0 1 (by omega) (by omega)
 have a02 := all 0 2 (by omega) (by omega)
 have a11 := all 1 1 (by omega) (by omega)
 have a21 := all 2 1 (by omega) (by omega)
 have a12 := all 1 2 (by omega) (by omega)
 have hB : (p : Int) ∣ B := by
  have h1 := Int.dvd_add (Int.dvd_sub (Int.dvd_sub a11 a10) a01) a00
  have e : vl A B C (x + m * (1 : Nat)) (y + m * (1 : Nat)) - vl A B C (x + m * (1 : Nat)) (y + m * (0 : Nat)) - vl A B C (x + m * (0 : Nat)) (y + m * (1 : Nat)) + vl A B C (x + m * (0 : Nat)) (y + m * (0 : Nat)) = B * (m * m) := by
   unfold vl; simp; grind
  rw [e] at h1
  rcases eu _ _ h1 with g | g
  ·exact g
  rcases eu _ _ g with g | g <;> exact absurd g nm
 have d1 : ∀ i j : Nat, i ≤ 1 → j ≤ 2 → (p : Int) ∣ A * (2 * (x + m * i) + m) := fun i j hi hj => by
  have h1 := Int.dvd_sub (all (i + 1) 0 (by omega) (by omega)) (all i 0 (by omega) (by omega))
  have e : vl A B C (x + m * ((i + 1 : Nat) : Int)) (y + m * (0 : Nat)) - vl A B C (x + m * (i : Int)) (y + m * (0 : Nat)) = m * (A * (2 * (x + m * i) + m)) + B * (m * y) := by
   unfold vl; simp; grind
  rw [e] at h1
  have h2 := Int.dvd_sub h1 (eF hB (m * y))
  rw [Int.add_sub_cancel] at h2
  rcases eu _ _ h2 with g | g
  ·exact absurd g nm
  exact g
 have d2 : ∀ j : Nat, j ≤ 1 → (p : Int) ∣ C * (2 * (y + m * j) + m) := fun j hj => by
  have h1 := Int.dvd_sub (all 0 (j + 1) (by omega) (by omega)) (all 0 j (by omega) (by omega))
  have e : vl A B C (x + m * (0 : Nat)) (y + m * ((j + 1 : Nat) : Int)) - vl A B C (x + m * (0 : Nat)) (y + m * (j : Int)) = m * (C * (2 * (y + m * j) + m)) + B * (m * x) := by
   unfold vl; simp; grind
  rw [e] at h1
  have h2 := Int.dvd_sub h1 (eF hB (m * x))
  rw [Int.add_sub_cancel] at h2
  rcases eu _ _ h2 with g | g
  ·exact absurd g nm
  exact g
 have fin : ∀ (T z : Int), (p : Int) ∣ T * (2 * (z + m * (0 : Nat)) + m) → (p : Int) ∣ T * (2 * (z + m * (1 : Nat)) + m) → (p : Int) ∣ T := fun T z h0 h1 => by
  by_cases hT : (p : Int) ∣ T
  ·exact hT
  exfalso
  have g0 := (eu _ _ h0).resolve_left hT
  have g1 := (eu _ _ h1).resolve_left hT
  have g2 := Int.dvd_sub g1 g0
  have e : 2 * (z + m * ((1 : Nat) : Int)) + m - (2 * (z + m * ((0 : Nat) : Int)) + m) = 2 * (m : Int) := by simp; omega
  rw [e] at g2
  have p2 := (eu _ _ g2).resolve_right nm
  have g3 := Int.dvd_sub g0 (eF p2 (z + m * (0 : Nat)))
  have e2 : 2 * (z + m * ((0 : Nat) : Int)) + m - 2 * (z + m * ((0 : Nat) : Int)) = (m : Int) := by omega
  rw [e2] at g3
  exact nm g3
 have hA := fin A x (d1 0 0 (by omega) (by omega)) (d1 1 0 (by omega) (by omega))
 have hC := fin C y (d2 0 (by omega)) (d2 1 (by omega))
 have h := Int.dvd_coe_gcd hA (Int.dvd_coe_gcd hB hC)
 unfold prim at pf
 rw [dT0 pf] at h
 have := Int.le_of_dvd (by omega) h
 have := hp.1
 omega
theorem oR {m : Int} (x y i j : Int) : m ∣ vl A B C (x + m * i) (y + m * j) - vl A B C x y :=
 ⟨A * (2 * x * i + m * i * i) + B * (x * j + i * y + m * i * j) + C * (2 * y * j + m * j * j), by unfold vl; grind⟩
theorem qv {p : Nat} (hp : Pr p) (pf : prim A B C = true) {a : Nat} (h1 : 1 ≤ a) (hpa : p ∣ a) (ih : ∀ m, 1 ≤ m → m < a → ∃ x y : Nat, Nat.Coprime (vl A B C x y).natAbs m ∧ x + y ≤ 4 * m) :
  ∃ x y : Nat, Nat.Coprime (vl A B C x y).natAbs a ∧ p * (x + y) ≤ 8 * a := by
 obtain ⟨k, m, e, hm, m1, hle⟩ := jD hp a a (Nat.le_refl a) h1
 have hle := hle hpa
 have hp2 := hp.1
 have hlt : m < a := by
  have : 2 * m ≤ p * m := Nat.mul_le_mul_right m hp2
  omega
 obtain ⟨x, y, hc, hb⟩ := ih m m1 hlt
 obtain ⟨i, j, hi, hj, hv⟩ := DJ hp pf hm (x : Int) (y : Int)
 have mi : m * i ≤ m * 2 := Nat.mul_le_mul_left m hi
 have mj : m * j ≤ m * 2 := Nat.mul_le_mul_left m hj
 refine ⟨x + m * i, y + m * j, ?_, ?_⟩
 ·have ex : ((x + m * i : Nat) : Int) = (x : Int) + m * i := by rw [Int.natCast_add, Int.natCast_mul]
  have ey : ((y + m * j : Nat) : Int) = (y : Int) + m * j := by rw [Int.natCast_add, Int.natCast_mul]
  rw [ex, ey]
  have c1 : Nat.Coprime (vl A B C ((x : Int) + m * i) (y + m * j)).natAbs m := by
   have hg := oR (A := A) (B := B) (C := C) (m := (m : Int)) (x : Int) (y : Int) i j
   generalize vl A B C ((x : Int) + m * i) (y + m * j) = V at *
   generalize vl A B C (x : Int) (y : Int) = W at *
   have d1 := Nat.gcd_dvd_left V.natAbs m
   have d2 := Nat.gcd_dvd_right V.natAbs m
   have d3 : ((Nat.gcd V.natAbs m : Nat) : Int) ∣ W := by
    have e1 : ((Nat.gcd V.natAbs m : Nat) : Int) ∣ V := Int.ofNat_dvd_left.2 d1
    have e2 : ((Nat.gcd V.natAbs m : Nat) : Int) ∣ (m : Int) := Int.natCast_dvd_natCast.2 d2
    have e3 := Int.dvd_sub e1 (Int.dvd_trans e2 hg)
    have : V - (V - W) = W := by omega
    rwa [this] at e3
   have d4 := Nat.dvd_gcd (Int.ofNat_dvd_left.1 d3) d2
   unfold Nat.Coprime at hc ⊢
   rw [hc] at d4
   exact Nat.eq_one_of_dvd_one d4
  have c2 : Nat.Coprime (vl A B C ((x : Int) + m * i) (y + m * j)).natAbs p := pD hp (fun h => hv (Int.ofNat_dvd_left.2 h))
  rw [e]
  exact Nat.Coprime.mul_right (Nat.Coprime.pow_right k c2) c1
 have : p * (x + m * i + (y + m * j)) ≤ p * (8 * m) := Nat.mul_le_mul_left p (by omega)
 have e2 : p * (8 * m) = 8 * (p * m) := Nat.mul_left_comm ..
 omega
theorem nr (pf : prim A B C = true) : ∀ (n a : Nat), a ≤ n → 1 ≤ a → ∃ x y : Nat, Nat.Coprime (vl A B C x y).natAbs a ∧ x + y ≤ 4 * a
 | 0, a, h, h1 => by omega
 | n + 1, a, h, h1 => by
  by_cases h2 : a = 1
  ·subst h2
   exact ⟨0, 0, Nat.coprime_one_right _, by omega⟩
  obtain ⟨p, hp, hpa⟩ := mw a a (Nat.le_refl a) (by omega)
  obtain ⟨x, y, hc, hb⟩ := qv hp pf h1 hpa (fun m m1 hm => nr pf n m (by omega) m1)
  refine ⟨x, y, hc, ?_⟩
  have : 2 * (x + y) ≤ p * (x + y) := Nat.mul_le_mul_right _ hp.1
  omega
theorem pC {q : Nat} (hq : Pr q) (h : q ≤ 16) : q ∣ 30030 := by
 have h2 := hq.1
 rcases (show q = 2 ∨ q = 3 ∨ q = 4 ∨ q = 5 ∨ q = 6 ∨ q = 7 ∨ q = 8 ∨ q = 9 ∨ q = 10 ∨ q = 11 ∨ q = 12 ∨ q = 13 ∨ q = 14 ∨ q = 15 ∨ q = 16 by omega) with rfl | rfl | rfl | rfl | rfl | rfl | rfl | rfl | rfl | rfl | rfl | rfl | rfl | rfl | rfl
 ·decide
 ·decide
 ·rcases hq.2 2 2 (by decide) with g | g <;> revert g <;> decide
 ·decide
 ·rcases hq.2 2 3 (by decide) with g | g <;> revert g <;> decide
 ·decide
 ·rcases hq.2 2 4 (by decide) with g | g <;> revert g <;> decide
 ·rcases hq.2 3 3 (by decide) with g | g <;> revert g <;> decide
 ·rcases hq.2 2 5 (by decide) with g | g <;> revert g <;> decide
 ·decide
 ·rcases hq.2 3 4 (by decide) with g | g <;> revert g <;> decide
 ·decide
 ·rcases hq.2 2 7 (by decide) with g | g <;> revert g <;> decide
 ·rcases hq.2 3 5 (by decide) with g | g <;> revert g <;> decide
 rcases hq.2 4 4 (by decide) with g | g <;> revert g <;> decide
theorem rX {u v : Nat} (hv : 1 ≤ v) (h : ¬ Nat.Coprime u v) : ∃ q, Pr q ∧ q ∣ u ∧ q ∣ v := by
 have h0 : Nat.gcd u v ≠ 0 := fun e => by
  have hg := Nat.gcd_dvd_right u v
  rw [e] at hg
  have := Nat.eq_zero_of_zero_dvd hg
  omega
 obtain ⟨q, hq, hd⟩ := mw (Nat.gcd u v) (Nat.gcd u v) (Nat.le_refl _) (by unfold Nat.Coprime at h; omega)
 exact ⟨q, hq, Nat.dvd_trans hd (Nat.gcd_dvd_left u v), Nat.dvd_trans hd (Nat.gcd_dvd_right u v)⟩
theorem D3 (pf : prim A B C = true) {a : Nat} (h1 : 1 ≤ a) (h2 : a < 18446744073709551616) : ∃ x y : Nat, Nat.Coprime (vl A B C x y).natAbs a ∧ x + y ≤ 9000000000000000000 := by
 by_cases h : ∃ p, Pr p ∧ p ∣ a ∧ 17 ≤ p
 ·obtain ⟨p, hp, hpa, h17⟩ := h
  obtain ⟨x, y, hc, hb⟩ := qv hp pf h1 hpa (fun m m1 _ => nr pf m m (Nat.le_refl m) m1)
  refine ⟨x, y, hc, ?_⟩
  have : 17 * (x + y) ≤ p * (x + y) := Nat.mul_le_mul_right _ h17
  omega
 obtain ⟨x, y, hc, hb⟩ := nr pf 30030 30030 (by omega) (by omega)
 refine ⟨x, y, ?_, by omega⟩
 by_cases g : Nat.Coprime (vl A B C x y).natAbs a
 ·exact g
 exfalso
 obtain ⟨q, hq, d1, d2⟩ := rX h1 g
 have h16 : q ≤ 16 := by
  rcases Nat.lt_or_ge 16 q with g | g
  ·exact absurd ⟨q, hq, d2, g⟩ h
  exact g
 have d3 := Nat.dvd_gcd d1 (pC hq h16)
 rw [hc] at d3
 have := Nat.le_of_dvd (by omega) d3
 have := hq.1
 omega
theorem vK (g x y : Int) : vl A B C (g * x) (g * y) = g * g * vl A B C x y := by unfold vl; grind
theorem xF (pf : prim A B C = true) {a : Nat} (h1 : 1 ≤ a) (h2 : a < 18446744073709551616) : ∃ x y : Nat, Nat.gcd x y = 1 ∧ Nat.Coprime (vl A B C x y).natAbs a ∧ 1 ≤ x + y ∧ x + y ≤ 9000000000000000000 := by
 obtain ⟨x, y, hc, hb⟩ := D3 pf h1 h2
 by_cases h0 : x = 0 ∧ y = 0
 ·obtain ⟨rfl, rfl⟩ := h0
  have e : vl A B C ((0 : Nat) : Int) ((0 : Nat) : Int) = 0 := by unfold vl; simp
  rw [e] at hc
  have ha : a = 1 := by unfold Nat.Coprime at hc; simpa using hc
  subst ha
  exact ⟨1, 0, rfl, Nat.coprime_one_right _, by omega, by omega⟩
 obtain ⟨u, hu⟩ := Nat.gcd_dvd_left x y
 obtain ⟨v, hv⟩ := Nat.gcd_dvd_right x y
 have hg : 0 < Nat.gcd x y := by
  rcases Nat.eq_zero_or_pos (Nat.gcd x y) with e | e
  ·have := Nat.eq_zero_of_gcd_eq_zero_left e
   have := Nat.eq_zero_of_gcd_eq_zero_right e
   omega
  exact e
 have hcop : Nat.gcd u v = 1 := by
  have : Nat.gcd x y * Nat.gcd u v = Nat.gcd x y * 1 := by
   rw [← Nat.gcd_mul_left, ← hu, ← hv, Nat.mul_one]
  exact Nat.eq_of_mul_eq_mul_left hg this
 generalize Nat.gcd x y = g at *
 have l1 : 1 * u ≤ g * u := Nat.mul_le_mul_right u hg
 have l2 : 1 * v ≤ g * v := Nat.mul_le_mul_right v hg
 refine ⟨u, v, hcop, ?_, ?_, by omega⟩
 ·subst hu hv
  rw [Int.natCast_mul, Int.natCast_mul, vK, Int.natAbs_mul] at hc
  exact Nat.Coprime.coprime_mul_left hc
 rcases Nat.eq_zero_or_pos (u + v) with e | e
 ·have : u = 0 := by omega
  have : v = 0 := by omega
  subst u v
  simp at hcop
 exact e
end
end
section
open Go Go.RowKit
def bzU (a b : Int) : Int := if b = 0 then sgn a else (xg b.natAbs a b).1 % (b / (Int.gcd a b : Nat))
def bzV (a b : Int) : Int := if b = 0 then 0 else ((Int.gcd a b : Nat) - bzU a b * a) / b
theorem qg {a b : Int} (hb : b ≠ 0) : (0 : Int) < (Int.gcd a b : Nat) := by
 have h := Int.gcd_dvd_right (a := a) (b := b)
 rcases Nat.eq_zero_or_pos (Int.gcd a b) with e | e
 ·rw [e] at h
  exact absurd (Int.zero_dvd.1 h) hb
 omega
theorem bz_uniq {a b u v : Int} (hb : b ≠ 0) (h1 : b ∣ u * a - (Int.gcd a b : Nat)) (h2 : b ∣ v * a - (Int.gcd a b : Nat)) : u % (b / (Int.gcd a b : Nat)) = v % (b / (Int.gcd a b : Nat)) := by
 have g0 := qg (a := a) hb
 obtain ⟨x, hx⟩ := Int.gcd_dvd_left (a := a) (b := b)
 obtain ⟨y, hy⟩ := Int.gcd_dvd_right (a := a) (b := b)
 have hxy : Int.gcd x y = 1 := by
  have h := Int.gcd_mul_left (Int.gcd a b : Nat) x y
  rw [← hx, ← hy, Int.natAbs_natCast] at h
  exact (Nat.eq_of_mul_eq_mul_left (show 0 < Int.gcd a b by omega) (by omega)).symm
 have hq : b / ((Int.gcd a b : Nat) : Int) = y := by
  have : b = ((Int.gcd a b : Nat) : Int) * y := hy
  generalize ((Int.gcd a b : Nat) : Int) = g at *
  rw [this, Int.mul_ediv_cancel_left _ (by omega)]
 rw [hq]
 have h3 := Int.dvd_sub h1 h2
 have e : u * a - (Int.gcd a b : Nat) - (v * a - (Int.gcd a b : Nat)) = (u - v) * a := by grind
 rw [e] at h3
 obtain ⟨k, hk⟩ := h3
 have h4 : y ∣ (u - v) * x := by
  refine ⟨k, ?_⟩
  have e1 : ((Int.gcd a b : Nat) : Int) * ((u - v) * x) = ((Int.gcd a b : Nat) : Int) * (y * k) := by
   have l : ((Int.gcd a b : Nat) : Int) * ((u - v) * x) = (u - v) * (((Int.gcd a b : Nat) : Int) * x) := by grind
   rw [l, ← hx, hk]
   rw [← Int.mul_assoc, ← hy]
  exact Int.eq_of_mul_eq_mul_left (by omega) e1
 have h5 : y ∣ u - v := by
  have h6 := Int.natAbs_dvd_natAbs.2 h4
  rw [Int.natAbs_mul] at h6
  have hc : Nat.Coprime y.natAbs x.natAbs := by
   unfold Nat.Coprime
   rw [Nat.gcd_comm]; exact hxy
  exact Int.natAbs_dvd_natAbs.1 (Nat.Coprime.dvd_of_dvd_mul_right hc h6)
 exact (Int.emod_eq_emod_iff_emod_sub_eq_zero).2 (Int.emod_eq_zero_of_dvd h5)
theorem BM (a b : Int) : b ∣ (xg b.natAbs a b).1 * a - (Int.gcd a b : Nat) :=
 ⟨-(xg b.natAbs a b).2, by rw [← oy b.natAbs a b (Nat.le_refl _)]; grind⟩
theorem Bz {a b : Int} (hb : b ≠ 0) : b ∣ bzU a b * a - (Int.gcd a b : Nat) := by
 unfold bzU
 rw [if_neg hb]
 obtain ⟨k, hk⟩ := BM a b
 generalize (xg b.natAbs a b).1 = u at *
 obtain ⟨x, hx⟩ := Int.gcd_dvd_left (a := a) (b := b)
 obtain ⟨y, hy⟩ := Int.gcd_dvd_right (a := a) (b := b)
 have g0 := qg (a := a) hb
 have hq : b / ((Int.gcd a b : Nat) : Int) = y := by
  have : b = ((Int.gcd a b : Nat) : Int) * y := hy
  generalize ((Int.gcd a b : Nat) : Int) = g at *
  rw [this, Int.mul_ediv_cancel_left _ (by omega)]
 rw [hq]
 have e := Int.mul_ediv_add_emod u y
 refine ⟨k - (u / y) * x, ?_⟩
 have e1 : u % y = u - y * (u / y) := by omega
 rw [e1]
 generalize u / y = w at *
 have e2 : y * a = b * x := by
  have l : y * a = ((Int.gcd a b : Nat) : Int) * (y * x) := by
   have : a = ((Int.gcd a b : Nat) : Int) * x := hx
   generalize ((Int.gcd a b : Nat) : Int) = g at *
   rw [this]; grind
  rw [l, ← Int.mul_assoc, ← hy]
 have e3 : (u - y * w) * a - (Int.gcd a b : Nat) = (u * a - (Int.gcd a b : Nat)) - w * (y * a) := by grind
 rw [e3, hk, e2]; grind
theorem Ge (a b : Int) : bzU a b * a + bzV a b * b = (Int.gcd a b : Nat) := by
 by_cases hb : b = 0
 ·subst hb
  unfold bzU bzV
  rw [if_pos rfl, Int.gcd_zero_right]
  unfold sgn
  split
  ·simp; omega
  split
  ·simp; omega
  simp; omega
 obtain ⟨k, hk⟩ := Bz (a := a) hb
 unfold bzV
 rw [if_neg hb]
 have : ((Int.gcd a b : Nat) : Int) - bzU a b * a = b * -k := by rw [Int.mul_neg, ← hk]; omega
 rw [this, Int.mul_ediv_cancel_left _ hb]
 rw [Int.mul_neg] at this
 grind
end
section
open Go Go.RowKit
section
end
def rfE (f : Fm) : Int := if ck f.a f.b f.c ≠ 0 then ck f.a f.b f.c else if 0 < dsc f.a f.b f.c then 5 else if prim f.a f.b f.c = true then 0 else 80
theorem CP {f : Fm} (h : rfE f = 0) : Cl (dsc f.a f.b f.c) f := by
 unfold rfE at h
 by_cases h1 : ck f.a f.b f.c ≠ 0
 ·rw [if_pos h1] at h; exact absurd h h1
 rw [if_neg h1] at h
 have h1 : ck f.a f.b f.c = 0 := by omega
 by_cases h2 : 0 < dsc f.a f.b f.c
 ·rw [if_pos h2] at h; cases h
 rw [if_neg h2] at h
 by_cases h3 : prim f.a f.b f.c = true
 ·have hd := Eb h1
  refine ⟨⟨?_, by show dsc f.a f.b f.c < 0; omega⟩, h3, rfl⟩
  unfold ck at h1
  split at h1
  ·cases h1
  split at h1
  ·cases h1
  omega
 rw [if_neg h3] at h; cases h
theorem vp {D : Int} {f : Fm} (h : Cl D f) : rfE f = 0 := by
 unfold rfE
 have h1 : ck f.a f.b f.c = 0 := pE h.pos
 have h2 : dsc f.a f.b f.c < 0 := h.pos.2
 rw [if_neg (by omega), if_neg (by omega), if_pos h.prim]
theorem E7 {f : Fm} (h : (ck f.a f.b f.c == 0) = false) : ck f.a f.b f.c = rfE f := by
 have h1 : ck f.a f.b f.c ≠ 0 := bF h
 unfold rfE; rw [if_pos h1]
theorem E6 {f : Fm} (h : (ck f.a f.b f.c == 0) = true) (h1 : sgn (dsc f.a f.b f.c) > 0) : 5 = rfE f := by
 have h2 : ck f.a f.b f.c = 0 := bT h
 unfold rfE; rw [if_neg (by omega), if_pos (sgn_gt_iff.1 h1)]
theorem E5 {f : Fm} (h : (ck f.a f.b f.c == 0) = true) (h1 : ¬ sgn (dsc f.a f.b f.c) > 0) (h2 : prim f.a f.b f.c = false) : 80 = rfE f := by
 have h3 : ck f.a f.b f.c = 0 := bT h
 unfold rfE; rw [if_neg (by omega), if_neg (fun x => h1 (sgn_gt_iff.2 x)), h2]; rfl
theorem E0 {f : Fm} (h : (ck f.a f.b f.c == 0) = true) (h1 : ¬ sgn (dsc f.a f.b f.c) > 0) (h2 : prim f.a f.b f.c = true) : 0 = rfE f := by
 have h3 : ck f.a f.b f.c = 0 := bT h
 unfold rfE; rw [if_neg (by omega), if_neg (fun x => h1 (sgn_gt_iff.2 x)), if_pos h2]
end
section
open Go Go.RowKit
def kA (P : Nat → Bool) : Nat → Nat → Nat
 | 0, n => n
 | f + 1, n => if P n = true then n else kA P f (n + 1)
theorem sr (P : Nat → Bool) : ∀ f n, n ≤ kA P f n
 | 0, n => Nat.le_refl n
 | f + 1, n => by
  unfold kA
  split
  ·omega
  have := sr P f (n + 1); omega
theorem ng {P : Nat → Bool} : ∀ {f n m : Nat}, n ≤ m → m < n + f → P m = true → P (kA P f n) = true ∧ kA P f n ≤ m
 | 0, n, m, h, h1, _ => by omega
 | f + 1, n, m, h, h1, h2 => by
  unfold kA
  by_cases g : P n = true
  ·rw [if_pos g]; exact ⟨g, h⟩
  rw [if_neg g]
  have : n ≠ m := fun e => g (by rw [e]; exact h2)
  exact ng (by omega) (by omega) h2
def cpG (f : Fm) (a : Int) (n x : Nat) : Bool := decide (Int.gcd (x : Int) ((n : Int) - x) = 1) && decide (Int.gcd (vl f.a f.b f.c x ((n : Int) - x)) a = 1)
def cpR (f : Fm) (a : Int) (n : Nat) : Bool := (List.range (n + 1)).any (cpG f a n)
def cpN (f : Fm) (a : Int) : Nat := kA (cpR f a) 9100000000000000000 1
def cpX (f : Fm) (a : Int) : Nat := kA (cpG f a (cpN f a)) (cpN f a + 1) 0
def cpM (f : Fm) (a : Int) : Mt := ⟨cpX f a, -bzV (cpX f a) ((cpN f a : Int) - cpX f a), (cpN f a : Int) - cpX f a, bzU (cpX f a) ((cpN f a : Int) - cpX f a)⟩
section
variable {f : Fm} {a : Int}
theorem F7 (pf : prim f.a f.b f.c = true) (h1 : a ≠ 0) (h2 : a.natAbs < 18446744073709551616) : cpR f a (cpN f a) = true ∧ 1 ≤ cpN f a ∧ cpN f a ≤ 9000000000000000000 := by
 obtain ⟨x, y, hg, hc, hb1, hb2⟩ := xF pf (a := a.natAbs) (by omega) h2
 have hR : cpR f a (x + y) = true := by
  unfold cpR
  rw [List.any_eq_true]
  refine ⟨x, List.mem_range.2 (by omega), ?_⟩
  unfold cpG
  have e : ((x + y : Nat) : Int) - x = (y : Int) := by omega
  rw [e, Bool.and_eq_true, decide_eq_true_iff, decide_eq_true_iff]
  exact ⟨hg, hc⟩
 have := ng (P := cpR f a) (f := 9100000000000000000) (n := 1) (m := x + y) hb1 (by omega) hR
 have h3 := sr (cpR f a) 9100000000000000000 1
 unfold cpN
 exact ⟨this.1, h3, by omega⟩
theorem G8 (h : cpR f a (cpN f a) = true) : cpG f a (cpN f a) (cpX f a) = true ∧ cpX f a ≤ cpN f a := by
 unfold cpR at h
 rw [List.any_eq_true] at h
 obtain ⟨m, hm, hg⟩ := h
 rw [List.mem_range] at hm
 have := ng (P := cpG f a (cpN f a)) (f := cpN f a + 1) (n := 0) (m := m) (by omega) (by omega) hg
 unfold cpX
 exact ⟨this.1, by omega⟩
theorem D2 (h : cpR f a (cpN f a) = true) : (cpM f a).det = 1 ∧ Int.gcd (f.app (cpM f a)).a a = 1 := by
 have hx := (G8 h).1
 unfold cpG at hx
 rw [Bool.and_eq_true, decide_eq_true_iff, decide_eq_true_iff] at hx
 refine ⟨?_, hx.2⟩
 have e := Ge (cpX f a : Int) ((cpN f a : Int) - cpX f a)
 rw [hx.1] at e
 unfold cpM Mt.det
 simp only
 rw [Int.neg_mul]
 grind
end
end
section
open Go Go.RowKit
theorem tR {x : Int} (h : x.natAbs ≤ 9100000000000000000) : L 6 x := by unfold L; omega
section
end
theorem Hb {x : Int} (h : (x != 0) = true) : (x == 0) = false := by
 have := b9 h
 cases g : x == 0
 ·rfl
 exact absurd (bT g) this
theorem tM {x : Int} (h : (x != 0) = false) : (x == 0) = true := by
 have : x = 0 := bY h
 subst this; rfl
end
section
open Go Go.RowKit
section ops
variable {P : Program}
variable {dst : Option Nat} {ty : TypeId} {pos : String} {af : Array Edge} {gd : Option (Nat × Bool)} {d : Nat} {ρ : Operand → AV} {own : Own}
theorem hZ {f : FuncId} {c e : Operand} {xs ys : List DV} (hx : ρ c = .ip xs) (hy : ρ e = .ip ys) : Eff P ⟨dst, .makeFunc (.func f) #[] #[c, e], ty, pos, af, gd⟩ d ρ own (.fn f [xs, ys]) [] none [] :=
 bg fun C h r own' a w hrep hrd hw => by
  have e1 := hrep c (by simp [Op.operands])
  have e2 := hrep e (by simp [Op.operands])
  rw [hx] at e1; rw [hy] at e2
  refine ⟨.func (.func f) #[] #[a.eval c, a.eval e], ?_, #[a.eval c, a.eval e], rfl, e1, e2, trivial⟩
  simp [execOp, Instr.makeFunc]
theorem RepArgs.app {h : Hp} {r : Nat → Value} : ∀ {l : List AV} {xs : List Value} {m : List AV} {ys : List Value}, RepArgs h r l xs → RepArgs h r m ys → RepArgs h r (l ++ m) (xs ++ ys)
 | [], [], _, _, _, k => k
 | _ :: _, _ :: _, _, _, k1, k => ⟨k1.1, RepArgs.app k1.2 k⟩
 | [], _ :: _, _, _, k1, _ => k1.elim
 | _ :: _, [], _, _, k1, _ => k1.elim
end ops
section
end
end
section
open Go Go.RowKit
section
variable {D : Int} {f g : Fm}
theorem E8 (hg : Cl D g) (e : g.rd = g) : (0 < g.a ∧ g.a ≤ -D) ∧ (-(-D) ≤ g.b ∧ g.b ≤ -D) ∧ (0 < g.c ∧ g.c ≤ -D) := by
 have hr : Rd g := by rw [← e]; exact hg.rd_Rd
 have hd := hg.disc
 unfold dsc at hd
 rw [Int.mul_assoc] at hd
 have ha := hr.a; have hb := hr.b; have hc := hr.c
 have h1 : g.b * g.b ≤ g.a * g.a := eD (by omega)
 have h2 : g.a * g.a ≤ g.a * g.c := Int.mul_le_mul_of_nonneg_left hc (by omega)
 have h3 : 1 * g.c ≤ g.a * g.c := Int.mul_le_mul_of_nonneg_right ha (by omega)
 omega
theorem CQ (hg : Cl D g) (e : g.rd = g) (hD : -1000000000000000000 ≤ D) : L 6 g.a ∧ L 6 g.b ∧ L 6 g.c := by
 have h := E8 hg e
 exact ⟨tR (by omega), tR (by omega), tR (by omega)⟩
end
end
section
open Go Go.RowKit
section
variable {D : Int} {f : Fm} {o : Nat}
def Nd (m d : Nat) : Prop := ∀ e, 2 ≤ e → e < d → ¬ e ∣ m
end
theorem GE {a b : Nat} (_hb : 0 < b) (ha : a ≤ 1000000000) : (.i64 : IntKind).wrap ((a : Int).tdiv (b : Int)) = ((a / b : Nat) : Int) := by
 have := Nat.div_le_self a b
 rw [Int.tdiv_eq_ediv_of_nonneg (by omega), ← Int.natCast_ediv]
 generalize a / b = q at *
 exact iW0 _ (by omega)
theorem GD {a b : Nat} : (a : Int).tmod (b : Int) = ((a % b : Nat) : Int) := by
 rw [Int.tmod_eq_emod_of_nonneg (by omega), ← Int.natCast_emod]
end
section
open Go Go.RowKit
end
section
open Go Go.RowKit
section ops
end ops
end
section
open Go Go.RowKit
def nx (n k : Nat) (b : Bool) : Nat := bif b then k + 1 else n + 1 + k
structure KeepsB (n0 : Nat) (J : Nat → Hp → (Nat → Prop) → World → Prop) : Prop where
 hi : ∀ k h G W, J k h G W → ∀ i o, h i = some o → W.heap[i]? = some o
 g : ∀ k h G W, J k h G W → ∀ i, G i → i < W.heap.size ∧ h i = none
 rest : ∀ k h G W h' W', J k h G W → Rest n0 G h W h' W' → J k h' G W'
structure Keeps2 (P : Program) (l : Nat) (xs : List (List PV)) (n0 : Nat) (J : Nat → Hp → (Nat → Prop) → World → Prop) : Prop extends KeepsB n0 J where
 give : ∀ k h G W x vals, xs[k]? = some x → J k h G W → PReps h x vals → YieldAt (Wd none) 0 P l vals.toArray W fun e W' => ∃ b, e = .returned (.bool b) ∧ ∃ h' G', J (nx xs.length k b) h' G' W' ∧ Gave G h W G' h' W'
structure Iter2 (P : Program) (gf : FuncId) (caps : List (List DV)) (xs : List (List PV)) : Prop where
 fn : nC P gf
 go : ∀ (l : Nat) (lb : Array Value) (J : Nat → Hp → (Nat → Prop) → World → Prop) (h : Hp) (G : Nat → Prop) (W : World) (n0 : Nat), n0 ≤ W.heap.size → CapsRep h caps lb.toList → GlOK h → Keeps2 P l xs n0 J → J 0 h G W →
  CallsIn (Wd none) 0 P gf (#[.func (.yield l) #[] #[]] ++ lb) W fun e W' => (∃ v, e = .returned v) ∧ ∃ kf h' G', xs.length ≤ kf ∧ J kf h' G' W'
def vE (np' : Nat) (Q : Exit → St → Prop) (l : List (Nat × AV)) (o1 : Own) (I1 : Prop) : Exit → St → Prop
 | .normal, s' => GW np' s'.own o1 ∧ I1
 | .ret, s' => ∃ o, GW np' s'.own o ∧ Q .ret ⟨bP l, o⟩
 | .exit id, s' => ∃ o, GW np' s'.own o ∧ Q (.exit id) ⟨bP l, o⟩
 | _, _ => False
def tQ (n : Nat) (own : Nat → Own) (I : Nat → Prop) (Q : Exit → St → Prop) (l : List (Nat × AV)) (k : Nat) (o : Own) (st : LoopState) (pe : Option Code) : Prop :=
 (k ≤ n ∧ o = own k ∧ st = .ready ∧ pe = none ∧ I k) ∨ (n < k ∧ st = .done ∧ ((pe = some .ret ∧ Q .ret ⟨bP l, o⟩) ∨ ∃ id, pe = some (.exit id) ∧ Q (.exit id) ⟨bP l, o⟩))
theorem iQ {h : Hp} : ∀ (ps : List PV) (vs : List Value), PReps h ps vs → vs.length = ps.length
 | [], [], _ => rfl
 | [], _ :: _, k => k.elim
 | _ :: _, [], k => k.elim
 | _ :: ps, _ :: vs, k => by simp [iQ ps vs k.2]
theorem fH {P : Program} {N np : Nat} {Q : Exit → St → Prop} {l : List (Nat × AV)} {g : Operand} {ps : Array Tmp} {assign body : Code} {gf : FuncId} {caps : List (List DV)} {xs : List (List PV)} (np' : Nat) (own : Nat → Own) (I : Nat → Prop)
  (hg : ev (bP l) g = .fn gf caps) (hit : Iter2 P gf caps xs) (hps : ∀ x ∈ xs, x.length = ps.toList.length)
  (hfix : mX np' l = true) (hnp : Nat.ble np np' = true) (hpN : (ps.toList.all fun p => Nat.blt p N) = true)
  (hI : I 0) (hround : ∀ (k : Nat) (x : List PV), xs[k]? = some x → I k → AWp P true N np' assign (iV (AWp P true N np' body (vE np' Q l (own (k + 1)) (I (k + 1)))) (fun _ _ => False)) ⟨gG (bP l) ps.toList x, own k⟩)
  (hdone : I xs.length → Q .normal ⟨bP l, own xs.length⟩) : AWp P false N np (.rangeFunc g ps assign body) Q ⟨bP l, own 0⟩ := by
 intro ro hB C hh r a w hn hc
 have hro : ro = none := hB rfl
 subst hro
 have hnp' := bL0 hnp
 have hmar : C.mar = true := hn.2
 refine wpIn_rangeFunc ?_
 intro fn _
 have hgv := dS hc.rg g
 rw [hg] at hgv
 obtain ⟨lb, hval, hcaps⟩ := hgv
 obtain ⟨rec, hrec⟩ : ∃ rec : LoopState → Option Code → Loop, rec = fun st pe => { state := st, pending := pe, fn, tmps := a.tmps, params := ps, assign, body, defers := w.heap.size } := ⟨_, rfl⟩
 obtain ⟨W1, hW1⟩ : ∃ W1, (w.alloc (.deferred (some []))).alloc (.loop (rec .ready none)) = W1 := ⟨_, rfl⟩
 obtain ⟨hw1, hle1⟩ := hc.wk.imm (.deferred (some []))
 obtain ⟨h1, hh1⟩ : ∃ h1 : Hp, h1 = fun i => if i = w.heap.size then some (.deferred (some [])) else hh i := ⟨_, rfl⟩
 rw [← hh1] at hw1 hle1
 have hs1 : W1.heap.size = w.heap.size + 2 := by rw [← hW1]; simp
 have hold1 : ∀ i, i < (w.alloc (.deferred (some []))).heap.size → W1.heap[i]? = (w.alloc (.deferred (some []))).heap[i]? := fun i hi => by
  rw [← hW1, bB, if_neg (by omega)]
 have hw2 : WOK C h1 r (own 0) W1 := hw1.beside (by rw [← hW1]; rfl) (by rw [← hW1]; rfl) (by rw [← hW1]; exact ⟨rfl, Nat.le_refl _⟩) (by rw [hs1]; simp) hold1
 have hL1 : W1.heap[w.heap.size + 1]? = some (.loop (rec .ready none)) := by
  rw [← hW1, bB, if_pos (by simp)]
 have hD0 : hh w.heap.size = none := by
  cases e : hh w.heap.size with
  | none => rfl
  | some o => have := hc.wk.hlt e; omega
 have hhL : h1 (w.heap.size + 1) = none := by
  rw [hh1]
  show (if w.heap.size + 1 = w.heap.size then _ else hh (w.heap.size + 1)) = none
  rw [if_neg (by omega)]
  cases e : hh (w.heap.size + 1) with
  | none => rfl
  | some o => have := hc.wk.hlt e; omega
 have hnoL : ∀ m, own 0 m ≠ none → aR (r m) ≠ some (w.heap.size + 1) := fun m hm e => by
  have := hc.wk.lt hm e; omega
 have hD1 : h1 w.heap.size = some (.deferred (some [])) := by rw [hh1]; exact if_pos rfl
 generalize hLL : w.heap.size + 1 = L at *
 have hCL : C.w0.heap.size ≤ L := by have := hc.wk.size; omega
 refine ⟨L, [{ target := .collected w.heap.size, args := #[] }], W1, { target := .fn (.func gf) lb, args := #[.func (.yield L) #[] #[]] }, W1, gf, #[.func (.yield L) #[] #[]] ++ lb, W1, ?_, ?_, fun _ _ => trivial, ?_, fun e => by simp [Wd] at e, ?_⟩
 ·rw [← hW1, hrec, ← hLL]; exact run_enterLoop_outer _ _ _ _ _
 ·simp only [resolve, hval]
  simp [go_sem]
 ·have eg : ∀ args w, (callFunc gf args).run P w = .ok (.enter gf args) w := fun args w => dh hit.fn args w
  simp [invoke, go_sem, eg]
 have hmen := iC hfix
 obtain ⟨J, hJ⟩ : ∃ J : Nat → Hp → (Nat → Prop) → World → Prop, J = fun k h G W => ∃ r' o st pe, (∀ m, m < np' → r' m = r m) ∧ WOK C h r' o W ∧ W.heap[L]? = some (.loop (rec st pe)) ∧ h L = none ∧ (∀ m, o m ≠ none → aR (r' m) ≠ some L) ∧ Hle h1 h ∧
   (G = fun i => i = L ∨ ∃ m, o m ≠ none ∧ aR (r' m) = some i) ∧ tQ xs.length own I Q l k o st pe := ⟨_, rfl⟩
 have hrg : ∀ h r', Hle h1 h → (∀ m, m < np' → r' m = r m) → RegsOK h r' (bP l) a := fun h r' hl hr t =>
  AVRep.rebind _ _ (fun m hm => hr m (hmen t m hm)) (AVRep.mono (hle1.trans hl) _ _ (hc.rg t))
 refine CallsIn.mono (hit.go L lb J h1 (fun i => i = L ∨ ∃ m, own 0 m ≠ none ∧ aR (r m) = some i) W1 C.w0.heap.size hw2.size (hcaps.mono hle1) hw2.gl ⟨⟨?_, ?_, ?_⟩, ?_⟩ ?_) ?_
 ·intro k h G W hk
  rw [hJ] at hk
  obtain ⟨r', o, st, pe, _, q, _⟩ := hk
  exact q.hi
 ·intro k h G W hk i hi
  rw [hJ] at hk
  obtain ⟨r', o, st, pe, e1, e2, e3, e4, e5, e6, rfl, e8⟩ := hk
  rcases hi with rfl | ⟨m, hm, e⟩
  ·exact ⟨(Array.getElem?_eq_some_iff.1 e3).1, e4⟩
  exact ⟨e2.lt hm e, e2.ho m i hm e⟩
 ·intro k h G W h' W' hk q
  rw [hJ] at hk ⊢
  obtain ⟨r', o, st, pe, e1, e2, e3, e4, e5, e6, rfl, e8⟩ := hk
  have hlt : L < W.heap.size := (Array.getElem?_eq_some_iff.1 e3).1
  refine ⟨r', o, st, pe, e1, e2.rest q (fun m i hm e => .inr ⟨m, hm, e⟩) (Nat.le_refl _), ?_, ?_, e5, e6.trans q.hg, rfl, e8⟩
  ·rcases q.old L hlt with g | ⟨_, g, _⟩
   ·rw [g]; exact e3
   exact absurd (.inl rfl) g
  cases e : h' L with
  | none => rfl
  | some o' =>
   rcases q.hn L (by rw [e]; simp) with g | g
   ·exact absurd e4 g
   exact absurd (.inl rfl) g.2
 ·intro k h G W x vals hx hk hv
  rw [hJ] at hk
  obtain ⟨r', o, st, pe, e1, e2, e3, e4, e5, e6, rfl, e8⟩ := hk
  have hkl : k < xs.length := (List.getElem?_eq_some_iff.1 hx).1
  obtain ⟨_, rfl, rfl, rfl, hIk⟩ : k ≤ xs.length ∧ o = own k ∧ st = .ready ∧ pe = none ∧ I k := by
   rcases e8 with e8 | e8
   ·exact e8
   omega
  have hlen : x.length = ps.toList.length := hps x (List.mem_of_getElem? hx)
  have hvl : vals.length = x.length := iQ _ _ hv
  have hsz : vals.toArray.size = (rec .ready none).params.size := by
   rw [hrec]
   show vals.length = ps.size
   rw [hvl, hlen]; simp
  refine ⟨_, _, _, _, run_yield e3 hsz, roundIn_of_wpIn trivial ?_⟩
  rw [hrec]
  show assign.wpIn (Wd (some L)) 0 P _ { tmps := (ps.zip vals.toArray).foldl (fun t (p, v) => t.setIfInBounds p v) a.tmps, defers := [] } W
  have hzip : (ps.zip vals.toArray).foldl (fun t (p, v) => t.setIfInBounds p v) a.tmps = (ps.toList.zip vals).foldl (fun t (p, v) => t.setIfInBounds p v) a.tmps := by
   rw [← Array.foldl_toList, Array.toList_zip]
  rw [hzip]
  obtain ⟨f1, f2⟩ := ej (r := r') ps.toList x vals (bP l) a.tmps hv hlen (fun p hp => by
   have := List.all_eq_true.1 hpN p hp
   rw [hc.sz]; simpa using this) (fun t => hrg h r' e6 e1 t)
  refine wpIn_mono (hround k x hx hIk (some L) (fun e => by cases e) (Ctx.round h r' (own k) W np') h r' _ W ⟨rfl, rfl⟩ ⟨f2.trans hc.sz, trivial, f1, e2.enter⟩) ?_
  rintro e a1 w1 ⟨s1, h2, r2, q1, c1⟩
  cases e with
  | normal =>
   have hwk1 := e2.leave c1.wk (Nat.le_trans (Nat.le_of_eq hn.1) hnp')
   obtain ⟨g1, g2, g3⟩ := WOK.rec_left e5 c1.wk e3 e4
   have hd1 : a1.defers = [] := by
    have := c1.df
    cases hd : a1.defers with
    | nil => rfl
    | cons d ds => rw [hd] at this; cases this.1
   have hw3 := hwk1.putL (o := .loop { rec .ready none with state := .busy }) g3 g2 hCL
   have hLw : L < w1.heap.size := (Array.getElem?_eq_some_iff.1 g1).1
   have hLb : (w1.putObj L (.loop { rec .ready none with state := .busy })).heap[L]? = some (.loop { rec .ready none with state := .busy }) := World.putObj_heap_same hLw
   refine ⟨_, run_beginRound g1 (by rw [hrec]), ?_⟩
   refine wpIn_mono (q1 (some L) (fun e => by cases e) (Ctx.round h2 r2 s1.own _ np') h2 r2 a1 _ ⟨rfl, rfl⟩ ⟨c1.sz, by rw [hd1]; trivial, c1.rg, hw3.enter⟩) ?_
   rintro e a2 w2 ⟨s2, h3, r3, q2, c2⟩
   have fin : ∀ (jump : Option Code) (o2 : Own), GW np' s2.own o2 → tQ xs.length own I Q l (nx xs.length k jump.isNone) o2 (if jump.isNone then .ready else .done) jump → ∃ v w', (Instr.endRound L jump).run P w2 = .ok v w' ∧ ∃ b, Ending.returned v = .returned (.bool b) ∧ ∃ h' G', J (nx xs.length k b) h' G' w' ∧ Gave (fun i => i = L ∨ ∃ m, own k m ≠ none ∧ aR (r' m) = some i) h W G' h' w' := by
    intro jump o2 q2 hleft
    have hwk2 := hw3.leave c2.wk (Nat.le_trans (Nat.le_of_eq hn.1) hnp')
    obtain ⟨k1, k2, k3⟩ := WOK.rec_left g3 c2.wk hLb g2
    obtain ⟨r4, q3, hwk3, q4⟩ := q2 C h3 r3 w2 (Nat.le_trans (Nat.le_of_eq hn.1) hnp') hwk2
    have k3' : ∀ m, o2 m ≠ none → aR (r4 m) ≠ some L := fun m hm e => by
     obtain ⟨m2, g1, g2⟩ := q4 m L hm e
     exact k3 m2 g1 g2
    have F2 : ∀ i, (Ctx.round h2 r2 s1.own (w1.putObj L (.loop { rec .ready none with state := .busy })) np').F i → W.heap.size ≤ i ∨ ∃ m, own k m ≠ none ∧ aR (r' m) = some i := by
     rintro i ⟨m, hm, e⟩; exact c1.wk.fo m i hm e
    have sz1 : W.heap.size ≤ w1.heap.size := c1.wk.size
    have sz2 : w1.heap.size ≤ w2.heap.size := by have : (w1.putObj L _).heap.size ≤ w2.heap.size := c2.wk.size; rwa [bt] at this
    refine ⟨_, _, run_endRound jump k1, _, rfl, h3, fun i => i = L ∨ ∃ m, o2 m ≠ none ∧ aR (r4 m) = some i, ?_, ?_⟩
    ·rw [hJ]
     refine ⟨r4, o2, if jump.isNone then .ready else .done, jump, fun m hm => ?_, hwk3.putL k3' k2 hCL, ?_, k2, k3', e6.trans (c1.wk.hg.trans c2.wk.hg), rfl, hleft⟩
     ·rw [q3 m hm, c2.wk.kp m hm]
      show r2 m = r m
      rw [c1.wk.kp m hm]
      exact e1 m hm
     rw [World.putObj_heap_same (Array.getElem?_eq_some_iff.1 k1).1, hrec]
    refine ⟨c2.wk.os.trans c1.wk.os, c2.wk.tape.trans c1.wk.tape, c2.wk.output.trans c1.wk.output, by rw [bt]; omega, fun i hi hg => ?_, c1.wk.hg.trans c2.wk.hg, fun i hi => ?_, fun i hi => ?_⟩
    ·have hiL : i ≠ L := fun x => hg (.inl x)
     rw [bG hiL, c2.wk.old i (by rw [show (Ctx.round h2 r2 s1.own (w1.putObj L (.loop { rec .ready none with state := .busy })) np').w0.heap.size = w1.heap.size from bt _ _ _]; omega) (fun x => by
      rcases F2 i x with g | g
      ·omega
      exact hg (.inr g))]
     show (w1.putObj L _).heap[i]? = _
     rw [bG hiL]
     exact c1.wk.old i hi (fun x => hg (.inr x))
    ·rcases c2.wk.hn i hi with g | g | g
     ·rcases c1.wk.hn i g with g | g | g
      ·exact .inl g
      ·exact .inr (.inl g)
      exact .inr (.inr (.inr g))
     ·have g' : (w1.putObj L (.loop { rec .ready none with state := .busy })).heap.size ≤ i := g
      rw [bt] at g'
      exact .inr (.inl (by omega))
     rcases F2 i g with g | g
     ·exact .inr (.inl g)
     exact .inr (.inr (.inr g))
    rcases hi with rfl | ⟨m, hm, e⟩
    ·exact .inl (.inl rfl)
    obtain ⟨m2, g1, g2⟩ := q4 m i hm e
    rcases c2.wk.fo m2 i g1 g2 with g | g
    ·have g' : (w1.putObj L (.loop { rec .ready none with state := .busy })).heap.size ≤ i := g
     rw [bt] at g'
     exact .inr (by omega)
    rcases F2 i g with g | g
    ·exact .inr g
    exact .inl (.inr g)
   cases e with
   | normal => exact fin none _ q2.1 (.inl ⟨hkl, rfl, rfl, rfl, q2.2⟩)
   | ret =>
    obtain ⟨o2, g1, g2⟩ := q2
    exact fin (some .ret) o2 g1 (.inr ⟨(by show xs.length < xs.length + 1 + k; omega), rfl, .inl ⟨rfl, g2⟩⟩)
   | exit id =>
    obtain ⟨o2, g1, g2⟩ := q2
    exact fin (some (.exit id)) o2 g1 (.inr ⟨(by show xs.length < xs.length + 1 + k; omega), rfl, .inr ⟨id, rfl, g2⟩⟩)
   | _ => exact q2.elim
  | _ => exact q1.elim
 ·rw [hJ]
  exact ⟨r, own 0, .ready, none, fun _ _ => rfl, hw2, hL1, hhL, hnoL, .refl _, rfl, .inl ⟨Nat.zero_le _, rfl, rfl, rfl, hI⟩⟩
 rintro e W3 ⟨⟨v, rfl⟩, kf, h', G', hkf, hk⟩
 rw [hJ] at hk
 obtain ⟨r', o, st, pe, e1, e2, e3, e4, e5, e6, _, e8⟩ := hk
 have fin : ∀ (ob : Obj) (q : Exit), Q q ⟨bP l, o⟩ → ∃ s' h' r', Q q s' ∧ Conc C N h' r' s' { a with defers := [{ target := .collected w.heap.size, args := #[] }] ++ a.defers } (W3.putObj L ob) := fun ob q hq => by
  refine ⟨⟨bP l, o⟩, h', r', hq, hc.sz, ?_, fun t => hrg h' r' e6 e1 t, e2.putL e5 e4 hCL⟩
  refine ⟨hmar, ⟨w.heap.size, rfl, hc.wk.size, ?_, e6 _ _ hD1, jL hD0 hc.df⟩, hc.df.mono (hle1.trans e6)⟩
  cases e : C.h0 w.heap.size with
  | none => rfl
  | some o => have := hc.wk.hg _ _ e; rw [hD0] at this; cases this
 have hbusy : (rec st pe).state ≠ .busy := by
  rw [hrec]
  rcases e8 with ⟨_, _, h3, _⟩ | ⟨_, h3, _⟩ <;> (show st ≠ _; rw [h3]; simp)
 have hpe : (rec st pe).pending = pe := by rw [hrec]
 refine ⟨pe, _, by have := run_endLoop (P := P) e3 hbusy; rw [hpe] at this; exact this, ?_⟩
 rcases e8 with ⟨h1, rfl, _, rfl, hIk⟩ | ⟨_, _, ⟨rfl, h4⟩ | ⟨id, rfl, h4⟩⟩
 ·have : kf = xs.length := by omega
  subst this
  exact fin _ .normal (hdone hIk)
 ·exact wpIn_ret (fin _ .ret h4)
 exact wpIn_exit (fin _ (.exit id) h4)
end
section
open Go Go.RowKit
theorem CO {ro : Option Nat} {P : Program} {l : Nat} {f : FuncId} {tmps : Array Value} {assign body : Code} {w : World} {R : Ending → World → Prop} (h : RoundIn (Wd none) 0 P l f tmps assign body w R) : RoundIn (Wd ro) 0 P l f tmps assign body w R := h
theorem Gave.start {h : Hp} {W : World} {G F : Nat → Prop} (hs : ∀ i, F i → False) : Gave G h W (fun i => G i ∨ F i) h W :=
 ⟨rfl, rfl, .refl _, Nat.le_refl _, fun _ _ _ => rfl, .refl _, fun _ e => .inl e, fun i e => e.elim .inl fun x => (hs i x).elim⟩
section
variable (P : Program) (l : Nat) (xs : List (List PV)) (n0 : Nat) (J : Nat → Hp → (Nat → Prop) → World → Prop) (N np : Nat)
structure SK where
 r0 : Nat → Value
 h : Hp
 W : World
 F : Nat → Prop
def pH (s : St) (r : Nat → Value) (i : Nat) : Prop := ∃ m, s.own m ≠ none ∧ aR (r m) = some i
structure CK (S : SK) (k : Nat) (G : Nat → Prop) (h : Hp) (r : Nat → Value) (s : St) (a : Act) (w : World) : Prop where
 sz : a.tmps.size = N
 df : a.defers = []
 rg : RegsOK h r s.regs a
 kj : ∃ C : Ctx, WOK C h r s.own w ∧ J k C.h0 G C.w0 ∧ n0 ≤ C.w0.heap.size ∧ (∀ i, C.F i → n0 ≤ i ∧ ¬ G i ∧ C.h0 i = none) ∧ C.np = np ∧ C.mar = false ∧ (∀ m, m < np → C.r0 m = S.r0 m) ∧ Gave S.F S.h S.W (fun i => G i ∨ C.F i) C.h0 C.w0
def AK (c : Code) (Q : Exit → Nat → St → Prop) (k : Nat) (s : St) : Prop :=
 ∀ (ro : Option Nat) (S : SK) (h : Hp) (r : Nat → Value) (a : Act) (w : World) (G : Nat → Prop), CK n0 J N np S k G h r s a w →
  c.wpIn (Wd ro) 0 P (fun e a' w' => ∃ k' s' h' r' G', Q e k' s' ∧ CK n0 J N np S k' G' h' r' s' a' w') a w
def RY (Q : Exit → Nat → St → Prop) (ops : Array Oper) (os : List Oper) (i : Nat) (k : Nat) (s : St) : Prop := ops.toList.drop i = os →
 ∀ (ro : Option Nat) (S : SK) (h : Hp) (r : Nat → Value) (a : Act) (w : World) (G : Nat → Prop), CK n0 J N np S k G h r s a w →
  wpOpsIn (Wd ro) 0 P ops (fun e a' w' => ∃ k' s' h' r' G', Q e k' s' ∧ CK n0 J N np S k' G' h' r' s' a' w') (List.range' i os.length) a w
end
section
variable {P : Program} {l : Nat} {xs : List (List PV)} {n0 : Nat} {J : Nat → Hp → (Nat → Prop) → World → Prop} {N np : Nat} 
variable {Q : Exit → Nat → St → Prop} {k : Nat} {s : St}
theorem CK.now {S : SK} (hK : KeepsB n0 J) {G : Nat → Prop} {h : Hp} {r : Nat → Value} {a : Act} {w : World} (c : CK n0 J N np S k G h r s a w) : J k h G w := by
 obtain ⟨C, hw, hj, hs, hF, _, _, _, _⟩ := c.kj
 have hg := hK.g _ _ _ _ hj
 refine hK.rest _ _ _ _ _ _ hj ⟨hw.os, hw.tape, hw.output, hw.size, fun i hi => ?_, hw.hi, hw.hg, fun i hi => ?_⟩
 ·by_cases e : C.F i
  ·exact .inr (hF i e)
  exact .inl (hw.old i hi e)
 rcases hw.hn i hi with g | g | g
 ·exact .inl g
 ·exact .inr ⟨Nat.le_trans hs g, fun x => by have := (hg i x).1; omega⟩
 exact .inr ⟨(hF i g).1, (hF i g).2.1⟩
theorem CK.notG {S : SK} (hK : KeepsB n0 J) {G : Nat → Prop} {h : Hp} {r : Nat → Value} {a : Act} {w : World} (c : CK n0 J N np S k G h r s a w) {m i : Nat} (hm : s.own m ≠ none) (e : aR (r m) = some i) : n0 ≤ i ∧ ¬ G i ∧ i < w.heap.size ∧ h i = none := by
 obtain ⟨C, hw, hj, hs, hF, _, _, _, _⟩ := c.kj
 refine ⟨?_, ?_, hw.lt hm e, hw.ho m i hm e⟩
 ·rcases hw.fo m i hm e with g | g
  ·exact Nat.le_trans hs g
  exact (hF i g).1
 rcases hw.fo m i hm e with g | g
 ·exact fun x => by have := (hK.g _ _ _ _ hj i x).1; omega
 exact (hF i g).2.1
theorem CK.bool {S : SK} {G : Nat → Prop} {h : Hp} {r : Nat → Value} {a : Act} {w : World} (hc : CK n0 J N np S k G h r s a w) {c : Operand} {b : Bool} (he : ev s.regs c = .p (.c (.v (.bool b)))) : a.eval c = .bool b := by
 have := dS hc.rg c
 rw [he] at this
 simp only [AVRep, PRep, DRep] at this
 exact this.1
theorem CK.le {S : SK} {t : St} (q : Le s t) {G : Nat → Prop} {h : Hp} {r : Nat → Value} {a : Act} {w : World} (c : CK n0 J N np S k G h r s a w) : CK n0 J N np S k G h r t a w := by
 obtain ⟨C, hw, rest⟩ := c.kj
 exact ⟨c.sz, c.df, fun i => q.regs i h r _ (c.rg i), C, hw.forget q.own, rest⟩
theorem CK.frame {S : SK} {G : Nat → Prop} {h : Hp} {r : Nat → Value} {a : Act} {w : World} (c : CK n0 J N np S k G h r s a w) : Gave S.F S.h S.W (fun i => G i ∨ pH s r i) h w := by
 obtain ⟨C, hw, hj, hs, hF, hn, hm, hr0, hfr⟩ := c.kj
 refine ⟨hw.os.trans hfr.os, hw.tape.trans hfr.tape, hw.output.trans hfr.output, Nat.le_trans hfr.size hw.size, fun i hi hg => ?_, hfr.hg.trans hw.hg, fun i hi => ?_, fun i hi => ?_⟩
 ·rw [hw.old i (Nat.lt_of_lt_of_le hi hfr.size) fun x => ?_]
  ·exact hfr.old i hi hg
  rcases hfr.gg i (.inr x) with g | g
  ·exact hg g
  omega
 ·rcases hw.hn i hi with g | g | g
  ·exact hfr.hn i g
  ·exact .inr (.inl (Nat.le_trans hfr.size g))
  rcases hfr.gg i (.inr g) with g | g
  ·exact .inr (.inr g)
  exact .inr (.inl g)
 rcases hi with g | ⟨m, hm, e⟩
 ·exact hfr.gg i (.inl g)
 rcases hw.fo m i hm e with g | g
 ·exact .inr (Nat.le_trans hfr.size g)
 exact hfr.gg i (.inr g)
theorem Gave.trans {A B D : Nat → Prop} {h h' h'' : Hp} {W W' W'' : World} (p : Gave A h W B h' W') (q : Gave B h' W' D h'' W'') : Gave A h W D h'' W'' := by
 refine ⟨q.os.trans p.os, q.tape.trans p.tape, q.output.trans p.output, Nat.le_trans p.size q.size, fun i hi hg => ?_, p.hg.trans q.hg, fun i hi => ?_, fun i hi => ?_⟩
 ·rw [q.old i (Nat.lt_of_lt_of_le hi p.size) fun x => ?_]
  ·exact p.old i hi hg
  rcases p.gg i x with g | g
  ·exact hg g
  omega
 ·rcases q.hn i hi with g | g | g
  ·exact p.hn i g
  ·exact .inr (.inl (Nat.le_trans p.size g))
  rcases p.gg i g with g | g
  ·exact .inr (.inr g)
  exact .inr (.inl g)
 rcases q.gg i hi with g | g
 ·exact p.gg i g
 exact .inr (Nat.le_trans p.size g)
theorem Gave.plus {A B X : Nat → Prop} {h h' : Hp} {W W' : World} (p : Gave A h W B h' W') : Gave (fun i => A i ∨ X i) h W (fun i => B i ∨ X i) h' W' := by
 refine ⟨p.os, p.tape, p.output, p.size, fun i hi hg => p.old i hi fun x => hg (.inl x), p.hg, fun i hi => ?_, fun i hi => ?_⟩
 ·rcases p.hn i hi with g | g | g
  ·exact .inl g
  ·exact .inr (.inl g)
  exact .inr (.inr (.inl g))
 rcases hi with g | g
 ·rcases p.gg i g with g | g
  ·exact .inl (.inl g)
  exact .inr g
 exact .inl (.inr g)
theorem BI {c : Code} (h : AWp P true N np c (fun e s' => Q e k s') s) : AK P n0 J N np c Q k s := by
 intro ro S hh r a w G hc
 obtain ⟨C, hw, hj, hs, hF, hn, hm, hr0, hfr⟩ := hc.kj
 refine wpIn_mono (h ro (fun e => by cases e) C hh r a w ⟨hn, hm⟩ ⟨hc.sz, by rw [hc.df]; trivial, hc.rg, hw⟩) ?_
 rintro e a' w' ⟨s', h', r', q, c'⟩
 refine ⟨k, s', h', r', G, q, c'.sz, ?_, c'.rg, C, c'.wk, hj, hs, hF, hn, hm, hr0, hfr⟩
 have := c'.df
 cases hd : a'.defers with
 | nil => rfl
 | cons d ds => rw [hd] at this; have h1 := this.1; rw [hm] at h1; cases h1
theorem aX (hP : P.follows .mixedOrders = true) {id : Nat} {ops : Array Oper} {draw : Bool} (h : RK P N np ops draw ops.toList (ci (c9 ops.toList) s) [] (Q .normal k)) : AK P n0 J N np (.region id ops draw) Q k s :=
 BI (au hP h)
theorem bl {x y : Code} (h : AK P n0 J N np x (lv (AK P n0 J N np y Q) Q) k s) : AK P n0 J N np (.seq x y) Q k s := by
 intro ro S hh r a w G hc
 refine wpIn_seq (wpIn_mono (h ro S hh r a w G hc) ?_)
 rintro e a' w' ⟨k', s', h', r', G', q, c⟩
 cases e with
 | normal => exact q ro S h' r' a' w' G' c
 | _ => exact ⟨k', s', h', r', G', q, c⟩
theorem dc (h : Q .normal k s) : AK P n0 J N np .skip Q k s := fun _ _ hh r _ _ G hc => wpIn_skip ⟨k, s, hh, r, G, h, hc⟩
theorem kM (h : Q .ret k s) : AK P n0 J N np .ret Q k s := fun _ _ hh r _ _ G hc => wpIn_ret ⟨k, s, hh, r, G, h, hc⟩
theorem fU {id : Nat} (h : Q (.exit id) k s) : AK P n0 J N np (.exit id) Q k s := fun _ _ hh r _ _ G hc => wpIn_exit ⟨k, s, hh, r, G, h, hc⟩
theorem dI {id : Nat} {c : Code} (h : AK P n0 J N np c (JIn id Q) k s) : AK P n0 J N np (.block id c) Q k s := by
 intro ro S hh r a w G hc
 refine wpIn_block (wpIn_mono (h ro S hh r a w G hc) ?_)
 rintro e a' w' ⟨k', s', h', r', G', q, c⟩
 cases e with
 | exit id' =>
  simp only [Exit.inBlock]
  simp only [JIn] at q
  by_cases hid : id' = id
  ·subst hid
   rw [if_pos rfl]
   have : Nat.beq id' id' = true := by simp
   rw [this] at q
   exact ⟨k', s', h', r', G', q, c⟩
  rw [if_neg hid]
  have : Nat.beq id' id = false := by
   cases e : Nat.beq id' id with
   | false => rfl
   | true => exact absurd (Nat.eq_of_beq_eq_true e) hid
  rw [this] at q
  exact ⟨k', s', h', r', G', q, c⟩
 | _ => exact ⟨k', s', h', r', G', q, c⟩
theorem dC {c : Operand} {x y : Code} {b : Bool} (he : ev s.regs c = .p (.c (.v (.bool b)))) (ht : b = true → AK P n0 J N np x Q k s) (hf : b = false → AK P n0 J N np y Q k s) : AK P n0 J N np (.cond c x y) Q k s := by
 intro ro S hh r a w G hc
 have hb := hc.bool he
 cases b with
 | true => exact wpIn_cond_true hb (ht rfl ro S hh r a w G hc)
 | false => exact wpIn_cond_false hb (hf rfl ro S hh r a w G hc)
theorem gD {c : Operand} {x y : Code} {b : Bool} (he : ev s.regs c = .p (.c (.v (.bool b)))) (hb : b = false) (hf : AK P n0 J N np y Q k s) : AK P n0 J N np (.cond c x y) Q k s :=
 dC he (fun h => by rw [hb] at h; cases h) (fun _ => hf)
theorem jy {ι : Type} {c : Code} (I : ι → St) (κ : ι → Nat) (F : ι → Prop) (μ : ι → Nat) (i₀ : ι) (h₀ : F i₀) (hk : κ i₀ = k) (hs : Le s (I i₀))
  (round : ∀ i, F i → AK P n0 J N np c (lv (fun k' s' => ∃ j, F j ∧ μ j < μ i ∧ κ j = k' ∧ Le s' (I j)) Q) (κ i) (I i)) : AK P n0 J N np (.loop c) Q k s := by
 intro ro S hh r a w G hc b kk cs hro hfn hroom
 have key : ∀ n i h r a w G, μ i = n → F i → CK n0 J N np S (κ i) G h r (I i) a w →
   ∃ e a' w', (∃ k' s' h' r' G', Q e k' s' ∧ CK n0 J N np S k' G' h' r' s' a' w') ∧ ArrivesIn (Machine.fenced P (Wd ro)) P (lone (b.atR a (.code c :: .inLoop c :: kk)) cs w) b kk cs e a' w' := by
  intro n
  induction n using Nat.strongRecOn with
  | _ n ih =>
   intro i h r a w G hμ hF hc
   obtain ⟨e, a₁, w₁, ⟨k₁, s₁, h₁, r₁, G₁, hq, hc₁⟩, harr⟩ := round i hF ro S h r a w G hc b (.inLoop c :: kk) cs hro hfn hroom
   cases e with
   | normal =>
    obtain ⟨j, hFj, hlt, hκ, hle⟩ := hq
    subst hκ
    obtain ⟨e₂, a₂, w₂, hq₂, harr₂⟩ := ih (μ j) (hμ ▸ hlt) j h₁ r₁ a₁ w₁ G₁ rfl hFj (hc₁.le hle)
    exact ⟨e₂, a₂, w₂, hq₂, .of_steps (StepsIn.trans harr (.one (fenced_calm hfn hroom rfl) stepR_inLoop)) harr₂⟩
   | exit id => exact ⟨_, a₁, w₁, ⟨k₁, s₁, h₁, r₁, G₁, hq, hc₁⟩, .pass (x := .inLoop c) rfl (fun _ _ => .inl (by simp)) harr⟩
   | goto l => exact ⟨_, a₁, w₁, ⟨k₁, s₁, h₁, r₁, G₁, hq, hc₁⟩, .pass (x := .inLoop c) rfl (fun _ _ => .inl (by simp)) harr⟩
   | ret => exact ⟨_, a₁, w₁, ⟨k₁, s₁, h₁, r₁, G₁, hq, hc₁⟩, .pass (x := .inLoop c) rfl (fun _ _ => .inl (by simp)) harr⟩
   | panic ch => exact ⟨_, a₁, w₁, ⟨k₁, s₁, h₁, r₁, G₁, hq, hc₁⟩, .pass (x := .inLoop c) rfl (fun _ _ => .inl (by simp)) harr⟩
   | outgrown => exact ⟨_, a₁, w₁, ⟨k₁, s₁, h₁, r₁, G₁, hq, hc₁⟩, .pass (x := .inLoop c) rfl (fun _ _ => .inl (by simp)) harr⟩
 subst hk
 obtain ⟨e, a', w', hq, harr⟩ := key _ i₀ hh r a w G rfl h₀ (hc.le hs)
 exact ⟨e, a', w', hq, .of_steps (.one (fenced_calm hfn hroom rfl) stepR_loop) harr⟩
section rj
variable {ops : Array Oper} {os : List Oper} {i : Nat} {op : Op} {ty : TypeId} {pos : String} {af : Array Edge} {gd : Option (Nat × Bool)} {t : Nat}
theorem jZ {id : Nat} (h : RY P n0 J N np Q ops ops.toList 0 k s) : AK P n0 J N np (.region id ops false) Q k s := by
 intro ro S hh r a w G hc
 apply wpIn_region
 rw [List.range_eq_range']
 exact h rfl ro S hh r a w G hc
theorem RY.done (h : Q .normal k s) : RY P n0 J N np Q ops [] i k s := fun _ _ _ hh r _ _ G hc => ⟨k, s, hh, r, G, h, hc⟩
theorem CK.put {S : SK} {G : Nat → Prop} {h h' : Hp} {r r' : Nat → Value} {a : Act} {w w' : World} {C : Ctx} {v : AV} {x : Value} (hc : CK n0 J N np S k G h r s a w) (hle : Hle h h') (hr : ∀ m, r' m = r m) (ht : t < N) (hv : AVRep h' r' v x)
  (q : WOK C h' r' s.own w') (hj : J k C.h0 G C.w0) (hs : n0 ≤ C.w0.heap.size) (hF : ∀ i, C.F i → n0 ≤ i ∧ ¬ G i ∧ C.h0 i = none) (hn : C.np = np) (hm : C.mar = false) (hr0 : ∀ m, m < np → C.r0 m = S.r0 m) (hfr : Gave S.F S.h S.W (fun i => G i ∨ C.F i) C.h0 C.w0) : CK n0 J N np S k G h' r' ⟨upd s.regs t v, s.own⟩ (a.put (some t) x) w' :=
 ⟨by simp [Act.put, hc.sz], by simpa [Act.put] using hc.df, (show RegsOK h' r' s.regs a from fun u => AVRep.rebind _ _ (fun m _ => hr m) (AVRep.mono hle _ _ (hc.rg u))).put (dst := some t) (fun d e => by cases e; rw [hc.sz]; exact ht) hv, C, q, hj, hs, hF, hn, hm, hr0, hfr⟩
theorem RY.val {v : AV} {rd : List Nat} (hg : cy ops ⟨some t, op, ty, pos, af, gd⟩ s.regs true) (he : Eff P ⟨some t, op, ty, pos, af, gd⟩ t (ev s.regs) s.own v [] none rd)
  (hr : RY P n0 J N np Q ops os (i + 1) k ⟨upd s.regs t v, s.own⟩) (hN : (Nat.blt t N && jq ⟨some t, op, ty, pos, af, gd⟩) = true := by rfl) : RY P n0 J N np Q ops (⟨some t, op, ty, pos, af, gd⟩ :: os) i k s := by
 intro hd ro S hh r a w G hc
 obtain ⟨h1, h2⟩ := gr hd
 rw [Bool.and_eq_true, Nat.blt_eq] at hN
 rw [List.length_cons, List.range'_succ, wpOpsIn_cons]
 unfold wpOpIn
 simp only [h1]
 rw [ei hc.rg hg, if_pos rfl]
 obtain ⟨C, hw, hj, hs, hF, hn, hm, hr0, hfr⟩ := hc.kj
 refine jB (jJ hN.2) ?_
 refine he C hh r s.own a w _ _ (fun x _ => dS hc.rg x) (fun _ _ => rfl) hw (fun e => absurd rfl e) ?_
 intro x h' r' w' hle hrr hv hw'
 exact ⟨hr h2 ro S h' r' _ w' G (hc.put hle (fun m => hrr m (fun e => absurd rfl e)) hN.1 hv hw' hj hs hF hn hm hr0 hfr), rfl⟩
theorem RY.skip (hg : cy ops ⟨some t, op, ty, pos, af, gd⟩ s.regs false)
  (hr : RY P n0 J N np Q ops os (i + 1) k ⟨upd s.regs t (.t []), s.own⟩) (hN : Nat.blt t N = true := by rfl) : RY P n0 J N np Q ops (⟨some t, op, ty, pos, af, gd⟩ :: os) i k s := by
 intro hd ro S hh r a w G hc
 obtain ⟨h1, h2⟩ := gr hd
 rw [Nat.blt_eq] at hN
 rw [List.length_cons, List.range'_succ, wpOpsIn_cons]
 unfold wpOpIn
 simp only [h1]
 rw [ei hc.rg hg, if_neg (by simp)]
 obtain ⟨C, hw, hj, hs, hF, hn, hm, hr0, hfr⟩ := hc.kj
 exact ⟨fun _ _ => trivial, hr h2 ro S hh r _ w G (hc.put (.refl _) (fun _ => rfl) hN ⟨[], rfl, trivial⟩ hw hj hs hF hn hm hr0 hfr)⟩
theorem RY.yield (hK : Keeps2 P l xs n0 J) {c : Operand} {args : Array Operand} {tys : Array TypeId} {x : List PV} (hg : cy ops ⟨some t, .call ⟨.value c, args, tys⟩, ty, pos, af, gd⟩ s.regs true)
  (hy : ev s.regs c = .p (.c (.v (.func (.yield l) #[] #[])))) (ha : args.toList.map (ev s.regs) = x.map .p) (hx : xs[k]? = some x)
  (hr : ∀ b, RY P n0 J N np Q ops os (i + 1) (nx xs.length k b) ⟨upd s.regs t (.p (.c (.v (.bool b)))), s.own⟩) (hN : Nat.blt t N = true := by rfl) : RY P n0 J N np Q ops (⟨some t, .call ⟨.value c, args, tys⟩, ty, pos, af, gd⟩ :: os) i k s := by
 intro hd ro S hh r a w G hc
 obtain ⟨h1, h2⟩ := gr hd
 rw [Nat.blt_eq] at hN
 rw [List.length_cons, List.range'_succ, wpOpsIn_cons]
 unfold wpOpIn
 simp only [h1]
 rw [ei hc.rg hg, if_pos rfl]
 have hyv : a.eval c = .func (.yield l) #[] #[] := by
  have := dS hc.rg c
  rw [hy] at this
  simp only [AVRep, PRep, DRep] at this
  exact this.1
 have hra : RepArgs hh r (x.map .p) (args.map a.eval).toList := by
  rw [← ha, Array.toList_map]
  exact dP _ fun x _ => dS hc.rg x
 obtain ⟨fn, tmps, assign, body, hrun, hR⟩ := hK.give k hh G w x _ hx (hc.now hK.toKeepsB) (jF hra)
 refine ⟨fun _ _ => trivial, ?_⟩
 rw [Oper.semAt_eq _ _ _ (fun c' e => by cases e)]
 have hex : (execOp a.eval ⟨some t, .call ⟨.value c, args, tys⟩, ty, pos, af, gd⟩).run P w = .ok (.round l fn tmps assign body) w := by
  simp only [execOp, resolve, Sem.run_bind, hyv, Deferred.ofValue, Sem.run_pure, Result.andThen_ok, invoke, Array.empty_append]
  have e : (args.map a.eval).toList.toArray = args.map a.eval := Array.toArray_toList
  rw [← e]; exact hrun
 rw [hex]
 refine ⟨fun e => by simp [Wd] at e, RoundIn.mono (CO hR) ?_⟩
 rintro e w' ⟨b, rfl, h', G', hj, q⟩
 obtain ⟨C, hw, hj0, hs, hF, hn, hm, hr0, hfr⟩ := hc.kj
 have same : ∀ m i, s.own m ≠ none → aR (r m) = some i → w'.heap[i]? = w.heap[i]? := fun m i hm e => by
  have := hc.notG hK.toKeepsB hm e
  exact q.old i this.2.2.1 this.2.1
 have hw' : WOK ⟨w', h', fun i => ∃ m, s.own m ≠ none ∧ aR (r m) = some i, r, np, false⟩ h' r s.own w' := by
  refine ⟨fun m b e => ((hw.ow m b e).mono q.hg).world fun i hi => same m i (by rw [e]; simp) hi, hw.inj, hK.hi _ _ _ _ hj, fun m i hm e => ?_, rfl, rfl, .refl _, Nat.le_refl _, fun _ _ _ => rfl, fun m i hm e => .inr ⟨m, hm, e⟩, .refl _, fun _ e => .inl e, hw.gl.mono q.hg, fun _ _ => rfl, fun m b j e hj' => ?_⟩
  ·have hg := hc.notG hK.toKeepsB hm e
   cases hh' : h' i with
   | none => rfl
   | some o =>
    rcases q.hn i (by rw [hh']; simp) with g | g | g
    ·exact absurd hg.2.2.2 g
    ·omega
    exact absurd g hg.2.1
  obtain ⟨q1, t', e1, e2⟩ := hw.lk m b j e hj'
  exact ⟨q1, t', e1, by rw [same m q1 (by rw [e]; simp) (by rw [e1]; rfl)]; exact e2⟩
 have n1 : n0 ≤ w'.heap.size := Nat.le_trans (Nat.le_trans hs hw.size) q.size
 refine hr b h2 ro S h' r _ w' G' ⟨by simp [Act.put, hc.sz], by simpa [Act.put] using hc.df, (show RegsOK h' r s.regs a from fun u => AVRep.mono q.hg _ _ (hc.rg u)).put (dst := some t) (v := .p (.c (.v (.bool b)))) (x := .bool b) (fun d e => by cases e; rw [hc.sz]; exact hN) ⟨rfl, rfl⟩, _, hw', hj, n1, ?_, rfl, rfl, fun m hm => ?_, hc.frame.trans q.plus⟩
 rotate_left
 ·show r m = _
  rw [hw.kp m (by omega)]; exact hr0 m hm
 rintro i ⟨m, hm, e⟩
 have hg := hc.notG hK.toKeepsB hm e
 refine ⟨hg.1, fun x => ?_, ?_⟩
 ·rcases q.gg i x with g | g
  ·exact hg.2.1 g
  omega
 exact hw'.ho m i hm e
end rj
end
end
section
open Go Go.RowKit
section
variable (P : Program) (l : Nat) (xs : List (List PV)) (n0 : Nat) (J : Nat → Hp → (Nat → Prop) → World → Prop) (N np : Nat)
def pT (D : Nat) : Deferred := { target := .collected D, args := #[] }
def tS (e : Exit) (a : Act) (w : World) : Prop := (e = .normal ∨ e = .ret) ∧ ∃ kf h G, xs.length ≤ kf ∧ J kf h G w ∧
 (a.defers = [] ∨ ∃ D, a.defers = [pT D] ∧ w.heap[D]? = some (.deferred (some [])) ∧ n0 ≤ D ∧ ¬ G D ∧ h D = none)
def AE (c : Code) (k : Nat) (s : St) : Prop :=
 ∀ (S : SK) (h : Hp) (r : Nat → Value) (a : Act) (w : World) (G : Nat → Prop), CK n0 J N np S k G h r s a w → c.wpIn (Wd none) 0 P (tS xs n0 J) a w
end
section
variable {P : Program} {l : Nat} {xs : List (List PV)} {n0 : Nat} {J : Nat → Hp → (Nat → Prop) → World → Prop} {N np : Nat} {k : Nat} {s : St}
theorem tU {c : Code} (hK : KeepsB n0 J) (h : AK P n0 J N np c (fun e k' _ => (e = .normal ∨ e = .ret) ∧ xs.length ≤ k') k s) : AE P xs n0 J N np c k s := by
  intro S hh r a w G hc
  refine wpIn_mono (h none S hh r a w G hc) ?_
  rintro e a' w' ⟨k', s', h', r', G', ⟨q1, q2⟩, c⟩
  exact ⟨q1, k', h', G', q2, c.now hK, .inl c.df⟩
theorem qO {x y : Code} (hK : KeepsB n0 J) (h : AK P n0 J N np x (lv (AE P xs n0 J N np y) (fun e k' _ => e = .ret ∧ xs.length ≤ k')) k s) : AE P xs n0 J N np (.seq x y) k s := by
  intro S hh r a w G hc
  refine wpIn_seq (wpIn_mono (h none S hh r a w G hc) ?_)
  rintro e a' w' ⟨k', s', h', r', G', q, c⟩
  have fin : ∀ e, e = Exit.ret ∧ xs.length ≤ k' → tS xs n0 J e a' w' := fun e q => ⟨.inr q.1, k', h', G', q.2, c.now hK, .inl c.df⟩
  cases e with
  | normal => exact q S h' r' a' w' G' c
  | exit id => exact fin _ q
  | goto t => exact fin _ q
  | ret => exact fin _ q
  | panic ch => exact fin _ q
  | outgrown => exact absurd q.1 (by simp)
theorem xX {id : Nat} {c : Code} (h : AE P xs n0 J N np c k s) : AE P xs n0 J N np (.block id c) k s := by
  intro S hh r a w G hc
  refine wpIn_block (wpIn_mono (h S hh r a w G hc) ?_)
  rintro e a' w' ⟨he, q⟩
  rcases he with rfl | rfl
  · exact ⟨.inl rfl, q⟩
  exact ⟨.inr rfl, q⟩
theorem Gv {t : St} {c : Code} (q : Le s t) (h : AE P xs n0 J N np c k t) : AE P xs n0 J N np c k s :=
  fun S hh r a w G hc => h S hh r a w G (hc.le q)
theorem Stt.rest {C : Ctx} {h h' : Hp} {r : Nat → Value} {o : Own} {w w' : World} {n : Nat} {G : Nat → Prop} (k : WOK C h r o w) (q : Rest n G h w h' w') (hG : ∀ m i, o m ≠ none → aR (r m) = some i → G i) (np' : Nat) : WOK (Ctx.round h' r o w' np') h' r o w' := by
  have same : ∀ m i, o m ≠ none → aR (r m) = some i → w'.heap[i]? = w.heap[i]? := fun m i hm e => by
    rcases q.old i (k.lt hm e) with g | ⟨_, g, _⟩
    · exact g
    exact absurd (hG m i hm e) g
  refine ⟨fun m b e => ((k.ow m b e).mono q.hg).world fun i hi => same m i (by rw [e]; simp) hi, k.inj, q.hi, fun m i hm e => ?_, rfl, rfl, .refl _, Nat.le_refl _, fun _ _ _ => rfl, fun m i hm e => .inr ⟨m, hm, e⟩, .refl _, fun _ e => .inl e, k.gl.mono q.hg, fun _ _ => rfl, fun m b j e hj => ?_⟩
  · cases hh : h' i with
    | none => rfl
    | some o =>
      rcases q.hn i (by rw [hh]; simp) with g | g
      · exact absurd (k.ho m i hm e) g
      exact absurd (hG m i hm e) g.2
  obtain ⟨q1, t, h1, h2⟩ := k.lk m b j e hj
  exact ⟨q1, t, h1, by rw [same m q1 (by rw [e]; simp) (by rw [h1]; rfl)]; exact h2⟩
theorem fL {n : Nat} {G : Nat → Prop} {h : Hp} {w : World} {L : Nat} {ob : Obj} (hi : ∀ i o, h i = some o → w.heap[i]? = some o) (h1 : n ≤ L) (h2 : ¬ G L) (h3 : h L = none) : Rest n G h w h (w.putObj L ob) :=
  ⟨rfl, rfl, .refl _, by rw [bt]; exact Nat.le_refl _, fun i _ => by
    by_cases e : i = L
    · subst e; exact .inr ⟨h1, h2, h3⟩
    · exact .inl (bG e), fun i o e => by
    rw [bG fun x => by subst x; rw [h3] at e; cases e]; exact hi i o e, .refl _, fun _ e => .inl e⟩
theorem qh {G : Nat → Prop} {h : Hp} {w : World} {L : Nat} {ob : Obj} (h2 : G L) : Gave G h w G h (w.putObj L ob) :=
  ⟨rfl, rfl, .refl _, by rw [bt]; exact Nat.le_refl _, fun i _ hg => bG fun x => hg (x ▸ h2), .refl _, fun _ e => .inl e, fun _ e => .inl e⟩
theorem Gave.mono {A B A' B' : Nat → Prop} {h h' : Hp} {W W' : World} (p : Gave A h W B h' W') (ha : ∀ i, A i → A' i) (hb : ∀ i, B' i → B i ∨ A' i) : Gave A' h W B' h' W' :=
  ⟨p.os, p.tape, p.output, p.size, fun i hi hg => p.old i hi fun x => hg (ha i x), p.hg, fun i hi => by
    rcases p.hn i hi with g | g | g
    · exact .inl g
    · exact .inr (.inl g)
    · exact .inr (.inr (ha i g)), fun i hi => by
    rcases hb i hi with g | g
    · rcases p.gg i g with g | g
      · exact .inl (ha i g)
      exact .inr g
    exact .inl g⟩
theorem Gave.keep {A B : Nat → Prop} {h h' : Hp} {W W' : World} (p : Gave A h W B h' W') {x : Nat} {o : Obj} (h1 : W.heap[x]? = some o) (h2 : h x = none) (h3 : ¬ A x) : W'.heap[x]? = some o ∧ h' x = none ∧ ¬ B x := by
  have hlt : x < W.heap.size := (Array.getElem?_eq_some_iff.1 h1).1
  refine ⟨by rw [p.old x hlt h3]; exact h1, ?_, fun hx => ?_⟩
  · cases e : h' x with
    | none => rfl
    | some o' =>
      rcases p.hn x (by rw [e]; simp) with g | g | g
      · exact absurd h2 g
      · omega
      exact absurd g h3
  rcases p.gg x hx with g | g
  · exact h3 g
  omega
def JI (n0 : Nat) (J : Nat → Hp → (Nat → Prop) → World → Prop) (n ny np' L D : Nat) (κ : Nat → Nat) (o : Own) (r : Nat → Value) (h1 : Hp) (rec : LoopState → Option Code → Loop) (i : Nat) (h : Hp) (G : Nat → Prop) (W : World) : Prop :=
  ∃ k Gout st pe, J k h Gout W ∧ W.heap[L]? = some (.loop (rec st pe)) ∧ h L = none ∧ ¬ Gout L ∧ W.heap[D]? = some (.deferred (some [])) ∧ h D = none ∧ ¬ Gout D ∧ Hle h1 h ∧ GlOK h ∧
    ((i ≤ ny ∧ k = κ i ∧ st = .ready ∧ pe = none ∧ ∃ r', (∀ m, m < np' → r' m = r m) ∧ WOK (Ctx.round h r' o W np') h r' o W ∧ (∀ b, (∃ m, o m ≠ none ∧ aR (r' m) = some b) → n0 ≤ b ∧ ¬ Gout b ∧ b ≠ L ∧ b ≠ D) ∧ G = fun b => (b = L ∨ b = D) ∨ Gout b ∨ ∃ m, o m ≠ none ∧ aR (r' m) = some b) ∨
     (ny < i ∧ st = .done ∧ pe = some .ret ∧ n ≤ k ∧ G = fun b => (b = L ∨ b = D) ∨ Gout b))
theorem xW {l' : List (Nat × AV)} {g : Operand} {ps : Array Tmp} {assign body : Code} {gf : FuncId} {caps : List (List DV)} {ys : List (List PV)} (np' : Nat) (κ : Nat → Nat) (o : Own) (hK : Keeps2 P l xs n0 J)
    (hg : ev (bP l') g = .fn gf caps) (hit : Iter2 P gf caps ys) (hps : ∀ x ∈ ys, x.length = ps.toList.length) (hfix : mX np' l' = true) (hpN : (ps.toList.all fun p => Nat.blt p N) = true)
    (hround : ∀ (i : Nat) (y : List PV), ys[i]? = some y → AK P n0 J N np' assign (lv (fun k' s' => AK P n0 J N np' body (fun e k2 s2 => (e = .normal ∧ k2 = κ (i + 1) ∧ GW np' s2.own o) ∨ (e = .ret ∧ xs.length ≤ k2)) k' s') (fun _ _ _ => False)) (κ i) ⟨gG (bP l') ps.toList y, o⟩)
    (hend : xs.length ≤ κ ys.length) (hk : k = κ 0) : AE P xs n0 J N np (.rangeFunc g ps assign body) k ⟨bP l', o⟩ := by
  intro S hh r a w G hc
  subst hk
  refine wpIn_rangeFunc ?_
  intro fn _
  have hgv := dS hc.rg g
  rw [hg] at hgv
  obtain ⟨lb, hval, hcaps⟩ := hgv
  obtain ⟨rec, hrec⟩ : ∃ rec : LoopState → Option Code → Loop, rec = fun st pe => { state := st, pending := pe, fn, tmps := a.tmps, params := ps, assign, body, defers := w.heap.size } := ⟨_, rfl⟩
  obtain ⟨W1, hW1⟩ : ∃ W1, (w.alloc (.deferred (some []))).alloc (.loop (rec .ready none)) = W1 := ⟨_, rfl⟩
  have hj := hc.now hK.toKeepsB
  have hnG := fun {m i : Nat} (hm : o m ≠ none) (e : aR (r m) = some i) => hc.notG hK.toKeepsB (m := m) (i := i) hm e
  have hGs := fun i (hi : G i) => hK.g _ _ _ _ hj i hi
  obtain ⟨C, hw, hj0, hs, hF, hn, hm, hr0, hfr⟩ := hc.kj
  have hn0 : n0 ≤ w.heap.size := Nat.le_trans hs hw.size
  have hs1 : W1.heap.size = w.heap.size + 2 := by rw [← hW1]; simp
  have hold : ∀ i, i < w.heap.size → W1.heap[i]? = w.heap[i]? := fun i hi => by
    rw [← hW1, bB, if_neg (by simp; omega), bB, if_neg (by omega)]
  have hL1 : W1.heap[w.heap.size + 1]? = some (.loop (rec .ready none)) := by
    rw [← hW1, bB, if_pos (by simp)]
  have hD1 : W1.heap[w.heap.size]? = some (.deferred (some [])) := by
    rw [← hW1, bB, if_neg (by simp), bB, if_pos rfl]
  have hrest : ∀ X, Rest n0 X hh w hh W1 := fun X => ⟨by rw [← hW1]; rfl, by rw [← hW1]; rfl, by rw [← hW1]; exact ⟨rfl, Nat.le_refl _⟩, by omega, fun i hi => .inl (hold i hi), fun i o' e => by rw [hold i (hw.hlt e)]; exact hw.hi i o' e, .refl _, fun _ e => .inl e⟩
  have hj1 := hK.rest _ _ _ _ _ _ hj (hrest G)
  have hw1 : WOK (Ctx.round hh r o W1 np') hh r o W1 := Stt.rest hw (hrest (fun i => ∃ m, o m ≠ none ∧ aR (r m) = some i)) (fun m i hm e => ⟨m, hm, e⟩) np'
  have hnone : ∀ i, w.heap.size ≤ i → hh i = none := fun i hi => by
    cases e : hh i with
    | none => rfl
    | some o' => have := hw.hlt e; omega
  have hL0 := hnone (w.heap.size + 1) (by omega)
  have hD0 := hnone w.heap.size (Nat.le_refl _)
  have hLG : ¬ G (w.heap.size + 1) := fun x => by have := (hGs _ x).1; omega
  have hDG : ¬ G w.heap.size := fun x => by have := (hGs _ x).1; omega
  have hob : ∀ b, (∃ m, o m ≠ none ∧ aR (r m) = some b) → n0 ≤ b ∧ ¬ G b ∧ b ≠ w.heap.size + 1 ∧ b ≠ w.heap.size := fun b ⟨m, hm, e⟩ => by
    have := hnG hm e
    exact ⟨this.1, this.2.1, by omega, by omega⟩
  have nL : n0 ≤ w.heap.size + 1 := by omega
  generalize hLL : w.heap.size + 1 = L at *
  generalize hDD : w.heap.size = D at *
  have hLD : L ≠ D := by omega
  refine ⟨L, [pT D], W1, { target := .fn (.func gf) lb, args := #[.func (.yield L) #[] #[]] }, W1, gf, #[.func (.yield L) #[] #[]] ++ lb, W1, ?_, ?_, fun _ _ => trivial, ?_, fun e => by simp [Wd] at e, ?_⟩
  · rw [← hW1, hrec, ← hLL, ← hDD]; exact run_enterLoop_outer _ _ _ _ _
  · simp only [resolve, hval]
    simp [go_sem]
  · have eg : ∀ args w, (callFunc gf args).run P w = .ok (.enter gf args) w := fun args w => dh hit.fn args w
    simp [invoke, go_sem, eg]
  have hmen := iC hfix
  have hrg : ∀ h r', Hle hh h → (∀ m, m < np' → r' m = r m) → RegsOK h r' (bP l') a := fun h r' hl hr t =>
    AVRep.rebind _ _ (fun m hm => hr m (hmen t m hm)) (AVRep.mono hl _ _ (hc.rg t))
  refine CallsIn.mono (hit.go L lb (JI n0 J xs.length ys.length np' L D κ o r hh rec) hh (fun b => (b = L ∨ b = D) ∨ G b ∨ ∃ m, o m ≠ none ∧ aR (r m) = some b) W1 n0 (by omega) hcaps hw.gl ⟨⟨?_, ?_, ?_⟩, ?_⟩ ?_) ?_
  · rintro i h G' W ⟨k, Gout, st, pe, q, _⟩
    exact hK.hi _ _ _ _ q
  · rintro i h G' W ⟨k, Gout, st, pe, q, e1, e2, e3, d1, d2, d3, hle, hgl, hx⟩ b hb
    have base : (b = L ∨ b = D) ∨ Gout b → b < W.heap.size ∧ h b = none := by
      rintro ((rfl | rfl) | hb)
      · exact ⟨(Array.getElem?_eq_some_iff.1 e1).1, e2⟩
      · exact ⟨(Array.getElem?_eq_some_iff.1 d1).1, d2⟩
      exact hK.g _ _ _ _ q b hb
    rcases hx with ⟨_, _, _, _, r', _, hwk, _, rfl⟩ | ⟨_, _, _, _, rfl⟩
    · rcases hb with hb | hb | ⟨m, hm, e⟩
      · exact base (.inl hb)
      · exact base (.inr hb)
      exact ⟨hwk.lt hm e, hwk.ho m b hm e⟩
    exact base hb
  · rintro i h G' W h' W' ⟨k, Gout, st, pe, q, e1, e2, e3, d1, d2, d3, hle, hgl, hx⟩ hR
    have hsub : ∀ b, (b = L ∨ b = D) ∨ Gout b → G' b := by
      rcases hx with ⟨_, _, _, _, r', _, hwk, _, rfl⟩ | ⟨_, _, _, _, rfl⟩
      · rintro b (hb | hb)
        · exact .inl hb
        exact .inr (.inl hb)
      exact fun b hb => hb
    have q' := hK.rest _ _ _ _ _ _ q (⟨hR.os, hR.tape, hR.output, hR.size, fun b hb => (hR.old b hb).imp id fun ⟨x, y, z⟩ => ⟨x, fun u => y (hsub b (.inr u)), z⟩, hR.hi, hR.hg, fun b hb => (hR.hn b hb).imp id fun ⟨x, y⟩ => ⟨x, fun u => y (hsub b (.inr u))⟩⟩ : Rest n0 Gout h W h' W')
    have stay : ∀ b ob, W.heap[b]? = some ob → h b = none → (b = L ∨ b = D) → W'.heap[b]? = some ob ∧ h' b = none := fun b ob h1 h2 h3 => by
      refine ⟨?_, ?_⟩
      · rcases hR.old b (Array.getElem?_eq_some_iff.1 h1).1 with g | ⟨_, g, _⟩
        · rw [g]; exact h1
        exact absurd (hsub b (.inl h3)) g
      cases e : h' b with
      | none => rfl
      | some o' =>
        rcases hR.hn b (by rw [e]; simp) with g | ⟨_, g⟩
        · exact absurd h2 g
        exact absurd (hsub b (.inl h3)) g
    obtain ⟨f1, f2⟩ := stay L _ e1 e2 (.inl rfl)
    obtain ⟨f3, f4⟩ := stay D _ d1 d2 (.inr rfl)
    refine ⟨k, Gout, st, pe, q', f1, f2, e3, f3, f4, d3, hle.trans hR.hg, hgl.mono hR.hg, ?_⟩
    rcases hx with ⟨x1, x2, x3, x4, r', x5, hwk, x6, rfl⟩ | hx
    · exact .inl ⟨x1, x2, x3, x4, r', x5, Stt.rest hwk hR (fun m b hm e => .inr (.inr ⟨m, hm, e⟩)) np', x6, rfl⟩
    exact .inr hx
  · rintro i h G' W y vals hy ⟨k, Gout, st, pe, q, e1, e2, e3, d1, d2, d3, hle, hgl, hx⟩ hv
    have hil : i < ys.length := (List.getElem?_eq_some_iff.1 hy).1
    obtain ⟨_, rfl, rfl, rfl, r', hr', hwk, hob', rfl⟩ := hx.resolve_right fun x => by omega
    have hlen : y.length = ps.toList.length := hps y (List.mem_of_getElem? hy)
    have hvl : vals.length = y.length := iQ _ _ hv
    have hsz : vals.toArray.size = (rec .ready none).params.size := by
      rw [hrec]
      show vals.length = ps.size
      rw [hvl, hlen]; simp
    refine ⟨_, _, _, _, run_yield e1 hsz, roundIn_of_wpIn trivial ?_⟩
    rw [hrec]
    show assign.wpIn (Wd (some L)) 0 P _ { tmps := (ps.zip vals.toArray).foldl (fun t (p, v) => t.setIfInBounds p v) a.tmps, defers := [] } W
    have hzip : (ps.zip vals.toArray).foldl (fun t (p, v) => t.setIfInBounds p v) a.tmps = (ps.toList.zip vals).foldl (fun t (p, v) => t.setIfInBounds p v) a.tmps := by
      rw [← Array.foldl_toList, Array.toList_zip]
    rw [hzip]
    obtain ⟨f1, f2⟩ := ej (r := r') ps.toList y vals (bP l') a.tmps hv hlen (fun p hp => by
      have := List.all_eq_true.1 hpN p hp
      rw [hc.sz]; simpa using this) (fun t => hrg h r' hle hr' t)
    have hown : ∀ b, (∃ m, o m ≠ none ∧ aR (r' m) = some b) → h b = none := fun b ⟨m, hm, e⟩ => hwk.ho m b hm e
    have hltn : n0 ≤ W.heap.size := by have := (Array.getElem?_eq_some_iff.1 e1).1; omega
    have hCK : CK n0 J N np' ⟨r, h, W, fun b => Gout b ∨ ∃ m, o m ≠ none ∧ aR (r' m) = some b⟩ (κ i) Gout h r' ⟨gG (bP l') ps.toList y, o⟩ { tmps := (ps.toList.zip vals).foldl (fun t (p, v) => t.setIfInBounds p v) a.tmps, defers := [] } W :=
      ⟨f2.trans hc.sz, rfl, f1, Ctx.round h r' o W np', hwk, q, hltn, fun b hb => ⟨(hob' b hb).1, (hob' b hb).2.1, hown b hb⟩, rfl, rfl, fun m hm => hr' m hm, ⟨rfl, rfl, .refl _, Nat.le_refl _, fun _ _ _ => rfl, .refl _, fun _ e => .inl e, fun _ e => .inl e⟩⟩
    refine wpIn_mono (hround i y hy (some L) _ h r' _ W Gout hCK) ?_
    rintro e a1 w1 ⟨k1, s1, h2, r2, G2, q1, c1⟩
    cases e with
    | normal =>
      have fr1 := c1.frame
      have notB : ∀ b, b = L ∨ b = D → ¬ (Gout b ∨ ∃ m, o m ≠ none ∧ aR (r' m) = some b) := by
        rintro b (rfl | rfl) (x | x)
        · exact e3 x
        · exact (hob' _ x).2.2.1 rfl
        · exact d3 x
        exact (hob' _ x).2.2.2 rfl
      obtain ⟨g1, g2, g3⟩ := fr1.keep e1 e2 (notB L (.inl rfl))
      obtain ⟨g4, g5, g6⟩ := fr1.keep d1 d2 (notB D (.inr rfl))
      have hj2 := c1.now hK.toKeepsB
      have hLw : L < w1.heap.size := (Array.getElem?_eq_some_iff.1 g1).1
      have hD2 : (w1.putObj L (.loop { rec .ready none with state := .busy })).heap[D]? = some (.deferred (some [])) := by rw [bG (fun x => hLD x.symm)]; exact g4
      have hLb : (w1.putObj L (.loop { rec .ready none with state := .busy })).heap[L]? = some (.loop { rec .ready none with state := .busy }) := World.putObj_heap_same hLw
      have hi2 := hK.hi _ _ _ _ hj2
      have hput := fun X (hX : ¬ X L) => fL (n := n0) (G := X) (ob := .loop { rec .ready none with state := .busy }) hi2 nL hX g2
      have hj3 := hK.rest _ _ _ _ _ _ hj2 (hput G2 fun x => g3 (.inl x))
      have hnG1 := fun {m b : Nat} (hm : s1.own m ≠ none) (e : aR (r2 m) = some b) => c1.notG hK.toKeepsB (m := m) (i := b) hm e
      obtain ⟨C1, hw2, _, _, _, hnp1, _, hr01, _⟩ := c1.kj
      have hw3 : WOK (Ctx.round h2 r2 s1.own (w1.putObj L (.loop { rec .ready none with state := .busy })) np') h2 r2 s1.own (w1.putObj L (.loop { rec .ready none with state := .busy })) :=
        Stt.rest hw2 (hput (pH s1 r2) fun x => g3 (.inr x)) (fun m b hm e => ⟨m, hm, e⟩) np'
      have hr2 : ∀ m, m < np' → r2 m = r m := fun m hm => by rw [hw2.kp m (by omega)]; exact hr01 m hm
      have hCK2 : CK n0 J N np' ⟨r, h2, w1.putObj L (.loop { rec .ready none with state := .busy }), fun b => G2 b ∨ pH s1 r2 b⟩ k1 G2 h2 r2 s1 a1 (w1.putObj L (.loop { rec .ready none with state := .busy })) :=
        ⟨c1.sz, c1.df, c1.rg, _, hw3, hj3, by rw [show (Ctx.round h2 r2 s1.own (w1.putObj L (.loop { rec .ready none with state := .busy })) np').w0.heap.size = w1.heap.size from bt _ _ _]; omega, fun b ⟨m, hm, e⟩ => ⟨(hnG1 hm e).1, (hnG1 hm e).2.1, (hnG1 hm e).2.2.2⟩, rfl, rfl, hr2, ⟨rfl, rfl, .refl _, Nat.le_refl _, fun _ _ _ => rfl, .refl _, fun _ e => .inl e, fun _ e => .inl e⟩⟩
      refine ⟨_, run_beginRound g1 (by rw [hrec]), ?_⟩
      refine wpIn_mono (q1 (some L) _ h2 r2 a1 _ G2 hCK2) ?_
      rintro e a2 w2 ⟨k2, s2, h3, r3, G3, q2, c2⟩
      have fr2 := c2.frame
      obtain ⟨k3, k4, k5⟩ := fr2.keep hLb g2 g3
      obtain ⟨k6, k7, k8⟩ := fr2.keep hD2 g5 g6
      have hj4 := c2.now hK.toKeepsB
      have hi3 := hK.hi _ _ _ _ hj4
      have hLw2 : L < w2.heap.size := (Array.getElem?_eq_some_iff.1 k3).1
      have gave : ∀ (ob : Obj) (B : Nat → Prop), (∀ b, B b → (b = L ∨ b = D) ∨ G3 b ∨ pH s2 r3 b) → Gave (fun b => (b = L ∨ b = D) ∨ Gout b ∨ ∃ m, o m ≠ none ∧ aR (r' m) = some b) h W B h3 (w2.putObj L ob) := fun ob B hB => by
        have p1 := fr1.plus (X := fun b => b = L ∨ b = D)
        have p2 := fr2.plus (X := fun b => b = L ∨ b = D)
        refine Gave.mono (((p1.trans (qh (L := L) (ob := .loop { rec .ready none with state := .busy }) (.inr (.inl rfl)))).trans p2).trans (qh (L := L) (ob := ob) (.inr (.inl rfl)))) (fun b hb => ?_) (fun b hb => ?_)
        · rcases hb with hb | hb
          · exact .inr hb
          exact .inl hb
        rcases hB b hb with x | x
        · exact .inl (.inr x)
        exact .inl (.inl x)
      have hnG2 := fun {m b : Nat} (hm : s2.own m ≠ none) (e : aR (r3 m) = some b) => c2.notG hK.toKeepsB (m := m) (i := b) hm e
      obtain ⟨C2, hw4, _, _, _, hnp2, _, hr02, _⟩ := c2.kj
      have hle3 : Hle hh h3 := hle.trans (fr1.hg.trans fr2.hg)
      have hj5 := fun (ob : Obj) => hK.rest _ _ _ _ _ _ hj4 (fL (n := n0) (G := G3) (ob := ob) hi3 nL (fun x => k5 (.inl x)) k4)
      have hDp : ∀ ob : Obj, (w2.putObj L ob).heap[D]? = some (.deferred (some [])) := fun ob => by rw [bG (fun x => hLD x.symm)]; exact k6
      rcases q2 with ⟨rfl, rfl, q2⟩ | ⟨rfl, q2⟩
      · obtain ⟨r4, q3, hwk3, q4⟩ := q2 C2 h3 r3 w2 (by omega) hw4
        have hob4 : ∀ b, (∃ m, o m ≠ none ∧ aR (r4 m) = some b) → pH s2 r3 b := fun b ⟨m, hm, e⟩ => q4 m b hm e
        refine ⟨_, _, run_endRound none k3, true, rfl, h3, fun b => (b = L ∨ b = D) ∨ G3 b ∨ ∃ m, o m ≠ none ∧ aR (r4 m) = some b, ?_, gave _ _ fun b hb => ?_⟩
        · refine ⟨κ (i + 1), G3, .ready, none, hj5 _, ?_, k4, fun x => k5 (.inl x), hDp _, k7, fun x => k8 (.inl x), hle3, hw4.gl, .inl ⟨hil, rfl, rfl, rfl, r4, fun m hm => ?_, ?_, fun b hb => ?_, rfl⟩⟩
          · rw [World.putObj_heap_same hLw2, hrec]; rfl
          · rw [q3 m hm, hw4.kp m (by omega)]; exact hr02 m hm
          · exact Stt.rest hwk3 (fL (n := n0) (G := fun b => ∃ m, o m ≠ none ∧ aR (r4 m) = some b) (h := h3) hi3 nL (fun x => k5 (.inr (hob4 _ x))) k4) (fun m b hm e => ⟨m, hm, e⟩) np'
          obtain ⟨m, hm, e⟩ := hob4 b hb
          have := hnG2 hm e
          exact ⟨this.1, this.2.1, fun x => k5 (.inr ⟨m, hm, x ▸ e⟩), fun x => k8 (.inr ⟨m, hm, x ▸ e⟩)⟩
        rcases hb with hb | hb | hb
        · exact .inl hb
        · exact .inr (.inl hb)
        exact .inr (.inr (hob4 b hb))
      refine ⟨_, _, run_endRound (some .ret) k3, false, rfl, h3, fun b => (b = L ∨ b = D) ∨ G3 b, ?_, gave _ _ fun b hb => ?_⟩
      · refine ⟨k2, G3, .done, some .ret, hj5 _, ?_, k4, fun x => k5 (.inl x), hDp _, k7, fun x => k8 (.inl x), hle3, hw4.gl, .inr ⟨(by show ys.length < ys.length + 1 + i; omega), rfl, rfl, q2, rfl⟩⟩
        rw [World.putObj_heap_same hLw2, hrec]; rfl
      rcases hb with hb | hb
      · exact .inl hb
      exact .inr (.inl hb)
    | _ => exact q1.elim
  · exact ⟨κ 0, G, .ready, none, hj1, hL1, hL0, hLG, hD1, hD0, hDG, .refl _, hw.gl, .inl ⟨Nat.zero_le _, rfl, rfl, rfl, r, fun _ _ => rfl, hw1, hob, rfl⟩⟩
  rintro e W3 ⟨⟨v, rfl⟩, kf, h', G', hkf, k, Gout, st, pe, q, e1, e2, e3, d1, d2, d3, hle, hgl, hx⟩
  have hbusy : (rec st pe).state ≠ .busy := by
    rw [hrec]
    rcases hx with ⟨_, _, h3, _⟩ | ⟨_, h3, _⟩ <;> (show st ≠ _; rw [h3]; simp)
  have hpe : (rec st pe).pending = pe := by rw [hrec]
  have hx2 : xs.length ≤ k ∧ (pe = none ∨ pe = some .ret) := by
    rcases hx with ⟨h1, rfl, _, rfl, _⟩ | ⟨_, _, rfl, h4, _⟩
    · have : kf = ys.length := by omega
      subst this
      exact ⟨hend, .inl rfl⟩
    exact ⟨h4, .inr rfl⟩
  have fin : ∀ (ob : Obj) (e : Exit), (e = .normal ∨ e = .ret) → tS xs n0 J e { a with defers := [pT D] ++ a.defers } (W3.putObj L ob) := fun ob e he =>
    ⟨he, k, h', Gout, hx2.1, hK.rest _ _ _ _ _ _ q (fL (hK.hi _ _ _ _ q) nL e3 e2), .inr ⟨D, by rw [hc.df]; rfl, by rw [bG (fun x => hLD x.symm)]; exact d1, by omega, d3, d2⟩⟩
  refine ⟨pe, _, by have := run_endLoop (P := P) e1 hbusy; rw [hpe] at this; exact this, ?_⟩
  rcases hx2.2 with rfl | rfl
  · exact fin _ .normal (.inl rfl)
  exact wpIn_ret (fin _ .ret (.inr rfl))
end
end
section
open Go Go.RowKit
theorem lR {P : Program} {f : FuncId} {fn : Func} {c : Code} {N : Nat} {caps : List (List DV)} {xs : List (List PV)} (hf : P.funcs[f]? = some fn) (hnm : (fn.name == "runtime.NumGoroutine") = false) (hb : fn.body = some c) (hN : fn.ntmps = N) (hna : caps.length + 1 ≤ N) (hres : fn.results = #[])
  (h : ∀ l n0 J, Keeps2 P l xs n0 J → AE P xs n0 J N 0 c 0 ⟨fun t => ((.p (.c (.v (.func (.yield l) #[] #[]))) :: caps.map .ip : List AV)).getD t .junk, O⟩) : Iter2 P f caps xs := by
 refine ⟨⟨fn, hf, hnm, by rw [hb]; rfl⟩, ?_⟩
 intro l lb J hh G W n0 hn0 hcaps hgl hK h0
 refine callsIn_of_wp_marks hf hb trivial ?_
 have hcl : ∀ (cs : List (List DV)) (xs : List Value), CapsRep hh cs xs → xs.length = cs.length := by
  intro cs
  induction cs with
  | nil => intro xs k; cases xs with
   | nil => rfl
   | cons _ _ => exact k.elim
  | cons p ps ih => intro xs k; cases xs with
   | nil => exact k.elim
   | cons x xs => simp [ih xs k.2]
 have hlen : lb.size = caps.length := by simpa using hcl _ _ hcaps
 have hget : ∀ (cs : List (List DV)) (xs : List Value), CapsRep hh cs xs → ∀ (t : Nat) (x : List DV), cs[t]? = some x → ∃ y, xs[t]? = some y ∧ IpRep hh x y := by
  intro cs
  induction cs with
  | nil => intro xs _ t x h; simp at h
  | cons p ps ih => intro xs h t x hx; cases xs with
   | nil => exact h.elim
   | cons y ys => cases t with
    | zero => simp at hx; subst hx; exact ⟨y, rfl, h.1⟩
    | succ t => exact ih ys h.2 t x (by simpa using hx)
 refine wpIn_mono (h l n0 J hK ⟨fun _ => .bool false, hh, W, G⟩ hh (fun _ => .bool false) _ W G ⟨?_, rfl, ?_, (⟨W, hh, fun _ => False, fun _ => .bool false, 0, false⟩ : Ctx), ?_, h0, hn0, fun _ e => e.elim, rfl, rfl, fun _ _ => rfl, Gave.start fun _ e => e⟩) ?_
 ·simp [hN, hlen]; omega
 ·intro t
  show AVRep hh _ (((.p (.c (.v (.func (.yield l) #[] #[]))) :: caps.map .ip : List AV)).getD t .junk) _
  rw [List.getD_eq_getElem?_getD]
  cases t with
  | zero =>
   simp only [List.getElem?_cons_zero, Option.getD_some]
   have e0 : (#[.func (.yield l) #[] #[]] ++ lb ++ Array.replicate (fn.ntmps - (#[.func (.yield l) #[] #[]] ++ lb : Array Value).size) undef : Array Value).getD 0 undef = .func (.yield l) #[] #[] := by
    rw [Array.getD_eq_getD_getElem?, Array.getElem?_append_left (by simp; omega), Array.getElem?_append_left (by simp)]; rfl
   show AVRep hh _ (.p (.c (.v (.func (.yield l) #[] #[])))) (Array.getD _ 0 undef)
   rw [e0]
   simp only [AVRep, PRep, DRep, true_and]; rfl
  | succ t =>
   rw [List.getElem?_cons_succ, List.getElem?_map]
   cases ht : caps[t]? with
   | none => exact trivial
   | some x =>
    obtain ⟨y, g1, g2⟩ := hget _ _ hcaps t x ht
    have g1' : lb[t]? = some y := by rw [← Array.getElem?_toList]; exact g1
    have hlt : t < lb.size := (Array.getElem?_eq_some_iff.1 g1').1
    simp only [Option.map_some, Option.getD_some, Array.getD_eq_getD_getElem?]
    rw [Array.getElem?_append_left (by simp; omega), Array.getElem?_append_right (by simp)]
    simp only [List.size_toArray, List.length_cons, List.length_nil, Nat.zero_add, Nat.add_sub_cancel, g1', Option.getD_some]
    exact g2
 ·exact ⟨fun m b e => (by cases e), fun m n k e => absurd rfl e, hK.hi _ _ _ _ h0, fun m k e => absurd rfl e, rfl, rfl, .refl _, Nat.le_refl _, fun _ _ _ => rfl, fun m k e => absurd rfl e, Hle.refl _, fun k e => Or.inl e, hgl, fun _ _ => rfl, fun m b j e => (by cases e)⟩
 rintro e a' w' ⟨he, kf, h', G', hk, hj, hd⟩
 have hr : ∀ W', (results fn a'.tmps).run P W' = .ok (.tuple #[]) W' := fun W' => by rw [eK, hres]; simp
 have fin : LeavesInM (Wd none) 0 P fn a'.tmps (fun e W' => (∃ v, e = .returned v) ∧ ∃ kf h' G', xs.length ≤ kf ∧ J kf h' G' W') a'.defers .returning w' := by
  rcases hd with hd | ⟨D, hd, d1, d2, d3, d4⟩
  ·rw [hd]
   exact ⟨_, hr _, ⟨_, rfl⟩, kf, h', G', hk, hj⟩
  rw [hd]
  refine ⟨by simp, .inl ⟨D, _, rfl, run_takeDeferred d1, ?_⟩⟩
  exact ⟨_, hr _, ⟨_, rfl⟩, kf, h', G', hk, hK.rest _ _ _ _ _ _ hj (fL (hK.hi _ _ _ _ hj) d2 d3 d4)⟩
 rcases he with rfl | rfl <;> exact fin
end
section
open Go Go.RowKit
structure CallG (P : Program) (f : FuncId) (args : List AV) (gf : FuncId) (b : Blk) : Prop where
 fn : nC P f
 go : ∀ (h : Hp) (r : Nat → Value) (w : World) (cargs : Array Value), RepArgs h r args cargs.toList → Before h r O w →
  Calls P f cargs w fun e w' => ∃ v h' k0, e = .returned (.func (.func gf) #[] #[.pointer (some ⟨k0, 0, none⟩)]) ∧ v = .pointer (some ⟨k0, 0, none⟩) ∧ BlkRep h' w' v b ∧ (∀ k, aR v = some k → w.heap.size ≤ k ∧ h' k = none) ∧ After h r O w h' O w'
theorem Eff.callG {P : Program} {dst : Option Nat} {f : FuncId} {args : Array Operand} {tys : Array TypeId} {ty : TypeId} {pos : String} {af : Array Edge} {gd : Option (Nat × Bool)} {d : Nat} {ρ : Operand → AV} {own : Own} {gf : FuncId} {b : Blk}
  (hc : CallG P f (args.toList.map ρ) gf b) (hl0 : lnk b = [] := by rfl) : Eff P ⟨dst, .call ⟨.value (.func f), args, tys⟩, ty, pos, af, gd⟩ d ρ own (.fnl gf d) [] (some b) [] := by
 intro C h r own' a w K Q hrep hrd hw hnew hK
 unfold Oper.wp
 have hrun : (execOp a.eval ⟨dst, .call ⟨.value (.func f), args, tys⟩, ty, pos, af, gd⟩).run P w = .ok (.enter f (args.map a.eval)) w := by
  simp only [execOp, resolve, Sem.run_bind, Act.eval, Deferred.ofValue, Sem.run_pure, Result.andThen_ok, invoke, Array.empty_append, Array.append_empty]
  exact dh hc.fn _ w
 rw [hrun]
 refine Calls.mono (hc.go h r w (args.map a.eval) ?_ (hw.before fun m hm => absurd rfl hm)) ?_
 ·rw [Array.toList_map]
  exact dP _ fun x hx => hrep x (by simp only [Op.operands, Call.operands]; exact Array.mem_append.2 (.inr (Array.mem_toList_iff.1 hx)))
 rintro e w' ⟨v, h', k0, rfl, hv0, hv, hfr, hq⟩
 obtain ⟨hd, hp, hnl⟩ := hnew (by simp)
 have hw' : WOK C h' r own' w' := hw.after (fun m hm => absurd rfl hm) hq (fun m => by simp) (fun m b hm => absurd rfl hm)
 refine hK _ h' (upd r d v) w' hq.hg (fun m hm => aF _ _ _ _ (hm (by simp))) ⟨k0, by rw [upd_same, hv0]; rfl, rfl⟩ ?_
 show WOK C h' (upd r d v) (upd own' d (some b)) w'
 have live : ∀ m, m ≠ d → upd own' d (some b) m ≠ none → own' m ≠ none := fun m h1 hm => by rwa [aF _ _ _ _ h1] at hm
 have below : ∀ m k, own' m ≠ none → aR (r m) = some k → k < w.heap.size := fun m k hm hk => hw.lt hm hk
 refine ⟨?_, ?_, hw'.hi, ?_, hw'.os, hw'.tape, hw'.output, hw'.size, hw'.old, ?_, hw'.hg, hw'.hn, hw'.gl, ?_, ?_⟩
 ·intro m b' e
  by_cases h1 : m = d
  ·subst h1; rw [upd_same] at e ⊢; cases e; exact hv
  rw [aF _ _ _ _ h1] at e ⊢; exact hw'.ow m b' e
 ·intro m n k hm hn e f'
  by_cases h1 : m = d <;> by_cases h2 : n = d
  ·rw [h1, h2]
  ·subst h1; rw [upd_same] at e; rw [aF _ _ _ _ h2] at f'
   have := below n k (live n h2 hn) f'; have := (hfr k e).1; omega
  ·subst h2; rw [upd_same] at f'; rw [aF _ _ _ _ h1] at e
   have := below m k (live m h1 hm) e; have := (hfr k f').1; omega
  rw [aF _ _ _ _ h1] at e; rw [aF _ _ _ _ h2] at f'
  exact hw'.inj m n k (live m h1 hm) (live n h2 hn) e f'
 ·intro m k hm e
  by_cases h1 : m = d
  ·subst h1; rw [upd_same] at e; exact (hfr k e).2
  rw [aF _ _ _ _ h1] at e; exact hw'.ho m k (live m h1 hm) e
 ·intro m k hm e
  by_cases h1 : m = d
  ·subst h1; rw [upd_same] at e; exact .inl (Nat.le_trans hw.size (hfr k e).1)
  rw [aF _ _ _ _ h1] at e; exact hw'.fo m k (live m h1 hm) e
 ·intro m hm
  rw [aF _ _ _ _ (by omega)]; exact hw'.kp m hm
 intro m b' j e hj
 by_cases h1 : m = d
 ·subst h1; rw [upd_same] at e; cases e; rw [hl0] at hj; cases hj
 rw [aF _ _ _ _ h1] at e
 have hjd : j ≠ d := fun x => hnl m b' e (x ▸ hj)
 rw [aF _ _ _ _ h1, aF _ _ _ _ hjd]
 exact hw'.lk m b' j e hj
def Gt (fn : Func) (gf : FuncId) (b : Blk) (e : Exit) (s : St) : Prop := (e = .normal ∨ e = .ret) ∧ ∃ t m, fn.results = #[.tmp t] ∧ s.regs t = .fnl gf m ∧ s.own m = some b
theorem xL {P : Program} {f : FuncId} {fn : Func} {c : Code} {N : Nat} {args : List AV} {gf : FuncId} {b : Blk} (hf : P.funcs[f]? = some fn) (hnm : (fn.name == "runtime.NumGoroutine") = false) (hb : fn.body = some c) (hN : fn.ntmps = N) (hna : args.length ≤ N)
  (h : AWp P false N 0 c (Gt fn gf b) ⟨fun t => args.getD t .junk, O⟩) (hbv : b.vec = false := by rfl) : CallG P f args gf b := by
 refine ⟨⟨fn, hf, hnm, by rw [hb]; rfl⟩, ?_⟩
 intro hh r w cargs hra hbf
 have hlen : cargs.size = args.length := by
  have : ∀ (as0 : List AV) (xs : List Value), RepArgs hh r as0 xs → xs.length = as0.length := by
   intro as0
   induction as0 with
   | nil => intro xs h; cases xs with
    | nil => rfl
    | cons _ _ => exact h.elim
   | cons p ps ih => intro xs h; cases xs with
    | nil => exact h.elim
    | cons x xs => simp [ih xs h.2]
  simpa using this _ _ hra
 have hget : ∀ (as0 : List AV) (xs : List Value), RepArgs hh r as0 xs → ∀ (t : Nat) (x : AV), as0[t]? = some x → ∃ y, xs[t]? = some y ∧ AVRep hh r x y := by
  intro as0
  induction as0 with
  | nil => intro xs _ t x h; simp at h
  | cons p ps ih => intro xs h t x hx; cases xs with
   | nil => exact h.elim
   | cons y ys => cases t with
    | zero => simp at hx; subst hx; exact ⟨y, rfl, h.1⟩
    | succ t => exact ih ys h.2 t x (by simpa using hx)
 refine ns (n := 0) (callsIn_of_wp_marks hf hb trivial ?_)
 let C : Ctx := ⟨w, hh, fun _ => False, r, 0, true⟩
 refine wpIn_mono (h none (fun _ => rfl) C hh r _ w ⟨rfl, rfl⟩ ⟨?_, trivial, ?_, ⟨hbf.ow, hbf.inj, hbf.hi, hbf.ho, rfl, rfl, .refl _, Nat.le_refl _, fun _ _ _ => rfl, fun m k hm => absurd rfl hm, .refl _, fun k hk => .inl hk, hbf.gl, fun _ _ => rfl, fun m b j hb => by cases hb⟩⟩) ?_
 ·simp [hN]; omega
 ·intro t
  show AVRep hh r (args.getD t .junk) _
  rw [List.getD_eq_getElem?_getD]
  cases ht : args[t]? with
  | none => exact trivial
  | some x =>
   obtain ⟨y, h1, h2⟩ := hget _ _ hra t x ht
   have h1' : cargs[t]? = some y := by rw [← Array.getElem?_toList]; exact h1
   have hlt : t < cargs.size := (Array.getElem?_eq_some_iff.1 h1').1
   simp only [Array.getD_eq_getD_getElem?, Array.getElem?_append_left hlt, h1', Option.getD_some]
   exact h2
 rintro e a' w' ⟨s', h', r', ⟨he, t, m, hres, hreg, hown⟩, hc⟩
 have fin : LeavesInM (Wd none) 0 P fn a'.tmps (fun e w' => ∃ v h' k0, e = .returned (.func (.func gf) #[] #[.pointer (some ⟨k0, 0, none⟩)]) ∧ v = .pointer (some ⟨k0, 0, none⟩) ∧ BlkRep h' w' v b ∧ (∀ k, aR v = some k → w.heap.size ≤ k ∧ h' k = none) ∧ After hh r O w h' O w') a'.defers .returning w' := by
  refine jd hc ?_
  intro h' w' hc
  have hx := hc.rg t
  rw [hreg] at hx
  obtain ⟨k0, hk0, hx⟩ := hx
  have hv1 : (results fn a'.tmps).run P w' = .ok (.func (.func gf) #[] #[.pointer (some ⟨k0, 0, none⟩)]) w' := by
   rw [eK, hres]
   have hx' : a'.tmps.getD t undef = .func (.func gf) #[] #[.pointer (some ⟨k0, 0, none⟩)] := hx
   simp [gi, hx']
  have hk := hc.wk
  have hlow : s'.own m ≠ none := by rw [hown]; simp
  have hrm : r' m = .pointer (some ⟨k0, 0, none⟩) := by
   have hb := hk.ow m b hown
   unfold BlkRep at hb
   rw [hbv] at hb
   obtain ⟨k, c, h1, _⟩ := hb
   rw [h1] at hk0 ⊢
   have : k = k0 := by simpa [aR] using hk0
   rw [this]
  refine ⟨_, hv1, r' m, h', k0, rfl, hrm, hk.ow m b hown, fun k e => ⟨?_, hk.ho m k hlow e⟩, ?_⟩
  ·rcases hk.fo m k hlow e with g | g
   ·exact g
   exact g.elim
  refine ⟨fun m b e => (by cases e), fun m hm => absurd rfl hm, hk.hi, fun m k hm => absurd rfl hm, hk.os, hk.tape, hk.output, hk.size, fun k h1 _ => hk.old k h1 (fun x => x), hk.hg, fun k e => ?_⟩
  rcases hk.hn k e with g | g | g
  ·exact .inl g
  ·exact .inr (.inl g)
  exact g.elim
 rcases he with rfl | rfl <;> exact fin
section
variable {P : Program} {dst : Option Nat} {ty : TypeId} {pos : String} {af : Array Edge} {gd : Option (Nat × Bool)} {d : Nat} {ρ : Operand → AV} {own : Own}
theorem pM {f : FuncId} {c : Operand} {m : Nat} (hx : ρ c = .loc m 0) : Eff P ⟨dst, .makeFunc (.func f) #[] #[c], ty, pos, af, gd⟩ d ρ own (.fnl f m) [] none [] :=
 bg fun C h r own' a w hrep hrd hw => by
  have e1 := hrep c (by simp [Op.operands])
  rw [hx] at e1
  obtain ⟨k, h1, h2⟩ := e1
  refine ⟨.func (.func f) #[] #[a.eval c], ?_, k, h1, by rw [h2]⟩
  simp [execOp, Instr.makeFunc]
end
end
section
open Go Go.RowKit
structure Iter3 (P : Program) (gf : FuncId) (b0 : Blk) (xs : List (List PV)) : Prop where
 fn : nC P gf
 go : ∀ (l k0 : Nat) (J : Nat → Hp → (Nat → Prop) → World → Prop) (h : Hp) (G : Nat → Prop) (W : World) (n0 : Nat), n0 ≤ W.heap.size → n0 ≤ k0 → ¬ G k0 → h k0 = none → BlkRep h W (.pointer (some ⟨k0, 0, none⟩)) b0 → GlOK h → Keeps2 P l xs n0 J → J 0 h G W →
  CallsIn (Wd none) 0 P gf #[.func (.yield l) #[] #[], .pointer (some ⟨k0, 0, none⟩)] W fun e W' => (∃ v, e = .returned v) ∧ ∃ kf h' G', xs.length ≤ kf ∧ J kf h' G' W'
theorem WOK.rest3 {C : Ctx} {h h' : Hp} {r : Nat → Value} {own : Own} {w w' : World} (k : WOK C h r own w) {n0 : Nat} {G : Nat → Prop} (q : Rest n0 G h w h' w') (hG : ∀ m i, own m ≠ none → aR (r m) = some i → G i) (hb : ∀ i, h i = none → ¬ G i → C.w0.heap.size ≤ i ∨ C.F i) : WOK C h' r own w' := by
 have same : ∀ m i, own m ≠ none → aR (r m) = some i → w'.heap[i]? = w.heap[i]? := fun m i hm e => by
  rcases q.old i (k.lt hm e) with g | ⟨_, g, _⟩
  ·exact g
  exact absurd (hG m i hm e) g
 refine ⟨fun m b e => ((k.ow m b e).mono q.hg).world fun i hi => same m i (by rw [e]; simp) hi, k.inj, q.hi, fun m i hm e => ?_, q.os.trans k.os, q.tape.trans k.tape, q.output.trans k.output, Nat.le_trans k.size q.size, fun i hi hf => ?_, k.fo, k.hg.trans q.hg, fun i hi => ?_, k.gl.mono q.hg, k.kp, fun m b j e hj => ?_⟩
 ·cases hh : h' i with
  | none => rfl
  | some o =>
   rcases q.hn i (by rw [hh]; simp) with g | g
   ·exact absurd (k.ho m i hm e) g
   exact absurd (hG m i hm e) g.2
 ·rcases q.old i (Nat.lt_of_lt_of_le hi k.size) with g | ⟨_, g1, g2⟩
  ·rw [g]; exact k.old i hi hf
  rcases hb i g2 g1 with x | x
  ·omega
  exact absurd x hf
 ·rcases q.hn i hi with g | g
  ·exact k.hn i g
  by_cases x : h i = none
  ·exact .inr (hb i x g.2)
  exact k.hn i x
 obtain ⟨q1, t, h1, h2⟩ := k.lk m b j e hj
 exact ⟨q1, t, h1, by rw [same m q1 (by rw [e]; simp) (by rw [h1]; rfl)]; exact h2⟩
theorem tT {P : Program} {N np : Nat} {Q : Exit → St → Prop} {l : List (Nat × AV)} {ps : Array Tmp} {assign body : Code} {gf : FuncId} {xs : List (List PV)} {t0 m0 : Nat} {o : Own} {b0 : Blk} (np' : Nat) (own : Nat → Own) (I : Nat → Prop)
  (hit : Iter3 P gf b0 xs) (hj : bP l t0 = .junk) (ho : o m0 = some b0) (hbv : b0.vec = false) (_hlk : lnk b0 = []) (h0 : ∀ m, own 0 m = (upd o m0 none) m) (hps : ∀ x ∈ xs, x.length = ps.toList.length)
  (hfix : mX np' l = true) (hnp : Nat.ble np np' = true) (hpN : (ps.toList.all fun p => Nat.blt p N) = true)
  (hI : I 0) (hround : ∀ (k : Nat) (x : List PV), xs[k]? = some x → I k → AWp P true N np' assign (iV (AWp P true N np' body (vE np' Q l (own (k + 1)) (I (k + 1)))) (fun _ _ => False)) ⟨gG (bP l) ps.toList x, own k⟩)
  (hdone : I xs.length → Q .normal ⟨bP l, own xs.length⟩) : AWp P false N np (.rangeFunc (.tmp t0) ps assign body) Q ⟨upd (bP l) t0 (.fnl gf m0), o⟩ := by
 intro ro hB C hh r a w hn hc
 have hro : ro = none := hB rfl
 subst hro
 have hnp' := bL0 hnp
 have hmar : C.mar = true := hn.2
 refine wpIn_rangeFunc ?_
 intro fn _
 have hgv : AVRep hh r (upd (bP l) t0 (.fnl gf m0) t0) (a.tmps.getD t0 undef) := hc.rg t0
 rw [show upd (bP l) t0 (.fnl gf m0) t0 = .fnl gf m0 from upd_same _ _ _] at hgv
 obtain ⟨bk, hbk, hval⟩ := hgv
 have hval : a.eval (.tmp t0) = .func (.func gf) #[] #[.pointer (some ⟨bk, 0, none⟩)] := hval
 have hone : (⟨upd (bP l) t0 (.fnl gf m0), o⟩ : St).own m0 ≠ none := by show o m0 ≠ none; rw [ho]; simp
 have hbr := hc.wk.ow m0 b0 ho
 have hrm : r m0 = .pointer (some ⟨bk, 0, none⟩) := by
  unfold BlkRep at hbr
  rw [hbv] at hbr
  obtain ⟨k, c, h1, _⟩ := hbr
  rw [h1] at hbk ⊢
  have : k = bk := by simpa [aR] using hbk
  rw [this]
 rw [hrm] at hbr
 have hbfo := hc.wk.fo m0 bk hone hbk
 have hbho := hc.wk.ho m0 bk hone hbk
 have hblt := hc.wk.lt (m := m0) hone hbk
 have hbne : ∀ m, own 0 m ≠ none → aR (r m) ≠ some bk := fun m hm e => by
  rw [h0 m] at hm
  by_cases x : m = m0
  ·subst x; rw [upd_same] at hm; exact hm rfl
  rw [aF _ _ _ _ x] at hm
  exact x (hc.wk.inj m m0 bk hm hone e hbk)
 have hrg0 : RegsOK hh r (bP l) a := fun t => by
  by_cases e : t = t0
  ·subst e; rw [hj]; exact trivial
  have : AVRep hh r (upd (bP l) t0 (.fnl gf m0) t) (a.tmps.getD t undef) := hc.rg t
  rwa [show upd (bP l) t0 (.fnl gf m0) t = bP l t from aF _ _ _ _ e] at this
 replace hc : Conc C N hh r ⟨bP l, own 0⟩ a w := ⟨hc.sz, hc.df, hrg0, hc.wk.forget fun m => by
  show own 0 m = o m ∨ own 0 m = none
  rw [h0 m]
  by_cases x : m = m0
  ·subst x; exact .inr (upd_same _ _ _)
  exact .inl (aF _ _ _ _ x)⟩
 obtain ⟨rec, hrec⟩ : ∃ rec : LoopState → Option Code → Loop, rec = fun st pe => { state := st, pending := pe, fn, tmps := a.tmps, params := ps, assign, body, defers := w.heap.size } := ⟨_, rfl⟩
 obtain ⟨W1, hW1⟩ : ∃ W1, (w.alloc (.deferred (some []))).alloc (.loop (rec .ready none)) = W1 := ⟨_, rfl⟩
 obtain ⟨hw1, hle1⟩ := hc.wk.imm (.deferred (some []))
 obtain ⟨h1, hh1⟩ : ∃ h1 : Hp, h1 = fun i => if i = w.heap.size then some (.deferred (some [])) else hh i := ⟨_, rfl⟩
 rw [← hh1] at hw1 hle1
 have hs1 : W1.heap.size = w.heap.size + 2 := by rw [← hW1]; simp
 have hold1 : ∀ i, i < (w.alloc (.deferred (some []))).heap.size → W1.heap[i]? = (w.alloc (.deferred (some []))).heap[i]? := fun i hi => by
  rw [← hW1, bB, if_neg (by omega)]
 have hw2 : WOK C h1 r (own 0) W1 := hw1.beside (by rw [← hW1]; rfl) (by rw [← hW1]; rfl) (by rw [← hW1]; exact ⟨rfl, Nat.le_refl _⟩) (by rw [hs1]; simp) hold1
 have hL1 : W1.heap[w.heap.size + 1]? = some (.loop (rec .ready none)) := by
  rw [← hW1, bB, if_pos (by simp)]
 have hD0 : hh w.heap.size = none := by
  cases e : hh w.heap.size with
  | none => rfl
  | some o => have := hc.wk.hlt e; omega
 have hhL : h1 (w.heap.size + 1) = none := by
  rw [hh1]
  show (if w.heap.size + 1 = w.heap.size then _ else hh (w.heap.size + 1)) = none
  rw [if_neg (by omega)]
  cases e : hh (w.heap.size + 1) with
  | none => rfl
  | some o => have := hc.wk.hlt e; omega
 have hnoL : ∀ m, own 0 m ≠ none → aR (r m) ≠ some (w.heap.size + 1) := fun m hm e => by
  have := hc.wk.lt hm e; omega
 have hD1 : h1 w.heap.size = some (.deferred (some [])) := by rw [hh1]; exact if_pos rfl
 generalize hLL : w.heap.size + 1 = L at *
 have hCL : C.w0.heap.size ≤ L := by have := hc.wk.size; omega
 refine ⟨L, [{ target := .collected w.heap.size, args := #[] }], W1, { target := .fn (.func gf) #[.pointer (some ⟨bk, 0, none⟩)], args := #[.func (.yield L) #[] #[]] }, W1, gf, #[.func (.yield L) #[] #[], .pointer (some ⟨bk, 0, none⟩)], W1, ?_, ?_, fun _ _ => trivial, ?_, fun e => by simp [Wd] at e, ?_⟩
 ·rw [← hW1, hrec, ← hLL]; exact run_enterLoop_outer _ _ _ _ _
 ·simp only [resolve, hval]
  simp [go_sem]
 ·have eg : ∀ args w, (callFunc gf args).run P w = .ok (.enter gf args) w := fun args w => dh hit.fn args w
  simp [invoke, go_sem, eg]
 have hmen := iC hfix
 obtain ⟨J, hJ⟩ : ∃ J : Nat → Hp → (Nat → Prop) → World → Prop, J = fun k h G W => ∃ r' o st pe, (∀ m, m < np' → r' m = r m) ∧ WOK C h r' o W ∧ W.heap[L]? = some (.loop (rec st pe)) ∧ h L = none ∧ (∀ m, o m ≠ none → aR (r' m) ≠ some L) ∧ Hle h1 h ∧
   (G = fun i => (i = L ∨ ∃ m, o m ≠ none ∧ aR (r' m) = some i) ∨ (i < W1.heap.size ∧ h i = none ∧ i ≠ bk)) ∧ W1.heap.size ≤ W.heap.size ∧ tQ xs.length own I Q l k o st pe := ⟨_, rfl⟩
 have hrg : ∀ h r', Hle h1 h → (∀ m, m < np' → r' m = r m) → RegsOK h r' (bP l) a := fun h r' hl hr t =>
  AVRep.rebind _ _ (fun m hm => hr m (hmen t m hm)) (AVRep.mono (hle1.trans hl) _ _ (hc.rg t))
 refine CallsIn.mono (hit.go L bk J h1 (fun i => (i = L ∨ ∃ m, own 0 m ≠ none ∧ aR (r m) = some i) ∨ (i < W1.heap.size ∧ h1 i = none ∧ i ≠ bk)) W1 0 (Nat.zero_le _) (Nat.zero_le _) ?_ ?_ ((hbr.mono hle1).world fun i hi => ?_) hw2.gl ⟨⟨?_, ?_, ?_⟩, ?_⟩ ?_) ?_
 ·rintro ((x | ⟨m, hm, e⟩) | x)
  ·omega
  ·exact hbne m hm e
  exact x.2.2 rfl
 ·rw [hh1]
  show (if bk = w.heap.size then _ else hh bk) = none
  rw [if_neg (by omega)]; exact hbho
 ·have : i = bk := by simpa [aR] using hi.symm
  subst this
  rw [← hW1, bB, if_neg (by simp; omega), bB, if_neg (by omega)]
 ·intro k h G W hk
  rw [hJ] at hk
  obtain ⟨r', o, st, pe, _, q, _⟩ := hk
  exact q.hi
 ·intro k h G W hk i hi
  rw [hJ] at hk
  obtain ⟨r', o, st, pe, e1, e2, e3, e4, e5, e6, rfl, e7, e8⟩ := hk
  rcases hi with (rfl | ⟨m, hm, e⟩) | ⟨h8, h9, _⟩
  ·exact ⟨(Array.getElem?_eq_some_iff.1 e3).1, e4⟩
  ·exact ⟨e2.lt hm e, e2.ho m i hm e⟩
  exact ⟨by omega, h9⟩
 ·intro k h G W h' W' hk q
  rw [hJ] at hk ⊢
  obtain ⟨r', o, st, pe, e1, e2, e3, e4, e5, e6, rfl, e7, e8⟩ := hk
  have hlt : L < W.heap.size := (Array.getElem?_eq_some_iff.1 e3).1
  refine ⟨r', o, st, pe, e1, e2.rest3 q (fun m i hm e => .inl (.inr ⟨m, hm, e⟩)) (fun i h9 hg => ?_), ?_, ?_, e5, e6.trans q.hg, ?_, Nat.le_trans e7 q.size, e8⟩
  ·by_cases y : C.F i
   ·exact .inr y
   by_cases x : i < C.w0.heap.size
   ·exfalso
    refine hg (.inr ⟨Nat.lt_of_lt_of_le x hw2.size, h9, fun z => ?_⟩)
    subst z
    rcases hbfo with z | z
    ·omega
    exact y z
   exact .inl (by omega)
  ·rcases q.old L hlt with g | ⟨_, g, _⟩
   ·rw [g]; exact e3
   exact absurd (.inl (.inl rfl)) g
  ·cases e : h' L with
   | none => rfl
   | some o' =>
    rcases q.hn L (by rw [e]; simp) with g | g
    ·exact absurd e4 g
    exact absurd (.inl (.inl rfl)) g.2
  funext i
  refine propext ⟨fun x => x.imp id fun ⟨a1, a2, a3⟩ => ⟨a1, ?_, a3⟩, fun x => x.imp id fun ⟨a1, a2, a3⟩ => ⟨a1, ?_, a3⟩⟩
  ·cases e : h' i with
   | none => rfl
   | some o' =>
    rcases q.hn i (by rw [e]; simp) with g | g
    ·exact absurd a2 g
    exact absurd (.inr ⟨a1, a2, a3⟩) g.2
  cases e : h i with
  | none => rfl
  | some o' => rw [q.hg i o' e] at a2; cases a2
 ·intro k h G W x vals hx hk hv
  rw [hJ] at hk
  obtain ⟨r', o, st, pe, e1, e2, e3, e4, e5, e6, rfl, e7, e8⟩ := hk
  have hkl : k < xs.length := (List.getElem?_eq_some_iff.1 hx).1
  obtain ⟨_, rfl, rfl, rfl, hIk⟩ : k ≤ xs.length ∧ o = own k ∧ st = .ready ∧ pe = none ∧ I k := by
   rcases e8 with e8 | e8
   ·exact e8
   omega
  have hlen : x.length = ps.toList.length := hps x (List.mem_of_getElem? hx)
  have hvl : vals.length = x.length := iQ _ _ hv
  have hsz : vals.toArray.size = (rec .ready none).params.size := by
   rw [hrec]
   show vals.length = ps.size
   rw [hvl, hlen]; simp
  refine ⟨_, _, _, _, run_yield e3 hsz, roundIn_of_wpIn trivial ?_⟩
  rw [hrec]
  show assign.wpIn (Wd (some L)) 0 P _ { tmps := (ps.zip vals.toArray).foldl (fun t (p, v) => t.setIfInBounds p v) a.tmps, defers := [] } W
  have hzip : (ps.zip vals.toArray).foldl (fun t (p, v) => t.setIfInBounds p v) a.tmps = (ps.toList.zip vals).foldl (fun t (p, v) => t.setIfInBounds p v) a.tmps := by
   rw [← Array.foldl_toList, Array.toList_zip]
  rw [hzip]
  obtain ⟨f1, f2⟩ := ej (r := r') ps.toList x vals (bP l) a.tmps hv hlen (fun p hp => by
   have := List.all_eq_true.1 hpN p hp
   rw [hc.sz]; simpa using this) (fun t => hrg h r' e6 e1 t)
  refine wpIn_mono (hround k x hx hIk (some L) (fun e => by cases e) (Ctx.round h r' (own k) W np') h r' _ W ⟨rfl, rfl⟩ ⟨f2.trans hc.sz, trivial, f1, e2.enter⟩) ?_
  rintro e a1 w1 ⟨s1, h2, r2, q1, c1⟩
  cases e with
  | normal =>
   have hwk1 := e2.leave c1.wk (Nat.le_trans (Nat.le_of_eq hn.1) hnp')
   obtain ⟨g1, g2, g3⟩ := WOK.rec_left e5 c1.wk e3 e4
   have hd1 : a1.defers = [] := by
    have := c1.df
    cases hd : a1.defers with
    | nil => rfl
    | cons d ds => rw [hd] at this; cases this.1
   have hw3 := hwk1.putL (o := .loop { rec .ready none with state := .busy }) g3 g2 hCL
   have hLw : L < w1.heap.size := (Array.getElem?_eq_some_iff.1 g1).1
   have hLb : (w1.putObj L (.loop { rec .ready none with state := .busy })).heap[L]? = some (.loop { rec .ready none with state := .busy }) := World.putObj_heap_same hLw
   refine ⟨_, run_beginRound g1 (by rw [hrec]), ?_⟩
   refine wpIn_mono (q1 (some L) (fun e => by cases e) (Ctx.round h2 r2 s1.own _ np') h2 r2 a1 _ ⟨rfl, rfl⟩ ⟨c1.sz, by rw [hd1]; trivial, c1.rg, hw3.enter⟩) ?_
   rintro e a2 w2 ⟨s2, h3, r3, q2, c2⟩
   have fin : ∀ (jump : Option Code) (o2 : Own), GW np' s2.own o2 → tQ xs.length own I Q l (nx xs.length k jump.isNone) o2 (if jump.isNone then .ready else .done) jump → ∃ v w', (Instr.endRound L jump).run P w2 = .ok v w' ∧ ∃ b, Ending.returned v = .returned (.bool b) ∧ ∃ h' G', J (nx xs.length k b) h' G' w' ∧ Gave (fun i => (i = L ∨ ∃ m, own k m ≠ none ∧ aR (r' m) = some i) ∨ (i < W1.heap.size ∧ h i = none ∧ i ≠ bk)) h W G' h' w' := by
    intro jump o2 q2 hleft
    have hwk2 := hw3.leave c2.wk (Nat.le_trans (Nat.le_of_eq hn.1) hnp')
    obtain ⟨k1, k2, k3⟩ := WOK.rec_left g3 c2.wk hLb g2
    obtain ⟨r4, q3, hwk3, q4⟩ := q2 C h3 r3 w2 (Nat.le_trans (Nat.le_of_eq hn.1) hnp') hwk2
    have k3' : ∀ m, o2 m ≠ none → aR (r4 m) ≠ some L := fun m hm e => by
     obtain ⟨m2, g1, g2⟩ := q4 m L hm e
     exact k3 m2 g1 g2
    have F2 : ∀ i, (Ctx.round h2 r2 s1.own (w1.putObj L (.loop { rec .ready none with state := .busy })) np').F i → W.heap.size ≤ i ∨ ∃ m, own k m ≠ none ∧ aR (r' m) = some i := by
     rintro i ⟨m, hm, e⟩; exact c1.wk.fo m i hm e
    have sz1 : W.heap.size ≤ w1.heap.size := c1.wk.size
    have sz2 : w1.heap.size ≤ w2.heap.size := by have : (w1.putObj L _).heap.size ≤ w2.heap.size := c2.wk.size; rwa [bt] at this
    refine ⟨_, _, run_endRound jump k1, _, rfl, h3, fun i => (i = L ∨ ∃ m, o2 m ≠ none ∧ aR (r4 m) = some i) ∨ (i < W1.heap.size ∧ h3 i = none ∧ i ≠ bk), ?_, ?_⟩
    ·rw [hJ]
     refine ⟨r4, o2, if jump.isNone then .ready else .done, jump, fun m hm => ?_, hwk3.putL k3' k2 hCL, ?_, k2, k3', e6.trans (c1.wk.hg.trans c2.wk.hg), rfl, by rw [bt]; omega, hleft⟩
     ·rw [q3 m hm, c2.wk.kp m hm]
      show r2 m = r m
      rw [c1.wk.kp m hm]
      exact e1 m hm
     rw [World.putObj_heap_same (Array.getElem?_eq_some_iff.1 k1).1, hrec]
    refine ⟨c2.wk.os.trans c1.wk.os, c2.wk.tape.trans c1.wk.tape, c2.wk.output.trans c1.wk.output, by rw [bt]; omega, fun i hi hg => ?_, c1.wk.hg.trans c2.wk.hg, fun i hi => ?_, fun i hi => ?_⟩
    ·have hiL : i ≠ L := fun x => hg (.inl (.inl x))
     rw [bG hiL, c2.wk.old i (by rw [show (Ctx.round h2 r2 s1.own (w1.putObj L (.loop { rec .ready none with state := .busy })) np').w0.heap.size = w1.heap.size from bt _ _ _]; omega) (fun x => by
      rcases F2 i x with g | g
      ·omega
      exact hg (.inl (.inr g)))]
     show (w1.putObj L _).heap[i]? = _
     rw [bG hiL]
     exact c1.wk.old i hi (fun x => hg (.inl (.inr x)))
    ·rcases c2.wk.hn i hi with g | g | g
     ·rcases c1.wk.hn i g with g | g | g
      ·exact .inl g
      ·exact .inr (.inl g)
      exact .inr (.inr (.inl (.inr g)))
     ·have g' : (w1.putObj L (.loop { rec .ready none with state := .busy })).heap.size ≤ i := g
      rw [bt] at g'
      exact .inr (.inl (by omega))
     rcases F2 i g with g | g
     ·exact .inr (.inl g)
     exact .inr (.inr (.inl (.inr g)))
    rcases hi with (rfl | ⟨m, hm, e⟩) | ⟨x1, x2, x3⟩
    ·exact .inl (.inl (.inl rfl))
    ·obtain ⟨m2, g1, g2⟩ := q4 m i hm e
     rcases c2.wk.fo m2 i g1 g2 with g | g
     ·have g' : (w1.putObj L (.loop { rec .ready none with state := .busy })).heap.size ≤ i := g
      rw [bt] at g'
      exact .inr (by omega)
     rcases F2 i g with g | g
     ·exact .inr g
     exact .inl (.inl (.inr g))
    refine .inl (.inr ⟨x1, ?_, x3⟩)
    cases e : h i with
    | none => rfl
    | some o' => rw [(c1.wk.hg.trans c2.wk.hg) i o' e] at x2; cases x2
   cases e with
   | normal => exact fin none _ q2.1 (.inl ⟨hkl, rfl, rfl, rfl, q2.2⟩)
   | ret =>
    obtain ⟨o2, g1, g2⟩ := q2
    exact fin (some .ret) o2 g1 (.inr ⟨(by show xs.length < xs.length + 1 + k; omega), rfl, .inl ⟨rfl, g2⟩⟩)
   | exit id =>
    obtain ⟨o2, g1, g2⟩ := q2
    exact fin (some (.exit id)) o2 g1 (.inr ⟨(by show xs.length < xs.length + 1 + k; omega), rfl, .inr ⟨id, rfl, g2⟩⟩)
   | _ => exact q2.elim
  | _ => exact q1.elim
 ·rw [hJ]
  exact ⟨r, own 0, .ready, none, fun _ _ => rfl, hw2, hL1, hhL, hnoL, .refl _, rfl, Nat.le_refl _, .inl ⟨Nat.zero_le _, rfl, rfl, rfl, hI⟩⟩
 rintro e W3 ⟨⟨v, rfl⟩, kf, h', G', hkf, hk⟩
 rw [hJ] at hk
 obtain ⟨r', o, st, pe, e1, e2, e3, e4, e5, e6, _, _, e8⟩ := hk
 have fin : ∀ (ob : Obj) (q : Exit), Q q ⟨bP l, o⟩ → ∃ s' h' r', Q q s' ∧ Conc C N h' r' s' { a with defers := [{ target := .collected w.heap.size, args := #[] }] ++ a.defers } (W3.putObj L ob) := fun ob q hq => by
  refine ⟨⟨bP l, o⟩, h', r', hq, hc.sz, ?_, fun t => hrg h' r' e6 e1 t, e2.putL e5 e4 hCL⟩
  refine ⟨hmar, ⟨w.heap.size, rfl, hc.wk.size, ?_, e6 _ _ hD1, jL hD0 hc.df⟩, hc.df.mono (hle1.trans e6)⟩
  cases e : C.h0 w.heap.size with
  | none => rfl
  | some o => have := hc.wk.hg _ _ e; rw [hD0] at this; cases this
 have hbusy : (rec st pe).state ≠ .busy := by
  rw [hrec]
  rcases e8 with ⟨_, _, h3, _⟩ | ⟨_, h3, _⟩ <;> (show st ≠ _; rw [h3]; simp)
 have hpe : (rec st pe).pending = pe := by rw [hrec]
 refine ⟨pe, _, by have := run_endLoop (P := P) e3 hbusy; rw [hpe] at this; exact this, ?_⟩
 rcases e8 with ⟨h1, rfl, _, rfl, hIk⟩ | ⟨_, _, ⟨rfl, h4⟩ | ⟨id, rfl, h4⟩⟩
 ·have : kf = xs.length := by omega
  subst this
  exact fin _ .normal (hdone hIk)
 ·exact wpIn_ret (fin _ .ret h4)
 exact wpIn_exit (fin _ (.exit id) h4)
end
section
open Go Go.RowKit
theorem xl {P : Program} {f : FuncId} {fn : Func} {c : Code} {N : Nat} {b0 : Blk} {xs : List (List PV)} (hf : P.funcs[f]? = some fn) (hnm : (fn.name == "runtime.NumGoroutine") = false) (hb : fn.body = some c) (hN : fn.ntmps = N) (hna : 2 ≤ N) (hres : fn.results = #[]) (hlk : lnk b0 = [])
  (h : ∀ l n0 J, Keeps2 P l xs n0 J → AE P xs n0 J N 2 c 0 ⟨fun t => ([.p (.c (.v (.func (.yield l) #[] #[]))), .loc 1 0] : List AV).getD t .junk, upd O 1 (some b0)⟩) : Iter3 P f b0 xs := by
 refine ⟨⟨fn, hf, hnm, by rw [hb]; rfl⟩, ?_⟩
 intro l k0 J hh G W n0 hn0 hk0 hG hhk hbr hgl hK h0
 refine callsIn_of_wp_marks hf hb trivial ?_
 have lP : ∀ m, (upd O 1 (some b0)) m ≠ none → m = 1 := fun m hm => by
  by_cases e : m = 1
  ·exact e
  rw [aF _ _ _ _ e] at hm; exact absurd rfl hm
 refine wpIn_mono (h l n0 J hK ⟨fun _ => .pointer (some ⟨k0, 0, none⟩), hh, W, fun i => G i ∨ i = k0⟩ hh (fun _ => .pointer (some ⟨k0, 0, none⟩)) _ W G ⟨?_, rfl, ?_, (⟨W, hh, fun i => i = k0, fun _ => .pointer (some ⟨k0, 0, none⟩), 2, false⟩ : Ctx), ?_, h0, hn0, fun i e => ?_, rfl, rfl, fun _ _ => rfl, ⟨rfl, rfl, .refl _, Nat.le_refl _, fun _ _ _ => rfl, .refl _, fun _ e => .inl e, fun _ e => .inl e⟩⟩) ?_
 ·simp [hN]; omega
 ·intro t
  show AVRep hh _ (([.p (.c (.v (.func (.yield l) #[] #[]))), .loc 1 0] : List AV).getD t .junk) _
  match t with
  | 0 =>
   show AVRep hh _ (.p (.c (.v (.func (.yield l) #[] #[])))) (Array.getD _ 0 undef)
   have e0 : (#[.func (.yield l) #[] #[], .pointer (some ⟨k0, 0, none⟩)] ++ Array.replicate (fn.ntmps - (#[.func (.yield l) #[] #[], .pointer (some ⟨k0, 0, none⟩)] : Array Value).size) undef : Array Value).getD 0 undef = .func (.yield l) #[] #[] := by
    rw [Array.getD_eq_getD_getElem?, Array.getElem?_append_left (by simp)]; rfl
   rw [e0]
   simp only [AVRep, PRep, DRep, true_and]; rfl
  | 1 =>
   show AVRep hh _ (.loc 1 0) (Array.getD _ 1 undef)
   have e0 : (#[.func (.yield l) #[] #[], .pointer (some ⟨k0, 0, none⟩)] ++ Array.replicate (fn.ntmps - (#[.func (.yield l) #[] #[], .pointer (some ⟨k0, 0, none⟩)] : Array Value).size) undef : Array Value).getD 1 undef = .pointer (some ⟨k0, 0, none⟩) := by
    rw [Array.getD_eq_getD_getElem?, Array.getElem?_append_left (by simp)]; rfl
   rw [e0]
   exact ⟨k0, rfl, rfl⟩
  | t + 2 => exact trivial
 ·show WOK _ hh _ (upd O 1 (some b0)) W
  refine ⟨fun m b e => ?_, fun m n k hm hn _ _ => (lP m hm).trans (lP n hn).symm, hK.hi _ _ _ _ h0, fun m k hm e => ?_, rfl, rfl, .refl _, Nat.le_refl _, fun _ _ _ => rfl, fun m k hm e => .inr ?_, Hle.refl _, fun k e => Or.inl e, hgl, fun _ _ => rfl, fun m b j e hj => ?_⟩
  ·have : m = 1 := lP m (by rw [e]; simp)
   subst this
   rw [upd_same] at e; cases e; exact hbr
  ·have : k = k0 := by simpa [aR] using e.symm
   rw [this]; exact hhk
  ·simpa [aR] using e.symm
  have : m = 1 := lP m (by rw [e]; simp)
  subst this
  rw [upd_same] at e; cases e; rw [hlk] at hj; cases hj
 ·have e : i = k0 := e
  subst e
  exact ⟨hk0, hG, hhk⟩
 rintro e a' w' ⟨he, kf, h', G', hk, hj, hd⟩
 have hr : ∀ W', (results fn a'.tmps).run P W' = .ok (.tuple #[]) W' := fun W' => by rw [eK, hres]; simp
 have fin : LeavesInM (Wd none) 0 P fn a'.tmps (fun e W' => (∃ v, e = .returned v) ∧ ∃ kf h' G', xs.length ≤ kf ∧ J kf h' G' W') a'.defers .returning w' := by
  rcases hd with hd | ⟨D, hd, d1, d2, d3, d4⟩
  ·rw [hd]
   exact ⟨_, hr _, ⟨_, rfl⟩, kf, h', G', hk, hj⟩
  rw [hd]
  refine ⟨by simp, .inl ⟨D, _, rfl, run_takeDeferred d1, ?_⟩⟩
  exact ⟨_, hr _, ⟨_, rfl⟩, kf, h', G', hk, hK.rest _ _ _ _ _ _ hj (fL (hK.hi _ _ _ _ hj) d2 d3 d4)⟩
 rcases he with rfl | rfl <;> exact fin
end
section
open Go Go.RowKit
theorem WOK.nilV {C : Ctx} {h : Hp} {r : Nat → Value} {own : Own} {w : World} (k : WOK C h r own w) {d sz : Nat} {e : TypeId} (hd : own d = none) (hp : C.np ≤ d) (hl : ∀ m b, own m = some b → d ∉ lnk b) :
  WOK C h (upd r d (.slice none 0 0)) (upd own d (some ⟨true, sz, e, []⟩)) w := by
 have live : ∀ n, n ≠ d → upd own d (some (⟨true, sz, e, []⟩ : Blk)) n = own n := fun n h1 => aF _ _ _ _ h1
 refine ⟨?_, ?_, k.hi, ?_, k.os, k.tape, k.output, k.size, k.old, ?_, k.hg, k.hn, k.gl, ?_, ?_⟩
 ·intro n b' hn
  by_cases h1 : n = d
  ·subst h1; rw [upd_same] at hn ⊢; cases hn
   exact ⟨none, 0, 0, rfl, by simp, Nat.le_refl _, by omega, .inl rfl⟩
  rw [live n h1] at hn
  rw [aF _ _ _ _ h1]; exact k.ow n b' hn
 ·intro n p i hn hpp e1 e2
  by_cases h1 : n = d
  ·subst h1; rw [upd_same] at e1; cases e1
  by_cases h2 : p = d
  ·subst h2; rw [upd_same] at e2; cases e2
  rw [aF _ _ _ _ h1] at e1; rw [aF _ _ _ _ h2] at e2
  rw [live n h1] at hn; rw [live p h2] at hpp
  exact k.inj n p i hn hpp e1 e2
 ·intro n i hn e1
  by_cases h1 : n = d
  ·subst h1; rw [upd_same] at e1; cases e1
  rw [aF _ _ _ _ h1] at e1; rw [live n h1] at hn; exact k.ho n i hn e1
 ·intro n i hn e1
  by_cases h1 : n = d
  ·subst h1; rw [upd_same] at e1; cases e1
  rw [aF _ _ _ _ h1] at e1; rw [live n h1] at hn; exact k.fo n i hn e1
 ·intro n hn
  rw [aF _ _ _ _ (by omega)]; exact k.kp n hn
 intro n b' j hn hj
 by_cases h1 : n = d
 ·subst h1; rw [upd_same] at hn; cases hn; cases hj
 rw [live n h1] at hn
 have hjd : j ≠ d := fun x => hl n b' hn (x ▸ hj)
 rw [aF _ _ _ _ h1, aF _ _ _ _ hjd]
 exact k.lk n b' j hn hj
theorem lZ {P : Program} {B : Bool} {N np : Nat} {Q : Exit → St → Prop} {s : St} {c : Code} (t d sz : Nat) (e : TypeId) (ht : s.regs t = .p (.c (.v (.slice none 0 0)))) (hp : Nat.ble np d = true)
  (h : AWp P B N np c Q ⟨upd (ci [d] s).regs t (.vec d), upd (ci [d] s).own d (some ⟨true, sz, e, []⟩)⟩) : AWp P B N np c Q s := by
 intro ro hB C hh r a w hn hc
 have hk := gm [d] hc
 have hown : (ci [d] s).own d = none := fO [d] s d (by simp)
 have hmen := iE [d] s d (by simp)
 have hx := hc.rg t
 rw [ht] at hx
 have hv : a.tmps.getD t undef = .slice none 0 0 := by
  simp only [AVRep, PRep, DRep] at hx
  exact hx.1
 refine h ro hB C hh (upd r d (.slice none 0 0)) a w hn ⟨hk.sz, hk.df, fun t' => ?_, hk.wk.nilV hown (by rw [hn.1]; exact bL0 hp) (fP [d] s d (by simp))⟩
 show AVRep hh _ (upd (ci [d] s).regs t (.vec d) t') _
 by_cases e1 : t' = t
 ·subst e1
  rw [upd_same]
  show _ = upd r d _ d
  rw [upd_same, hv]
 rw [aF _ _ _ _ e1]
 have hr := hk.rg t'
 have hmt := hmen t'
 exact AVRep.rebind _ _ (fun m hm => aF _ _ _ _ (fun x => hmt (x ▸ hm))) hr
section ops
variable {P : Program}
variable {dst : Option Nat} {ty : TypeId} {pos : String} {af : Array Edge} {gd : Option (Nat × Bool)} {d : Nat} {ρ : Operand → AV} {own : Own}
theorem ku {f : FuncId} {c : Operand} {xs : List DV} (hx : ρ c = .ip xs) : Eff P ⟨dst, .makeFunc (.func f) #[] #[c], ty, pos, af, gd⟩ d ρ own (.p (.c (.fn f [.ip xs]))) [] none [] :=
 bg fun C h r own' a w hrep hrd hw => by
  have e1 := hrep c (by simp [Op.operands])
  rw [hx] at e1
  refine ⟨.func (.func f) #[] #[a.eval c], ?_, ?_⟩
  ·simp [execOp, Instr.makeFunc]
  simp only [AVRep, PRep, DRep]
  refine ⟨#[a.eval c], rfl, rfl, ?_⟩
  refine DReps.of_get fun i dv hi => ?_
  cases i with
  | zero =>
   simp only [List.getElem?_cons_zero, Option.some.injEq] at hi
   subst hi
   exact ⟨a.eval c, rfl, by simp only [DRep]; exact e1⟩
  | succ i => simp at hi
theorem mD {h : Hp} {r : Nat → Value} : ∀ {cs : List (List DV)} {g : Nat → Option Value} {xs : List Value}, DReps h (cs.map .ip) g → xs.length = cs.length → (∀ i, g i = xs[i]?) → RepArgs h r (cs.map .ip) xs
 | [], _, [], _, _, _ => trivial
 | [], _, _ :: _, _, e, _ => by simp at e
 | _ :: _, _, [], _, e, _ => by simp at e
 | c :: cs, g, x :: xs, k, e, hg => by
  simp only [List.map_cons, DReps] at k
  obtain ⟨⟨y, e1, e2⟩, k⟩ := k
  rw [hg 0] at e1
  simp only [List.getElem?_cons_zero, Option.some.injEq] at e1
  subst e1
  refine ⟨?_, mD k (by simpa using e) (fun i => by rw [hg (i + 1)]; simp)⟩
  simp only [DRep] at e2
  exact e2
theorem Eff.callD {f : FuncId} {caps : List (List DV)} {c : Operand} {args : Array Operand} {tys : Array TypeId} {res : AV} (hx : ρ c = .p (.c (.fn f (caps.map .ip)))) (hc : aG P f (args.toList.map ρ ++ caps.map .ip) res) :
  Eff P ⟨dst, .call ⟨.value c, args, tys⟩, ty, pos, af, gd⟩ d ρ own res [] none [] := by
 intro C h r own' a w K Q hrep hrd hw _ hK
 have e1 := hrep c (by simp [Op.operands, Call.operands])
 rw [hx] at e1
 simp only [AVRep, PRep, DRep] at e1
 obtain ⟨lb, e2, e3, e4⟩ := e1
 unfold Oper.wp
 have hrun : (execOp a.eval ⟨dst, .call ⟨.value c, args, tys⟩, ty, pos, af, gd⟩).run P w = .ok (.enter f (args.map a.eval ++ lb)) w := by
  simp only [execOp, resolve, Sem.run_bind, e2, Deferred.ofValue, Sem.run_pure, Result.andThen_ok, invoke, Array.empty_append]
  exact dh hc.fn _ w
 rw [hrun]
 refine Calls.mono (hc.go h r w (args.map a.eval ++ lb) ?_ (hw.before fun m hm => absurd rfl hm)) ?_
 ·rw [Array.toList_append, Array.toList_map]
  refine RepArgs.app (dP _ fun x hx => hrep x (by simp only [Op.operands, Call.operands]; exact Array.mem_append.2 (.inr (Array.mem_toList_iff.1 hx)))) ?_
  exact mD e4 (by simpa using e3) (fun i => by simp)
 rintro e w' ⟨v, h', rfl, hv, hq⟩
 exact hK v h' r w' hq.hg (fun _ _ => rfl) hv (hw.after (fun m hm => absurd rfl hm) hq (fun m => by simp [ff, cJ]) (fun m b hm => absurd rfl hm))
end ops
def IC (z : Int) : DV := .v (.int .i64 z)
def IS (l : List Int) : DV := .sl l.length (l.map IC)
def IB (e : TypeId) (l : List Int) : Blk := ⟨true, 1, e, l.map IC⟩
def spR (c : Int) : List Int := if c = -4 then [1, 5] else if c = 8 then [1, 7] else [1, 3]
def chF (fo fs : FuncId) (c : Int) : DV := if c = -4 ∨ c = 8 ∨ c = -8 then .fn fs [.ip [IS (spR c)]] else .fn fo [.ip [IC c]]
def chC (fo fs : FuncId) (c : Int) : List DV := [IC c, chF fo fs c]
def CS (fo fs : FuncId) (l : List Int) : DV := .sl l.length (l.flatMap (chC fo fs))
def CB (fo fs : FuncId) (e : TypeId) (l : List Int) : Blk := ⟨true, 2, e, l.flatMap (chC fo fs)⟩
section
variable {fo fs : FuncId}
theorem mG (l : List Int) : (l.flatMap (chC fo fs)).length = l.length * 2 := by
 induction l with
 | nil => rfl
 | cons x l ih => rw [List.flatMap_cons, List.length_append, ih, List.length_cons]; show 2 + _ = _; omega
theorem sK : ∀ (l : List Int) (i : Nat) (h : i < l.length), (l.flatMap (chC fo fs)).drop (i * 2) = chC fo fs l[i] ++ (l.drop (i + 1)).flatMap (chC fo fs)
 | x :: l, 0, _ => by simp
 | x :: l, i + 1, h => by
  have ih := sK l i (by simpa using h)
  have e : (i + 1) * 2 = i * 2 + 2 := by omega
  rw [e, List.flatMap_cons]
  show (IC x :: chF fo fs x :: l.flatMap (chC fo fs)).drop (i * 2 + 2) = _
  rw [List.drop_succ_cons, List.drop_succ_cons, ih]
  simp
variable {P : Program} {tt : TT} (hT : dx P tt)
variable {dst : Option Nat} {ty : TypeId} {pos : String} {af : Array Edge} {gd : Option (Nat × Bool)} {d : Nat} {ρ : Operand → AV} {own : Own}
variable {T e : TypeId} {i j : TyI} {x y : Operand}
include hT
theorem gj {k : IntKind} {n : Int} {l : List Int} (ht : tt T = some i) (hs : i.sh = .sl e) (he : tt e = some j) (hj : j.size = 1) (hx : ρ x = .p (.c (IS l))) (hy : ρ y = .p (.c (.v (.int k n)))) (hn : 0 ≤ n ∧ n < l.length) :
  Eff P ⟨dst, .indexAddr T x y, ty, pos, af, gd⟩ d ρ own (.ip (IC (l.getD n.toNat 0) :: (l.drop (n.toNat + 1)).map IC)) [] none [] := by
 have hi : n.toNat < l.length := by omega
 have h := ce (dst := dst) (ty := ty) (pos := pos) (af := af) (gd := gd) (d := d) (own := own) hT ht hs he hx (l := l.length) (xs := l.map IC) (by rfl) hy hn (by
  intro h0
  have : (l.map IC).length = 0 := by rw [h0]; rfl
  rw [List.length_map] at this; omega)
 rw [hj, Nat.mul_one, List.drop_eq_getElem_cons (by rw [List.length_map]; exact hi), List.getElem_map, ← List.map_drop] at h
 have e1 : l.getD n.toNat 0 = l[n.toNat] := by simp [List.getD, hi]
 rw [e1]; exact h
theorem nW {k : IntKind} {n : Int} {l : List Int} (ht : tt T = some i) (hs : i.sh = .sl e) (he : tt e = some j) (hj : j.size = 2) (hx : ρ x = .p (.c (CS fo fs l))) (hy : ρ y = .p (.c (.v (.int k n)))) (hn : 0 ≤ n ∧ n < l.length) :
  Eff P ⟨dst, .indexAddr T x y, ty, pos, af, gd⟩ d ρ own (.ip (chC fo fs (l.getD n.toNat 0) ++ (l.drop (n.toNat + 1)).flatMap (chC fo fs))) [] none [] := by
 have hi : n.toNat < l.length := by omega
 have h := ce (dst := dst) (ty := ty) (pos := pos) (af := af) (gd := gd) (d := d) (own := own) hT ht hs he hx (l := l.length) (xs := l.flatMap (chC fo fs)) (by rfl) hy hn (by
  intro h0
  have := mG (fo := fo) (fs := fs) l
  rw [h0] at this
  simp at this
  omega)
 rw [hj, sK l n.toNat hi] at h
 have e1 : l.getD n.toNat 0 = l[n.toNat] := by simp [List.getD, hi]
 rw [e1]; exact h
theorem mn {m : Nat} {l : List Int} {z : Int} (ht : tt T = some i) (hs : i.sh = .sl e) (he : tt e = some j) (hj : j.size = 1) (hjb : Nat.ble j.bytes 32 = true) (hx : ρ x = .vec m) (hb : own m = some (IB e l)) (hy : ρ y = .p (.c (.sl 1 [IC z]))) (hfit : l.length ≤ 100000000) (hmd : m ≠ d) :
  Eff P ⟨dst, .call ⟨.builtin .append, #[x, y], #[T, T]⟩, ty, pos, af, gd⟩ d ρ own (.vec d) [(m, none)] (some (IB e (l ++ [z]))) [m] := by
 have hl : (IB e l).cs.length = l.length := by simp [IB]
 have h := iS (dst := dst) (ty := ty) (pos := pos) (af := af) (gd := gd) hT ht hs he hx hb rfl hj.symm rfl hy (by rfl) (by rw [hj]; rfl) (by rw [hj]; exact hjb) (by rw [hl, hj]; omega) (by rw [hj]; rfl) hmd
 rw [hj] at h
 unfold IB
 rw [List.map_append]
 exact h
theorem ed {m k : Nat} {l c : List Int} (ht : tt T = some i) (hs : i.sh = .sl e) (he : tt e = some j) (hj : j.size = 2) (hjb : Nat.ble j.bytes 64 = true) (hx : ρ x = .vec m) (hb : own m = some (CB fo fs e l)) (hy : ρ y = .p (.c (.sl k (c.flatMap (chC fo fs))))) (hk : k = c.length) (hfit : l.length + c.length ≤ 100000000) (hmd : m ≠ d) :
  Eff P ⟨dst, .call ⟨.builtin .append, #[x, y], #[T, T]⟩, ty, pos, af, gd⟩ d ρ own (.vec d) [(m, none)] (some (CB fo fs e (l ++ c))) [m] := by
 subst hk
 have hl : (CB fo fs e l).cs.length = l.length * 2 := mG l
 have h := iS (dst := dst) (ty := ty) (pos := pos) (af := af) (gd := gd) hT ht hs he hx hb rfl hj.symm rfl hy (by rfl) (by rw [hj]; exact mG c) (by rw [hj]; exact hjb) (by rw [hl, hj]; omega) (by rw [hj]; rfl) hmd
 rw [hj] at h
 unfold CB
 rw [List.flatMap_append]
 exact h
end
section
variable {P : Program} {B : Bool} {N np : Nat} {Q : Exit → St → Prop} {s : St} {c : Code}
theorem lJ {t m : Nat} {l : List Int} {e : TypeId} (ht : s.regs t = .vec m) (hb : s.own m = some (IB e l)) (h : AWp P B N np c Q ⟨upd s.regs t (.p (.c (IS l))), upd s.own m none⟩) : AWp P B N np c Q s := by
 refine fI (n := l.length) ht hb rfl (by simp [IB]) (by show 0 < 1; omega) ?_
 exact h
theorem dB {fo fs : FuncId} {t m : Nat} {l : List Int} {e : TypeId} (ht : s.regs t = .vec m) (hb : s.own m = some (CB fo fs e l)) (h : AWp P B N np c Q ⟨upd s.regs t (.p (.c (CS fo fs l))), upd s.own m none⟩) : AWp P B N np c Q s := by
 refine fI (n := l.length) ht hb rfl (mG l).symm (by show 0 < 2; omega) ?_
 exact h
end
end
section
open Go Go.RowKit
def rmv (p : Int) : Nat → Int → Int
 | 0, n => n
 | f + 1, n => if n % p = 0 then rmv p f (n / p) else n
def rmp (n p : Int) : Int := rmv p n.toNat n
theorem fS {n p : Int} (hn : 0 < n) (hp : 2 ≤ p) (h : n % p = 0) : 0 < n / p ∧ n / p < n := by
 have h1 := Int.mul_ediv_add_emod n p
 rw [h, Int.add_zero] at h1
 have h2 : 0 < n / p := by
  rcases Int.lt_or_le 0 (n / p) with g | g
  ·exact g
  have : p * (n / p) ≤ p * 0 := Int.mul_le_mul_of_nonneg_left g (by omega)
  omega
 refine ⟨h2, ?_⟩
 have h3 : 2 * (n / p) ≤ p * (n / p) := Int.mul_le_mul_of_nonneg_right hp (by omega)
 omega
theorem ph {p : Int} (hp : 2 ≤ p) : ∀ (f g : Nat) (n : Int), 0 < n → n.toNat ≤ f → n.toNat ≤ g → rmv p f n = rmv p g n
 | 0, _, n, h, h1, _ => by omega
 | f + 1, 0, n, h, _, h2 => by omega
 | f + 1, g + 1, n, h, h1, h2 => by
  unfold rmv
  split
  ·next e =>
   have hd := fS h hp e
   exact ph hp f g (n / p) hd.1 (by omega) (by omega)
  rfl
theorem gI {n p : Int} (hp : 2 ≤ p) (hn : 0 < n) (h : n % p = 0) : rmp (n / p) p = rmp n p := by
 have hd := fS hn hp h
 unfold rmp
 obtain ⟨k, hk⟩ : ∃ k, n.toNat = k + 1 := ⟨n.toNat - 1, by omega⟩
 rw [hk]
 show _ = (if n % p = 0 then rmv p k (n / p) else n)
 rw [if_pos h]
 exact ph hp _ _ _ hd.1 (Nat.le_refl _) (by omega)
theorem jo {n p : Int} (h : n % p ≠ 0) : rmp n p = n := by
 unfold rmp
 cases n.toNat with
 | zero => rfl
 | succ k => unfold rmv; rw [if_neg h]
theorem fp {p : Int} (hp : 2 ≤ p) : ∀ (f : Nat) (n : Int), n.toNat ≤ f → 0 < n → 0 < rmp n p ∧ rmp n p ≤ n ∧ rmp n p % p ≠ 0 ∧ ∃ k : Nat, n = rmp n p * p ^ k
 | 0, n, h, h0 => by omega
 | f + 1, n, h, h0 => by
  by_cases e : n % p = 0
  ·have hd := fS h0 hp e
   obtain ⟨h1, h2, h3, k, h4⟩ := fp hp f (n / p) (by omega) hd.1
   rw [gI hp h0 e] at h1 h2 h3 h4
   refine ⟨h1, by omega, h3, k + 1, ?_⟩
   have h5 := Int.mul_ediv_add_emod n p
   rw [e, Int.add_zero, h4] at h5
   rw [← h5, Int.pow_succ]
   grind
  rw [jo e]
  exact ⟨h0, Int.le_refl _, e, 0, by simp⟩
def gGo : Nat → Int → Int → List Int
 | 0, _, _ => []
 | f + 1, p, n => if p * p ≤ n then (if n % p = 0 then p :: gGo f (p + 2) (rmp n p) else gGo f (p + 2) n) else if 1 < n then [n] else []
def iZ (n : Int) : List Int := gGo 1200 3 n
def spC (d : Int) : List Int := if d % 4 ≠ 0 then [] else
 if (-d / 4) % 8 = 0 then [-4, 8] else if (-d / 4) % 8 = 1 ∨ (-d / 4) % 8 = 4 ∨ (-d / 4) % 8 = 5 then [-4] else if (-d / 4) % 8 = 2 then [-8] else if (-d / 4) % 8 = 6 then [8] else []
def chs (d : Int) : List Int := iZ (rmp (-d) 2) ++ spC d
theorem u9 {f : Nat} {p n : Int} (hn : n ≤ 1) (hp : 2 ≤ p) : gGo f p n = [] := by
 cases f with
 | zero => rfl
 | succ f =>
  unfold gGo
  have : ¬ p * p ≤ n := fun h => by
   have := Int.mul_le_mul hp hp (by omega) (by omega)
   omega
  rw [if_neg this, if_neg (by omega)]
structure OcI (n0 n p : Int) (out : List Int) : Prop where
 n1 : 1 ≤ n
 p3 : 3 ≤ p
 nb : n ≤ 4194304
 nn : n % 2 = 1
 po : p % 2 = 1
 pb : 1 < n → p ≤ 2051
 eq : ∃ f : Nat, (1 < n → (f : Int) = 1200 - (p - 3) / 2) ∧ out ++ gGo f p n = iZ n0
 len : out.length ≤ 1200 ∧ (1 < n → (out.length : Int) ≤ (p - 3) / 2)
theorem OcI.start {n : Int} (h1 : 1 ≤ n) (hb : n ≤ 4194304) (ho : n % 2 = 1) : OcI n n 3 [] :=
 ⟨h1, by omega, hb, ho, by omega, fun _ => by omega, ⟨1200, fun _ => by omega, rfl⟩, by simp, fun _ => by simp⟩
section
variable {n0 n p : Int} {out : List Int}
theorem OcI.fin (i : OcI n0 n p out) (h : ¬ n > 1) : out = iZ n0 := by
 obtain ⟨f, _, e⟩ := i.eq
 rw [u9 (by omega) (by have := i.p3; omega), List.append_nil] at e
 exact e
theorem OcI.sq (i : OcI n0 n p out) (hn : n > 1) (h : p * p ≤ n) : p ≤ 2048 := by
 have := i.nb
 rcases Int.lt_or_le 2048 p with g | g
 ·have := Int.mul_le_mul g g (by omega) (by omega)
  omega
 exact g
theorem OcI.f1 (i : OcI n0 n p out) (hn : n > 1) : ∃ f : Nat, ((f : Int) + 1 = 1200 - (p - 3) / 2) ∧ out ++ gGo (f + 1) p n = iZ n0 := by
 obtain ⟨f, h1, e⟩ := i.eq
 have h2 := h1 hn
 have hp := i.pb hn
 cases f with
 | zero => omega
 | succ f => exact ⟨f, by omega, e⟩
theorem OcI.next (i : OcI n0 n p out) (hn : n > 1) (h : ¬ p * p > n) (hd : n % p ≠ 0) : OcI n0 n (p + 2) out := by
 have h' : p * p ≤ n := by omega
 have hs := i.sq hn h'
 obtain ⟨f, h1, e⟩ := i.f1 hn
 unfold gGo at e
 rw [if_pos h', if_neg hd] at e
 have hl := i.len
 have p3 := i.p3
 have hl2 := hl.2 hn
 exact ⟨i.n1, by omega, i.nb, i.nn, by have := i.po; omega, fun _ => by omega, ⟨f, fun _ => by omega, e⟩, hl.1, fun _ => by omega⟩
theorem mM {n p : Int} (hp : 3 ≤ p) (hn : 0 < n) (ho : n % 2 = 1) : rmp n p % 2 = 1 := by
 obtain ⟨h1, h2, h3, k, h4⟩ := fp (p := p) (by omega) n.toNat n (Nat.le_refl _) hn
 rcases (show rmp n p % 2 = 0 ∨ rmp n p % 2 = 1 by omega) with g | g
 ·have : n % 2 = 0 := by rw [h4, Int.mul_emod, g]; simp
  omega
 exact g
theorem OcI.take (i : OcI n0 n p out) (hn : n > 1) (h : ¬ p * p > n) (hd : n % p = 0) : OcI n0 (rmp n p) (p + 2) (out ++ [p]) := by
 have h' : p * p ≤ n := by omega
 have hs := i.sq hn h'
 obtain ⟨f, h1, e⟩ := i.f1 hn
 unfold gGo at e
 rw [if_pos h', if_pos hd] at e
 have hl := i.len
 have p3 := i.p3
 have hl2 := hl.2 hn
 obtain ⟨r1, r2, r3, _⟩ := fp (p := p) (by omega) n.toNat n (Nat.le_refl _) (by omega)
 have nb := i.nb
 refine ⟨by omega, by omega, by omega, mM p3 (by omega) i.nn, by have := i.po; omega, fun _ => by omega, ⟨f, fun _ => by omega, ?_⟩, ?_, fun _ => ?_⟩
 ·rw [List.append_assoc]; exact e
 ·rw [List.length_append, List.length_singleton]; omega
 rw [List.length_append, List.length_singleton]; omega
theorem OcI.last (i : OcI n0 n p out) (hn : n > 1) (h : p * p > n) : OcI n0 1 (n + 2) (out ++ [n]) := by
 obtain ⟨f, h1, e⟩ := i.f1 hn
 unfold gGo at e
 rw [if_neg (by omega), if_pos hn] at e
 have hl := i.len
 have hl2 := hl.2 hn
 have hp := i.pb hn
 refine ⟨by omega, by omega, by omega, by omega, by have := i.nn; omega, fun x => by omega, ⟨0, fun x => by omega, ?_⟩, ?_, fun x => by omega⟩
 ·show out ++ [n] ++ [] = _
  rw [List.append_nil]; exact e
 rw [List.length_append, List.length_singleton]; omega
end
theorem wE {n : Int} (hn : 1 < n) : rmp n n = 1 := by
 have e : n % n = 0 := Int.emod_self
 have h := gI (p := n) (by omega) (by omega) e
 rw [Int.ediv_self (by omega)] at h
 rw [← h]
 exact jo (by rw [Int.emod_eq_of_lt (by omega) hn]; omega)
end
section
open Go Go.RowKit
def sgB (b : Bool) : Int := if b then 1 else -1
def ixV (l : List Int) (x : Int) : Int := if l.findIdx (· == x) < l.length then (l.findIdx (· == x) : Nat) else -1
def mZ (l : List Int) (x : Int) : Bool := decide (0 ≤ ixV l x)
theorem tE {l : List Int} {x : Int} {k : Nat} (h : k ≤ l.findIdx (· == x)) (hk : (k : Int) < l.length) (hne : x ≠ l.getD k 0) : k + 1 ≤ l.findIdx (· == x) := by
 rcases Nat.lt_or_eq_of_le h with g | g
 ·exact g
 exfalso
 have h1 : l.findIdx (· == x) < l.length := by omega
 have h2 := List.findIdx_getElem (w := h1)
 simp only [beq_iff_eq] at h2
 apply hne
 rw [← h2]
 simp [List.getD, ← g, show k < l.length by omega]
theorem DF {l : List Int} {x : Int} {k : Nat} (h : k ≤ l.findIdx (· == x)) (hk : (k : Int) < l.length) (he : x = l.getD k 0) : ixV l x = (k : Int) := by
 have hk' : k < l.length := by omega
 have hp : l[k] = x := by rw [he]; simp [List.getD, hk']
 have h1 : l.findIdx (· == x) ≤ k := by
  rcases Nat.lt_or_ge k (l.findIdx (· == x)) with g | g
  ·have := List.not_of_lt_findIdx g
   simp [hp] at this
  exact g
 have e : l.findIdx (· == x) = k := by omega
 unfold ixV
 rw [e, if_pos hk']
theorem DG {l : List Int} {x : Int} {k : Nat} (h : k ≤ l.findIdx (· == x)) (hk : ¬ (k : Int) < l.length) : ixV l x = -1 := by
 unfold ixV
 rw [if_neg (by omega)]
def cv (c n : Int) : Int := if c = -4 ∨ c = 8 ∨ c = -8 then sgB (mZ (spR c) (n % 8)) else kr n c
theorem yX {c n : Int} (h : c = -4 ∨ c = 8 ∨ c = -8) : sgB (mZ (spR c) (n % 8)) = cv c n := by unfold cv; rw [if_pos h]
theorem qu {c n : Int} (h : ¬ (c = -4 ∨ c = 8 ∨ c = -8)) : kr n c = cv c n := by unfold cv; rw [if_neg h]
theorem ET {b : Bool} (h : b = true) : (1 : Int) = sgB b := by rw [h]; rfl
theorem EU {b : Bool} (h : b = false) : (-1 : Int) = sgB b := by rw [h]; rfl
theorem AH {fo fs : FuncId} {p : Int} (h : 3 ≤ p) (ho : p % 2 = 1) : [IC p, DV.fn fo [.ip [IC p]]] = chC fo fs p := by
 unfold chC chF
 rw [if_neg (by omega)]
theorem GZ (a b : Int) : Int.gcd b (a.tmod b) = Int.gcd a b := by
 have h1 : (a.tmod b).natAbs = a.natAbs % b.natAbs := Int.natAbs_tmod a b
 unfold Int.gcd
 rw [h1, Nat.gcd_comm b.natAbs, ← Nat.gcd_rec, Nat.gcd_comm]
def ocM (n p : Int) : Nat := if 1 < n then (5000 - p).toNat else 0
def RI (n p q : Int) (out out' : List Int) : Prop := (q = n ∧ p * p > n ∧ out' = out ++ [n]) ∨ (q = p ∧ ¬ p * p > n ∧ n % p = 0 ∧ out' = out ++ [p]) ∨ (q = p ∧ ¬ p * p > n ∧ n % p ≠ 0 ∧ out' = out)
def QI (n p q : Int) : Prop := (q = n ∧ p * p > n) ∨ (q = p ∧ ¬ p * p > n)
section
variable {n0 n p q : Int} {out out' : List Int}
theorem OcI.q3 (i : OcI n0 n p out) (hn : n > 1) (h : QI n p q) : 3 ≤ q ∧ q % 2 = 1 ∧ q ≤ 4194304 := by
 have h1 := i.nn; have h2 := i.po; have h3 := i.p3; have h4 := i.nb; have h5 := i.pb hn
 rcases h with ⟨rfl, _⟩ | ⟨rfl, _⟩
 ·omega
 omega
theorem QI.yes (h : QI n p q) (hd : n % q = 0) : RI n p q out (out ++ [q]) := by
 rcases h with ⟨rfl, g⟩ | ⟨rfl, g⟩
 ·exact .inl ⟨rfl, g, rfl⟩
 exact .inr (.inl ⟨rfl, g, hd, rfl⟩)
theorem QI.no (h : QI n p q) (hn : n > 1) (hd : n % q ≠ 0) : RI n p q out out := by
 rcases h with ⟨rfl, g⟩ | ⟨rfl, g⟩
 ·exact absurd Int.emod_self hd
 exact .inr (.inr ⟨rfl, g, hd, rfl⟩)
theorem OcI.close (i : OcI n0 n p out) (hn : n > 1) (h : RI n p q out out') : OcI n0 (rmp n q) (q + 2) out' ∧ ocM (rmp n q) (q + 2) < ocM n p := by
 have hp := i.pb hn
 have e1 : ocM n p = (5000 - p).toNat := by unfold ocM; rw [if_pos (by omega)]
 rcases h with ⟨rfl, g, rfl⟩ | ⟨rfl, g, hd, rfl⟩ | ⟨rfl, g, hd, rfl⟩
 ·rw [wE (by omega)]
  refine ⟨i.last hn g, ?_⟩
  rw [e1]; unfold ocM; rw [if_neg (by omega)]; omega
 ·refine ⟨i.take hn g hd, ?_⟩
  rw [e1]; unfold ocM; split <;> omega
 rw [jo hd]
 refine ⟨i.next hn g hd, ?_⟩
 rw [e1]; unfold ocM; rw [if_pos (by omega)]; omega
end
theorem EN {d : Int} (h : d.tmod 4 ≠ 0) : spC d = [] := by
 unfold spC
 rw [if_pos]
 intro e
 exact h (by rw [Int.tmod_eq_emod]; split <;> omega)
theorem l6 {d : Int} (h : d.tmod 4 = 0) : ¬ d % 4 ≠ 0 := fun e => by
 have := Int.mul_tdiv_add_tmod d 4
 omega
theorem Gc {d : Int} (h : d.tmod 4 ≠ 0) : iZ (rmp (-d) 2) = chs d := by unfold chs; rw [EN h, List.append_nil]
theorem lp {d : Int} {l : List Int} (_h : d.tmod 4 = 0) (e : l = spC d) : iZ (rmp (-d) 2) ++ l = chs d := by unfold chs; rw [e]
section
variable {d : Int} (h : d.tmod 4 = 0)
include h
theorem ER (h1 : -d / 4 % 8 = 0) : [-4, 8] = spC d := by unfold spC; rw [if_neg (l6 h), if_pos h1]
theorem sR (h0 : ¬ -d / 4 % 8 = 0) (h1 : -d / 4 % 8 = 1 ∨ -d / 4 % 8 = 4 ∨ -d / 4 % 8 = 5) : [-4] = spC d := by unfold spC; rw [if_neg (l6 h), if_neg h0, if_pos h1]
theorem EQ (h1 : -d / 4 % 8 = 2) : [-8] = spC d := by unfold spC; rw [if_neg (l6 h), if_neg (by omega), if_neg (by omega), if_pos h1]
theorem EP (h1 : -d / 4 % 8 = 6) : [8] = spC d := by unfold spC; rw [if_neg (l6 h), if_neg (by omega), if_neg (by omega), if_neg (by omega), if_pos h1]
theorem EO (h0 : ¬ -d / 4 % 8 = 0) (h1 : ¬ -d / 4 % 8 = 1) (h4 : ¬ -d / 4 % 8 = 4) (h5 : ¬ -d / 4 % 8 = 5) (h2 : ¬ -d / 4 % 8 = 2) (h6 : ¬ -d / 4 % 8 = 6) : iZ (rmp (-d) 2) = chs d := by
 have : spC d = [] := by
  unfold spC; rw [if_neg (l6 h), if_neg h0, if_neg (by omega), if_neg h2, if_neg h6]
 unfold chs; rw [this, List.append_nil]
end
end
section
open Go Go.RowKit
theorem Ac {n p : Int} (hp : 3 ≤ p) (hn : 0 < n) (h : n % p = 0) : 3 * rmp n p ≤ n := by
 have hd := fS hn (by omega) h
 obtain ⟨h1, h2, _, _⟩ := fp (p := p) (by omega) (n / p).toNat (n / p) (Nat.le_refl _) hd.1
 rw [gI (by omega) hn h] at h1 h2
 have h3 := Int.mul_ediv_add_emod n p
 rw [h, Int.add_zero] at h3
 have h4 : 3 * (n / p) ≤ p * (n / p) := Int.mul_le_mul_of_nonneg_right hp (by omega)
 omega
theorem tD : ∀ (f : Nat) (p n : Int), 3 ≤ p → 1 ≤ n → n % 2 = 1 → (3 : Int) ^ (gGo f p n).length ≤ n
 | 0, p, n, _, hn, _ => by simpa [gGo] using hn
 | f + 1, p, n, hp, hn, ho => by
  unfold gGo
  split
  ·split
   ·next h =>
    obtain ⟨r1, _, _, _⟩ := fp (p := p) (by omega) n.toNat n (Nat.le_refl _) (by omega)
    have ih := tD f (p + 2) (rmp n p) (by omega) (by omega) (mM hp (by omega) ho)
    have h3 := Ac hp (by omega) h
    rw [List.length_cons, Int.pow_succ]
    omega
   exact tD f (p + 2) n (by omega) hn ho
  split
  ·show (3 : Int) ^ 1 ≤ n; omega
  show (3 : Int) ^ 0 ≤ n; omega
theorem GC {n : Int} (h : 0 < n) : 0 < rmp n 2 ∧ rmp n 2 ≤ n ∧ rmp n 2 % 2 = 1 := by
 obtain ⟨h1, h2, h3, _⟩ := fp (p := 2) (by omega) n.toNat n (Nat.le_refl _) h
 exact ⟨h1, h2, by omega⟩
theorem lq {d : Int} (h0 : d < 0) (h1 : -4194304 ≤ d) : (chs d).length ≤ 16 := by
 obtain ⟨r1, r2, r3⟩ := GC (n := -d) (by omega)
 have h3 := tD 1200 3 (rmp (-d) 2) (by omega) (by omega) r3
 have hl : (iZ (rmp (-d) 2)).length ≤ 14 := by
  have e : (iZ (rmp (-d) 2)) = gGo 1200 3 (rmp (-d) 2) := rfl
  rw [e]
  rcases Nat.lt_or_ge 14 (gGo 1200 3 (rmp (-d) 2)).length with g | g
  ·have h4 : (3 : Nat) ^ 15 ≤ 3 ^ (gGo 1200 3 (rmp (-d) 2)).length := Nat.pow_le_pow_right (by omega) g
   have h5 : ((3 ^ (gGo 1200 3 (rmp (-d) 2)).length : Nat) : Int) ≤ rmp (-d) 2 := by rw [Int.natCast_pow]; exact h3
   omega
  exact g
 have hs : (spC d).length ≤ 2 := by
  unfold spC
  split
  ·simp
  split
  ·simp
  split
  ·simp
  split
  ·simp
  split <;> simp
 unfold chs
 rw [List.length_append]; omega
def gnV (d : Int) : Int := if szE d = 0 then d else 0
theorem DK {d : Int} (h : 0 ≤ d ∨ d % 4 > 1) : AV.t [PE 0, PE 5] = .t [PE (gnV d), PE (szE d)] := by
 have e : szE d = 5 := by unfold szE; rw [if_pos h]
 unfold gnV; rw [e]; rfl
theorem DL {d : Int} (h : ¬ (0 ≤ d ∨ d % 4 > 1)) (h1 : -d > 4194304) : AV.t [PE 0, PE 2] = .t [PE (gnV d), PE (szE d)] := by
 have e : szE d = 2 := by unfold szE; rw [if_neg h, if_pos h1]
 unfold gnV; rw [e]; rfl
theorem GX {d : Int} (h : ¬ (0 ≤ d ∨ d % 4 > 1)) (h1 : ¬ -d > 4194304) : AV.t [PE d, PE 0] = .t [PE (gnV d), PE (szE d)] := by
 have e : szE d = 0 := by unfold szE; rw [if_neg h, if_neg h1]
 unfold gnV; rw [e]; rfl
theorem oH {d : Int} (h : szE d = 0) : gnV d = d ∧ d < 0 ∧ -4194304 ≤ d := by
 have := oz h
 exact ⟨by unfold gnV; rw [if_pos h], by omega, by omega⟩
def chE (d : Int) : List Int := if szE d = 0 then chs d else []
theorem yY {d : Int} (h : szE d = 0) : chE d = chs d := by unfold chE; rw [if_pos h]
theorem Gd {d : Int} (h : ¬ szE d = 0) : chE d = [] := by unfold chE; rw [if_neg h]
theorem nG {l : List Int} {k : Nat} (h : (k : Int) < l.length) : l.take k ++ [l.getD k 0] = l.take (k + 1) := by
 have hk : k < l.length := by omega
 rw [List.take_add_one, List.getElem?_eq_getElem hk]
 simp [List.getD, hk]
theorem oX {l : List Int} {k : Nat} (h : ¬ (k : Int) < l.length) : l.take k = l := List.take_of_length_le (by omega)
end
section
open Go Go.RowKit
def ggV : Nat → Int → Int → Int
 | 0, a, _ => a
 | f + 1, a, b => if b = 0 then a else ggV f b (a.tmod b)
def gg (a b : Int) : Int := ggV (b.natAbs + 1) a b
theorem si : ∀ (f : Nat) (a b : Int), b.natAbs < f → (ggV f a b).natAbs = Int.gcd a b
 | 0, _, _, h => by omega
 | f + 1, a, b, h => by
  unfold ggV
  split
  ·next e => subst e; simp
  next e =>
  have h1 : (a.tmod b).natAbs = a.natAbs % b.natAbs := Int.natAbs_tmod a b
  have h2 : a.natAbs % b.natAbs < b.natAbs := Nat.mod_lt _ (by omega)
  rw [si f b (a.tmod b) (by omega), GZ]
theorem qf : ∀ (f g : Nat) (a b : Int), b.natAbs < f → b.natAbs < g → ggV f a b = ggV g a b
 | 0, _, _, _, h, _ => by omega
 | _ + 1, 0, _, _, _, h => by omega
 | f + 1, g + 1, a, b, h, h' => by
  unfold ggV
  split
  ·rfl
  next e =>
  have h1 : (a.tmod b).natAbs = a.natAbs % b.natAbs := Int.natAbs_tmod a b
  have h2 : a.natAbs % b.natAbs < b.natAbs := Nat.mod_lt _ (by omega)
  exact qf f g b (a.tmod b) (by omega) (by omega)
theorem mx (a b : Int) : (gg a b).natAbs = Int.gcd a b := si _ a b (by omega)
theorem GY {a b : Int} (h : b = 0) : gg a b = a := by unfold gg ggV; rw [if_pos h]
theorem Be {a b : Int} (h : b ≠ 0) : gg b (a.tmod b) = gg a b := by
 have h1 : (a.tmod b).natAbs = a.natAbs % b.natAbs := Int.natAbs_tmod a b
 have h2 : a.natAbs % b.natAbs < b.natAbs := Nat.mod_lt _ (by omega)
 unfold gg
 rw [qf _ b.natAbs b (a.tmod b) (by omega) (by omega)]
 show _ = (if b = 0 then a else ggV b.natAbs b (a.tmod b))
 rw [if_neg h]
theorem gg_one {a b : Int} : Int.gcd a b = 1 ↔ gg a b = 1 ∨ gg a b = -1 := by have := mx a b; omega
theorem CE {a b : Int} (_ha : a7 a) (hb : a7 b) (h : b ≠ 0) : a7 (a.tmod b) ∧ (a.tmod b).natAbs < b.natAbs := by
 have h1 : (a.tmod b).natAbs = a.natAbs % b.natAbs := Int.natAbs_tmod a b
 have h2 : a.natAbs % b.natAbs < b.natAbs := Nat.mod_lt _ (by omega)
 unfold a7 at *
 omega
def gpE (f : Fm) : Int := if ck f.a f.b f.c ≠ 0 then ck f.a f.b f.c else if szE (dsc f.a f.b f.c) ≠ 0 then szE (dsc f.a f.b f.c) else if prim f.a f.b f.c = true then 0 else 80
theorem qd {f : Fm} (h : gpE f = 0) : Cl (dsc f.a f.b f.c) f ∧ szE (dsc f.a f.b f.c) = 0 := by
 unfold gpE at h
 split at h
 ·next g => exact absurd h g
 next g1 =>
 split at h
 ·next g => exact absurd h g
 next g2 =>
 split at h
 ·next g3 =>
  have e1 : ck f.a f.b f.c = 0 := Classical.not_not.1 g1
  have e2 : szE (dsc f.a f.b f.c) = 0 := Classical.not_not.1 g2
  refine ⟨CP ?_, e2⟩
  unfold rfE
  have := (oz e2)
  rw [if_neg (fun x => x e1), if_neg (by omega), if_pos g3]
 cases h
def gpV (f : Fm) : Int := if gpE f = 0 then dsc f.a f.b f.c else 0
theorem mE {d : Int} {f : Fm} (h : Cl d f) (_hd : -4194304 ≤ d) (hE : szE d = 0) : gpE f = 0 := by
 have h1 := vp h
 unfold rfE at h1
 unfold gpE
 rw [h.disc, hE]
 split at h1
 ·next g => exact absurd h1 g
 next g => rw [if_neg g, if_neg (by simp), if_pos h.prim]
theorem gb {a b c x y : Int} (ha : 0 ≤ a ∧ a ≤ 2000) (hb : -2000 ≤ b ∧ b ≤ 2000) (hc : 0 ≤ c ∧ c ≤ 1400000) (hx : 0 ≤ x ∧ x ≤ 1400001) (hy : 0 ≤ y ∧ y ≤ 1400001) :
  (0 ≤ a * x ∧ a * x ≤ 2800002000) ∧ (0 ≤ a * x * x ∧ a * x * x ≤ 3920005600002000) ∧ (-2800002000 ≤ b * x ∧ b * x ≤ 2800002000) ∧ (-3920005600002000 ≤ b * x * y ∧ b * x * y ≤ 3920005600002000) ∧ (0 ≤ c * y ∧ c * y ≤ 1960001400000) ∧ (0 ≤ c * y * y ∧ c * y * y ≤ 2744003920001400000) := by
 have m1 : ∀ {u v A B : Int}, 0 ≤ u → u ≤ A → 0 ≤ v → v ≤ B → 0 ≤ u * v ∧ u * v ≤ A * B := fun h1 h2 h3 h4 => ⟨Int.mul_nonneg h1 h3, Int.mul_le_mul h2 h4 h3 (by omega)⟩
 have a1 := m1 ha.1 ha.2 hx.1 hx.2
 have a2 := m1 a1.1 a1.2 hx.1 hx.2
 have c1 := m1 hc.1 hc.2 hy.1 hy.2
 have c2 := m1 c1.1 c1.2 hy.1 hy.2
 have nb : ∀ {u v A B : Int}, -A ≤ u → u ≤ A → 0 ≤ v → v ≤ B → 0 ≤ A → -(A * B) ≤ u * v ∧ u * v ≤ A * B := fun {u v A B} h1 h2 h3 h4 h5 => by
  rcases Int.lt_or_le u 0 with g | g
  ·have := m1 (show 0 ≤ -u by omega) (show -u ≤ A by omega) h3 h4
   rw [Int.neg_mul] at this
   have := Int.mul_nonneg h5 (show 0 ≤ B by omega)
   omega
  have := m1 g h2 h3 h4
  have := Int.mul_nonneg h5 (show 0 ≤ B by omega)
  omega
 have b1 := nb (u := b) (v := x) (A := 2000) (B := 1400001) (by omega) hb.2 hx.1 hx.2 (by omega)
 have b2 := nb (u := b * x) (v := y) (A := 2800002000) (B := 1400001) (by omega) (by omega) hy.1 hy.2 (by omega)
 refine ⟨by omega, by omega, by omega, by omega, by omega, by omega⟩
theorem pq {d : Int} {g : Fm} (hg : Cl d g) (e : g.rd = g) (hd : -4194304 ≤ d) : (0 < g.a ∧ g.a ≤ 2000) ∧ (-2000 ≤ g.b ∧ g.b ≤ 2000) ∧ 0 < g.c ∧ g.c ≤ 1400000 := by
 have hr : Rd g := e ▸ hg.rd_Rd
 have h1 := hr.a; have h2 := hr.b; have h3 := hr.c
 have hdd : g.b * g.b - 4 * g.a * g.c = d := hg.disc
 rw [Int.mul_assoc] at hdd
 have hb : g.b * g.b ≤ g.a * g.a := eD (by omega)
 have hac : g.a * g.a ≤ g.a * g.c := Int.mul_le_mul_of_nonneg_left h3 (by omega)
 have ha : g.a ≤ 2000 := by
  rcases Int.lt_or_le 2000 g.a with g0 | g0
  ·have := Int.mul_le_mul g0 g0 (by omega) (by omega); omega
  exact g0
 have hc1 : 1 * g.c ≤ g.a * g.c := Int.mul_le_mul_of_nonneg_right (by omega) (by omega)
 exact ⟨⟨h1, ha⟩, by omega, by omega, by omega⟩
def NoP (g : Fm) (d : Int) (y : Int) : Prop := ∀ u v : Int, 0 ≤ u → 0 ≤ v → u < y → v < y → Int.gcd (vl g.a g.b g.c u v) (2 * d) ≠ 1
def NoX (g : Fm) (d : Int) (y x : Int) : Prop := ∀ u : Int, 0 ≤ u → u < x → Int.gcd (vl g.a g.b g.c u y) (2 * d) ≠ 1 ∧ Int.gcd (vl g.a g.b g.c y u) (2 * d) ≠ 1
def RpN (g : Fm) (N : Int) : Prop := ∃ u v : Int, N = vl g.a g.b g.c u v
theorem NoP.start {g : Fm} {d : Int} (hd : d < 0) : NoP g d 1 := fun u v h1 h2 h3 h4 => by
 have e1 : u = 0 := by omega
 have e2 : v = 0 := by omega
 subst e1 e2
 have : vl g.a g.b g.c 0 0 = 0 := by unfold vl; simp
 rw [this]
 show Nat.gcd 0 (2 * d).natAbs ≠ 1
 rw [Nat.gcd_zero_left]; omega
theorem NoX.start {g : Fm} {d y : Int} : NoX g d y 0 := fun u h1 h2 => by omega
theorem NoX.next {g : Fm} {d y x : Int} (h : NoX g d y x) (h1 : Int.gcd (vl g.a g.b g.c x y) (2 * d) ≠ 1) (h2 : Int.gcd (vl g.a g.b g.c y x) (2 * d) ≠ 1) : NoX g d y (x + 1) := fun u g1 g2 => by
 rcases Int.lt_or_eq_of_le (show u ≤ x by omega) with q | q
 ·exact h u g1 q
 rw [q]; exact ⟨h1, h2⟩
theorem NoP.next {g : Fm} {d y : Int} (h : NoP g d y) (h1 : NoX g d y (y + 1)) : NoP g d (y + 1) := fun u v g1 g2 g3 g4 => by
 rcases Int.lt_or_eq_of_le (show u ≤ y by omega) with q | q
 ·rcases Int.lt_or_eq_of_le (show v ≤ y by omega) with q2 | q2
  ·exact h u v g1 g2 q q2
  rw [q2]; exact (h1 u g1 (by omega)).1
 rw [q]; exact (h1 v g2 (by omega)).2
theorem NoP.le {g : Fm} {d y : Int} (h : NoP g d y) {B : Int} (hx : ∃ x y : Int, 0 ≤ x ∧ x ≤ B ∧ 0 ≤ y ∧ y ≤ B ∧ Int.gcd (vl g.a g.b g.c x y) (2 * d) = 1) : y ≤ B := by
 obtain ⟨u, v, h1, h2, h3, h4, h5⟩ := hx
 rcases Int.lt_or_le B y with q | q
 ·exact absurd h5 (h u v h1 h3 (by omega) (by omega))
 exact q
end
section
open Go Go.RowKit
section ops
end ops
end
section
open Go Go.RowKit
end
section
open Go Go.RowKit
section scope
end scope
end
section
open Go Go.RowKit
end
section
open Go Go.RowKit
end
section
open Go Go.RowKit
end
section
open Go Go.RowKit
end
section
open Go Go.RowKit
theorem Dp (D i m : Nat) : Cl (-szz D) (mkF D i m) := by
 refine ⟨AQ D i m, ?_, AR D i m⟩
 have h := (kq D i).2.2.2.2.2.2
 unfold mkF
 split
 ·exact h
 rw [← lO (pik D i) (m := eJ m) (by rw [lV]; rfl)]; exact h
theorem EK (D : Nat) : -1000000000000000000 ≤ -szz D ∧ -szz D < 0 := by have := dN D; omega
end
end Go.AM
