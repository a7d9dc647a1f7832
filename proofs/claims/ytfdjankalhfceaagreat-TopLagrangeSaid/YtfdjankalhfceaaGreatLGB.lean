/- The table of types: how it is laid. -/
import Derived.Test.YtfdjankalhfceaaGreatLGA
import Derived.RangeFuncSeq
import Derived.RangeFuncRecord
import Derived.RangeFuncIn
section
namespace Go.AM
open Go Go.RowKit
def ZOK : List DV → List Value → Prop
  | [], [] => True
  | d :: ds, y :: ys => (∀ h, DRep h d y) ∧ ZOK ds ys
  | _, _ => False
theorem z_v (x : Value) (k : x.oneCell' = true) : ∀ h, DRep h (.v x) x := fun h => by simp only [DRep]; exact ⟨trivial, k⟩
theorem z_sl : ∀ h, DRep h (.sl 0 []) (.slice none 0 0) := fun h => by simp only [DRep]; exact ⟨none, 0, rfl, Nat.le_refl _, by omega, .inl trivial⟩
theorem z_zn : ∀ h, DRep h (zn 0) (.bool false) := fun h => by unfold zn; simp only [DRep]; exact ⟨rfl, rfl⟩
theorem z_zm : ∀ h, DRep h (zm 0) (.slice none 0 0) := z_sl
theorem ZOK.reps {h : Hp} : ∀ {ds : List DV} {ys : List Value}, ZOK ds ys → DReps h ds fun j => ys[j]?
  | [], [], _ => by simp only [DReps]
  | d :: ds, y :: ys, k => by
    simp only [DReps]
    exact ⟨⟨y, rfl, k.1 h⟩, by simpa using ZOK.reps (h := h) k.2⟩
  | [], _ :: _, k => k.elim
  | _ :: _, [], k => k.elim
theorem ZOK.len : ∀ {ds : List DV} {ys : List Value}, ZOK ds ys → ds.length = ys.length
  | [], [], _ => rfl
  | _ :: _, _ :: _, k => by simp [ZOK.len k.2]
  | [], _ :: _, k => k.elim
  | _ :: _, [], k => k.elim
theorem TyOK.mk' {P : Program} {T : TypeId} {i : TyI} {z : Value} {dd : TypeDesc} (h : (P.info? T).map (fun i => (i.zero, i.size, i.bytes)) = some (some z, i.size, i.bytes)) (hu : P.underlying T = some dd) (hs : ShOK dd i.sh) (hl : i.zero.length = i.size) (hz : ZOK i.zero z.cells.toList) : TyOK P T i := by
  refine ⟨?_, dd, hu, hs⟩
  cases e : P.info? T with
  | none => rw [e] at h; cases h
  | some ti =>
    rw [e] at h
    simp only [Option.map_some, Option.some.injEq, Prod.mk.injEq] at h
    refine ⟨ti, rfl, h.2.1, h.2.2, z, h.1, ?_, hl, fun hh => ?_⟩
    · have := hz.len
      simp only [Array.length_toList] at this
      omega
    · have := hz.reps (h := hh)
      simpa using this
def findT : List (Nat × TyI) → TT
  | [], _ => none
  | (k, i) :: l, T => bif Nat.beq T k then some i else findT l T
def AllT (P : Program) : List (Nat × TyI) → Prop
  | [] => True
  | (k, i) :: l => TyOK P k i ∧ AllT P l
theorem AllT.ok {P : Program} : ∀ {l : List (Nat × TyI)}, AllT P l → TTok P (findT l)
  | [], _, T, i, h => by cases h
  | (k, j) :: l, hl, T, i, h => by
    simp only [findT] at h
    cases e : Nat.beq T k with
    | true =>
      rw [e] at h
      simp only [cond_true, Option.some.injEq] at h
      subst h
      rw [Nat.eq_of_beq_eq_true e]; exact hl.1
    | false => rw [e] at h; exact AllT.ok hl.2 T i h
end Go.AM
end

section
/- Words of numbers; sizes; some steps more. -/
namespace Go.AM
open Go Go.RowKit
theorem RK.split {P : Program} {N np : Nat} {ops : Array Oper} {draw : Bool} {os : List Oper} {s : St} {acc : List Io} {K : St → Prop} {t : Nat} {b : Bool} (_h : s.regs t = .p (.c (.v (.bool b)))) (h1 : b = true → RK P N np ops draw os s acc K) (h2 : b = false → RK P N np ops draw os s acc K) : RK P N np ops draw os s acc K := by
  cases b with
  | true => exact h1 rfl
  | false => exact h2 rfl
theorem spl_one (v : DV) : ∀ (off : Nat) (cs : List DV), spl off [v] cs = cs.set off v
  | 0, [] => rfl
  | 0, _ :: cs => by cases cs <;> rfl
  | _ + 1, [] => rfl
  | n + 1, c :: cs => by simp [spl, spl_one v n cs]
section ops
variable {P : Program} {tt : TT} (hT : TTok P tt)
variable {dst : Option Nat} {ty : TypeId} {pos : String} {af : Array Edge} {gd : Option (Nat × Bool)} {d : Nat} {ρ : Operand → AV} {own : Own}
variable {T : TypeId} {i : TyI} {x y : Operand}
include hT in
theorem op_len_vec {e m n : Nat} {b : Blk} (ht : tt T = some i) (hs : i.sh = .sl e) (hx : ρ x = .vec m) (hb : own m = some b) (hbv : b.vec = true) (hsz : Nat.blt 0 b.sz = true) (hn : n * b.sz = b.cs.length) : Eff P ⟨dst, .call ⟨.builtin .len, #[x], #[T]⟩, ty, pos, af, gd⟩ d ρ own (.p (.c (.v (.int .i64 n)))) [] none [m] :=
  Eff.value fun C h r own' a w hrep hrd hw => by
    have e1 := hrep x (by simp [Op.operands, Call.operands])
    rw [hx] at e1
    have e1' : a.eval x = r m := e1
    have hold := hw.ow m b ((hrd m (by simp)).trans hb)
    rw [BlkRep.slE hbv (Nat.le_of_ble_eq_true hsz)] at hold
    obtain ⟨ad, l, cap, q1, q2, q3, q4, q5⟩ := hold
    have hl : l = n := Nat.eq_of_mul_eq_mul_right (Nat.le_of_ble_eq_true hsz) (q2.trans hn.symm)
    subst hl
    refine ⟨_, ?_, mk_int _ _ _ _⟩
    apply run_builtin
    simp only [List.map_toArray, List.map_cons, List.map_nil, e1', q1, builtin, Builtin.len_, Sem.run_bind]
    simp [run_underlying ((hT T i ht).slice hs), goInt]
include hT in
/-- one cell of a slice of the call's own is written (cells of one word) -/
theorem op_store_set {m off : Nat} {b : Blk} {dv : DV} {cs : List DV} (ht : tt T = some i) (hx : ρ x = .loc m off) (hy : ρ y = .p (.c dv)) (hb : own m = some b) (hl : i.size = 1) (hin : off < b.cs.length) (hcs : b.cs.set off dv = cs) :
    Eff P ⟨dst, .store T x y, ty, pos, af, gd⟩ d ρ own .junk [(m, some ⟨b.vec, usz b, b.e, cs⟩)] none [m] :=
  op_store_at hT ht hx hy hb (by rw [hl]; rfl) (by simp only [pvCells, List.length_cons, List.length_nil]; omega) (by rw [← hcs]; exact spl_one dv off b.cs)
end ops
def wv : List Nat → Nat
  | [] => 0
  | x :: xs => x + 4294967296 * wv xs
def okW (l : List Nat) : Prop := ∀ x ∈ l, x < 4294967296
theorem wlGo_wv : ∀ (f m : Nat), m ≤ f → wv (wlGo f m) = m
  | 0, m, h => by have : m = 0 := by omega
                  subst this; rfl
  | f + 1, m, h => by
    simp only [wlGo]
    by_cases h0 : m = 0
    · simp [h0, wv]
    · rw [if_neg h0]
      simp only [wv]
      rw [wlGo_wv f (m / 4294967296) (by omega)]
      omega
theorem wv_wl (m : Nat) : wv (wl m) = m := wlGo_wv m m (Nat.le_refl _)
theorem wlGo_ok : ∀ (f m : Nat), okW (wlGo f m)
  | 0, m => by intro x hx; simp [wlGo] at hx
  | f + 1, m => by
    intro x hx
    simp only [wlGo] at hx
    by_cases h0 : m = 0
    · simp [h0] at hx
    · rw [if_neg h0] at hx
      rcases List.mem_cons.1 hx with hx | hx
      · omega
      · exact wlGo_ok f _ x hx
theorem wl_ok (m : Nat) : okW (wl m) := wlGo_ok m m
theorem wlGo_succ : ∀ (f m : Nat), m ≤ f → wlGo (f + 1) m = wlGo f m
  | 0, m, h => by have : m = 0 := by omega
                  subst this; rfl
  | f + 1, m, h => by
    by_cases h0 : m = 0
    · simp [wlGo, h0]
    · have := wlGo_succ f (m / 4294967296) (by omega)
      have e1 : wlGo (f + 1 + 1) m = m % 4294967296 :: wlGo (f + 1) (m / 4294967296) := if_neg h0
      have e2 : wlGo (f + 1) m = m % 4294967296 :: wlGo f (m / 4294967296) := if_neg h0
      rw [e1, e2, this]
theorem wlGo_any : ∀ (f m : Nat), m ≤ f → wlGo f m = wl m := by
  intro f m h
  obtain ⟨k, rfl⟩ := Nat.le.dest h
  induction k with
  | zero => rfl
  | succ k ih => rw [← Nat.add_assoc, wlGo_succ _ _ (by omega)]; exact ih (by omega)
theorem wl_zero : wl 0 = [] := rfl
theorem wl_pos {m : Nat} (h : 0 < m) : wl m = m % 4294967296 :: wl (m / 4294967296) := by
  unfold wl
  obtain ⟨k, rfl⟩ : ∃ k, m = k + 1 := ⟨m - 1, by omega⟩
  rw [wlGo, if_neg (by omega)]
  congr 1
  exact wlGo_any _ _ (by omega)
theorem wl_cons {x r : Nat} (hx : x < 4294967296) (h : 0 < x + 4294967296 * r) : wl (x + 4294967296 * r) = x :: wl r := by
  rw [wl_pos h]
  rw [show (x + 4294967296 * r) % 4294967296 = x by omega, show (x + 4294967296 * r) / 4294967296 = r by omega]
theorem wv_append (l r : List Nat) : wv (l ++ r) = wv l + 4294967296 ^ l.length * wv r := by
  induction l with
  | nil => simp [wv]
  | cons x l ih =>
    simp only [List.cons_append, wv, ih, List.length_cons, Nat.pow_succ, Nat.mul_add]
    rw [show 4294967296 ^ l.length * 4294967296 * wv r = 4294967296 * (4294967296 ^ l.length * wv r) by
      rw [Nat.mul_comm (4294967296 ^ l.length) 4294967296, Nat.mul_assoc]]
    omega
theorem wv_lt {l : List Nat} (h : okW l) : wv l < 4294967296 ^ l.length := by
  induction l with
  | nil => simp [wv]
  | cons x l ih =>
    have h1 := h x (by simp)
    have h2 := ih fun y hy => h y (by simp [hy])
    simp only [wv, List.length_cons, Nat.pow_succ]
    have : 4294967296 * (wv l + 1) ≤ 4294967296 * 4294967296 ^ l.length := Nat.mul_le_mul_left _ h2
    rw [Nat.mul_comm (4294967296 ^ l.length)]
    omega
/-- the words of a list's value: the list without zeros at its end -/
theorem wl_wv_trim : ∀ (l : List Nat), okW l → ∃ k, l = wl (wv l) ++ List.replicate k 0
  | [], _ => ⟨0, rfl⟩
  | x :: l, h => by
    obtain ⟨k, hk⟩ := wl_wv_trim l fun y hy => h y (by simp [hy])
    have hx := h x (by simp)
    by_cases h0 : wv (x :: l) = 0
    · simp only [wv] at h0
      have hx0 : x = 0 := by omega
      have hl0 : wv l = 0 := by omega
      rw [hl0] at hk
      refine ⟨k + 1, ?_⟩
      simp only [wv, hx0, hl0, wl_zero, List.nil_append, Nat.mul_zero, Nat.add_zero] at hk ⊢
      rw [List.replicate_succ, ← hk]
    · refine ⟨k, ?_⟩
      simp only [wv] at h0 ⊢
      rw [wl_cons hx (by omega), List.cons_append, ← hk]
theorem wl_last {m : Nat} (h : wl m ≠ []) : (wl m).getLast h ≠ 0 := by
  intro h0
  have h1 := wl_wv_trim (wl m) (wl_ok m)
  -- if the last word were 0, the value of the list without it would be m too
  have h2 := List.dropLast_concat_getLast h
  rw [h0] at h2
  have h3 : wv (wl m).dropLast = m := by
    have := wv_wl m
    rw [← h2, wv_append] at this
    simpa [wv] using this
  have h4 : okW (wl m).dropLast := fun x hx => wl_ok m x (List.dropLast_subset _ hx)
  obtain ⟨k, hk⟩ := wl_wv_trim _ h4
  rw [h3] at hk
  have := congrArg List.length hk
  rw [List.length_dropLast, List.length_append] at this
  have hp : 0 < (wl m).length := List.length_pos_iff.2 h
  omega
theorem wl_wv {l : List Nat} (h : okW l) (hl : ∀ h : l ≠ [], l.getLast h ≠ 0) : wl (wv l) = l := by
  obtain ⟨k, hk⟩ := wl_wv_trim l h
  cases k with
  | zero => simpa using hk.symm
  | succ k =>
    exfalso
    have hne : l ≠ [] := by rw [hk]; simp
    apply hl hne
    have : l.getLast? = some 0 := by rw [hk, List.replicate_succ']; simp [← List.append_assoc]
    rw [List.getLast?_eq_some_getLast hne] at this
    exact Option.some.inj this
theorem wl_len_lt (m : Nat) : m < 4294967296 ^ (wl m).length := by
  have := wv_lt (wl_ok m)
  rwa [wv_wl] at this
theorem wl_len_le {m k : Nat} (h : m < 4294967296 ^ k) : (wl m).length ≤ k := by
  rcases Nat.lt_or_ge k (wl m).length with hlt | hge
  · exfalso
    have hne : wl m ≠ [] := by intro h0; rw [h0] at hlt; simp at hlt
    have h2 := List.dropLast_concat_getLast hne
    have h3 := wv_wl m
    rw [← h2, wv_append] at h3
    simp only [List.length_dropLast, wv, Nat.mul_zero, Nat.add_zero] at h3
    have h4 := wl_last hne
    have h5 : 4294967296 ^ k ≤ 4294967296 ^ ((wl m).length - 1) := Nat.pow_le_pow_right (by omega) (by omega)
    have h6 : 4294967296 ^ ((wl m).length - 1) ≤ 4294967296 ^ ((wl m).length - 1) * (wl m).getLast hne := Nat.le_mul_of_pos_right _ (by omega)
    omega
  · exact hge
theorem wl_len_mono {m n : Nat} (h : m ≤ n) : (wl m).length ≤ (wl n).length := wl_len_le (Nat.lt_of_le_of_lt h (wl_len_lt n))
/-- a slice of words -/
def W (ws : List Nat) : DV := .sl ws.length (ws.map w32)
/-- a size: the words of a number -/
def nt (m : Nat) : DV := W (wl m)
theorem zm_nt (z : Int) : zm z = nt z.natAbs := rfl
/-- a number of at most 2^n bits -/
def L (n : Nat) (z : Int) : Prop := z.natAbs < 2 ^ 2 ^ n
theorem L.mono {n m : Nat} {z : Int} (h : L n z) (k : n ≤ m) : L m z := Nat.lt_of_lt_of_le h (Nat.pow_le_pow_right (by omega) (Nat.pow_le_pow_right (by omega) k))
theorem two_pow_succ (n : Nat) : 2 ^ 2 ^ (n + 1) = 2 ^ 2 ^ n * 2 ^ 2 ^ n := by rw [← Nat.pow_add, Nat.pow_succ]; congr 1; omega
theorem two_le (n : Nat) : 2 ≤ 2 ^ 2 ^ n := by
  have h : 1 ≤ 2 ^ n := Nat.one_le_two_pow
  calc 2 = 2 ^ 1 := rfl
    _ ≤ 2 ^ 2 ^ n := Nat.pow_le_pow_right (by omega) h
theorem L.mul {n : Nat} {a b : Int} (h : L n a) (k : L n b) : L (n + 1) (a * b) := by
  unfold L at *
  rw [Int.natAbs_mul, two_pow_succ]
  exact Nat.mul_lt_mul'' h k
theorem L.add {n : Nat} {a b : Int} (h : L n a) (k : L n b) : L (n + 1) (a + b) := by
  unfold L at *
  have h1 := Int.natAbs_add_le a b
  have h2 := two_le n
  have h3 : 2 * 2 ^ 2 ^ n ≤ 2 ^ 2 ^ n * 2 ^ 2 ^ n := Nat.mul_le_mul_right _ h2
  rw [two_pow_succ]; omega
theorem L.neg {n : Nat} {a : Int} (h : L n a) : L n (-a) := by unfold L at *; rwa [Int.natAbs_neg]
theorem L.sub {n : Nat} {a b : Int} (h : L n a) (k : L n b) : L (n + 1) (a - b) := by rw [Int.sub_eq_add_neg]; exact h.add k.neg
theorem L.of_le {n : Nat} {a b : Int} (h : L n b) (k : a.natAbs ≤ b.natAbs) : L n a := Nat.lt_of_le_of_lt k h
theorem wl_len_L {n : Nat} {z : Int} (h : L (n + 5) z) : (wl z.natAbs).length ≤ 2 ^ n := by
  apply wl_len_le
  unfold L at h
  have e : 2 ^ 2 ^ (n + 5) = 4294967296 ^ 2 ^ n := by
    rw [show (4294967296 : Nat) = 2 ^ 32 by rfl, ← Nat.pow_mul]
    congr 1
    rw [Nat.pow_add]; omega
  rwa [e] at h
end Go.AM
end

section
/- Lists of words, as the loops see them. -/
namespace Go.AM
open Go Go.RowKit
/-- a slice that reads as data is of bounded length -/
theorem AWp_len {P : Program} {B : Bool} {N np : Nat} {Q : Exit → St → Prop} {s : St} {c : Code} {t n : Nat} {dv : DV} {xs : List DV} (ht : s.regs t = .p (.c dv)) (hd : asSl dv = some (n, xs)) (h : n ≤ 140737488355328 → AWp P B N np c Q s) : AWp P B N np c Q s := by
  intro ro hB C hh r a w hnp hc
  have e := hc.rg t
  rw [ht] at e
  have e2 := asSl_rep hd e
  simp only [DRep] at e2
  obtain ⟨_, _, _, _, h3, _⟩ := e2
  exact h h3 ro hB C hh r a w hnp hc
theorem W_ne {ws : List Nat} (h : 0 < ws.length) : ws.map w32 ≠ [] := by
  cases ws with
  | nil => simp at h
  | cons x l => simp
theorem wget {ws : List Nat} {n : Nat} (h : n < ws.length) : ((ws.map w32).drop (n * 1))[0]? = some (w32 (ws.getD n 0)) := by
  rw [List.getElem?_drop, Nat.mul_one, Nat.add_zero, List.getElem?_map, List.getElem?_eq_getElem h, List.getD_eq_getElem?_getD, List.getElem?_eq_getElem h]; rfl
theorem vget {ws : List Nat} {n : Nat} (h : n < ws.length) : (ws.map w32)[n * 1]? = some (w32 (ws.getD n 0)) := by
  rw [Nat.mul_one, List.getElem?_map, List.getElem?_eq_getElem h, List.getD_eq_getElem?_getD, List.getElem?_eq_getElem h]; rfl
theorem W_take {ws : List Nat} {k : Nat} (h : k ≤ ws.length) : DV.sl k ((ws.map w32).take (k * 1)) = W (ws.take k) := by
  unfold W
  rw [Nat.mul_one, ← List.map_take, List.length_take, Nat.min_eq_left h]
theorem okW.take {ws : List Nat} (h : okW ws) (k : Nat) : okW (ws.take k) := fun x hx => h x (List.mem_of_mem_take hx)
theorem okW.drop {ws : List Nat} (h : okW ws) (k : Nat) : okW (ws.drop k) := fun x hx => h x (List.mem_of_mem_drop hx)
theorem okW.getD {ws : List Nat} (h : okW ws) (k : Nat) : ws.getD k 0 < 4294967296 := by
  rw [List.getD_eq_getElem?_getD]
  cases e : ws[k]? with
  | none => simp
  | some x => exact h x (List.mem_of_getElem? e)
theorem take_succ_getD {ws : List Nat} {k : Nat} (h : k < ws.length) : ws.take (k + 1) = ws.take k ++ [ws.getD k 0] := by
  rw [List.take_succ_eq_append_getElem h, List.getD_eq_getElem?_getD, List.getElem?_eq_getElem h]; rfl
theorem drop_getD {ws : List Nat} {k : Nat} (h : k < ws.length) : ws.drop k = ws.getD k 0 :: ws.drop (k + 1) := by
  rw [List.drop_eq_getElem_cons h, List.getD_eq_getElem?_getD, List.getElem?_eq_getElem h]; rfl
theorem split_last {ws : List Nat} (h : 0 < ws.length) : ws = ws.take (ws.length - 1) ++ [ws.getD (ws.length - 1) 0] := by
  have := take_succ_getD (ws := ws) (k := ws.length - 1) (by omega)
  rw [← this, List.take_of_length_le (by omega)]
theorem wv_last0 {ws : List Nat} (h : 0 < ws.length) (h0 : ws.getD (ws.length - 1) 0 = 0) : wv (ws.take (ws.length - 1)) = wv ws := by
  conv => rhs; rw [split_last h]
  rw [wv_append, h0]; simp [wv]
theorem wl_of_last {ws : List Nat} (hok : okW ws) (h0 : ws.length = 0 ∨ ws.getD (ws.length - 1) 0 ≠ 0) : wl (wv ws) = ws := by
  apply wl_wv hok
  intro hne hl
  have hp : 0 < ws.length := List.length_pos_iff.2 hne
  rcases h0 with h0 | h0
  · omega
  · apply h0
    rw [List.getLast_eq_getElem] at hl
    rw [List.getD_eq_getElem?_getD, List.getElem?_eq_getElem (by omega)]; simpa using hl
theorem nt_of {ws : List Nat} (hok : okW ws) (h0 : ws.length = 0 ∨ ws.getD (ws.length - 1) 0 ≠ 0) : W ws = nt (wv ws) := by unfold nt; rw [wl_of_last hok h0]
theorem W_len (ws : List Nat) : (ws.map w32).length = ws.length * 1 := by simp
section ops
variable {P : Program} {tt : TT} (hT : TTok P tt)
variable {dst : Option Nat} {ty : TypeId} {pos : String} {af : Array Edge} {gd : Option (Nat × Bool)} {d : Nat} {ρ : Operand → AV} {own : Own}
variable {T : TypeId} {i : TyI} {x y : Operand}
include hT in
theorem op_slice_hW {e : Nat} {j : TyI} {k' : IntKind} {hi : Int} {ws : List Nat} {yh : Operand} (ht : tt T = some i) (hs : i.sh = .sl e) (he : tt e = some j) (hj : j.size = 1) (hx : ρ x = .p (.c (W ws))) (hh : ρ yh = .p (.c (.v (.int k' hi)))) (h0 : 0 ≤ hi ∧ hi ≤ ws.length) :
    Eff P ⟨dst, .slice T x none (some yh) none, ty, pos, af, gd⟩ d ρ own (.p (.c (W (ws.take hi.toNat)))) [] none [] := by
  have := op_slice_h (dst := dst) (ty := ty) (pos := pos) (af := af) (gd := gd) (d := d) (own := own) hT ht hs he hx rfl hh (by rw [hj]; exact W_len ws) h0 rfl
  rw [hj, W_take (by omega)] at this
  exact this
end ops
theorem bneF {a b : Int} (h : (a != b) = false) : a = b := by simpa [bne] using h
theorem bneT {a b : Int} (h : (a != b) = true) : a ≠ b := by simpa [bne] using h
theorem bF {a b : Int} (h : (a == b) = false) : a ≠ b := by simpa using h
theorem bT {a b : Int} (h : (a == b) = true) : a = b := by simpa using h
theorem notT {b : Bool} (h : (!b) = true) : b = false := by simpa using h
theorem notF {b : Bool} (h : (!b) = false) : b = true := by simpa using h
end Go.AM
end

section
/- Slices of words of the call's own; a cut. -/
namespace Go.AM
open Go Go.RowKit
def WB (e : TypeId) (ws : List Nat) : Blk := ⟨true, 1, e, ws.map w32⟩
theorem spl_map (xs : List Nat) : ∀ (ws : List Nat), xs.length ≤ ws.length → spl 0 (xs.map w32) (ws.map w32) = (xs ++ ws.drop xs.length).map w32 := by
  induction xs with
  | nil => intro ws _; cases ws <;> rfl
  | cons x xs ih =>
    intro ws h
    cases ws with
    | nil => simp at h
    | cons w ws =>
      simp only [List.map_cons, spl, List.length_cons, List.drop_succ_cons, List.cons_append]
      rw [ih ws (by simpa using h)]
section ops
variable {P : Program} {tt : TT} (hT : TTok P tt)
variable {dst : Option Nat} {ty : TypeId} {pos : String} {af : Array Edge} {gd : Option (Nat × Bool)} {d : Nat} {ρ : Operand → AV} {own : Own}
variable {T : TypeId} {i : TyI} {x y : Operand} {e : TypeId} {j : TyI}
include hT in
theorem op_makeW {k k' : IntKind} {l : Int} (ht : tt T = some i) (hs : i.sh = .sl e) (he : tt e = some j) (hz : j.zero = [w32 0]) (hj : j.size = 1) (hjb : Nat.ble j.bytes 4 = true) (hx : ρ x = .p (.c (.v (.int k l)))) (hy : ρ y = .p (.c (.v (.int k' l)))) (h0 : 0 ≤ l ∧ l ≤ 70368744177664) :
    Eff P ⟨dst, .makeSlice T x y, ty, pos, af, gd⟩ d ρ own (.vec d) [] (some (WB e (List.replicate l.toNat 0))) [] := by
  have hjb' := Nat.le_of_ble_eq_true hjb
  have hb : (j.bytes : Int) * l ≤ 281474976710656 := by
    have : (j.bytes : Int) * l ≤ 4 * l := Int.mul_le_mul_of_nonneg_right (by omega) h0.1
    omega
  have h := op_make (dst := dst) (ty := ty) (pos := pos) (af := af) (gd := gd) (d := d) (own := own) hT ht hs he hz hx hy h0.1 (by omega) hb
  rw [reps_one, hj] at h
  unfold WB
  rw [List.map_replicate]
  exact h
include hT in
theorem op_copyW {m : Nat} {ws xs : List Nat} {be : TypeId} (ht : tt T = some i) (hs : i.sh = .sl e) (he : tt e = some j) (hj : j.size = 1) (hx : ρ x = .vec m) (hb : own m = some (WB be ws)) (hy : ρ y = .p (.c (W xs))) (hfit : xs.length ≤ ws.length) :
    Eff P ⟨dst, .call ⟨.builtin .copy, #[x, y], #[T, T]⟩, ty, pos, af, gd⟩ d ρ own (.p (.c (.v (.int .i64 xs.length)))) [(m, some (WB be (xs ++ ws.drop xs.length)))] none [m] :=
  op_copy (b := WB be ws) hT ht hs he hx hb rfl hj.symm hy rfl (by rw [hj]; exact W_len xs) (by simpa [WB] using hfit) (spl_map xs ws hfit) (by rw [hj]; rfl)
include hT in
theorem op_index_vecW {m : Nat} {k : IntKind} {n : Int} {ws : List Nat} {be : TypeId} (ht : tt T = some i) (hs : i.sh = .sl e) (he : tt e = some j) (hj : j.size = 1) (hx : ρ x = .vec m) (hb : own m = some (WB be ws)) (hy : ρ y = .p (.c (.v (.int k n)))) (hn : 0 ≤ n ∧ n < ws.length) :
    Eff P ⟨dst, .indexAddr T x y, ty, pos, af, gd⟩ d ρ own (.loc m n.toNat) [] none [m] := by
  have h := op_index_vec (dst := dst) (ty := ty) (pos := pos) (af := af) (gd := gd) (d := d) hT ht hs he hx hb rfl hj.symm hy ⟨hn.1, by simp only [WB, List.length_map]; rw [hj]; omega⟩ (by rw [hj]; rfl)
  rw [hj, Nat.mul_one] at h
  exact h
include hT in
theorem op_loadW {m off : Nat} {ws : List Nat} {be : TypeId} (ht : tt T = some i) (hg : i.sh.agg = false) (hx : ρ x = .loc m off) (hb : own m = some (WB be ws)) (hn : off < ws.length) :
    Eff P ⟨dst, .load T x, ty, pos, af, gd⟩ d ρ own (.p (.c (w32 (ws.getD off 0)))) [] none [m] :=
  op_load_one hT ht hg hx hb (by
    have := vget hn
    rw [Nat.mul_one] at this
    exact this)
include hT in
theorem op_storeW {m off v : Nat} {ws : List Nat} {be : TypeId} (ht : tt T = some i) (hj : i.size = 1) (hx : ρ x = .loc m off) (hy : ρ y = .p (.c (w32 v))) (hb : own m = some (WB be ws)) (hn : off < ws.length) :
    Eff P ⟨dst, .store T x y, ty, pos, af, gd⟩ d ρ own .junk [(m, some (WB be (ws.set off v)))] none [m] := by
  have h := op_store_set (dst := dst) (ty := ty) (pos := pos) (af := af) (gd := gd) (d := d) (b := WB be ws) hT ht hx hy hb hj (by simpa [WB] using hn) rfl
  have e : (WB be ws).cs.set off (w32 v) = (ws.set off v).map w32 := by simp [WB, List.map_set]
  rw [e] at h
  exact h
include hT in
theorem op_len_vecW {m : Nat} {ws : List Nat} {be : TypeId} (ht : tt T = some i) (hs : i.sh = .sl e) (hx : ρ x = .vec m) (hb : own m = some (WB be ws)) : Eff P ⟨dst, .call ⟨.builtin .len, #[x], #[T]⟩, ty, pos, af, gd⟩ d ρ own (.p (.c (.v (.int .i64 (ws.length : Nat))))) [] none [m] :=
  op_len_vec hT ht hs hx hb rfl rfl (by simp [WB])
include hT in
theorem op_appendW {m : Nat} {ws xs : List Nat} (ht : tt T = some i) (hs : i.sh = .sl e) (he : tt e = some j) (hj : j.size = 1) (hjb : Nat.ble j.bytes 32 = true) (hx : ρ x = .vec m) (hb : own m = some (WB e ws)) (hy : ρ y = .p (.c (W xs))) (hfit : ws.length + xs.length ≤ 4398046511104) (hmd : m ≠ d) :
    Eff P ⟨dst, .call ⟨.builtin .append, #[x, y], #[T, T]⟩, ty, pos, af, gd⟩ d ρ own (.vec d) [(m, none)] (some (WB e (ws ++ xs))) [m] := by
  have hl : (WB e ws).cs.length = ws.length := by simp [WB]
  have h := op_append (dst := dst) (ty := ty) (pos := pos) (af := af) (gd := gd) hT ht hs he hx hb rfl hj.symm rfl hy (by rfl) (by rw [hj]; exact W_len xs) (by rw [hj]; exact hjb) (by rw [hl, hj]; omega) (by rw [hj]; rfl) hmd
  rw [hj] at h
  unfold WB
  rw [List.map_append]
  exact h
include hT in
/-- a literal slice of words, of the call's own -/
theorem op_bslice_vecW {n : Nat} {parts : Array (Nat × Operand)} {ws : List Nat} (ht : tt T = some i) (hs : i.sh = .sl e) (he : tt e = some j) (hj : j.size = 1) (hf : fillD ρ (fun k => some (k * j.size, j.size)) (reps n j.zero) parts.toList = some (ws.map w32)) (hn : Nat.ble (n * j.size) 16777216 = true) (hn2 : Nat.ble n 16777216 = true) :
    Eff P ⟨dst, .buildSlice T n parts, ty, pos, af, gd⟩ d ρ own (.vec d) [] (some (WB e ws)) [] := by
  have h := op_bslice_vec (dst := dst) (ty := ty) (pos := pos) (af := af) (gd := gd) (d := d) (own := own) hT ht hs he hf hn hn2
  rw [hj] at h
  exact h
end ops
section ghost
variable {P : Program} {B : Bool} {N np : Nat} {Q : Exit → St → Prop} {s : St} {c : Code}
theorem AWp_freezeW {t m : Nat} {ws : List Nat} {be : TypeId} (ht : s.regs t = .vec m) (hb : s.own m = some (WB be ws)) (h : AWp P B N np c Q ⟨upd s.regs t (.p (.c (W ws))), upd s.own m none⟩) : AWp P B N np c Q s := by
  refine AWp_freeze (n := ws.length) ht hb rfl (by simp [WB]) (by simp [WB]) ?_
  exact h
/-- ways meet again -/
theorem AWp_seq_cut {ι : Type} {x y : Code} (I : ι → St) (F : ι → Prop) (h : AWp P B N np x (AThen (fun s' => ∃ i, F i ∧ Le s' (I i)) Q) s) (k : ∀ i, F i → AWp P B N np y Q (I i)) : AWp P B N np (.seq x y) Q s := by
  refine AWp_seq (AWp.mono h ?_)
  intro e s' hq
  cases e with
  | normal =>
    obtain ⟨i, hF, hle⟩ := hq
    exact AWp_le hle (k i hF)
  | _ => exact hq
end ghost
theorem wv_take_succ (l : List Nat) (k : Nat) : wv (l.take (k + 1)) = wv (l.take k) + 4294967296 ^ k * l.getD k 0 := by
  by_cases h : k < l.length
  · rw [take_succ_getD h, wv_append, List.length_take, Nat.min_eq_left (by omega)]; simp [wv]
  · rw [List.take_of_length_le (by omega), List.take_of_length_le (by omega), List.getD_eq_getElem?_getD, List.getElem?_eq_none (by omega)]; simp
theorem getD_append_len {l r : List Nat} : (l ++ r).getD l.length 0 = r.getD 0 0 := by
  rw [List.getD_eq_getElem?_getD, List.getD_eq_getElem?_getD, List.getElem?_append_right (Nat.le_refl _), Nat.sub_self]
theorem set_mid {l : List Nat} {x v : Nat} {r : List Nat} : (l ++ x :: r).set l.length v = (l ++ [v]) ++ r := by
  induction l with
  | nil => rfl
  | cons a l ih => simp only [List.cons_append, List.length_cons, List.set_cons_succ, ih]
theorem wv_snoc (l : List Nat) (v : Nat) : wv (l ++ [v]) = wv l + 4294967296 ^ l.length * v := by rw [wv_append]; simp [wv]
theorem okW.snoc {l : List Nat} (h : okW l) {v : Nat} (hv : v < 4294967296) : okW (l ++ [v]) := by
  intro x hx
  rcases List.mem_append.1 hx with hx | hx
  · exact h x hx
  · simp at hx; omega
theorem okW.app {l r : List Nat} (h : okW l) (k : okW r) : okW (l ++ r) := by
  intro x hx
  rcases List.mem_append.1 hx with hx | hx
  · exact h x hx
  · exact k x hx
theorem okW.nil : okW [] := fun x hx => by simp at hx
theorem okW.rep (n : Nat) : okW (List.replicate n 0) := fun x hx => by
  have := List.eq_of_mem_replicate hx; omega
theorem wv_rep (n : Nat) : wv (List.replicate n 0) = 0 := by
  induction n with
  | zero => rfl
  | succ n ih => simp [List.replicate_succ, wv, ih]
end Go.AM
end

section
/- Bits of words. -/
namespace Go.AM
open Go Go.RowKit
def unsg : IntKind → Bool
  | .u8 | .u16 | .u32 | .u64 => true
  | _ => false
theorem wrap_uns {k : IntKind} (hk : unsg k = true) (n : Nat) (h : n < 2 ^ k.bits) : k.wrap (n : Int) = n := by
  have hs : k.signed = false := by cases k <;> first | rfl | cases hk
  unfold IntKind.wrap
  simp only [hs, Bool.false_and, Bool.false_eq_true, if_false]
  rw [Int.emod_eq_of_lt (by omega)]
  have : ((2 ^ k.bits : Nat) : Int) = 2 ^ k.bits := by simp
  omega
theorem ofInt_toNat {w n : Nat} (h : n < 2 ^ w) : (BitVec.ofInt w (n : Int)).toNat = n := by
  rw [BitVec.ofInt_natCast, BitVec.toNat_ofNat, Nat.mod_eq_of_lt h]
theorem bits_and {k : IntKind} (hk : unsg k = true) {m n : Nat} (hm : m < 2 ^ k.bits) (hn : n < 2 ^ k.bits) : bits .and k m n = ((m &&& n : Nat) : Int) := by
  unfold bits
  simp only [BitVec.toNat_and, ofInt_toNat hm, ofInt_toNat hn]
  exact wrap_uns hk _ (Nat.lt_of_le_of_lt Nat.and_le_left hm)
theorem bits_or {k : IntKind} (hk : unsg k = true) {m n : Nat} (hm : m < 2 ^ k.bits) (hn : n < 2 ^ k.bits) : bits .or k m n = ((m ||| n : Nat) : Int) := by
  unfold bits
  simp only [BitVec.toNat_or, ofInt_toNat hm, ofInt_toNat hn]
  exact wrap_uns hk _ (Nat.or_lt_two_pow hm hn)
theorem bits_xor {k : IntKind} (hk : unsg k = true) {m n : Nat} (hm : m < 2 ^ k.bits) (hn : n < 2 ^ k.bits) : bits .xor k m n = ((m ^^^ n : Nat) : Int) := by
  unfold bits
  simp only [BitVec.toNat_xor, ofInt_toNat hm, ofInt_toNat hn]
  exact wrap_uns hk _ (Nat.xor_lt_two_pow hm hn)
section ops
variable {P : Program}
variable {dst : Option Nat} {ty : TypeId} {pos : String} {af : Array Edge} {gd : Option (Nat × Bool)} {d : Nat} {ρ : Operand → AV} {own : Own}
variable {T yT : TypeId} {x y : Operand} {k k' : IntKind} {m n : Nat} {c : Int}
theorem op_andN (hx : ρ x = .p (.c (.v (.int k m)))) (hy : ρ y = .p (.c (.v (.int k n)))) (hk : unsg k = true) (hm : m < 2 ^ k.bits) (hn : n < 2 ^ k.bits) : Eff P ⟨dst, .binOp .and T x y yT, ty, pos, af, gd⟩ d ρ own (.p (.c (.v (.int k ((m &&& n : Nat) : Int))))) [] none [] :=
  op_and hx hy (bits_and hk hm hn)
theorem op_orN (hx : ρ x = .p (.c (.v (.int k m)))) (hy : ρ y = .p (.c (.v (.int k n)))) (hk : unsg k = true) (hm : m < 2 ^ k.bits) (hn : n < 2 ^ k.bits) : Eff P ⟨dst, .binOp .or T x y yT, ty, pos, af, gd⟩ d ρ own (.p (.c (.v (.int k ((m ||| n : Nat) : Int))))) [] none [] :=
  op_or hx hy (bits_or hk hm hn)
theorem op_xorN (hx : ρ x = .p (.c (.v (.int k m)))) (hy : ρ y = .p (.c (.v (.int k n)))) (hk : unsg k = true) (hm : m < 2 ^ k.bits) (hn : n < 2 ^ k.bits) : Eff P ⟨dst, .binOp .xor T x y yT, ty, pos, af, gd⟩ d ρ own (.p (.c (.v (.int k ((m ^^^ n : Nat) : Int))))) [] none [] :=
  binOp_run hx hy (fun w => by rw [binOp_xor, intBits_xor, bits_xor hk hm hn]; rfl) rfl
/-- ^x, of 32 bits -/
theorem op_comp32 (hx : ρ x = .p (.c (.v (.int .u32 m)))) (hm : m < 4294967296) : Eff P ⟨dst, .unOp .xor T x, ty, pos, af, gd⟩ d ρ own (.p (.c (.v (.int .u32 ((4294967295 - m : Nat) : Int))))) [] none [] :=
  Eff.value fun C h r own' a w hrep _ _ => by
    have h1 := hrep x (by simp [Op.operands])
    rw [hx] at h1
    refine ⟨_, ?_, mk_int _ _ _ _⟩
    have e : bits .xor .u32 (4294967295 : Nat) (m : Nat) = ((4294967295 - m : Nat) : Int) := by
      rw [bits_xor rfl (by decide) hm]
      congr 1
      have : (4294967295 : Nat) = 2 ^ 32 - 1 := rfl
      rw [this, Nat.xor_comm]
      have h2 : m < 2 ^ 32 := hm
      apply Nat.eq_of_testBit_eq
      intro i
      rw [Nat.testBit_xor, Nat.testBit_two_pow_sub_one, show 2 ^ 32 - 1 - m = 2 ^ 32 - (m + 1) by omega, Nat.testBit_two_pow_sub_succ h2]
      by_cases hi : i < 32
      · simp [hi]
      · have : m.testBit i = false := Nat.testBit_lt_two_pow (Nat.lt_of_lt_of_le h2 (Nat.pow_le_pow_right (by omega) (by omega)))
        simp [hi, this]
    have hmx : (if IntKind.u32.signed = true then (-1 : Int) else IntKind.u32.max) = ((4294967295 : Nat) : Int) := by decide
    simp only [execOp, rep_val h1, Op.unary, hmx, intBits_xor, e]
    rfl
theorem op_shrN {j : Nat} (hx : ρ x = .p (.c (.v (.int k m)))) (hy : ρ y = .p (.c (.v (.int k' j)))) (hj : j ≤ k.bits) : Eff P ⟨dst, .binOp .shr T x y yT, ty, pos, af, gd⟩ d ρ own (.p (.c (.v (.int k ((m / 2 ^ j : Nat) : Int))))) [] none [] :=
  op_shr hx hy (by omega) (by
    rw [Int.toNat_natCast, Nat.min_eq_left hj, Int.fdiv_eq_ediv_of_nonneg _ (Int.pow_nonneg (by omega))]
    simp)
theorem op_shlN {j : Nat} (hx : ρ x = .p (.c (.v (.int k m)))) (hy : ρ y = .p (.c (.v (.int k' j)))) (hj : j ≤ k.bits) (hk : unsg k = true) : Eff P ⟨dst, .binOp .shl T x y yT, ty, pos, af, gd⟩ d ρ own (.p (.c (.v (.int k ((m * 2 ^ j % 2 ^ k.bits : Nat) : Int))))) [] none [] :=
  op_shl hx hy (by omega) (by
    rw [Int.toNat_natCast, Nat.min_eq_left hj]
    have hs : k.signed = false := by cases k <;> first | rfl | cases hk
    unfold IntKind.wrap
    simp only [hs, Bool.false_and, Bool.false_eq_true, if_false]
    simp)
end ops
/-- the borrow of a difference of words, out of its highest bits -/
theorem borrow_bit (x y b : Nat) (hx : x < 4294967296) (hy : y < 4294967296) (hb : b < 2) :
    (((4294967295 - x) &&& y) ||| ((4294967295 - (x ^^^ y)) &&& ((x + 8589934592 - y - b) % 4294967296))) / 2 ^ 31 = if x < y + b then 1 else 0 := by
  have hd : ∀ m n : Nat, (m &&& n) / 2 ^ 31 = (m / 2 ^ 31) &&& (n / 2 ^ 31) := fun m n => by
    rw [← Nat.shiftRight_eq_div_pow, ← Nat.shiftRight_eq_div_pow, ← Nat.shiftRight_eq_div_pow, Nat.shiftRight_and_distrib]
  have ho : ∀ m n : Nat, (m ||| n) / 2 ^ 31 = (m / 2 ^ 31) ||| (n / 2 ^ 31) := fun m n => by
    rw [← Nat.shiftRight_eq_div_pow, ← Nat.shiftRight_eq_div_pow, ← Nat.shiftRight_eq_div_pow, Nat.shiftRight_or_distrib]
  have hxx : ∀ m n : Nat, (m ^^^ n) / 2 ^ 31 = (m / 2 ^ 31) ^^^ (n / 2 ^ 31) := fun m n => by
    rw [← Nat.shiftRight_eq_div_pow, ← Nat.shiftRight_eq_div_pow, ← Nat.shiftRight_eq_div_pow, Nat.shiftRight_xor_distrib]
  have hxy : (x ^^^ y) < 4294967296 := Nat.xor_lt_two_pow (n := 32) hx hy
  have hX := hxx x y
  rw [ho, hd, hd]
  generalize hq : x ^^^ y = q at *
  have e1 : x / 2 ^ 31 = 0 ∨ x / 2 ^ 31 = 1 := by omega
  have e2 : y / 2 ^ 31 = 0 ∨ y / 2 ^ 31 = 1 := by omega
  generalize hD : (x + 8589934592 - y - b) % 4294967296 = D
  have e3 : D / 2 ^ 31 = 0 ∨ D / 2 ^ 31 = 1 := by omega
  have e4 : (4294967295 - x) / 2 ^ 31 = 1 - x / 2 ^ 31 := by omega
  have e5 : (4294967295 - q) / 2 ^ 31 = 1 - q / 2 ^ 31 := by omega
  rw [e4, e5, hX]
  rcases e1 with e1 | e1 <;> rcases e2 with e2 | e2 <;> rcases e3 with e3 | e3 <;> rw [e1, e2, e3] <;> simp <;> omega
theorem lt32 {m : Nat} (h : m < 4294967296) : m < 2 ^ IntKind.u32.bits := h
theorem lt64 {m : Nat} (h : m < 18446744073709551616) : m < 2 ^ IntKind.u64.bits := h
def cmpI (a b : Int) : Int := if a < b then -1 else if b < a then 1 else 0
end Go.AM
end

section
/- Bit lengths; a table of bytes; double words. -/
namespace Go.AM
open Go Go.RowKit
def blen (n : Nat) : Nat := if n = 0 then 0 else n.log2 + 1
theorem blen_lt {n : Nat} : n < 2 ^ blen n := by
  unfold blen
  split
  · subst_vars; exact Nat.two_pow_pos 0
  · exact Nat.lt_log2_self
theorem blen_le {n k : Nat} (h : n < 2 ^ k) : blen n ≤ k := by
  unfold blen
  split
  · omega
  · rename_i h0
    have := (Nat.log2_lt h0).2 h
    omega
theorem blen_ge {n : Nat} (h : 0 < n) : 2 ^ (blen n - 1) ≤ n := by
  unfold blen
  rw [if_neg (by omega)]
  exact Nat.log2_self_le (by omega)
theorem blen_div {n k : Nat} (h : 2 ^ k ≤ n) : blen n = k + blen (n / 2 ^ k) := by
  have hp : 0 < 2 ^ k := Nat.two_pow_pos k
  have hq : 0 < n / 2 ^ k := Nat.div_pos h hp
  apply Nat.le_antisymm
  · apply blen_le
    rw [Nat.pow_add, Nat.mul_comm]
    exact (Nat.div_lt_iff_lt_mul hp).1 blen_lt
  · have h1 := blen_ge hq
    have h2 : 2 ^ (k + (blen (n / 2 ^ k) - 1)) ≤ n := by
      rw [Nat.pow_add]
      calc 2 ^ k * 2 ^ (blen (n / 2 ^ k) - 1) ≤ 2 ^ k * (n / 2 ^ k) := Nat.mul_le_mul_left _ h1
        _ ≤ n := Nat.mul_div_le n _
    have h3 : 2 ^ (k + (blen (n / 2 ^ k) - 1)) < 2 ^ blen n := Nat.lt_of_le_of_lt h2 blen_lt
    have h4 := (Nat.pow_lt_pow_iff_right (by omega : 1 < 2)).1 h3
    have h5 : 0 < blen (n / 2 ^ k) := by
      rcases Nat.eq_zero_or_pos (blen (n / 2 ^ k)) with h0 | h0
      · have := blen_lt (n := n / 2 ^ k); rw [h0] at this; omega
      · exact h0
    omega
theorem or_hilo {hi lo : Nat} (h1 : hi < 4294967296) (h2 : lo < 4294967296) : (hi * 2 ^ 32 % 2 ^ IntKind.u64.bits ||| lo) = hi * 4294967296 + lo := by
  have e : hi * 2 ^ 32 % 2 ^ IntKind.u64.bits = 2 ^ 32 * hi := by
    show hi * 2 ^ 32 % 2 ^ 64 = _
    omega
  rw [e, ← Nat.two_pow_add_eq_or_of_lt (i := 32) (by omega)]
  omega
section ops
variable {P : Program} {tt : TT} (hT : TTok P tt)
variable {dst : Option Nat} {ty : TypeId} {pos : String} {af : Array Edge} {gd : Option (Nat × Bool)} {d : Nat} {ρ : Operand → AV} {own : Own}
variable {T : TypeId} {i : TyI} {x y : Operand}
theorem TyOK.str (h : TyOK P T i) (hs : i.sh = .str) : P.underlying T = some .string := by
  obtain ⟨d, h1, h2⟩ := h.und
  rw [hs] at h2; rw [h1]
  cases d <;> simp only [ShOK] at h2 <;> simp_all
include hT in
theorem op_index_str {k : IntKind} {n : Int} {s : ByteArray} {b : UInt8} (ht : tt T = some i) (hs : i.sh = .str) (hx : ρ x = .p (.c (.v (.string s)))) (hy : ρ y = .p (.c (.v (.int k n)))) (hn : 0 ≤ n) (hb : s[n.toNat]? = some b) :
    Eff P ⟨dst, .index T x y, ty, pos, af, gd⟩ d ρ own (.p (.c (.v (.int .u8 b.toNat)))) [] none [] :=
  Eff.value fun C h r own' a w hrep hrd hw => by
    have e1 := hrep x (by simp [Op.operands])
    have e2 := hrep y (by simp [Op.operands])
    rw [hx] at e1; rw [hy] at e2
    refine ⟨_, ?_, mk_int _ _ _ _⟩
    simp only [execOp, rep_val e1, rep_val e2, Instr.index, asIntOf, Sem.run_bind, Sem.run_pure, Result.andThen_ok, run_underlying ((hT T i ht).str hs), hn, if_true, hb]
end ops
theorem bits_hilo {hi lo : Nat} (h1 : hi < 4294967296) (h2 : lo < 4294967296) : bits .or .u64 ((hi * 2 ^ 32 % 2 ^ IntKind.u64.bits : Nat) : Int) (lo : Int) = ((hi * 4294967296 + lo : Nat) : Int) := by
  have h3 : hi * 2 ^ 32 % 2 ^ IntKind.u64.bits < 2 ^ IntKind.u64.bits := Nat.mod_lt _ (Nat.two_pow_pos _)
  rw [bits_or (k := .u64) rfl h3 (lt64 (by omega)), or_hilo h1 h2]
theorem u64N {m : Nat} (h : m < 18446744073709551616) : IntKind.u64.wrap (m : Int) = m := wrap_uns rfl m (lt64 h)
theorem u32N {m : Nat} (h : m < 4294967296) : IntKind.u32.wrap (m : Int) = m := wrap_uns rfl m (lt32 h)
theorem Sub.int {k : IntKind} {m n : Int} (h : m = n) : Sub (.p (.c (.v (.int k m)))) (.p (.c (.v (.int k n)))) := Sub.of_eq (by rw [h])
theorem Sub.bool {m n : Bool} (h : m = n) : Sub (.p (.c (.v (.bool m)))) (.p (.c (.v (.bool n)))) := Sub.of_eq (by rw [h])
theorem blen8_le {m : Nat} (h : m < 256) : blen m ≤ 8 := blen_le (k := 8) h
end Go.AM
end

section
/- What the loops over words compute. -/
namespace Go.AM
open Go Go.RowKit
theorem wv_split (l : List Nat) (i : Nat) (h : i ≤ l.length) : wv l = wv (l.take i) + 4294967296 ^ i * wv (l.drop i) := by
  conv => lhs; rw [← List.take_append_drop i l]
  rw [wv_append, List.length_take, Nat.min_eq_left h]
theorem cmpI_ne {a b : Int} (h : cmpI a b ≠ 0) : (a < b ∧ cmpI a b = -1) ∨ (b < a ∧ cmpI a b = 1) := by
  unfold cmpI at *
  by_cases h1 : a < b
  · rw [if_pos h1] at *; exact .inl ⟨h1, rfl⟩
  · rw [if_neg h1] at *
    by_cases h2 : b < a
    · rw [if_pos h2] at *; exact .inr ⟨h2, rfl⟩
    · rw [if_neg h2] at h; exact absurd rfl h
theorem cmpI_eq {a b : Int} (h : cmpI a b = 0) : a = b := by
  unfold cmpI at h
  by_cases h1 : a < b
  · rw [if_pos h1] at h; cases h
  · rw [if_neg h1] at h
    by_cases h2 : b < a
    · rw [if_pos h2] at h; cases h
    · omega
theorem cmpI_lt {a b : Int} (h : a < b) : cmpI a b = -1 := if_pos h
theorem cmpI_gt {a b : Int} (h : b < a) : cmpI a b = 1 := by unfold cmpI; rw [if_neg (by omega), if_pos h]
theorem cmpI_self (a : Int) : cmpI a a = 0 := by unfold cmpI; rw [if_neg (by omega), if_neg (by omega)]
theorem lt_of_wl_len {m n : Nat} (h : (wl m).length < (wl n).length) : m < n := by
  rcases Nat.lt_or_ge m n with h1 | h1
  · exact h1
  · have := wl_len_mono h1; omega
theorem cmp_len {m n : Nat} (h : cmpI (wl m).length (wl n).length ≠ 0) : cmpI ((wl m).length : Nat) ((wl n).length : Nat) = cmpI m n := by
  rcases cmpI_ne h with ⟨h1, h2⟩ | ⟨h1, h2⟩
  · rw [h2, cmpI_lt]; have := lt_of_wl_len (m := m) (n := n) (by omega); omega
  · rw [h2, cmpI_gt]; have := lt_of_wl_len (m := n) (n := m) (by omega); omega
theorem cmp_word {a b : List Nat} (ha : okW a) (hb : okW b) (hl : a.length = b.length) {k : Nat} (hk : k < a.length) (he : a.drop (k + 1) = b.drop (k + 1)) (h : cmpI (a.getD k 0) (b.getD k 0) ≠ 0) :
    cmpI ((a.getD k 0 : Nat) : Int) ((b.getD k 0 : Nat) : Int) = cmpI (wv a) (wv b) := by
  have e1 := wv_split a k (by omega)
  have e2 := wv_split b k (by omega)
  rw [drop_getD hk, he] at e1
  rw [drop_getD (by omega)] at e2
  simp only [wv] at e1 e2
  have l1 := wv_lt (ha.take k)
  have l2 := wv_lt (hb.take k)
  rw [List.length_take, Nat.min_eq_left (by omega)] at l1 l2
  generalize a.getD k 0 = x at *
  generalize b.getD k 0 = y at *
  generalize wv (b.drop (k + 1)) = d at *
  generalize 4294967296 ^ k = p at *
  have key : ∀ (u v s t : Nat), s < p → t < p → u < v → s + p * (u + 4294967296 * d) < t + p * (v + 4294967296 * d) := by
    intro u v s t hs ht huv
    have : p * (u + 4294967296 * d + 1) ≤ p * (v + 4294967296 * d) := Nat.mul_le_mul_left _ (by omega)
    rw [Nat.mul_add, Nat.mul_one] at this
    omega
  rcases cmpI_ne h with ⟨h1, h2⟩ | ⟨h1, h2⟩
  · rw [h2, cmpI_lt]
    have := key x y _ _ l1 l2 (by omega)
    omega
  · rw [h2, cmpI_gt]
    have := key y x _ _ l2 l1 (by omega)
    omega
/-- a round of addition -/
theorem add_round {A b l _r : List Nat} {k c : Nat} (_hk : k < A.length) (hl : l.length = k) (hv : wv l + 4294967296 ^ k * c = wv (A.take k) + wv (b.take k)) (s : Nat) (hs : s = A.getD k 0 + b.getD k 0 + c) :
    wv (l ++ [s % 4294967296]) + 4294967296 ^ (k + 1) * (s / 4294967296) = wv (A.take (k + 1)) + wv (b.take (k + 1)) := by
  rw [wv_snoc, hl, wv_take_succ, wv_take_succ, Nat.pow_succ]
  have e : 4294967296 ^ k * (s % 4294967296) + 4294967296 ^ k * 4294967296 * (s / 4294967296) = 4294967296 ^ k * s := by
    rw [Nat.mul_assoc, ← Nat.mul_add]; congr 1; omega
  rw [hs] at e ⊢
  simp only [Nat.mul_add] at e ⊢
  omega
/-- a round of subtraction -/
theorem sub_round {A b l : List Nat} {k c : Nat} (hl : l.length = k) (hc : c < 2) (hA : okW A) (hb : okW b) (hv : wv l + wv (b.take k) = wv (A.take k) + 4294967296 ^ k * c) :
    wv (l ++ [(A.getD k 0 + 8589934592 - b.getD k 0 - c) % 4294967296]) + wv (b.take (k + 1)) = wv (A.take (k + 1)) + 4294967296 ^ (k + 1) * (if A.getD k 0 < b.getD k 0 + c then 1 else 0) := by
  rw [wv_snoc, hl, wv_take_succ, wv_take_succ, Nat.pow_succ]
  have h1 := hA.getD k
  have h2 := hb.getD k
  generalize A.getD k 0 = x at *
  generalize b.getD k 0 = y at *
  generalize 4294967296 ^ k = p at *
  by_cases h : x < y + c
  · rw [if_pos h]
    have e : (x + 8589934592 - y - c) % 4294967296 = x + 4294967296 - y - c := by omega
    rw [e]
    have e2 : p * (x + 4294967296 - y - c) + p * y + p * c = p * x + p * 4294967296 := by
      rw [← Nat.mul_add, ← Nat.mul_add, ← Nat.mul_add]; congr 1; omega
    omega
  · rw [if_neg h]
    have e : (x + 8589934592 - y - c) % 4294967296 = x - y - c := by omega
    rw [e]
    have e2 : p * (x - y - c) + p * y + p * c = p * x := by
      rw [← Nat.mul_add, ← Nat.mul_add]; congr 1; omega
    omega
end Go.AM
namespace Go.AM
open Go Go.RowKit
section ops
variable {P : Program} {tt : TT} (hT : TTok P tt)
variable {dst : Option Nat} {ty : TypeId} {pos : String} {af : Array Edge} {gd : Option (Nat × Bool)} {d : Nat} {ρ : Operand → AV} {own : Own}
variable {T : TypeId} {i : TyI} {x y : Operand} {e : TypeId} {j : TyI}
include hT in
theorem op_loadWv {m off v : Nat} {ws : List Nat} {be : TypeId} (ht : tt T = some i) (hg : i.sh.agg = false) (hx : ρ x = .loc m off) (hb : own m = some (WB be ws)) (hn : off < ws.length) (hv : ws.getD off 0 = v) :
    Eff P ⟨dst, .load T x, ty, pos, af, gd⟩ d ρ own (.p (.c (w32 v))) [] none [m] := by
  subst hv; exact op_loadW hT ht hg hx hb hn
include hT in
theorem op_storeWv {m off v : Nat} {ws ws' : List Nat} {be : TypeId} (ht : tt T = some i) (hj : i.size = 1) (hx : ρ x = .loc m off) (hy : ρ y = .p (.c (w32 v))) (hb : own m = some (WB be ws)) (hn : off < ws.length) (hs : ws.set off v = ws') :
    Eff P ⟨dst, .store T x y, ty, pos, af, gd⟩ d ρ own .junk [(m, some (WB be ws'))] none [m] := by
  subst hs; exact op_storeW hT ht hj hx hy hb hn
include hT in
theorem op_copyWv {m : Nat} {ws xs ws' : List Nat} {be : TypeId} (ht : tt T = some i) (hs : i.sh = .sl e) (he : tt e = some j) (hj : j.size = 1) (hx : ρ x = .vec m) (hb : own m = some (WB be ws)) (hy : ρ y = .p (.c (W xs))) (hfit : xs.length ≤ ws.length) (hw : xs ++ ws.drop xs.length = ws') :
    Eff P ⟨dst, .call ⟨.builtin .copy, #[x, y], #[T, T]⟩, ty, pos, af, gd⟩ d ρ own (.p (.c (.v (.int .i64 xs.length)))) [(m, some (WB be ws'))] none [m] := by
  subst hw; exact op_copyW hT ht hs he hj hx hb hy hfit
end ops
theorem rep_tail (n : Nat) : (List.replicate ((n : Int) + 1).toNat 0).drop n = [0] := by
  rw [show ((n : Int) + 1).toNat = n + 1 by omega, List.drop_replicate, show n + 1 - n = 1 by omega]; rfl
theorem rep_none (n : Nat) : (List.replicate ((n : Nat) : Int).toNat 0).drop n = [] := by
  rw [Int.toNat_natCast, List.drop_replicate, Nat.sub_self]; rfl
theorem getD_ge {l : List Nat} {k : Nat} (h : l.length ≤ k) : l.getD k 0 = 0 := by
  rw [List.getD_eq_getElem?_getD, List.getElem?_eq_none h]; rfl
theorem mid_get {l A : List Nat} (h : l.length < A.length) : (l ++ A.drop l.length).getD l.length 0 = A.getD l.length 0 := by
  rw [getD_append_len, drop_getD h]; rfl
theorem mid_set {l A : List Nat} {v : Nat} (h : l.length < A.length) : (l ++ A.drop l.length).set l.length v = (l ++ [v]) ++ A.drop (l ++ [v]).length := by
  rw [drop_getD h, set_mid]; simp
theorem mid_len {l A : List Nat} (h : l.length ≤ A.length) : (l ++ A.drop l.length).length = A.length := by simp; omega
end Go.AM
namespace Go.AM
open Go Go.RowKit
theorem add_final {a b l : List Nat} {c : Nat} (hl : l.length = (a ++ [0]).length) (hab : b.length ≤ a.length) (ha : okW a) (hb : okW b) (_ho : okW l)
    (hv : wv l + 4294967296 ^ l.length * c = wv ((a ++ [0]).take l.length) + wv (b.take l.length)) : wv (l ++ (a ++ [0]).drop l.length) = wv a + wv b := by
  rw [hl, List.drop_length, List.append_nil]
  rw [hl, List.take_length, List.take_of_length_le (by simp; omega), wv_snoc] at hv
  simp only [Nat.mul_zero, Nat.add_zero, List.length_append, List.length_cons, List.length_nil, Nat.zero_add, Nat.pow_succ] at hv
  have h1 := wv_lt ha
  have h2 := wv_lt hb
  have h3 : 4294967296 ^ b.length ≤ 4294967296 ^ a.length := Nat.pow_le_pow_right (by omega) hab
  generalize 4294967296 ^ a.length = p at *
  generalize 4294967296 ^ b.length = q at *
  rcases Nat.eq_zero_or_pos c with h0 | h0
  · rw [h0, Nat.mul_zero] at hv; omega
  · have h4 : p * 4294967296 ≤ p * 4294967296 * c := Nat.le_mul_of_pos_right _ h0
    generalize p * 4294967296 * c = t at *
    omega
end Go.AM
namespace Go.AM
open Go Go.RowKit
theorem sub_final {a b l : List Nat} {c : Nat} (hl : l.length = a.length) (hab : b.length ≤ a.length) (hle : wv b ≤ wv a) (ho : okW l)
    (hv : wv l + wv (b.take l.length) = wv (a.take l.length) + 4294967296 ^ l.length * c) : wv (l ++ a.drop l.length) = wv a - wv b := by
  rw [hl, List.drop_length, List.append_nil]
  rw [hl, List.take_length, List.take_of_length_le hab] at hv
  have h1 := wv_lt ho
  rw [hl] at h1
  generalize 4294967296 ^ a.length = p at *
  rcases Nat.eq_zero_or_pos c with h0 | h0
  · subst h0; omega
  · have : p * 1 ≤ p * c := Nat.mul_le_mul_left _ h0
    omega
end Go.AM
end

section
/- Words: products, shifts, division by a word. -/
namespace Go.AM
open Go Go.RowKit
theorem wv_set (o : List Nat) (j v : Nat) (h : j < o.length) : wv (o.set j v) + 4294967296 ^ j * o.getD j 0 = wv o + 4294967296 ^ j * v := by
  induction o generalizing j with
  | nil => simp at h
  | cons x o ih =>
    cases j with
    | zero => simp [wv, List.getD_eq_getElem?_getD]; omega
    | succ j =>
      have := ih j (by simpa using h)
      simp only [List.set_cons_succ, wv, List.getD_eq_getElem?_getD, List.getElem?_cons_succ, Nat.pow_succ] at this ⊢
      have e1 : 4294967296 ^ j * 4294967296 * o[j]?.getD 0 = 4294967296 * (4294967296 ^ j * o[j]?.getD 0) := by
        rw [Nat.mul_comm (4294967296 ^ j) 4294967296, Nat.mul_assoc]
      have e2 : 4294967296 ^ j * 4294967296 * v = 4294967296 * (4294967296 ^ j * v) := by
        rw [Nat.mul_comm (4294967296 ^ j) 4294967296, Nat.mul_assoc]
      rw [e1, e2]; omega
theorem okW.set {o : List Nat} (h : okW o) {j v : Nat} (hv : v < 4294967296) : okW (o.set j v) := by
  intro x hx
  rcases List.mem_or_eq_of_mem_set hx with hx | hx
  · exact h x hx
  · omega
theorem getD_set (o : List Nat) (j v k : Nat) (h : j < o.length) : (o.set j v).getD k 0 = if j = k then v else o.getD k 0 := by
  rw [List.getD_eq_getElem?_getD, List.getElem?_set]
  by_cases e : j = k
  · rw [if_pos e, if_pos e, if_pos h]; rfl
  · rw [if_neg e, if_neg e, List.getD_eq_getElem?_getD]
theorem getD_rep (n k : Nat) : (List.replicate n 0).getD k 0 = 0 := by
  rw [List.getD_eq_getElem?_getD, List.getElem?_replicate]
  split <;> rfl
/-- a round of the inner loop of a product -/
theorem mul_round {o b : List Nat} {x c S i k t : Nat} (hlen : i + k < o.length) (ht : t = x * b.getD k 0 + o.getD (i + k) 0 + c)
    (hv : wv o + 4294967296 ^ (i + k) * c = S + 4294967296 ^ i * (x * wv (b.take k))) :
    wv (o.set (i + k) (t % 4294967296)) + 4294967296 ^ (i + (k + 1)) * (t / 4294967296) = S + 4294967296 ^ i * (x * wv (b.take (k + 1))) := by
  have h1 := wv_set o (i + k) (t % 4294967296) hlen
  rw [wv_take_succ, Nat.mul_add, Nat.mul_add, ← Nat.add_assoc, ← Nat.add_assoc, ← hv, Nat.pow_succ]
  have e1 : 4294967296 ^ i * (x * (4294967296 ^ k * b.getD k 0)) = 4294967296 ^ (i + k) * (x * b.getD k 0) := by
    rw [Nat.pow_add, Nat.mul_assoc]; congr 1; exact Nat.mul_left_comm _ _ _
  rw [e1]
  generalize o.getD (i + k) 0 = y at *
  generalize x * b.getD k 0 = z at *
  generalize 4294967296 ^ (i + k) = p at *
  have e2 : p * 4294967296 * (t / 4294967296) + p * (t % 4294967296) = p * z + p * y + p * c := by
    rw [Nat.mul_assoc, ← Nat.mul_add, ← Nat.mul_add, ← Nat.mul_add]; congr 1; omega
  omega
theorem mul_outer {o o' a b : List Nat} {i c S : Nat} (hlen : i + b.length < o'.length) (hz : o'.getD (i + b.length) 0 = 0) (hS : S = wv o) (ho : wv o = wv (a.take i) * wv b)
    (hv : wv o' + 4294967296 ^ (i + b.length) * c = S + 4294967296 ^ i * (a.getD i 0 * wv (b.take b.length))) :
    wv (o'.set (i + b.length) c) = wv (a.take (i + 1)) * wv b := by
  have h1 := wv_set o' (i + b.length) c hlen
  rw [hz, Nat.mul_zero, Nat.add_zero] at h1
  rw [List.take_length] at hv
  rw [h1, hv, hS, ho, wv_take_succ, Nat.add_mul, Nat.mul_assoc]
theorem shl_round {o a : List Nat} {n i q s x : Nat} (hn : n = 32 * q + s) (hs : s < 32) (hlen : i + q + 1 < o.length) (hx : x = a.getD i 0) (hlo : o.getD (i + q) 0 < 2 ^ s) (hz : o.getD (i + q + 1) 0 = 0)
    (hv : wv o = wv (a.take i) * 2 ^ n) :
    wv ((o.set (i + q) (o.getD (i + q) 0 ||| x * 2 ^ s % 4294967296)).set (i + q + 1) (x * 2 ^ s / 4294967296)) = wv (a.take (i + 1)) * 2 ^ n := by
  have hB : (4294967296 : Nat) = 2 ^ s * 2 ^ (32 - s) := by rw [← Nat.pow_add, show s + (32 - s) = 32 by omega]
  have hor : o.getD (i + q) 0 ||| x * 2 ^ s % 4294967296 = o.getD (i + q) 0 + x * 2 ^ s % 4294967296 := by
    have e : x * 2 ^ s % 4294967296 = 2 ^ s * (x % 2 ^ (32 - s)) := by
      rw [hB, Nat.mul_comm x, Nat.mul_mod_mul_left]
    rw [e, Nat.or_comm, ← Nat.two_pow_add_eq_or_of_lt hlo, Nat.add_comm]
  rw [hor]
  have h1 := wv_set o (i + q) (o.getD (i + q) 0 + x * 2 ^ s % 4294967296) (by omega)
  have h2 := wv_set (o.set (i + q) (o.getD (i + q) 0 + x * 2 ^ s % 4294967296)) (i + q + 1) (x * 2 ^ s / 4294967296) (by simp; omega)
  rw [getD_set _ _ _ _ (by omega), if_neg (by omega), hz, Nat.mul_zero, Nat.add_zero] at h2
  rw [wv_take_succ, Nat.add_mul, ← hv, ← hx]
  rw [h2]
  have e3 : 4294967296 ^ i * x * 2 ^ n = 4294967296 ^ (i + q) * (x * 2 ^ s) := by
    have : (2 : Nat) ^ n = 4294967296 ^ q * 2 ^ s := by rw [hn, Nat.pow_add, Nat.pow_mul]
    rw [this, Nat.pow_add, Nat.mul_assoc, Nat.mul_assoc]; congr 1
    exact Nat.mul_left_comm _ _ _
  rw [e3, Nat.pow_succ]
  generalize x * 2 ^ s = t at *
  generalize o.getD (i + q) 0 = y at *
  generalize 4294967296 ^ (i + q) = p at *
  have e4 : p * 4294967296 * (t / 4294967296) + p * (t % 4294967296) = p * t := by
    rw [Nat.mul_assoc, ← Nat.mul_add]; congr 1; omega
  rw [Nat.mul_add] at h1
  omega
def shrD (a : List Nat) (n i : Nat) : Nat := (a.getD i 0 + 4294967296 * a.getD (i + 1) 0) / 2 ^ n % 4294967296
theorem shr_val (n : Nat) (hn : n < 32) : ∀ (a : List Nat), okW a → wv ((List.range a.length).map (shrD a n)) = wv a / 2 ^ n
  | [], _ => by simp [wv]
  | x :: l, h => by
    have ih := shr_val n hn l fun y hy => h y (by simp [hy])
    have hx := h x (by simp)
    have hp : 0 < 2 ^ n := Nat.two_pow_pos n
    have hB : (4294967296 : Nat) = 2 ^ n * 2 ^ (32 - n) := by rw [← Nat.pow_add, show n + (32 - n) = 32 by omega]
    have e0 : (List.range (x :: l).length).map (shrD (x :: l) n) = shrD (x :: l) n 0 :: (List.range l.length).map (shrD l n) := by
      rw [List.length_cons, List.range_succ_eq_map, List.map_cons, List.map_map]
      congr 1
    rw [e0]
    simp only [wv]
    rw [ih]
    -- the first word of the rest
    have hl : ∃ M, wv l = l.getD 0 0 + 4294967296 * M := by
      cases l with
      | nil => exact ⟨0, by simp [wv]⟩
      | cons y r => exact ⟨wv r, by simp [wv]⟩
    obtain ⟨M, hM⟩ := hl
    have hs : shrD (x :: l) n 0 = (x + 4294967296 * l.getD 0 0) / 2 ^ n % 4294967296 := by
      unfold shrD
      simp [List.getD_eq_getElem?_getD]
    rw [hs, hM]
    generalize l.getD 0 0 = y
    generalize hu : (2 : Nat) ^ n = u at *
    generalize hw : (2 : Nat) ^ (32 - n) = w at *
    have hwp : 0 < w := by rw [← hw]; exact Nat.two_pow_pos _
    have d1 : ∀ X Y : Nat, (X + 4294967296 * Y) / u = X / u + w * Y := fun X Y => by
      rw [hB, Nat.mul_assoc, Nat.add_mul_div_left _ _ hp]
    have hxu : x / u < w := by
      rw [Nat.div_lt_iff_lt_mul hp, Nat.mul_comm, ← hB]; exact hx
    rw [d1 x y, d1 x (y + 4294967296 * M), d1 y M]
    have hy : y = u * (y / u) + y % u := (Nat.div_add_mod y u).symm
    have hyu : y % u < u := Nat.mod_lt _ hp
    have e1 : w * y = 4294967296 * (y / u) + w * (y % u) := by
      conv => lhs; rw [hy]
      rw [Nat.mul_add, hB, Nat.mul_comm u w, Nat.mul_assoc]
    have e2 : w * (y % u) + w ≤ 4294967296 := by
      rw [hB, Nat.mul_comm u w, ← Nat.mul_succ]; exact Nat.mul_le_mul_left _ hyu
    have e3 : (x / u + w * y) % 4294967296 = x / u + w * (y % u) := by
      rw [e1, show x / u + (4294967296 * (y / u) + w * (y % u)) = x / u + w * (y % u) + 4294967296 * (y / u) by omega, Nat.add_mul_mod_self_left]
      exact Nat.mod_eq_of_lt (by omega)
    rw [e3, Nat.mul_add 4294967296, Nat.mul_add w y, e1]
    have e4 : w * (4294967296 * M) = 4294967296 * (w * M) := Nat.mul_left_comm _ _ _
    omega
theorem drop_set {o : List Nat} {j v : Nat} (h : j < o.length) : (o.set j v).drop j = v :: o.drop (j + 1) := by
  have h2 : j < (o.set j v).length := by simpa using h
  rw [List.drop_eq_getElem_cons h2, List.getElem_set_self, List.drop_set_of_lt (by omega)]
theorem divw_round {a o : List Nat} {k r d : Nat} (hk : k < a.length) (ho : o.length = a.length) (hv : wv (a.drop (k + 1)) = d * wv (o.drop (k + 1)) + r) (_hd : 0 < d) :
    wv (a.drop k) = d * wv ((o.set k ((r * 4294967296 + a.getD k 0) / d)).drop k) + (r * 4294967296 + a.getD k 0) % d := by
  rw [drop_getD hk, drop_set (by omega)]
  simp only [wv]
  rw [hv]
  have e := Nat.div_add_mod (r * 4294967296 + a.getD k 0) d
  generalize (r * 4294967296 + a.getD k 0) / d = q at *
  generalize (r * 4294967296 + a.getD k 0) % d = m at *
  rw [Nat.mul_add d q, Nat.mul_left_comm d 4294967296]
  omega
theorem shl_hi {x s : Nat} (hx : x < 4294967296) (hs : s < 32) : x * 2 ^ s / 4294967296 < 4294967296 := by
  rw [Nat.div_lt_iff_lt_mul (by omega)]
  have h1 : 2 ^ s ≤ 2 ^ 32 := Nat.pow_le_pow_right (by omega) (by omega)
  calc x * 2 ^ s ≤ x * 2 ^ 32 := Nat.mul_le_mul_left _ h1
    _ < 4294967296 * 4294967296 := by omega
theorem shl64 {x s : Nat} (hx : x < 4294967296) (hs : s < 32) : IntKind.u64.wrap ((x : Int) * 2 ^ (min ((s : Nat) : Int).toNat IntKind.u64.bits)) = ((x * 2 ^ s : Nat) : Int) := by
  have h1 : min ((s : Nat) : Int).toNat IntKind.u64.bits = s := by rw [Int.toNat_natCast]; exact Nat.min_eq_left (by show s ≤ 64; omega)
  rw [h1]
  have h2 := shl_hi hx hs
  have h3 : x * 2 ^ s < 18446744073709551616 := by
    rw [Nat.div_lt_iff_lt_mul (by omega)] at h2; omega
  have e : (x : Int) * 2 ^ s = ((x * 2 ^ s : Nat) : Int) := by simp
  rw [e, u64N h3]
theorem bits_lohi {hi lo : Nat} (h1 : lo < 4294967296) (h2 : hi < 4294967296) : bits .or .u64 (lo : Int) ((hi * 2 ^ 32 % 2 ^ IntKind.u64.bits : Nat) : Int) = ((lo + 4294967296 * hi : Nat) : Int) := by
  have h3 : hi * 2 ^ 32 % 2 ^ IntKind.u64.bits < 2 ^ IntKind.u64.bits := Nat.mod_lt _ (Nat.two_pow_pos _)
  rw [bits_or (k := .u64) rfl (lt64 (by omega)) h3, Nat.or_comm, or_hilo h2 h1]
  congr 1; omega
theorem shr_ok (a : List Nat) (k : Nat) : okW ((List.range a.length).map (shrD a k)) := by
  intro x hx
  obtain ⟨j, _, rfl⟩ := List.mem_map.1 hx
  exact Nat.mod_lt _ (by omega)
theorem shr_ext {a o : List Nat} {k : Nat} (hv : ∀ j, j < a.length → o.getD j 0 = shrD a k j) (hl : o.length = a.length) : o = (List.range a.length).map (shrD a k) := by
  apply List.ext_getElem
  · simp [hl]
  · intro j h1 h2
    have := hv j (by omega)
    rw [List.getD_eq_getElem?_getD, List.getElem?_eq_getElem h1] at this
    simpa using this
section ops
variable {P : Program} {tt : TT} (hT : TTok P tt)
variable {dst : Option Nat} {ty : TypeId} {pos : String} {af : Array Edge} {gd : Option (Nat × Bool)} {d : Nat} {ρ : Operand → AV} {own : Own}
variable {T : TypeId} {i : TyI} {x y : Operand} {e : TypeId} {j : TyI}
include hT in
theorem op_index_WN {k : IntKind} {n : Nat} {ws : List Nat} (ht : tt T = some i) (hs : i.sh = .sl e) (he : tt e = some j) (hj : j.size = 1) (hx : ρ x = .p (.c (W ws))) (hy : ρ y = .p (.c (.v (.int k (n : Nat))))) (hn : n < ws.length) :
    Eff P ⟨dst, .indexAddr T x y, ty, pos, af, gd⟩ d ρ own (.ip ((ws.map w32).drop (n * 1))) [] none [] := by
  have h := op_index_sl (dst := dst) (ty := ty) (pos := pos) (af := af) (gd := gd) (d := d) (own := own) hT ht hs he hx rfl hy (by omega) (W_ne (by omega))
  rw [hj, Int.toNat_natCast] at h
  exact h
include hT in
theorem op_index_vecWN {m : Nat} {k : IntKind} {n : Nat} {ws : List Nat} {be : TypeId} (ht : tt T = some i) (hs : i.sh = .sl e) (he : tt e = some j) (hj : j.size = 1) (hx : ρ x = .vec m) (hb : own m = some (WB be ws)) (hy : ρ y = .p (.c (.v (.int k (n : Nat))))) (hn : n < ws.length) :
    Eff P ⟨dst, .indexAddr T x y, ty, pos, af, gd⟩ d ρ own (.loc m n) [] none [m] := by
  have h := op_index_vecW (dst := dst) (ty := ty) (pos := pos) (af := af) (gd := gd) (d := d) hT ht hs he hj hx hb hy (by omega)
  rw [Int.toNat_natCast] at h
  exact h
end ops
def sg (neg : Bool) (m : Nat) : Int := if neg then -(m : Int) else m

/-! short names for the steps -/
section zip
variable {P : Program} {N np : Nat} {ops : Array Oper} {draw : Bool} {os : List Oper} {s : St} {acc : List Io} {K : St → Prop}
variable {op : Op} {ty : TypeId} {pos : String} {af : Array Edge} {t : Nat}
theorem RK.V {v : AV} {rd : List Nat} (he : Eff P ⟨some t, op, ty, pos, af, none⟩ t (ev s.regs) s.own v [] none rd)
    (hr : RK P N np ops draw os ⟨upd s.regs t v, s.own⟩ (acc ++ [⟨men v ++ [], [], rd, false⟩]) K) : RK P N np ops draw (⟨some t, op, ty, pos, af, none⟩ :: os) s acc K := RK.val guard_none he hr
theorem RK.M {x : Operand} {v : DV} (hx : ev s.regs x = AV.p (.c v))
    (hr : RK P N np ops draw os ⟨upd s.regs t (.p (.c v)), s.own⟩ (acc ++ [⟨men (.p (.c v)) ++ [], [], [], false⟩]) K) : RK P N np ops draw (⟨some t, .move x, ty, pos, af, none⟩ :: os) s acc K := RK.val guard_none (op_move hx) hr
theorem RK.As {x : Operand} {v : DV} (hx : ev s.regs x = AV.p (.c v))
    (hr : RK P N np ops draw os ⟨upd s.regs t (.p (.c v)), s.own⟩ (acc ++ [⟨men (.p (.c v)) ++ [], [], [], false⟩]) K) : RK P N np ops draw (⟨some t, .assign x, ty, pos, af, none⟩ :: os) s acc K := RK.val guard_none (op_assign hx) hr
theorem RK.D (hK : K s) (h : (chk0 np (allocs ops.toList) (recs ops ops.toList acc) && (!draw || chk1 ops.toList (recs ops ops.toList acc)) && chkD N ops.toList) = true := by kernel_rfl) :
    RK P N np ops draw [] s acc K := RK.done h hK
section
variable {tt : TT} (hT : TTok P tt) {T : TypeId} {i : TyI} {x y : Operand} {m off : Nat} {b : Blk} {rest : List DV}
include hT
theorem RK.G2 {c1 c2 : DV} (ht : tt T = some i) (hg : i.sh.agg = true) (hx : ev s.regs x = .loc m off) (hb : s.own m = some b) (hcs : b.cs.drop off = [c1, c2] ++ rest) (hl : [c1, c2].length = i.size)
    (hr : RK P N np ops draw os ⟨upd s.regs t (.p (.a [c1, c2])), s.own⟩ (acc ++ [⟨men (.p (.a [c1, c2])) ++ [], [], [m], false⟩]) K) : RK P N np ops draw (⟨some t, .load T x, ty, pos, af, none⟩ :: os) s acc K :=
  RK.val guard_none (op_load_agg hT ht hg hx hb hcs hl) hr
theorem RK.G6 {c1 c2 c3 c4 c5 c6 : DV} (ht : tt T = some i) (hg : i.sh.agg = true) (hx : ev s.regs x = .loc m off) (hb : s.own m = some b) (hcs : b.cs.drop off = [c1, c2, c3, c4, c5, c6] ++ rest) (hl : [c1, c2, c3, c4, c5, c6].length = i.size)
    (hr : RK P N np ops draw os ⟨upd s.regs t (.p (.a [c1, c2, c3, c4, c5, c6])), s.own⟩ (acc ++ [⟨men (.p (.a [c1, c2, c3, c4, c5, c6])) ++ [], [], [m], false⟩]) K) : RK P N np ops draw (⟨some t, .load T x, ty, pos, af, none⟩ :: os) s acc K :=
  RK.val guard_none (op_load_agg hT ht hg hx hb hcs hl) hr
theorem RK.S {v : PV} {cs : List DV} (ht : tt T = some i) (hx : ev s.regs x = .loc m off) (hy : ev s.regs y = .p v) (hb : s.own m = some b) (hl : (pvCells v).length = i.size) (hin : Nat.ble (off + (pvCells v).length) b.cs.length = true) (hcs : spl off (pvCells v) b.cs = cs)
    (hr : RK P N np ops draw os ⟨s.regs, upd s.own m (some ⟨b.vec, usz b, b.e, cs⟩)⟩ (acc ++ [⟨men .junk ++ lnkS [(m, some ⟨b.vec, usz b, b.e, cs⟩)] none, [m], [m], false⟩]) K) : RK P N np ops draw (⟨none, .store T x y, ty, pos, af, none⟩ :: os) s acc K :=
  RK.sto guard_none (op_store hT ht hx hy hb hl hin hcs) hr
theorem RK.F {l : List (Nat × Nat)} {f fo ft : Nat} {j : TyI} (ht : tt T = some i) (hs : i.sh = .st l) (hf : l[f]? = some (fo, ft)) (hft : tt ft = some j) (hj : Nat.blt 0 j.size = true) (hx : ev s.regs x = .loc m off)
    (hr : RK P N np ops draw os ⟨upd s.regs t (.loc m (off + fo)), s.own⟩ (acc ++ [⟨men (.loc m (off + fo)) ++ [], [], [], false⟩]) K) : RK P N np ops draw (⟨some t, .fieldAddr T x f, ty, pos, af, none⟩ :: os) s acc K :=
  RK.val guard_none (op_field_loc hT ht hs hf hft hj hx) hr
end
theorem AWp_sr {B : Bool} {Q : Exit → St → Prop} {id : Nat} {y : Code} (hP : P.follows .mixedOrders = true) (h : RK P N np ops draw ops.toList (kill (allocs ops.toList) s) [] (AThen (AWp P B N np y Q) Q .normal)) : AWp P B N np (.seq (.region id ops draw) y) Q s :=
  AWp_seq (AWp_region hP h)
end zip
end Go.AM
end

section
/- Division digit by digit: the guess of a digit. -/
namespace Go.AM
open Go Go.RowKit
theorem g_alg1 {g v1 r N B u2 v2 : Nat} (hg : g * v1 + r = N) (h : r * B + u2 < g * v2) : N * B + u2 < g * (v1 * B + v2) := by
  rw [← hg, Nat.add_mul, Nat.mul_add, ← Nat.mul_assoc]; omega
theorem g_alg2 {g v1 r N B u2 v2 : Nat} (hg : g * v1 + r = N) (h : g * v2 ≤ r * B + u2) : g * (v1 * B + v2) ≤ N * B + u2 := by
  rw [← hg, Nat.add_mul, Nat.mul_add, ← Nat.mul_assoc]; omega
section guess
variable {P V T N u2 v1 v2 vl tl g r : Nat}
theorem g_init (hV : V = P * (v1 * 4294967296 + v2) + vl) (hT : T = P * (N * 4294967296 + u2) + tl) (htl : tl < P) (hu2 : u2 < 4294967296) (hv1 : 0 < v1) : T / V ≤ N / v1 := by
  rw [Nat.le_div_iff_mul_le hv1]
  have h1 : T / V * V ≤ T := Nat.div_mul_le_self T V
  generalize T / V = q at *
  have h2 : q * (P * (v1 * 4294967296)) ≤ q * V := Nat.mul_le_mul_left _ (by rw [hV, Nat.mul_add]; omega)
  have h3 : T < P * ((N + 1) * 4294967296) := by
    have : P * (N * 4294967296 + u2) + P ≤ P * ((N + 1) * 4294967296) := by
      rw [← Nat.mul_succ]; exact Nat.mul_le_mul_left _ (by omega)
    omega
  have h4 : P * (q * v1 * 4294967296) < P * ((N + 1) * 4294967296) := by
    have e : P * (q * v1 * 4294967296) = q * (P * (v1 * 4294967296)) := by
      rw [Nat.mul_assoc q v1, Nat.mul_left_comm]
    omega
  have h5 := Nat.lt_of_mul_lt_mul_left h4
  omega
theorem g_dec2 (hV : V = P * (v1 * 4294967296 + v2) + vl) (hT : T = P * (N * 4294967296 + u2) + tl) (htl : tl < P) (hg : g * v1 + r = N) (h : r * 4294967296 + u2 < g * v2) : T / V < g := by
  have h1 : T / V * V ≤ T := Nat.div_mul_le_self T V
  generalize T / V = q at *
  have h2 : q * (P * (v1 * 4294967296 + v2)) ≤ q * V := Nat.mul_le_mul_left _ (by omega)
  have h3 : P * (q * (v1 * 4294967296 + v2)) < P * (N * 4294967296 + u2 + 1) := by
    have e : P * (q * (v1 * 4294967296 + v2)) = q * (P * (v1 * 4294967296 + v2)) := Nat.mul_left_comm _ _ _
    have e3 : P * (N * 4294967296 + u2 + 1) = P * (N * 4294967296 + u2) + P := Nat.mul_succ _ _
    omega
  have h5 := Nat.lt_of_mul_lt_mul_left h3
  have h6 : N * 4294967296 + u2 < g * (v1 * 4294967296 + v2) := by
    exact g_alg1 hg h
  have h7 : q * (v1 * 4294967296 + v2) < g * (v1 * 4294967296 + v2) := by omega
  exact Nat.lt_of_mul_lt_mul_right h7
theorem g_N (hV : V = P * (v1 * 4294967296 + v2) + vl) (hvl : vl < P) (hT : T = P * (N * 4294967296 + u2) + tl) (hTV : T < 4294967296 * V) : N ≤ v1 * 4294967296 + v2 := by
  have h1 : P * (N * 4294967296) < P * (4294967296 * (v1 * 4294967296 + v2 + 1)) := by
    have e : P * (4294967296 * (v1 * 4294967296 + v2 + 1)) = 4294967296 * (P * (v1 * 4294967296 + v2) + P) := by
      rw [Nat.mul_left_comm, Nat.mul_succ]
    have e2 : P * (N * 4294967296) ≤ P * (N * 4294967296 + u2) := Nat.mul_le_mul_left _ (by omega)
    omega
  have h2 := Nat.lt_of_mul_lt_mul_left h1
  omega
theorem g_exit (hV : V = P * (v1 * 4294967296 + v2) + vl) (hvl : vl < P) (hT : T = P * (N * 4294967296 + u2) + tl) (hv1 : 2147483648 ≤ v1) (hv2 : v2 < 4294967296) (hN : N ≤ v1 * 4294967296 + v2) (hg : g * v1 + r = N)
    (h : (g < 4294967296 ∧ g * v2 ≤ r * 4294967296 + u2) ∨ 4294967296 ≤ r) : g < 4294967296 ∧ g ≤ T / V + 1 := by
  have hgB : g < 4294967296 := by
    rcases h with h | h
    · exact h.1
    · rcases Nat.lt_or_ge g 4294967296 with h1 | h1
      · exact h1
      · have : 4294967296 * v1 ≤ g * v1 := Nat.mul_le_mul_right _ h1
        omega
  refine ⟨hgB, ?_⟩
  have hle : g * v2 ≤ r * 4294967296 + u2 := by
    rcases h with h | h
    · exact h.2
    · have h1 : g * v2 ≤ 4294967296 * 4294967296 := Nat.mul_le_mul (by omega) (by omega)
      have h2 : 4294967296 * 4294967296 ≤ r * 4294967296 := Nat.mul_le_mul_right _ h
      omega
  have h6 : g * (v1 * 4294967296 + v2) ≤ N * 4294967296 + u2 := by
    exact g_alg2 hg hle
  have hPpos : 0 < P := by omega
  have hVpos : 0 < V := by
    have : 0 < P * (v1 * 4294967296 + v2) := Nat.mul_pos hPpos (by omega)
    omega
  -- g V < T + V
  have h7 : g * V < T + V := by
    have e1 : g * V = P * (g * (v1 * 4294967296 + v2)) + g * vl := by
      rw [hV, Nat.mul_add, Nat.mul_left_comm]
    have e2 : P * (g * (v1 * 4294967296 + v2)) ≤ P * (N * 4294967296 + u2) := Nat.mul_le_mul_left _ h6
    have e3 : g * vl ≤ g * P := Nat.mul_le_mul_left _ (by omega)
    have e4 : g * P < (v1 * 4294967296 + v2) * P := Nat.mul_lt_mul_of_pos_right (by omega) hPpos
    have e5 : (v1 * 4294967296 + v2) * P = P * (v1 * 4294967296 + v2) := Nat.mul_comm _ _
    omega
  rcases Nat.eq_zero_or_pos g with h0 | h0
  · subst h0; exact Nat.zero_le _
  · have h8 : (g - 1) * V ≤ T := by
      have : (g - 1) * V + V = g * V := by
        rw [← Nat.succ_mul]; congr 1; omega
      omega
    have h9 : g - 1 ≤ T / V := (Nat.le_div_iff_mul_le hVpos).2 h8
    generalize T / V = q at h9 ⊢
    omega
end guess
/-- the last three words of n + 1 -/
theorem wv_top3 (w : List Nat) (k : Nat) : wv (w.take (k + 3)) = 4294967296 ^ k * ((w.getD (k + 2) 0 * 4294967296 + w.getD (k + 1) 0) * 4294967296 + w.getD k 0) + wv (w.take k) := by
  rw [wv_take_succ, wv_take_succ, wv_take_succ, Nat.pow_succ 4294967296 (k + 1), Nat.pow_succ 4294967296 k]
  generalize 4294967296 ^ k = p
  generalize w.getD k 0 = x
  generalize w.getD (k + 1) 0 = y
  generalize w.getD (k + 2) 0 = z
  have e0 : p * ((z * 4294967296 + y) * 4294967296 + x) = p * (z * 4294967296 * 4294967296) + p * (y * 4294967296) + p * x := by
    rw [Nat.add_mul, Nat.mul_add, Nat.mul_add]
  have e1 : p * 4294967296 * y = p * (y * 4294967296) := by rw [Nat.mul_assoc, Nat.mul_comm 4294967296 y]
  have e2 : p * 4294967296 * 4294967296 * z = p * (z * 4294967296 * 4294967296) := by
    rw [Nat.mul_assoc, Nat.mul_assoc, ← Nat.mul_assoc 4294967296, Nat.mul_comm _ z, ← Nat.mul_assoc z]
  rw [e0, e1, e2]; omega
theorem wv_top2 (w : List Nat) (k : Nat) : wv (w.take (k + 2)) = 4294967296 ^ k * (w.getD (k + 1) 0 * 4294967296 + w.getD k 0) + wv (w.take k) := by
  rw [wv_take_succ, wv_take_succ, Nat.pow_succ]
  generalize 4294967296 ^ k = p
  generalize w.getD k 0 = x
  generalize w.getD (k + 1) 0 = y
  have e0 : p * (y * 4294967296 + x) = p * (y * 4294967296) + p * x := Nat.mul_add _ _ _
  have e1 : p * 4294967296 * y = p * (y * 4294967296) := by rw [Nat.mul_assoc, Nat.mul_comm 4294967296 y]
  rw [e0, e1]; omega
theorem getD_drop (w : List Nat) (j k : Nat) : (w.drop j).getD k 0 = w.getD (j + k) 0 := by
  rw [List.getD_eq_getElem?_getD, List.getElem?_drop, List.getD_eq_getElem?_getD]
theorem wv_take_lt {w : List Nat} (h : okW w) (k : Nat) : wv (w.take k) < 4294967296 ^ k := by
  have h1 := wv_lt (h.take k)
  refine Nat.lt_of_lt_of_le h1 (Nat.pow_le_pow_right (by omega) ?_)
  rw [List.length_take]; exact Nat.min_le_left _ _
/-- what is known at a digit: the words from j on, and the divisor -/
structure Dig (v u : List Nat) (k j : Nat) : Prop where
  hv : v.length = k + 2
  okv : okW v
  top : 2147483648 ≤ v.getD (k + 1) 0
  oku : okW u
  hu : j + k + 2 < u.length
  low : wv (u.drop (j + 1)) < wv v
section dig
variable {v u : List Nat} {k j : Nat} (h : Dig v u k j)
include h
theorem Dig.V : wv v = 4294967296 ^ k * (v.getD (k + 1) 0 * 4294967296 + v.getD k 0) + wv (v.take k) := by
  have := wv_top2 v k
  rwa [List.take_of_length_le (by rw [h.hv]; omega)] at this
theorem Dig.vl : wv (v.take k) < 4294967296 ^ k := wv_take_lt h.okv k
theorem Dig.Vlt : wv v < 4294967296 ^ (k + 2) := by have := wv_lt h.okv; rwa [h.hv] at this
theorem Dig.T0 : wv (u.drop j) = u.getD j 0 + 4294967296 * wv (u.drop (j + 1)) := by
  have := h.hu
  rw [drop_getD (k := j) (by omega)]; rfl
theorem Dig.TV : wv (u.drop j) < 4294967296 * wv v := by
  have h1 := h.T0
  have h2 := h.low
  have h3 := h.oku.getD j
  have h4 : 4294967296 * (wv (u.drop (j + 1)) + 1) ≤ 4294967296 * wv v := Nat.mul_le_mul_left _ h2
  omega
theorem Dig.high : wv (u.drop (j + k + 3)) = 0 := by
  have h1 := h.TV
  have h2 := h.Vlt
  have h3 := wv_split (u.drop j) (k + 3) (by rw [List.length_drop]; have := h.hu; omega)
  rw [List.drop_drop] at h3
  have e : j + (k + 3) = j + k + 3 := by omega
  rw [e] at h3
  rcases Nat.eq_zero_or_pos (wv (u.drop (j + k + 3))) with h0 | h0
  · exact h0
  · exfalso
    have h4 : 4294967296 ^ (k + 3) ≤ 4294967296 ^ (k + 3) * wv (u.drop (j + k + 3)) := Nat.le_mul_of_pos_right _ h0
    have h5 : 4294967296 ^ (k + 3) = 4294967296 * 4294967296 ^ (k + 2) := by rw [Nat.pow_succ, Nat.mul_comm]
    have h6 : 4294967296 * wv v ≤ 4294967296 * 4294967296 ^ (k + 2) := Nat.mul_le_mul_left _ (by omega)
    omega
theorem Dig.T : wv (u.drop j) = 4294967296 ^ k * ((u.getD (j + k + 2) 0 * 4294967296 + u.getD (j + k + 1) 0) * 4294967296 + u.getD (j + k) 0) + wv ((u.drop j).take k) := by
  have h1 := wv_top3 (u.drop j) k
  rw [getD_drop, getD_drop, getD_drop] at h1
  have e : ((u.drop j).take (k + 3)) = (u.drop j).take (k + 3) := rfl
  have h3 := wv_split (u.drop j) (k + 3) (by rw [List.length_drop]; have := h.hu; omega)
  rw [List.drop_drop, show j + (k + 3) = j + k + 3 by omega, h.high, Nat.mul_zero, Nat.add_zero] at h3
  rw [h3, h1, show j + (k + 2) = j + k + 2 by omega, show j + (k + 1) = j + k + 1 by omega]
theorem Dig.tl : wv ((u.drop j).take k) < 4294967296 ^ k := wv_take_lt (h.oku.drop j) k
/-- the digit -/
def digq (v u : List Nat) (j : Nat) : Nat := wv (u.drop j) / wv v
theorem Dig.q_lt : digq v u j < 4294967296 := by
  have hp : 0 < wv v := by have := h.low; omega
  exact (Nat.div_lt_iff_lt_mul hp).2 h.TV
theorem Dig.init : digq v u j ≤ (u.getD (j + k + 2) 0 * 4294967296 + u.getD (j + k + 1) 0) / v.getD (k + 1) 0 :=
  g_init h.V h.T h.tl (h.oku.getD _) (by have := h.top; omega)
theorem Dig.N : u.getD (j + k + 2) 0 * 4294967296 + u.getD (j + k + 1) 0 ≤ v.getD (k + 1) 0 * 4294967296 + v.getD k 0 := g_N h.V h.vl h.T h.TV
theorem Dig.dec {g r : Nat} (hg : g * v.getD (k + 1) 0 + r = u.getD (j + k + 2) 0 * 4294967296 + u.getD (j + k + 1) 0) (hc : 4294967296 ≤ g ∨ r * 4294967296 + u.getD (j + k) 0 < g * v.getD k 0) : digq v u j < g := by
  rcases hc with hc | hc
  · have := h.q_lt; omega
  · exact g_dec2 h.V h.T h.tl hg hc
theorem Dig.exit {g r : Nat} (hg : g * v.getD (k + 1) 0 + r = u.getD (j + k + 2) 0 * 4294967296 + u.getD (j + k + 1) 0) (hc : (g < 4294967296 ∧ g * v.getD k 0 ≤ r * 4294967296 + u.getD (j + k) 0) ∨ 4294967296 ≤ r) : g < 4294967296 ∧ g ≤ digq v u j + 1 :=
  g_exit h.V h.vl h.T h.top (h.okv.getD _) h.N hg hc
end dig
/-- a round of: subtract g times the divisor -/
theorem msub_round {o v : List Nat} {j i g c e S t : Nat} (hlen : j + i < o.length) (ho : okW o) (he : e < 2) (ht : t = g * v.getD i 0 + c)
    (hv : wv o + 4294967296 ^ j * (g * wv (v.take i)) = S + 4294967296 ^ (j + i) * (c + e)) :
    wv (o.set (j + i) ((o.getD (j + i) 0 + 8589934592 - t % 4294967296 - e) % 4294967296)) + 4294967296 ^ j * (g * wv (v.take (i + 1))) = S + 4294967296 ^ (j + (i + 1)) * (t / 4294967296 + (if o.getD (j + i) 0 < t % 4294967296 + e then 1 else 0)) := by
  have h1 := wv_set o (j + i) ((o.getD (j + i) 0 + 8589934592 - t % 4294967296 - e) % 4294967296) hlen
  have h2 := ho.getD (j + i)
  rw [wv_take_succ, Nat.mul_add, Nat.mul_add]
  have e1 : 4294967296 ^ j * (g * (4294967296 ^ i * v.getD i 0)) = 4294967296 ^ (j + i) * (g * v.getD i 0) := by
    rw [Nat.pow_add, Nat.mul_assoc]; congr 1; exact Nat.mul_left_comm _ _ _
  rw [e1, show j + (i + 1) = j + i + 1 by omega, Nat.pow_succ]
  generalize 4294967296 ^ j * (g * wv (v.take i)) = A at *
  generalize g * v.getD i 0 = z at *
  generalize o.getD (j + i) 0 = y at *
  generalize 4294967296 ^ (j + i) = p at *
  have ht2 : t % 4294967296 < 4294967296 := Nat.mod_lt _ (by omega)
  have e3 : p * 4294967296 * (t / 4294967296) + p * (t % 4294967296) = p * z + p * c := by
    rw [Nat.mul_assoc, ← Nat.mul_add, ← Nat.mul_add]; congr 1; omega
  rw [Nat.mul_add] at hv ⊢
  generalize t % 4294967296 = l at *
  generalize p * 4294967296 * (t / 4294967296) = D at *
  by_cases hb : y < l + e
  · rw [if_pos hb, Nat.mul_one]
    have e4 : (y + 8589934592 - l - e) % 4294967296 = y + 4294967296 - l - e := by omega
    rw [e4] at h1 ⊢
    have e5 : p * (y + 4294967296 - l - e) + p * l + p * e = p * y + p * 4294967296 := by
      rw [← Nat.mul_add, ← Nat.mul_add, ← Nat.mul_add]; congr 1; omega
    omega
  · rw [if_neg hb, Nat.mul_zero]
    have e4 : (y + 8589934592 - l - e) % 4294967296 = y - l - e := by omega
    rw [e4] at h1 ⊢
    have e5 : p * (y - l - e) + p * l + p * e = p * y := by
      rw [← Nat.mul_add, ← Nat.mul_add]; congr 1; omega
    omega
/-- the last word of that -/
theorem msub_last {o : List Nat} {p c e A S : Nat} (hlen : p < o.length) (ho : okW o) (hc : c < 4294967296) (he : e < 2) (hv : wv o + A = S + 4294967296 ^ p * (c + e)) :
    wv (o.set p ((o.getD p 0 + 8589934592 - c - e) % 4294967296)) + A = S + 4294967296 ^ (p + 1) * (if o.getD p 0 < c + e then 1 else 0) := by
  have h1 := wv_set o p ((o.getD p 0 + 8589934592 - c - e) % 4294967296) hlen
  have h2 := ho.getD p
  rw [Nat.pow_succ]
  generalize o.getD p 0 = y at *
  generalize 4294967296 ^ p = w at *
  rw [Nat.mul_add] at hv
  by_cases hb : y < c + e
  · rw [if_pos hb, Nat.mul_one]
    have e4 : (y + 8589934592 - c - e) % 4294967296 = y + 4294967296 - c - e := by omega
    rw [e4] at h1 ⊢
    have e5 : w * (y + 4294967296 - c - e) + w * c + w * e = w * y + w * 4294967296 := by
      rw [← Nat.mul_add, ← Nat.mul_add, ← Nat.mul_add]; congr 1; omega
    omega
  · rw [if_neg hb, Nat.mul_zero]
    have e4 : (y + 8589934592 - c - e) % 4294967296 = y - c - e := by omega
    rw [e4] at h1 ⊢
    have e5 : w * (y - c - e) + w * c + w * e = w * y := by
      rw [← Nat.mul_add, ← Nat.mul_add]; congr 1; omega
    omega
/-- a round of: add the divisor back -/
theorem addb_round {o v : List Nat} {j i c S t : Nat} (hlen : j + i < o.length) (ht : t = o.getD (j + i) 0 + v.getD i 0 + c)
    (hv : wv o + 4294967296 ^ (j + i) * c = S + 4294967296 ^ j * wv (v.take i)) :
    wv (o.set (j + i) (t % 4294967296)) + 4294967296 ^ (j + (i + 1)) * (t / 4294967296) = S + 4294967296 ^ j * wv (v.take (i + 1)) := by
  have h1 := wv_set o (j + i) (t % 4294967296) hlen
  rw [wv_take_succ, Nat.mul_add, ← Nat.mul_assoc, ← Nat.pow_add, show j + (i + 1) = j + i + 1 by omega, Nat.pow_succ]
  generalize v.getD i 0 = z at *
  generalize o.getD (j + i) 0 = y at *
  generalize 4294967296 ^ (j + i) = p at *
  have e3 : p * 4294967296 * (t / 4294967296) + p * (t % 4294967296) = p * y + p * z + p * c := by
    rw [Nat.mul_assoc, ← Nat.mul_add, ← Nat.mul_add, ← Nat.mul_add]; congr 1; omega
  omega
end Go.AM
end

section
/- Division digit by digit: the start, the end, and what a digit leaves. -/
namespace Go.AM
open Go Go.RowKit
theorem pow_top {n : Nat} {w : List Nat} (h : w.length = n + 1) : wv w = wv (w.take n) + 4294967296 ^ n * w.getD n 0 := by
  have := wv_take_succ w n
  rwa [List.take_of_length_le (by omega)] at this
theorem top_ne {k n : Nat} (h : (wl k).length = n + 1) : (wl k).getD n 0 ≠ 0 := by
  have h0 : wl k ≠ [] := by intro e; rw [e] at h; simp at h
  have := wl_last h0
  rw [List.getLast_eq_getElem] at this
  have e : (wl k).getD n 0 = (wl k)[(wl k).length - 1]'(by omega) := by
    rw [List.getD_eq_getElem?_getD, List.getElem?_eq_getElem (by omega)]; simp [h]
  rwa [e]
/-- the divisor, shifted until its first word is large -/
theorem norm_facts {k n s : Nat} (hn : (wl k).length = n + 1) (hs : s = 32 - blen ((wl k).getD n 0)) :
    (wl (k * 2 ^ s)).length = n + 1 ∧ 2147483648 ≤ (wl (k * 2 ^ s)).getD n 0 ∧ s < 32 ∧ 4294967296 ^ n ≤ k := by
  have ht := top_ne hn
  have ht2 := (wl_ok k).getD n
  have hk := pow_top hn
  have hlo := wv_take_lt (wl_ok k) n
  rw [wv_wl] at hk
  generalize (wl k).getD n 0 = t at *
  have b1 := blen_ge (n := t) (by omega)
  have b2 := @blen_lt t
  have b3 : blen t ≤ 32 := blen_le (k := 32) (by simpa using ht2)
  have b4 : 0 < blen t := by
    rcases Nat.eq_zero_or_pos (blen t) with h | h
    · rw [h] at b2; simp at b2; omega
    · exact h
  generalize wv ((wl k).take n) = lo at *
  have hs32 : s < 32 := by omega
  have hk1 : 4294967296 ^ n ≤ k := by
    have : 4294967296 ^ n * 1 ≤ 4294967296 ^ n * t := Nat.mul_le_mul_left _ (by omega)
    rw [Nat.mul_one] at this
    generalize 4294967296 ^ n * t = z at *
    omega
  -- bounds of k * 2^s
  have e1 : 2 ^ blen t * 2 ^ s = 4294967296 := by rw [← Nat.pow_add, hs, show blen t + (32 - blen t) = 32 by omega]
  have e2 : 2 ^ (blen t - 1) * 2 ^ s = 2147483648 := by rw [← Nat.pow_add, hs, show blen t - 1 + (32 - blen t) = 31 by omega]
  have up : k * 2 ^ s < 4294967296 ^ (n + 1) := by
    have h1 : k < 4294967296 ^ n * 2 ^ blen t := by
      have : 4294967296 ^ n * t + 4294967296 ^ n ≤ 4294967296 ^ n * 2 ^ blen t := by rw [← Nat.mul_succ]; exact Nat.mul_le_mul_left _ b2
      generalize 4294967296 ^ n * t = z at *
      omega
    have h2 := Nat.mul_lt_mul_of_pos_right h1 (Nat.two_pow_pos s)
    rwa [Nat.mul_assoc, e1, ← Nat.pow_succ] at h2
  have low : 4294967296 ^ n * 2147483648 ≤ k * 2 ^ s := by
    have h1 : 4294967296 ^ n * 2 ^ (blen t - 1) ≤ k := by
      have : 4294967296 ^ n * 2 ^ (blen t - 1) ≤ 4294967296 ^ n * t := Nat.mul_le_mul_left _ b1
      generalize 4294967296 ^ n * t = z at *
      omega
    have h2 := Nat.mul_le_mul_right (2 ^ s) h1
    rwa [Nat.mul_assoc, e2] at h2
  have l1 := wl_len_le up
  have l2 := wl_len_lt (k * 2 ^ s)
  have len : (wl (k * 2 ^ s)).length = n + 1 := by
    rcases Nat.lt_or_ge (wl (k * 2 ^ s)).length (n + 1) with h | h
    · exfalso
      have h3 : 4294967296 ^ (wl (k * 2 ^ s)).length ≤ 4294967296 ^ n := Nat.pow_le_pow_right (by decide) (by omega)
      have h4 : 4294967296 ^ n * 1 ≤ 4294967296 ^ n * 2147483648 := Nat.mul_le_mul_left _ (by omega)
      omega
    · omega
  refine ⟨len, ?_, hs32, hk1⟩
  have hv := pow_top len
  have hlo2 := wv_take_lt (wl_ok (k * 2 ^ s)) n
  rw [wv_wl] at hv
  generalize (wl (k * 2 ^ s)).getD n 0 = x at *
  have h5 : 4294967296 ^ n * 2147483648 < 4294967296 ^ n * (x + 1) := by
    rw [show 4294967296 ^ n * (x + 1) = 4294967296 ^ n * x + 4294967296 ^ n from Nat.mul_succ _ _]
    generalize 4294967296 ^ n * x = z at *
    omega
  have := Nat.lt_of_mul_lt_mul_left h5
  omega
/-- the dividend, shifted, has at most one word more -/
theorem shl_len {m s : Nat} (hs : s < 32) : (wl (m * 2 ^ s)).length ≤ (wl m).length + 1 := by
  apply wl_len_le
  have h1 := wl_len_lt m
  have h2 : 2 ^ s ≤ 4294967296 := (Nat.pow_le_pow_right (by omega) (show s ≤ 32 by omega) : 2 ^ s ≤ 2 ^ 32)
  calc m * 2 ^ s < 4294967296 ^ (wl m).length * 2 ^ s := Nat.mul_lt_mul_of_pos_right h1 (Nat.two_pow_pos s)
    _ ≤ 4294967296 ^ (wl m).length * 4294967296 := Nat.mul_le_mul_left _ h2
    _ = _ := (Nat.pow_succ ..).symm
theorem div_start {m b s n d : Nat} {u : List Nat} (hu : wv u = m * 2 ^ s) (hl : u.length = (wl m).length + 1) (hb : 4294967296 ^ n ≤ b) (hd : d + n = (wl m).length) : wv (u.drop d) < b * 2 ^ s := by
  have h1 := wl_len_lt m
  have h2 := wv_split u d (by omega)
  have h3 : 4294967296 ^ d * wv (u.drop d) < 4294967296 ^ d * (b * 2 ^ s) := by
    have h4 : m * 2 ^ s < 4294967296 ^ (wl m).length * 2 ^ s := Nat.mul_lt_mul_of_pos_right h1 (Nat.two_pow_pos s)
    have h5 : 4294967296 ^ (wl m).length * 2 ^ s ≤ 4294967296 ^ d * (b * 2 ^ s) := by
      rw [← hd, Nat.pow_add, Nat.mul_assoc]
      exact Nat.mul_le_mul_left _ (Nat.mul_le_mul_right _ hb)
    omega
  exact Nat.lt_of_mul_lt_mul_left h3
theorem div_end {m b s q r : Nat} (h : m * 2 ^ s = b * 2 ^ s * q + r) (hr : r < b * 2 ^ s) : m / b = q ∧ m % b = r / 2 ^ s := by
  have hp := Nat.two_pow_pos s
  have hb : 0 < b * 2 ^ s := by omega
  have e1 : m * 2 ^ s / (b * 2 ^ s) = q := by rw [h, Nat.mul_add_div hb, Nat.div_eq_of_lt hr, Nat.add_zero]
  have e2 : m * 2 ^ s % (b * 2 ^ s) = r := by rw [h, Nat.mul_add_mod, Nat.mod_eq_of_lt hr]
  rw [Nat.mul_div_mul_right _ _ hp] at e1
  rw [Nat.mul_mod_mul_right] at e2
  refine ⟨e1, ?_⟩
  rw [← e2, Nat.mul_div_cancel _ hp]
section dig
variable {v u : List Nat} {k j : Nat} (h : Dig v u k j)
include h
theorem Dig.split : wv u = wv (u.take j) + 4294967296 ^ j * wv (u.drop j) := wv_split u j (by have := h.hu; omega)
theorem Dig.qV : digq v u j * wv v ≤ wv (u.drop j) := by
  have _ := h.hu
  exact Nat.div_mul_le_self _ _
/-- a digit that is right leaves less than the divisor -/
theorem Dig.done {o : List Nat} (hok : okW o) (hl : o.length = u.length) (hv : wv o + 4294967296 ^ j * (digq v u j * wv v) = wv u) : wv (o.drop j) < wv v := by
  have hp : 0 < wv v := by have := h.low; omega
  have h1 := h.split
  have h2 := wv_split o j (by rw [hl]; have := h.hu; omega)
  have h3 := wv_take_lt hok j
  have h4 := wv_take_lt h.oku j
  have h5 : wv (u.drop j) = wv v * digq v u j + wv (u.drop j) % wv v := (Nat.div_add_mod _ _).symm
  have h6 := Nat.mod_lt (wv (u.drop j)) hp
  generalize wv (u.drop j) % wv v = r at *
  have e : 4294967296 ^ j * wv (u.drop j) = 4294967296 ^ j * (digq v u j * wv v) + 4294967296 ^ j * r := by
    rw [← Nat.mul_add, Nat.mul_comm (digq v u j), ← h5]
  have h7 : 4294967296 ^ j * wv (o.drop j) < 4294967296 ^ j * (r + 1) := by
    rw [Nat.mul_succ]
    generalize 4294967296 ^ j * (digq v u j * wv v) = z at *
    generalize 4294967296 ^ j * wv (o.drop j) = y at *
    generalize 4294967296 ^ j * wv (u.drop j) = x at *
    omega
  have := Nat.lt_of_mul_lt_mul_left h7
  omega
/-- no borrow: the guess is right -/
theorem Dig.good {o : List Nat} {g : Nat} (hq : digq v u j ≤ g) (hv : wv o + 4294967296 ^ j * (g * wv v) = wv u) : g = digq v u j := by
  have hp : 0 < wv v := by have := h.low; omega
  have h1 := h.split
  have h4 := wv_take_lt h.oku j
  have h7 : 4294967296 ^ j * (g * wv v) < 4294967296 ^ j * (wv (u.drop j) + 1) := by
    rw [Nat.mul_succ]
    generalize 4294967296 ^ j * (g * wv v) = y at *
    generalize 4294967296 ^ j * wv (u.drop j) = x at *
    omega
  have h8 := Nat.lt_of_mul_lt_mul_left h7
  have : g ≤ digq v u j := (Nat.le_div_iff_mul_le hp).2 (by omega)
  omega
theorem Dig.small {o : List Nat} (hok : okW o) (hl : o.length = u.length) (hd : o.drop (j + k + 3) = u.drop (j + k + 3)) : wv o < 4294967296 ^ (j + k + 3) := by
  have h1 := wv_split o (j + k + 3) (by rw [hl]; have := h.hu; omega)
  rw [hd, h.high, Nat.mul_zero, Nat.add_zero] at h1
  rw [h1]
  exact wv_take_lt hok _
/-- a borrow: the guess is one too large -/
theorem Dig.bad {o : List Nat} {g : Nat} (hok : okW o) (hl : o.length = u.length) (hd : o.drop (j + k + 3) = u.drop (j + k + 3)) (hq : g ≤ digq v u j + 1) (hv : wv o + 4294967296 ^ j * (g * wv v) = wv u + 4294967296 ^ (j + k + 3)) : g = digq v u j + 1 := by
  have h0 := h.small hok hl hd
  rcases Nat.lt_or_ge (digq v u j) g with h1 | h1
  · omega
  · exfalso
    have h2 := h.qV
    have h3 : g * wv v ≤ digq v u j * wv v := Nat.mul_le_mul_right _ h1
    have h4 := h.split
    have h5 : 4294967296 ^ j * (g * wv v) ≤ 4294967296 ^ j * wv (u.drop j) := Nat.mul_le_mul_left _ (by omega)
    generalize 4294967296 ^ j * (g * wv v) = y at *
    generalize 4294967296 ^ j * wv (u.drop j) = x at *
    generalize 4294967296 ^ (j + k + 3) = w at *
    omega
/-- after the divisor is added back -/
theorem Dig.back {o o1 : List Nat} {g c S : Nat} (hok : okW o) (hl : o.length = u.length) (hd : o.drop (j + k + 3) = u.drop (j + k + 3)) (hg : g = digq v u j + 1)
    (hv : S + 4294967296 ^ j * (g * wv v) = wv u + 4294967296 ^ (j + k + 3)) (hb : wv o1 + 4294967296 ^ (j + k + 2) * c = S + 4294967296 ^ j * wv v)
    (ho1 : okW o1) (hc : c < 2) (ho : o = o1.set (j + k + 2) ((o1.getD (j + k + 2) 0 + c) % 4294967296)) (hl1 : o1.length = u.length) :
    wv o + 4294967296 ^ j * (digq v u j * wv v) = wv u := by
  have h1 := wv_set o1 (j + k + 2) ((o1.getD (j + k + 2) 0 + c) % 4294967296) (by rw [hl1]; have := h.hu; omega)
  rw [← ho] at h1
  have h2 := ho1.getD (j + k + 2)
  have h0 := h.small hok hl hd
  have h3 := h.qV
  have h4 := h.split
  have h5 : 4294967296 ^ j * (digq v u j * wv v) ≤ 4294967296 ^ j * wv (u.drop j) := Nat.mul_le_mul_left _ h3
  have e1 : 4294967296 ^ j * (g * wv v) = 4294967296 ^ j * (digq v u j * wv v) + 4294967296 ^ j * wv v := by
    rw [hg, Nat.succ_mul, Nat.mul_add]
  have e2 : 4294967296 ^ (j + k + 3) = 4294967296 ^ (j + k + 2) * 4294967296 := Nat.pow_succ ..
  rw [e1] at hv
  generalize o1.getD (j + k + 2) 0 = y at *
  clear e1 h3 hg ho hl hd hok hl1 ho1
  generalize 4294967296 ^ j * (digq v u j * wv v) = z at *
  generalize 4294967296 ^ j * wv (u.drop j) = x at *
  generalize 4294967296 ^ j * wv v = zv at *
  generalize 4294967296 ^ (j + k + 3) = w3 at *
  generalize 4294967296 ^ (j + k + 2) = w at *
  by_cases hov : y + c < 4294967296
  · exfalso
    rw [Nat.mod_eq_of_lt hov, Nat.mul_add] at h1
    omega
  · have e3 : (y + c) % 4294967296 = 0 := by omega
    have e4 : y = 4294967295 ∧ c = 1 := by omega
    rw [e3, e4.1] at h1
    rw [e4.2] at hb
    subst e2
    omega
end dig
/-- the quotient's words after a digit -/
theorem div_outer {V j M g X : Nat} {q : List Nat} (hj : j < q.length) (hM : M = V * (4294967296 ^ (j + 1) * wv (q.drop (j + 1))) + X) {Y : Nat} (hX : Y + 4294967296 ^ j * (g * V) = X) : M = V * (4294967296 ^ j * wv ((q.set j g).drop j)) + Y := by
  rw [drop_set hj]
  show M = V * (4294967296 ^ j * (g + 4294967296 * wv (q.drop (j + 1)))) + Y
  have e1 : 4294967296 ^ j * (g * V) = V * (4294967296 ^ j * g) := by rw [Nat.mul_comm g, Nat.mul_left_comm]
  have e2 : V * (4294967296 ^ j * (g + 4294967296 * wv (q.drop (j + 1)))) = V * (4294967296 ^ j * g) + V * (4294967296 ^ (j + 1) * wv (q.drop (j + 1))) := by
    rw [Nat.pow_succ, Nat.mul_assoc (4294967296 ^ j), ← Nat.mul_add, ← Nat.mul_add]
  rw [hM, ← hX, e1, e2]; omega
end Go.AM
end

section
/- Bit lengths of words' values. -/
namespace Go.AM
open Go Go.RowKit
theorem pow32 (n : Nat) : (4294967296 : Nat) ^ n = 2 ^ (32 * n) := by rw [Nat.pow_mul]
theorem blen_top {m n : Nat} (h : (wl m).length = n + 1) : blen m = 32 * n + blen ((wl m).getD n 0) := by
  have h1 := pow_top h
  have h2 := wv_take_lt (wl_ok m) n
  have h3 := top_ne h
  rw [wv_wl] at h1
  generalize (wl m).getD n 0 = t at *
  generalize wv ((wl m).take n) = lo at *
  have hp : 0 < (4294967296 : Nat) ^ n := Nat.pow_pos (by decide)
  have h4 : m / 4294967296 ^ n = t := by
    rw [h1, Nat.add_mul_div_left _ _ hp, Nat.div_eq_of_lt h2, Nat.zero_add]
  have h5 : 4294967296 ^ n ≤ m := by
    have := Nat.mul_le_mul_left (4294967296 ^ n) (show 1 ≤ t by omega)
    rw [Nat.mul_one] at this
    omega
  rw [pow32] at h4 h5
  rw [blen_div h5, h4]
end Go.AM
end

section
/- Signs and words of integers: the arithmetic of package integer. -/
namespace Go.AM
open Go Go.RowKit
theorem Sub.I {w z : Int} (h : w = z) : Sub (.p (.a [zn w, zm w])) (I z) := Sub.of_eq (by rw [h])
theorem wl_len0 {m : Nat} (h : (wl m).length = 0) : m = 0 := by
  have := List.length_eq_zero_iff.1 h
  rw [← wv_wl m, this]; rfl
theorem sg_zero (b : Bool) : sg b 0 = 0 := by cases b <;> rfl
theorem zn_sg {b : Bool} {m : Nat} (h : 0 < m) : zn (sg b m) = .v (.bool b) := by
  unfold zn sg; cases b <;> simp <;> omega
theorem zm_sg (b : Bool) (m : Nat) : zm (sg b m) = nt m := by
  rw [zm_nt]; unfold sg; cases b <;> simp
theorem sz {z : Int} (h : L 45 z) : (wl z.natAbs).length ≤ 1099511627776 := wl_len_L (n := 40) h
section add
variable {x y : Int}
theorem add_same (h : (decide (x < 0) == decide (y < 0)) = true) : sg (decide (x < 0)) (wv (wl x.natAbs) + wv (wl y.natAbs)) = x + y := by
  rw [wv_wl, wv_wl]; unfold sg
  by_cases h1 : x < 0 <;> by_cases h2 : y < 0 <;> simp [h1, h2] at h ⊢ <;> omega
theorem add_lt (h : (decide (x < 0) == decide (y < 0)) = false) (hc : x.natAbs < y.natAbs) : sg (decide (y < 0)) (wv (wl y.natAbs) - wv (wl x.natAbs)) = x + y := by
  rw [wv_wl, wv_wl]; unfold sg
  by_cases h1 : x < 0 <;> by_cases h2 : y < 0 <;> simp [h1, h2] at h ⊢ <;> omega
theorem add_ge (h : (decide (x < 0) == decide (y < 0)) = false) (hc : y.natAbs ≤ x.natAbs) : sg (decide (x < 0)) (wv (wl x.natAbs) - wv (wl y.natAbs)) = x + y := by
  rw [wv_wl, wv_wl]; unfold sg
  by_cases h1 : x < 0 <;> by_cases h2 : y < 0 <;> simp [h1, h2] at h ⊢ <;> omega
end add
theorem mul_sg (x y : Int) : sg (!(decide (x < 0) == decide (y < 0))) (wv (wl x.natAbs) * wv (wl y.natAbs)) = x * y := by
  rw [wv_wl, wv_wl, ← Int.natAbs_mul]
  unfold sg
  by_cases h1 : x < 0 <;> by_cases h2 : y < 0 <;> simp only [h1, h2, decide_true, decide_false, beq_self_eq_true, Bool.not_true, if_false, Bool.false_eq_true]
  · have := Int.mul_pos_of_neg_of_neg h1 h2; omega
  · have : x * y ≤ 0 := Int.mul_nonpos_of_nonpos_of_nonneg (by omega) (by omega)
    show -((x * y).natAbs : Int) = x * y; omega
  · have : x * y ≤ 0 := Int.mul_nonpos_of_nonneg_of_nonpos (by omega) (by omega)
    show -((x * y).natAbs : Int) = x * y; omega
  · have : 0 ≤ x * y := Int.mul_nonneg (by omega) (by omega)
    omega
theorem neg_sg (x : Int) : sg (!decide (x < 0)) (wv (wl x.natAbs)) = -x := by
  rw [wv_wl]; unfold sg
  by_cases h1 : x < 0 <;> simp [h1] <;> omega
theorem abs_sg (x : Int) : sg false (wv (wl x.natAbs)) = (x.natAbs : Int) := by rw [wv_wl]; rfl
theorem cmp_lt {m n : Nat} (h : cmpI (m : Int) (n : Int) < 0) : m < n := by
  unfold cmpI at h; split at h
  · omega
  · split at h <;> omega
theorem cmp_ge {m n : Nat} (h : ¬ cmpI (m : Int) (n : Int) < 0) : n ≤ m := by
  unfold cmpI at h; split at h
  · omega
  · omega
end Go.AM
end

section
/- Sizes by instances; division, square roots: the arithmetic of package integer. -/
namespace Go.AM
open Go Go.RowKit
class LB (z : Int) (n : outParam Nat) : Prop where
  le : L n z
theorem lz {z : Int} {n m : Nat} [h : LB z n] (k : Nat.ble n m = true := by rfl) : L m z := h.le.mono (Nat.le_of_ble_eq_true k)
instance LB.mul {a b : Int} {n m : Nat} [h : LB a n] [k : LB b m] : LB (a * b) (max n m + 1) := ⟨(h.le.mono (Nat.le_max_left _ _)).mul (k.le.mono (Nat.le_max_right _ _))⟩
instance LB.add {a b : Int} {n m : Nat} [h : LB a n] [k : LB b m] : LB (a + b) (max n m + 1) := ⟨(h.le.mono (Nat.le_max_left _ _)).add (k.le.mono (Nat.le_max_right _ _))⟩
instance LB.sub {a b : Int} {n m : Nat} [h : LB a n] [k : LB b m] : LB (a - b) (max n m + 1) := ⟨(h.le.mono (Nat.le_max_left _ _)).sub (k.le.mono (Nat.le_max_right _ _))⟩
instance LB.neg {a : Int} {n : Nat} [h : LB a n] : LB (-a) n := ⟨h.le.neg⟩
theorem L.abs {a : Int} {n : Nat} (h : L n a) : L n (a.natAbs : Int) := by unfold L at *; rwa [Int.natAbs_natCast]
instance LB.abs {a : Int} {n : Nat} [h : LB a n] : LB (a.natAbs : Int) n := ⟨h.le.abs⟩
instance {n : Nat} {z : Int} : Decidable (L n z) := inferInstanceAs (Decidable (_ < _))
instance LB.zero : LB 0 0 := ⟨by decide⟩
instance LB.one : LB 1 0 := ⟨by decide⟩
instance LB.two : LB 2 1 := ⟨by decide⟩
instance LB.four : LB 4 2 := ⟨by decide⟩
theorem L.ediv {a b : Int} {n : Nat} (h : L n a) : L n (a / b) := L.of_le h (Int.natAbs_ediv_le_natAbs a b)
instance LB.ediv {a b : Int} {n : Nat} [h : LB a n] : LB (a / b) n := ⟨h.le.ediv⟩
theorem L.emod {a b : Int} {n m : Nat} (h : L n a) (k : L m b) : L (max n m) (a % b) := by
  by_cases hb : b = 0
  · subst hb; rw [Int.emod_zero]; exact h.mono (Nat.le_max_left _ _)
  · have h1 := Int.emod_nonneg a hb
    have h2 := Int.emod_lt a hb
    exact (L.of_le k (by omega)).mono (Nat.le_max_right _ _)
instance LB.emod {a b : Int} {n m : Nat} [h : LB a n] [k : LB b m] : LB (a % b) (max n m) := ⟨h.le.emod k.le⟩
def sgn (x : Int) : Int := if x = 0 then 0 else if x < 0 then -1 else 1
theorem L_sgn (x : Int) : L 0 (sgn x) := by unfold sgn; split <;> (try split) <;> decide
theorem sg_lt {b : Bool} {m : Nat} : sg b m < 0 ↔ b = true ∧ 0 < m := by unfold sg; cases b <;> simp <;> omega
theorem ediv_of {x y q r : Int} (hy : y ≠ 0) (e : x = y * q + r) (h0 : 0 ≤ r) (h1 : r < y.natAbs) : x / y = q ∧ x % y = r := by
  rcases Int.lt_or_gt_of_ne hy with h | h
  · exact (Int.ediv_emod_unique' h).2 ⟨by omega, h0, by omega⟩
  · exact (Int.ediv_emod_unique h).2 ⟨by omega, h0, by omega⟩
theorem divmod_neg {x y : Int} (hy : y ≠ 0) (h : sg (decide (x < 0)) (x.natAbs % y.natAbs) < 0) :
    sg (!(decide (x < 0) == decide (y < 0))) (x.natAbs / y.natAbs) - sgn y = x / y ∧ sg (decide (x < 0)) (x.natAbs % y.natAbs) + y.natAbs = x % y := by
  obtain ⟨h1, h2⟩ := sg_lt.1 h
  have h1 := of_decide_eq_true h1
  have hn : 0 < y.natAbs := by omega
  have e := Nat.div_add_mod x.natAbs y.natAbs
  have l := Nat.mod_lt x.natAbs hn
  generalize x.natAbs / y.natAbs = q at *
  generalize x.natAbs % y.natAbs = r at *
  have e' : (x.natAbs : Int) = y.natAbs * q + r := by exact_mod_cast e.symm
  unfold sg sgn
  simp only [h1, decide_true, if_true]
  by_cases h3 : y < 0
  · simp only [h3, decide_true, beq_self_eq_true, Bool.not_true, Bool.false_eq_true, if_false, if_neg hy, if_true]
    have hyy : (y.natAbs : Int) = -y := by omega
    rw [hyy] at e' ⊢
    have := ediv_of (x := x) (y := y) (q := q - -1) (r := -r + -y) hy (by rw [Int.mul_sub, Int.mul_neg, Int.mul_one]; rw [Int.neg_mul] at e'; omega) (by omega) (by omega)
    exact ⟨this.1.symm, this.2.symm⟩
  · simp only [h3, decide_false, beq_false, Bool.not_true, Bool.not_false, if_true, if_neg hy, if_false]
    have hyy : (y.natAbs : Int) = y := by omega
    rw [hyy] at e' ⊢
    have := ediv_of (x := x) (y := y) (q := -q - 1) (r := -r + y) hy (by rw [Int.mul_sub, Int.mul_neg, Int.mul_one]; omega) (by omega) (by omega)
    exact ⟨this.1.symm, this.2.symm⟩
theorem divmod_pos {x y : Int} (hy : y ≠ 0) (h : ¬ sg (decide (x < 0)) (x.natAbs % y.natAbs) < 0) :
    sg (!(decide (x < 0) == decide (y < 0))) (x.natAbs / y.natAbs) = x / y ∧ sg (decide (x < 0)) (x.natAbs % y.natAbs) = x % y := by
  have hn : 0 < y.natAbs := by omega
  have e := Nat.div_add_mod x.natAbs y.natAbs
  have l := Nat.mod_lt x.natAbs hn
  rw [sg_lt] at h
  generalize x.natAbs / y.natAbs = q at *
  generalize x.natAbs % y.natAbs = r at *
  have e' : (x.natAbs : Int) = y.natAbs * q + r := by exact_mod_cast e.symm
  by_cases h1 : x < 0
  · have hr : r = 0 := by
      rcases Nat.eq_zero_or_pos r with h2 | h2
      · exact h2
      · exact absurd ⟨decide_eq_true h1, h2⟩ h
    subst hr
    by_cases h3 : y < 0
    · have hyy : (y.natAbs : Int) = -y := by omega
      rw [hyy, Int.neg_mul] at e'
      have := ediv_of (x := x) (y := y) (q := q) (r := 0) hy (by omega) (by omega) (by omega)
      rw [this.1, this.2]
      simp [sg, h1, h3]
    · have hyy : (y.natAbs : Int) = y := by omega
      rw [hyy] at e'
      have := ediv_of (x := x) (y := y) (q := -q) (r := 0) hy (by rw [Int.mul_neg]; omega) (by omega) (by omega)
      rw [this.1, this.2]
      simp [sg, h1, h3]
  · by_cases h3 : y < 0
    · have hyy : (y.natAbs : Int) = -y := by omega
      rw [hyy, Int.neg_mul] at e'
      have := ediv_of (x := x) (y := y) (q := -q) (r := r) hy (by rw [Int.mul_neg]; omega) (by omega) (by omega)
      rw [this.1, this.2]
      simp [sg, h1, h3]
    · have hyy : (y.natAbs : Int) = y := by omega
      rw [hyy] at e'
      have := ediv_of (x := x) (y := y) (q := q) (r := r) hy (by omega) (by omega) (by omega)
      rw [this.1, this.2]
      simp [sg, h1, h3]
def isq : Nat → Nat
  | 0 => 0
  | n + 1 => if (isq n + 1) * (isq n + 1) ≤ n + 1 then isq n + 1 else isq n
theorem isq_spec (n : Nat) : isq n * isq n ≤ n ∧ n < (isq n + 1) * (isq n + 1) := by
  induction n with
  | zero => simp [isq]
  | succ n ih =>
    obtain ⟨h1, h2⟩ := ih
    unfold isq
    generalize isq n = r at *
    have e1 : (r + 1) * (r + 1) = r * r + 2 * r + 1 := by grind
    have e2 : (r + 1 + 1) * (r + 1 + 1) = r * r + 4 * r + 4 := by grind
    split
    · next h => exact ⟨h, by omega⟩
    · next h => exact ⟨by omega, by omega⟩
theorem isq_uniq {n r : Nat} (h1 : r * r ≤ n) (h2 : n < (r + 1) * (r + 1)) : isq n = r := by
  obtain ⟨g1, g2⟩ := isq_spec n
  rcases Nat.lt_trichotomy (isq n) r with h | h | h
  · have : (isq n + 1) * (isq n + 1) ≤ r * r := Nat.mul_le_mul h h
    omega
  · exact h
  · have : (r + 1) * (r + 1) ≤ isq n * isq n := Nat.mul_le_mul h h
    omega
theorem le_isq {n r : Nat} (h : r * r ≤ n) : r ≤ isq n := by
  obtain ⟨g1, g2⟩ := isq_spec n
  rcases Nat.lt_or_ge (isq n) r with h1 | h1
  · have : (isq n + 1) * (isq n + 1) ≤ r * r := Nat.mul_le_mul h1 h1
    omega
  · exact h1
/-- Newton's step stays above the root -/
theorem newton_ge {a s : Nat} (hs : 0 < s) : isq a ≤ (s + a / s) / 2 := by
  have h1 := (isq_spec a).1
  have h3 : a < s * (a / s + 1) := Nat.lt_mul_div_succ a hs
  generalize isq a = r at *
  generalize a / s = g at *
  rcases Nat.lt_or_ge ((s + g) / 2) r with h | h
  · exfalso
    have h2 : s + g + 1 ≤ 2 * r := by omega
    -- s * (2 r - s) < r * r contradicts
    have h4 : s * (g + 1) ≤ s * (2 * r - s) := Nat.mul_le_mul_left _ (by omega)
    have h5 : s * (2 * r - s) ≤ r * r := by
      obtain ⟨t, ht⟩ : ∃ t, 2 * r = s + t := ⟨2 * r - s, by omega⟩
      rw [show 2 * r - s = t by omega]
      have : 4 * (s * t) ≤ (s + t) * (s + t) := by
        rcases Nat.le_total s t with h | h
        · obtain ⟨d, rfl⟩ := Nat.le.dest h; grind
        · obtain ⟨d, rfl⟩ := Nat.le.dest h; grind
      rw [← ht] at this
      have e : 2 * r * (2 * r) = 4 * (r * r) := by grind
      omega
    omega
  · exact h
theorem newton_stop {a s : Nat} (h : isq a ≤ s) (h2 : s ≤ (s + a / s) / 2) : isq a = s := by
  have h3 : s ≤ a / s := by omega
  have h4 : s * s ≤ a := by
    have := Nat.mul_le_mul_left s h3
    have := Nat.mul_div_le a s
    omega
  exact Nat.le_antisymm h (le_isq h4)
theorem isq_pos {a : Nat} (h : 0 < a) : 0 < isq a := le_isq (r := 1) (by omega)
theorem isq_le (a : Nat) : isq a ≤ a := by
  have := (isq_spec a).1
  rcases Nat.eq_zero_or_pos (isq a) with h | h
  · omega
  · have := Nat.le_mul_of_pos_left (isq a) h; omega
theorem start_ge (a : Nat) : isq a ≤ 2 ^ ((blen a + 1) / 2) := by
  obtain ⟨h1, _⟩ := isq_spec a
  have h2 := blen_lt (n := a)
  rcases Nat.lt_or_ge (2 ^ ((blen a + 1) / 2)) (isq a) with h | h
  · exfalso
    have h3 := Nat.mul_lt_mul'' h h
    rw [← Nat.pow_add] at h3
    have h4 : 2 ^ blen a ≤ 2 ^ ((blen a + 1) / 2 + (blen a + 1) / 2) := Nat.pow_le_pow_right (by omega) (by omega)
    omega
  · exact h
theorem start_le {a : Nat} (h : 0 < a) : 2 ^ ((blen a + 1) / 2) ≤ 2 * a := by
  have h1 := blen_ge h
  have h0 : 0 < blen a := by
    rcases Nat.eq_zero_or_pos (blen a) with e | e
    · have := blen_lt (n := a); rw [e] at this; omega
    · exact e
  have h2 : 2 ^ ((blen a + 1) / 2) ≤ 2 ^ (blen a - 1 + 1) := Nat.pow_le_pow_right (by omega) (by omega)
  rw [Nat.pow_succ] at h2
  omega
theorem blen_L {n : Nat} {z : Int} (h : L n z) : blen z.natAbs ≤ 2 ^ n := blen_le h
/-- whether a number is a square -/
def isSq (z : Int) : Bool := decide (0 ≤ z) && decide (isq z.toNat * isq z.toNat = z.toNat)
theorem isSq_iff {z : Int} : isSq z = true ↔ ∃ k : Int, z = k * k := by
  unfold isSq
  rw [Bool.and_eq_true, decide_eq_true_iff, decide_eq_true_iff]
  constructor
  · rintro ⟨h1, h2⟩
    refine ⟨(isq z.toNat : Nat), ?_⟩
    have : ((isq z.toNat * isq z.toNat : Nat) : Int) = (z.toNat : Int) := by exact_mod_cast h2
    rw [Int.natCast_mul] at this
    omega
  · rintro ⟨k, rfl⟩
    have h : 0 ≤ k * k := by rw [← Int.natAbs_mul_self (a := k)]; exact Int.natCast_nonneg _
    refine ⟨h, ?_⟩
    have e : (k * k).toNat = k.natAbs * k.natAbs := by
      have := Int.natAbs_mul_self (a := k); omega
    rw [e, isq_uniq (r := k.natAbs) (Nat.le_refl _) (by grind)]
end Go.AM
end

section
/- min, max; short names of results; facts for package integer. -/
namespace Go.AM
open Go Go.RowKit
section ops
variable {P : Program}
variable {dst : Option Nat} {ty : TypeId} {pos : String} {af : Array Edge} {gd : Option (Nat × Bool)} {d : Nat} {ρ : Operand → AV} {own : Own}
variable {x y : Operand} {k k' : IntKind} {m n : Int} {tys : Array TypeId}
theorem op_max (hx : ρ x = .p (.c (.v (.int k m)))) (hy : ρ y = .p (.c (.v (.int k' n)))) : Eff P ⟨dst, .call ⟨.builtin .max, #[x, y], tys⟩, ty, pos, af, gd⟩ d ρ own (.p (.c (.v (.int k (if n > m then n else m))))) [] none [] :=
  builtin_run (fun C h r own' a w hrep _ => by
    have e1 := hrep x (by simp)
    have e2 := hrep y (by simp)
    rw [hx] at e1; rw [hy] at e2
    simp [builtin, rep_val e1, rep_val e2, run_max_int2]) rfl
end ops
abbrev PI (z : Int) : PV := .a [zn z, zm z]
abbrev PE (e : Int) : PV := .c (.v (.int .i64 e))
abbrev PB (b : Bool) : PV := .c (.v (.bool b))
theorem wl_len_zero {x : Int} : ((wl x.natAbs).length : Int) = 0 ↔ x = 0 := by
  constructor
  · intro h; have := wl_len0 (m := x.natAbs) (by omega); omega
  · rintro rfl; rfl
theorem sgn_neg {x : Int} (h : decide (x < 0) = true) : sgn x = -1 := by
  have := of_decide_eq_true h
  unfold sgn; rw [if_neg (by omega), if_pos this]
theorem sgn_pos {x : Int} (h0 : x ≠ 0) (h : decide (x < 0) = false) : sgn x = 1 := by
  have := of_decide_eq_false h
  unfold sgn; rw [if_neg h0, if_neg this]
theorem cmp_diff {x y : Int} (h : (!(decide (x < 0) == decide (y < 0))) = true) : cmpI (sgn x) (sgn y) = cmpI x y := by
  by_cases h1 : x < 0 <;> by_cases h2 : y < 0 <;> simp [h1, h2] at h
  · rw [sgn_neg (decide_eq_true h1), cmpI_lt (a := x) (by omega), cmpI_lt]
    unfold sgn; split <;> (try split) <;> omega
  · rw [sgn_neg (decide_eq_true h2), cmpI_gt (a := x) (by omega), cmpI_gt]
    unfold sgn; split <;> (try split) <;> omega
theorem cmp_same {x y : Int} (h : (!(decide (x < 0) == decide (y < 0))) = false) : IntKind.i64.wrap (cmpI x.natAbs y.natAbs * (if sgn x = 0 then 1 else sgn x)) = cmpI x y := by
  have key : cmpI x.natAbs y.natAbs * (if sgn x = 0 then 1 else sgn x) = cmpI x y := by
    by_cases h1 : x < 0 <;> by_cases h2 : y < 0 <;> simp [h1, h2] at h
    · rw [sgn_neg (decide_eq_true h1)]
      rcases Int.lt_trichotomy x y with h | h | h
      · rw [cmpI_lt h, cmpI_gt (by omega)]; rfl
      · rw [h, cmpI_self, cmpI_self]; rfl
      · rw [cmpI_gt h, cmpI_lt (by omega)]; rfl
    · have e : (if sgn x = 0 then 1 else sgn x) = 1 := by
        unfold sgn
        by_cases h0 : x = 0
        · simp [h0]
        · simp [h0, h1]
      rw [e, Int.mul_one, Int.natAbs_of_nonneg (by omega), Int.natAbs_of_nonneg (by omega)]
  rw [key]
  unfold cmpI
  split
  · rfl
  · split <;> rfl
theorem wrap_u64x (n : Int) : IntKind.u64.wrap n = n % 18446744073709551616 := by simp [IntKind.wrap, IntKind.bits, IntKind.signed]
/-- words of a number of 64 bits -/
theorem wv_two {m : Nat} : wv [m % 4294967296, m / 2 ^ 32] = m := by
  simp only [wv]; omega
theorem okW_two {m : Nat} (h : m < 18446744073709551616) : okW [m % 4294967296, m / 2 ^ 32] := by
  intro x hx
  simp only [List.mem_cons, List.not_mem_nil, or_false] at hx
  rcases hx with rfl | rfl
  · omega
  · omega
theorem sg_abs (b : Bool) (m : Nat) : (sg b m).natAbs = m := by unfold sg; split <;> omega
theorem of_sg {n : Int} : sg (decide (n < 0)) n.natAbs = n := by
  unfold sg; by_cases h : n < 0 <;> simp [h] <;> omega
def InI64 (n : Int) : Prop := -9223372036854775808 ≤ n ∧ n < 9223372036854775808
instance {n : Int} : Decidable (InI64 n) := inferInstanceAs (Decidable (_ ∧ _))
theorem u64_abs {z : Int} (h : InI64 z) : IntKind.u64.wrap (if IntKind.i64.wrap (0 - z) > z then IntKind.i64.wrap (0 - z) else z) = (z.natAbs : Nat) := by
  obtain ⟨h1, h2⟩ := h
  rw [wrap_u64x, IntKind.wrap_i64]
  split <;> omega
theorem u32_lo (m : Nat) : IntKind.u32.wrap (m : Int) = ((m % 4294967296 : Nat) : Int) := by rw [IntKind.wrap_u32]; omega
theorem gcd_step (a b : Int) : Int.gcd b (a % b) = Int.gcd a b := by
  rw [show a % b = a - b * (a / b) by have := Int.emod_def a b; omega, Int.gcd_sub_mul_left_right, Int.gcd_comm]
def rootV (x : Int) : Int := if x < 0 then 0 else isq x.toNat
def rootE (x : Int) : Int := if x < 0 then 1 else 0
theorem rootV_nonneg (x : Int) : 0 ≤ rootV x := by unfold rootV; split <;> omega
theorem rootV_le {x : Int} (h : 0 ≤ x) : rootV x ≤ x := by
  unfold rootV; rw [if_neg (by omega)]; have := isq_le x.toNat; omega
theorem L.rootV {x : Int} {n : Nat} (h : L n x) : L n (rootV x) := by
  rcases Int.lt_or_le x 0 with h1 | h1
  · unfold AM.rootV; rw [if_pos h1]; exact h.of_le (by omega)
  · exact h.of_le (by have := rootV_le h1; have := rootV_nonneg x; omega)
instance LB.rootV {x : Int} {n : Nat} [h : LB x n] : LB (rootV x) n := ⟨h.le.rootV⟩
theorem isSq_root {x : Int} : isSq x = (decide (0 ≤ x) && decide (x - rootV x * rootV x = 0)) := by
  unfold isSq rootV
  by_cases h : x < 0
  · rw [decide_eq_false (by omega)]; rfl
  · rw [if_neg h]
    congr 1
    apply decide_eq_decide.2
    have e : ((isq x.toNat : Nat) : Int) * (isq x.toNat : Nat) = ((isq x.toNat * isq x.toNat : Nat) : Int) := by rw [Int.natCast_mul]
    rw [e]
    omega
end Go.AM
end

section
/- The integer root by Newton's steps. -/
namespace Go.AM
open Go Go.RowKit
theorem blen_zero {m : Nat} (h : blen m = 0) : m = 0 := by
  have := blen_lt (n := m); rw [h] at this; omega
theorem blen_pos {m : Nat} (h : 0 < m) : 0 < blen m := by
  rcases Nat.eq_zero_or_pos (blen m) with e | e
  · have := blen_zero e; omega
  · exact e
theorem rootV_of {x : Int} (h : 0 ≤ x) : rootV x = (isq x.toNat : Nat) := by unfold rootV; rw [if_neg (by omega)]
theorem root_neg {x : Int} (h : x < 0) : rootV x = 0 ∧ rootE x = 1 := by unfold rootV rootE; rw [if_pos h, if_pos h]; exact ⟨rfl, rfl⟩
theorem rootE_nn {x : Int} (h : ¬ x < 0) : rootE x = 0 := by unfold rootE; rw [if_neg h]
theorem root_zero {x : Int} (h : ((blen x.natAbs : Nat) : Int) = 0) : x = 0 := by
  have := blen_zero (m := x.natAbs) (by omega); omega
theorem root_small {x : Int} (h : ¬ x < 0) (h0 : ((blen x.natAbs : Nat) : Int) ≠ 0) (h2 : (2 : Int) ≥ (blen x.natAbs : Nat)) : rootV x = 1 := by
  have h3 := blen_lt (n := x.natAbs)
  have h4 : 2 ^ blen x.natAbs ≤ 2 ^ 2 := Nat.pow_le_pow_right (by omega) (by omega)
  have h5 : x.natAbs ≠ 0 := fun e => h0 (by rw [e]; rfl)
  rw [rootV_of (by omega), isq_uniq (r := 1) (by omega) (by omega)]; rfl
theorem root_start {x : Int} (h : 0 < x) : 0 < ((2 ^ ((blen x.natAbs + 1) / 2) : Nat) : Int) ∧ rootV x ≤ ((2 ^ ((blen x.natAbs + 1) / 2) : Nat) : Int) ∧ ((2 ^ ((blen x.natAbs + 1) / 2) : Nat) : Int) ≤ 2 * x := by
  have e : x.natAbs = x.toNat := by omega
  have h1 := start_ge x.toNat
  have h2 := start_le (a := x.toNat) (by omega)
  have h3 : 0 < 2 ^ ((blen x.toNat + 1) / 2) := Nat.pow_pos (by omega)
  rw [rootV_of (by omega), e]
  generalize 2 ^ ((blen x.toNat + 1) / 2) = s at *
  omega
theorem root_step {x s : Int} (h : 0 < x) (hs : 0 < s) : rootV x ≤ (s * 1 + x / s) / 2 ∧ 0 < (s * 1 + x / s) / 2 := by
  obtain ⟨a, rfl⟩ := Int.eq_ofNat_of_zero_le (show 0 ≤ x by omega)
  obtain ⟨t, rfl⟩ := Int.eq_ofNat_of_zero_le (show 0 ≤ s by omega)
  have h1 := newton_ge (a := a) (s := t) (by omega)
  have h2 := isq_pos (a := a) (by omega)
  rw [rootV_of (by omega), Int.toNat_natCast, Int.mul_one]
  have e : (((t : Nat) : Int) + (a : Nat) / (t : Nat)) / 2 = (((t + a / t) / 2 : Nat) : Int) := by
    rw [Int.natCast_ediv, Int.natCast_add, Int.natCast_ediv]; rfl
  rw [e]; omega
theorem root_stop {x s : Int} (h : 0 < x) (hs : 0 < s) (h1 : rootV x ≤ s) (h2 : s ≤ (s * 1 + x / s) / 2) : rootV x = s := by
  obtain ⟨a, rfl⟩ := Int.eq_ofNat_of_zero_le (show 0 ≤ x by omega)
  obtain ⟨t, rfl⟩ := Int.eq_ofNat_of_zero_le (show 0 ≤ s by omega)
  rw [rootV_of (by omega), Int.toNat_natCast] at *
  have e : (((t : Nat) : Int) * 1 + (a : Nat) / (t : Nat)) / 2 = (((t + a / t) / 2 : Nat) : Int) := by
    rw [Int.mul_one, Int.natCast_ediv, Int.natCast_add, Int.natCast_ediv]; rfl
  rw [e] at h2
  have := newton_stop (a := a) (s := t) (by omega) (by omega)
  omega
theorem cmpI_nonneg {a b : Int} (h : cmpI a b ≥ 0) : b ≤ a := by
  unfold cmpI at h; split at h <;> omega
theorem cmpI_negative {a b : Int} (h : ¬ cmpI a b ≥ 0) : a < b := by
  unfold cmpI at h; split at h
  · assumption
  · split at h <;> omega
theorem okW_one : okW [1] := by intro x hx; simp at hx; omega
theorem sg_shl (k : Nat) : sg false (wv [1] * 2 ^ k) = ((2 ^ k : Nat) : Int) := by simp [sg, wv]
theorem quo2 (b : Nat) (h : b ≤ 1099511627776) : IntKind.i64.wrap (((b : Int) + 2 - 1).tdiv 2) = (((b + 1) / 2 : Nat) : Int) := by
  rw [Int.tdiv_eq_ediv_of_nonneg (by omega)]
  rw [IntWalk.i64_in _ (by omega)]; omega
end Go.AM
end

section
/- Binary quadratic forms: what the functions compute. -/
namespace Go.AM
open Go Go.RowKit
@[ext] structure Fm where
  a : Int
  b : Int
  c : Int
  deriving DecidableEq
@[ext] structure Mt where
  a : Int
  b : Int
  c : Int
  d : Int
  deriving DecidableEq
abbrev FL (a b c : Int) : List DV := [zn a, zm a, zn b, zm b, zn c, zm c]
abbrev ML (a b c d : Int) : List DV := [zn a, zm a, zn b, zm b, zn c, zm c, zn d, zm d]
abbrev FA (a b c : Int) : AV := .p (.a (FL a b c))
abbrev MA (a b c d : Int) : AV := .p (.a (ML a b c d))
abbrev PF (f : Fm) : PV := .a (FL f.a f.b f.c)
abbrev PM (m : Mt) : PV := .a (ML m.a m.b m.c m.d)
def dsc (a b c : Int) : Int := b * b - 4 * a * c
def vl (a b c x y : Int) : Int := a * x * x + b * x * y + c * y * y
def apB (a b c p q r s : Int) : Int := 2 * (a * p * q + c * r * s) + b * (p * s + q * r)
def Fm.disc (f : Fm) : Int := dsc f.a f.b f.c
def Fm.app (f : Fm) (m : Mt) : Fm := ⟨vl f.a f.b f.c m.a m.c, apB f.a f.b f.c m.a m.b m.c m.d, vl f.a f.b f.c m.b m.d⟩
def Mt.mul (m n : Mt) : Mt := ⟨m.a * n.a + m.b * n.c, m.a * n.b + m.b * n.d, m.c * n.a + m.d * n.c, m.c * n.b + m.d * n.d⟩
def Mt.det (m : Mt) : Int := m.a * m.d - m.b * m.c
theorem disc_app (f : Fm) (m : Mt) : (f.app m).disc = f.disc * (m.det * m.det) := by
  simp only [Fm.app, Fm.disc, dsc, vl, apB, Mt.det]; grind
theorem sgn_zero_iff {x : Int} : sgn x = 0 ↔ x = 0 := by unfold sgn; split <;> (try split) <;> omega
theorem sgn_lt_iff {x : Int} : sgn x < 0 ↔ x < 0 := by unfold sgn; split <;> (try split) <;> omega
theorem sgn_le_iff {x : Int} : sgn x ≤ 0 ↔ x ≤ 0 := by unfold sgn; split <;> (try split) <;> omega
theorem isSq_yes {x : Int} (h : (rootE x == 0) = true) : (sgn (if x < 0 then 0 else x - rootV x * rootV x) == 0) = isSq x := by
  have h0 : ¬ x < 0 := fun h1 => by rw [(root_neg h1).2] at h; cases h
  rw [if_neg h0, isSq_root, decide_eq_true (show 0 ≤ x by omega), Bool.true_and, Bool.eq_iff_iff]
  simp [sgn_zero_iff]
theorem isSq_no {x : Int} (h : (rootE x == 0) = false) : false = isSq x := by
  have h0 : x < 0 := by
    rcases Int.lt_or_le x 0 with h1 | h1
    · exact h1
    · rw [rootE_nn (by omega)] at h; cases h
  rw [isSq_root, decide_eq_false (by omega)]; rfl
theorem LB_gcd {b c : Int} {n : Nat} (hb : L n b) (hc : L n c) : LB ((Int.gcd b c : Nat) : Int) n := ⟨by
  by_cases h : b = 0
  · subst h; exact L.of_le hc (by simp)
  · refine L.of_le hb ?_
    rw [Int.natAbs_natCast]
    exact Nat.le_of_dvd (by omega) (by simpa using Int.natAbs_dvd_natAbs.2 (Int.gcd_dvd_left ..))⟩
theorem cmpI_eq_zero {a b : Int} : cmpI a b = 0 ↔ a = b := by
  constructor
  · exact cmpI_eq
  · rintro rfl; exact cmpI_self a
theorem cmpI_le_zero {a b : Int} : cmpI a b ≤ 0 ↔ a ≤ b := by unfold cmpI; split <;> (try split) <;> omega
theorem cmpI_lt_zero {a b : Int} : cmpI a b < 0 ↔ a < b := by unfold cmpI; split <;> (try split) <;> omega
theorem cmpI_gt_zero {a b : Int} : cmpI a b > 0 ↔ b < a := by unfold cmpI; split <;> (try split) <;> omega
end Go.AM
end

section
/- Reduced forms: the test's cases. -/
namespace Go.AM
open Go Go.RowKit
section
end
end Go.AM
end

section
/- Reduction of forms. -/
namespace Go.AM
open Go Go.RowKit
/-- positive definite -/
def Fm.pos (f : Fm) : Prop := 0 < f.a ∧ f.disc < 0
theorem sq_nonneg' (x : Int) : 0 ≤ x * x := by
  rcases Int.le_total 0 x with h | h
  · exact Int.mul_nonneg h h
  · exact Int.mul_nonneg_of_nonpos_of_nonpos h h
theorem abs_le_of_sq {x : Int} {m : Int} (hm : 0 ≤ m) (h : x * x ≤ m * m) : (x.natAbs : Int) ≤ m := by
  rcases Int.lt_or_le m (x.natAbs : Int) with h1 | h1
  · exfalso
    have h2 : m * m < (x.natAbs : Int) * x.natAbs := Int.mul_self_lt_mul_self hm h1
    rw [Int.natAbs_mul_self'] at h2
    omega
  · exact h1
theorem Fm.pos.c {f : Fm} (h : f.pos) : 0 < f.c := by
  obtain ⟨h1, h2⟩ := h
  unfold Fm.disc dsc at h2
  have h3 := sq_nonneg' f.b
  rcases Int.lt_or_le 0 f.c with h4 | h4
  · exact h4
  · have : f.a * f.c ≤ 0 := Int.mul_nonpos_of_nonneg_of_nonpos (by omega) h4
    have e : 4 * f.a * f.c = 4 * (f.a * f.c) := by rw [Int.mul_assoc]
    omega
theorem disc_T {f : Fm} {m : Mt} (h : m.det = 1) : (f.app m).disc = f.disc := by rw [disc_app, h]; omega
/-- bounds that stay: the ends of the form are at most M -/
structure Good (f0 : Fm) (M : Int) (s : Fm × Mt) : Prop where
  eq : s.1 = f0.app s.2
  det : s.2.det = 1
  pos : s.1.pos
  ha : s.1.a ≤ M
  hc : s.1.c ≤ M
theorem isSq_neg {x : Int} (h : x < 0) : isSq x = false := by unfold isSq; rw [decide_eq_false (by omega)]; rfl
end Go.AM
end

section
/- Sizes in a reduction; contracts under other names. -/
namespace Go.AM
open Go Go.RowKit
theorem disc_mod (a b c : Int) : (b * b - 4 * a * c) % 4 = 0 ∨ (b * b - 4 * a * c) % 4 = 1 := by
  have e : 4 * a * c = 4 * (a * c) := by rw [Int.mul_assoc]
  rw [e]
  have h : b * b % 4 = 0 ∨ b * b % 4 = 1 := by
    have h1 := Int.emod_add_mul_ediv b 2
    rcases Int.emod_two_eq b with h2 | h2
    · left
      rw [h2] at h1
      have : b * b = 4 * (b / 2 * (b / 2)) := by rw [← h1]; grind
      omega
    · right
      rw [h2] at h1
      have : b * b = 4 * (b / 2 * (b / 2) + b / 2) + 1 := by grind
      omega
  omega
theorem disc_le {f : Fm} (h : f.pos) : f.b * f.b - 4 * f.a * f.c ≤ -3 := by
  have h1 : f.b * f.b - 4 * f.a * f.c < 0 := h.2
  have h2 := disc_mod f.a f.b f.c
  omega
theorem Good.b {f0 : Fm} {M : Int} {s : Fm × Mt} (h : Good f0 M s) : (s.1.b.natAbs : Int) ≤ 2 * M := by
  have h1 := disc_le h.pos
  have h2 := h.pos.1
  have h3 := h.pos.c
  have h4 : s.1.a * s.1.c ≤ M * M := Int.mul_le_mul h.ha h.hc (by omega) (by have := h.ha; omega)
  refine abs_le_of_sq (by have := h.ha; omega) ?_
  have e2 : 2 * M * (2 * M) = 4 * (M * M) := by grind
  have e : 4 * s.1.a * s.1.c = 4 * (s.1.a * s.1.c) := by rw [Int.mul_assoc]
  omega
structure LM (n : Nat) (m : Mt) : Prop where
  a : L n m.a
  b : L n m.b
  c : L n m.c
  d : L n m.d
section
end
def renV (σ : Nat → Nat) : AV → AV
  | .loc m o => .loc (σ m) o
  | .vec m => .vec (σ m)
  | .fnl f m => .fnl f (σ m)
  | .it m => .it (σ m)
  | .axm R m => .axm R (σ m)
  | v => v
theorem renV_rep {h : Hp} {r : Nat → Value} {σ : Nat → Nat} : ∀ (v : AV) (x : Value), AVRep h r (renV σ v) x → AVRep h (fun n => r (σ n)) v x
  | .p _, _, k => k
  | .t _, _, k => k
  | .loc _ _, _, k => k
  | .vec _, _, k => k
  | .ip _, _, k => k
  | .fn _ _, _, k => k
  | .fnl _ _, _, k => k
  | .it _, _, k => k
  | .axm _ _, _, k => k
  | .ax _, _, k => k
  | .junk, _, k => k
theorem CallM.ren {P : Program} {f : FuncId} {args args2 : List AV} {o o2 o' o2' : Own} {res : AV} (hc : CallM P f args o res o') (σ : Nat → Nat) (hres : men res = [])
    (ha : args2 = args.map (renV σ)) (hinj : ∀ m n, o m ≠ none → o n ≠ none → σ m = σ n → m = n)
    (h1 : ∀ m, o m ≠ none → o2 (σ m) = o m) (_h2 : ∀ n, o2 n ≠ none → ∃ m, o m ≠ none ∧ σ m = n)
    (h3 : ∀ m, o m ≠ none → o2' (σ m) = o' m) (h4 : ∀ n, o2' n ≠ none → ∃ m, o m ≠ none ∧ σ m = n) : CallM P f args2 o2 res o2' := by
  refine ⟨hc.fn, ?_⟩
  intro h r w cargs hra hbf
  have hra' : RepArgs h (fun n => r (σ n)) args cargs.toList := by
    rw [ha] at hra
    have : ∀ (as0 : List AV) (xs : List Value), RepArgs h r (as0.map (renV σ)) xs → RepArgs h (fun n => r (σ n)) as0 xs := by
      intro as0
      induction as0 with
      | nil => intro xs k; cases xs <;> exact k
      | cons p ps ih => intro xs k; cases xs with
        | nil => exact k.elim
        | cons x xs => exact ⟨renV_rep _ _ k.1, ih xs k.2⟩
    exact this _ _ hra
  have e2 : ∀ m, o m ≠ none → o2 (σ m) ≠ none := fun m hm => by rw [h1 m hm]; exact hm
  refine Calls.mono (hc.go h (fun n => r (σ n)) w cargs hra' ⟨fun m b hb => hbf.ow (σ m) b (by rw [h1 m (by rw [hb]; simp)]; exact hb), fun m n k hm hn e f => hinj m n hm hn (hbf.inj _ _ k (e2 m hm) (e2 n hn) e f), hbf.hi, fun m k hm e => hbf.ho _ k (e2 m hm) e, hbf.gl⟩) ?_
  rintro e w' ⟨v, h', rfl, hv, q⟩
  refine ⟨v, h', rfl, AVRep.rebind _ _ (fun m hm => by rw [hres] at hm; simp at hm) hv, ?_⟩
  refine ⟨fun n b hb => ?_, fun n hn => ?_, q.hi, fun n k hn e => ?_, q.os, q.tape, q.output, q.size, fun k hk hno => q.old k hk ?_, q.hg, fun k hk => ?_⟩
  · obtain ⟨m, hm, rfl⟩ := h4 n (by rw [hb]; simp)
    exact q.ow m b (by rw [← h3 m hm]; exact hb)
  · obtain ⟨m, hm, rfl⟩ := h4 n hn
    exact e2 m hm
  · obtain ⟨m, hm, rfl⟩ := h4 n hn
    exact q.ho m k (by rw [← h3 m hm]; exact hn) e
  · rintro ⟨m, hm, e⟩
    exact hno ⟨σ m, e2 m hm, e⟩
  · rcases q.hn k hk with g | g | ⟨m, hm, e⟩
    · exact .inl g
    · exact .inr (.inl g)
    · exact .inr (.inr ⟨σ m, e2 m hm, e⟩)
/-- one owned block: its name is free -/
theorem CallM.ren1 {P : Program} {f : FuncId} {args args2 : List AV} {b b' : Blk} {res : AV} (m : Nat) (hc : CallM P f args (upd O 0 (some b)) res (upd O 0 (some b'))) (hres : men res = []) (ha : args2 = args.map (renV fun _ => m)) :
    CallM P f args2 (upd O m (some b)) res (upd O m (some b')) := by
  have z : ∀ (b : Blk) (k n : Nat), upd O k (some b) n ≠ none → n = k := fun b k n hn => by
    by_cases e : n = k
    · exact e
    · rw [upd_ne _ _ _ _ e] at hn; exact absurd rfl hn
  refine hc.ren (fun _ => m) hres ha (fun p q hp hq _ => by rw [z _ _ _ hp, z _ _ _ hq]) (fun p hp => by rw [z _ _ _ hp]; simp) (fun n hn => ⟨0, by simp, (z _ _ _ hn).symm⟩) (fun p hp => by rw [z _ _ _ hp]; simp) (fun n hn => ⟨0, by simp, (z _ _ _ hn).symm⟩)
/-- two owned blocks -/
theorem CallM.ren2 {P : Program} {f : FuncId} {args args2 : List AV} {b b' c c' : Blk} {res : AV} (m n : Nat) (hmn : Nat.beq m n = false) (hc : CallM P f args (upd (upd O 0 (some b)) 1 (some c)) res (upd (upd O 0 (some b')) 1 (some c'))) (hres : men res = []) (ha : args2 = args.map (renV fun k => bif Nat.beq k 0 then m else n)) :
    CallM P f args2 (upd (upd O m (some b)) n (some c)) res (upd (upd O m (some b')) n (some c')) := by
  have hne : m ≠ n := fun e => by rw [e, Nat.beq_refl] at hmn; cases hmn
  have z : ∀ (b c : Blk) (k l q : Nat), upd (upd O k (some b)) l (some c) q ≠ none → q = k ∨ q = l := fun b c k l q hn => by
    by_cases e : q = l
    · exact .inr e
    · rw [upd_ne _ _ _ _ e] at hn
      by_cases e2 : q = k
      · exact .inl e2
      · rw [upd_ne _ _ _ _ e2] at hn; exact absurd rfl hn
  have s0 : (fun k => bif Nat.beq k 0 then m else n) 0 = m := rfl
  have s1 : (fun k => bif Nat.beq k 0 then m else n) 1 = n := rfl
  refine hc.ren (fun k => bif Nat.beq k 0 then m else n) hres ha (fun p q hp hq e => ?_) (fun p hp => ?_) (fun q hq => ?_) (fun p hp => ?_) (fun q hq => ?_)
  · rcases z _ _ _ _ _ hp with rfl | rfl <;> rcases z _ _ _ _ _ hq with rfl | rfl
    · rfl
    · exact absurd e hne
    · exact absurd e.symm hne
    · rfl
  · rcases z _ _ _ _ _ hp with rfl | rfl
    · show upd _ _ _ m = _; rw [upd_ne _ _ _ _ hne, upd_same]; rfl
    · show upd _ _ _ n = _; simp
  · rcases z _ _ _ _ _ hq with rfl | rfl
    · exact ⟨0, by show some b ≠ none; simp, rfl⟩
    · exact ⟨1, by simp, rfl⟩
  · rcases z _ _ _ _ _ hp with rfl | rfl
    · show upd _ _ _ m = _; rw [upd_ne _ _ _ _ hne, upd_same]; rfl
    · show upd _ _ _ n = _; simp
  · rcases z _ _ _ _ _ hq with rfl | rfl
    · exact ⟨0, by show some b ≠ none; simp, rfl⟩
    · exact ⟨1, by simp, rfl⟩
theorem upd1_lt {b : Blk} : ∀ m, upd O 0 (some b) m ≠ none → m < 1 := fun m hm => by
  by_cases e : m = 0
  · omega
  · rw [upd_ne _ _ _ _ e] at hm; exact absurd rfl hm
theorem upd1_dom {b b' : Blk} : ∀ m, upd O 0 (some b') m ≠ none → upd O 0 (some b) m ≠ none := fun m hm => by
  by_cases e : m = 0
  · subst e; simp
  · rw [upd_ne _ _ _ _ e] at hm; exact absurd rfl hm
theorem own_end1 {s : St} {b : Blk} (h : s.own 0 = some b) : ∀ m c, upd O 0 (some b) m = some c → s.own m = some c := fun m c hm => by
  by_cases e : m = 0
  · subst e; rw [upd_same] at hm; rw [h, hm]
  · rw [upd_ne _ _ _ _ e] at hm; cases hm
theorem upd1_mem {k : Nat} {b : Blk} : ∀ m, upd O k (some b) m ≠ none → m ∈ [k] := fun m hm => by
  by_cases e : m = k
  · simp [e]
  · rw [upd_ne _ _ _ _ e] at hm; exact absurd rfl hm
theorem own1 {own : Own} {k : Nat} {b : Blk} (h : own k = some b) : ∀ m ∈ [k], own m = upd O k (some b) m := fun m hm => by
  rw [List.mem_singleton.1 hm, upd_same, h]
end Go.AM
end

section
/- The reference's integers: words of a list, comparison, principal forms. -/
namespace Go.AM
open Go Go.RowKit
def prE (d : Int) : Int := if 1 < d % 4 ∨ isSq d = true then 5 else 0
def prF (d : Int) : Fm := if prE d = 0 then ⟨1, d % 4, -(d / 4)⟩ else ⟨0, 0, 0⟩
theorem pr_no {d : Int} (h : 1 < d % 4 ∨ isSq d = true) : AV.t [PF ⟨0, 0, 0⟩, PE 5] = AV.t [PF (prF d), PE (prE d)] := by
  have h1 : prE d = 5 := if_pos h
  unfold prF; rw [h1, if_neg (by decide)]
theorem pr_yes {d : Int} (h : ¬ 1 < d % 4) (h2 : isSq d = false) : AV.t [PF ⟨1, d % 4, -(d / 4)⟩, PE 0] = AV.t [PF (prF d), PE (prE d)] := by
  have h1 : prE d = 0 := if_neg (fun x => x.elim h (fun y => by rw [h2] at y; cases y))
  unfold prF; rw [h1, if_pos rfl]
/-- a word of a list, 0 beyond its end -/
def wd (ws : List Nat) (i : Int) : Nat := if i < 0 then 0 else ws.getD i.toNat 0
theorem wd_out {ws : List Nat} {i : Int} (h : i < 0 ∨ (ws.length : Int) ≤ i) : wd ws i = 0 := by
  unfold wd; split
  · rfl
  · rw [List.getD_eq_getElem?_getD, List.getElem?_eq_none (by omega)]; rfl
theorem wd_in {ws : List Nat} {i : Int} (h : 0 ≤ i) : wd ws i = ws.getD i.toNat 0 := by unfold wd; rw [if_neg (by omega)]
theorem wd_nat (ws : List Nat) (i : Nat) : wd ws (i : Int) = ws.getD i 0 := by rw [wd_in (by omega), Int.toNat_natCast]
theorem wd_lt {ws : List Nat} (h : okW ws) (i : Int) : wd ws i < 4294967296 := by
  unfold wd; split
  · omega
  · exact h.getD _
theorem cmpI_antisymm (a b : Int) : cmpI (-a) (-b) = cmpI b a := by unfold cmpI; split <;> split <;> (try split) <;> (try split) <;> omega
theorem cmp_len_lt {m n : Nat} (_h : ((wl m).length : Int) ≠ ((wl n).length : Int)) (h2 : ((wl m).length : Int) < ((wl n).length : Int)) : -1 = cmpI m n := by
  rw [cmpI_lt]; have := lt_of_wl_len (m := m) (n := n) (by omega); omega
theorem cmp_len_gt {m n : Nat} (h : ((wl m).length : Int) ≠ ((wl n).length : Int)) (h2 : ¬ ((wl m).length : Int) < ((wl n).length : Int)) : 1 = cmpI m n := by
  rw [cmpI_gt]; have := lt_of_wl_len (m := n) (n := m) (by omega); omega
theorem cmp_word' {m n k : Nat} (hl : (wl m).length = (wl n).length) (hk : k < (wl m).length) (he : (wl m).drop (k + 1) = (wl n).drop (k + 1)) (h : cmpI ((wl m).getD k 0) ((wl n).getD k 0) ≠ 0) :
    cmpI (((wl m).getD k 0 : Nat) : Int) (((wl n).getD k 0 : Nat) : Int) = cmpI m n := by
  have := cmp_word (wl_ok m) (wl_ok n) hl hk he h
  rwa [wv_wl, wv_wl] at this
theorem u64_nonneg {z : Int} : IntKind.u64.wrap z = (((z % 18446744073709551616).toNat : Nat) : Int) := by rw [wrap_u64x]; omega
theorem u64_negc {z : Int} (hz : InI64 z) (h : z < 0) : IntKind.u64.wrap (0 - (((z % 18446744073709551616).toNat : Nat) : Int)) = (z.natAbs : Nat) := by
  obtain ⟨h1, h2⟩ := hz
  rw [wrap_u64x]; omega
theorem of_lo {z : Int} (hz : InI64 z) (h : ¬ z < 0) : IntKind.u32.wrap (((z % 18446744073709551616).toNat : Nat) : Int) = ((z.natAbs % 4294967296 : Nat) : Int) := by
  obtain ⟨h1, h2⟩ := hz
  rw [u32_lo]; omega
theorem of_hi {z : Int} (hz : InI64 z) (h : ¬ z < 0) : IntKind.u32.wrap (((z % 18446744073709551616).toNat / 2 ^ 32 : Nat) : Int) = ((z.natAbs / 2 ^ 32 : Nat) : Int) := by
  obtain ⟨h1, h2⟩ := hz
  rw [u32_lo]; omega
theorem of_hi' {z : Int} (hz : InI64 z) : IntKind.u32.wrap ((z.natAbs / 2 ^ 32 : Nat) : Int) = ((z.natAbs / 2 ^ 32 : Nat) : Int) := by
  obtain ⟨h1, h2⟩ := hz
  rw [u32_lo]; omega
theorem ref_cmp {x y : Int} (h : (!(decide (x < 0) == decide (y < 0))) = true) : cmpI x y = if x < 0 then -1 else 1 := by
  by_cases h1 : x < 0 <;> by_cases h2 : y < 0 <;> simp [h1, h2] at h ⊢
  · exact cmpI_lt (by omega)
  · exact cmpI_gt (by omega)
theorem ref_cmp_neg {x y : Int} (h : (!(decide (x < 0) == decide (y < 0))) = false) (h1 : x < 0) : cmpI y.natAbs x.natAbs = cmpI x y := by
  have h2 : y < 0 := by simpa [h1] using h
  rw [← cmpI_antisymm y x]
  congr 1 <;> omega
theorem ref_cmp_pos {x y : Int} (h : (!(decide (x < 0) == decide (y < 0))) = false) (h1 : ¬ x < 0) : cmpI x.natAbs y.natAbs = cmpI x y := by
  have h2 : ¬ y < 0 := by simpa [h1] using h
  congr 1 <;> omega
theorem same_eq {x y : Int} (h : (decide (x < 0) == decide (y < 0)) = true) : (cmpI x.natAbs y.natAbs == 0) = decide (x = y) := by
  have h' : (x < 0) ↔ (y < 0) := by simpa using h
  rw [Bool.eq_iff_iff, beq_iff_eq, cmpI_eq_zero, decide_eq_true_iff]
  omega
theorem same_ne {x y : Int} (h : (decide (x < 0) == decide (y < 0)) = false) : false = decide (x = y) := by
  symm; apply decide_eq_false
  rintro rfl; simp at h
end Go.AM
end

section
/- A slice under another name; sums digit by digit. -/
namespace Go.AM
open Go Go.RowKit
def rnS (m d : Nat) (b : Blk) (s : St) : St := ⟨fun t => renV (fun k => bif Nat.beq k m then d else k) ((kill [d] s).regs t), upd (upd (kill [d] s).own m none) d (some b)⟩
theorem AWp_rn {P : Program} {B : Bool} {N np : Nat} {Q : Exit → St → Prop} {s : St} {c : Code} (m d : Nat) {b : Blk} (hb : s.own m = some b) (hd : Nat.beq m d = false) (hp : Nat.ble np d = true) (h : AWp P B N np c Q (rnS m d b s)) (hl0 : lnk b = [] := by rfl) : AWp P B N np c Q s := by
  have hne : m ≠ d := fun e => by rw [e, Nat.beq_refl] at hd; cases hd
  intro ro hB C hh r a w hn hc
  have hk := kill_conc [d] hc
  have hown : (kill [d] s).own d = none := kill_own [d] s d (by simp)
  have hmen := kill_men [d] s d (by simp)
  have hm : (kill [d] s).own m = some b := by
    have : (kill [d] s).own m = s.own m := by
      show (bif [d].contains m then none else killO [d] (s.own m)) = s.own m
      have : [d].contains m = false := by simp; exact hne
      rw [this, hb]
      show some (killB [d] b) = some b
      unfold killB; rw [hl0]; rfl
    rw [this]; exact hb
  have hbr := hk.wk.ow m b hm
  have hw := hk.wk.rename (m := m) (d := d) (v := r m) (b := b) (by rw [hm]; simp) hown (by rw [hn.1]; exact Nat.le_of_ble_eq_true hp) (fun _ e => e) hbr (kill_lnk [d] s d (by simp)) hl0
  refine h ro hB C hh (upd r d (r m)) a w hn ⟨hk.sz, hk.df, fun t => ?_, hw⟩
  have hr := hk.rg t
  have hmt := hmen t
  show AVRep hh (upd r d (r m)) (renV (fun k => bif Nat.beq k m then d else k) ((kill [d] s).regs t)) _
  generalize (kill [d] s).regs t = v at hr hmt
  have key : ∀ k, d ≠ k → upd r d (r m) (bif Nat.beq k m then d else k) = r k := fun k hk => by
    cases e : Nat.beq k m with
    | true => rw [Nat.eq_of_beq_eq_true e]; simp
    | false => simp only [cond_false]; rw [upd_ne _ _ _ _ (fun x => hk x.symm)]
  cases v with
  | loc k o =>
    obtain ⟨q, h1, h2⟩ := hr
    exact ⟨q, by rw [key k (by simpa [men] using hmt)]; exact h1, h2⟩
  | vec k =>
    show _ = upd r d (r m) _
    rw [key k (by simpa [men] using hmt)]; exact hr
  | p v => exact hr
  | t vs => exact hr
  | ip xs => exact hr
  | fn f caps => exact hr
  | fnl f k =>
    obtain ⟨q, h1, h2⟩ := hr
    exact ⟨q, by rw [key k (by simpa [men] using hmt)]; exact h1, h2⟩
  | it k =>
    obtain ⟨q, h1, h2⟩ := hr
    exact ⟨q, by rw [key k (by simpa [men] using hmt)]; exact h1, h2⟩
  | axm R k =>
    intro h' hq
    show R h' (upd r d (r m) _) _
    rw [key k (by simpa [men] using hmt)]
    exact hr h' hq
  | ax R => exact hr
  | junk => exact hr
/-- the n least words of a number -/
def dgs : Nat → Nat → List Nat
  | 0, _ => []
  | n + 1, v => v % 4294967296 :: dgs n (v / 4294967296)
theorem dgs_length : ∀ (n v : Nat), (dgs n v).length = n
  | 0, _ => rfl
  | n + 1, v => by simp [dgs, dgs_length n]
theorem dgs_ok : ∀ (n v : Nat), okW (dgs n v)
  | 0, _ => okW.nil
  | n + 1, v => by
    intro x hx
    rcases List.mem_cons.1 hx with hx | hx
    · omega
    · exact dgs_ok n _ x hx
theorem dgs_of : ∀ (l : List Nat), okW l → dgs l.length (wv l) = l
  | [], _ => rfl
  | x :: l, h => by
    have hx := h x (by simp)
    simp only [List.length_cons, dgs, wv]
    rw [show (x + 4294967296 * wv l) % 4294967296 = x by omega, show (x + 4294967296 * wv l) / 4294967296 = wv l by omega, dgs_of l fun y hy => h y (by simp [hy])]
theorem wv_dgs : ∀ (n v : Nat), v < 4294967296 ^ n → wv (dgs n v) = v
  | 0, v, h => by simp at h; subst h; rfl
  | n + 1, v, h => by
    simp only [dgs, wv]
    rw [wv_dgs n (v / 4294967296) (by rw [Nat.pow_succ] at h; exact Nat.div_lt_of_lt_mul (by omega))]
    omega
theorem wv_take_wd (l : List Nat) (k : Nat) : wv (l.take (k + 1)) = wv (l.take k) + 4294967296 ^ k * wd l k := by
  rw [wv_take_succ, wd_nat]
/-- one round of a sum -/
theorem plus_round {a b o : List Nat} {c : Nat} (hv : wv o + 4294967296 ^ o.length * c = wv (a.take o.length) + wv (b.take o.length)) :
    wv (o ++ [(c + (wd a o.length + wd b o.length)) % 4294967296]) + 4294967296 ^ (o.length + 1) * ((c + (wd a o.length + wd b o.length)) / 4294967296) = wv (a.take (o.length + 1)) + wv (b.take (o.length + 1)) := by
  rw [wv_snoc, wv_take_wd, wv_take_wd, Nat.pow_succ]
  generalize wd a o.length = x at *
  generalize wd b o.length = y at *
  generalize 4294967296 ^ o.length = p at *
  have e := Nat.div_add_mod (c + (x + y)) 4294967296
  generalize (c + (x + y)) / 4294967296 = q at *
  generalize (c + (x + y)) % 4294967296 = s at *
  have e2 : p * c + p * x + p * y = p * s + p * 4294967296 * q := by
    rw [← Nat.mul_add, ← Nat.mul_add, Nat.mul_assoc, ← Nat.mul_add]; congr 1; omega
  omega
/-- one round of a difference; the borrow is 0 or 1 -/
theorem minus_round {a b o : List Nat} {c : Nat} (ha : okW a) (hb : okW b) (hc : c ≤ 1) (hv : wv o + wv (b.take o.length) = wv (a.take o.length) + 4294967296 ^ o.length * c) :
    wv (o ++ [(4294967296 + wd a o.length - wd b o.length - c) % 4294967296]) + wv (b.take (o.length + 1)) = wv (a.take (o.length + 1)) + 4294967296 ^ (o.length + 1) * (1 - (4294967296 + wd a o.length - wd b o.length - c) / 4294967296) := by
  have h1 := wd_lt ha o.length
  have h2 := wd_lt hb o.length
  rw [wv_snoc, wv_take_wd, wv_take_wd, Nat.pow_succ]
  generalize wd a o.length = x at *
  generalize wd b o.length = y at *
  generalize 4294967296 ^ o.length = p at *
  obtain ⟨t, ht⟩ : ∃ t, t = 4294967296 + x - y - c := ⟨_, rfl⟩
  rw [← ht]
  have hq : t / 4294967296 = 0 ∨ t / 4294967296 = 1 := by omega
  have e := Nat.div_add_mod t 4294967296
  generalize t % 4294967296 = s at *
  rcases hq with hq | hq
  · rw [hq] at e ⊢
    have e2 : p * s + p * y + p * c = p * x + p * 4294967296 * 1 := by
      rw [← Nat.mul_add, ← Nat.mul_add, Nat.mul_assoc, ← Nat.mul_add]; congr 1; omega
    omega
  · rw [hq] at e ⊢
    have e2 : p * s + p * y + p * c = p * x := by
      rw [← Nat.mul_add, ← Nat.mul_add]; congr 1; omega
    omega
theorem plus_end {a b o : List Nat} {c : Nat} (ho : okW o) (hc : c < 4294967296) (ha : a.length ≤ o.length) (hb : b.length ≤ o.length) (hv : wv o + 4294967296 ^ o.length * c = wv (a.take o.length) + wv (b.take o.length)) :
    o ++ [c % 4294967296] = dgs (o.length + 1) (wv a + wv b) := by
  rw [List.take_of_length_le ha, List.take_of_length_le hb] at hv
  rw [Nat.mod_eq_of_lt hc]
  have h := dgs_of (o ++ [c]) (ho.snoc hc)
  rw [List.length_append, wv_snoc, hv] at h
  exact h.symm
theorem minus_end {a b o : List Nat} {c : Nat} (ho : okW o) (hl : o.length = a.length) (hb : b.length ≤ a.length) (hab : wv b ≤ wv a) (hv : wv o + wv (b.take o.length) = wv (a.take o.length) + 4294967296 ^ o.length * c) :
    o = dgs a.length (wv a - wv b) := by
  rw [List.take_of_length_le (by omega), List.take_of_length_le (by omega)] at hv
  have h1 := wv_lt ho
  have hc : c = 0 := by
    rcases Nat.eq_zero_or_pos c with h | h
    · exact h
    · have := Nat.le_mul_of_pos_right (4294967296 ^ o.length) h
      omega
  subst hc
  have h := dgs_of o ho
  rw [hl, show wv o = wv a - wv b by omega] at h
  exact h.symm
theorem plus_val (m n : Nat) : wv (dgs ((if ((wl n).length : Int) > (wl m).length then ((wl n).length : Int) else (wl m).length).toNat + 1) (wv (wl m) + wv (wl n))) = m + n := by
  rw [wv_wl, wv_wl]
  refine wv_dgs _ _ ?_
  have h1 := wl_len_lt m
  have h2 := wl_len_lt n
  have key : ∀ k, (wl m).length ≤ k → (wl n).length ≤ k → m + n < 4294967296 ^ (k + 1) := by
    intro k hk1 hk2
    have g1 : 4294967296 ^ (wl m).length ≤ 4294967296 ^ k := Nat.pow_le_pow_right (by decide) hk1
    have g2 : 4294967296 ^ (wl n).length ≤ 4294967296 ^ k := Nat.pow_le_pow_right (by decide) hk2
    rw [Nat.pow_succ]
    generalize 4294967296 ^ k = p at *
    omega
  apply key
  · split <;> omega
  · split <;> omega
theorem minus_val {m n : Nat} : wv (dgs (wl m).length (wv (wl m) - wv (wl n))) = m - n := by
  rw [wv_wl, wv_wl]
  refine wv_dgs _ _ ?_
  have h1 := wl_len_lt m
  omega
section add
variable {x y : Int}
theorem add_same' (h : (decide (x < 0) == decide (y < 0)) = true) : sg (decide (x < 0)) (x.natAbs + y.natAbs) = x + y := by
  have := add_same h; rwa [wv_wl, wv_wl] at this
theorem add_lt' (h : (decide (x < 0) == decide (y < 0)) = false) (hc : x.natAbs < y.natAbs) : sg (decide (y < 0)) (y.natAbs - x.natAbs) = x + y := by
  have := add_lt h hc; rwa [wv_wl, wv_wl] at this
theorem add_ge' (h : (decide (x < 0) == decide (y < 0)) = false) (hc : y.natAbs ≤ x.natAbs) : sg (decide (x < 0)) (x.natAbs - y.natAbs) = x + y := by
  have := add_ge h hc; rwa [wv_wl, wv_wl] at this
end add
theorem mul_sg' (x y : Int) : sg (!(decide (x < 0) == decide (y < 0))) (x.natAbs * y.natAbs) = x * y := by
  have := mul_sg x y; rwa [wv_wl, wv_wl] at this
end Go.AM
end

section
/- A call that hands back a new slice of the caller's own; a call that writes two. -/
namespace Go.AM
open Go Go.RowKit
/-- the contract of a function that hands back a new slice, which the caller may write -/
structure CallV (P : Program) (f : FuncId) (args : List AV) (b : Blk) : Prop where
  fn : FnOK P f
  go : ∀ (h : Hp) (r : Nat → Value) (w : World) (cargs : Array Value), RepArgs h r args cargs.toList → Before h r O w →
    Calls P f cargs w fun e w' => ∃ v h', e = .returned v ∧ BlkRep h' w' v b ∧ (∀ k, hblk v = some k → w.heap.size ≤ k ∧ h' k = none) ∧ After h r O w h' O w'
theorem Eff.callV {P : Program} {dst : Option Nat} {f : FuncId} {args : Array Operand} {tys : Array TypeId} {ty : TypeId} {pos : String} {af : Array Edge} {gd : Option (Nat × Bool)} {d : Nat} {ρ : Operand → AV} {own : Own} {b : Blk}
    (hc : CallV P f (args.toList.map ρ) b) (hl0 : lnk b = [] := by rfl) : Eff P ⟨dst, .call ⟨.value (.func f), args, tys⟩, ty, pos, af, gd⟩ d ρ own (.vec d) [] (some b) [] := by
  intro C h r own' a w K Q hrep hrd hw hnew hK
  unfold Oper.wp
  have hrun : (execOp a.eval ⟨dst, .call ⟨.value (.func f), args, tys⟩, ty, pos, af, gd⟩).run P w = .ok (.enter f (args.map a.eval)) w := by
    simp only [execOp, resolve, Sem.run_bind, Act.eval, Deferred.ofValue, Sem.run_pure, Result.andThen_ok, invoke, Array.empty_append, Array.append_empty]
    exact run_callFunc hc.fn _ w
  rw [hrun]
  refine Calls.mono (hc.go h r w (args.map a.eval) ?_ (hw.before fun m hm => absurd rfl hm)) ?_
  · rw [Array.toList_map]
    exact repArgs_map _ fun x hx => hrep x (by simp only [Op.operands, Call.operands]; exact Array.mem_append.2 (.inr (Array.mem_toList_iff.1 hx)))
  · rintro e w' ⟨v, h', rfl, hv, hfr, hq⟩
    obtain ⟨hd, hp, hnl⟩ := hnew (by simp)
    have hw' : WOK C h' r own' w' := hw.after (fun m hm => absurd rfl hm) hq (fun m => by simp) (fun m b hm => absurd rfl hm)
    refine hK v h' (upd r d v) w' hq.hg (fun m hm => upd_ne _ _ _ _ (hm (by simp))) (by show v = upd r d v d; rw [upd_same]) ?_
    show WOK C h' (upd r d v) (upd own' d (some b)) w'
    have live : ∀ m, m ≠ d → upd own' d (some b) m ≠ none → own' m ≠ none := fun m h1 hm => by rwa [upd_ne _ _ _ _ h1] at hm
    have below : ∀ m k, own' m ≠ none → hblk (r m) = some k → k < w.heap.size := fun m k hm hk => hw.lt hm hk
    refine ⟨?_, ?_, hw'.hi, ?_, hw'.os, hw'.tape, hw'.output, hw'.size, hw'.old, ?_, hw'.hg, hw'.hn, hw'.gl, ?_, ?_⟩
    · intro m b' e
      by_cases h1 : m = d
      · subst h1; rw [upd_same] at e ⊢; cases e; exact hv
      · rw [upd_ne _ _ _ _ h1] at e ⊢; exact hw'.ow m b' e
    · intro m n k hm hn e f'
      by_cases h1 : m = d <;> by_cases h2 : n = d
      · rw [h1, h2]
      · subst h1; rw [upd_same] at e; rw [upd_ne _ _ _ _ h2] at f'
        have := below n k (live n h2 hn) f'; have := (hfr k e).1; omega
      · subst h2; rw [upd_same] at f'; rw [upd_ne _ _ _ _ h1] at e
        have := below m k (live m h1 hm) e; have := (hfr k f').1; omega
      · rw [upd_ne _ _ _ _ h1] at e; rw [upd_ne _ _ _ _ h2] at f'
        exact hw'.inj m n k (live m h1 hm) (live n h2 hn) e f'
    · intro m k hm e
      by_cases h1 : m = d
      · subst h1; rw [upd_same] at e; exact (hfr k e).2
      · rw [upd_ne _ _ _ _ h1] at e; exact hw'.ho m k (live m h1 hm) e
    · intro m k hm e
      by_cases h1 : m = d
      · subst h1; rw [upd_same] at e; exact .inl (Nat.le_trans hw.size (hfr k e).1)
      · rw [upd_ne _ _ _ _ h1] at e; exact hw'.fo m k (live m h1 hm) e
    · intro m hm
      rw [upd_ne _ _ _ _ (by omega)]; exact hw'.kp m hm
    · intro m b' j e hj
      by_cases h1 : m = d
      · subst h1; rw [upd_same] at e; cases e; rw [hl0] at hj; cases hj
      · rw [upd_ne _ _ _ _ h1] at e
        have hjd : j ≠ d := fun x => hnl m b' e (x ▸ hj)
        rw [upd_ne _ _ _ _ h1, upd_ne _ _ _ _ hjd]
        exact hw'.lk m b' j e hj
def EndsV (fn : Func) (b : Blk) (e : Exit) (s : St) : Prop := (e = .normal ∨ e = .ret) ∧ ∃ t m, fn.results = #[.tmp t] ∧ s.regs t = .vec m ∧ s.own m = some b
theorem callV_of {P : Program} {f : FuncId} {fn : Func} {c : Code} {N : Nat} {args : List AV} {b : Blk} (hf : P.funcs[f]? = some fn) (hnm : (fn.name == "runtime.NumGoroutine") = false) (hb : fn.body = some c) (hN : fn.ntmps = N) (hna : args.length ≤ N)
    (h : AWp P false N 0 c (EndsV fn b) ⟨fun t => args.getD t .junk, O⟩) : CallV P f args b := by
  refine ⟨⟨fn, hf, hnm, by rw [hb]; rfl⟩, ?_⟩
  intro hh r w cargs hra hbf
  have hlen : cargs.size = args.length := by
    have : ∀ (as0 : List AV) (xs : List Value), RepArgs hh r as0 xs → xs.length = as0.length := by
      intro as0
      induction as0 with
      | nil => intro xs h; cases xs with
        | nil => rfl
        | cons _ _ => exact h.elim
      | cons p ps ih => intro xs h; cases xs with
        | nil => exact h.elim
        | cons x xs => simp [ih xs h.2]
    simpa using this _ _ hra
  have hget : ∀ (as0 : List AV) (xs : List Value), RepArgs hh r as0 xs → ∀ (t : Nat) (x : AV), as0[t]? = some x → ∃ y, xs[t]? = some y ∧ AVRep hh r x y := by
    intro as0
    induction as0 with
    | nil => intro xs _ t x h; simp at h
    | cons p ps ih => intro xs h t x hx; cases xs with
      | nil => exact h.elim
      | cons y ys => cases t with
        | zero => simp at hx; subst hx; exact ⟨y, rfl, h.1⟩
        | succ t => exact ih ys h.2 t x (by simpa using hx)
  refine callsW' (n := 0) (callsIn_of_wp_marks hf hb trivial ?_)
  let C : Ctx := ⟨w, hh, fun _ => False, r, 0, true⟩
  refine wpIn_mono (h none (fun _ => rfl) C hh r _ w ⟨rfl, rfl⟩ ⟨?_, trivial, ?_, ⟨hbf.ow, hbf.inj, hbf.hi, hbf.ho, rfl, rfl, .refl _, Nat.le_refl _, fun _ _ _ => rfl, fun m k hm => absurd rfl hm, .refl _, fun k hk => .inl hk, hbf.gl, fun _ _ => rfl, fun m b j hb => by cases hb⟩⟩) ?_
  · simp [hN]; omega
  · intro t
    show AVRep hh r (args.getD t .junk) _
    rw [List.getD_eq_getElem?_getD]
    cases ht : args[t]? with
    | none => exact trivial
    | some x =>
      obtain ⟨y, h1, h2⟩ := hget _ _ hra t x ht
      have h1' : cargs[t]? = some y := by rw [← Array.getElem?_toList]; exact h1
      have hlt : t < cargs.size := (Array.getElem?_eq_some_iff.1 h1').1
      simp only [Array.getD_eq_getD_getElem?, Array.getElem?_append_left hlt, h1', Option.getD_some]
      exact h2
  · rintro e a' w' ⟨s', h', r', ⟨he, t, m, hres, hreg, hown⟩, hc⟩
    have fin : LeavesInM (Wd none) 0 P fn a'.tmps (fun e w' => ∃ v h', e = .returned v ∧ BlkRep h' w' v b ∧ (∀ k, hblk v = some k → w.heap.size ≤ k ∧ h' k = none) ∧ After hh r O w h' O w') a'.defers .returning w' := by
      refine leave_marks hc ?_
      intro h' w' hc
      have hx : a'.tmps.getD t undef = r' m := by
        have := hc.rg t
        rw [hreg] at this; exact this
      have hv1 : (results fn a'.tmps).run P w' = .ok (r' m) w' := by
        rw [results_eq, hres]
        simp [resOne, hx]
      have hk := hc.wk
      have hlow : s'.own m ≠ none := by rw [hown]; simp
      refine ⟨r' m, hv1, r' m, h', rfl, hk.ow m b hown, fun k e => ⟨?_, hk.ho m k hlow e⟩, ?_⟩
      · rcases hk.fo m k hlow e with g | g
        · exact g
        · exact g.elim
      · refine ⟨fun m b e => (by cases e), fun m hm => absurd rfl hm, hk.hi, fun m k hm => absurd rfl hm, hk.os, hk.tape, hk.output, hk.size, fun k h1 _ => hk.old k h1 (fun x => x), hk.hg, fun k e => ?_⟩
        rcases hk.hn k e with g | g | g
        · exact .inl g
        · exact .inr (.inl g)
        · exact g.elim
    rcases he with rfl | rfl <;> exact fin
theorem CallV.call0 {P : Program} {f : FuncId} {args : List AV} {n : Nat} {b : Blk} (h : CallV P f args b) (hv : b.vec = true) (hn : n * b.sz = b.cs.length) (hsz : 0 < b.sz) : Call0 P f args (.p (.c (.sl n b.cs))) := by
  refine ⟨h.fn, ?_⟩
  intro hh r w cargs hra hbf
  refine Calls.mono (h.go hh r w cargs hra hbf) ?_
  rintro e w' ⟨v, h', rfl, hb, hfr, q⟩
  rw [BlkRep.slE hv hsz] at hb
  obtain ⟨a, l, cap, rfl, h2, h3, h4, h5⟩ := hb
  have hl : l = n := Nat.eq_of_mul_eq_mul_right hsz (h2.trans hn.symm)
  subst hl
  by_cases hc0 : cap = 0
  · refine ⟨_, h', rfl, ?_, q⟩
    have hcs : b.cs = [] := List.eq_nil_of_length_eq_zero (by rw [← h2, show l = 0 by omega]; simp)
    simp only [AVRep, PRep, DRep]
    exact ⟨a, cap, rfl, h3, h4, .inl hcs⟩
  · rcases h5 with h5 | ⟨k, c, rfl, g2, g3, g4⟩
    · exact absurd h5 hc0
    · obtain ⟨f1, f2⟩ := hfr k (by simp [hblk, hc0])
      have hle : Hle h' (fun j => if j = k then some (.cells c b.e (0, 0)) else h' j) := fun j o hj => by
        show (if j = k then _ else h' j) = _
        rw [if_neg fun e => by subst e; rw [f2] at hj; cases hj]; exact hj
      refine ⟨_, (fun j => if j = k then some (.cells c b.e (0, 0)) else h' j), rfl, ?_, ?_⟩
      · simp only [AVRep, PRep, DRep]
        exact ⟨_, cap, rfl, h3, h4, .inr ⟨k, 0, c, b.e, (0, 0), rfl, by simp, by simpa using DReps.mono hle _ _ g4⟩⟩
      · refine ⟨fun m b e => (by cases e), q.dom, fun j o hj => ?_, fun m j hm => absurd rfl (q.dom m hm), q.os, q.tape, q.output, q.size, q.old, q.hg.trans hle, fun j hj => ?_⟩
        · by_cases e : j = k
          · subst e; simp only [if_true, Option.some.injEq] at hj; subst hj; exact g2
          · simp only [e, if_false] at hj; exact q.hi j o hj
        · by_cases e : j = k
          · subst e; exact .inr (.inl f1)
          · simp only [e, if_false] at hj; exact q.hn j hj
theorem CallV.call0W {P : Program} {f : FuncId} {args : List AV} {e : TypeId} {ws : List Nat} (h : CallV P f args (WB e ws)) : Call0 P f args (.p (.c (W ws))) := h.call0 rfl (by simp [WB]) (by simp [WB])
/-- a call that writes some slices -/
theorem RK.mutL {P : Program} {N np : Nat} {ops : Array Oper} {draw : Bool} {os : List Oper} {s : St} {acc : List Io} {K : St → Prop} {t : Nat} {op : Op} {ty : TypeId} {pos : String} {af : Array Edge} {gd : Option (Nat × Bool)} {v : AV} {st : Chg} {rd : List Nat}
    (hg : Guards ops ⟨some t, op, ty, pos, af, gd⟩ s.regs true) (he : Eff P ⟨some t, op, ty, pos, af, gd⟩ t (ev s.regs) s.own v st none rd)
    (hr : RK P N np ops draw os ⟨upd s.regs t v, applySt s.own st⟩ (acc ++ [⟨men v ++ lnkS st none, st.map (·.1), rd, false⟩]) K) : RK P N np ops draw (⟨some t, op, ty, pos, af, gd⟩ :: os) s acc K := by
  refine RK.step (Step.run v st none rd hg he (fun h => absurd rfl h)) ?_
  simp only [Option.isSome_none, Bool.false_eq_true, if_false, List.append_nil]
  exact hr
end Go.AM
end

section
/- The reference's long division in binary: its arithmetic. -/
namespace Go.AM
open Go Go.RowKit
theorem Bor.vecW {own : Own} {m : Nat} {e : TypeId} {ws : List Nat} {l l' : List AV} {rd : List Nat} (hb : own m = some (WB e ws)) (h : Bor own l l' rd) : Bor own (.vec m :: l) (.p (.c (W ws)) :: l') (m :: rd) :=
  Bor.vec (n := ws.length) hb rfl (by simp [WB]) (by simp [WB]) h
theorem getD_div : ∀ (l : List Nat), okW l → ∀ i : Nat, l.getD i 0 = wv l / 4294967296 ^ i % 4294967296
  | [], _, i => by simp [wv]
  | x :: l, h, 0 => by have := h x (by simp); simp [wv]; omega
  | x :: l, h, i + 1 => by
    have hx := h x (by simp)
    rw [List.getD_cons_succ, getD_div l (fun y hy => h y (by simp [hy])) i]
    rw [Nat.pow_succ', ← Nat.div_div_eq_div_mul]
    congr 2
    simp only [wv]; omega
theorem wd_div {l : List Nat} (h : okW l) (i : Nat) : wd l (i : Int) = wv l / 4294967296 ^ i % 4294967296 := by rw [wd_nat, getD_div l h]
theorem dgs_getD {n v i : Nat} (h : i < n) : (dgs n v).getD i 0 = v / 4294967296 ^ i % 4294967296 := by
  induction n generalizing v i with
  | zero => omega
  | succ n ih =>
    cases i with
    | zero => simp [dgs]
    | succ i =>
      simp only [dgs]
      rw [List.getD_cons_succ, ih (by omega), Nat.pow_succ', Nat.div_div_eq_div_mul]
theorem blen_half {n : Nat} (h : 0 < n) : blen n = 1 + blen (n / 2 ^ 1) := by
  by_cases h1 : n = 1
  · subst h1; decide
  · exact blen_div (k := 1) (by omega)
theorem shl_lt64 {x s : Nat} (hx : x < 4294967296) (hs : s < 32) : x * 2 ^ s < 18446744073709551616 := by
  have h1 : 2 ^ s ≤ 2 ^ 31 := Nat.pow_le_pow_right (by decide) (by omega)
  have h2 : x * 2 ^ s ≤ 4294967295 * 2 ^ 31 := Nat.mul_le_mul (by omega) h1
  omega
theorem or_low {w c k : Nat} (hc : c < 2 ^ k) : w * 2 ^ k ||| c = w * 2 ^ k + c := by rw [Nat.mul_comm, Nat.two_pow_add_eq_or_of_lt hc]
theorem carry_lt {x k : Nat} (hx : x < 4294967296) : x * 2 ^ k / 2 ^ 32 < 2 ^ k := by
  rw [Nat.div_lt_iff_lt_mul (by decide), Nat.mul_comm (2 ^ k)]
  exact Nat.mul_lt_mul_of_pos_right hx (Nat.two_pow_pos k)
theorem left_mod {x c k : Nat} (hk : k < 32) (hc : c < 2 ^ k) : (x * 2 ^ k + c) % 4294967296 + 4294967296 * (x * 2 ^ k / 2 ^ 32) = x * 2 ^ k + c := by
  have h1 : (x * 2 ^ k + c) / 4294967296 = x * 2 ^ k / 2 ^ 32 := by
    obtain ⟨j, hj⟩ : ∃ j, 32 = k + j := ⟨32 - k, by omega⟩
    have e : (4294967296 : Nat) = 2 ^ k * 2 ^ j := by rw [← Nat.pow_add, ← hj]
    have e2 : (2 : Nat) ^ 32 = 2 ^ k * 2 ^ j := by rw [← Nat.pow_add, ← hj]
    rw [e, e2, ← Nat.div_div_eq_div_mul, ← Nat.div_div_eq_div_mul, Nat.mul_div_cancel _ (Nat.two_pow_pos k)]
    congr 1
    rw [Nat.mul_comm, Nat.mul_add_div (Nat.two_pow_pos k), Nat.div_eq_of_lt hc, Nat.add_zero]
  have h2 := Nat.mod_add_div (x * 2 ^ k + c) 4294967296
  rw [h1] at h2
  exact h2
theorem left_round {l o : List Nat} {q k i : Nat} (hl : okW l) (hk : k < 32) (ho : o.length = q + i) (hv : wv o + 4294967296 ^ o.length * (wd l ((i : Int) - 1) * 2 ^ k / 2 ^ 32) = wv (l.take i) * 2 ^ (32 * q + k)) :
    wv (o ++ [(wd l i * 2 ^ k ||| wd l ((i : Int) - 1) * 2 ^ k / 2 ^ 32) % 4294967296]) + 4294967296 ^ (o.length + 1) * (wd l i * 2 ^ k / 2 ^ 32) = wv (l.take (i + 1)) * 2 ^ (32 * q + k) := by
  have hc := carry_lt (k := k) (wd_lt hl ((i : Int) - 1))
  rw [or_low hc, wv_snoc, wv_take_wd]
  have hm := left_mod (x := wd l i) hk hc
  generalize wd l ((i : Int) - 1) * 2 ^ k / 2 ^ 32 = c at *
  rw [Nat.add_mul, ← hv]
  have e : 4294967296 ^ i * wd l i * 2 ^ (32 * q + k) = 4294967296 ^ o.length * (wd l i * 2 ^ k) := by
    rw [ho, Nat.pow_add, Nat.pow_add, pow32 q, Nat.mul_comm (2 ^ (32 * q)) (4294967296 ^ i)]
    simp only [Nat.mul_assoc, Nat.mul_left_comm, Nat.mul_comm]
  rw [e, Nat.pow_succ]
  generalize wd l i * 2 ^ k = A at *
  generalize 4294967296 ^ o.length = p at *
  generalize (A + c) % 4294967296 = s at *
  generalize A / 2 ^ 32 = t at *
  have e2 : p * s + p * 4294967296 * t = p * A + p * c := by
    rw [Nat.mul_assoc, ← Nat.mul_add, ← Nat.mul_add, hm]
  omega
theorem left_end {l o : List Nat} {q k i : Nat} (hok : okW o) (ho : o.length = q + i) (hi : i = l.length + 1) (hv : wv o + 4294967296 ^ o.length * (wd l ((i : Int) - 1) * 2 ^ k / 2 ^ 32) = wv (l.take i) * 2 ^ (32 * q + k)) :
    o = dgs (q + l.length + 1) (wv l * 2 ^ (32 * q + k)) := by
  rw [wd_out (.inr (by omega)), List.take_of_length_le (by omega)] at hv
  simp only [Nat.zero_mul, Nat.zero_div, Nat.mul_zero, Nat.add_zero] at hv
  have h := dgs_of o hok
  rw [ho, hi, hv] at h
  exact h.symm
theorem half_word {l : List Nat} (h : okW l) (i : Nat) : (wd l (i : Int) / 2 ^ 1 ||| wd l ((i : Int) + 1) * 2 ^ 31 % 2 ^ IntKind.u64.bits) % 4294967296 = wv l / 2 / 4294967296 ^ i % 4294967296 := by
  have h1 := wd_lt h (i : Int)
  have h2 := wd_lt h ((i : Int) + 1)
  have e : ((i : Int) + 1) = ((i + 1 : Nat) : Int) := by omega
  rw [Nat.mod_eq_of_lt (show wd l ((i : Int) + 1) * 2 ^ 31 < 2 ^ IntKind.u64.bits by show _ < 18446744073709551616; omega)]
  rw [Nat.or_comm, or_low (by omega), wd_div h, e, wd_div h, Nat.div_div_eq_div_mul (wv l) 2, Nat.mul_comm 2, ← Nat.div_div_eq_div_mul, Nat.pow_succ, ← Nat.div_div_eq_div_mul]
  omega
/-- a list whose first words have been halved -/
def hlf (l : List Nat) (i : Nat) : List Nat := (dgs l.length (wv l / 2)).take i ++ l.drop i
theorem hlf_zero (l : List Nat) : hlf l 0 = l := by simp [hlf]
theorem hlf_len (l : List Nat) {i : Nat} (h : i ≤ l.length) : (hlf l i).length = l.length := by simp [hlf, dgs_length]; omega
theorem hlf_end (l : List Nat) : hlf l l.length = dgs l.length (wv l / 2) := by simp [hlf, List.take_of_length_le, dgs_length]
theorem hlf_get {l : List Nat} {i j : Nat} (h : i ≤ j) (hi : i ≤ l.length) : (hlf l i).getD j 0 = l.getD j 0 := by
  unfold hlf
  have hl : ((dgs l.length (wv l / 2)).take i).length = i := by rw [List.length_take, dgs_length]; omega
  rw [List.getD_eq_getElem?_getD, List.getElem?_append_right (by omega), List.getElem?_drop, hl, List.getD_eq_getElem?_getD]
  congr 2; omega
theorem hlf_wd {l : List Nat} {i : Nat} {j : Int} (h : (i : Int) ≤ j) (hi : i ≤ l.length) : wd (hlf l i) j = wd l j := by
  obtain ⟨k, rfl⟩ := Int.eq_ofNat_of_zero_le (show 0 ≤ j by omega)
  rw [wd_nat, wd_nat, hlf_get (by omega) hi]
theorem hlf_set {l : List Nat} {i : Nat} (h : i < l.length) : (hlf l i).set i (wv l / 2 / 4294967296 ^ i % 4294967296) = hlf l (i + 1) := by
  unfold hlf
  have hl : ((dgs l.length (wv l / 2)).take i).length = i := by rw [List.length_take, dgs_length]; omega
  rw [drop_getD h]
  have := set_mid (l := (dgs l.length (wv l / 2)).take i) (x := l.getD i 0) (v := wv l / 2 / 4294967296 ^ i % 4294967296) (r := l.drop (i + 1))
  rw [hl] at this
  rw [this, take_succ_getD (by rw [dgs_length]; exact h), dgs_getD h]
theorem hlf_ok {l : List Nat} (h : okW l) (i : Nat) : okW (hlf l i) := ((dgs_ok _ _).take i).app (h.drop i)
theorem reach_step {X Y p : Nat} (h : X / (p * 4294967296) = Y / (p * 4294967296)) (h2 : X / p % 4294967296 = Y / p % 4294967296) : X / p = Y / p := by
  rw [← Nat.div_div_eq_div_mul, ← Nat.div_div_eq_div_mul] at h
  omega
theorem reach_gt {X Y p : Nat} (h : X / (p * 4294967296) = Y / (p * 4294967296)) (h2 : X / p % 4294967296 ≠ Y / p % 4294967296) : decide ((X / p % 4294967296 : Nat) > Y / p % 4294967296) = decide (Y ≤ X) := by
  rw [← Nat.div_div_eq_div_mul, ← Nat.div_div_eq_div_mul] at h
  apply decide_eq_decide.2
  have key : ∀ (X Y : Nat), X / p < Y / p → X < Y := fun X Y h => by
    rcases Nat.lt_or_ge X Y with h1 | h1
    · exact h1
    · have := Nat.div_le_div_right (c := p) h1; omega
  constructor
  · intro h3; exact Nat.le_of_lt (key Y X (by omega))
  · intro h3
    rcases Nat.lt_or_ge (Y / p % 4294967296) (X / p % 4294967296) with h4 | h4
    · exact h4
    · have := key X Y (by omega); omega
theorem set_bit {m Q i : Nat} (hi : i < 32 * m) (hQ : Q % 2 ^ (i + 1) = 0) (hlt : Q < 4294967296 ^ m) :
    (dgs m Q).set (i / 32) ((dgs m Q).getD (i / 32) 0 ||| 2 ^ (i % 32)) = dgs m (Q + 2 ^ i) ∧ (dgs m Q).getD (i / 32) 0 ||| 2 ^ (i % 32) < 4294967296 ∧ Q + 2 ^ i < 4294967296 ^ m := by
  have hj : i / 32 < m := by omega
  have hw := dgs_getD (v := Q) hj
  obtain ⟨j, hj'⟩ : ∃ j, j = i / 32 := ⟨_, rfl⟩
  obtain ⟨s, hs⟩ : ∃ s, s = i % 32 := ⟨_, rfl⟩
  rw [← hj'] at hw hj ⊢
  rw [← hs]
  have his : i = 32 * j + s := by omega
  have hs32 : s < 32 := by omega
  have hpj : (4294967296 : Nat) ^ j = 2 ^ (32 * j) := pow32 j
  -- the word has no bit at or below s
  have hw0 : Q / 4294967296 ^ j % 4294967296 % 2 ^ (s + 1) = 0 := by
    rw [hpj]
    have h1 : Q / 2 ^ (32 * j) % 2 ^ (s + 1) = 0 := by
      have e : 2 ^ (i + 1) = 2 ^ (32 * j) * 2 ^ (s + 1) := by rw [← Nat.pow_add]; congr 1; omega
      rw [e] at hQ
      rw [← Nat.mod_mul_right_div_self, hQ, Nat.zero_div]
    rw [Nat.mod_mod_of_dvd _ (Nat.pow_dvd_pow 2 (show s + 1 ≤ 32 by omega))]
    exact h1
  rw [hw]
  obtain ⟨u, hu⟩ : ∃ u, Q / 4294967296 ^ j % 4294967296 = u * 2 ^ (s + 1) := ⟨_, (Nat.div_mul_cancel (Nat.dvd_of_mod_eq_zero hw0)).symm⟩
  have hor : Q / 4294967296 ^ j % 4294967296 ||| 2 ^ s = Q / 4294967296 ^ j % 4294967296 + 2 ^ s := by
    rw [hu, or_low (by rw [Nat.pow_succ]; have := Nat.two_pow_pos s; omega)]
  have hlt2 : Q / 4294967296 ^ j % 4294967296 + 2 ^ s < 4294967296 := by
    have hl : Q / 4294967296 ^ j % 4294967296 < 4294967296 := Nat.mod_lt _ (by decide)
    rw [hu] at hl ⊢
    obtain ⟨t, ht⟩ : ∃ t, 32 = s + 1 + t := ⟨31 - s, by omega⟩
    have e : (4294967296 : Nat) = 2 ^ t * 2 ^ (s + 1) := by rw [← Nat.pow_add, Nat.add_comm t, ← ht]
    rw [e] at hl ⊢
    have hu2 : u < 2 ^ t := Nat.lt_of_mul_lt_mul_right hl
    have := Nat.mul_le_mul_right (2 ^ (s + 1)) hu2
    rw [Nat.succ_mul] at this
    have := Nat.two_pow_pos s
    rw [Nat.pow_succ] at *
    omega
  rw [hor]
  have hpw : 2 ^ i = 4294967296 ^ j * 2 ^ s := by rw [hpj, ← Nat.pow_add, his]
  have hval : wv ((dgs m Q).set j (Q / 4294967296 ^ j % 4294967296 + 2 ^ s)) = Q + 2 ^ i := by
    have := wv_set (dgs m Q) j (Q / 4294967296 ^ j % 4294967296 + 2 ^ s) (by rw [dgs_length]; exact hj)
    rw [hw, wv_dgs m Q hlt, Nat.mul_add, ← hpw] at this
    omega
  have hok : okW ((dgs m Q).set j (Q / 4294967296 ^ j % 4294967296 + 2 ^ s)) := (dgs_ok _ _).set hlt2
  refine ⟨?_, hlt2, ?_⟩
  · have := dgs_of _ hok
    rw [hval, List.length_set, dgs_length] at this
    exact this.symm
  · have := wv_lt hok
    rwa [hval, List.length_set, dgs_length] at this
theorem km1 {k : Nat} (h : (k : Int) - 1 ≥ 0) : (k : Int) - 1 = ((k - 1 : Nat) : Int) := by omega
theorem reach_next {a b : List Nat} {k : Nat} (ha : okW a) (hb : okW b) (hk : (k : Int) - 1 ≥ 0) (h : wv a / 4294967296 ^ k = wv b / 4294967296 ^ k) (he : ((wd a ((k : Int) - 1) : Nat) : Int) = (wd b ((k : Int) - 1) : Nat)) :
    wv a / 4294967296 ^ (k - 1) = wv b / 4294967296 ^ (k - 1) := by
  rw [km1 hk, wd_div ha, wd_div hb] at he
  rw [show k = k - 1 + 1 by omega, Nat.pow_succ] at h
  exact reach_step h (by omega)
theorem reach_ret {a b : List Nat} {k : Nat} (ha : okW a) (hb : okW b) (hk : (k : Int) - 1 ≥ 0) (h : wv a / 4294967296 ^ k = wv b / 4294967296 ^ k) (he : ((wd a ((k : Int) - 1) : Nat) : Int) ≠ (wd b ((k : Int) - 1) : Nat)) :
    decide (((wd a ((k : Int) - 1) : Nat) : Int) > ((wd b ((k : Int) - 1) : Nat) : Int)) = decide (wv b ≤ wv a) := by
  rw [km1 hk, wd_div ha, wd_div hb] at he ⊢
  rw [show k = k - 1 + 1 by omega, Nat.pow_succ] at h
  rw [← reach_gt h (by omega)]
  exact decide_eq_decide.2 (by omega)
theorem reach_start {a : List Nat} {k : Nat} (ha : okW a) (h : a.length ≤ k) : wv a / 4294967296 ^ k = 0 := by
  have h1 := wv_lt ha
  have h2 : 4294967296 ^ a.length ≤ 4294967296 ^ k := Nat.pow_le_pow_right (by decide) h
  exact Nat.div_eq_of_lt (by omega)
theorem upd2_lt {b c : Blk} : ∀ m, upd (upd O 0 (some b)) 1 (some c) m ≠ none → m < 2 := fun m hm => by
  by_cases e : m = 1
  · omega
  · rw [upd_ne _ _ _ _ e] at hm
    have := upd1_lt m hm; omega
theorem upd2_dom {b c b' c' : Blk} : ∀ m, upd (upd O 0 (some b')) 1 (some c') m ≠ none → upd (upd O 0 (some b)) 1 (some c) m ≠ none := fun m hm => by
  by_cases e : m = 1
  · subst e; simp
  · rw [upd_ne _ _ _ _ e] at hm ⊢; exact upd1_dom m hm
theorem own_end2 {s : St} {b c : Blk} (h : s.own 0 = some b) (k : s.own 1 = some c) : ∀ m d, upd (upd O 0 (some b)) 1 (some c) m = some d → s.own m = some d := fun m d hm => by
  by_cases e : m = 1
  · subst e; rw [upd_same] at hm; rw [k, hm]
  · rw [upd_ne _ _ _ _ e] at hm; exact own_end1 h m d hm
theorem upd2_mem {k l : Nat} {b c : Blk} : ∀ m, upd (upd O k (some b)) l (some c) m ≠ none → m ∈ [k, l] := fun m hm => by
  by_cases e : m = l
  · simp [e]
  · rw [upd_ne _ _ _ _ e] at hm
    have := upd1_mem m hm
    simp at this; simp [this]
theorem own2 {own : Own} {k l : Nat} {b c : Blk} (hkl : Nat.beq k l = false) (h : own k = some b) (h2 : own l = some c) : ∀ m ∈ [k, l], own m = upd (upd O k (some b)) l (some c) m := fun m hm => by
  have hne : k ≠ l := fun e => by rw [e, Nat.beq_refl] at hkl; cases hkl
  simp only [List.mem_cons, List.not_mem_nil, or_false] at hm
  rcases hm with rfl | rfl
  · rw [upd_ne _ _ _ _ hne, upd_same, h]
  · rw [upd_same, h2]
theorem take_x {a b l : List Nat} {c : Nat} (ha : okW a) (_hb : okW b) (hc : c ≤ 1) (_hl : l.length < a.length) : (4294967296 + a.getD l.length 0 - wd b (l.length : Nat) - c) < 18446744073709551616 ∧ 4294967296 + a.getD l.length 0 - wd b (l.length : Nat) - c = 4294967296 + wd a (l.length : Nat) - wd b (l.length : Nat) - c := by
  have h1 := ha.getD l.length
  rw [wd_nat a]
  exact ⟨by omega, rfl⟩
theorem take_end {a b l : List Nat} {c : Nat} (ha : okW a) (_hb : okW b) (ho : okW l) (hl : l.length = a.length) (hab : wv b ≤ wv a) (hv : wv l + wv (b.take l.length) = wv (a.take l.length) + 4294967296 ^ l.length * c) :
    l ++ a.drop l.length = dgs a.length (wv a - wv b) := by
  rw [hl, List.drop_length, List.append_nil]
  rw [List.take_of_length_le (l := a) (by omega)] at hv
  have h1 := wv_lt ho
  have h2 := wv_lt ha
  rw [← hl] at h2
  have hbt : wv (b.take l.length) = wv b := by
    by_cases hbl : b.length ≤ l.length
    · rw [List.take_of_length_le hbl]
    · have := wv_split b l.length (by omega)
      have h3 : wv (b.drop l.length) = 0 := by
        rcases Nat.eq_zero_or_pos (wv (b.drop l.length)) with e | e
        · exact e
        · have := Nat.le_mul_of_pos_right (4294967296 ^ l.length) e; omega
      rw [h3] at this; omega
  have hc : c = 0 := by
    rcases Nat.eq_zero_or_pos c with h | h
    · exact h
    · have := Nat.le_mul_of_pos_right (4294967296 ^ l.length) h
      omega
  subst hc
  have h := dgs_of l ho
  rw [hl, show wv l = wv a - wv b by omega] at h
  exact h.symm
end Go.AM
end

section
/- The reference's division: quotient and remainder. -/
namespace Go.AM
open Go Go.RowKit
def qL (a b : Nat) : List Nat := if (wl a).length ≤ 2 ∧ (wl b).length ≤ 2 then [a / b % 4294967296, a / b / 2 ^ 32] else if blen a < blen b then [] else dgs ((blen a - blen b) / 32 + 1) (a / b)
def rL (a b : Nat) : List Nat := if (wl a).length ≤ 2 ∧ (wl b).length ≤ 2 then [a % b % 4294967296, a % b / 2 ^ 32] else dgs (wl a).length (a % b)
theorem lt_two {a : Nat} (h : (wl a).length ≤ 2) : a < 18446744073709551616 := by
  have h1 := wl_len_lt a
  have h2 : 4294967296 ^ (wl a).length ≤ 4294967296 ^ 2 := Nat.pow_le_pow_right (by decide) h
  omega
theorem blen_mul {b n : Nat} (hb : 0 < b) : b * 2 ^ n < 2 ^ (n + blen b) ∧ 2 ^ (n + blen b) ≤ 2 * (b * 2 ^ n) := by
  have h1 := blen_lt (n := b)
  have h2 := blen_ge hb
  have h3 := blen_pos hb
  rw [Nat.pow_add, Nat.mul_comm (2 ^ n)]
  refine ⟨Nat.mul_lt_mul_of_pos_right h1 (Nat.two_pow_pos n), ?_⟩
  obtain ⟨k, hk⟩ : ∃ k, blen b = k + 1 := ⟨blen b - 1, by omega⟩
  rw [hk, Nat.add_sub_cancel] at h2
  rw [hk, Nat.pow_succ]
  have := Nat.mul_le_mul_right (2 ^ n) h2
  rw [Nat.mul_right_comm]; omega
theorem quot_lt {a b : Nat} (hb : 0 < b) (h : blen b ≤ blen a) : a / b < 4294967296 ^ ((blen a - blen b) / 32 + 1) := by
  have h1 := blen_lt (n := a)
  have h2 := (blen_mul (n := blen a - blen b) hb).2
  rw [show blen a - blen b + blen b = blen a by omega] at h2
  rw [Nat.div_lt_iff_lt_mul hb, pow32]
  have h3 : 2 ^ (blen a - blen b + 1) ≤ 2 ^ (32 * ((blen a - blen b) / 32 + 1)) := Nat.pow_le_pow_right (by decide) (by omega)
  have h4 := Nat.mul_le_mul_right b h3
  rw [Nat.pow_succ, Nat.mul_right_comm, Nat.mul_comm _ b] at h4
  omega
theorem small_div {a b : Nat} (h : blen a < blen b) : a < b := by
  have h1 := blen_lt (n := a)
  have h2 := blen_ge (n := b) (by rcases Nat.eq_zero_or_pos b with e | e; · rw [e] at h; simp [blen] at h
                                  · exact e)
  have h3 : 2 ^ blen a ≤ 2 ^ (blen b - 1) := Nat.pow_le_pow_right (by decide) (by omega)
  omega
theorem qL_ok {a b : Nat} : okW (qL a b) := by
  unfold qL
  split
  · next h =>
    have := lt_two h.1
    have h2 := Nat.div_le_self a b
    intro x hx
    simp only [List.mem_cons, List.not_mem_nil, or_false] at hx
    rcases hx with rfl | rfl <;> omega
  · split
    · exact okW.nil
    · exact dgs_ok _ _
theorem qL_val {a b : Nat} (hb : 0 < b) : wv (qL a b) = a / b := by
  unfold qL
  split
  · simp only [wv]; omega
  · split
    · next h => rw [Nat.div_eq_of_lt (small_div h)]; rfl
    · exact wv_dgs _ _ (quot_lt hb (by omega))
theorem rL_ok {a b : Nat} : okW (rL a b) := by
  unfold rL
  split
  · next h =>
    have := lt_two h.1
    have h2 := Nat.mod_le a b
    intro x hx
    simp only [List.mem_cons, List.not_mem_nil, or_false] at hx
    rcases hx with rfl | rfl <;> omega
  · exact dgs_ok _ _
theorem rL_val {a b : Nat} : wv (rL a b) = a % b := by
  unfold rL
  split
  · simp only [wv]; omega
  · exact wv_dgs _ _ (Nat.lt_of_le_of_lt (Nat.mod_le a b) (wl_len_lt a))
theorem lohi {a : Nat} (h : (wl a).length ≤ 2) : bits .or .u64 ((wd (wl a) 0 : Nat) : Int) ((wd (wl a) 1 * 2 ^ 32 % 2 ^ IntKind.u64.bits : Nat) : Int) = (a : Nat) := by
  have h0 := wd_lt (wl_ok a) 0
  have h1 := wd_lt (wl_ok a) 1
  rw [bits_lohi h0 h1]
  have e0 := wd_div (wl_ok a) 0
  have e1 := wd_div (wl_ok a) 1
  rw [wv_wl] at e0 e1
  have := lt_two h
  have e0' : wd (wl a) 0 = a / 4294967296 ^ 0 % 4294967296 := e0
  have e1' : wd (wl a) 1 = a / 4294967296 ^ 1 % 4294967296 := e1
  rw [e0', e1']
  simp only [Nat.pow_zero, Nat.div_one, Nat.pow_one]
  omega
theorem L_of_len' {a n : Nat} (h : (wl a).length ≤ 2 ^ n) : L (n + 5) (a : Int) := by
  have h1 := wl_len_lt a
  have h2 : 4294967296 ^ (wl a).length ≤ 4294967296 ^ 2 ^ n := Nat.pow_le_pow_right (by decide) h
  unfold L
  rw [Int.natAbs_natCast]
  have e : 2 ^ 2 ^ (n + 5) = 4294967296 ^ 2 ^ n := by
    rw [show (4294967296 : Nat) = 2 ^ 32 by rfl, ← Nat.pow_mul]
    congr 1
    rw [Nat.pow_add]; omega
  rw [e]
  omega
theorem L_of_len {a : Nat} (h : (wl a).length ≤ 1099511627776) : L 45 (a : Int) := L_of_len' (n := 40) (Nat.le_trans h (by decide))
theorem blen_len {a : Nat} (h : (wl a).length ≤ 1099511627776) : blen a ≤ 35184372088832 := by
  have h1 := wl_len_lt a
  rw [pow32] at h1
  have := blen_le h1
  have := Nat.mul_le_mul_left 32 h
  omega
theorem zn_nat (a : Nat) : zn (a : Int) = zn 0 := by unfold zn; rw [decide_eq_false (by omega)]; rfl
theorem dgs_zero (n : Nat) : dgs n 0 = List.replicate n 0 := by
  induction n with
  | zero => rfl
  | succ n ih => simp [dgs, ih, List.replicate_succ]
theorem dgs_wl (a : Nat) : dgs (wl a).length a = wl a := by
  have := dgs_of (wl a) (wl_ok a)
  rwa [wv_wl] at this
/-- the loop's state: a = b Q + R, R < b 2^j, Q a multiple of 2^j -/
structure Dv (a b j Q R : Nat) : Prop where
  eq : a = b * Q + R
  lt : R < b * 2 ^ j
  mul : Q % 2 ^ j = 0
theorem Dv.start {a b : Nat} (hb : 0 < b) (h : blen b ≤ blen a) : Dv a b (blen a - blen b + 1) 0 a := by
  refine ⟨by simp, ?_, by simp⟩
  have h1 := blen_lt (n := a)
  have h2 := (blen_mul (n := blen a - blen b) hb).2
  rw [show blen a - blen b + blen b = blen a by omega] at h2
  rw [Nat.pow_succ, ← Nat.mul_assoc]; omega
theorem half_pow {b j : Nat} (h : 0 < j) : b * 2 ^ j / 2 = b * 2 ^ (j - 1) := by
  obtain ⟨k, rfl⟩ : ∃ k, j = k + 1 := ⟨j - 1, by omega⟩
  rw [Nat.pow_succ, ← Nat.mul_assoc, Nat.mul_div_cancel _ (by decide), Nat.add_sub_cancel]
theorem Dv.yes {a b j Q R : Nat} (h : Dv a b j Q R) (hj : 0 < j) (hD : b * 2 ^ (j - 1) ≤ R) : Dv a b (j - 1) (Q + 2 ^ (j - 1)) (R - b * 2 ^ (j - 1)) := by
  obtain ⟨k, rfl⟩ : ∃ k, j = k + 1 := ⟨j - 1, by omega⟩
  rw [Nat.add_sub_cancel] at *
  have h1 := h.lt
  have h2 := h.mul
  have h3 := h.eq
  rw [Nat.pow_succ, ← Nat.mul_assoc] at h1
  refine ⟨by rw [Nat.mul_add]; omega, by omega, ?_⟩
  have h4 : Q % 2 ^ k = 0 := by
    have := Nat.mod_mod_of_dvd Q (Nat.pow_dvd_pow 2 (show k ≤ k + 1 by omega))
    rw [h2, Nat.zero_mod] at this; exact this.symm
  rw [Nat.add_mod, h4]; simp
theorem Dv.no {a b j Q R : Nat} (h : Dv a b j Q R) (hj : 0 < j) (hD : ¬ b * 2 ^ (j - 1) ≤ R) : Dv a b (j - 1) Q R := by
  obtain ⟨k, rfl⟩ : ∃ k, j = k + 1 := ⟨j - 1, by omega⟩
  rw [Nat.add_sub_cancel] at *
  refine ⟨h.eq, by omega, ?_⟩
  have h2 := h.mul
  have := Nat.mod_mod_of_dvd Q (Nat.pow_dvd_pow 2 (show k ≤ k + 1 by omega))
  rw [h2, Nat.zero_mod] at this; exact this.symm
theorem Dv.done {a b Q R : Nat} (h : Dv a b 0 Q R) : Q = a / b ∧ R = a % b := by
  have h1 := h.lt
  rw [Nat.pow_zero, Nat.mul_one] at h1
  have h3 := h.eq
  have hb : 0 < b := by omega
  constructor
  · rw [h3, Nat.mul_add_div hb, Nat.div_eq_of_lt h1, Nat.add_zero]
  · rw [h3, Nat.mul_add_mod, Nat.mod_eq_of_lt h1]
theorem Dv.le {a b j Q R : Nat} (h : Dv a b j Q R) : R ≤ a := by have := h.eq; omega
theorem D_lt {b j N : Nat} (_hb : 0 < b) (hj : j ≤ N + 1) : b * 2 ^ j / 2 < 4294967296 ^ (N / 32 + (wl b).length + 1) := by
  have h1 : b * 2 ^ j / 2 ≤ b * 2 ^ N := by
    have h2 : 2 ^ j ≤ 2 ^ (N + 1) := Nat.pow_le_pow_right (by decide) hj
    have h3 := Nat.mul_le_mul_left b h2
    rw [Nat.pow_succ, ← Nat.mul_assoc] at h3
    omega
  have h4 := wl_len_lt b
  have h5 : 2 ^ N ≤ 4294967296 ^ (N / 32 + 1) := by rw [pow32]; exact Nat.pow_le_pow_right (by decide) (by omega)
  have h6 : b * 2 ^ N < 4294967296 ^ (wl b).length * 4294967296 ^ (N / 32 + 1) := Nat.lt_of_lt_of_le (Nat.mul_lt_mul_of_pos_right h4 (Nat.two_pow_pos N)) (Nat.mul_le_mul_left _ h5)
  rw [← Nat.pow_add, show (wl b).length + (N / 32 + 1) = N / 32 + (wl b).length + 1 by omega] at h6
  omega
theorem reach_yes {n m R D : Nat} (h1 : R < 4294967296 ^ n) (h2 : D < 4294967296 ^ m) (h : decide (wv (dgs m D) ≤ wv (dgs n R)) = true) : D ≤ R := by
  have := of_decide_eq_true h
  rwa [wv_dgs _ _ h1, wv_dgs _ _ h2] at this
theorem reach_no {n m R D : Nat} (h1 : R < 4294967296 ^ n) (h2 : D < 4294967296 ^ m) (h : decide (wv (dgs m D) ≤ wv (dgs n R)) = false) : ¬ D ≤ R := by
  have := of_decide_eq_false h
  rwa [wv_dgs _ _ h1, wv_dgs _ _ h2] at this
theorem pow_lt32 {s : Nat} (h : s < 32) : 2 ^ s < 4294967296 := by
  have : 2 ^ s ≤ 2 ^ 31 := Nat.pow_le_pow_right (by decide) (by omega)
  omega
theorem shl_one {s : Nat} (h : s < 32) : IntKind.u32.wrap ((1 : Int) * 2 ^ (min ((s : Nat) : Int).toNat IntKind.u32.bits)) = ((2 ^ s : Nat) : Int) := by
  rw [Int.toNat_natCast, Nat.min_eq_left (show s ≤ IntKind.u32.bits by show s ≤ 32; omega), Int.one_mul]
  have e : (2 : Int) ^ s = ((2 ^ s : Nat) : Int) := by simp
  rw [e, u32N (pow_lt32 h)]
theorem div_less {a b : Nat} (h : ¬ ((wl a).length ≤ 2 ∧ (wl b).length ≤ 2)) (hn : blen a < blen b) : Sub (.p (.a [.v (.slice none 0 0), W ([] ++ wl a)])) (.p (.a [W (qL a b), W (rL a b)])) := by
  refine Sub.agg ⟨?_, ?_, trivial⟩
  · unfold qL; rw [if_neg h, if_pos hn]; exact DSub.nil_sl
  · unfold rL; rw [if_neg h, Nat.mod_eq_of_lt (small_div hn), dgs_wl]; exact DSub.refl _
theorem div_full {a b N Q R : Nat} (h : ¬ ((wl a).length ≤ 2 ∧ (wl b).length ≤ 2)) (hn : blen b ≤ blen a) (hN : N = blen a - blen b) (hf : Q = a / b ∧ R = a % b) :
    Sub (.p (.a [W (dgs (N / 32 + 1) Q), W (dgs (wl a).length R)])) (.p (.a [W (qL a b), W (rL a b)])) := by
  refine Sub.of_eq ?_
  unfold qL rL; rw [if_neg h, if_neg h, if_neg (by omega), ← hN, hf.1, hf.2]
end Go.AM
end

section
/- A call that takes slices over: they are data from then on. -/
namespace Go.AM
open Go Go.RowKit
theorem left_one (n : Nat) : wv (dgs (n / 32 + [1].length + 1) (wv [1] * 2 ^ n)) = 2 ^ n := by
  have e : wv [1] = 1 := rfl
  rw [e, Nat.one_mul, wv_dgs]
  rw [pow32]
  exact Nat.pow_lt_pow_right (by decide) (by simp; omega)
theorem root_step' {x s : Int} (h : 0 < x) (hs : 0 < s) : rootV x ≤ (s + x / s) / 2 ∧ 0 < (s + x / s) / 2 := by
  have := root_step h hs; rwa [Int.mul_one] at this
theorem root_stop' {x s : Int} (h : 0 < x) (hs : 0 < s) (h1 : rootV x ≤ s) (h2 : s ≤ (s + x / s) / 2) : rootV x = s := root_stop h hs h1 (by rwa [Int.mul_one])
end Go.AM
end

section
/- The reference's forms: the same values. -/
namespace Go.AM
open Go Go.RowKit
theorem r_isSq {x : Int} (h : ¬ sgn x < 0) : (sgn (if x < 0 then 0 else x - rootV x * rootV x) == 0) = isSq x := by
  rw [sgn_lt_iff] at h
  exact isSq_yes (by rw [rootE_nn h]; rfl)
theorem r_isSq_neg {x : Int} (h : sgn x < 0) : false = isSq x := (isSq_neg (sgn_lt_iff.1 h)).symm
section
end
end Go.AM
end

section
/- Laws of forms: sizes of constants; what a reduction gives. -/
namespace Go.AM
open Go Go.RowKit
instance : LB 7 3 := ⟨by decide⟩
instance : LB 9 3 := ⟨by decide⟩
instance : LB 10 3 := ⟨by decide⟩
instance : LB 11 3 := ⟨by decide⟩
instance : LB 12 3 := ⟨by decide⟩
instance : LB 13 3 := ⟨by decide⟩
instance : LB 14 3 := ⟨by decide⟩
instance : LB 15 3 := ⟨by decide⟩
instance : LB 16 3 := ⟨by decide⟩
instance : LB 17 3 := ⟨by decide⟩
instance : LB 18 3 := ⟨by decide⟩
instance : LB 19 3 := ⟨by decide⟩
instance : LB 20 3 := ⟨by decide⟩
instance : LB 21 3 := ⟨by decide⟩
instance : LB 22 3 := ⟨by decide⟩
instance : LB 23 3 := ⟨by decide⟩
instance : LB 24 3 := ⟨by decide⟩
instance : LB 25 3 := ⟨by decide⟩
instance : LB 26 3 := ⟨by decide⟩
instance : LB 27 3 := ⟨by decide⟩
instance : LB 28 3 := ⟨by decide⟩
instance : LB 29 3 := ⟨by decide⟩
instance : LB 30 3 := ⟨by decide⟩
instance : LB 31 3 := ⟨by decide⟩
instance : LB 32 3 := ⟨by decide⟩
instance : LB 33 3 := ⟨by decide⟩
instance : LB 34 3 := ⟨by decide⟩
instance : LB 35 3 := ⟨by decide⟩
instance : LB 36 3 := ⟨by decide⟩
instance : LB 37 3 := ⟨by decide⟩
instance : LB 38 3 := ⟨by decide⟩
instance : LB 39 3 := ⟨by decide⟩
instance : LB 40 3 := ⟨by decide⟩
instance : LB 41 3 := ⟨by decide⟩
instance : LB 42 3 := ⟨by decide⟩
instance : LB 43 3 := ⟨by decide⟩
instance : LB 44 3 := ⟨by decide⟩
instance : LB 45 3 := ⟨by decide⟩
instance : LB 46 3 := ⟨by decide⟩
instance : LB 47 3 := ⟨by decide⟩
instance : LB 48 3 := ⟨by decide⟩
instance : LB 49 3 := ⟨by decide⟩
instance : LB 50 3 := ⟨by decide⟩
instance : LB 51 3 := ⟨by decide⟩
instance : LB 52 3 := ⟨by decide⟩
instance : LB 53 3 := ⟨by decide⟩
instance : LB 54 3 := ⟨by decide⟩
instance : LB 55 3 := ⟨by decide⟩
instance : LB 56 3 := ⟨by decide⟩
instance : LB 57 3 := ⟨by decide⟩
instance : LB 58 3 := ⟨by decide⟩
instance : LB 59 3 := ⟨by decide⟩
instance : LB 60 3 := ⟨by decide⟩
instance : LB 61 3 := ⟨by decide⟩
instance : LB 62 3 := ⟨by decide⟩
instance : LB 63 3 := ⟨by decide⟩
instance : LB 64 3 := ⟨by decide⟩
end Go.AM
end

section
/- Forms under matrices of determinant 1 or -1; three times a form; principal forms. -/
namespace Go.AM
open Go Go.RowKit
section
end
end Go.AM
end

section
/- Slices of forms; the list of reduced forms. -/
namespace Go.AM
open Go Go.RowKit
section ops
end ops
section ghost
end ghost
end Go.AM
end

section
/- The least values of a reduced form. -/
namespace Go.AM
open Go Go.RowKit
end Go.AM
end

section
/- A class has one reduced form. -/
namespace Go.AM
open Go Go.RowKit
end Go.AM
end

section
/- Unique reduced forms, as the law asks. -/
namespace Go.AM
open Go Go.RowKit
end Go.AM
end

section
/- Equivalence of forms, as the law FormSame asks. -/
namespace Go.AM
open Go Go.RowKit
end Go.AM
end

section
/- Facts of FormSame and FormInverse in the terms of their walks. -/
namespace Go.AM
open Go Go.RowKit
section
end
end Go.AM
end

section
/- Closures; loops over functions; boxes that hold a slice. -/
namespace Go.AM
open Go Go.RowKit
/-- What a function that is ranged over does between two rounds: it writes no block but its own (none of G, and none that was there when it began: n0). -/
structure Rest (n0 : Nat) (G : Nat → Prop) (h : Hp) (W : World) (h' : Hp) (W' : World) : Prop where
  os : W'.os = W.os
  tape : W'.tape = W.tape
  output : OutD W' W
  size : W.heap.size ≤ W'.heap.size
  old : ∀ i, i < W.heap.size → W'.heap[i]? = W.heap[i]? ∨ (n0 ≤ i ∧ ¬ G i ∧ h i = none)
  hi : ∀ i o, h' i = some o → W'.heap[i]? = some o
  hg : Hle h h'
  hn : ∀ i, h' i ≠ none → h i ≠ none ∨ (n0 ≤ i ∧ ¬ G i)
/-- What a round does: it writes the blocks of G alone. -/
structure Gave (G : Nat → Prop) (h : Hp) (W : World) (G' : Nat → Prop) (h' : Hp) (W' : World) : Prop where
  os : W'.os = W.os
  tape : W'.tape = W.tape
  output : OutD W' W
  size : W.heap.size ≤ W'.heap.size
  old : ∀ i, i < W.heap.size → ¬ G i → W'.heap[i]? = W.heap[i]?
  hg : Hle h h'
  hn : ∀ i, h' i ≠ none → h i ≠ none ∨ W.heap.size ≤ i ∨ G i
  gg : ∀ i, G' i → G i ∨ W.heap.size ≤ i
/-- What the user of a loop over a function keeps: J (the round's number, what is known to stay, the user's blocks, the world). -/
structure Keeps (P : Program) (l : Nat) (xs : List (List PV)) (n0 : Nat) (J : Nat → Hp → (Nat → Prop) → World → Prop) : Prop where
  hi : ∀ k h G W, J k h G W → ∀ i o, h i = some o → W.heap[i]? = some o
  g : ∀ k h G W, J k h G W → ∀ i, G i → i < W.heap.size ∧ h i = none
  rest : ∀ k h G W h' W', J k h G W → Rest n0 G h W h' W' → J k h' G W'
  give : ∀ k h G W x vals, xs[k]? = some x → J k h G W → PReps h x vals → YieldAt (Wd none) 0 P l vals.toArray W fun e W' => e = .returned (.bool true) ∧ ∃ h' G', J (k + 1) h' G' W' ∧ Gave G h W G' h' W'
/-- A function that is ranged over: it hands the elements of xs to yield, one after another; nothing else that was there changes. -/
structure Iter (P : Program) (gf : FuncId) (caps : List (List DV)) (xs : List (List PV)) : Prop where
  fn : FnOK P gf
  go : ∀ (l : Nat) (lb : Array Value) (J : Nat → Hp → (Nat → Prop) → World → Prop) (h : Hp) (G : Nat → Prop) (W : World), CapsRep h caps lb.toList → GlOK h → Keeps P l xs W.heap.size J → J 0 h G W →
    CallsIn (Wd none) 0 P gf (#[.func (.yield l) #[] #[]] ++ lb) W fun e W' => (∃ v, e = .returned v) ∧ ∃ h' G', J xs.length h' G' W'
/-- the parameters of a round -/
def setPs : Regs → List Nat → List PV → Regs
  | regs, p :: ps, x :: xs => setPs (upd regs p (.p x)) ps xs
  | regs, _, _ => regs
theorem foldl_zip_set {h : Hp} {r : Nat → Value} : ∀ (ps : List Nat) (x : List PV) (vals : List Value) (regs : Regs) (t : Array Value), PReps h x vals → x.length = ps.length → (∀ p ∈ ps, p < t.size) →
    RegsOK h r regs { tmps := t, defers := [] } →
    RegsOK h r (setPs regs ps x) { tmps := (ps.zip vals).foldl (fun t (p, v) => t.setIfInBounds p v) t, defers := [] } ∧ ((ps.zip vals).foldl (fun t (p, v) => t.setIfInBounds p v) t).size = t.size
  | [], [], vals, regs, t, _, _, _, k => by simp [setPs]; exact k
  | p :: ps, [], _, _, _, _, hl, _, _ => by simp at hl
  | [], x :: xs, _, _, _, _, hl, _, _ => by simp at hl
  | p :: ps, x :: xs, [], _, _, hv, _, _, _ => hv.elim
  | p :: ps, x :: xs, v :: vals, regs, t, hv, hl, hp, k => by
    have k1 : RegsOK h r (upd regs p (.p x)) { tmps := t.setIfInBounds p v, defers := [] } := by
      intro u
      show AVRep h r (upd regs p (.p x) u) ((t.setIfInBounds p v).getD u undef)
      rw [getD_setIfInBounds _ _ _ _ (hp p (by simp)), upd_eq]
      by_cases e : u = p
      · rw [if_pos e, if_pos e]; exact hv.1
      · rw [if_neg e, if_neg e]; exact k u
    obtain ⟨g1, g2⟩ := foldl_zip_set ps xs vals (upd regs p (.p x)) (t.setIfInBounds p v) hv.2 (by simpa using hl) (fun q hq => by simpa using hp q (by simp [hq])) k1
    exact ⟨g1, by rw [List.zip_cons_cons, List.foldl_cons]; rw [g2]; simp⟩
section round
variable {C : Ctx} {h h' : Hp} {r r' : Nat → Value} {own own' : Own} {w w' : World} {L np' : Nat}
def Ctx.round (h : Hp) (r : Nat → Value) (own : Own) (w : World) (np' : Nat) : Ctx := ⟨w, h, fun i => ∃ m, own m ≠ none ∧ hblk (r m) = some i, r, np', false⟩
theorem WOK.enter (k : WOK C h r own w) : WOK (Ctx.round h r own w np') h r own w :=
  ⟨k.ow, k.inj, k.hi, k.ho, rfl, rfl, .refl _, Nat.le_refl _, fun _ _ _ => rfl, fun m _ hm e => .inr ⟨m, hm, e⟩, .refl _, fun _ e => .inl e, k.gl, fun _ _ => rfl, k.lk⟩
theorem WOK.leave (k : WOK C h r own w) (q : WOK (Ctx.round h r own w np') h' r' own' w') (hnp : C.np ≤ np') : WOK C h' r' own' w' := by
  have hF : ∀ i, (Ctx.round h r own w np').F i → C.w0.heap.size ≤ i ∨ C.F i := by
    rintro i ⟨m, hm, e⟩; exact k.fo m i hm e
  refine ⟨q.ow, q.inj, q.hi, q.ho, q.os.trans k.os, q.tape.trans k.tape, q.output.trans k.output, Nat.le_trans k.size q.size, fun i hi hf => ?_, fun m i hm e => ?_, k.hg.trans q.hg, fun i hi => ?_, q.gl, fun m hm => ?_, q.lk⟩
  · have := q.old i (Nat.lt_of_lt_of_le hi k.size) (fun x => by
      rcases hF i x with g | g
      · omega
      · exact hf g)
    rw [this]; exact k.old i hi hf
  · rcases q.fo m i hm e with g | g
    · exact .inl (Nat.le_trans k.size g)
    · exact hF i g
  · rcases q.hn i hi with g | g | g
    · exact k.hn i g
    · exact .inr (.inl (Nat.le_trans k.size g))
    · exact .inr (hF i g)
  · rw [q.kp m (Nat.lt_of_lt_of_le hm hnp)]; exact k.kp m hm
theorem WOK.putL {o : Obj} (k : WOK C h r own w) (hL : ∀ m, own m ≠ none → hblk (r m) ≠ some L) (hh : h L = none) (hs : C.w0.heap.size ≤ L) : WOK C h r own (w.putObj L o) := by
  have old : ∀ i, i ≠ L → (w.putObj L o).heap[i]? = w.heap[i]? := fun i hi => putObj_other hi
  refine ⟨fun m b e => (k.ow m b e).world fun i hi => old i fun x => hL m (by rw [e]; simp) (by rw [hi, x]), k.inj, fun i o' e => ?_, k.ho, k.os, k.tape, k.output, by rw [size_putObj']; exact k.size, fun i hi hf => ?_, k.fo, k.hg, k.hn, k.gl, k.kp, fun m b j e hj => ?_⟩
  · rw [old i fun x => by subst x; rw [hh] at e; cases e]; exact k.hi i o' e
  · rw [old i (by omega)]; exact k.old i hi hf
  · obtain ⟨q, t, h1, h2⟩ := k.lk m b j e hj
    refine ⟨q, t, h1, ?_⟩
    rw [old q fun x => hL m (by rw [e]; simp) (by rw [h1, x]; rfl)]; exact h2
/-- what the round leaves of the loop's record -/
theorem WOK.rec_left (hL0 : ∀ m, own m ≠ none → hblk (r m) ≠ some L) (q : WOK (Ctx.round h r own w np') h' r' own' w') {o : Obj} (hL : w.heap[L]? = some o) (hh : h L = none) : w'.heap[L]? = some o ∧ h' L = none ∧ ∀ m, own' m ≠ none → hblk (r' m) ≠ some L := by
  have hlt : L < w.heap.size := (Array.getElem?_eq_some_iff.1 hL).1
  have hF : ¬ (Ctx.round h r own w np').F L := by rintro ⟨m, hm, e⟩; exact hL0 m hm e
  refine ⟨?_, ?_, fun m hm e => ?_⟩
  · rw [q.old L hlt hF]; exact hL
  · cases e : h' L with
    | none => rfl
    | some o' =>
      rcases q.hn L (by rw [e]; simp) with g | g | g
      · exact absurd hh g
      · have : w.heap.size ≤ L := g; omega
      · exact absurd g hF
  · rcases q.fo m L hm e with g | g
    · have : w.heap.size ≤ L := g; omega
    · exact hF g
/-- the world may change where nothing is owned or known -/
theorem WOK.rest (k : WOK C h r own w) {n0 : Nat} {G : Nat → Prop} (q : Rest n0 G h w h' w') (hG : ∀ m i, own m ≠ none → hblk (r m) = some i → G i) (h0 : C.w0.heap.size ≤ n0) : WOK C h' r own w' := by
  have same : ∀ m i, own m ≠ none → hblk (r m) = some i → w'.heap[i]? = w.heap[i]? := fun m i hm e => by
    rcases q.old i (k.lt hm e) with g | ⟨_, g, _⟩
    · exact g
    · exact absurd (hG m i hm e) g
  refine ⟨fun m b e => ((k.ow m b e).mono q.hg).world fun i hi => same m i (by rw [e]; simp) hi, k.inj, q.hi, fun m i hm e => ?_, q.os.trans k.os, q.tape.trans k.tape, q.output.trans k.output, Nat.le_trans k.size q.size, fun i hi hf => ?_, k.fo, k.hg.trans q.hg, fun i hi => ?_, k.gl.mono q.hg, k.kp, fun m b j e hj => ?_⟩
  · cases hh : h' i with
    | none => rfl
    | some o =>
      rcases q.hn i (by rw [hh]; simp) with g | g
      · exact absurd (k.ho m i hm e) g
      · exact absurd (hG m i hm e) g.2
  · rcases q.old i (Nat.lt_of_lt_of_le hi k.size) with g | ⟨g, _, _⟩
    · rw [g]; exact k.old i hi hf
    · omega
  · rcases q.hn i hi with g | g
    · exact k.hn i g
    · exact .inr (.inl (Nat.le_trans h0 g.1))
  · obtain ⟨q1, t, h1, h2⟩ := k.lk m b j e hj
    exact ⟨q1, t, h1, by rw [same m q1 (by rw [e]; simp) (by rw [h1]; rfl)]; exact h2⟩
end round
/-- what is owned may be said otherwise -/
def GW (np' : Nat) (o o' : Own) : Prop := ∀ (C : Ctx) (h : Hp) (r : Nat → Value) (w : World), C.np ≤ np' → WOK C h r o w →
  ∃ r2, (∀ m, m < np' → r2 m = r m) ∧ WOK C h r2 o' w ∧ ∀ m i, o' m ≠ none → hblk (r2 m) = some i → ∃ m2, o m2 ≠ none ∧ hblk (r m2) = some i
theorem GW.forget {np' : Nat} {o o' : Own} (e : ∀ m, o' m = o m ∨ o' m = none) : GW np' o o' := fun C h r w _ k =>
  ⟨r, fun _ _ => rfl, k.forget e, fun m i hm hi => ⟨m, by
    rcases e m with g | g
    · rw [← g]; exact hm
    · exact absurd g hm, hi⟩⟩
theorem GW.trans {np' : Nat} {a b c : Own} (h : GW np' a b) (k : GW np' b c) : GW np' a c := fun C hh r w hn q => by
  obtain ⟨r2, e1, e2, e3⟩ := h C hh r w hn q
  obtain ⟨r3, f1, f2, f3⟩ := k C hh r2 w hn e2
  refine ⟨r3, fun m hm => (f1 m hm).trans (e1 m hm), f2, fun m i hm hi => ?_⟩
  obtain ⟨m2, g1, g2⟩ := f3 m i hm hi
  exact e3 m2 i g1 g2
def menB (np' : Nat) (l : List (Nat × AV)) : Bool := l.all fun p => (men p.2).all fun m => Nat.blt m np'
theorem look_men {np' : Nat} : ∀ {l : List (Nat × AV)}, menB np' l = true → ∀ t, ∀ m ∈ men (look l t), m < np'
  | [], _, t, m, hm => by simp [look, men] at hm
  | (k, v) :: l, h, t, m, hm => by
    unfold menB at h
    rw [List.all_cons, Bool.and_eq_true] at h
    simp only [look, upd_eq] at hm
    by_cases e : t = k
    · rw [if_pos e] at hm
      have := List.all_eq_true.1 h.1 m hm
      simpa using this
    · rw [if_neg e] at hm
      exact look_men (l := l) h.2 t m hm
theorem marks_ne {C : Ctx} {h : Hp} {D : Nat} (hD : h D = none) : ∀ {ds : List Deferred}, Marks C h ds → ∀ x ∈ ds, x.target ≠ .collected D
  | [], _, x, hx => by simp at hx
  | d :: ds, ⟨_, ⟨D', h1, _, _, h4, _⟩, k⟩, x, hx => by
    rcases List.mem_cons.1 hx with rfl | hx
    · intro e
      rw [h1] at e
      have : D' = D := by simpa using e
      subst this; rw [hD] at h4; cases h4
    · exact marks_ne hD k x hx
set_option maxHeartbeats 1000000 in
/-- A loop over a function, every round of which ends as it should. -/
theorem AWp_range {P : Program} {N np : Nat} {Q : Exit → St → Prop} {l : List (Nat × AV)} {g : Operand} {ps : Array Tmp} {assign body : Code} {gf : FuncId} {caps : List (List DV)} {xs : List (List PV)} (np' : Nat) (own : Nat → Own)
    (hg : ev (look l) g = .fn gf caps) (hit : Iter P gf caps xs) (hps : ∀ x ∈ xs, x.length = ps.toList.length)
    (hfix : menB np' l = true) (hnp : Nat.ble np np' = true) (hpN : (ps.toList.all fun p => Nat.blt p N) = true)
    (hround : ∀ (k : Nat) (x : List PV), xs[k]? = some x → AWp P true N np' assign (AThen (AWp P true N np' body (fun e s' => e = .normal ∧ GW np' s'.own (own (k + 1)))) (fun _ _ => False)) ⟨setPs (look l) ps.toList x, own k⟩)
    (hdone : Q .normal ⟨look l, own xs.length⟩) : AWp P false N np (.rangeFunc g ps assign body) Q ⟨look l, own 0⟩ := by
  intro ro hB C hh r a w hn hc
  have hro : ro = none := hB rfl
  subst hro
  have hnp' := Nat.le_of_ble_eq_true hnp
  have hmar : C.mar = true := hn.2
  refine wpIn_rangeFunc ?_
  intro fn _
  have hgv := rep_ev hc.rg g
  rw [hg] at hgv
  obtain ⟨lb, hval, hcaps⟩ := hgv
  obtain ⟨rec, hrec⟩ : ∃ rec : LoopState → Option Code → Loop, rec = fun st pe => { state := st, pending := pe, fn, tmps := a.tmps, params := ps, assign, body, defers := w.heap.size } := ⟨_, rfl⟩
  obtain ⟨W1, hW1⟩ : ∃ W1, (w.alloc (.deferred (some []))).alloc (.loop (rec .ready none)) = W1 := ⟨_, rfl⟩
  obtain ⟨hw1, hle1⟩ := hc.wk.imm (.deferred (some []))
  obtain ⟨h1, hh1⟩ : ∃ h1 : Hp, h1 = fun i => if i = w.heap.size then some (.deferred (some [])) else hh i := ⟨_, rfl⟩
  rw [← hh1] at hw1 hle1
  have hs1 : W1.heap.size = w.heap.size + 2 := by rw [← hW1]; simp
  have hold1 : ∀ i, i < (w.alloc (.deferred (some []))).heap.size → W1.heap[i]? = (w.alloc (.deferred (some []))).heap[i]? := fun i hi => by
    rw [← hW1, heap_alloc, if_neg (by omega)]
  have hw2 : WOK C h1 r (own 0) W1 := hw1.beside (by rw [← hW1]; rfl) (by rw [← hW1]; rfl) (by rw [← hW1]; exact ⟨rfl, Nat.le_refl _⟩) (by rw [hs1]; simp) hold1
  have hL1 : W1.heap[w.heap.size + 1]? = some (.loop (rec .ready none)) := by
    rw [← hW1, heap_alloc, if_pos (by simp)]
  have hD0 : hh w.heap.size = none := by
    cases e : hh w.heap.size with
    | none => rfl
    | some o => have := hc.wk.hlt e; omega
  have hhL : h1 (w.heap.size + 1) = none := by
    rw [hh1]
    show (if w.heap.size + 1 = w.heap.size then _ else hh (w.heap.size + 1)) = none
    rw [if_neg (by omega)]
    cases e : hh (w.heap.size + 1) with
    | none => rfl
    | some o => have := hc.wk.hlt e; omega
  have hnoL : ∀ m, own 0 m ≠ none → hblk (r m) ≠ some (w.heap.size + 1) := fun m hm e => by
    have := hc.wk.lt hm e; omega
  have hD1 : h1 w.heap.size = some (.deferred (some [])) := by rw [hh1]; exact if_pos rfl
  generalize hLL : w.heap.size + 1 = L at *
  have hCL : C.w0.heap.size ≤ L := by have := hc.wk.size; omega
  refine ⟨L, [{ target := .collected w.heap.size, args := #[] }], W1, { target := .fn (.func gf) lb, args := #[.func (.yield L) #[] #[]] }, W1, gf, #[.func (.yield L) #[] #[]] ++ lb, W1, ?_, ?_, fun _ _ => trivial, ?_, fun e => by simp [Wd] at e, ?_⟩
  · rw [← hW1, hrec, ← hLL]; exact run_enterLoop_outer _ _ _ _ _
  · simp only [resolve, hval]
    simp [go_sem]
  · have eg : ∀ args w, (callFunc gf args).run P w = .ok (.enter gf args) w := fun args w => run_callFunc hit.fn args w
    simp [invoke, go_sem, eg]
  · have hmen := look_men hfix
    obtain ⟨J, hJ⟩ : ∃ J : Nat → Hp → (Nat → Prop) → World → Prop, J = fun k h G W => ∃ r', (∀ m, m < np' → r' m = r m) ∧ WOK C h r' (own k) W ∧ W.heap[L]? = some (.loop (rec .ready none)) ∧ h L = none ∧ (∀ m, own k m ≠ none → hblk (r' m) ≠ some L) ∧ Hle h1 h ∧
        G = fun i => i = L ∨ ∃ m, own k m ≠ none ∧ hblk (r' m) = some i := ⟨_, rfl⟩
    have hrg : ∀ h r', Hle h1 h → (∀ m, m < np' → r' m = r m) → RegsOK h r' (look l) a := fun h r' hl hr t =>
      AVRep.rebind _ _ (fun m hm => hr m (hmen t m hm)) (AVRep.mono (hle1.trans hl) _ _ (hc.rg t))
    refine CallsIn.mono (hit.go L lb J h1 (fun i => i = L ∨ ∃ m, own 0 m ≠ none ∧ hblk (r m) = some i) W1 (hcaps.mono hle1) hw2.gl ⟨?_, ?_, ?_, ?_⟩ ?_) ?_
    · intro k h G W hk
      rw [hJ] at hk
      obtain ⟨r', _, q, _⟩ := hk
      exact q.hi
    · intro k h G W hk i hi
      rw [hJ] at hk
      obtain ⟨r', e1, e2, e3, e4, e5, e6, rfl⟩ := hk
      rcases hi with rfl | ⟨m, hm, e⟩
      · exact ⟨(Array.getElem?_eq_some_iff.1 e3).1, e4⟩
      · exact ⟨e2.lt hm e, e2.ho m i hm e⟩
    · intro k h G W h' W' hk q
      rw [hJ] at hk ⊢
      obtain ⟨r', e1, e2, e3, e4, e5, e6, rfl⟩ := hk
      have hlt : L < W.heap.size := (Array.getElem?_eq_some_iff.1 e3).1
      refine ⟨r', e1, e2.rest q (fun m i hm e => .inr ⟨m, hm, e⟩) (Nat.le_trans hw2.size (Nat.le_refl _)), ?_, ?_, e5, e6.trans q.hg, rfl⟩
      · rcases q.old L hlt with g | ⟨_, g, _⟩
        · rw [g]; exact e3
        · exact absurd (.inl rfl) g
      · cases e : h' L with
        | none => rfl
        | some o =>
          rcases q.hn L (by rw [e]; simp) with g | g
          · exact absurd e4 g
          · exact absurd (.inl rfl) g.2
    · intro k h G W x vals hx hk hv
      rw [hJ] at hk
      obtain ⟨r', e1, e2, e3, e4, e5, e6, rfl⟩ := hk
      have hlen : x.length = ps.toList.length := hps x (List.mem_of_getElem? hx)
      have hvl : vals.length = x.length := by
        have : ∀ (ps : List PV) (vs : List Value), PReps h ps vs → vs.length = ps.length := by
          intro ps
          induction ps with
          | nil => intro vs k; cases vs with
            | nil => rfl
            | cons _ _ => exact k.elim
          | cons p ps ih => intro vs k; cases vs with
            | nil => exact k.elim
            | cons v vs => simp [ih vs k.2]
        exact this _ _ hv
      have hsz : vals.toArray.size = (rec .ready none).params.size := by
        rw [hrec]
        show vals.length = ps.size
        rw [hvl, hlen]; simp
      refine ⟨_, _, _, _, run_yield e3 hsz, roundIn_of_wpIn trivial ?_⟩
      rw [hrec]
      show assign.wpIn (Wd (some L)) 0 P _ { tmps := (ps.zip vals.toArray).foldl (fun t (p, v) => t.setIfInBounds p v) a.tmps, defers := [] } W
      have hzip : (ps.zip vals.toArray).foldl (fun t (p, v) => t.setIfInBounds p v) a.tmps = (ps.toList.zip vals).foldl (fun t (p, v) => t.setIfInBounds p v) a.tmps := by
        rw [← Array.foldl_toList, Array.toList_zip]
      rw [hzip]
      obtain ⟨f1, f2⟩ := foldl_zip_set (r := r') ps.toList x vals (look l) a.tmps hv hlen (fun p hp => by
        have := List.all_eq_true.1 hpN p hp
        rw [hc.sz]; simpa using this) (fun t => hrg h r' e6 e1 t)
      refine wpIn_mono (hround k x hx (some L) (fun e => by cases e) (Ctx.round h r' (own k) W np') h r' _ W ⟨rfl, rfl⟩ ⟨f2.trans hc.sz, trivial, f1, e2.enter⟩) ?_
      rintro e a1 w1 ⟨s1, h2, r2, q1, c1⟩
      cases e with
      | normal =>
        have hwk1 := e2.leave c1.wk (Nat.le_trans (Nat.le_of_eq hn.1) hnp')
        obtain ⟨g1, g2, g3⟩ := WOK.rec_left e5 c1.wk e3 e4
        have hd1 : a1.defers = [] := by
          have := c1.df
          cases hd : a1.defers with
          | nil => rfl
          | cons d ds => rw [hd] at this; cases this.1
        have hw3 := hwk1.putL (o := .loop { rec .ready none with state := .busy }) g3 g2 hCL
        have hLw : L < w1.heap.size := (Array.getElem?_eq_some_iff.1 g1).1
        have hLb : (w1.putObj L (.loop { rec .ready none with state := .busy })).heap[L]? = some (.loop { rec .ready none with state := .busy }) := World.putObj_heap_same hLw
        refine ⟨_, run_beginRound g1 (by rw [hrec]), ?_⟩
        refine wpIn_mono (q1 (some L) (fun e => by cases e) (Ctx.round h2 r2 s1.own _ np') h2 r2 a1 _ ⟨rfl, rfl⟩ ⟨c1.sz, by rw [hd1]; trivial, c1.rg, hw3.enter⟩) ?_
        rintro e a2 w2 ⟨s2, h3, r3, ⟨rfl, q2⟩, c2⟩
        have hwk2 := hw3.leave c2.wk (Nat.le_trans (Nat.le_of_eq hn.1) hnp')
        obtain ⟨k1, k2, k3⟩ := WOK.rec_left g3 c2.wk hLb g2
        obtain ⟨r4, q3, hwk3, q4⟩ := q2 C h3 r3 w2 (Nat.le_trans (Nat.le_of_eq hn.1) hnp') hwk2
        have k3' : ∀ m, own (k + 1) m ≠ none → hblk (r4 m) ≠ some L := fun m hm e => by
          obtain ⟨m2, g1, g2⟩ := q4 m L hm e
          exact k3 m2 g1 g2
        have F2 : ∀ i, (Ctx.round h2 r2 s1.own (w1.putObj L (.loop { rec .ready none with state := .busy })) np').F i → W.heap.size ≤ i ∨ ∃ m, own k m ≠ none ∧ hblk (r' m) = some i := by
          rintro i ⟨m, hm, e⟩; exact c1.wk.fo m i hm e
        have sz1 : W.heap.size ≤ w1.heap.size := c1.wk.size
        have sz2 : w1.heap.size ≤ w2.heap.size := by have : (w1.putObj L _).heap.size ≤ w2.heap.size := c2.wk.size; rwa [size_putObj'] at this
        refine ⟨_, _, run_endRound none k1, rfl, h3, fun i => i = L ∨ ∃ m, own (k + 1) m ≠ none ∧ hblk (r4 m) = some i, ?_, ?_⟩
        · rw [hJ]
          refine ⟨r4, fun m hm => ?_, hwk3.putL k3' k2 hCL, ?_, k2, k3', e6.trans (c1.wk.hg.trans c2.wk.hg), rfl⟩
          · rw [q3 m hm, c2.wk.kp m hm]
            show r2 m = r m
            rw [c1.wk.kp m hm]
            exact e1 m hm
          · rw [World.putObj_heap_same (Array.getElem?_eq_some_iff.1 k1).1, hrec]; rfl
        · refine ⟨c2.wk.os.trans c1.wk.os, c2.wk.tape.trans c1.wk.tape, c2.wk.output.trans c1.wk.output, by rw [size_putObj']; omega, fun i hi hg => ?_, c1.wk.hg.trans c2.wk.hg, fun i hi => ?_, fun i hi => ?_⟩
          · have hiL : i ≠ L := fun x => hg (.inl x)
            rw [putObj_other hiL, c2.wk.old i (by rw [show (Ctx.round h2 r2 s1.own (w1.putObj L (.loop { rec .ready none with state := .busy })) np').w0.heap.size = w1.heap.size from size_putObj' _ _ _]; omega) (fun x => by
              rcases F2 i x with g | g
              · omega
              · exact hg (.inr g))]
            show (w1.putObj L _).heap[i]? = _
            rw [putObj_other hiL]
            exact c1.wk.old i hi (fun x => hg (.inr x))
          · rcases c2.wk.hn i hi with g | g | g
            · rcases c1.wk.hn i g with g | g | g
              · exact .inl g
              · exact .inr (.inl g)
              · exact .inr (.inr (.inr g))
            · have g' : (w1.putObj L (.loop { rec .ready none with state := .busy })).heap.size ≤ i := g
              rw [size_putObj'] at g'
              exact .inr (.inl (by omega))
            · rcases F2 i g with g | g
              · exact .inr (.inl g)
              · exact .inr (.inr (.inr g))
          · rcases hi with rfl | ⟨m, hm, e⟩
            · exact .inl (.inl rfl)
            · obtain ⟨m2, g1, g2⟩ := q4 m i hm e
              rcases c2.wk.fo m2 i g1 g2 with g | g
              · have g' : (w1.putObj L (.loop { rec .ready none with state := .busy })).heap.size ≤ i := g
                rw [size_putObj'] at g'
                exact .inr (by omega)
              · rcases F2 i g with g | g
                · exact .inr g
                · exact .inl (.inr g)
      | _ => exact q1.elim
    · rw [hJ]
      exact ⟨r, fun _ _ => rfl, hw2, hL1, hhL, hnoL, .refl _, rfl⟩
    · rintro e W3 ⟨⟨v, rfl⟩, h', G', hk⟩
      rw [hJ] at hk
      obtain ⟨r', e1, e2, e3, e4, e5, e6, _⟩ := hk
      refine ⟨none, _, by have := run_endLoop (P := P) e3 (by rw [hrec]; simp); rw [hrec] at this; exact this, ?_⟩
      refine ⟨⟨look l, own xs.length⟩, h', r', hdone, hc.sz, ?_, fun t => hrg h' r' e6 e1 t, e2.putL e5 e4 hCL⟩
      refine ⟨hmar, ⟨w.heap.size, rfl, hc.wk.size, ?_, e6 _ _ hD1, marks_ne hD0 hc.df⟩, hc.df.mono (hle1.trans e6)⟩
      cases e : C.h0 w.heap.size with
      | none => rfl
      | some o => have := hc.wk.hg _ _ e; rw [hD0] at this; cases this
end Go.AM
end

section
/- Operations with closures, boxes that hold a slice, a listed variable, a small map. -/
namespace Go.AM
open Go Go.RowKit
section ops
variable {P : Program} {tt : TT} (hT : TTok P tt)
variable {dst : Option Nat} {ty : TypeId} {pos : String} {af : Array Edge} {gd : Option (Nat × Bool)} {d : Nat} {ρ : Operand → AV} {own : Own}
variable {T : TypeId} {i : TyI} {x y : Operand}
/-- a closure over data that stays -/
theorem op_makeFunc {f : FuncId} {c : Operand} {xs : List DV} (hx : ρ c = .ip xs) : Eff P ⟨dst, .makeFunc (.func f) #[] #[c], ty, pos, af, gd⟩ d ρ own (.fn f [xs]) [] none [] :=
  Eff.value fun C h r own' a w hrep hrd hw => by
    have e1 := hrep c (by simp [Op.operands])
    rw [hx] at e1
    refine ⟨.func (.func f) #[] #[a.eval c], ?_, #[a.eval c], rfl, e1, trivial⟩
    simp [execOp, Instr.makeFunc]
theorem eval_func {h : Hp} {r : Nat → Value} {f : FuncId} {v : Value} (e : AVRep h r (.p (.c (.v (.func (.func f) #[] #[])))) v) : v = .func (.func f) #[] #[] := by
  simp only [AVRep, PRep, DRep] at e
  exact e.1
/-- a call of a function value that captures nothing -/
theorem Eff.callF {f : FuncId} {c : Operand} {args : Array Operand} {tys : Array TypeId} {res : AV} (hx : ρ c = .p (.c (.v (.func (.func f) #[] #[])))) (hc : Call0 P f (args.toList.map ρ) res) :
    Eff P ⟨dst, .call ⟨.value c, args, tys⟩, ty, pos, af, gd⟩ d ρ own res [] none [] := by
  intro C h r own' a w K Q hrep hrd hw _ hK
  have e1 := hrep c (by simp [Op.operands, Call.operands])
  rw [hx] at e1
  have e2 := eval_func e1
  unfold Oper.wp
  have hrun : (execOp a.eval ⟨dst, .call ⟨.value c, args, tys⟩, ty, pos, af, gd⟩).run P w = .ok (.enter f (args.map a.eval)) w := by
    simp only [execOp, resolve, Sem.run_bind, e2, Deferred.ofValue, Sem.run_pure, Result.andThen_ok, invoke, Array.empty_append, Array.append_empty]
    exact run_callFunc hc.fn _ w
  rw [hrun]
  refine Calls.mono (hc.go h r w (args.map a.eval) ?_ (hw.before fun m hm => absurd rfl hm)) ?_
  · rw [Array.toList_map]
    exact repArgs_map _ fun x hx => hrep x (by simp only [Op.operands, Call.operands]; exact Array.mem_append.2 (.inr (Array.mem_toList_iff.1 hx)))
  · rintro e w' ⟨v, h', rfl, hv, hq⟩
    exact hK v h' r w' hq.hg (fun _ _ => rfl) hv (hw.after (fun m hm => absurd rfl hm) hq (fun m => by simp [nown, applySt]) (fun m b hm => absurd rfl hm))
include hT in
/-- a box for a slice -/
theorem op_alloc_nil (ht : tt T = some i) (hu : (P.info? T).bind (·.zero) = some (.slice none 0 0)) : Eff P ⟨dst, .alloc T, ty, pos, af, gd⟩ d ρ own (.loc d 0) [] (some ⟨false, 1, T, [.v (.slice none 0 0)]⟩) [] := by
  intro C h r own' a w K Q hrep _ hw hal hK
  obtain ⟨ti, g1, g2, g3, z, g4, g5, g6, g7⟩ := (hT T i ht).info
  have hzz : z = .slice none 0 0 := by
    rw [g1] at hu
    simp only [Option.bind_some, g4, Option.some.injEq] at hu
    exact hu
  subst hzz
  refine alloc_cells (hal (by simp)) hw (x := .pointer (some ⟨w.heap.size, 0, none⟩)) (c := #[.slice none 0 0]) ?_ ?_ ?_ ?_ hK
  · intro k hk; simp [hblk] at hk; exact hk.symm
  · refine ⟨w.heap.size, #[.slice none 0 0], rfl, by rw [heap_alloc, if_pos rfl], rfl, ?_⟩
    simp only [DReps, DRep]
    exact ⟨⟨_, rfl, rfl, rfl⟩, trivial⟩
  · intro h r' hr; exact ⟨w.heap.size, ⟨by rw [hr]; rfl, by rw [hr]; rfl⟩, rfl⟩
  · have hz1 : (zeroValue T).run P w = .ok (.slice none 0 0) w := by simp [zeroValue, typeInfo, g1, g4]
    simp only [execOp, Instr.alloc, newVar, newRow, Sem.run_bind, hz1, run_newObj, Result.andThen_ok, Sem.run_pure]; rfl
include hT in
/-- the slice in a box is looked at -/
theorem op_loadNm {m j : Nat} {v : Bool} {z : Nat} {e : TypeId} {dv : DV} (ht : tt T = some i) (hg : i.sh.agg = false) (hx : ρ x = .loc m 0) (hb : own m = some ⟨v, z, e, [dv]⟩) (hj : lnk ⟨v, z, e, [dv]⟩ = [j]) :
    Eff P ⟨dst, .load T x, ty, pos, af, gd⟩ d ρ own (.vec j) [] none [m] :=
  Eff.value fun C h r own' a w hrep hrd hw => by
    have e1 := hrep x (by simp [Op.operands])
    rw [hx] at e1
    obtain ⟨k, ⟨h1, _⟩, h2⟩ := e1
    obtain ⟨q, t, h3, h4⟩ := hw.lk m _ j ((hrd m (by simp)).trans hb) (by rw [hj]; simp)
    rw [h3] at h1
    simp only [hblk, Option.some.injEq] at h1
    subst h1
    refine ⟨r j, ?_, rfl⟩
    have hc : w.cell? ⟨q, 0, none⟩ = some (r j) := by simp [World.cell?, h4, lkC]
    simp only [execOp, h2, Sem.run_bind, loadAt_ptr, loadVar, (hT T i ht).isAgg, hg, Result.andThen_ok, Bool.false_eq_true, if_false, run_load, hc, Sem.run_pure]
include hT in
/-- a slice of the call's own is put into a box -/
theorem op_storeNm {m j n z : Nat} {e : TypeId} {dv : DV} {b : Blk} (ht : tt T = some i) (hsz : i.size = 1) (hx : ρ x = .loc m 0) (hy : ρ y = .vec j) (hb : own m = some ⟨false, z, e, [dv]⟩) (hbj : own j = some b) (hbv : b.vec = true) (hn : n * b.sz = b.cs.length) (hs0 : 0 < b.sz) :
    Eff P ⟨none, .store T x y, ty, pos, af, gd⟩ d ρ own .junk [(m, some ⟨false, j + 2, e, [.sl n []]⟩)] none [m, j] := by
  intro C h r own' a w K Q hrep hrd hw _ hK
  have hb' := (hrd m (by simp)).trans hb
  have hj' := (hrd j (by simp)).trans hbj
  have e1 := hrep x (by simp [Op.operands])
  have e2 := hrep y (by simp [Op.operands])
  rw [hx] at e1; rw [hy] at e2
  obtain ⟨k, h1, h2, c, h3, h4, h5⟩ := own_reads hw hb' e1
  have e2' : a.eval y = r j := e2
  have hbr := hw.ow j b hj'
  rw [BlkRep.slE hbv hs0] at hbr
  obtain ⟨ad, l, cap, q1, q2, q3, q4, q5⟩ := hbr
  have hl : l = n := Nat.eq_of_mul_eq_mul_right hs0 (q2.trans hn.symm)
  subst hl
  have hcells : (a.eval y).cells = #[r j] := by rw [e2', q1]; rfl
  have hone : (r j).oneCell' = true := by rw [q1]; rfl
  have hbx := hw.ow m _ hb'
  unfold BlkRep at hbx
  simp only at hbx
  obtain ⟨k0, c0, p1, p2, p3, p4⟩ := hbx
  rw [p1] at h2; simp only [hblk, Option.some.injEq] at h2; subst h2
  rw [p2] at h3
  have hcc : c0 = c := by simpa using h3
  subst hcc
  have hsize : c0.size = 1 := p3
  obtain ⟨w', c', k1, k2, k3, k4, k5⟩ := run_storeCells_block P k0 e [r j] 0 0 w c0 p2 (by simp; omega) (by simpa using hone)
  have hc' : c' = #[r j] := by
    have h0 := k5 0
    simp at h0
    apply Array.ext (by simp; omega)
    intro q hq1 hq2
    have : q = 0 := by omega
    subst this
    rw [Array.getElem?_eq_getElem (by omega)] at h0
    simpa using h0
  have hrun : (execOp a.eval ⟨none, .store T x y, ty, pos, af, gd⟩).run P w = .ok .skip w' := by
    have hs : ¬ ((a.eval y).cells.size ≠ i.size) := by rw [hcells, hsz]; simp
    simp only [execOp, h1, Instr.storeAt, Instr.sureAddr, storeVar, Sem.run_bind, Sem.run_pure, (hT T i ht).size, Result.andThen_ok, hs, if_false]
    rw [hcells]
    simp only [Result.andThen_ok, k1]
  unfold Oper.wp
  rw [hrun]
  refine hK undef h r w' (.refl _) (fun _ _ => rfl) trivial (hw.write (by rw [hb']; simp) (by rw [p1]; rfl) k2 (b := ⟨false, j + 2, e, [.sl l []]⟩) ?_ ?_)
  · refine ⟨k0, c', p1, k3, by rw [hc']; rfl, ?_⟩
    rw [hc']
    simp only [DReps, DRep]
    exact ⟨⟨r j, rfl, ad, cap, q1, q3, q4, .inl trivial⟩, trivial⟩
  · intro j' hj
    have : j' = j := by simpa [lnk] using hj
    subst this
    exact ⟨k0, (e, #[]), p1, by rw [k3, hc']; rfl⟩
end ops
section ghost
variable {P : Program} {B : Bool} {N np : Nat} {Q : Exit → St → Prop} {s : St} {c : Code}
/-- a box is not written any more -/
theorem AWp_freezeBox {t m z : Nat} {e : TypeId} {cs : List DV} (ht : s.regs t = .loc m 0) (hb : s.own m = some ⟨false, z, e, cs⟩) (h : AWp P B N np c Q ⟨upd s.regs t (.ip cs), upd s.own m none⟩) : AWp P B N np c Q s := by
  intro ro hB C hh r a w hn hc
  have hold := hc.wk.ow m _ hb
  unfold BlkRep at hold
  simp only at hold
  obtain ⟨k, cc, q1, q2, q3, q4⟩ := hold
  obtain ⟨f1, f2⟩ := hc.wk.freeze (m := m) (i := k) (by rw [hb]; simp) (by rw [q1]; rfl) q2
  refine h ro hB C _ r a w hn ⟨hc.sz, hc.df.mono f2, fun t' => ?_, f1⟩
  show AVRep _ _ (upd s.regs t _ t') _
  by_cases e' : t' = t
  · subst e'
    rw [upd_same]
    have hx := hc.rg t'
    rw [ht] at hx
    obtain ⟨k', ⟨g1, _⟩, g2⟩ := hx
    rw [q1] at g1; simp only [hblk, Option.some.injEq] at g1; subst g1
    exact ⟨k, 0, cc, e, (0, 0), g2, if_pos rfl, by simpa using DReps.mono f2 _ _ q4⟩
  · rw [upd_ne _ _ _ _ e']; exact AVRep.mono f2 _ _ (hc.rg t')
/-- a box's slice gets another name -/
theorem WOK.relink {C : Ctx} {h : Hp} {r : Nat → Value} {own : Own} {w : World} (k : WOK C h r own w) {m z j n : Nat} {e : TypeId} {cs : List DV} (hb : own m = some ⟨false, z, e, cs⟩) (hc : ∃ (q : Nat) (t : TypeId × Array Value), r m = .pointer (some ⟨q, 0, none⟩) ∧ w.heap[q]? = some (.cells #[r j] t.1 (0, 0)))
    (hr : DReps h [DV.sl n []] fun i => (#[r j])[i]?) : WOK C h r (upd own m (some ⟨false, j + 2, e, [.sl n []]⟩)) w := by
  have live : ∀ p, upd own m (some ⟨false, j + 2, e, [.sl n []]⟩) p ≠ none → own p ≠ none := fun p hp => by
    by_cases h1 : p = m
    · subst h1; rw [hb]; simp
    · rwa [upd_ne _ _ _ _ h1] at hp
  refine ⟨fun p b hp => ?_, fun p q i hp hq => k.inj p q i (live p hp) (live q hq), k.hi, fun p i hp => k.ho p i (live p hp), k.os, k.tape, k.output, k.size, k.old, fun p i hp => k.fo p i (live p hp), k.hg, k.hn, k.gl, k.kp, fun p b j' hp hj => ?_⟩
  · by_cases h1 : p = m
    · subst h1; rw [upd_same] at hp; cases hp
      have hold := k.ow p _ hb
      unfold BlkRep at hold ⊢
      simp only at hold ⊢
      obtain ⟨k0, c0, p1, p2, p3, p4⟩ := hold
      obtain ⟨q, t, g1, g2⟩ := hc
      rw [p1] at g1
      have : k0 = q := by simpa using g1
      subst this
      rw [p2] at g2
      have e2 : c0 = #[r j] := by simp only [Option.some.injEq, Obj.cells.injEq] at g2; exact g2.1
      subst e2
      exact ⟨k0, _, p1, p2, rfl, hr⟩
    · rw [upd_ne _ _ _ _ h1] at hp; exact k.ow p b hp
  · by_cases h1 : p = m
    · subst h1; rw [upd_same] at hp; cases hp
      have : j' = j := by simpa [lnk] using hj
      subst this
      exact hc
    · rw [upd_ne _ _ _ _ h1] at hp; exact k.lk p b j' hp hj
/-- a new name for the slice that a box does not yet hold: none -/
theorem WOK.newNil {C : Ctx} {h : Hp} {r : Nat → Value} {own : Own} {w : World} (k : WOK C h r own w) {j sz : Nat} {be : TypeId} (hs0 : 0 < sz) (hd : own j = none) (hp : C.np ≤ j) (hl : ∀ m b, own m = some b → j ∉ lnk b) : WOK C h (upd r j (.slice none 0 0)) (upd own j (some ⟨true, sz, be, []⟩)) w := by
  have live : ∀ n, n ≠ j → upd own j (some (⟨true, sz, be, []⟩ : Blk)) n ≠ none → own n ≠ none := fun n h1 hn => by rwa [upd_ne _ _ _ _ h1] at hn
  have nb : ∀ i, hblk (upd r j (.slice none 0 0) j) = some i → False := fun i e => by rw [upd_same] at e; cases e
  refine ⟨fun m b e => ?_, fun m n i hm hn e f => ?_, k.hi, fun m i hm e => ?_, k.os, k.tape, k.output, k.size, k.old, fun m i hm e => ?_, k.hg, k.hn, k.gl, fun m hm => ?_, fun m b j' e hj => ?_⟩
  · by_cases h1 : m = j
    · subst h1; rw [upd_same] at e ⊢; cases e
      rw [BlkRep.slE rfl hs0]
      exact ⟨none, 0, 0, rfl, by simp, by omega, by omega, .inl rfl⟩
    · rw [upd_ne _ _ _ _ h1] at e ⊢; exact k.ow m b e
  · by_cases h1 : m = j
    · subst h1; exact (nb i e).elim
    · by_cases h2 : n = j
      · subst h2; exact (nb i f).elim
      · rw [upd_ne _ _ _ _ h1] at e; rw [upd_ne _ _ _ _ h2] at f
        exact k.inj m n i (live m h1 hm) (live n h2 hn) e f
  · by_cases h1 : m = j
    · subst h1; exact (nb i e).elim
    · rw [upd_ne _ _ _ _ h1] at e; exact k.ho m i (live m h1 hm) e
  · by_cases h1 : m = j
    · subst h1; exact (nb i e).elim
    · rw [upd_ne _ _ _ _ h1] at e; exact k.fo m i (live m h1 hm) e
  · rw [upd_ne _ _ _ _ (by omega)]; exact k.kp m hm
  · by_cases h1 : m = j
    · subst h1; rw [upd_same] at e; cases e; simp [lnk] at hj
    · rw [upd_ne _ _ _ _ h1] at e
      have hjj : j' ≠ j := fun x => hl m b e (x ▸ hj)
      rw [upd_ne _ _ _ _ h1, upd_ne _ _ _ _ hjj]
      exact k.lk m b j' e hj
def linkS (m j sz : Nat) (be e : TypeId) (s : St) : St := ⟨(kill [j] s).regs, upd (upd (kill [j] s).own j (some ⟨true, sz, be, []⟩)) m (some ⟨false, j + 2, e, [.sl 0 []]⟩)⟩
/-- a box that holds no slice yet is a box that holds the slice j -/
theorem AWp_mkLink (m j sz : Nat) (be : TypeId) {z : Nat} {e : TypeId} (hb : s.own m = some ⟨false, z, e, [.v (.slice none 0 0)]⟩) (hz : Nat.blt z 2 = true) (hj : Nat.beq m j = false) (hp : Nat.ble np j = true) (h : AWp P B N np c Q (linkS m j sz be e s)) (hs0 : Nat.blt 0 sz = true := by rfl) : AWp P B N np c Q s := by
  have hne : m ≠ j := fun e => by rw [e, Nat.beq_refl] at hj; cases hj
  intro ro hB C hh r a w hn hc
  have hk := kill_conc [j] hc
  have hm : (kill [j] s).own m = some ⟨false, z, e, [.v (.slice none 0 0)]⟩ := by
    show (bif [j].contains m then none else killO [j] (s.own m)) = _
    have : [j].contains m = false := by simp; exact hne
    rw [this, hb]
    have hl : lnk ⟨false, z, e, [.v (.slice none 0 0)]⟩ = [] := by
      match z, hz with
      | 0, _ => rfl
      | 1, _ => rfl
    show some (killB [j] _) = _
    unfold killB; rw [hl]; rfl
  have hw := hk.wk.newNil (j := j) (sz := sz) (be := be) (Nat.le_of_ble_eq_true hs0) (kill_own [j] s j (by simp)) (by rw [hn.1]; exact Nat.le_of_ble_eq_true hp) (kill_lnk [j] s j (by simp))
  have hold := hk.wk.ow m _ hm
  unfold BlkRep at hold
  simp only at hold
  obtain ⟨k0, c0, p1, p2, p3, p4⟩ := hold
  have hc0 : c0 = #[.slice none 0 0] := by
    simp only [DReps, DRep] at p4
    obtain ⟨⟨y, g1, g2⟩, _⟩ := p4
    apply Array.ext (by simpa using p3)
    intro q hq1 hq2
    have : q = 0 := by have : q < 1 := hq2; omega
    subst this
    rw [Array.getElem?_eq_getElem (by simpa using hq1)] at g1
    simp at g1
    rw [g1, g2.1]; rfl
  subst hc0
  have hw2 := hw.relink (m := m) (z := z) (j := j) (n := 0) (e := e) (cs := [.v (.slice none 0 0)]) (by rw [upd_ne _ _ _ _ hne]; exact hm) ⟨k0, (e, #[]), by rw [upd_ne _ _ _ _ hne]; exact p1, by rw [upd_same]; exact p2⟩ (by
    rw [upd_same]
    simp only [DReps, DRep]
    exact ⟨⟨_, rfl, none, 0, rfl, by omega, by omega, .inl trivial⟩, trivial⟩)
  refine h ro hB C hh (upd r j (.slice none 0 0)) a w hn ⟨hk.sz, hk.df, fun t => ?_, hw2⟩
  exact AVRep.rebind _ _ (fun n hn' => upd_ne _ _ _ _ (fun x => kill_men [j] s j (by simp) t (x ▸ hn'))) (hk.rg t)
end ghost
/-- a box's slice under another name, at a round's end -/
theorem GW.rnL {np' : Nat} {o o' : Own} (m j d n : Nat) {e : TypeId} {dv : DV} {b : Blk} (hm : o m = some ⟨false, j + 2, e, [dv]⟩) (hb : o j = some b) (hbv : b.vec = true) (hn : n * b.sz = b.cs.length) (hs0 : 0 < b.sz) (hmj : Nat.beq m j = false) (hmd : Nat.beq m d = false) (hjd : Nat.beq j d = false) (hp : Nat.ble np' d = true)
    (hfin : ∀ x, o' x = (upd (upd (upd (kill [d] ⟨fun _ => .junk, o⟩).own j none) d (some b)) m (some ⟨false, d + 2, e, [.sl n []]⟩)) x ∨ o' x = none) : GW np' o o' := by
  have neq : ∀ {x y : Nat}, Nat.beq x y = false → x ≠ y := fun h e => by rw [e, Nat.beq_refl] at h; cases h
  have h1 := neq hmj; have h2 := neq hmd; have h3 := neq hjd
  intro C hh r w hnp hk0
  have hdp := Nat.le_of_ble_eq_true hp
  have hk : WOK C hh r (kill [d] ⟨fun _ => .junk, o⟩).own w := hk0.killed (A := [d]) fun x => by
    show (bif [d].contains x then none else killO [d] (o x)) = _ ∨ (bif [d].contains x then none else killO [d] (o x)) = none
    cases [d].contains x with
    | true => exact .inr rfl
    | false => exact .inl rfl
  have kown : ∀ p, p ≠ d → (kill [d] ⟨fun _ => .junk, o⟩).own p = killO [d] (o p) := fun p hpd => by
    show (bif [d].contains p then none else killO [d] (o p)) = _
    have : [d].contains p = false := by simp; exact hpd
    rw [this]; rfl
  have hm' : (kill [d] ⟨fun _ => .junk, o⟩).own m = some ⟨false, j + 2, e, [dv]⟩ := by
    rw [kown m h2, hm]
    show some (killB [d] _) = _
    have hl : lnk ⟨false, j + 2, e, [dv]⟩ = [j] := rfl
    unfold killB
    rw [hl]
    have : ([j].any [d].contains) = false := by simp; exact h3
    rw [this]; rfl
  have hb' : (kill [d] ⟨fun _ => .junk, o⟩).own j = some b := by
    rw [kown j h3, hb]
    show some (killB [d] b) = _
    unfold killB; rw [lnk_vec hbv]; rfl
  have hbr := hk.ow j b hb'
  have hw := hk.rename (m := j) (d := d) (v := r j) (b := b) (by rw [hb']; simp) (kill_own [d] _ d (by simp)) (Nat.le_trans hnp hdp) (fun _ e => e) hbr (kill_lnk [d] _ d (by simp)) (lnk_vec hbv)
  have hown : upd (upd (kill [d] ⟨fun _ => .junk, o⟩).own j none) d (some b) m = some ⟨false, j + 2, e, [dv]⟩ := by rw [upd_ne _ _ _ _ h2, upd_ne _ _ _ _ h1]; exact hm'
  obtain ⟨q, t, g1, g2⟩ := hk.lk m _ j hm' (by simp [lnk])
  have hbr2 := hbr
  rw [BlkRep.slE hbv hs0] at hbr2
  obtain ⟨ad, l, cap, q1, q2, q3, q4, _⟩ := hbr2
  have hl : l = n := Nat.eq_of_mul_eq_mul_right hs0 (q2.trans hn.symm)
  subst hl
  have hw2 := hw.relink (m := m) (z := j + 2) (j := d) (n := l) (e := e) (cs := [dv]) hown ⟨q, t, by rw [upd_ne _ _ _ _ h2]; exact g1, by rw [upd_same]; exact g2⟩ (by
    rw [upd_same]
    simp only [DReps, DRep]
    exact ⟨⟨_, rfl, ad, cap, q1, q3, q4, .inl trivial⟩, trivial⟩)
  refine ⟨upd r d (r j), fun x hx => upd_ne _ _ _ _ (by omega), hw2.forget hfin, fun x i hx hi => ?_⟩
  have hx2 : upd (upd (upd (kill [d] ⟨fun _ => .junk, o⟩).own j none) d (some b)) m (some ⟨false, d + 2, e, [.sl l []]⟩) x ≠ none := by
    rcases hfin x with g | g
    · rw [← g]; exact hx
    · exact absurd g hx
  by_cases e1 : x = d
  · subst e1; rw [upd_same] at hi; exact ⟨j, by rw [hb]; simp, hi⟩
  · rw [upd_ne _ _ _ _ e1] at hi
    refine ⟨x, ?_, hi⟩
    by_cases e2 : x = m
    · subst e2; rw [hm]; simp
    · rw [upd_ne _ _ _ _ e2, upd_ne _ _ _ _ e1] at hx2
      by_cases e3 : x = j
      · subst e3; rw [hb]; simp
      · rw [upd_ne _ _ _ _ e3, kown x e1] at hx2
        intro e4; rw [e4] at hx2; exact hx2 rfl
end Go.AM
end

section
/- A region that makes a map of two numbers. -/
namespace Go.AM
open Go Go.RowKit
section
end
section
end
end Go.AM
end

section
/- A function that is ranged over, walked: between the rounds it may own memory of its own. -/
namespace Go.AM
open Go Go.RowKit
section
variable (P : Program) (l : Nat) (xs : List (List PV)) (n0 : Nat) (J : Nat → Hp → (Nat → Prop) → World → Prop) (N : Nat)
structure CJ (k : Nat) (G : Nat → Prop) (h : Hp) (r : Nat → Value) (s : St) (a : Act) (w : World) : Prop where
  sz : a.tmps.size = N
  df : a.defers = []
  rg : RegsOK h r s.regs a
  kj : ∃ C : Ctx, WOK C h r s.own w ∧ J k C.h0 G C.w0 ∧ n0 ≤ C.w0.heap.size ∧ (∀ i, C.F i → n0 ≤ i ∧ ¬ G i ∧ C.h0 i = none) ∧ C.np = 0 ∧ C.mar = false
def AJ (c : Code) (Q : Exit → Nat → St → Prop) (k : Nat) (s : St) : Prop :=
  ∀ (h : Hp) (r : Nat → Value) (a : Act) (w : World) (G : Nat → Prop), CJ n0 J N k G h r s a w →
    c.wpIn (Wd none) 0 P (fun e a' w' => ∃ k' s' h' r' G', Q e k' s' ∧ CJ n0 J N k' G' h' r' s' a' w') a w
def RJ (Q : Exit → Nat → St → Prop) (ops : Array Oper) (os : List Oper) (i : Nat) (k : Nat) (s : St) : Prop := ops.toList.drop i = os →
  ∀ (h : Hp) (r : Nat → Value) (a : Act) (w : World) (G : Nat → Prop), CJ n0 J N k G h r s a w →
    wpOpsIn (Wd none) 0 P ops (fun e a' w' => ∃ k' s' h' r' G', Q e k' s' ∧ CJ n0 J N k' G' h' r' s' a' w') (List.range' i os.length) a w
end
def JThen (K : Nat → St → Prop) (Q : Exit → Nat → St → Prop) : Exit → Nat → St → Prop
  | .normal, k, s => K k s
  | e, k, s => Q e k s
def JIn (id : Nat) (Q : Exit → Nat → St → Prop) : Exit → Nat → St → Prop
  | .exit id', k, s => bif Nat.beq id' id then Q .normal k s else Q (.exit id') k s
  | e, k, s => Q e k s
section
variable {P : Program} {l : Nat} {xs : List (List PV)} {n0 : Nat} {J : Nat → Hp → (Nat → Prop) → World → Prop} {N : Nat} (hK : Keeps P l xs n0 J)
variable {Q : Exit → Nat → St → Prop} {k : Nat} {s : St}
include hK in
theorem CJ.now {G : Nat → Prop} {h : Hp} {r : Nat → Value} {a : Act} {w : World} (c : CJ n0 J N k G h r s a w) : J k h G w := by
  obtain ⟨C, hw, hj, hs, hF, _⟩ := c.kj
  have hg := hK.g _ _ _ _ hj
  refine hK.rest _ _ _ _ _ _ hj ⟨hw.os, hw.tape, hw.output, hw.size, fun i hi => ?_, hw.hi, hw.hg, fun i hi => ?_⟩
  · by_cases e : C.F i
    · exact .inr (hF i e)
    · exact .inl (hw.old i hi e)
  · rcases hw.hn i hi with g | g | g
    · exact .inl g
    · exact .inr ⟨Nat.le_trans hs g, fun x => by have := (hg i x).1; omega⟩
    · exact .inr ⟨(hF i g).1, (hF i g).2.1⟩
include hK in
theorem CJ.notG {G : Nat → Prop} {h : Hp} {r : Nat → Value} {a : Act} {w : World} (c : CJ n0 J N k G h r s a w) {m i : Nat} (hm : s.own m ≠ none) (e : hblk (r m) = some i) : n0 ≤ i ∧ ¬ G i ∧ i < w.heap.size ∧ h i = none := by
  obtain ⟨C, hw, hj, hs, hF, _⟩ := c.kj
  refine ⟨?_, ?_, hw.lt hm e, hw.ho m i hm e⟩
  · rcases hw.fo m i hm e with g | g
    · exact Nat.le_trans hs g
    · exact (hF i g).1
  · rcases hw.fo m i hm e with g | g
    · exact fun x => by have := (hK.g _ _ _ _ hj i x).1; omega
    · exact (hF i g).2.1
theorem AJ_lift {c : Code} (h : AWp P true N 0 c (fun e s' => Q e k s') s) : AJ P n0 J N c Q k s := by
  intro hh r a w G hc
  obtain ⟨C, hw, hj, hs, hF, hn, hm⟩ := hc.kj
  refine wpIn_mono (h none (fun _ => rfl) C hh r a w ⟨hn, hm⟩ ⟨hc.sz, by rw [hc.df]; trivial, hc.rg, hw⟩) ?_
  rintro e a' w' ⟨s', h', r', q, c'⟩
  refine ⟨k, s', h', r', G, q, c'.sz, ?_, c'.rg, C, c'.wk, hj, hs, hF, hn, hm⟩
  have := c'.df
  cases hd : a'.defers with
  | nil => rfl
  | cons d ds => rw [hd] at this; have h1 := this.1; rw [hm] at h1; cases h1
theorem AJ_region (hP : P.follows .mixedOrders = true) {id : Nat} {ops : Array Oper} {draw : Bool} (h : RK P N 0 ops draw ops.toList (kill (allocs ops.toList) s) [] (Q .normal k)) : AJ P n0 J N (.region id ops draw) Q k s :=
  AJ_lift (AWp_region hP h)
theorem AJ_seq {x y : Code} (h : AJ P n0 J N x (JThen (AJ P n0 J N y Q) Q) k s) : AJ P n0 J N (.seq x y) Q k s := by
  intro hh r a w G hc
  refine wpIn_seq (wpIn_mono (h hh r a w G hc) ?_)
  rintro e a' w' ⟨k', s', h', r', G', q, c⟩
  cases e with
  | normal => exact q h' r' a' w' G' c
  | _ => exact ⟨k', s', h', r', G', q, c⟩
theorem AJ_skip (h : Q .normal k s) : AJ P n0 J N .skip Q k s := fun hh r _ _ G hc => wpIn_skip ⟨k, s, hh, r, G, h, hc⟩
theorem AJ_exit {id : Nat} (h : Q (.exit id) k s) : AJ P n0 J N (.exit id) Q k s := fun hh r _ _ G hc => wpIn_exit ⟨k, s, hh, r, G, h, hc⟩
theorem AJ_block {id : Nat} {c : Code} (h : AJ P n0 J N c (JIn id Q) k s) : AJ P n0 J N (.block id c) Q k s := by
  intro hh r a w G hc
  refine wpIn_block (wpIn_mono (h hh r a w G hc) ?_)
  rintro e a' w' ⟨k', s', h', r', G', q, c⟩
  cases e with
  | exit id' =>
    simp only [Exit.inBlock]
    simp only [JIn] at q
    by_cases hid : id' = id
    · subst hid
      rw [if_pos rfl]
      have : Nat.beq id' id' = true := by simp
      rw [this] at q
      exact ⟨k', s', h', r', G', q, c⟩
    · rw [if_neg hid]
      have : Nat.beq id' id = false := by
        cases e : Nat.beq id' id with
        | false => rfl
        | true => exact absurd (Nat.eq_of_beq_eq_true e) hid
      rw [this] at q
      exact ⟨k', s', h', r', G', q, c⟩
  | _ => exact ⟨k', s', h', r', G', q, c⟩
theorem CJ.bool {G : Nat → Prop} {h : Hp} {r : Nat → Value} {a : Act} {w : World} (hc : CJ n0 J N k G h r s a w) {c : Operand} {b : Bool} (he : ev s.regs c = .p (.c (.v (.bool b)))) : a.eval c = .bool b := by
  have := rep_ev hc.rg c
  rw [he] at this
  simp only [AVRep, PRep, DRep] at this
  exact this.1
theorem AJ_cond {c : Operand} {x y : Code} {b : Bool} (he : ev s.regs c = .p (.c (.v (.bool b)))) (ht : b = true → AJ P n0 J N x Q k s) (hf : b = false → AJ P n0 J N y Q k s) : AJ P n0 J N (.cond c x y) Q k s := by
  intro hh r a w G hc
  have hb := hc.bool he
  cases b with
  | true => exact wpIn_cond_true hb (ht rfl hh r a w G hc)
  | false => exact wpIn_cond_false hb (hf rfl hh r a w G hc)
theorem AJ_cond_false {c : Operand} {x y : Code} {b : Bool} (he : ev s.regs c = .p (.c (.v (.bool b)))) (hb : b = false) (hf : AJ P n0 J N y Q k s) : AJ P n0 J N (.cond c x y) Q k s :=
  AJ_cond he (fun h => by rw [hb] at h; cases h) (fun _ => hf)
theorem CJ.le {t : St} (q : Le s t) {G : Nat → Prop} {h : Hp} {r : Nat → Value} {a : Act} {w : World} (c : CJ n0 J N k G h r s a w) : CJ n0 J N k G h r t a w := by
  obtain ⟨C, hw, rest⟩ := c.kj
  exact ⟨c.sz, c.df, fun i => q.regs i h r _ (c.rg i), C, hw.forget q.own, rest⟩
theorem AJ_loop {ι : Type} {c : Code} (I : ι → St) (κ : ι → Nat) (F : ι → Prop) (μ : ι → Nat) (i₀ : ι) (h₀ : F i₀) (hk : κ i₀ = k) (hs : Le s (I i₀))
    (round : ∀ i, F i → AJ P n0 J N c (JThen (fun k' s' => ∃ j, F j ∧ μ j < μ i ∧ κ j = k' ∧ Le s' (I j)) Q) (κ i) (I i)) : AJ P n0 J N (.loop c) Q k s := by
  intro hh r a w G hc b kk cs hro hfn hroom
  have key : ∀ n i h r a w G, μ i = n → F i → CJ n0 J N (κ i) G h r (I i) a w →
      ∃ e a' w', (∃ k' s' h' r' G', Q e k' s' ∧ CJ n0 J N k' G' h' r' s' a' w') ∧ ArrivesIn (Machine.fenced P (Wd none)) P (lone (b.atR a (.code c :: .inLoop c :: kk)) cs w) b kk cs e a' w' := by
    intro n
    induction n using Nat.strongRecOn with
    | _ n ih =>
      intro i h r a w G hμ hF hc
      obtain ⟨e, a₁, w₁, ⟨k₁, s₁, h₁, r₁, G₁, hq, hc₁⟩, harr⟩ := round i hF h r a w G hc b (.inLoop c :: kk) cs hro hfn hroom
      cases e with
      | normal =>
        obtain ⟨j, hFj, hlt, hκ, hle⟩ := hq
        subst hκ
        obtain ⟨e₂, a₂, w₂, hq₂, harr₂⟩ := ih (μ j) (hμ ▸ hlt) j h₁ r₁ a₁ w₁ G₁ rfl hFj (hc₁.le hle)
        exact ⟨e₂, a₂, w₂, hq₂, .of_steps (StepsIn.trans harr (.one (fenced_calm hfn hroom rfl) stepR_inLoop)) harr₂⟩
      | exit id => exact ⟨_, a₁, w₁, ⟨k₁, s₁, h₁, r₁, G₁, hq, hc₁⟩, .pass (x := .inLoop c) rfl (fun _ _ => .inl (by simp)) harr⟩
      | goto l => exact ⟨_, a₁, w₁, ⟨k₁, s₁, h₁, r₁, G₁, hq, hc₁⟩, .pass (x := .inLoop c) rfl (fun _ _ => .inl (by simp)) harr⟩
      | ret => exact ⟨_, a₁, w₁, ⟨k₁, s₁, h₁, r₁, G₁, hq, hc₁⟩, .pass (x := .inLoop c) rfl (fun _ _ => .inl (by simp)) harr⟩
      | panic ch => exact ⟨_, a₁, w₁, ⟨k₁, s₁, h₁, r₁, G₁, hq, hc₁⟩, .pass (x := .inLoop c) rfl (fun _ _ => .inl (by simp)) harr⟩
      | outgrown => exact ⟨_, a₁, w₁, ⟨k₁, s₁, h₁, r₁, G₁, hq, hc₁⟩, .pass (x := .inLoop c) rfl (fun _ _ => .inl (by simp)) harr⟩
  subst hk
  obtain ⟨e, a', w', hq, harr⟩ := key _ i₀ hh r a w G rfl h₀ (hc.le hs)
  exact ⟨e, a', w', hq, .of_steps (.one (fenced_calm hfn hroom rfl) stepR_loop) harr⟩
section rj
variable {ops : Array Oper} {os : List Oper} {i : Nat} {op : Op} {ty : TypeId} {pos : String} {af : Array Edge} {gd : Option (Nat × Bool)} {t : Nat}
theorem AJ_regionY {id : Nat} (h : RJ P n0 J N Q ops ops.toList 0 k s) : AJ P n0 J N (.region id ops false) Q k s := by
  intro hh r a w G hc
  apply wpIn_region
  rw [List.range_eq_range']
  exact h rfl hh r a w G hc
theorem RJ.done (h : Q .normal k s) : RJ P n0 J N Q ops [] i k s := fun _ hh r _ _ G hc => ⟨k, s, hh, r, G, h, hc⟩
theorem drop_next {o : Oper} (h : ops.toList.drop i = o :: os) : ops[i]? = some o ∧ ops.toList.drop (i + 1) = os := by
  have h1 : (ops.toList.drop i)[0]? = some o := by rw [h]; rfl
  rw [List.getElem?_drop] at h1
  refine ⟨by rw [← Array.getElem?_toList]; simpa using h1, ?_⟩
  rw [← List.tail_drop, h]; rfl
theorem guards_wanted {o : Oper} {b : Bool} {h : Hp} {r : Nat → Value} {a : Act} (hc : RegsOK h r s.regs a) (hG : Guards ops o s.regs b) : Region.wanted o (yielded ops a.tmps) = b := by
  unfold Guards at hG
  cases hg : o.guard with
  | none =>
    rw [hg] at hG
    unfold Region.wanted
    rw [hg, hG]
  | some x =>
    obtain ⟨j, want⟩ := x
    rw [hg] at hG
    obtain ⟨t, g1, hG⟩ := hG
    rcases hG with ⟨c, g2, g3⟩ | ⟨g2, g3⟩
    · have := yielded_of hc g1 g2
      unfold Region.wanted
      rw [hg]
      simp only [this]
      rw [← g3]
      cases c <;> cases want <;> rfl
    · have := yielded_none hc g1 g2
      unfold Region.wanted
      rw [hg]
      simp only [this]
      rw [g3]
      cases want <;> rfl
theorem CJ.put {G : Nat → Prop} {h h' : Hp} {r r' : Nat → Value} {a : Act} {w w' : World} {C : Ctx} {v : AV} {x : Value} (hc : CJ n0 J N k G h r s a w) (hle : Hle h h') (hr : ∀ m, r' m = r m) (ht : t < N) (hv : AVRep h' r' v x)
    (q : WOK C h' r' s.own w') (hj : J k C.h0 G C.w0) (hs : n0 ≤ C.w0.heap.size) (hF : ∀ i, C.F i → n0 ≤ i ∧ ¬ G i ∧ C.h0 i = none) (hn : C.np = 0) (hm : C.mar = false) : CJ n0 J N k G h' r' ⟨upd s.regs t v, s.own⟩ (a.put (some t) x) w' :=
  ⟨by simp [Act.put, hc.sz], by simpa [Act.put] using hc.df, (show RegsOK h' r' s.regs a from fun u => AVRep.rebind _ _ (fun m _ => hr m) (AVRep.mono hle _ _ (hc.rg u))).put (dst := some t) (fun d e => by cases e; rw [hc.sz]; exact ht) hv, C, q, hj, hs, hF, hn, hm⟩
/-- an operation that yields a value -/
theorem RJ.val {v : AV} {rd : List Nat} (hg : Guards ops ⟨some t, op, ty, pos, af, gd⟩ s.regs true) (he : Eff P ⟨some t, op, ty, pos, af, gd⟩ t (ev s.regs) s.own v [] none rd)
    (hr : RJ P n0 J N Q ops os (i + 1) k ⟨upd s.regs t v, s.own⟩) (hN : (Nat.blt t N && noDefer ⟨some t, op, ty, pos, af, gd⟩) = true := by rfl) : RJ P n0 J N Q ops (⟨some t, op, ty, pos, af, gd⟩ :: os) i k s := by
  intro hd hh r a w G hc
  obtain ⟨h1, h2⟩ := drop_next hd
  rw [Bool.and_eq_true, Nat.blt_eq] at hN
  rw [List.length_cons, List.range'_succ, wpOpsIn_cons]
  unfold wpOpIn
  simp only [h1]
  rw [guards_wanted hc.rg hg, if_pos rfl]
  obtain ⟨C, hw, hj, hs, hF, hn, hm⟩ := hc.kj
  refine wpIn_of_wp (noDefer_ne hN.2) ?_
  refine he C hh r s.own a w _ _ (fun x _ => rep_ev hc.rg x) (fun _ _ => rfl) hw (fun e => absurd rfl e) ?_
  intro x h' r' w' hle hrr hv hw'
  exact ⟨hr h2 h' r' _ w' G (hc.put hle (fun m => hrr m (fun e => absurd rfl e)) hN.1 hv hw' hj hs hF hn hm), rfl⟩
theorem repArgs_ps {h : Hp} {r : Nat → Value} : ∀ {x : List PV} {vs : List Value}, RepArgs h r (x.map .p) vs → PReps h x vs
  | [], [], _ => trivial
  | _ :: _, _ :: _, k => ⟨k.1, repArgs_ps k.2⟩
  | [], _ :: _, k => k.elim
  | _ :: _, [], k => k.elim
/-- yield is called: a round -/
theorem RJ.yield (hK : Keeps P l xs n0 J) {c : Operand} {args : Array Operand} {tys : Array TypeId} {x : List PV} (hg : Guards ops ⟨some t, .call ⟨.value c, args, tys⟩, ty, pos, af, gd⟩ s.regs true)
    (hy : ev s.regs c = .p (.c (.v (.func (.yield l) #[] #[])))) (ha : args.toList.map (ev s.regs) = x.map .p) (hx : xs[k]? = some x)
    (hr : RJ P n0 J N Q ops os (i + 1) (k + 1) ⟨upd s.regs t (.p (.c (.v (.bool true)))), s.own⟩) (hN : Nat.blt t N = true := by rfl) : RJ P n0 J N Q ops (⟨some t, .call ⟨.value c, args, tys⟩, ty, pos, af, gd⟩ :: os) i k s := by
  intro hd hh r a w G hc
  obtain ⟨h1, h2⟩ := drop_next hd
  rw [Nat.blt_eq] at hN
  rw [List.length_cons, List.range'_succ, wpOpsIn_cons]
  unfold wpOpIn
  simp only [h1]
  rw [guards_wanted hc.rg hg, if_pos rfl]
  have hyv : a.eval c = .func (.yield l) #[] #[] := by
    have := rep_ev hc.rg c
    rw [hy] at this
    simp only [AVRep, PRep, DRep] at this
    exact this.1
  have hra : RepArgs hh r (x.map .p) (args.map a.eval).toList := by
    rw [← ha, Array.toList_map]
    exact repArgs_map _ fun x _ => rep_ev hc.rg x
  obtain ⟨fn, tmps, assign, body, hrun, hR⟩ := hK.give k hh G w x _ hx (hc.now hK) (repArgs_ps hra)
  refine ⟨fun _ _ => trivial, ?_⟩
  rw [Oper.semAt_eq _ _ _ (fun c' e => by cases e)]
  have hex : (execOp a.eval ⟨some t, .call ⟨.value c, args, tys⟩, ty, pos, af, gd⟩).run P w = .ok (.round l fn tmps assign body) w := by
    simp only [execOp, resolve, Sem.run_bind, hyv, Deferred.ofValue, Sem.run_pure, Result.andThen_ok, invoke, Array.empty_append]
    have e : (args.map a.eval).toList.toArray = args.map a.eval := Array.toArray_toList
    rw [← e]; exact hrun
  rw [hex]
  refine ⟨fun e => by simp [Wd] at e, RoundIn.mono hR ?_⟩
  rintro e w' ⟨rfl, h', G', hj, q⟩
  have hC := hc.kj
  obtain ⟨C, hw, hj0, hs, hF, hn, hm⟩ := hC
  have same : ∀ m i, s.own m ≠ none → hblk (r m) = some i → w'.heap[i]? = w.heap[i]? := fun m i hm e => by
    have := hc.notG hK hm e
    exact q.old i this.2.2.1 this.2.1
  have hw' : WOK ⟨w', h', fun i => ∃ m, s.own m ≠ none ∧ hblk (r m) = some i, r, 0, false⟩ h' r s.own w' := by
    refine ⟨fun m b e => ((hw.ow m b e).mono q.hg).world fun i hi => same m i (by rw [e]; simp) hi, hw.inj, hK.hi _ _ _ _ hj, fun m i hm e => ?_, rfl, rfl, .refl _, Nat.le_refl _, fun _ _ _ => rfl, fun m i hm e => .inr ⟨m, hm, e⟩, .refl _, fun _ e => .inl e, hw.gl.mono q.hg, fun _ _ => rfl, fun m b j e hj' => ?_⟩
    · have hg := hc.notG hK hm e
      cases hh' : h' i with
      | none => rfl
      | some o =>
        rcases q.hn i (by rw [hh']; simp) with g | g | g
        · exact absurd hg.2.2.2 g
        · omega
        · exact absurd g hg.2.1
    · obtain ⟨q1, t', e1, e2⟩ := hw.lk m b j e hj'
      exact ⟨q1, t', e1, by rw [same m q1 (by rw [e]; simp) (by rw [e1]; rfl)]; exact e2⟩
  have n1 : n0 ≤ w'.heap.size := Nat.le_trans (Nat.le_trans hs hw.size) q.size
  refine hr h2 h' r _ w' G' ⟨by simp [Act.put, hc.sz], by simpa [Act.put] using hc.df, (show RegsOK h' r s.regs a from fun u => AVRep.mono q.hg _ _ (hc.rg u)).put (dst := some t) (v := .p (.c (.v (.bool true)))) (x := .bool true) (fun d e => by cases e; rw [hc.sz]; exact hN) ⟨rfl, rfl⟩, _, hw', hj, n1, ?_, rfl, rfl⟩
  rintro i ⟨m, hm, e⟩
  have hg := hc.notG hK hm e
  refine ⟨hg.1, fun x => ?_, ?_⟩
  · rcases q.gg i x with g | g
    · exact hg.2.1 g
    · omega
  · exact hw'.ho m i hm e
end rj
end
/-- A function that is ranged over, from its code. -/
theorem iter_of {P : Program} {f : FuncId} {fn : Func} {c : Code} {N : Nat} {caps : List (List DV)} {xs : List (List PV)} (hf : P.funcs[f]? = some fn) (hnm : (fn.name == "runtime.NumGoroutine") = false) (hb : fn.body = some c) (hN : fn.ntmps = N) (hna : caps.length + 1 ≤ N) (hres : fn.results = #[])
    (h : ∀ l n0 J, Keeps P l xs n0 J → AJ P n0 J N c (fun e k _ => (e = .normal ∨ e = .ret) ∧ k = xs.length) 0 ⟨fun t => ((.p (.c (.v (.func (.yield l) #[] #[]))) :: caps.map .ip : List AV)).getD t .junk, O⟩) : Iter P f caps xs := by
  refine ⟨⟨fn, hf, hnm, by rw [hb]; rfl⟩, ?_⟩
  intro l lb J hh G W hcaps hgl hK h0
  refine callsIn_of_wp hf hb trivial ?_
  have hcl : ∀ (cs : List (List DV)) (xs : List Value), CapsRep hh cs xs → xs.length = cs.length := by
    intro cs
    induction cs with
    | nil => intro xs k; cases xs with
      | nil => rfl
      | cons _ _ => exact k.elim
    | cons p ps ih => intro xs k; cases xs with
      | nil => exact k.elim
      | cons x xs => simp [ih xs k.2]
  have hlen : lb.size = caps.length := by simpa using hcl _ _ hcaps
  have hget : ∀ (cs : List (List DV)) (xs : List Value), CapsRep hh cs xs → ∀ (t : Nat) (x : List DV), cs[t]? = some x → ∃ y, xs[t]? = some y ∧ IpRep hh x y := by
    intro cs
    induction cs with
    | nil => intro xs _ t x h; simp at h
    | cons p ps ih => intro xs h t x hx; cases xs with
      | nil => exact h.elim
      | cons y ys => cases t with
        | zero => simp at hx; subst hx; exact ⟨y, rfl, h.1⟩
        | succ t => exact ih ys h.2 t x (by simpa using hx)
  refine wpIn_mono (h l W.heap.size J hK hh (fun _ => .bool false) _ W G ⟨?_, rfl, ?_, (⟨W, hh, fun _ => False, fun _ => .bool false, 0, false⟩ : Ctx), ?_, h0, Nat.le_refl _, fun _ e => e.elim, rfl, rfl⟩) ?_
  · simp [hN, hlen]; omega
  · intro t
    show AVRep hh _ (((.p (.c (.v (.func (.yield l) #[] #[]))) :: caps.map .ip : List AV)).getD t .junk) _
    rw [List.getD_eq_getElem?_getD]
    cases t with
    | zero =>
      simp only [List.getElem?_cons_zero, Option.getD_some]
      have e0 : (#[.func (.yield l) #[] #[]] ++ lb ++ Array.replicate (fn.ntmps - (#[.func (.yield l) #[] #[]] ++ lb : Array Value).size) undef : Array Value).getD 0 undef = .func (.yield l) #[] #[] := by
        rw [Array.getD_eq_getD_getElem?, Array.getElem?_append_left (by simp; omega), Array.getElem?_append_left (by simp)]; rfl
      show AVRep hh _ (.p (.c (.v (.func (.yield l) #[] #[])))) (Array.getD _ 0 undef)
      rw [e0]
      simp only [AVRep, PRep, DRep, true_and]; rfl
    | succ t =>
      rw [List.getElem?_cons_succ, List.getElem?_map]
      cases ht : caps[t]? with
      | none => exact trivial
      | some x =>
        obtain ⟨y, g1, g2⟩ := hget _ _ hcaps t x ht
        have g1' : lb[t]? = some y := by rw [← Array.getElem?_toList]; exact g1
        have hlt : t < lb.size := (Array.getElem?_eq_some_iff.1 g1').1
        simp only [Option.map_some, Option.getD_some, Array.getD_eq_getD_getElem?]
        rw [Array.getElem?_append_left (by simp; omega), Array.getElem?_append_right (by simp)]
        simp only [List.size_toArray, List.length_cons, List.length_nil, Nat.zero_add, Nat.add_sub_cancel, g1', Option.getD_some]
        exact g2
  · exact ⟨fun m b e => (by cases e), fun m n k e => absurd rfl e, hK.hi _ _ _ _ h0, fun m k e => absurd rfl e, rfl, rfl, .refl _, Nat.le_refl _, fun _ _ _ => rfl, fun m k e => absurd rfl e, Hle.refl _, fun k e => Or.inl e, hgl, fun _ _ => rfl, fun m b j e => (by cases e)⟩
  · rintro e a' w' ⟨k', s', h', r', G', ⟨he, rfl⟩, c'⟩
    have hr : (results fn a'.tmps).run P w' = .ok (.tuple #[]) w' := by rw [results_eq, hres]; simp
    have fin : ∀ e', (e' = Exit.normal ∨ e' = Exit.ret) → bodyPost P fn (fun e W' => (∃ v, e = .returned v) ∧ ∃ h' G', J xs.length h' G' W') e' a' w' := by
      rintro e' (rfl | rfl) <;> exact ⟨c'.df, _, hr, ⟨_, rfl⟩, h', G', c'.now hK⟩
    exact fin e he
end Go.AM
end

section
/- Slices of forms that the call owns: reading, writing, clearing the tail. -/
namespace Go.AM
open Go Go.RowKit
section ops
end ops
end Go.AM
end
