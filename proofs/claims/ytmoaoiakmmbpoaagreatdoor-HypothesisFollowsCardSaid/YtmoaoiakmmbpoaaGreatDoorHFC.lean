/- Texts merged by program, in build order. -/
import Derived.Test.YtmoaoiakmmbpoaaGreatDoorHFB
import Derived.Shelf.SlSortCmp.NoneTotal
section
/- Operations on masks, the list of a mask, cutting and joining slices. -/
namespace Go.AM
open Go Go.RowKit
section
variable {β : Type} {encD : β → List DV} {z : Nat}
variable {P : Program} {tt : TT} (hT : TTok P tt)
variable {dst : Option Nat} {ty : TypeId} {pos : String} {af : Array Edge} {gd : Option (Nat × Bool)} {d : Nat} {ρ : Operand → AV} {own : Own}
variable {T e yT : TypeId} {i j : TyI} {x y : Operand}
include hT
/-- a slice of any length at the end of another one -/
theorem op_appendL (hL : ∀ b, (encD b).length = z) (hz : Nat.blt 0 z = true) {m : Nat} {l l' : List β} (ht : tt T = some i) (hs : i.sh = .sl e) (he : tt e = some j) (hj : j.size = z) (hjb : Nat.ble j.bytes (32 * z) = true) (hx : ρ x = .vec m) (hb : own m = some (VB z e encD l)) (hy : ρ y = .p (.c (SL encD l'))) (hfit : l.length + l'.length ≤ 10000000) (hmd : m ≠ d) (hzb : Nat.ble z 96 = true) :
    Eff P ⟨dst, .call ⟨.builtin .append, #[x, y], #[T, T]⟩, ty, pos, af, gd⟩ d ρ own (.vec d) [(m, none)] (some (VB z e encD (l ++ l'))) [m] := by
  have hz2 := Nat.le_of_ble_eq_true hzb
  have h1 : (l.length + l'.length) * z ≤ 10000000 * 96 := Nat.mul_le_mul hfit hz2
  rw [Nat.add_mul] at h1
  have h := op_append (dst := dst) (ty := ty) (pos := pos) (af := af) (gd := gd) (d := d) hT ht hs he hx hb rfl hj.symm rfl hy (by rfl) (by rw [hj]; exact flat_len hL l') (by rw [hj]; exact hjb) (by rw [hj, show (VB z e encD l).cs.length = l.length * z from flat_len hL l]; omega) (by rw [hj]; exact hz) hmd
  rw [show (VB z e encD (l ++ l')) = ⟨true, j.size, e, (VB z e encD l).cs ++ l'.flatMap encD⟩ by rw [hj, VB, List.flatMap_append]]
  exact h
theorem op_slice_hG (hL : ∀ b, (encD b).length = z) {k : IntKind} {n : Nat} {l : List β} {yh : Operand} (ht : tt T = some i) (hs : i.sh = .sl e) (he : tt e = some j) (hj : j.size = z) (hx : ρ x = .p (.c (SL encD l))) (hh : ρ yh = .p (.c (.v (.int k n)))) (hn : n ≤ l.length) :
    Eff P ⟨dst, .slice T x none (some yh) none, ty, pos, af, gd⟩ d ρ own (.p (.c (SL encD (l.take n)))) [] none [] := by
  have h := op_slice_h (dst := dst) (ty := ty) (pos := pos) (af := af) (gd := gd) (d := d) (own := own) hT ht hs he hx (l := l.length) (xs := l.flatMap encD) (by rfl) hh (by rw [hj]; exact flat_len hL l) (by omega) rfl
  rw [show (SL encD (l.take n)) = .sl (n : Int).toNat ((l.flatMap encD).take ((n : Int).toNat * j.size)) by
    rw [SL, flat_take hL, hj, List.length_take, Nat.min_eq_left hn]; rfl]
  exact h
theorem op_slice_lG (hL : ∀ b, (encD b).length = z) {k : IntKind} {n : Nat} {l : List β} {yl : Operand} (ht : tt T = some i) (hs : i.sh = .sl e) (he : tt e = some j) (hj : j.size = z) (hx : ρ x = .p (.c (SL encD l))) (hh : ρ yl = .p (.c (.v (.int k n)))) (hn : n ≤ l.length) :
    Eff P ⟨dst, .slice T x (some yl) none none, ty, pos, af, gd⟩ d ρ own (.p (.c (SL encD (l.drop n)))) [] none [] := by
  have h := op_slice_l (dst := dst) (ty := ty) (pos := pos) (af := af) (gd := gd) (d := d) (own := own) hT ht hs he hx (l := l.length) (xs := l.flatMap encD) (by rfl) hh (by rw [hj]; exact flat_len hL l) (by omega) rfl
  have e1 : (l.drop n).flatMap encD = (l.flatMap encD).drop (n * z) := by
    have h2 : l.flatMap encD = (l.take n).flatMap encD ++ (l.drop n).flatMap encD := by rw [← List.flatMap_append, List.take_append_drop]
    have h3 : ((l.take n).flatMap encD).length = n * z := by rw [flat_len hL, List.length_take, Nat.min_eq_left hn]
    rw [h2, ← h3, List.drop_left]
  rw [show (SL encD (l.drop n)) = .sl (l.length - (n : Int).toNat) ((l.flatMap encD).drop ((n : Int).toNat * j.size)) by
    rw [SL, e1, hj, List.length_drop]; rfl]
  exact h
end
section
variable {P : Program} {dst : Option Nat} {ty : TypeId} {pos : String} {af : Array Edge} {gd : Option (Nat × Bool)} {d : Nat} {ρ : Operand → AV} {own : Own}
variable {T yT : TypeId} {x y : Operand}
/-- 1 << n, of 32 bits -/
theorem op_bit {n : Int} (hx : ρ x = .p (.c (.v (.int .u32 1)))) (hy : ρ y = .p (.c (.v (.int .i64 n)))) (hn : 0 ≤ n ∧ n ≤ 16) : Eff P ⟨dst, .binOp .shl T x y yT, ty, pos, af, gd⟩ d ρ own (U (2 ^ n.toNat)) [] none [] := by
  have h := op_shlN (P := P) (dst := dst) (ty := ty) (pos := pos) (af := af) (gd := gd) (d := d) (own := own) (T := T) (yT := yT) (m := 1) (j := n.toNat) hx (by rw [hy]; congr; omega) (show n.toNat ≤ 32 by omega) (k := .u32) rfl
  have hlt : 2 ^ n.toNat < 2 ^ 32 := Nat.pow_lt_pow_right (by decide) (by omega)
  rw [Nat.one_mul, Nat.mod_eq_of_lt (show 2 ^ n.toNat < 2 ^ IntKind.u32.bits from hlt)] at h
  exact h
theorem op_orU {a b : Nat} (hx : ρ x = U a) (hy : ρ y = U b) (ha : a < 131072) (hb : b < 131072) : Eff P ⟨dst, .binOp .or T x y yT, ty, pos, af, gd⟩ d ρ own (U (a ||| b)) [] none [] :=
  op_orN (k := .u32) hx hy rfl (Nat.lt_of_lt_of_le ha (by decide)) (Nat.lt_of_lt_of_le hb (by decide))
theorem op_andU {a b : Nat} (hx : ρ x = U a) (hy : ρ y = U b) (ha : a < 4294967296) (hb : b < 4294967296) : Eff P ⟨dst, .binOp .and T x y yT, ty, pos, af, gd⟩ d ρ own (U (a &&& b)) [] none [] :=
  op_andN (k := .u32) hx hy rfl ha hb
end
theorem bit_lt {n : Int} (h : 0 ≤ n ∧ n ≤ 16) : 2 ^ n.toNat < 131072 := (Nat.pow_lt_pow_right (by decide) (by omega) : 2 ^ n.toNat < 2 ^ 17)
theorem bm_snoc (l : List Int) (n : Int) : bm (l ++ [n]) = bm l ||| 2 ^ n.toNat := by unfold bm; rw [List.foldl_append]; rfl
theorem bm_take {l : List Int} {k : Nat} (h : k < l.length) : bm (l.take (k + 1)) = bm (l.take k) ||| 2 ^ (l.getD k 0).toNat := by
  rw [List.take_add_one, List.getElem?_eq_getElem h, Option.toList_some, bm_snoc, List.getD_eq_getElem?_getD, List.getElem?_eq_getElem h]; rfl
theorem hok_take {l : List Int} (h : hok l) (k : Nat) : hok (l.take k) := fun n hn => h n (List.mem_of_mem_take hn)
theorem hok_get {l : List Int} (h : hok l) {k : Nat} (hk : k < l.length) : 0 ≤ l.getD k 0 ∧ l.getD k 0 ≤ 16 := h _ (getD_mem' 0 hk)
structure Low (s k : Nat) : Prop where
  at_ : s.testBit k = true
  below : ∀ i, i < k → s.testBit i = false
  pred : ∀ i, (s - 1).testBit i = if i < k then true else if i = k then false else s.testBit i
theorem low_ex : ∀ s : Nat, 0 < s → ∃ k, Low s k := by
  intro s
  induction s using Nat.strongRecOn with
  | ind s ih =>
    intro h
    rcases Nat.mod_two_eq_zero_or_one s with h2 | h2
    · obtain ⟨k, h1, h3, h4⟩ := ih (s / 2) (by omega) (by omega)
      refine ⟨k + 1, ?_, ?_, ?_⟩
      · rw [Nat.testBit_succ]; exact h1
      · intro i hi
        cases i with
        | zero => rw [Nat.testBit_zero]; simp [h2]
        | succ i => rw [Nat.testBit_succ]; exact h3 i (by omega)
      · intro i
        cases i with
        | zero => rw [Nat.testBit_zero, if_pos (by omega)]; exact decide_eq_true (by omega)
        | succ i =>
          rw [Nat.testBit_succ, Nat.testBit_succ, show (s - 1) / 2 = s / 2 - 1 by omega, h4]
          simp only [Nat.add_lt_add_iff_right, Nat.add_right_cancel_iff]
    · refine ⟨0, ?_, fun i hi => absurd hi (Nat.not_lt_zero _), ?_⟩
      · rw [Nat.testBit_zero]; simp [h2]
      · intro i
        cases i with
        | zero => rw [Nat.testBit_zero]; simp; omega
        | succ i =>
          rw [Nat.testBit_succ, Nat.testBit_succ, show (s - 1) / 2 = s / 2 by omega]
          simp
theorem Low.lt {s k : Nat} (h : Low s k) (hs : s < 4294967296) : k < 32 := by
  apply Nat.lt_of_not_le
  intro hle
  have : s.testBit k = false := Nat.testBit_lt_two_pow (Nat.lt_of_lt_of_le hs (Nat.le_trans (by decide : 4294967296 ≤ 2 ^ 32) (Nat.pow_le_pow_right (by decide) hle)))
  rw [h.at_] at this; cases this
theorem Low.pos {s k : Nat} (h : Low s k) : 0 < s := by
  rcases Nat.eq_zero_or_pos s with e | e
  · subst e; have := h.at_; rw [Nat.zero_testBit] at this; cases this
  · exact e
theorem Low.and_bit {s k : Nat} (h : Low s k) (i : Nat) : (s &&& (s - 1)).testBit i = (s.testBit i && decide (i ≠ k)) := by
  rw [Nat.testBit_and, h.pred]
  by_cases h1 : i < k
  · rw [h.below i h1]; simp
  · rw [if_neg h1]
    by_cases h2 : i = k
    · subst h2; simp
    · rw [if_neg h2]; simp [h2]
theorem Low.neg {s k : Nat} (h : Low s k) (hs : s < 4294967296) : s &&& (4294967296 - s) = 2 ^ k := by
  have h0 := h.pos
  have hk := h.lt hs
  apply Nat.eq_of_testBit_eq
  intro i
  rw [Nat.testBit_and, show 4294967296 - s = 2 ^ 32 - ((s - 1) + 1) by omega, Nat.testBit_two_pow_sub_succ (by omega), Nat.testBit_two_pow, h.pred]
  by_cases h1 : i < k
  · rw [h.below i h1, decide_eq_false (show ¬ k = i by omega)]; simp
  · rw [if_neg h1]
    by_cases h2 : i = k
    · subst h2; rw [h.at_]; simp [hk]
    · rw [if_neg h2, decide_eq_false (show ¬ k = i from fun e => h2 e.symm)]
      cases s.testBit i <;> simp
theorem Low.list {s k : Nat} (h : Low s k) (hs : s < 4294967296) : lsB s = (k : Int) :: lsB (s &&& (s - 1)) := by
  refine ltZ_uniq (lsB_lt _) ?_ fun n => ?_
  · refine List.Pairwise.cons (fun n hn => ?_) (lsB_lt _)
    obtain ⟨i, h1, h2, rfl⟩ := mem_lsB.1 hn
    rw [h.and_bit, Bool.and_eq_true, decide_eq_true_eq] at h2
    have : ¬ i < k := fun q => by have := h.below i q; rw [h2.1] at this; cases this
    omega
  · rw [List.mem_cons, mem_lsB, mem_lsB]
    constructor
    · rintro ⟨i, h1, h2, rfl⟩
      by_cases e : i = k
      · exact .inl (by rw [e])
      · refine .inr ⟨i, h1, ?_, rfl⟩
        rw [h.and_bit, h2]; simp [e]
    · rintro (rfl | ⟨i, h1, h2, rfl⟩)
      · exact ⟨k, h.lt hs, h.at_, rfl⟩
      · rw [h.and_bit, Bool.and_eq_true] at h2
        exact ⟨i, h1, h2.1, rfl⟩
theorem lsB_zero : lsB 0 = [] := by
  apply List.eq_nil_iff_forall_not_mem.2
  intro n hn
  obtain ⟨i, _, h2, _⟩ := mem_lsB.1 hn
  rw [Nat.zero_testBit] at h2; cases h2
theorem lsB_len (m : Nat) : (lsB m).length ≤ 32 := by
  unfold lsB
  rw [List.length_map]
  exact Nat.le_trans (List.length_filter_le _ _) (by simp)
theorem and_pred_lt {s : Nat} (h : 0 < s) : s &&& (s - 1) < s := Nat.lt_of_le_of_lt Nat.and_le_right (by omega)
/-- the table of de Bruijn -/
def dbT : List Nat := [0, 1, 28, 2, 29, 14, 24, 3, 30, 22, 20, 15, 25, 17, 4, 8, 31, 27, 13, 23, 21, 19, 16, 7, 26, 12, 18, 6, 11, 5, 10, 9]
theorem db_mul : ∀ k, k < 32 → IntKind.u32.wrap (((2 ^ k : Nat) : Int) * 125613361) = ((2 ^ k * 125613361 % 4294967296 : Nat) : Int) := by decide
theorem db_at : ∀ k, k < 32 → (2 ^ k * 125613361 % 4294967296) / 2 ^ 27 < 32 ∧ dbT.getD ((2 ^ k * 125613361 % 4294967296) / 2 ^ 27) 0 = k := by decide
theorem neg32 {s : Nat} (h : 0 < s) (hs : s < 4294967296) : IntKind.u32.wrap (0 - (s : Int)) = ((4294967296 - s : Nat) : Int) := by
  rw [IntKind.wrap_u32]; omega
end Go.AM
end

section
/- Whether a slice is nil, of which nothing is known; calls that take a block of the caller's and hand back another one. -/
namespace Go.AM
open Go Go.RowKit
section
variable {P : Program} {tt : TT} (hT : TTok P tt)
variable {dst : Option Nat} {ty : TypeId} {pos : String} {af : Array Edge} {gd : Option (Nat × Bool)} {d : Nat} {ρ : Operand → AV} {own : Own}
variable {T yT : TypeId} {i : TyI} {x y : Operand} {e : TypeId} {j : TyI}
abbrev unkB (p : Prop) : AV := .ax fun _ v => ∃ b : Bool, v = .bool b ∧ (b = true → p)
include hT in
theorem op_eqnilU {n : Nat} {xs : List DV} (ht : tt T = some i) (hs : i.sh = .sl e) (hx : ρ x = .p (.c (.sl n xs))) :
    Eff P ⟨dst, .binOp .eql T x (.const (.slice none 0 0)) yT, ty, pos, af, gd⟩ d ρ own (unkB (xs = [])) [] none [] :=
  Eff.value fun C h r own' a w hrep _ hw => by
    have e1 := hrep x (by simp [Op.operands])
    rw [hx] at e1
    have e1' : DRep h (.sl n xs) (a.eval x) := e1
    simp only [DRep] at e1'
    obtain ⟨ad, cap, h1, h2, h3, h4⟩ := e1'
    have e2 : a.eval (.const (.slice none 0 0)) = .slice none 0 0 := rfl
    refine ⟨.bool ad.isNone, ?_, fun h' _ => ⟨ad.isNone, rfl, fun hb => ?_⟩⟩
    · simp only [execOp, h1, e2, eqGuard_at_slice, Sem.run_bind, Sem.run_pure, Result.andThen_ok, Lib.run_eql_slice_nil w T e _ _ _ 0 0 ((hT T i ht).slice hs)]
    · cases ad with
      | none =>
        rcases h4 with h4 | ⟨b, off, c, e', fr, g1, _⟩
        · exact h4
        · cases g1
      | some => cases hb
theorem AWp_unk {B : Bool} {N np : Nat} {Q : Exit → St → Prop} {s : St} {c : Code} {t : Nat} {p : Prop} (ht : s.regs t = unkB p) (h : ∀ b : Bool, (b = true → p) → AWp P B N np c Q ⟨upd s.regs t (.p (.c (.v (.bool b)))), s.own⟩) : AWp P B N np c Q s := by
  intro ro hB C hh r a w hn hc
  have hx := hc.rg t
  rw [ht] at hx
  obtain ⟨b, h1, h2⟩ := hx hh fun _ _ _ e => e
  refine h b h2 ro hB C hh r a w hn ⟨hc.sz, hc.df, fun t' => ?_, hc.wk⟩
  show AVRep hh r (upd s.regs t (.p (.c (.v (.bool b)))) t') _
  by_cases e1 : t' = t
  · subst e1; rw [upd_same, h1]; exact mk_bool _ _ _
  · rw [upd_ne _ _ _ _ e1]; exact hc.rg t'
end
end Go.AM
end

section
/- Books; what is granted and withdrawn. -/
namespace Go.AM
open Go Go.RowKit
/-- a book: its derivations, what is granted -/
abbrev Book := List Drv × List Int
abbrev enBk (b : Book) : List DV := [SL enD b.1, SL enZ b.2]
theorem gl_db : (glist.headD (0, [])).2 = dbT.map fun n : Nat => Value.int .u8 (n : Int) := rfl
theorem dbT_get {k : Nat} (h : k < 32) : ((((glist.headD (0, [])).2).drop ((2 ^ k * 125613361 % 4294967296 / 2 ^ 27 : Nat) : Int).toNat).map DV.v)[0]? = some (.v (.int .u8 (k : Int))) := by
  have h1 := db_at k h
  rw [gl_db, Int.toNat_natCast, List.getElem?_map, List.getElem?_drop, Nat.add_zero, List.getElem?_map]
  generalize hq : 2 ^ k * 125613361 % 4294967296 / 2 ^ 27 = q at *
  have hl : q < dbT.length := h1.1
  rw [List.getElem?_eq_getElem hl]
  have h2 := h1.2
  rw [List.getD_eq_getElem?_getD, List.getElem?_eq_getElem hl, Option.getD_some] at h2
  rw [h2]; rfl
theorem lsI_next {m s k : Nat} {l : List Int} (h : s ≤ m ∧ l ++ lsB s = lsB m ∧ l.length ≤ 32) (hk : Low s k) (hs : s < 4294967296) : (s &&& (s - 1)) ≤ m ∧ (l ++ [(k : Int)]) ++ lsB (s &&& (s - 1)) = lsB m ∧ (l ++ [(k : Int)]).length ≤ 32 := by
  have e : (l ++ [(k : Int)]) ++ lsB (s &&& (s - 1)) = lsB m := by
    rw [List.append_assoc, ← h.2.1, hk.list hs]; rfl
  refine ⟨Nat.le_trans (Nat.le_trans Nat.and_le_left (Nat.le_refl _)) h.1, e, ?_⟩
  have h1 := lsB_len m
  rw [← e, List.length_append] at h1
  omega
def grantE (n : Int) : Int := if hypB n = true then 0 else 300
def grantB (b : Book) (n : Int) : Book := if hypB n = true then (b.1, lsB (bm b.2 ||| 2 ^ n.toNat)) else ([], [])
def withdrawB (b : Book) (n : Int) : Book := if hypB n = true then (b.1, lsB (andN (bm b.2) (2 ^ n.toNat))) else ([], [])
theorem hyp_rg {n : Int} (h : hypB n = true) : 0 ≤ n ∧ n ≤ 16 := by unfold hypB at h; rw [decide_eq_true_iff] at h; omega
theorem grantE_n {n : Int} (h : hypB n = false) : grantE n = 300 := by unfold grantE; rw [h]; rfl
theorem grantE_y {n : Int} (h : hypB n = true) : grantE n = 0 := by unfold grantE; rw [h]; rfl
theorem grant_n {b : Book} {n : Int} (h : hypB n = false) : grantB b n = ([], []) := by unfold grantB; rw [h]; rfl
theorem grant_y {b : Book} {n : Int} (h : hypB n = true) : grantB b n = (b.1, lsB (bm b.2 ||| 2 ^ n.toNat)) := by unfold grantB; rw [h]; rfl
theorem withdraw_n {b : Book} {n : Int} (h : hypB n = false) : withdrawB b n = ([], []) := by unfold withdrawB; rw [h]; rfl
theorem withdraw_y {b : Book} {n : Int} (h : hypB n = true) : withdrawB b n = (b.1, lsB (andN (bm b.2) (2 ^ n.toNat))) := by unfold withdrawB; rw [h]; rfl
end Go.AM
end

section
/- Calls that take blocks of the caller's for good and hand back one of the caller's own. -/
namespace Go.AM
open Go Go.RowKit
/-- the contract of a function that is given blocks for good and hands back a slice, which the caller may write -/
structure CallX (P : Program) (f : FuncId) (args : List AV) (o : Own) (b : Blk) : Prop where
  fn : FnOK P f
  go : ∀ (h : Hp) (r : Nat → Value) (w : World) (cargs : Array Value), RepArgs h r args cargs.toList → Before h r o w →
    Calls P f cargs w fun e w' => ∃ v h', e = .returned v ∧ BlkRep h' w' v b ∧ (∀ k, hblk v = some k → (w.heap.size ≤ k ∨ ∃ m, o m ≠ none ∧ hblk (r m) = some k) ∧ h' k = none) ∧ After h r o w h' O w'
/-- the cells of an owned slice, as values -/
theorem vec_cells {h : Hp} {w : World} {v : Value} {z : Nat} {e : TypeId} {ds : List DV} (hz : 0 < z) (hne : ds ≠ []) (k : BlkRep h w v ⟨true, z, e, ds⟩) :
    ∃ b n cap cc, ∃ vs : List Value, v = .slice (some ⟨b, 0, none⟩) n cap ∧ n * z = ds.length ∧ n ≤ cap ∧ n ≤ 140737488355328 ∧ 0 < cap ∧ w.heap[b]? = some (.cells cc e (0, 0)) ∧ cc.size = cap * z ∧ vs.length = ds.length ∧
      (∀ (t : Nat) (x : Value), vs[t]? = some x → cc[t]? = some x) ∧ (∀ x ∈ vs, x.oneCell' = true) ∧ DReps h ds fun i => vs[i]? := by
  rw [BlkRep.slE rfl hz] at k
  obtain ⟨a, n, cap, h1, h2, h3, h4, h5⟩ := k
  have hn : 0 < n := by
    rcases Nat.eq_zero_or_pos n with e0 | e0
    · subst e0
      simp only [Nat.zero_mul] at h2
      exact absurd (List.eq_nil_of_length_eq_zero h2.symm) hne
    · exact e0
  rcases h5 with h5 | ⟨b, cc, rfl, g1, g2, g3⟩
  · omega
  have rd : Reads h w ⟨b, 0, none⟩ ds := Reads.of_cells g1 (by simpa using g3)
  obtain ⟨vs, k1, k2, k3, k4⟩ := rd.values
  refine ⟨b, n, cap, cc, vs, h1, h2, h3, h4, by omega, g1, g2, k1, fun t x hx => ?_, k3, k4⟩
  have := k2 t x hx
  rw [Addr.add_lit, Nat.zero_add] at this
  simp only [World.cell?, g1] at this
  simpa using this
theorem callX_of {P : Program} {f : FuncId} {fn : Func} {c : Code} {N np : Nat} {args : List AV} {o : Own} {b : Blk} (hf : P.funcs[f]? = some fn) (hnm : (fn.name == "runtime.NumGoroutine") = false) (hb : fn.body = some c) (hN : fn.ntmps = N) (hna : args.length ≤ N)
    (hlk : ∀ m b, o m = some b → lnk b = []) (h : AWp P false N np c (EndsV fn b) ⟨fun t => args.getD t .junk, o⟩) : CallX P f args o b := by
  refine ⟨⟨fn, hf, hnm, by rw [hb]; rfl⟩, ?_⟩
  intro hh r w cargs hra hbf
  have hlen : cargs.size = args.length := by
    have : ∀ (aa : List AV) (xs : List Value), RepArgs hh r aa xs → xs.length = aa.length := by
      intro aa
      induction aa with
      | nil => intro xs h; cases xs with
        | nil => rfl
        | cons _ _ => exact h.elim
      | cons p ps ih => intro xs h; cases xs with
        | nil => exact h.elim
        | cons x xs => simp [ih xs h.2]
    simpa using this _ _ hra
  have hget : ∀ (aa : List AV) (xs : List Value), RepArgs hh r aa xs → ∀ (t : Nat) (x : AV), aa[t]? = some x → ∃ y, xs[t]? = some y ∧ AVRep hh r x y := by
    intro aa
    induction aa with
    | nil => intro xs _ t x h; simp at h
    | cons p ps ih => intro xs h t x hx; cases xs with
      | nil => exact h.elim
      | cons y ys => cases t with
        | zero => simp at hx; subst hx; exact ⟨y, rfl, h.1⟩
        | succ t => exact ih ys h.2 t x (by simpa using hx)
  refine callsW' (n := 0) (callsIn_of_wp_marks hf hb trivial ?_)
  let C : Ctx := ⟨w, hh, fun k => ∃ m, o m ≠ none ∧ hblk (r m) = some k, r, np, true⟩
  refine wpIn_mono (h none (fun _ => rfl) C hh r _ w ⟨rfl, rfl⟩ ⟨?_, trivial, ?_, ⟨hbf.ow, hbf.inj, hbf.hi, hbf.ho, rfl, rfl, .refl _, Nat.le_refl _, fun _ _ _ => rfl, fun m k hm e => .inr ⟨m, hm, e⟩, .refl _, fun k hk => .inl hk, hbf.gl, fun _ _ => rfl, fun m b j hb hj => by rw [hlk m b hb] at hj; cases hj⟩⟩) ?_
  · simp [hN]; omega
  · intro t
    show AVRep hh r (args.getD t .junk) _
    rw [List.getD_eq_getElem?_getD]
    cases ht : args[t]? with
    | none => exact trivial
    | some x =>
      obtain ⟨y, h1, h2⟩ := hget _ _ hra t x ht
      have h1' : cargs[t]? = some y := by rw [← Array.getElem?_toList]; exact h1
      have hlt : t < cargs.size := (Array.getElem?_eq_some_iff.1 h1').1
      simp only [Array.getD_eq_getD_getElem?, Array.getElem?_append_left hlt, h1', Option.getD_some]
      exact h2
  · rintro e a' w' ⟨s', h', r', ⟨he, t, m, hres, hreg, hown⟩, hc⟩
    have fin : LeavesInM (Wd none) 0 P fn a'.tmps (fun e w' => ∃ v h', e = .returned v ∧ BlkRep h' w' v b ∧ (∀ k, hblk v = some k → (w.heap.size ≤ k ∨ ∃ m, o m ≠ none ∧ hblk (r m) = some k) ∧ h' k = none) ∧ After hh r o w h' O w') a'.defers .returning w' := by
      refine leave_marks hc ?_
      intro h' w' hc
      have hx : a'.tmps.getD t undef = r' m := by
        have := hc.rg t
        rw [hreg] at this; exact this
      have hv1 : (results fn a'.tmps).run P w' = .ok (r' m) w' := by
        rw [results_eq, hres]
        simp [resOne, hx]
      have hk := hc.wk
      have hlow : s'.own m ≠ none := by rw [hown]; simp
      refine ⟨r' m, hv1, r' m, h', rfl, hk.ow m b hown, fun k e => ⟨hk.fo m k hlow e, hk.ho m k hlow e⟩, ?_⟩
      exact ⟨fun m b e => (by cases e), fun m hm => absurd rfl hm, hk.hi, fun m k hm => absurd rfl hm, hk.os, hk.tape, hk.output, hk.size, fun k h1 h2 => hk.old k h1 h2, hk.hg, fun k e => hk.hn k e⟩
    rcases he with rfl | rfl <;> exact fin
abbrev ownB (m n : Nat) (b b' : Blk) : Own := upd (upd O m (some b)) n (some b')
theorem ownB_dom {m n k : Nat} {b b' : Blk} (h : ownB m n b b' k ≠ none) : k = m ∨ k = n := by
  by_cases h1 : k = n
  · exact .inr h1
  · by_cases h2 : k = m
    · exact .inl h2
    · rw [ownB, upd_ne _ _ _ _ h1, upd_ne _ _ _ _ h2] at h; exact absurd rfl h
theorem ownB_fst {m n : Nat} {b b' : Blk} (h : m ≠ n) : ownB m n b b' m = some b := by rw [ownB, upd_ne _ _ _ _ h, upd_same]
theorem ownB_snd {m n : Nat} {b b' : Blk} : ownB m n b b' n = some b' := upd_same _ _ _
/-- other names -/
theorem CallX.two {P : Program} {f : FuncId} {x : AV} {b0 b1 b : Blk} (hc : CallX P f [.vec 0, x, .vec 1] (ownB 0 1 b0 b1) b) (hx : men x = []) {m n : Nat} (hmn : m ≠ n) : CallX P f [.vec m, x, .vec n] (ownB m n b0 b1) b := by
  refine ⟨hc.fn, fun h r w cargs hra hbf => ?_⟩
  let r' : Nat → Value := fun k => if k = 0 then r m else if k = 1 then r n else r k
  have h0 : r' 0 = r m := rfl
  have h1 : r' 1 = r n := rfl
  have out : ∀ k, (∃ q, ownB 0 1 b0 b1 q ≠ none ∧ hblk (r' q) = some k) → ∃ q, ownB m n b0 b1 q ≠ none ∧ hblk (r q) = some k := by
    rintro k ⟨q, g1, g2⟩
    rcases ownB_dom g1 with rfl | rfl
    · exact ⟨m, by rw [ownB_fst hmn]; simp, by rw [h0] at g2; exact g2⟩
    · exact ⟨n, by rw [ownB_snd]; simp, by rw [h1] at g2; exact g2⟩
  refine (hc.go h r' w cargs ?_ ?_).mono ?_
  · revert hra
    cases cargs.toList with
    | nil => exact fun h => h.elim
    | cons v1 l1 => cases l1 with
      | nil => rintro ⟨_, h⟩; exact h.elim
      | cons v2 l2 => cases l2 with
        | nil => rintro ⟨_, _, h⟩; exact h.elim
        | cons v3 l3 =>
          rintro ⟨g1, g2, g3, g4⟩
          refine ⟨g1, AVRep.rebind _ _ (by rw [hx]; intro k hk; cases hk) g2, g3, ?_⟩
          cases l3 with
          | nil => trivial
          | cons _ _ => exact g4.elim
  · refine ⟨fun k b' e => ?_, fun k j i hk hj e1 e2 => ?_, hbf.hi, fun k i hk e => ?_, hbf.gl⟩
    · rcases ownB_dom (by rw [e]; simp) with rfl | rfl
      · rw [ownB_fst (by decide)] at e; cases e
        exact hbf.ow m _ (ownB_fst hmn)
      · rw [ownB_snd] at e; cases e
        exact hbf.ow n _ ownB_snd
    · have im : ownB m n b0 b1 m ≠ none := by rw [ownB_fst hmn]; simp
      have iN : ownB m n b0 b1 n ≠ none := by rw [ownB_snd]; simp
      rcases ownB_dom hk with rfl | rfl <;> rcases ownB_dom hj with rfl | rfl
      · rfl
      · exact absurd (hbf.inj m n i im iN e1 e2) hmn
      · exact absurd (hbf.inj n m i iN im e1 e2).symm hmn
      · rfl
    · rcases ownB_dom hk with rfl | rfl
      · exact hbf.ho m i (by rw [ownB_fst hmn]; simp) e
      · exact hbf.ho n i (by rw [ownB_snd]; simp) e
  · rintro e w' ⟨v, h', g1, g2, g3, g4⟩
    refine ⟨v, h', g1, g2, fun k e => ⟨(g3 k e).1.imp id (out k), (g3 k e).2⟩, ?_⟩
    exact ⟨fun m b e => (by cases e), fun m hm => absurd rfl hm, g4.hi, fun m k hm => absurd rfl hm, g4.os, g4.tape, g4.output, g4.size, fun k h1 h2 => g4.old k h1 fun q => h2 (out k q), g4.hg, fun k e => (g4.hn k e).imp id fun q => q.imp id (out k)⟩
theorem o2_lk {b b' : Blk} (h : lnk b = []) (h' : lnk b' = []) : ∀ m c, ownB 0 1 b b' m = some c → lnk c = [] := fun m c e => by
  rcases ownB_dom (by rw [e]; simp) with rfl | rfl
  · rw [ownB_fst (by decide)] at e; cases e; exact h
  · rw [ownB_snd] at e; cases e; exact h'
section
variable {β : Type} {encD : β → List DV} {z : Nat}
variable {P : Program} {tt : TT} (hT : TTok P tt)
variable {dst : Option Nat} {ty : TypeId} {pos : String} {af : Array Edge} {gd : Option (Nat × Bool)} {d : Nat} {ρ : Operand → AV} {own : Own}
variable {T e yT : TypeId} {i j : TyI} {x y : Operand}
include hT
/-- a cut of an owned slice, of which nothing is asked -/
theorem op_slice_vecJ (hL : ∀ b, (encD b).length = z) (hz : 0 < z) {m : Nat} {l : List β} {k : IntKind} {n : Int} (ht : tt T = some i) (hs : i.sh = .sl e) (he : tt e = some j) (hx : ρ x = .vec m) (hb : own m = some (VB z e encD l)) (hy : ρ y = .p (.c (.v (.int k n)))) (hn : 0 ≤ n ∧ n ≤ l.length) :
    Eff P ⟨dst, .slice T x (some y) none none, ty, pos, af, gd⟩ d ρ own .junk [] none [m] :=
  Eff.value fun C h r own' a w hrep hrd hw => by
    have e1 := hrep x (by simp [Op.operands])
    have e2 := hrep y (by simp [Op.operands])
    rw [hx] at e1; rw [hy] at e2
    have e1' : a.eval x = r m := e1
    have v2 : a.eval y = .int k n := rep_val e2
    have hold := hw.ow m _ ((hrd m (by simp)).trans hb)
    rw [BlkRep.slE rfl hz] at hold
    obtain ⟨ba, l', cap, q1, q2, q3, q4, q5⟩ := hold
    simp only at q2
    have hfl := flat_len hL l
    have hl : l' = l.length := by
      rw [hfl] at q2
      exact Nat.eq_of_mul_eq_mul_right hz q2
    subst hl
    have hu := (hT T i ht).slice hs
    have hel : P.elem T = e := by simp [Program.elem, hu]
    have hu' : P.underlying T = some (.slice (P.elem T)) := by rw [hel]; exact hu
    refine ⟨sliced ba n.toNat l.length cap j.size, ?_, trivial⟩
    simp only [execOp, e1'.trans q1, Option.map_some, Option.map_none, v2, Sem.run_bind, run_sliceAt_slice w T _ _ _ _ hu', run_slice_l w T _ l.length cap hu' k n hn.1 (by omega), hel, (hT e j he).size, Result.andThen_ok, Sem.run_pure]
end
/-- the slice that comes back, frozen -/
theorem CallX.callF {P : Program} {f : FuncId} {args : List AV} {o : Own} {n : Nat} {b : Blk} (h : CallX P f args o b) (hv : b.vec = true) (hn : n * b.sz = b.cs.length) (hsz : 0 < b.sz) : CallM P f args o (.p (.c (.sl n b.cs))) O := by
  refine ⟨h.fn, ?_⟩
  intro hh r w cargs hra hbf
  refine Calls.mono (h.go hh r w cargs hra hbf) ?_
  rintro e w' ⟨v, h', rfl, hb, hfr, q⟩
  rw [BlkRep.slE hv hsz] at hb
  obtain ⟨a, l, cap, rfl, h2, h3, h4, h5⟩ := hb
  have hl : l = n := Nat.eq_of_mul_eq_mul_right hsz (h2.trans hn.symm)
  subst hl
  by_cases hc0 : cap = 0
  · refine ⟨_, h', rfl, ?_, q⟩
    have hcs : b.cs = [] := List.eq_nil_of_length_eq_zero (by rw [← h2, show l = 0 by omega]; simp)
    simp only [AVRep, PRep, DRep]
    exact ⟨a, cap, rfl, h3, h4, .inl hcs⟩
  · rcases h5 with h5 | ⟨k, c, rfl, g2, g3, g4⟩
    · exact absurd h5 hc0
    · obtain ⟨f1, f2⟩ := hfr k (by simp [hblk, hc0])
      have hle : Hle h' (fun j => if j = k then some (.cells c b.e (0, 0)) else h' j) := fun j o hj => by
        show (if j = k then _ else h' j) = _
        rw [if_neg fun e => by subst e; rw [f2] at hj; cases hj]; exact hj
      refine ⟨_, (fun j => if j = k then some (.cells c b.e (0, 0)) else h' j), rfl, ?_, ?_⟩
      · simp only [AVRep, PRep, DRep]
        exact ⟨_, cap, rfl, h3, h4, .inr ⟨k, 0, c, b.e, (0, 0), rfl, by simp, by simpa using DReps.mono hle _ _ g4⟩⟩
      · refine ⟨fun m b e => (by cases e), q.dom, fun j o hj => ?_, fun m j hm => absurd rfl hm, q.os, q.tape, q.output, q.size, q.old, q.hg.trans hle, fun j hj => ?_⟩
        · by_cases e : j = k
          · subst e; simp only [if_true, Option.some.injEq] at hj; subst hj; exact g2
          · simp only [e, if_false] at hj; exact q.hi j o hj
        · by_cases e : j = k
          · subst e
            rcases f1 with f1 | f1
            · exact .inr (.inl f1)
            · exact .inr (.inr f1)
          · simp only [e, if_false] at hj; exact q.hn j hj
theorem CallX.callG {β : Type} {encD : β → List DV} {z : Nat} {P : Program} {f : FuncId} {args : List AV} {o : Own} {e : TypeId} {l : List β} (hL : ∀ b, (encD b).length = z) (hz : 0 < z) (h : CallX P f args o (VB z e encD l)) : CallM P f args o (.p (.c (SL encD l))) O :=
  h.callF rfl (flat_len hL l).symm hz
theorem flat_nil {β : Type} {encD : β → List DV} {z : Nat} (hL : ∀ b, (encD b).length = z) (hz : 0 < z) {l : List β} (h : l.flatMap encD = []) : l = [] := by
  have h1 := flat_len hL l
  rw [h] at h1
  refine List.eq_nil_of_length_eq_zero ?_
  rcases Nat.eq_zero_or_pos l.length with e | e
  · exact e
  · have := Nat.mul_pos e hz
    simp at h1; omega
theorem WOK.nilV {C : Ctx} {h : Hp} {r : Nat → Value} {own : Own} {w : World} (k : WOK C h r own w) {d sz : Nat} {e : TypeId} (hd : own d = none) (hp : C.np ≤ d) (hl : ∀ m b, own m = some b → d ∉ lnk b) (hs0 : 0 < sz) :
    WOK C h (upd r d (.slice none 0 0)) (upd own d (some ⟨true, sz, e, []⟩)) w := by
  have live : ∀ n, n ≠ d → upd own d (some (⟨true, sz, e, []⟩ : Blk)) n = own n := fun n h1 => upd_ne _ _ _ _ h1
  refine ⟨?_, ?_, k.hi, ?_, k.os, k.tape, k.output, k.size, k.old, ?_, k.hg, k.hn, k.gl, ?_, ?_⟩
  · intro n b' hn
    by_cases h1 : n = d
    · subst h1; rw [upd_same] at hn ⊢; cases hn
      rw [BlkRep.slE rfl hs0]
      exact ⟨none, 0, 0, rfl, by simp, Nat.le_refl _, by omega, .inl rfl⟩
    · rw [live n h1] at hn
      rw [upd_ne _ _ _ _ h1]; exact k.ow n b' hn
  · intro n p i hn hpp e1 e2
    by_cases h1 : n = d
    · subst h1; rw [upd_same] at e1; cases e1
    · by_cases h2 : p = d
      · subst h2; rw [upd_same] at e2; cases e2
      · rw [upd_ne _ _ _ _ h1] at e1; rw [upd_ne _ _ _ _ h2] at e2
        rw [live n h1] at hn; rw [live p h2] at hpp
        exact k.inj n p i hn hpp e1 e2
  · intro n i hn e1
    by_cases h1 : n = d
    · subst h1; rw [upd_same] at e1; cases e1
    · rw [upd_ne _ _ _ _ h1] at e1; rw [live n h1] at hn; exact k.ho n i hn e1
  · intro n i hn e1
    by_cases h1 : n = d
    · subst h1; rw [upd_same] at e1; cases e1
    · rw [upd_ne _ _ _ _ h1] at e1; rw [live n h1] at hn; exact k.fo n i hn e1
  · intro n hn
    rw [upd_ne _ _ _ _ (by omega)]; exact k.kp n hn
  · intro n b' j hn hj
    by_cases h1 : n = d
    · subst h1; rw [upd_same] at hn; cases hn; cases hj
    · rw [live n h1] at hn
      have hjd : j ≠ d := fun x => hl n b' hn (x ▸ hj)
      rw [upd_ne _ _ _ _ h1, upd_ne _ _ _ _ hjd]
      exact k.lk n b' j hn hj
/-- a register that holds a nil slice holds an owned slice with no elements -/
theorem AWp_nilV {P : Program} {B : Bool} {N np : Nat} {Q : Exit → St → Prop} {s : St} {c : Code} (t d sz : Nat) (e : TypeId) (ht : s.regs t = .p (.c (.v (.slice none 0 0)))) (hp : Nat.ble np d = true)
    (h : AWp P B N np c Q ⟨upd (kill [d] s).regs t (.vec d), upd (kill [d] s).own d (some ⟨true, sz, e, []⟩)⟩) (hs0 : 0 < sz := by decide) : AWp P B N np c Q s := by
  intro ro hB C hh r a w hn hc
  have hk := kill_conc [d] hc
  have hown : (kill [d] s).own d = none := kill_own [d] s d (by simp)
  have hmen := kill_men [d] s d (by simp)
  have hx := hc.rg t
  rw [ht] at hx
  have hv : a.tmps.getD t undef = .slice none 0 0 := by
    simp only [AVRep, PRep, DRep] at hx
    exact hx.1
  refine h ro hB C hh (upd r d (.slice none 0 0)) a w hn ⟨hk.sz, hk.df, fun t' => ?_, hk.wk.nilV hown (by rw [hn.1]; exact Nat.le_of_ble_eq_true hp) (kill_lnk [d] s d (by simp)) hs0⟩
  show AVRep hh _ (upd (kill [d] s).regs t (.vec d) t') _
  by_cases e1 : t' = t
  · subst e1
    rw [upd_same]
    show _ = upd r d _ d
    rw [upd_same, hv]
  · rw [upd_ne _ _ _ _ e1]
    have hr := hk.rg t'
    have hmt := hmen t'
    exact AVRep.rebind _ _ (fun m hm => upd_ne _ _ _ _ (fun x => hmt (x ▸ hm))) hr
end Go.AM
end

section
/- Search by halves; right books, added and removed derivations. -/
namespace Go.AM
open Go Go.RowKit
abbrev zD : Drv := ([], [], [])
/-- what a search by halves finds -/
structure Cut (cf : Drv → Int) (l : List Drv) (n : Nat) : Prop where
  le : n ≤ l.length
  iff : ∀ i, i < l.length → (cf (l.getD i zD) < 0 ↔ i < n)
def cutB (cf : Drv → Int) (l : List Drv) (n : Nat) : Bool := decide (n < l.length) && decide (cf (l.getD n zD) = 0)
theorem cutB_y {cf : Drv → Int} {l : List Drv} {n : Nat} (h : n < l.length) : (cf (l.getD n zD) == 0) = cutB cf l n := by
  unfold cutB; rw [decide_eq_true h, Bool.true_and, Bool.eq_iff_iff, beq_iff_eq, decide_eq_true_iff]
theorem cutB_n {cf : Drv → Int} {l : List Drv} {n : Nat} (h : ¬ n < l.length) : false = cutB cf l n := by
  unfold cutB; rw [decide_eq_false h]; rfl
theorem cmS_0 {a b : Str} : cmS a b = 0 ↔ a = b := by
  unfold cmS
  constructor
  · intro h
    refine Classical.byContradiction fun hne => ?_
    rcases ltS_total hne with k | k
    · rw [k] at h; cases h
    · rw [k, ltS_asymm k] at h; cases h
  · rintro rfl; rw [ltS_irrefl]; rfl
theorem cmS_lt {a b : Str} : cmS a b < 0 ↔ ltS a b = true := by
  unfold cmS
  cases h : ltS a b with
  | true => simp
  | false => cases ltS b a <;> simp
theorem cmS_rev (a b : Str) : cmS b a = -cmS a b := by
  unfold cmS
  cases h : ltS a b with
  | true => rw [ltS_asymm h]; rfl
  | false => cases ltS b a <;> rfl
theorem cmZ_0 {a b : Int} : cmZ a b = 0 ↔ a = b := by unfold cmZ; split <;> (try split) <;> omega
theorem cmZ_lt {a b : Int} : cmZ a b < 0 ↔ a < b := by unfold cmZ; split <;> (try split) <;> omega
theorem cmZ_rev (a b : Int) : cmZ b a = -cmZ a b := by unfold cmZ; split <;> split <;> omega
/-- a comparison that is an order -/
structure Cmp {α : Type} (cm : α → α → Int) : Prop where
  zero : ∀ {a b}, cm a b = 0 ↔ a = b
  rev : ∀ a b, cm b a = -cm a b
  trans : ∀ {a b c}, cm a b < 0 → cm b c < 0 → cm a c < 0
theorem Cmp.refl {α : Type} {cm : α → α → Int} (h : Cmp cm) (a : α) : cm a a = 0 := h.zero.2 rfl
theorem cmpS : Cmp cmS := ⟨cmS_0, cmS_rev, fun h k => cmS_lt.2 (ltS_trans (cmS_lt.1 h) (cmS_lt.1 k))⟩
theorem cmpZ : Cmp cmZ := ⟨cmZ_0, cmZ_rev, fun h k => cmZ_lt.2 (Int.lt_trans (cmZ_lt.1 h) (cmZ_lt.1 k))⟩
theorem cmL_0 {α : Type} {cm : α → α → Int} (h : Cmp cm) : ∀ {a b : List α}, cmL cm a b = 0 ↔ a = b
  | [], [] => by simp [cmL]
  | [], _ :: _ => by simp [cmL]
  | _ :: _, [] => by simp [cmL]
  | x :: a, y :: b => by
    simp only [cmL, List.cons.injEq]
    by_cases e : cm x y = 0
    · rw [if_pos e, cmL_0 h, h.zero.1 e]; simp
    · rw [if_neg e]; exact ⟨fun q => absurd q e, fun q => absurd (h.zero.2 q.1) e⟩
theorem cmL_rev {α : Type} {cm : α → α → Int} (h : Cmp cm) : ∀ a b : List α, cmL cm b a = -cmL cm a b
  | [], [] => rfl
  | [], _ :: _ => rfl
  | _ :: _, [] => rfl
  | x :: a, y :: b => by
    simp only [cmL]
    have := h.rev x y
    by_cases e : cm x y = 0
    · rw [if_pos e, if_pos (by omega), cmL_rev h]
    · rw [if_neg e, if_neg (by omega), this]
theorem cmL_trans {α : Type} {cm : α → α → Int} (h : Cmp cm) : ∀ {a b c : List α}, cmL cm a b < 0 → cmL cm b c < 0 → cmL cm a c < 0
  | [], [], _, p, _ => by simp [cmL] at p
  | [], _ :: _, [], _, q => by simp [cmL] at q
  | [], _ :: _, _ :: _, _, _ => by simp [cmL]
  | _ :: _, [], _, p, _ => by simp [cmL] at p
  | _ :: _, _ :: _, [], _, q => by simp [cmL] at q
  | x :: a, y :: b, z :: c, p, q => by
    simp only [cmL] at p q ⊢
    by_cases e1 : cm x y = 0
    · rw [if_pos e1] at p
      rw [h.zero.1 e1]
      by_cases e2 : cm y z = 0
      · rw [if_pos e2] at q ⊢; exact cmL_trans h p q
      · rw [if_neg e2] at q ⊢; exact q
    · rw [if_neg e1] at p
      by_cases e2 : cm y z = 0
      · rw [h.zero.1 e2] at e1 p; rw [if_neg e1]; exact p
      · rw [if_neg e2] at q
        have := h.trans p q
        rw [if_neg (by omega)]; exact this
theorem cmpL {α : Type} {cm : α → α → Int} (h : Cmp cm) : Cmp (cmL cm) := ⟨cmL_0 h, cmL_rev h, cmL_trans h⟩
theorem cmD_eq (a b : Drv) : cmD a b = if cmS a.1 b.1 = 0 then (if cmL cmS a.2.1 b.2.1 = 0 then cmL cmZ a.2.2 b.2.2 else cmL cmS a.2.1 b.2.1) else cmS a.1 b.1 := by
  unfold cmD orZ orZ orZ orZ
  split
  · split
    · split <;> simp_all
    · rfl
  · rfl
theorem cmpD : Cmp cmD := by
  have hS := cmpL cmpS
  have hZ := cmpL cmpZ
  refine ⟨fun {a b} => ?_, fun a b => ?_, fun {a b c} p q => ?_⟩
  · rw [cmD_eq]
    constructor
    · intro h
      split at h
      · next e1 =>
        split at h
        · next e2 => exact Prod.ext (cmS_0.1 e1) (Prod.ext (hS.zero.1 e2) (hZ.zero.1 h))
        · next e2 => exact absurd h e2
      · next e1 => exact absurd h e1
    · rintro rfl
      rw [if_pos (cmpS.refl _), if_pos (hS.refl _), hZ.refl]
  · rw [cmD_eq, cmD_eq]
    have h1 := cmpS.rev a.1 b.1
    have h2 := hS.rev a.2.1 b.2.1
    have h3 := hZ.rev a.2.2 b.2.2
    repeat' split
    all_goals omega
  · rw [cmD_eq] at p q ⊢
    by_cases e1 : cmS a.1 b.1 = 0
    · rw [if_pos e1] at p
      rw [cmS_0.1 e1]
      by_cases e2 : cmS b.1 c.1 = 0
      · rw [if_pos e2] at q ⊢
        by_cases f1 : cmL cmS a.2.1 b.2.1 = 0
        · rw [if_pos f1] at p
          rw [hS.zero.1 f1]
          by_cases f2 : cmL cmS b.2.1 c.2.1 = 0
          · rw [if_pos f2] at q ⊢; exact hZ.trans p q
          · rw [if_neg f2] at q ⊢; exact q
        · rw [if_neg f1] at p
          by_cases f2 : cmL cmS b.2.1 c.2.1 = 0
          · rw [hS.zero.1 f2] at f1 p; rw [if_neg f1]; exact p
          · rw [if_neg f2] at q
            have := hS.trans p q
            rw [if_neg (by omega)]; exact this
      · rw [if_neg e2] at q ⊢; exact q
    · rw [if_neg e1] at p
      by_cases e2 : cmS b.1 c.1 = 0
      · rw [cmS_0.1 e2] at e1 p; rw [if_neg e1]; exact p
      · rw [if_neg e2] at q
        have := cmpS.trans p q
        rw [if_neg (by omega)]; exact this
/-- in strict order -/
abbrev SrtD (l : List Drv) : Prop := l.Pairwise fun a b => cmD a b < 0
/-- how many are less -/
def lessN (l : List Drv) (d : Drv) : Nat := (l.filter fun x => decide (cmD x d < 0)).length
theorem lessN_cut {d : Drv} : ∀ {l : List Drv}, SrtD l → Cut (fun x => cmD x d) l (lessN l d)
  | [], _ => ⟨Nat.le_refl _, fun i h => absurd h (Nat.not_lt_zero _)⟩
  | x :: l, h => by
    have hl := List.pairwise_cons.1 h
    have ih := lessN_cut (d := d) hl.2
    unfold lessN
    by_cases e : cmD x d < 0
    · rw [List.filter_cons_of_pos (by simpa using e)]
      refine ⟨Nat.succ_le_succ ih.le, fun i hi => ?_⟩
      cases i with
      | zero => simp [e]
      | succ i =>
        have := ih.iff i (by simpa using hi)
        simp only [List.getD_cons_succ, List.length_cons, Nat.add_lt_add_iff_right]
        exact this
    · have none : l.filter (fun x => decide (cmD x d < 0)) = [] := List.filter_eq_nil_iff.2 fun y hy => by
        have h1 := hl.1 y hy
        simp only [decide_eq_true_eq]
        exact fun k => e (cmpD.trans h1 k)
      rw [List.filter_cons_of_neg (by simpa using e), none]
      refine ⟨Nat.zero_le _, fun i hi => ?_⟩
      simp only [List.length_nil, Nat.not_lt_zero, iff_false]
      cases i with
      | zero => simpa using e
      | succ i =>
        simp only [List.getD_cons_succ]
        have hm : l.getD i zD ∈ l := getD_mem' zD (by simpa using hi)
        exact fun k => e (cmpD.trans (hl.1 _ hm) k)
theorem Cut.uniq {cf : Drv → Int} {l : List Drv} {m n : Nat} (h : Cut cf l m) (k : Cut cf l n) : m = n := by
  rcases Nat.lt_trichotomy m n with e | e | e
  · have h1 := h.iff m (by have := k.le; omega)
    have h2 := k.iff m (by have := k.le; omega)
    have := h1.1 (h2.2 e); omega
  · exact e
  · have h1 := h.iff n (by have := h.le; omega)
    have h2 := k.iff n (by have := h.le; omega)
    have := h2.1 (h1.2 e); omega
theorem hasD_iff {l : List Drv} {d : Drv} (h : SrtD l) : cutB (fun x => cmD x d) l (lessN l d) = true ↔ d ∈ l := by
  have hc := lessN_cut (d := d) h
  unfold cutB
  rw [Bool.and_eq_true, decide_eq_true_iff, decide_eq_true_iff]
  constructor
  · rintro ⟨h1, h2⟩
    rw [← cmpD.zero.1 h2]
    exact getD_mem' zD h1
  · intro hd
    obtain ⟨i, hi, rfl⟩ := List.mem_iff_getElem.1 hd
    have g : l.getD i zD = l[i] := by rw [List.getD_eq_getElem?_getD, List.getElem?_eq_getElem hi]; rfl
    have h1 : ¬ i < lessN l l[i] := fun q => by
      have : cmD (l.getD i zD) l[i] < 0 := (hc.iff i hi).2 q
      rw [g, cmpD.refl] at this; omega
    have h2 : ¬ lessN l l[i] < i := fun q => by
      have h3 := (List.pairwise_iff_getElem.1 h) (lessN l l[i]) i (by omega) hi q
      have := (hc.iff (lessN l l[i]) (by omega)).1 (by rw [List.getD_eq_getElem?_getD, List.getElem?_eq_getElem (by omega)]; exact h3)
      omega
    have e : lessN l l[i] = i := by omega
    rw [e]
    exact ⟨hi, by show cmD (l.getD i zD) l[i] = 0; rw [g, cmpD.refl]⟩
def rightL (l : List Drv) : Bool := incr (fun a b => decide (cmD a b < 0)) l && l.all rightD
/-- a right book -/
def rightB (b : Book) : Bool := rightL b.1 && decide (b.1.length ≤ 60) && hypsB b.2
def addE (b : Book) (d : Drv) : Int := if rightD d = false then 1 else if cutB (fun x => cmD x d) b.1 (lessN b.1 d) = true then 301 else if b.1.length = 60 then 2 else 0
def addB (b : Book) (d : Drv) : Book := if addE b d = 0 then (b.1.take (lessN b.1 d) ++ d :: b.1.drop (lessN b.1 d), b.2) else ([], [])
end Go.AM
end

section
/- What the walks of Right, Add and Remove ask. -/
namespace Go.AM
open Go Go.RowKit
theorem AWp_lenA {P : Program} {B : Bool} {N np : Nat} {Q : Exit → St → Prop} {s : St} {c : Code} (t i : Nat) {n : Nat} {ds xs : List DV} (ht : s.regs t = .p (.a ds)) (hi : ds[i]? = some (.sl n xs)) (h : n ≤ 140737488355328 → AWp P B N np c Q s) : AWp P B N np c Q s := by
  intro ro hB C hh r a w hnp hc
  have e := hc.rg t
  rw [ht] at e
  obtain ⟨cs, _, _, e3⟩ := e
  obtain ⟨y, _, e4⟩ := e3.get i _ hi
  simp only [DRep] at e4
  obtain ⟨_, _, _, _, h3, _⟩ := e4
  exact h h3 ro hB C hh r a w hnp hc
theorem mem2 {p : Nat → Prop} {a b : Nat} (h1 : p a) (h2 : p b) : ∀ m ∈ [a, b], p m := fun m hm => by
  rcases List.mem_cons.1 hm with rfl | hm
  · exact h1
  · rw [List.mem_singleton] at hm; subst hm; exact h2
theorem mem1 {p : Nat → Prop} {a : Nat} (h1 : p a) : ∀ m ∈ [a], p m := fun m hm => by
  rw [List.mem_singleton] at hm; subst hm; exact h1
theorem ownB_mem {m n : Nat} {b b' : Blk} : ∀ k, ownB m n b b' k ≠ none → k ∈ [m, n] := fun k h => by
  rcases ownB_dom h with rfl | rfl <;> simp
theorem updO_mem {m : Nat} {b : Blk} : ∀ k, upd O m (some b) k ≠ none → k ∈ [m] := fun k h => by
  by_cases e : k = m
  · subst e; simp
  · exact absurd (upd_ne _ _ _ _ e) h
structure RgI (l : List Drv) (k : Nat) : Prop where
  le : k ≤ l.length
  ok : ∀ i, i < k → rightD (l.getD i zD) = true ∧ (1 ≤ i → cmD (l.getD (i - 1) zD) (l.getD i zD) < 0)
theorem RgI.start (l : List Drv) : RgI l 0 := ⟨Nat.zero_le _, fun _ h => absurd h (Nat.not_lt_zero _)⟩
theorem RgI.next {l : List Drv} {k : Nat} (h : RgI l k) (hk : k < l.length) (h1 : rightD (l.getD k zD) = true) (h2 : 1 ≤ k → cmD (l.getD (k - 1) zD) (l.getD k zD) < 0) : RgI l (k + 1) :=
  ⟨hk, fun i hi => by
    by_cases e : i = k
    · subst e; exact ⟨h1, h2⟩
    · exact h.ok i (by omega)⟩
theorem rightL_iff {l : List Drv} : rightL l = true ↔ SrtD l ∧ ∀ d ∈ l, rightD d = true := by
  unfold rightL
  rw [Bool.and_eq_true, List.all_eq_true]
  refine and_congr ?_ Iff.rfl
  induction l with
  | nil => simp [incr]
  | cons x l ih =>
    cases l with
    | nil => simp [incr]
    | cons y l =>
      simp only [incr, Bool.and_eq_true, decide_eq_true_eq, ih]
      constructor
      · rintro ⟨h1, h2⟩
        refine List.Pairwise.cons (fun z hz => ?_) h2
        rcases List.mem_cons.1 hz with rfl | hz
        · exact h1
        · exact cmpD.trans h1 ((List.pairwise_cons.1 h2).1 z hz)
      · intro h
        exact ⟨(List.pairwise_cons.1 h).1 y (by simp), (List.pairwise_cons.1 h).2⟩
theorem RgI.done {l : List Drv} (h : RgI l l.length) : rightL l = true := by
  unfold rightL
  rw [Bool.and_eq_true, List.all_eq_true]
  refine ⟨incr_yes (d := zD) fun k h1 h2 => decide_eq_true ((h.ok k h2).2 h1), fun d hd => ?_⟩
  obtain ⟨i, hi, rfl⟩ := List.mem_iff_getElem.1 hd
  have := (h.ok i hi).1
  rwa [List.getD_eq_getElem?_getD, List.getElem?_eq_getElem hi] at this
theorem rgB_1 {b : Book} {k : Nat} (hk : k < b.1.length) (h : rightD (b.1.getD k zD) = false) : false = rightB b := by
  unfold rightB
  have : rightL b.1 = false := by
    rw [← Bool.not_eq_true, rightL_iff]
    intro q
    have := q.2 _ (getD_mem' zD hk)
    rw [h] at this; cases this
  rw [this]; rfl
theorem rgB_2 {b : Book} {k : Nat} (h1 : 1 ≤ k) (hk : k < b.1.length) (h : ¬ cmD (b.1.getD (k - 1) zD) (b.1.getD k zD) < 0) : false = rightB b := by
  unfold rightB rightL
  rw [incr_no (d := zD) h1 hk (decide_eq_false h)]; rfl
theorem rgB_3 {b : Book} (h : rightL b.1 = true) (hl : b.1.length ≤ 60) : hypsB b.2 = rightB b := by unfold rightB; rw [h, decide_eq_true hl]; rfl
theorem rgB_4 {b : Book} (hl : ¬ b.1.length ≤ 60) : false = rightB b := by unfold rightB; rw [decide_eq_false hl, Bool.and_false]; rfl
theorem addE_1 {b : Book} {d : Drv} (h : rightD d = false) : addE b d = 1 := by unfold addE; rw [if_pos h]
theorem addE_2 {b : Book} {d : Drv} (h : rightD d = true) (h2 : cutB (fun x => cmD x d) b.1 (lessN b.1 d) = true) : addE b d = 301 := by unfold addE; rw [if_neg (by rw [h]; simp), if_pos h2]
theorem addE_3 {b : Book} {d : Drv} (h : rightD d = true) (h2 : cutB (fun x => cmD x d) b.1 (lessN b.1 d) = false) (h3 : b.1.length = 60) : addE b d = 2 := by unfold addE; rw [if_neg (by rw [h]; simp), if_neg (by rw [h2]; simp), if_pos h3]
theorem addE_4 {b : Book} {d : Drv} (h : rightD d = true) (h2 : cutB (fun x => cmD x d) b.1 (lessN b.1 d) = false) (h3 : ¬ b.1.length = 60) : addE b d = 0 := by unfold addE; rw [if_neg (by rw [h]; simp), if_neg (by rw [h2]; simp), if_neg h3]
theorem addB_n {b : Book} {d : Drv} {z : Int} (h : addE b d = z) (hz : ¬ z = 0) : addB b d = ([], []) := by unfold addB; rw [h, if_neg hz]
theorem addB_y {b : Book} {d : Drv} (h : addE b d = 0) : addB b d = (b.1.take (lessN b.1 d) ++ d :: b.1.drop (lessN b.1 d), b.2) := by unfold addB; rw [h, if_pos rfl]
end Go.AM
end

section
/- Functions over a box of the caller's, called; maps of derivations. -/
namespace Go.AM
open Go Go.RowKit Go.MapKept
section
variable {P : Program}
variable {dst : Option Nat} {ty : TypeId} {pos : String} {af : Array Edge} {gd : Option (Nat × Bool)} {d : Nat} {ρ : Operand → AV} {own : Own} {T : TypeId}
theorem op_makeFuncL {f : FuncId} {c : Operand} {m : Nat} (hx : ρ c = .loc m 0) : Eff P ⟨dst, .makeFunc (.func f) #[] #[c], ty, pos, af, gd⟩ d ρ own (.fnl f m) [] none [] :=
  Eff.value fun C h r own' a w hrep hrd hw => by
    have e1 := hrep c (by simp [Op.operands])
    rw [hx] at e1
    obtain ⟨k, h1, h2⟩ := e1
    refine ⟨.func (.func f) #[] #[a.eval c], ?_, k, h1.1, by rw [h2]⟩
    simp [execOp, Instr.makeFunc]
/-- a call of a function that has captured a box of the caller's -/
theorem Eff.callFnL {f : FuncId} {m : Nat} {b b' : Blk} {c : Operand} {args : Array Operand} {tys : Array TypeId} {res : AV}
    (hx : ρ c = .fnl f m) (hb : own m = some b) (hbv : b.vec = false) (hc : CallM P f (args.toList.map ρ ++ [.loc m 0]) (upd O m (some b)) res (upd O m (some b'))) (hl : lnk b' = []) :
    Eff P ⟨dst, .call ⟨.value c, args, tys⟩, ty, pos, af, gd⟩ d ρ own res [(m, some b')] none [m] := by
  intro C h r own' a w K Q hrep hrd hw _ hK
  have e1 := hrep c (by simp [Op.operands, Call.operands])
  rw [hx] at e1
  obtain ⟨k, e2, e3⟩ := e1
  obtain ⟨lb, hlb⟩ : ∃ lb : Array Value, lb = #[.pointer (some ⟨k, 0, none⟩)] := ⟨_, rfl⟩
  rw [← hlb] at e3
  have hb' : own' m = some b := (hrd m (by simp)).trans hb
  have one : ∀ {b : Blk} {k : Nat}, upd O m (some b) k ≠ none → k = m := fun {b k} h => by
    by_cases e : k = m
    · exact e
    · rw [upd_ne _ _ _ _ e] at h; exact absurd rfl h
  have ho : ∀ n, upd O m (some b) n ≠ none → own' n = upd O m (some b) n := fun n hn => by
    rw [one hn, upd_same]; exact hb'
  have hrm : isMap (r m) = false := by
    have h1 := hw.ow m b hb'
    rw [BlkRep.boxE hbv] at h1
    obtain ⟨k, c, q, _⟩ := h1
    rw [q]; rfl
  unfold Oper.wp
  have hrun : (execOp a.eval ⟨dst, .call ⟨.value c, args, tys⟩, ty, pos, af, gd⟩).run P w = .ok (.enter f (args.map a.eval ++ lb)) w := by
    simp only [execOp, resolve, Sem.run_bind, e3, Deferred.ofValue, Sem.run_pure, Result.andThen_ok, invoke, Array.empty_append]
    exact run_callFunc hc.fn _ w
  rw [hrun]
  refine Calls.mono (hc.go h r w (args.map a.eval ++ lb) ?_ (hw.before ho)) ?_
  · rw [Array.toList_append, Array.toList_map, hlb]
    have h1 := repArgs_map (h := h) (r := r) (ρ := ρ) (a := a) args.toList fun x hx => hrep x (by simp only [Op.operands, Call.operands]; exact Array.mem_append.2 (.inr (Array.mem_toList_iff.1 hx)))
    have h3 : ∀ (us : List AV) (xs : List Value) (bs : List AV) (ys : List Value), RepArgs h r us xs → RepArgs h r bs ys → RepArgs h r (us ++ bs) (xs ++ ys) := by
      intro us
      induction us with
      | nil => intro xs bs ys k q; cases xs with | nil => exact q | cons _ _ => exact k.elim
      | cons c cs ih => intro xs bs ys k q; cases xs with | nil => exact k.elim | cons x xs => exact ⟨k.1, ih xs bs ys k.2 q⟩
    exact h3 _ _ _ _ h1 ⟨⟨k, ⟨e2, hrm⟩, rfl⟩, trivial⟩
  · rintro e w' ⟨v, h', rfl, hv, hq⟩
    have key : ∀ n, upd own' m (some b') n = if upd O m (some b) n ≠ none then upd O m (some b') n else own' n := fun n => by
      by_cases e : n = m
      · subst e; simp only [upd_same]; rw [if_pos (fun q => by cases q)]
      · rw [upd_ne _ _ _ _ e, upd_ne _ _ _ _ e, upd_ne _ _ _ _ e, if_neg (fun q => q rfl)]
    have hlk : ∀ n c2, upd O m (some b) n ≠ none → upd O m (some b') n = some c2 → lnk c2 = [] := fun n c2 hn hb2 => by
      have := one hn
      subst this
      rw [upd_same] at hb2
      cases hb2
      exact hl
    have hw' : WOK C h' r (upd own' m (some b')) w' := hw.after ho hq key hlk
    exact hK v h' r w' hq.hg (fun _ _ => rfl) hv hw'
/-- a new map, that nobody writes -/
theorem op_makeMapF {a : Option Nat} : Eff P ⟨dst, .makeMap T none, ty, pos, af, gd⟩ d ρ own (.p (.c (MP a []))) [] none [] := by
  intro C h r own' ac w K Q hrep _ hw hal hK
  have hrun : (execOp ac.eval ⟨dst, .makeMap T none, ty, pos, af, gd⟩).run P w = .ok (.value (.map (some w.heap.size))) (w.alloc (.map #[] 0)) := by
    simp [execOp, Instr.makeMap]
  unfold Oper.wp
  rw [hrun]
  obtain ⟨k1, k2⟩ := hw.imm (.map #[] 0)
  refine hK _ _ r _ k2 (fun _ _ => rfl) ?_ k1
  show DRep _ (MP a []) _
  rw [mp_rep (fun e he => by cases he)]
  exact ⟨w.heap.size, #[], 0, rfl, by simp, stamped_empty 0, [], .refl _, trivial⟩
end
def MF (f : Fnd) : MM Str := f.map fun x => (x.1.1, enD x.1)
theorem ew_MF (f : Fnd) : EW (some 3) (enE kS (MF f)) := ew_enE fun p hp => by
  obtain ⟨x, _, rfl⟩ := List.mem_map.1 hp
  rfl
theorem MF_len (f : Fnd) : (MF f).length = f.length := by simp [MF]
theorem MF_get (f : Fnd) (c : Str) : getM (MF f) c = (whyD f c).map fun x => enD x.1 := by
  induction f with
  | nil => rfl
  | cons y f ih =>
    show getM ((y.1.1, enD y.1) :: MF f) c = _
    simp only [getM, whyD]
    by_cases e : y.1.1 = c
    · rw [if_pos e, List.find?_cons_of_pos (by simpa using e)]; rfl
    · rw [if_neg e, List.find?_cons_of_neg (by simpa using e)]; exact ih
theorem MF_put {f : Fnd} {d : Drv} {r : Nat} (h : d.1 ∉ cls f) : (putM (MF f) d.1 (enD d)).Perm (MF (f ++ [(d, r)])) := by
  rw [putM_new (fun p hp => by
    obtain ⟨x, hx, rfl⟩ := List.mem_map.1 hp
    exact fun e => h (mem_cls.2 ⟨x, hx, e⟩))]
  simp [MF]
/-- the reason, or none -/
def whyA (f : Fnd) (c : Str) : Drv := match whyD f c with
  | some x => x.1
  | none => zD
theorem whyA_frm (f : Fnd) (c : Str) : (whyA f c).2.1 = frm f c := by
  unfold whyA frm
  cases whyD f c <;> rfl
theorem MF_has (f : Fnd) (c : Str) : (getM (MF f) c).isSome = decide (c ∈ cls f) := by
  rw [MF_get]
  cases e : whyD f c with
  | none => rw [decide_eq_false (whyD_none.1 e)]; rfl
  | some x => rw [decide_eq_true (mem_cls.2 ⟨x, (whyD_some e).1, (whyD_some e).2⟩)]; rfl
theorem MF_val (f : Fnd) (c : Str) : (getM (MF f) c).getD (enD zD) = enD (whyA f c) := by
  rw [MF_get]; unfold whyA
  cases whyD f c <;> rfl
theorem MF_look2 (f : Fnd) (c : Str) : lkV (some 3) (MF f) c (enD zD) true = .t [.a (enD (whyA f c)), .c (.v (.bool (decide (c ∈ cls f))))] := by
  rw [← MF_val, ← MF_has]; rfl
theorem MF_look1 (f : Fnd) (c : Str) : lkV (some 3) (MF f) c (enD zD) false = .p (.a (enD (whyA f c))) := by
  rw [← MF_val]; rfl
theorem zD_rep (h : Hp) : PRep h (pvM (some 3) (enD zD)) (.agg #[.string ⟨#[]⟩, .slice none 0 0, .slice none 0 0]) := by
  refine ⟨_, rfl, rfl, ?_⟩
  rw [DReps.iff]
  intro i d hd
  match i with
  | 0 => cases hd; exact ⟨_, rfl, by simp only [DRep]; exact ⟨rfl, rfl⟩⟩
  | 1 => cases hd; exact ⟨_, rfl, by simp only [DRep]; exact ⟨none, 0, rfl, by decide, by decide, .inl rfl⟩⟩
  | 2 => cases hd; exact ⟨_, rfl, by simp only [DRep]; exact ⟨none, 0, rfl, by decide, by decide, .inl rfl⟩⟩
  | n + 3 => simp at hd
/-- a derivation's hypotheses are in order -/
def hokD (D : List Drv) : Prop := ∀ d ∈ D, hok d.2.2
theorem hokD_get {D : List Drv} (h : hokD D) {k : Nat} (hk : k < D.length) : hok (D.getD k zD).2.2 := h _ (getD_mem' zD hk)
theorem rnd_take {S : List Str} {ok : Drv → Bool} {r : Nat} {D : List Drv} {f : Fnd} {k : Nat} (hk : k < D.length) : rndL S ok r (D.take (k + 1)) f = rnd1 S ok r (rndL S ok r (D.take k) f) (D.getD k zD) := by
  rw [List.take_add_one, List.getElem?_eq_getElem hk, Option.toList_some, rndL_snoc, List.getD_eq_getElem?_getD, List.getElem?_eq_getElem hk]; rfl
theorem not_any {S : List Str} : ∀ {l : List Str}, (!(l.any fun s => !decide (s ∈ S))) = l.all fun s => decide (s ∈ S)
  | [] => rfl
  | x :: l => by
    have := not_any (S := S) (l := l)
    simp only [List.any_cons, List.all_cons, Bool.not_or, Bool.not_not, this]
end Go.AM
end

section
/- What the walk of reasons asks. -/
namespace Go.AM
open Go Go.RowKit Go.MapKept
abbrev MD (f : Fnd) : DV := MP (some 3) (enE kS (MF f))
abbrev bxM (e : TypeId) (f : Fnd) : Blk := ⟨false, 1, e, [MD f]⟩
abbrev MBF (f : Fnd) : Blk := MB (some 3) (enE kS (MF f))
/-- a round, so far -/
abbrev rSt (b : Book) (k j : Nat) : Fnd := rndL (cls (rds b.1 (okM (bm b.2)) k)) (okM (bm b.2)) (k + 1) (b.1.take j) (rds b.1 (okM (bm b.2)) k)
abbrev rGo (b : Book) (k : Nat) : Fnd := rds b.1 (okM (bm b.2)) k
abbrev rFin (b : Book) : Fnd := finD b.1 (okM (bm b.2))
theorem rSt_0 (b : Book) (k : Nat) : rSt b k 0 = rGo b k := by simp [rSt, rndL]
theorem rSt_end (b : Book) {k j : Nat} (h : ¬ j < b.1.length) : rSt b k j = rGo b (k + 1) := by
  show rndL _ _ _ (b.1.take j) _ = _
  rw [List.take_of_length_le (by omega)]; rfl
theorem rSt_y {b : Book} {k j : Nat} (hj : j < b.1.length) (h1 : (b.1.getD j zD).1 ∉ cls (rSt b k j)) (h2 : okM (bm b.2) (b.1.getD j zD) = true) (h3 : ((b.1.getD j zD).2.1.all fun s => decide (s ∈ cls (rGo b k))) = true) :
    rSt b k (j + 1) = rSt b k j ++ [(b.1.getD j zD, k + 1)] := by
  show rndL _ _ _ (b.1.take (j + 1)) _ = _
  rw [rnd_take hj, rnd1, if_pos]
  refine ⟨h1, ?_⟩
  unfold canU; rw [h2, h3]; rfl
theorem rSt_n1 {b : Book} {k j : Nat} (hj : j < b.1.length) (h1 : ¬ (b.1.getD j zD).1 ∉ cls (rSt b k j)) : rSt b k (j + 1) = rSt b k j := by
  show rndL _ _ _ (b.1.take (j + 1)) _ = _
  rw [rnd_take hj, rnd1, if_neg]
  exact fun q => h1 q.1
theorem rSt_n2 {b : Book} {k j : Nat} (hj : j < b.1.length) (h2 : okM (bm b.2) (b.1.getD j zD) = false) : rSt b k (j + 1) = rSt b k j := by
  show rndL _ _ _ (b.1.take (j + 1)) _ = _
  rw [rnd_take hj, rnd1, if_neg]
  rintro ⟨_, q⟩
  unfold canU at q; rw [h2] at q; cases q
theorem rSt_n3 {b : Book} {k j : Nat} (hj : j < b.1.length) (h3 : ((b.1.getD j zD).2.1.all fun s => decide (s ∈ cls (rGo b k))) = false) : rSt b k (j + 1) = rSt b k j := by
  show rndL _ _ _ (b.1.take (j + 1)) _ = _
  rw [rnd_take hj, rnd1, if_neg]
  rintro ⟨_, q⟩
  unfold canU at q; rw [h3, Bool.and_false] at q; cases q
theorem rGo_fin {b : Book} {k : Nat} (h : (MF (rGo b (k + 1))).length = (MF (rGo b k)).length) : rGo b k = rFin b := by
  rw [MF_len, MF_len] at h
  exact fin_of_len h
theorem rGo_lt {b : Book} {k : Nat} (h : ¬ (MF (rGo b (k + 1))).length = (MF (rGo b k)).length) : b.1.length - (rGo b (k + 1)).length < b.1.length - (rGo b k).length := by
  rw [MF_len, MF_len] at h
  have h1 := rds_len (D := b.1) (ok := okM (bm b.2)) (k + 1)
  obtain ⟨e, h2, _⟩ := rds_step (D := b.1) (ok := okM (bm b.2)) k
  have h3 : (rds b.1 (okM (bm b.2)) (k + 1)).length = (rds b.1 (okM (bm b.2)) k).length + e.length := by rw [h2, List.length_append]
  show b.1.length - (rds b.1 (okM (bm b.2)) (k + 1)).length < b.1.length - (rds b.1 (okM (bm b.2)) k).length
  have h4 : ¬ (rds b.1 (okM (bm b.2)) (k + 1)).length = (rds b.1 (okM (bm b.2)) k).length := h
  omega
theorem okM_d {m : Nat} {d : Drv} (h : decide (bm d.2.2 &&& m = bm d.2.2) = true) : okM m d = true := h
theorem okM_n {m : Nat} {d : Drv} (h : decide (bm d.2.2 &&& m = bm d.2.2) = false) : okM m d = false := h
end Go.AM
end

section
/- A function that calls itself through the box that it has captured, beside a box that holds a map of the caller's. -/
namespace Go.AM
open Go Go.RowKit Go.MapKept
theorem hlf_cells {h h' : Hp} (q : Hlf h h') {b : Nat} {c : Array Value} {e : TypeId} {fr : Nat × Nat} (k : h b = some (.cells c e fr)) : h' b = some (.cells c e fr) := q _ _ (fun _ => by simp) k
theorem Hlf.refl (h : Hp) : Hlf h h := fun _ _ _ e => e
theorem Hlf.trans {a b c : Hp} (h : Hlf a b) (k : Hlf b c) : Hlf a c := fun i o ho e => k i o ho (h i o ho e)
theorem Hle.hlf {a b : Hp} (h : Hle a b) : Hlf a b := fun i o _ e => h i o e
mutual
theorem DRep.hlf {h h' : Hp} (hh : Hlf h h') : ∀ (d : DV) (x : Value), DRep h d x → DRep h' d x
  | .v _, _, r => by simpa only [DRep] using r
  | .any, _, r => by simpa only [DRep] using r
  | .sl n xs, x, r => by
    simp only [DRep] at r ⊢
    obtain ⟨a, cap, h1, h2, h3, h4⟩ := r
    refine ⟨a, cap, h1, h2, h3, ?_⟩
    rcases h4 with h4 | ⟨b, off, c, e, fr, g1, g2, g3⟩
    · exact .inl h4
    · exact .inr ⟨b, off, c, e, fr, g1, hlf_cells hh g2, DReps.hlf hh xs _ g3⟩
  | .ip xs, x, r => by
    simp only [DRep] at r ⊢
    obtain ⟨b, off, c, e, fr, g1, g2, g3⟩ := r
    exact ⟨b, off, c, e, fr, g1, hlf_cells hh g2, DReps.hlf hh xs _ g3⟩
  | .fn f caps, x, r => by
    simp only [DRep] at r ⊢
    obtain ⟨lb, g1, g2, g3⟩ := r
    exact ⟨lb, g1, g2, DReps.hlf hh caps _ g3⟩
  | .mp a xs, x, r => by
    simp only [DRep] at r ⊢
    obtain ⟨k, es, clk, l, g1, g2, g3, g4, g5, g6⟩ := r
    exact ⟨k, es, clk, l, g1, hh _ _ (fun _ => by simp) g2, g3, g4, g5, DReps.hlf hh xs _ g6⟩
theorem DReps.hlf {h h' : Hp} (hh : Hlf h h') : ∀ (ds : List DV) (g : Nat → Option Value), DReps h ds g → DReps h' ds g
  | [], _, _ => by simp only [DReps]
  | x :: xs, g, r => by
    simp only [DReps] at r ⊢
    obtain ⟨⟨y, e, k⟩, r⟩ := r
    exact ⟨⟨y, e, DRep.hlf hh x y k⟩, DReps.hlf hh xs _ r⟩
end
/-- a pointer to a cell that nobody writes any more and that holds v -/
def SeenP (h : Hp) (v x : Value) : Prop := ∃ b off c e fr, x = .pointer (some ⟨b, off, none⟩) ∧ h b = some (.cells c e fr) ∧ c[off]? = some v ∧ v.oneCell' = true
/-- something that stays while memory grows -/
def Stay (R : Hp → Prop) (h : Hp) : Prop := ∀ h', Hlf h h' → R h'
/-- the box of a function that has captured: a box, a cell that holds v, its own box -/
def LkB (fl : FuncId) (xs : List DV) (h : Hp) (v x : Value) : Prop := ∃ kl pw ps e fr, x = .pointer (some ⟨kl, 0, none⟩) ∧ h kl = some (.cells #[.func (.func fl) #[] #[pw, ps, x]] e fr) ∧ Stay (fun h => IpRep h xs pw) h ∧ SeenP h v ps
def LkF (fl : FuncId) (xs : List DV) (h : Hp) (v x : Value) : Prop := ∃ pl pw ps, x = .func (.func fl) #[] #[pw, ps, pl] ∧ Stay (fun h => IpRep h xs pw) h ∧ SeenP h v ps ∧ LkB fl xs h v pl
theorem SeenP.stay {h h' : Hp} (q : Hlf h h') {v x : Value} : SeenP h v x → SeenP h' v x
  | ⟨b, off, c, e, fr, h1, h2, h3⟩ => ⟨b, off, c, e, fr, h1, hlf_cells q h2, h3⟩
theorem Stay.stay {h h' : Hp} (q : Hlf h h') {R : Hp → Prop} (k : Stay R h) : Stay R h' := fun h'' q' => k h'' (q.trans q')
theorem LkB.stay {h h' : Hp} (q : Hlf h h') {fl : FuncId} {xs : List DV} {v x : Value} : LkB fl xs h v x → LkB fl xs h' v x
  | ⟨kl, pw, ps, e, fr, h1, h2, h3, h4⟩ => ⟨kl, pw, ps, e, fr, h1, hlf_cells q h2, h3.stay q, h4.stay q⟩
section ops
variable {P : Program} {tt : TT} (hT : TTok P tt)
variable {dst : Option Nat} {ty : TypeId} {pos : String} {af : Array Edge} {gd : Option (Nat × Bool)} {d : Nat} {ρ : Operand → AV} {own : Own}
variable {T : TypeId} {i : TyI} {x y : Operand} {fl : FuncId} {xs : List DV} {m : Nat}
include hT
theorem load_cell {C : Ctx} {h : Hp} {r : Nat → Value} {own' : Own} {w : World} (hw : WOK C h r own' w) (ht : tt T = some i) (hg : i.sh.agg = false) {b off : Nat} {c : Array Value} {e : TypeId} {fr : Nat × Nat} {v : Value} (hk : h b = some (.cells c e fr)) (hc : c[off]? = some v) (h1 : v.oneCell' = true) : (loadVar T ⟨b, off, none⟩).run P w = .ok v w := by
  have hcell : w.cell? ⟨b, off, none⟩ = some v := by
    simp only [World.cell?, hw.hi _ _ hk]; exact hc
  obtain ⟨x', g1, g2⟩ := run_loadVar_one (hT T i ht) hg (h := h) (w := w) (a := ⟨b, off, none⟩) (d := .v v) (fun j d' hj => by
    cases j with
    | zero =>
      simp at hj; subst hj
      exact ⟨v, by rw [Addr.add_lit, Nat.add_zero]; exact hcell, by simp only [DRep]; exact ⟨trivial, h1⟩⟩
    | succ j => simp at hj)
  have : x' = v := by have := g2; simp only [PRep, DRep] at this; exact this.1
  rw [this] at g1; exact g1
theorem op_loadSeen (ht : tt T = some i) (hg : i.sh.agg = false) (hx : ρ x = .axm SeenP m) : Eff P ⟨dst, .load T x, ty, pos, af, gd⟩ d ρ own (.vec m) [] none [] :=
  Eff.value fun C h r own' a w hrep hrd hw => by
    have e1 := hrep x (by simp [Op.operands])
    rw [hx] at e1
    obtain ⟨b, off, c, e, fr, h1, h2, h3, h4⟩ := e1 h (Hlf.refl h)
    refine ⟨r m, ?_, rfl⟩
    simp only [execOp, h1, Sem.run_bind, loadAt_ptr, load_cell hT hw ht hg h2 h3 h4, Result.andThen_ok, Sem.run_pure]
theorem op_loadLk (ht : tt T = some i) (hg : i.sh.agg = false) (hx : ρ x = .axm (LkB fl xs) m) : Eff P ⟨dst, .load T x, ty, pos, af, gd⟩ d ρ own (.axm (LkF fl xs) m) [] none [] :=
  Eff.value fun C h r own' a w hrep hrd hw => by
    have e1 := hrep x (by simp [Op.operands])
    rw [hx] at e1
    have e2 := e1 h (Hlf.refl h)
    obtain ⟨kl, pw, ps, e, fr, h1, h2, h3, h4⟩ := e2
    refine ⟨.func (.func fl) #[] #[pw, ps, a.eval x], ?_, fun h' q => ⟨_, pw, ps, rfl, h3.stay q, h4.stay q, e1 h' q⟩⟩
    have := load_cell hT hw ht hg h2 (off := 0) (v := .func (.func fl) #[] #[pw, ps, a.eval x]) (by simp) rfl
    rw [h1] at this
    simp only [execOp, h1, Sem.run_bind, loadAt_ptr, this, Result.andThen_ok, Sem.run_pure]
/-- a map of the call's own is put into a box -/
theorem op_storeMap {j z : Nat} {e : TypeId} {dv : DV} {b : Blk} (ht : tt T = some i) (hsz : i.size = 1) (hx : ρ x = .loc m 0) (hy : ρ y = .vec j) (hb : own m = some ⟨false, z, e, [dv]⟩) (hbj : own j = some b) (hbv : b.vec = true) (hs0 : b.sz = 0) :
    Eff P ⟨none, .store T x y, ty, pos, af, gd⟩ d ρ own .junk [(m, some ⟨false, j + 2, e, [.any]⟩)] none [m, j] := by
  intro C h r own' a w K Q hrep hrd hw _ hK
  have hb' := (hrd m (by simp)).trans hb
  have hj' := (hrd j (by simp)).trans hbj
  have e1 := hrep x (by simp [Op.operands])
  have e2 := hrep y (by simp [Op.operands])
  rw [hx] at e1; rw [hy] at e2
  obtain ⟨k, h1, h2, c, h3, h4, h5⟩ := own_reads hw hb' e1
  have e2' : a.eval y = r j := e2
  have hbr := hw.ow j b hj'
  rw [BlkRep.mpE hbv hs0] at hbr
  obtain ⟨q0, q1⟩ := hbr.isMap
  have hcells : (a.eval y).cells = #[r j] := by rw [e2', q1]; rfl
  have hone : (r j).oneCell' = true := by rw [q1]; rfl
  have hbx := hw.ow m _ hb'
  rw [BlkRep.boxE rfl] at hbx
  obtain ⟨k0, c0, p1, p2, p3, p4⟩ := hbx
  rw [p1] at h2; simp only [hblk, Option.some.injEq] at h2; subst h2
  rw [p2] at h3
  have hcc : c0 = c := by simpa using h3
  subst hcc
  have hsize : c0.size = 1 := p3
  obtain ⟨w', c', k1, k2, k3, k4, k5⟩ := run_storeCells_block P k0 e [r j] 0 0 w c0 p2 (by simp; omega) (by simpa using hone)
  have hc' : c' = #[r j] := by
    have h0 := k5 0
    simp at h0
    apply Array.ext (by simp; omega)
    intro q hq1 hq2
    have : q = 0 := by omega
    subst this
    rw [Array.getElem?_eq_getElem (by omega)] at h0
    simpa using h0
  have hrun : (execOp a.eval ⟨none, .store T x y, ty, pos, af, gd⟩).run P w = .ok .skip w' := by
    have hs : ¬ ((a.eval y).cells.size ≠ i.size) := by rw [hcells, hsz]; simp
    simp only [execOp, h1, Instr.storeAt, Instr.sureAddr, storeVar, Sem.run_bind, Sem.run_pure, (hT T i ht).size, Result.andThen_ok, hs, if_false]
    rw [hcells]
    simp only [Result.andThen_ok, k1]
  unfold Oper.wp
  rw [hrun]
  refine hK undef h r w' (.refl _) (fun _ _ => rfl) trivial (hw.write (by rw [hb']; simp) (by rw [p1]; rfl) k2 (b := ⟨false, j + 2, e, [.any]⟩) ?_ ?_)
  · rw [BlkRep.boxE rfl]
    refine ⟨k0, c', p1, k3, by rw [hc']; rfl, ?_⟩
    rw [hc']
    simp only [DReps, DRep]
    exact ⟨⟨r j, rfl, hone⟩, trivial⟩
  · intro j' hj
    have : j' = j := by simpa [lnk] using hj
    subst this
    exact ⟨k0, (e, #[]), p1, by rw [k3, hc']; rfl⟩
end ops
section
variable {P : Program} {dst : Option Nat} {ty : TypeId} {pos : String} {af : Array Edge} {gd : Option (Nat × Bool)} {d : Nat} {ρ : Operand → AV} {own : Own}
/-- such a function is called -/
theorem Eff.callLk {f : FuncId} {xs : List DV} {m : Nat} {b b' : Blk} {c : Operand} {args : Array Operand} {tys : Array TypeId} {res : AV}
    (hx : ρ c = .axm (LkF f xs) m) (hb : own m = some b) (hc : CallM P f (args.toList.map ρ ++ [.ip xs, .axm SeenP m, .axm (LkB f xs) m]) (upd O m (some b)) res (upd O m (some b'))) (hl : lnk b' = []) :
    Eff P ⟨dst, .call ⟨.value c, args, tys⟩, ty, pos, af, gd⟩ d ρ own res [(m, some b')] none [m] := by
  intro C h r own' a w K Q hrep hrd hw _ hK
  have e0 := hrep c (by simp [Op.operands, Call.operands])
  rw [hx] at e0
  have e1 : ∀ h', Hlf h h' → LkF f xs h' (r m) (a.eval c) := e0
  obtain ⟨pl, pw, ps, e3, e4, e5, e6⟩ := e1 h (Hlf.refl h)
  obtain ⟨lb, hlb⟩ : ∃ lb : Array Value, lb = #[pw, ps, pl] := ⟨_, rfl⟩
  rw [← hlb] at e3
  have hb' : own' m = some b := (hrd m (by simp)).trans hb
  have one : ∀ {b : Blk} {k : Nat}, upd O m (some b) k ≠ none → k = m := fun {b k} h => by
    by_cases e : k = m
    · exact e
    · rw [upd_ne _ _ _ _ e] at h; exact absurd rfl h
  have ho : ∀ n, upd O m (some b) n ≠ none → own' n = upd O m (some b) n := fun n hn => by
    rw [one hn, upd_same]; exact hb'
  unfold Oper.wp
  have hrun : (execOp a.eval ⟨dst, .call ⟨.value c, args, tys⟩, ty, pos, af, gd⟩).run P w = .ok (.enter f (args.map a.eval ++ lb)) w := by
    simp only [execOp, resolve, Sem.run_bind, e3, Deferred.ofValue, Sem.run_pure, Result.andThen_ok, invoke, Array.empty_append]
    exact run_callFunc hc.fn _ w
  rw [hrun]
  refine Calls.mono (hc.go h r w (args.map a.eval ++ lb) ?_ (hw.before ho)) ?_
  · rw [Array.toList_append, Array.toList_map, hlb]
    have h1 := repArgs_map (h := h) (r := r) (ρ := ρ) (a := a) args.toList fun x hx => hrep x (by simp only [Op.operands, Call.operands]; exact Array.mem_append.2 (.inr (Array.mem_toList_iff.1 hx)))
    have h3 : ∀ (us : List AV) (xs : List Value) (bs : List AV) (ys : List Value), RepArgs h r us xs → RepArgs h r bs ys → RepArgs h r (us ++ bs) (xs ++ ys) := by
      intro us
      induction us with
      | nil => intro xs bs ys k q; cases xs with | nil => exact q | cons _ _ => exact k.elim
      | cons c cs ih => intro xs bs ys k q; cases xs with | nil => exact k.elim | cons x xs => exact ⟨k.1, ih xs bs ys k.2 q⟩
    exact h3 _ _ _ _ h1 ⟨e4 h (Hlf.refl h), fun h' q => e5.stay q, fun h' q => e6.stay q, trivial⟩
  · rintro e w' ⟨v, h', rfl, hv, hq⟩
    have key : ∀ n, upd own' m (some b') n = if upd O m (some b) n ≠ none then upd O m (some b') n else own' n := fun n => by
      by_cases e : n = m
      · subst e; simp only [upd_same]; rw [if_pos (fun q => by cases q)]
      · rw [upd_ne _ _ _ _ e, upd_ne _ _ _ _ e, upd_ne _ _ _ _ e, if_neg (fun q => q rfl)]
    have hlk : ∀ n c2, upd O m (some b) n ≠ none → upd O m (some b') n = some c2 → lnk c2 = [] := fun n c2 hn hb2 => by
      have := one hn
      subst this
      rw [upd_same] at hb2
      cases hb2
      exact hl
    have hw' : WOK C h' r (upd own' m (some b')) w' := hw.after ho hq key hlk
    exact hK v h' r w' hq.hg (fun _ _ => rfl) hv hw'
end
section ghost
variable {P : Program} {B : Bool} {N np : Nat} {Q : Exit → St → Prop} {s : St} {c : Code}
/-- the box of a map, as a cell that nobody writes any more -/
theorem AWp_seen {t m j : Nat} {e : TypeId} {dv : DV} {a : Option Nat} {E : List En} (ht : s.regs t = .loc m 0) (hb : s.own m = some ⟨false, j + 2, e, [dv]⟩) (hj : s.own j = some (MB a E)) (h : AWp P B N np c Q ⟨upd s.regs t (.axm SeenP j), upd s.own m none⟩) : AWp P B N np c Q s := by
  intro ro hB C hh r ac w hn hc
  obtain ⟨k, e', q1, q2⟩ := hc.wk.lk m _ j hb (by show j ∈ [j]; simp)
  obtain ⟨f1, f2⟩ := hc.wk.freeze (m := m) (i := k) (by rw [hb]; simp) (by rw [q1]; rfl) q2
  have hone : (r j).oneCell' = true := by
    have := hc.wk.ow j _ hj
    rw [BlkRep.mpE rfl rfl] at this
    obtain ⟨i, hi⟩ := this.isMap
    rw [hi]; rfl
  refine h ro hB C _ r ac w hn ⟨hc.sz, hc.df.mono f2, fun t' => ?_, f1⟩
  show AVRep _ _ (upd s.regs t _ t') _
  by_cases e2 : t' = t
  · subst e2
    rw [upd_same]
    have hx := hc.rg t'
    rw [ht] at hx
    obtain ⟨k', ⟨g1, _⟩, g2⟩ := hx
    rw [q1] at g1; simp only [hblk, Option.some.injEq] at g1; subst g1
    exact fun h' q => ⟨k, 0, _, e'.1, (0, 0), g2, hlf_cells q (if_pos rfl), by simp [lkC], hone⟩
  · rw [upd_ne _ _ _ _ e2]; exact AVRep.mono f2 _ _ (hc.rg t')
/-- the map in such a cell becomes data, too -/
theorem AWp_unSeen {t m : Nat} {a : Option Nat} {E : List En} (ht : s.regs t = .axm SeenP m) (hb : s.own m = some (MB a E)) (hw : EW a E) (h : AWp P B N np c Q ⟨upd s.regs t (.ip [MP a E]), upd s.own m none⟩) : AWp P B N np c Q s := by
  intro ro hB C hh r ac w hn hc
  obtain ⟨k, es, clk, q1, q2, q3, q4⟩ := (mb_rep hw).1 (hc.wk.ow m _ hb)
  obtain ⟨f1, f2⟩ := hc.wk.freeze (m := m) (i := k) (by rw [hb]; simp) (by rw [q1]; rfl) q2
  refine h ro hB C _ r ac w hn ⟨hc.sz, hc.df.mono f2, fun t' => ?_, f1⟩
  show AVRep _ _ (upd s.regs t _ t') _
  by_cases e' : t' = t
  · subst e'
    rw [upd_same]
    have hx := hc.rg t'
    rw [ht] at hx
    obtain ⟨b, off, cc, e, fr, g1, g2, g3, g4⟩ := hx _ f2.hlf
    refine ⟨b, off, cc, e, fr, g1, g2, ?_⟩
    rw [DReps.iff]
    intro i d hd
    cases i with
    | zero =>
      simp at hd; subst hd
      refine ⟨r m, g3, ?_⟩
      rw [q1]
      exact (mp_rep hw).2 ⟨k, es, clk, rfl, if_pos rfl, q3, q4.mono f2⟩
    | succ i => simp at hd
  · rw [upd_ne _ _ _ _ e']; exact AVRep.mono f2 _ _ (hc.rg t')
/-- the function is made and put into its own box -/
theorem AWp_mkLook {tt : TT} (hT : TTok P tt) {id t5 t6 t7 t11 m n T z : Nat} {i : TyI} {xs : List DV} {e : TypeId} {dv : DV} {fl : FuncId} {y1 y2 : TypeId} {p1 p2 : String} {a1 a2 : Array Edge}
    (ht : tt T = some i) (hsz : i.size = 1) (h5 : s.regs t5 = .ip xs) (h6 : s.regs t6 = .axm SeenP m) (h7 : s.regs t7 = .loc n 0) (hb : s.own n = some ⟨false, z, e, [dv]⟩) (hd : (!Nat.beq t5 t11 && !Nat.beq t6 t11 && !Nat.beq t7 t11 && Nat.blt t11 N) = true)
    (h : Q .normal ⟨upd (upd s.regs t11 .junk) t7 (.axm (LkB fl xs) m), upd s.own n none⟩) :
    AWp P B N np (.region id #[⟨some t11, .makeFunc (.func fl) #[] #[.tmp t5, .tmp t6, .tmp t7], y1, p1, a1, none⟩, ⟨none, .store T (.tmp t7) (.tmp t11), y2, p2, a2, none⟩] false) Q s := by
  intro ro hB C hh r a w hnp hc
  simp only [Bool.and_eq_true, Nat.blt_eq] at hd
  obtain ⟨⟨⟨d5, d6⟩, d7⟩, n1⟩ := hd
  have d7' : t7 ≠ t11 := fun e => by rw [e] at d7; simp at d7
  have hs0 : a.tmps.size = N := hc.sz
  have r5 := hc.rg t5
  have r6 := hc.rg t6
  have r7 := hc.rg t7
  rw [h5] at r5; rw [h6] at r6; rw [h7] at r7
  obtain ⟨k, ⟨g1, _⟩, g2⟩ := r7
  have hbx := hc.wk.ow n _ hb
  rw [BlkRep.boxE rfl] at hbx
  obtain ⟨k0, c0, q1, q2, q3, q4⟩ := hbx
  rw [q1] at g1; simp only [hblk, Option.some.injEq] at g1; subst g1
  apply wpIn_region
  show wpOpsIn (Wd ro) 0 P _ _ [0, 1] a w
  rw [wpOpsIn_cons]
  let F : Value := .func (.func fl) #[] #[a.eval (.tmp t5), a.eval (.tmp t6), a.eval (.tmp t7)]
  refine wpOpIn_val (o := ⟨some t11, .makeFunc (.func fl) #[] #[.tmp t5, .tmp t6, .tmp t7], y1, p1, a1, none⟩) rfl rfl rfl (x := F) (w' := w) (by simp [execOp, Instr.makeFunc, F]) ?_
  rw [wpOpsIn_cons]
  have v7 : (a.put (some t11) F).eval (.tmp t7) = .pointer (some ⟨k0, 0, none⟩) := by
    rw [← g2]; simp [Act.put, Act.eval, d7'.symm]
  have v11 : (a.put (some t11) F).eval (.tmp t11) = F := by
    simp [Act.put, Act.eval, hs0, n1]
  obtain ⟨w', c', k1, k2, k3, k4, k5⟩ := run_storeCells_block P k0 e [F] 0 0 w c0 q2 (by simp [q3]) (by intro v hv; rw [List.mem_singleton] at hv; subst hv; rfl)
  have hc' : c' = #[F] := by
    have h0 := k5 0
    simp at h0
    have hsz' : c0.size = 1 := q3
    apply Array.ext (by simp; omega)
    intro q hq1 hq2
    have : q = 0 := by omega
    subst this
    rw [Array.getElem?_eq_getElem (by omega)] at h0
    simpa using h0
  refine wpOpIn_skip (o := ⟨none, .store T (.tmp t7) (.tmp t11), y2, p2, a2, none⟩) rfl rfl rfl (w' := w') (by
    have hcells : (F).cells = #[F] := rfl
    have hs : ¬ ((F).cells.size ≠ i.size) := by rw [hcells, hsz]; simp
    simp only [execOp, v7, v11, Instr.storeAt, Instr.sureAddr, storeVar, Sem.run_bind, Sem.run_pure, (hT T i ht).size, Result.andThen_ok, hs, if_false]
    rw [hcells]
    simp only [Result.andThen_ok, k1]) ?_
  have hk1 : hblk (r n) = some k0 := by rw [q1]; rfl
  have hw1 := hc.wk.write (w' := w') (by rw [hb]; simp) hk1 k2 (b := ⟨false, 1, e, [.any]⟩) (by
    rw [BlkRep.boxE rfl]
    refine ⟨k0, c', q1, k3, by rw [hc']; rfl, ?_⟩
    rw [hc']
    simp only [DReps, DRep]
    exact ⟨⟨F, rfl, rfl⟩, trivial⟩) (by intro j hj; cases hj)
  obtain ⟨f1, f2⟩ := hw1.freeze (m := n) (i := k0) (by rw [upd_same]; simp) hk1 k3
  have e0 : upd (upd s.own n (some (⟨false, 1, e, [.any]⟩ : Blk))) n none = upd s.own n none := by
    funext p
    by_cases hp : p = n
    · subst hp; rw [upd_same, upd_same]
    · rw [upd_ne _ _ _ _ hp, upd_ne _ _ _ _ hp, upd_ne _ _ _ _ hp]
  rw [e0] at f1
  show ∃ s' h' r', Q .normal s' ∧ Conc C N h' r' s' _ _
  refine ⟨_, _, r, h, ?_, hc.df.mono f2, fun t' => ?_, f1⟩
  · simp [Act.put]; exact hs0
  · have r1 := (show RegsOK hh r s.regs a from hc.rg).put (dst := some t11) (fun d' e => by cases e; omega) (v := .junk) (x := F) trivial
    show AVRep _ r (upd (upd s.regs t11 .junk) t7 _ t') _
    by_cases e' : t' = t7
    · subst e'
      rw [upd_same]
      have hv : (a.put (some t11) F).tmps.getD t' undef = .pointer (some ⟨k0, 0, none⟩) := v7
      have hx7 : a.eval (.tmp t') = .pointer (some ⟨k0, 0, none⟩) := g2
      intro h' q
      refine ⟨k0, a.eval (.tmp t5), a.eval (.tmp t6), e, (0, 0), hv, ?_, ?_, ?_⟩
      · refine hlf_cells q ?_
        rw [if_pos rfl]
        have : c' = #[.func (.func fl) #[] #[a.eval (.tmp t5), a.eval (.tmp t6), (a.put (some t11) F).tmps.getD t' undef]] := by
          rw [hc', hv, ← hx7]
        rw [this]
        rfl
      · exact fun h'' q'' => by
          obtain ⟨b, off, cc, e3, fr, z1, z2, z3⟩ := r5
          have q3 := (f2.hlf.trans q).trans q''
          exact ⟨b, off, cc, e3, fr, z1, hlf_cells q3 z2, DReps.hlf q3 _ _ z3⟩
      · exact r6 h' (f2.hlf.trans q)
    · rw [upd_ne _ _ _ _ e']
      exact AVRep.mono f2 _ _ (r1 t')
end ghost
end Go.AM
end

section
/- On what a claim rests: the program's search. -/
namespace Go.AM
open Go Go.RowKit Go.MapKept
/-- the loop of the search, each claim by G -/
def stepL (G : Str → List Str → List Str) (l : List Str) (S : List Str) : List Str := l.foldl (fun S t => if t ∈ S then S else G t (S ++ [t])) S
def lkD (f : Fnd) : Nat → Str → List Str → List Str
  | 0, _, S => S
  | n + 1, s, S => stepL (lkD f n) (frm f s) S
theorem stepL_snoc (G : Str → List Str → List Str) (l : List Str) (t : Str) (S : List Str) : stepL G (l ++ [t]) S = if t ∈ stepL G l S then stepL G l S else G t (stepL G l S ++ [t]) := by
  unfold stepL; rw [List.foldl_append]; rfl
theorem stepL_take {G : Str → List Str → List Str} {l : List Str} {S : List Str} {k : Nat} (hk : k < l.length) : stepL G (l.take (k + 1)) S = if l.getD k [] ∈ stepL G (l.take k) S then stepL G (l.take k) S else G (l.getD k []) (stepL G (l.take k) S ++ [l.getD k []]) := by
  rw [List.take_add_one, List.getElem?_eq_getElem hk, Option.toList_some, stepL_snoc, List.getD_eq_getElem?_getD, List.getElem?_eq_getElem hk]; rfl
/-- what a claim rests on -/
inductive Rch (f : Fnd) (s : Str) : Str → Prop
  | one {t : Str} (h : t ∈ frm f s) : Rch f s t
  | more {t u : Str} (h : Rch f s u) (k : t ∈ frm f u) : Rch f s t
theorem Rch.pre {f : Fnd} {s t u : Str} (h : t ∈ frm f s) (k : Rch f t u) : Rch f s u := by
  induction k with
  | one h2 => exact .more (.one h) h2
  | more _ h3 ih => exact .more ih h3
/-- reasons lead down -/
def Down (f : Fnd) : Prop := ∀ c s, s ∈ frm f c → rkD f s < rkD f c
structure LkI (f : Fnd) (s : Str) (l : List Str) (S S' : List Str) : Prop where
  sub : ∀ x ∈ S, x ∈ S'
  nd : S.Nodup → S'.Nodup
  rch : ∀ x ∈ S', x ∈ S ∨ Rch f s x
  own : ∀ x ∈ l, x ∈ S'
  cl : ∀ x ∈ S', x ∉ S → ∀ y ∈ frm f x, y ∈ S'
theorem stepL_I {f : Fnd} {s : Str} {G : Str → List Str → List Str} : ∀ {l : List Str} {S : List Str}, (∀ t ∈ l, t ∈ frm f s) → (∀ t ∈ l, ∀ S, LkI f t (frm f t) S (G t S)) → LkI f s l S (stepL G l S)
  | [], S, _, _ => ⟨fun _ h => h, fun h => h, fun _ h => .inl h, fun _ h => (by cases h), fun x h k => absurd h k⟩
  | t :: l, S, hl, hG => by
    show LkI f s (t :: l) S (stepL G l (if t ∈ S then S else G t (S ++ [t])))
    have hr := hl t (by simp)
    by_cases ht : t ∈ S
    · rw [if_pos ht]
      have ih := stepL_I (f := f) (s := s) (G := G) (l := l) (S := S) (fun x hx => hl x (by simp [hx])) (fun x hx => hG x (by simp [hx]))
      exact ⟨ih.sub, ih.nd, ih.rch, fun x hx => by
        rcases List.mem_cons.1 hx with rfl | hx
        · exact ih.sub _ ht
        · exact ih.own x hx, ih.cl⟩
    · rw [if_neg ht]
      have h1 := hG t (by simp) (S ++ [t])
      have ih := stepL_I (f := f) (s := s) (G := G) (l := l) (S := G t (S ++ [t])) (fun x hx => hl x (by simp [hx])) (fun x hx => hG x (by simp [hx]))
      refine ⟨fun x hx => ih.sub x (h1.sub x (by simp [hx])), fun hn => ih.nd (h1.nd ?_), fun x hx => ?_, fun x hx => ?_, fun x hx hn y hy => ?_⟩
      · rw [List.nodup_append]
        exact ⟨hn, by simp, fun a ha b hb e => by simp at hb; subst hb; exact ht (e ▸ ha)⟩
      · rcases ih.rch x hx with h | h
        · rcases h1.rch x h with h | h
          · rcases List.mem_append.1 h with h | h
            · exact .inl h
            · rw [List.mem_singleton] at h; subst h; exact .inr (.one hr)
          · exact .inr (.pre hr h)
        · exact .inr h
      · rcases List.mem_cons.1 hx with rfl | hx
        · exact ih.sub _ (h1.sub _ (by simp))
        · exact ih.own x hx
      · by_cases hx1 : x ∈ G t (S ++ [t])
        · by_cases hx2 : x ∈ S ++ [t]
          · have : x = t := by
              rcases List.mem_append.1 hx2 with h | h
              · exact absurd h hn
              · exact List.mem_singleton.1 h
            subst this
            exact ih.sub y (h1.own y hy)
          · exact ih.sub y (h1.cl x hx1 hx2 y hy)
        · exact ih.cl x hx hx1 y hy
theorem lkD_I {f : Fnd} (hd : Down f) : ∀ (n : Nat) (s : Str) (S : List Str), rkD f s ≤ n → LkI f s (frm f s) S (lkD f n s S)
  | 0, s, S, h => by
    have : frm f s = [] := List.eq_nil_iff_forall_not_mem.2 fun t ht => by have := hd s t ht; omega
    rw [this]
    exact ⟨fun _ h => h, fun h => h, fun _ h => .inl h, fun _ h => (by cases h), fun x h k => absurd h k⟩
  | n + 1, s, S, h => stepL_I (fun _ h => h) fun t ht S => lkD_I hd n t S (by have := hd s t ht; omega)
theorem lkD_mem {f : Fnd} (hd : Down f) {n : Nat} {s : Str} (h : rkD f s ≤ n) {t : Str} : t ∈ lkD f n s [] ↔ Rch f s t := by
  have I := lkD_I hd n s [] h
  constructor
  · intro ht
    rcases I.rch t ht with q | q
    · cases q
    · exact q
  · intro ht
    induction ht with
    | one h2 => exact I.own _ h2
    | more _ h3 ih => exact I.cl _ ih (by simp) _ h3
theorem lkD_nodup {f : Fnd} (hd : Down f) {n : Nat} {s : Str} (h : rkD f s ≤ n) : (lkD f n s []).Nodup := (lkD_I hd n s [] h).nd (by simp)
theorem down_rds (D : List Drv) (ok : Drv → Bool) (k : Nat) : Down (rds D ok k) := fun _ _ h => (frm_lt h).2
theorem SE_look (S : List Str) (t : Str) : lkV none (SE S) t [.v (.bool false)] false = .p (.c (.v (.bool (decide (t ∈ S))))) := by
  unfold lkV lkP
  rw [SE_get]
  by_cases h : t ∈ S
  · rw [if_pos h, decide_eq_true h]; rfl
  · rw [if_neg h, decide_eq_false h]; rfl
theorem SE_snoc {S : List Str} {t : Str} (h : t ∉ S) : (putM (SE S) t TT1).Perm (SE (S ++ [t])) := by
  rw [putM_new (fun p hp => by
    obtain ⟨x, hx, rfl⟩ := List.mem_map.1 hp
    exact fun e => h (e ▸ hx))]
  simp [SE]
theorem fF_rep (h : Hp) : PRep h (pvM none [.v (.bool false)]) (.bool false) := by
  show DRep h (.v (.bool false)) _
  simp only [DRep]; exact ⟨trivial, rfl⟩
abbrev FS' (S : List Str) : Blk := MB none (enE kS (SE S))
/-- sorted -/
def leS (x y : Str) : Bool := !ltS y x
def srtS (S : List Str) : List Str := S.mergeSort leS
abbrev SrtS (l : List Str) : Prop := l.Pairwise fun a b => ltS a b = true
theorem leS_trans (a b c : Str) (h : leS a b = true) (k : leS b c = true) : leS a c = true := by
  unfold leS at *
  rw [Bool.not_eq_true'] at *
  rw [← Bool.not_eq_true]
  intro q
  by_cases e : a = b
  · subst e; rw [k] at q; cases q
  · rcases ltS_total e with r | r
    · have := ltS_trans q r; rw [k] at this; cases this
    · rw [h] at r; cases r
theorem leS_total (a b : Str) : (leS a b || leS b a) = true := by
  unfold leS
  cases h : ltS b a with
  | false => rfl
  | true => rw [ltS_asymm h]; rfl
theorem srtS_mem {S : List Str} {x : Str} : x ∈ srtS S ↔ x ∈ S := (List.mergeSort_perm S leS).mem_iff
theorem srtS_len (S : List Str) : (srtS S).length = S.length := (List.mergeSort_perm S leS).length_eq
theorem srtS_srt {S : List Str} (h : S.Nodup) : SrtS (srtS S) := by
  have h1 : (srtS S).Pairwise fun a b => leS a b = true := List.pairwise_mergeSort (le := leS) leS_trans leS_total S
  have h2 : (srtS S).Nodup := (List.mergeSort_perm S leS).nodup_iff.2 h
  refine (h1.and h2).imp fun {a b} q => ?_
  rcases ltS_total q.2 with r | r
  · exact r
  · have := q.1; unfold leS at this; rw [r] at this; cases this
theorem srtS_uniq {a b : List Str} (h1 : SrtS a) (h2 : SrtS b) (h : ∀ x, x ∈ a ↔ x ∈ b) : a = b :=
  lt_uniq (R := fun a b => ltS a b = true) (fun a q => by rw [ltS_irrefl] at q; cases q) (fun a b p q => by rw [ltS_asymm p] at q; cases q) h1 h2 h
end Go.AM
end

section
/- Loops over functions that hand over what they hand over in an order of which nothing is known. -/
namespace Go.AM
open Go Go.RowKit
/-- what has been handed over so far -/
abbrev Lk := List (List PV)
structure KeepsR (P : Program) (l : Nat) (ok : Lk → List PV → Prop) (n0 : Nat) (J : Lk → Hp → (Nat → Prop) → World → Prop) : Prop where
  hi : ∀ k h G W, J k h G W → ∀ i o, h i = some o → W.heap[i]? = some o
  g : ∀ k h G W, J k h G W → ∀ i, G i → i < W.heap.size ∧ h i = none
  rest : ∀ k h G W h' W', J k h G W → Rest n0 G h W h' W' → J k h' G W'
  give : ∀ k h G W x vals, ok k x → J k h G W → PReps h x vals → YieldAt (Wd none) 0 P l vals.toArray W fun e W' => e = .returned (.bool true) ∧ ∃ h' G', J (k ++ [x]) h' G' W' ∧ Gave G h W G' h' W'
/-- A function that is ranged over: it hands over what 'ok' allows after what came before, till 'Fin' says that all has come. -/
structure IterR (P : Program) (gf : FuncId) (caps : List (List DV)) (ok : Lk → List PV → Prop) (Fin : Lk → Prop) : Prop where
  fn : FnOK P gf
  go : ∀ (l : Nat) (lb : Array Value) (J : Lk → Hp → (Nat → Prop) → World → Prop) (h : Hp) (G : Nat → Prop) (W : World), CapsRep h caps lb.toList → GlOK h → KeepsR P l ok W.heap.size J → J [] h G W →
    CallsIn (Wd none) 0 P gf (#[.func (.yield l) #[] #[]] ++ lb) W fun e W' => (∃ v, e = .returned v) ∧ ∃ kf h' G', Fin kf ∧ J kf h' G' W'
theorem AWp_rangeR {P : Program} {N np : Nat} {Q : Exit → St → Prop} {l : List (Nat × AV)} {g : Operand} {ps : Array Tmp} {assign body : Code} {gf : FuncId} {caps : List (List DV)} {ok : Lk → List PV → Prop} {Fin : Lk → Prop} (np' : Nat) (own : Lk → Own)
    (hg : ev (look l) g = .fn gf caps) (hit : IterR P gf caps ok Fin) (hps : ∀ k x, ok k x → x.length = ps.toList.length)
    (hfix : menB np' l = true) (hnp : Nat.ble np np' = true) (hpN : (ps.toList.all fun p => Nat.blt p N) = true)
    (hround : ∀ (k : Lk) (x : List PV), ok k x → AWp P true N np' assign (AThen (AWp P true N np' body (fun e s' => e = .normal ∧ GW np' s'.own (own (k ++ [x])))) (fun _ _ => False)) ⟨setPs (look l) ps.toList x, own k⟩)
    (hdone : ∀ k, Fin k → Q .normal ⟨look l, own k⟩) : AWp P false N np (.rangeFunc g ps assign body) Q ⟨look l, own []⟩ := by
  intro ro hB C hh r a w hn hc
  have hro : ro = none := hB rfl
  subst hro
  have hnp' := Nat.le_of_ble_eq_true hnp
  have hmar : C.mar = true := hn.2
  refine wpIn_rangeFunc ?_
  intro fn _
  have hgv := rep_ev hc.rg g
  rw [hg] at hgv
  obtain ⟨lb, hval, hcaps⟩ := hgv
  obtain ⟨rec, hrec⟩ : ∃ rec : LoopState → Option Code → Loop, rec = fun st pe => { state := st, pending := pe, fn, tmps := a.tmps, params := ps, assign, body, defers := w.heap.size } := ⟨_, rfl⟩
  obtain ⟨W1, hW1⟩ : ∃ W1, (w.alloc (.deferred (some []))).alloc (.loop (rec .ready none)) = W1 := ⟨_, rfl⟩
  obtain ⟨hw1, hle1⟩ := hc.wk.imm (.deferred (some []))
  obtain ⟨h1, hh1⟩ : ∃ h1 : Hp, h1 = fun i => if i = w.heap.size then some (.deferred (some [])) else hh i := ⟨_, rfl⟩
  rw [← hh1] at hw1 hle1
  have hs1 : W1.heap.size = w.heap.size + 2 := by rw [← hW1]; simp
  have hold1 : ∀ i, i < (w.alloc (.deferred (some []))).heap.size → W1.heap[i]? = (w.alloc (.deferred (some []))).heap[i]? := fun i hi => by
    rw [← hW1, heap_alloc, if_neg (by omega)]
  have hw2 : WOK C h1 r (own []) W1 := hw1.beside (by rw [← hW1]; rfl) (by rw [← hW1]; rfl) (by rw [← hW1]; exact ⟨rfl, Nat.le_refl _⟩) (by rw [hs1]; simp) hold1
  have hL1 : W1.heap[w.heap.size + 1]? = some (.loop (rec .ready none)) := by
    rw [← hW1, heap_alloc, if_pos (by simp)]
  have hD0 : hh w.heap.size = none := by
    cases e : hh w.heap.size with
    | none => rfl
    | some o => have := hc.wk.hlt e; omega
  have hhL : h1 (w.heap.size + 1) = none := by
    rw [hh1]
    show (if w.heap.size + 1 = w.heap.size then _ else hh (w.heap.size + 1)) = none
    rw [if_neg (by omega)]
    cases e : hh (w.heap.size + 1) with
    | none => rfl
    | some o => have := hc.wk.hlt e; omega
  have hnoL : ∀ m, own [] m ≠ none → hblk (r m) ≠ some (w.heap.size + 1) := fun m hm e => by
    have := hc.wk.lt hm e; omega
  have hD1 : h1 w.heap.size = some (.deferred (some [])) := by rw [hh1]; exact if_pos rfl
  generalize hLL : w.heap.size + 1 = L at *
  have hCL : C.w0.heap.size ≤ L := by have := hc.wk.size; omega
  refine ⟨L, [{ target := .collected w.heap.size, args := #[] }], W1, { target := .fn (.func gf) lb, args := #[.func (.yield L) #[] #[]] }, W1, gf, #[.func (.yield L) #[] #[]] ++ lb, W1, ?_, ?_, fun _ _ => trivial, ?_, fun e => by simp [Wd] at e, ?_⟩
  · rw [← hW1, hrec, ← hLL]; exact run_enterLoop_outer _ _ _ _ _
  · simp only [resolve, hval]
    simp [go_sem]
  · have eg : ∀ args w, (callFunc gf args).run P w = .ok (.enter gf args) w := fun args w => run_callFunc hit.fn args w
    simp [invoke, go_sem, eg]
  · have hmen := look_men hfix
    obtain ⟨J, hJ⟩ : ∃ J : Lk → Hp → (Nat → Prop) → World → Prop, J = fun k h G W => ∃ r', (∀ m, m < np' → r' m = r m) ∧ WOK C h r' (own k) W ∧ W.heap[L]? = some (.loop (rec .ready none)) ∧ h L = none ∧ (∀ m, own k m ≠ none → hblk (r' m) ≠ some L) ∧ Hle h1 h ∧
        G = fun i => i = L ∨ ∃ m, own k m ≠ none ∧ hblk (r' m) = some i := ⟨_, rfl⟩
    have hrg : ∀ h r', Hle h1 h → (∀ m, m < np' → r' m = r m) → RegsOK h r' (look l) a := fun h r' hl hr t =>
      AVRep.rebind _ _ (fun m hm => hr m (hmen t m hm)) (AVRep.mono (hle1.trans hl) _ _ (hc.rg t))
    refine CallsIn.mono (hit.go L lb J h1 (fun i => i = L ∨ ∃ m, own [] m ≠ none ∧ hblk (r m) = some i) W1 (hcaps.mono hle1) hw2.gl ⟨?_, ?_, ?_, ?_⟩ ?_) ?_
    · intro k h G W hk
      rw [hJ] at hk
      obtain ⟨r', _, q, _⟩ := hk
      exact q.hi
    · intro k h G W hk i hi
      rw [hJ] at hk
      obtain ⟨r', e1, e2, e3, e4, e5, e6, rfl⟩ := hk
      rcases hi with rfl | ⟨m, hm, e⟩
      · exact ⟨(Array.getElem?_eq_some_iff.1 e3).1, e4⟩
      · exact ⟨e2.lt hm e, e2.ho m i hm e⟩
    · intro k h G W h' W' hk q
      rw [hJ] at hk ⊢
      obtain ⟨r', e1, e2, e3, e4, e5, e6, rfl⟩ := hk
      have hlt : L < W.heap.size := (Array.getElem?_eq_some_iff.1 e3).1
      refine ⟨r', e1, e2.rest q (fun m i hm e => .inr ⟨m, hm, e⟩) (Nat.le_trans hw2.size (Nat.le_refl _)), ?_, ?_, e5, e6.trans q.hg, rfl⟩
      · rcases q.old L hlt with g | ⟨_, g, _⟩
        · rw [g]; exact e3
        · exact absurd (.inl rfl) g
      · cases e : h' L with
        | none => rfl
        | some o =>
          rcases q.hn L (by rw [e]; simp) with g | g
          · exact absurd e4 g
          · exact absurd (.inl rfl) g.2
    · intro k h G W x vals hx hk hv
      rw [hJ] at hk
      obtain ⟨r', e1, e2, e3, e4, e5, e6, rfl⟩ := hk
      have hlen : x.length = ps.toList.length := hps k x hx
      have hvl : vals.length = x.length := by
        have : ∀ (ps : List PV) (vs : List Value), PReps h ps vs → vs.length = ps.length := by
          intro ps
          induction ps with
          | nil => intro vs k; cases vs with
            | nil => rfl
            | cons _ _ => exact k.elim
          | cons p ps ih => intro vs k; cases vs with
            | nil => exact k.elim
            | cons v vs => simp [ih vs k.2]
        exact this _ _ hv
      have hsz : vals.toArray.size = (rec .ready none).params.size := by
        rw [hrec]
        show vals.length = ps.size
        rw [hvl, hlen]; simp
      refine ⟨_, _, _, _, run_yield e3 hsz, roundIn_of_wpIn trivial ?_⟩
      rw [hrec]
      show assign.wpIn (Wd (some L)) 0 P _ { tmps := (ps.zip vals.toArray).foldl (fun t (p, v) => t.setIfInBounds p v) a.tmps, defers := [] } W
      have hzip : (ps.zip vals.toArray).foldl (fun t (p, v) => t.setIfInBounds p v) a.tmps = (ps.toList.zip vals).foldl (fun t (p, v) => t.setIfInBounds p v) a.tmps := by
        rw [← Array.foldl_toList, Array.toList_zip]
      rw [hzip]
      obtain ⟨f1, f2⟩ := foldl_zip_set (r := r') ps.toList x vals (look l) a.tmps hv hlen (fun p hp => by
        have := List.all_eq_true.1 hpN p hp
        rw [hc.sz]; simpa using this) (fun t => hrg h r' e6 e1 t)
      refine wpIn_mono (hround k x hx (some L) (fun e => by cases e) (Ctx.round h r' (own k) W np') h r' _ W ⟨rfl, rfl⟩ ⟨f2.trans hc.sz, trivial, f1, e2.enter⟩) ?_
      rintro e a1 w1 ⟨s1, h2, r2, q1, c1⟩
      cases e with
      | normal =>
        have hwk1 := e2.leave c1.wk (Nat.le_trans (Nat.le_of_eq hn.1) hnp')
        obtain ⟨g1, g2, g3⟩ := WOK.rec_left e5 c1.wk e3 e4
        have hd1 : a1.defers = [] := by
          have := c1.df
          cases hd : a1.defers with
          | nil => rfl
          | cons d ds => rw [hd] at this; cases this.1
        have hw3 := hwk1.putL (o := .loop { rec .ready none with state := .busy }) g3 g2 hCL
        have hLw : L < w1.heap.size := (Array.getElem?_eq_some_iff.1 g1).1
        have hLb : (w1.putObj L (.loop { rec .ready none with state := .busy })).heap[L]? = some (.loop { rec .ready none with state := .busy }) := World.putObj_heap_same hLw
        refine ⟨_, run_beginRound g1 (by rw [hrec]), ?_⟩
        refine wpIn_mono (q1 (some L) (fun e => by cases e) (Ctx.round h2 r2 s1.own _ np') h2 r2 a1 _ ⟨rfl, rfl⟩ ⟨c1.sz, by rw [hd1]; trivial, c1.rg, hw3.enter⟩) ?_
        rintro e a2 w2 ⟨s2, h3, r3, ⟨rfl, q2⟩, c2⟩
        have hwk2 := hw3.leave c2.wk (Nat.le_trans (Nat.le_of_eq hn.1) hnp')
        obtain ⟨k1, k2, k3⟩ := WOK.rec_left g3 c2.wk hLb g2
        obtain ⟨r4, q3, hwk3, q4⟩ := q2 C h3 r3 w2 (Nat.le_trans (Nat.le_of_eq hn.1) hnp') hwk2
        have k3' : ∀ m, own (k ++ [x]) m ≠ none → hblk (r4 m) ≠ some L := fun m hm e => by
          obtain ⟨m2, g1, g2⟩ := q4 m L hm e
          exact k3 m2 g1 g2
        have F2 : ∀ i, (Ctx.round h2 r2 s1.own (w1.putObj L (.loop { rec .ready none with state := .busy })) np').F i → W.heap.size ≤ i ∨ ∃ m, own k m ≠ none ∧ hblk (r' m) = some i := by
          rintro i ⟨m, hm, e⟩; exact c1.wk.fo m i hm e
        have sz1 : W.heap.size ≤ w1.heap.size := c1.wk.size
        have sz2 : w1.heap.size ≤ w2.heap.size := by have : (w1.putObj L _).heap.size ≤ w2.heap.size := c2.wk.size; rwa [size_putObj'] at this
        refine ⟨_, _, run_endRound none k1, rfl, h3, fun i => i = L ∨ ∃ m, own (k ++ [x]) m ≠ none ∧ hblk (r4 m) = some i, ?_, ?_⟩
        · rw [hJ]
          refine ⟨r4, fun m hm => ?_, hwk3.putL k3' k2 hCL, ?_, k2, k3', e6.trans (c1.wk.hg.trans c2.wk.hg), rfl⟩
          · rw [q3 m hm, c2.wk.kp m hm]
            show r2 m = r m
            rw [c1.wk.kp m hm]
            exact e1 m hm
          · rw [World.putObj_heap_same (Array.getElem?_eq_some_iff.1 k1).1, hrec]; rfl
        · refine ⟨c2.wk.os.trans c1.wk.os, c2.wk.tape.trans c1.wk.tape, c2.wk.output.trans c1.wk.output, by rw [size_putObj']; omega, fun i hi hg => ?_, c1.wk.hg.trans c2.wk.hg, fun i hi => ?_, fun i hi => ?_⟩
          · have hiL : i ≠ L := fun x => hg (.inl x)
            rw [putObj_other hiL, c2.wk.old i (by rw [show (Ctx.round h2 r2 s1.own (w1.putObj L (.loop { rec .ready none with state := .busy })) np').w0.heap.size = w1.heap.size from size_putObj' _ _ _]; omega) (fun x => by
              rcases F2 i x with g | g
              · omega
              · exact hg (.inr g))]
            show (w1.putObj L _).heap[i]? = _
            rw [putObj_other hiL]
            exact c1.wk.old i hi (fun x => hg (.inr x))
          · rcases c2.wk.hn i hi with g | g | g
            · rcases c1.wk.hn i g with g | g | g
              · exact .inl g
              · exact .inr (.inl g)
              · exact .inr (.inr (.inr g))
            · have g' : (w1.putObj L (.loop { rec .ready none with state := .busy })).heap.size ≤ i := g
              rw [size_putObj'] at g'
              exact .inr (.inl (by omega))
            · rcases F2 i g with g | g
              · exact .inr (.inl g)
              · exact .inr (.inr (.inr g))
          · rcases hi with rfl | ⟨m, hm, e⟩
            · exact .inl (.inl rfl)
            · obtain ⟨m2, g1, g2⟩ := q4 m i hm e
              rcases c2.wk.fo m2 i g1 g2 with g | g
              · have g' : (w1.putObj L (.loop { rec .ready none with state := .busy })).heap.size ≤ i := g
                rw [size_putObj'] at g'
                exact .inr (by omega)
              · rcases F2 i g with g | g
                · exact .inr g
                · exact .inl (.inr g)
      | _ => exact q1.elim
    · rw [hJ]
      exact ⟨r, fun _ _ => rfl, hw2, hL1, hhL, hnoL, .refl _, rfl⟩
    · rintro e W3 ⟨⟨v, rfl⟩, kf, h', G', hF, hk⟩
      rw [hJ] at hk
      obtain ⟨r', e1, e2, e3, e4, e5, e6, _⟩ := hk
      refine ⟨none, _, by have := run_endLoop (P := P) e3 (by rw [hrec]; simp); rw [hrec] at this; exact this, ?_⟩
      refine ⟨⟨look l, own kf⟩, h', r', hdone kf hF, hc.sz, ?_, fun t => hrg h' r' e6 e1 t, e2.putL e5 e4 hCL⟩
      refine ⟨hmar, ⟨w.heap.size, rfl, hc.wk.size, ?_, e6 _ _ hD1, marks_ne hD0 hc.df⟩, hc.df.mono (hle1.trans e6)⟩
      cases e : C.h0 w.heap.size with
      | none => rfl
      | some o => have := hc.wk.hg _ _ e; rw [hD0] at this; cases this
section
variable (P : Program) (l : Nat) (ok : Lk → List PV → Prop) (n0 : Nat) (J : Lk → Hp → (Nat → Prop) → World → Prop) (N : Nat)
structure CJR (k : Lk) (G : Nat → Prop) (h : Hp) (r : Nat → Value) (s : St) (a : Act) (w : World) : Prop where
  sz : a.tmps.size = N
  df : a.defers = []
  rg : RegsOK h r s.regs a
  kj : ∃ C : Ctx, WOK C h r s.own w ∧ J k C.h0 G C.w0 ∧ n0 ≤ C.w0.heap.size ∧ (∀ i, C.F i → n0 ≤ i ∧ ¬ G i ∧ C.h0 i = none) ∧ C.np = 0 ∧ C.mar = false
def AJR (c : Code) (Q : Exit → Lk → St → Prop) (k : Lk) (s : St) : Prop :=
  ∀ (h : Hp) (r : Nat → Value) (a : Act) (w : World) (G : Nat → Prop), CJR n0 J N k G h r s a w →
    c.wpIn (Wd none) 0 P (fun e a' w' => ∃ k' s' h' r' G', Q e k' s' ∧ CJR n0 J N k' G' h' r' s' a' w') a w
def RJR (Q : Exit → Lk → St → Prop) (ops : Array Oper) (os : List Oper) (i : Nat) (k : Lk) (s : St) : Prop := ops.toList.drop i = os →
  ∀ (h : Hp) (r : Nat → Value) (a : Act) (w : World) (G : Nat → Prop), CJR n0 J N k G h r s a w →
    wpOpsIn (Wd none) 0 P ops (fun e a' w' => ∃ k' s' h' r' G', Q e k' s' ∧ CJR n0 J N k' G' h' r' s' a' w') (List.range' i os.length) a w
end
def JThenR (K : Lk → St → Prop) (Q : Exit → Lk → St → Prop) : Exit → Lk → St → Prop
  | .normal, k, s => K k s
  | e, k, s => Q e k s
def JInR (id : Nat) (Q : Exit → Lk → St → Prop) : Exit → Lk → St → Prop
  | .exit id', k, s => bif Nat.beq id' id then Q .normal k s else Q (.exit id') k s
  | e, k, s => Q e k s
section
variable {P : Program} {l : Nat} {ok : Lk → List PV → Prop} {n0 : Nat} {J : Lk → Hp → (Nat → Prop) → World → Prop} {N : Nat} (hK : KeepsR P l ok n0 J)
variable {Q : Exit → Lk → St → Prop} {k : Lk} {s : St}
include hK in
theorem CJR.now {G : Nat → Prop} {h : Hp} {r : Nat → Value} {a : Act} {w : World} (c : CJR n0 J N k G h r s a w) : J k h G w := by
  obtain ⟨C, hw, hj, hs, hF, _⟩ := c.kj
  have hg := hK.g _ _ _ _ hj
  refine hK.rest _ _ _ _ _ _ hj ⟨hw.os, hw.tape, hw.output, hw.size, fun i hi => ?_, hw.hi, hw.hg, fun i hi => ?_⟩
  · by_cases e : C.F i
    · exact .inr (hF i e)
    · exact .inl (hw.old i hi e)
  · rcases hw.hn i hi with g | g | g
    · exact .inl g
    · exact .inr ⟨Nat.le_trans hs g, fun x => by have := (hg i x).1; omega⟩
    · exact .inr ⟨(hF i g).1, (hF i g).2.1⟩
include hK in
theorem CJR.notG {G : Nat → Prop} {h : Hp} {r : Nat → Value} {a : Act} {w : World} (c : CJR n0 J N k G h r s a w) {m i : Nat} (hm : s.own m ≠ none) (e : hblk (r m) = some i) : n0 ≤ i ∧ ¬ G i ∧ i < w.heap.size ∧ h i = none := by
  obtain ⟨C, hw, hj, hs, hF, _⟩ := c.kj
  refine ⟨?_, ?_, hw.lt hm e, hw.ho m i hm e⟩
  · rcases hw.fo m i hm e with g | g
    · exact Nat.le_trans hs g
    · exact (hF i g).1
  · rcases hw.fo m i hm e with g | g
    · exact fun x => by have := (hK.g _ _ _ _ hj i x).1; omega
    · exact (hF i g).2.1
theorem AJR_lift {c : Code} (h : AWp P true N 0 c (fun e s' => Q e k s') s) : AJR P n0 J N c Q k s := by
  intro hh r a w G hc
  obtain ⟨C, hw, hj, hs, hF, hn, hm⟩ := hc.kj
  refine wpIn_mono (h none (fun _ => rfl) C hh r a w ⟨hn, hm⟩ ⟨hc.sz, by rw [hc.df]; trivial, hc.rg, hw⟩) ?_
  rintro e a' w' ⟨s', h', r', q, c'⟩
  refine ⟨k, s', h', r', G, q, c'.sz, ?_, c'.rg, C, c'.wk, hj, hs, hF, hn, hm⟩
  have := c'.df
  cases hd : a'.defers with
  | nil => rfl
  | cons d ds => rw [hd] at this; have h1 := this.1; rw [hm] at h1; cases h1
theorem AJR_region (hP : P.follows .mixedOrders = true) {id : Nat} {ops : Array Oper} {draw : Bool} (h : RK P N 0 ops draw ops.toList (kill (allocs ops.toList) s) [] (Q .normal k)) : AJR P n0 J N (.region id ops draw) Q k s :=
  AJR_lift (AWp_region hP h)
theorem AJR_seq {x y : Code} (h : AJR P n0 J N x (JThenR (AJR P n0 J N y Q) Q) k s) : AJR P n0 J N (.seq x y) Q k s := by
  intro hh r a w G hc
  refine wpIn_seq (wpIn_mono (h hh r a w G hc) ?_)
  rintro e a' w' ⟨k', s', h', r', G', q, c⟩
  cases e with
  | normal => exact q h' r' a' w' G' c
  | _ => exact ⟨k', s', h', r', G', q, c⟩
theorem AJR_skip (h : Q .normal k s) : AJR P n0 J N .skip Q k s := fun hh r _ _ G hc => wpIn_skip ⟨k, s, hh, r, G, h, hc⟩
theorem AJR_exit {id : Nat} (h : Q (.exit id) k s) : AJR P n0 J N (.exit id) Q k s := fun hh r _ _ G hc => wpIn_exit ⟨k, s, hh, r, G, h, hc⟩
theorem AJR_block {id : Nat} {c : Code} (h : AJR P n0 J N c (JInR id Q) k s) : AJR P n0 J N (.block id c) Q k s := by
  intro hh r a w G hc
  refine wpIn_block (wpIn_mono (h hh r a w G hc) ?_)
  rintro e a' w' ⟨k', s', h', r', G', q, c⟩
  cases e with
  | exit id' =>
    simp only [Exit.inBlock]
    simp only [JInR] at q
    by_cases hid : id' = id
    · subst hid
      rw [if_pos rfl]
      have : Nat.beq id' id' = true := by simp
      rw [this] at q
      exact ⟨k', s', h', r', G', q, c⟩
    · rw [if_neg hid]
      have : Nat.beq id' id = false := by
        cases e : Nat.beq id' id with
        | false => rfl
        | true => exact absurd (Nat.eq_of_beq_eq_true e) hid
      rw [this] at q
      exact ⟨k', s', h', r', G', q, c⟩
  | _ => exact ⟨k', s', h', r', G', q, c⟩
theorem CJR.bool {G : Nat → Prop} {h : Hp} {r : Nat → Value} {a : Act} {w : World} (hc : CJR n0 J N k G h r s a w) {c : Operand} {b : Bool} (he : ev s.regs c = .p (.c (.v (.bool b)))) : a.eval c = .bool b := by
  have := rep_ev hc.rg c
  rw [he] at this
  simp only [AVRep, PRep, DRep] at this
  exact this.1
theorem AJR_cond {c : Operand} {x y : Code} {b : Bool} (he : ev s.regs c = .p (.c (.v (.bool b)))) (ht : b = true → AJR P n0 J N x Q k s) (hf : b = false → AJR P n0 J N y Q k s) : AJR P n0 J N (.cond c x y) Q k s := by
  intro hh r a w G hc
  have hb := hc.bool he
  cases b with
  | true => exact wpIn_cond_true hb (ht rfl hh r a w G hc)
  | false => exact wpIn_cond_false hb (hf rfl hh r a w G hc)
theorem AJR_cond_true {c : Operand} {x y : Code} {b : Bool} (he : ev s.regs c = .p (.c (.v (.bool b)))) (hb : b = true) (ht : AJR P n0 J N x Q k s) : AJR P n0 J N (.cond c x y) Q k s :=
  AJR_cond he (fun _ => ht) (fun h => by rw [hb] at h; cases h)
theorem AJR_cond_false {c : Operand} {x y : Code} {b : Bool} (he : ev s.regs c = .p (.c (.v (.bool b)))) (hb : b = false) (hf : AJR P n0 J N y Q k s) : AJR P n0 J N (.cond c x y) Q k s :=
  AJR_cond he (fun h => by rw [hb] at h; cases h) (fun _ => hf)
theorem CJR.le {t : St} (q : Le s t) {G : Nat → Prop} {h : Hp} {r : Nat → Value} {a : Act} {w : World} (c : CJR n0 J N k G h r s a w) : CJR n0 J N k G h r t a w := by
  obtain ⟨C, hw, rest⟩ := c.kj
  exact ⟨c.sz, c.df, fun i => q.regs i h r _ (c.rg i), C, hw.forget q.own, rest⟩
theorem AJR_loop {ι : Type} {c : Code} (I : ι → St) (κ : ι → Lk) (F : ι → Prop) (μ : ι → Nat) (i₀ : ι) (h₀ : F i₀) (hk : κ i₀ = k) (hs : Le s (I i₀))
    (round : ∀ i, F i → AJR P n0 J N c (JThenR (fun k' s' => ∃ j, F j ∧ μ j < μ i ∧ κ j = k' ∧ Le s' (I j)) Q) (κ i) (I i)) : AJR P n0 J N (.loop c) Q k s := by
  intro hh r a w G hc b kk cs hro hfn hroom
  have key : ∀ n i h r a w G, μ i = n → F i → CJR n0 J N (κ i) G h r (I i) a w →
      ∃ e a' w', (∃ k' s' h' r' G', Q e k' s' ∧ CJR n0 J N k' G' h' r' s' a' w') ∧ ArrivesIn (Machine.fenced P (Wd none)) P (lone (b.atR a (.code c :: .inLoop c :: kk)) cs w) b kk cs e a' w' := by
    intro n
    induction n using Nat.strongRecOn with
    | _ n ih =>
      intro i h r a w G hμ hF hc
      obtain ⟨e, a₁, w₁, ⟨k₁, s₁, h₁, r₁, G₁, hq, hc₁⟩, harr⟩ := round i hF h r a w G hc b (.inLoop c :: kk) cs hro hfn hroom
      cases e with
      | normal =>
        obtain ⟨j, hFj, hlt, hκ, hle⟩ := hq
        subst hκ
        obtain ⟨e₂, a₂, w₂, hq₂, harr₂⟩ := ih (μ j) (hμ ▸ hlt) j h₁ r₁ a₁ w₁ G₁ rfl hFj (hc₁.le hle)
        exact ⟨e₂, a₂, w₂, hq₂, .of_steps (StepsIn.trans harr (.one (fenced_calm hfn hroom rfl) stepR_inLoop)) harr₂⟩
      | exit id => exact ⟨_, a₁, w₁, ⟨k₁, s₁, h₁, r₁, G₁, hq, hc₁⟩, .pass (x := .inLoop c) rfl (fun _ _ => .inl (by simp)) harr⟩
      | goto l => exact ⟨_, a₁, w₁, ⟨k₁, s₁, h₁, r₁, G₁, hq, hc₁⟩, .pass (x := .inLoop c) rfl (fun _ _ => .inl (by simp)) harr⟩
      | ret => exact ⟨_, a₁, w₁, ⟨k₁, s₁, h₁, r₁, G₁, hq, hc₁⟩, .pass (x := .inLoop c) rfl (fun _ _ => .inl (by simp)) harr⟩
      | panic ch => exact ⟨_, a₁, w₁, ⟨k₁, s₁, h₁, r₁, G₁, hq, hc₁⟩, .pass (x := .inLoop c) rfl (fun _ _ => .inl (by simp)) harr⟩
      | outgrown => exact ⟨_, a₁, w₁, ⟨k₁, s₁, h₁, r₁, G₁, hq, hc₁⟩, .pass (x := .inLoop c) rfl (fun _ _ => .inl (by simp)) harr⟩
  subst hk
  obtain ⟨e, a', w', hq, harr⟩ := key _ i₀ hh r a w G rfl h₀ (hc.le hs)
  exact ⟨e, a', w', hq, .of_steps (.one (fenced_calm hfn hroom rfl) stepR_loop) harr⟩
section rj
variable {ops : Array Oper} {os : List Oper} {i : Nat} {op : Op} {ty : TypeId} {pos : String} {af : Array Edge} {gd : Option (Nat × Bool)} {t : Nat}
theorem AJR_regionY {id : Nat} (h : RJR P n0 J N Q ops ops.toList 0 k s) : AJR P n0 J N (.region id ops false) Q k s := by
  intro hh r a w G hc
  apply wpIn_region
  rw [List.range_eq_range']
  exact h rfl hh r a w G hc
theorem RJR.done (h : Q .normal k s) : RJR P n0 J N Q ops [] i k s := fun _ hh r _ _ G hc => ⟨k, s, hh, r, G, h, hc⟩
theorem CJR.put {G : Nat → Prop} {h h' : Hp} {r r' : Nat → Value} {a : Act} {w w' : World} {C : Ctx} {v : AV} {x : Value} (hc : CJR n0 J N k G h r s a w) (hle : Hle h h') (hr : ∀ m, r' m = r m) (ht : t < N) (hv : AVRep h' r' v x)
    (q : WOK C h' r' s.own w') (hj : J k C.h0 G C.w0) (hs : n0 ≤ C.w0.heap.size) (hF : ∀ i, C.F i → n0 ≤ i ∧ ¬ G i ∧ C.h0 i = none) (hn : C.np = 0) (hm : C.mar = false) : CJR n0 J N k G h' r' ⟨upd s.regs t v, s.own⟩ (a.put (some t) x) w' :=
  ⟨by simp [Act.put, hc.sz], by simpa [Act.put] using hc.df, (show RegsOK h' r' s.regs a from fun u => AVRep.rebind _ _ (fun m _ => hr m) (AVRep.mono hle _ _ (hc.rg u))).put (dst := some t) (fun d e => by cases e; rw [hc.sz]; exact ht) hv, C, q, hj, hs, hF, hn, hm⟩
/-- an operation that yields a value -/
theorem RJR.val {v : AV} {rd : List Nat} (hg : Guards ops ⟨some t, op, ty, pos, af, gd⟩ s.regs true) (he : Eff P ⟨some t, op, ty, pos, af, gd⟩ t (ev s.regs) s.own v [] none rd)
    (hr : RJR P n0 J N Q ops os (i + 1) k ⟨upd s.regs t v, s.own⟩) (hN : (Nat.blt t N && noDefer ⟨some t, op, ty, pos, af, gd⟩) = true := by rfl) : RJR P n0 J N Q ops (⟨some t, op, ty, pos, af, gd⟩ :: os) i k s := by
  intro hd hh r a w G hc
  obtain ⟨h1, h2⟩ := drop_next hd
  rw [Bool.and_eq_true, Nat.blt_eq] at hN
  rw [List.length_cons, List.range'_succ, wpOpsIn_cons]
  unfold wpOpIn
  simp only [h1]
  rw [guards_wanted hc.rg hg, if_pos rfl]
  obtain ⟨C, hw, hj, hs, hF, hn, hm⟩ := hc.kj
  refine wpIn_of_wp (noDefer_ne hN.2) ?_
  refine he C hh r s.own a w _ _ (fun x _ => rep_ev hc.rg x) (fun _ _ => rfl) hw (fun e => absurd rfl e) ?_
  intro x h' r' w' hle hrr hv hw'
  exact ⟨hr h2 h' r' _ w' G (hc.put hle (fun m => hrr m (fun e => absurd rfl e)) hN.1 hv hw' hj hs hF hn hm), rfl⟩
/-- yield is called: a round -/
theorem RJR.yield (hK : KeepsR P l ok n0 J) {c : Operand} {args : Array Operand} {tys : Array TypeId} {x : List PV} (hg : Guards ops ⟨some t, .call ⟨.value c, args, tys⟩, ty, pos, af, gd⟩ s.regs true)
    (hy : ev s.regs c = .p (.c (.v (.func (.yield l) #[] #[])))) (ha : args.toList.map (ev s.regs) = x.map .p) (hx : ok k x)
    (hr : RJR P n0 J N Q ops os (i + 1) (k ++ [x]) ⟨upd s.regs t (.p (.c (.v (.bool true)))), s.own⟩) (hN : Nat.blt t N = true := by rfl) : RJR P n0 J N Q ops (⟨some t, .call ⟨.value c, args, tys⟩, ty, pos, af, gd⟩ :: os) i k s := by
  intro hd hh r a w G hc
  obtain ⟨h1, h2⟩ := drop_next hd
  rw [Nat.blt_eq] at hN
  rw [List.length_cons, List.range'_succ, wpOpsIn_cons]
  unfold wpOpIn
  simp only [h1]
  rw [guards_wanted hc.rg hg, if_pos rfl]
  have hyv : a.eval c = .func (.yield l) #[] #[] := by
    have := rep_ev hc.rg c
    rw [hy] at this
    simp only [AVRep, PRep, DRep] at this
    exact this.1
  have hra : RepArgs hh r (x.map .p) (args.map a.eval).toList := by
    rw [← ha, Array.toList_map]
    exact repArgs_map _ fun x _ => rep_ev hc.rg x
  obtain ⟨fn, tmps, assign, body, hrun, hR⟩ := hK.give k hh G w x _ hx (hc.now hK) (repArgs_ps hra)
  refine ⟨fun _ _ => trivial, ?_⟩
  rw [Oper.semAt_eq _ _ _ (fun c' e => by cases e)]
  have hex : (execOp a.eval ⟨some t, .call ⟨.value c, args, tys⟩, ty, pos, af, gd⟩).run P w = .ok (.round l fn tmps assign body) w := by
    simp only [execOp, resolve, Sem.run_bind, hyv, Deferred.ofValue, Sem.run_pure, Result.andThen_ok, invoke, Array.empty_append]
    have e : (args.map a.eval).toList.toArray = args.map a.eval := Array.toArray_toList
    rw [← e]; exact hrun
  rw [hex]
  refine ⟨fun e => by simp [Wd] at e, RoundIn.mono hR ?_⟩
  rintro e w' ⟨rfl, h', G', hj, q⟩
  have hC := hc.kj
  obtain ⟨C, hw, hj0, hs, hF, hn, hm⟩ := hC
  have same : ∀ m i, s.own m ≠ none → hblk (r m) = some i → w'.heap[i]? = w.heap[i]? := fun m i hm e => by
    have := hc.notG hK hm e
    exact q.old i this.2.2.1 this.2.1
  have hw' : WOK ⟨w', h', fun i => ∃ m, s.own m ≠ none ∧ hblk (r m) = some i, r, 0, false⟩ h' r s.own w' := by
    refine ⟨fun m b e => ((hw.ow m b e).mono q.hg).world fun i hi => same m i (by rw [e]; simp) hi, hw.inj, hK.hi _ _ _ _ hj, fun m i hm e => ?_, rfl, rfl, .refl _, Nat.le_refl _, fun _ _ _ => rfl, fun m i hm e => .inr ⟨m, hm, e⟩, .refl _, fun _ e => .inl e, hw.gl.mono q.hg, fun _ _ => rfl, fun m b j e hj' => ?_⟩
    · have hg := hc.notG hK hm e
      cases hh' : h' i with
      | none => rfl
      | some o =>
        rcases q.hn i (by rw [hh']; simp) with g | g | g
        · exact absurd hg.2.2.2 g
        · omega
        · exact absurd g hg.2.1
    · obtain ⟨q1, t', e1, e2⟩ := hw.lk m b j e hj'
      exact ⟨q1, t', e1, by rw [same m q1 (by rw [e]; simp) (by rw [e1]; rfl)]; exact e2⟩
  have n1 : n0 ≤ w'.heap.size := Nat.le_trans (Nat.le_trans hs hw.size) q.size
  refine hr h2 h' r _ w' G' ⟨by simp [Act.put, hc.sz], by simpa [Act.put] using hc.df, (show RegsOK h' r s.regs a from fun u => AVRep.mono q.hg _ _ (hc.rg u)).put (dst := some t) (v := .p (.c (.v (.bool true)))) (x := .bool true) (fun d e => by cases e; rw [hc.sz]; exact hN) ⟨rfl, rfl⟩, _, hw', hj, n1, ?_, rfl, rfl⟩
  rintro i ⟨m, hm, e⟩
  have hg := hc.notG hK hm e
  refine ⟨hg.1, fun x => ?_, ?_⟩
  · rcases q.gg i x with g | g
    · exact hg.2.1 g
    · omega
  · exact hw'.ho m i hm e
end rj
end
/-- A function that is ranged over, from its code. -/
theorem iterR_of {P : Program} {f : FuncId} {fn : Func} {c : Code} {N : Nat} {caps : List (List DV)} {ok : Lk → List PV → Prop} {Fin : Lk → Prop} (hf : P.funcs[f]? = some fn) (hnm : (fn.name == "runtime.NumGoroutine") = false) (hb : fn.body = some c) (hN : fn.ntmps = N) (hna : caps.length + 1 ≤ N) (hres : fn.results = #[])
    (h : ∀ l n0 J, KeepsR P l ok n0 J → AJR P n0 J N c (fun e k _ => (e = .normal ∨ e = .ret) ∧ Fin k) [] ⟨fun t => ((.p (.c (.v (.func (.yield l) #[] #[]))) :: caps.map .ip : List AV)).getD t .junk, O⟩) : IterR P f caps ok Fin := by
  refine ⟨⟨fn, hf, hnm, by rw [hb]; rfl⟩, ?_⟩
  intro l lb J hh G W hcaps hgl hK h0
  refine callsIn_of_wp hf hb trivial ?_
  have hcl : ∀ (cs : List (List DV)) (xs : List Value), CapsRep hh cs xs → xs.length = cs.length := by
    intro cs
    induction cs with
    | nil => intro xs k; cases xs with
      | nil => rfl
      | cons _ _ => exact k.elim
    | cons p ps ih => intro xs k; cases xs with
      | nil => exact k.elim
      | cons x xs => simp [ih xs k.2]
  have hlen : lb.size = caps.length := by simpa using hcl _ _ hcaps
  have hget : ∀ (cs : List (List DV)) (xs : List Value), CapsRep hh cs xs → ∀ (t : Nat) (x : List DV), cs[t]? = some x → ∃ y, xs[t]? = some y ∧ IpRep hh x y := by
    intro cs
    induction cs with
    | nil => intro xs _ t x h; simp at h
    | cons p ps ih => intro xs h t x hx; cases xs with
      | nil => exact h.elim
      | cons y ys => cases t with
        | zero => simp at hx; subst hx; exact ⟨y, rfl, h.1⟩
        | succ t => exact ih ys h.2 t x (by simpa using hx)
  refine wpIn_mono (h l W.heap.size J hK hh (fun _ => .bool false) _ W G ⟨?_, rfl, ?_, (⟨W, hh, fun _ => False, fun _ => .bool false, 0, false⟩ : Ctx), ?_, h0, Nat.le_refl _, fun _ e => e.elim, rfl, rfl⟩) ?_
  · simp [hN, hlen]; omega
  · intro t
    show AVRep hh _ (((.p (.c (.v (.func (.yield l) #[] #[]))) :: caps.map .ip : List AV)).getD t .junk) _
    rw [List.getD_eq_getElem?_getD]
    cases t with
    | zero =>
      simp only [List.getElem?_cons_zero, Option.getD_some]
      have e0 : (#[.func (.yield l) #[] #[]] ++ lb ++ Array.replicate (fn.ntmps - (#[.func (.yield l) #[] #[]] ++ lb : Array Value).size) undef : Array Value).getD 0 undef = .func (.yield l) #[] #[] := by
        rw [Array.getD_eq_getD_getElem?, Array.getElem?_append_left (by simp; omega), Array.getElem?_append_left (by simp)]; rfl
      show AVRep hh _ (.p (.c (.v (.func (.yield l) #[] #[])))) (Array.getD _ 0 undef)
      rw [e0]
      simp only [AVRep, PRep, DRep, true_and]; rfl
    | succ t =>
      rw [List.getElem?_cons_succ, List.getElem?_map]
      cases ht : caps[t]? with
      | none => exact trivial
      | some x =>
        obtain ⟨y, g1, g2⟩ := hget _ _ hcaps t x ht
        have g1' : lb[t]? = some y := by rw [← Array.getElem?_toList]; exact g1
        have hlt : t < lb.size := (Array.getElem?_eq_some_iff.1 g1').1
        simp only [Option.map_some, Option.getD_some, Array.getD_eq_getD_getElem?]
        rw [Array.getElem?_append_left (by simp; omega), Array.getElem?_append_right (by simp)]
        simp only [List.size_toArray, List.length_cons, List.length_nil, Nat.zero_add, Nat.add_sub_cancel, g1', Option.getD_some]
        exact g2
  · exact ⟨fun m b e => (by cases e), fun m n k e => absurd rfl e, hK.hi _ _ _ _ h0, fun m k e => absurd rfl e, rfl, rfl, .refl _, Nat.le_refl _, fun _ _ _ => rfl, fun m k e => absurd rfl e, Hle.refl _, fun k e => Or.inl e, hgl, fun _ _ => rfl, fun m b j e => (by cases e)⟩
  · rintro e a' w' ⟨k', s', h', r', G', ⟨he, hF⟩, c'⟩
    have hr : (results fn a'.tmps).run P w' = .ok (.tuple #[]) w' := by rw [results_eq, hres]; simp
    have fin : ∀ e', (e' = Exit.normal ∨ e' = Exit.ret) → bodyPost P fn (fun e W' => (∃ v, e = .returned v) ∧ ∃ kf h' G', Fin kf ∧ J kf h' G' W') e' a' w' := by
      rintro e' (rfl | rfl) <;> exact ⟨c'.df, _, hr, ⟨_, rfl⟩, k', h', G', hF, c'.now hK⟩
    exact fin e he
end Go.AM
end

section
/- Calls that hand back a slice of which not all is known. -/
namespace Go.AM
open Go Go.RowKit
/-- the contract of a function that hands back one of several new slices -/
structure CallVE {ι : Type} (P : Program) (f : FuncId) (args : List AV) (F : ι → Prop) (b : ι → Blk) : Prop where
  fn : FnOK P f
  go : ∀ (h : Hp) (r : Nat → Value) (w : World) (cargs : Array Value), RepArgs h r args cargs.toList → Before h r O w →
    Calls P f cargs w fun e w' => ∃ i, F i ∧ ∃ v h', e = .returned v ∧ BlkRep h' w' v (b i) ∧ (∀ k, hblk v = some k → w.heap.size ≤ k ∧ h' k = none) ∧ After h r O w h' O w'
def EndsVE {ι : Type} (fn : Func) (F : ι → Prop) (b : ι → Blk) (e : Exit) (s : St) : Prop := (e = .normal ∨ e = .ret) ∧ ∃ i, F i ∧ ∃ t m, fn.results = #[.tmp t] ∧ s.regs t = .vec m ∧ s.own m = some (b i)
theorem callVE_of {ι : Type} {F : ι → Prop} {b : ι → Blk} {P : Program} {f : FuncId} {fn : Func} {c : Code} {N : Nat} {args : List AV} (hf : P.funcs[f]? = some fn) (hnm : (fn.name == "runtime.NumGoroutine") = false) (hb : fn.body = some c) (hN : fn.ntmps = N) (hna : args.length ≤ N)
    (h : AWp P false N 0 c (EndsVE fn F b) ⟨fun t => args.getD t .junk, O⟩) : CallVE P f args F b := by
  refine ⟨⟨fn, hf, hnm, by rw [hb]; rfl⟩, ?_⟩
  intro hh r w cargs hra hbf
  have hlen : cargs.size = args.length := by
    have : ∀ (aa : List AV) (xs : List Value), RepArgs hh r aa xs → xs.length = aa.length := by
      intro aa
      induction aa with
      | nil => intro xs h; cases xs with
        | nil => rfl
        | cons _ _ => exact h.elim
      | cons p ps ih => intro xs h; cases xs with
        | nil => exact h.elim
        | cons x xs => simp [ih xs h.2]
    simpa using this _ _ hra
  have hget : ∀ (aa : List AV) (xs : List Value), RepArgs hh r aa xs → ∀ (t : Nat) (x : AV), aa[t]? = some x → ∃ y, xs[t]? = some y ∧ AVRep hh r x y := by
    intro aa
    induction aa with
    | nil => intro xs _ t x h; simp at h
    | cons p ps ih => intro xs h t x hx; cases xs with
      | nil => exact h.elim
      | cons y ys => cases t with
        | zero => simp at hx; subst hx; exact ⟨y, rfl, h.1⟩
        | succ t => exact ih ys h.2 t x (by simpa using hx)
  refine callsW' (n := 0) (callsIn_of_wp_marks hf hb trivial ?_)
  let C : Ctx := ⟨w, hh, fun _ => False, r, 0, true⟩
  refine wpIn_mono (h none (fun _ => rfl) C hh r _ w ⟨rfl, rfl⟩ ⟨?_, trivial, ?_, ⟨hbf.ow, hbf.inj, hbf.hi, hbf.ho, rfl, rfl, .refl _, Nat.le_refl _, fun _ _ _ => rfl, fun m k hm => absurd rfl hm, .refl _, fun k hk => .inl hk, hbf.gl, fun _ _ => rfl, fun m c j hb => by cases hb⟩⟩) ?_
  · simp [hN]; omega
  · intro t
    show AVRep hh r (args.getD t .junk) _
    rw [List.getD_eq_getElem?_getD]
    cases ht : args[t]? with
    | none => exact trivial
    | some x =>
      obtain ⟨y, h1, h2⟩ := hget _ _ hra t x ht
      have h1' : cargs[t]? = some y := by rw [← Array.getElem?_toList]; exact h1
      have hlt : t < cargs.size := (Array.getElem?_eq_some_iff.1 h1').1
      simp only [Array.getD_eq_getD_getElem?, Array.getElem?_append_left hlt, h1', Option.getD_some]
      exact h2
  · rintro e a' w' ⟨s', h', r', ⟨he, i, hF, t, m, hres, hreg, hown⟩, hc⟩
    have fin : LeavesInM (Wd none) 0 P fn a'.tmps (fun e w' => ∃ i, F i ∧ ∃ v h', e = .returned v ∧ BlkRep h' w' v (b i) ∧ (∀ k, hblk v = some k → w.heap.size ≤ k ∧ h' k = none) ∧ After hh r O w h' O w') a'.defers .returning w' := by
      refine leave_marks hc ?_
      intro h' w' hc
      have hx : a'.tmps.getD t undef = r' m := by
        have := hc.rg t
        rw [hreg] at this; exact this
      have hv1 : (results fn a'.tmps).run P w' = .ok (r' m) w' := by
        rw [results_eq, hres]
        simp [resOne, hx]
      have hk := hc.wk
      have hlow : s'.own m ≠ none := by rw [hown]; simp
      refine ⟨r' m, hv1, i, hF, r' m, h', rfl, hk.ow m _ hown, fun k e => ⟨?_, hk.ho m k hlow e⟩, ?_⟩
      · rcases hk.fo m k hlow e with g | g
        · exact g
        · exact g.elim
      · refine ⟨fun m c e => (by cases e), fun m hm => absurd rfl hm, hk.hi, fun m k hm => absurd rfl hm, hk.os, hk.tape, hk.output, hk.size, fun k h1 _ => hk.old k h1 (fun x => x), hk.hg, fun k e => ?_⟩
        rcases hk.hn k e with g | g | g
        · exact .inl g
        · exact .inr (.inl g)
        · exact g.elim
    rcases he with rfl | rfl <;> exact fin
/-- a region that is such a call -/
theorem AWp_callVE {ι : Type} {F : ι → Prop} {b : ι → Blk} {P : Program} {B : Bool} {N np : Nat} {Q : Exit → St → Prop} {s : St} {f : FuncId} {id t0 t1 t2 t3 : Nat} {args : Array Operand} {tys : Array TypeId} {y1 y2 y3 : TypeId} {p1 p2 p3 : String} {a1 a2 a3 : Array Edge} {v0 : AV}
    (h0 : s.regs t0 = v0) (hc : CallVE P f (args.toList.map (ev (upd s.regs t1 v0))) F b) (hlk : ∀ i, lnk (b i) = []) (hd : s.own t2 = none) (hl : ∀ m c, s.own m = some c → lnk c = []) (hmen : ∀ t, t2 ∉ men (s.regs t)) (hN : (Nat.blt t1 N && Nat.blt t2 N && Nat.blt t3 N && Nat.ble np t2) = true)
    (h : ∀ i, F i → Q .normal ⟨upd (upd (upd s.regs t1 v0) t2 (.vec t2)) t3 (.vec t2), upd s.own t2 (some (b i))⟩) :
    AWp P B N np (.region id #[⟨some t1, .move (.tmp t0), y1, p1, a1, none⟩, ⟨some t2, .call ⟨.value (.func f), args, tys⟩, y2, p2, a2, none⟩, ⟨some t3, .assign (.tmp t2), y3, p3, a3, none⟩] false) Q s := by
  intro ro hB C hh r a w hnp hcc
  simp only [Bool.and_eq_true, Nat.blt_eq] at hN
  obtain ⟨⟨⟨n1, n2⟩, n3⟩, n4⟩ := hN
  have n4 := Nat.le_of_ble_eq_true n4
  have hs0 : a.tmps.size = N := hcc.sz
  have r0 := hcc.rg t0
  rw [h0] at r0
  apply wpIn_region
  show wpOpsIn (Wd ro) 0 P _ _ [0, 1, 2] a w
  rw [wpOpsIn_cons]
  refine wpOpIn_val (o := ⟨some t1, .move (.tmp t0), y1, p1, a1, none⟩) rfl rfl rfl (x := a.eval (.tmp t0)) (w' := w) (by simp only [execOp, Sem.run_pure]) ?_
  have rg1 : RegsOK hh r (upd s.regs t1 v0) (a.put (some t1) (a.eval (.tmp t0))) := (show RegsOK hh r s.regs a from hcc.rg).put (dst := some t1) (fun d' e => by cases e; omega) r0
  obtain ⟨A1, hA1⟩ : ∃ A1, A1 = a.put (some t1) (a.eval (.tmp t0)) := ⟨_, rfl⟩
  have hz1 : A1.tmps.size = N := by rw [hA1]; simp [Act.put]; exact hs0
  have hdf1 : A1.defers = a.defers := by rw [hA1]; rfl
  rw [← hA1] at rg1
  show wpOpsIn (Wd ro) 0 P _ _ [1, 2] (a.put (some t1) (a.eval (.tmp t0))) w
  rw [← hA1, wpOpsIn_cons]
  obtain ⟨o2, ho2⟩ : ∃ o2 : Oper, o2 = ⟨some t2, .call ⟨.value (.func f), args, tys⟩, y2, p2, a2, none⟩ := ⟨_, rfl⟩
  rw [← ho2]
  have g1 : (#[⟨some t1, .move (.tmp t0), y1, p1, a1, none⟩, o2, ⟨some t3, .assign (.tmp t2), y3, p3, a3, none⟩] : Array Oper)[1]? = some o2 := rfl
  have g2 : Region.wanted o2 (yielded (#[⟨some t1, .move (.tmp t0), y1, p1, a1, none⟩, o2, ⟨some t3, .assign (.tmp t2), y3, p3, a3, none⟩] : Array Oper) A1.tmps) = true := by rw [ho2]; rfl
  unfold wpOpIn
  simp only [g1]
  rw [g2, if_pos rfl]
  have g3 : noDefer o2 = true := by rw [ho2]; rfl
  refine wpIn_of_wp (noDefer_ne g3) ?_
  rw [ho2]
  unfold Oper.wp
  have hrun : (execOp A1.eval ⟨some t2, .call ⟨.value (.func f), args, tys⟩, y2, p2, a2, none⟩).run P w = .ok (.enter f (args.map A1.eval)) w := by
    simp only [execOp, resolve, Sem.run_bind, Act.eval, Deferred.ofValue, Sem.run_pure, Result.andThen_ok, invoke, Array.empty_append, Array.append_empty]
    exact run_callFunc hc.fn _ w
  rw [hrun]
  refine Calls.mono (hc.go hh r w (args.map A1.eval) ?_ (hcc.wk.before fun m hm => absurd rfl hm)) ?_
  · rw [Array.toList_map]
    exact repArgs_map _ fun x _ => rep_ev rg1 x
  · rintro e w' ⟨i, hF, v, h', rfl, hv, hfr, hq⟩
    refine ⟨?_, rfl⟩
    have hw' : WOK C h' r s.own w' := hcc.wk.after (fun m hm => absurd rfl hm) hq (fun m => by simp) (fun m b hm => absurd rfl hm)
    have live : ∀ m, m ≠ t2 → upd s.own t2 (some (b i)) m ≠ none → s.own m ≠ none := fun m h1 hm => by rwa [upd_ne _ _ _ _ h1] at hm
    have below : ∀ m k, s.own m ≠ none → hblk (r m) = some k → k < w.heap.size := fun m k hm hk => hcc.wk.lt hm hk
    have hW : WOK C h' (upd r t2 v) (upd s.own t2 (some (b i))) w' := by
      refine ⟨?_, ?_, hw'.hi, ?_, hw'.os, hw'.tape, hw'.output, hw'.size, hw'.old, ?_, hw'.hg, hw'.hn, hw'.gl, ?_, ?_⟩
      · intro m b' e
        by_cases h1 : m = t2
        · subst h1; rw [upd_same] at e ⊢; cases e; exact hv
        · rw [upd_ne _ _ _ _ h1] at e ⊢; exact hw'.ow m b' e
      · intro m n k hm hn e f'
        by_cases h1 : m = t2 <;> by_cases h2 : n = t2
        · rw [h1, h2]
        · subst h1; rw [upd_same] at e; rw [upd_ne _ _ _ _ h2] at f'
          have := below n k (live n h2 hn) f'; have := (hfr k e).1; omega
        · subst h2; rw [upd_same] at f'; rw [upd_ne _ _ _ _ h1] at e
          have := below m k (live m h1 hm) e; have := (hfr k f').1; omega
        · rw [upd_ne _ _ _ _ h1] at e; rw [upd_ne _ _ _ _ h2] at f'
          exact hw'.inj m n k (live m h1 hm) (live n h2 hn) e f'
      · intro m k hm e
        by_cases h1 : m = t2
        · subst h1; rw [upd_same] at e; exact (hfr k e).2
        · rw [upd_ne _ _ _ _ h1] at e; exact hw'.ho m k (live m h1 hm) e
      · intro m k hm e
        by_cases h1 : m = t2
        · subst h1; rw [upd_same] at e; exact .inl (Nat.le_trans hcc.wk.size (hfr k e).1)
        · rw [upd_ne _ _ _ _ h1] at e; exact hw'.fo m k (live m h1 hm) e
      · intro m hm
        have := hnp.1
        rw [upd_ne _ _ _ _ (by omega)]; exact hw'.kp m hm
      · intro m b' j e hj
        by_cases h1 : m = t2
        · subst h1; rw [upd_same] at e; cases e; rw [hlk i] at hj; cases hj
        · rw [upd_ne _ _ _ _ h1] at e; rw [hl m b' e] at hj; cases hj
    have hm1 : ∀ t, t2 ∉ men (upd s.regs t1 v0 t) := fun t => by
      by_cases e : t = t1
      · subst e; rw [upd_same, ← h0]; exact hmen t0
      · rw [upd_ne _ _ _ _ e]; exact hmen t
    have rg2 : RegsOK h' (upd r t2 v) (upd s.regs t1 v0) A1 := fun t => AVRep.rebind _ _ (fun m hm => upd_ne _ _ _ _ fun x => hm1 t (x ▸ hm)) (AVRep.mono hq.hg _ _ (rg1 t))
    have rg3 : RegsOK h' (upd r t2 v) (upd (upd s.regs t1 v0) t2 (.vec t2)) (A1.put (some t2) v) := rg2.put (dst := some t2) (fun d' e => by cases e; omega) (v := .vec t2) (x := v) (by show v = upd r t2 v t2; rw [upd_same])
    show wpOpsIn (Wd ro) 0 P _ _ [2] (A1.put (some t2) v) w'
    rw [wpOpsIn_cons]
    have v2 : (A1.put (some t2) v).eval (.tmp t2) = v := by simp [Act.put, Act.eval, hz1, n2]
    refine wpOpIn_val (o := ⟨some t3, .assign (.tmp t2), y3, p3, a3, none⟩) rfl rfl rfl (x := v) (w' := w') (by simp only [execOp, v2, Sem.run_pure]) ?_
    show ∃ s' h' r', Q .normal s' ∧ Conc C N h' r' s' _ _
    refine ⟨_, h', upd r t2 v, h i hF, ?_, ?_, ?_, hW⟩
    · simp [Act.put]; exact hz1
    · show Marks C h' A1.defers
      rw [hdf1]; exact hcc.df.mono hq.hg
    · exact rg3.put (dst := some t3) (fun d' e => by cases e; simp [Act.put]; omega) (v := .vec t2) (x := v) (by show v = upd r t2 v t2; rw [upd_same])
end Go.AM
end

section
/- The keys of a map, handed over in an order of which nothing is known. -/
namespace Go.AM
open Go Go.RowKit Go.MapKept
def EndsA (fn : Func) (res : AV) (e : Exit) (s : St) : Prop := (e = .normal ∨ e = .ret) ∧ ∃ t, fn.results = #[.tmp t] ∧ s.regs t = res
theorem callA_of {P : Program} {f : FuncId} {fn : Func} {c : Code} {N : Nat} {args : List AV} {res : AV} (hf : P.funcs[f]? = some fn) (hnm : (fn.name == "runtime.NumGoroutine") = false) (hb : fn.body = some c) (hN : fn.ntmps = N) (hna : args.length ≤ N)
    (hres : men res = []) (h : AWp P false N 0 c (EndsA fn res) ⟨fun t => args.getD t .junk, O⟩) : Call0 P f args res := by
  refine ⟨⟨fn, hf, hnm, by rw [hb]; rfl⟩, ?_⟩
  intro hh r w cargs hra hbf
  have hlen : cargs.size = args.length := by
    have : ∀ (aa : List AV) (xs : List Value), RepArgs hh r aa xs → xs.length = aa.length := by
      intro aa
      induction aa with
      | nil => intro xs h; cases xs with
        | nil => rfl
        | cons _ _ => exact h.elim
      | cons p ps ih => intro xs h; cases xs with
        | nil => exact h.elim
        | cons x xs => simp [ih xs h.2]
    simpa using this _ _ hra
  have hget : ∀ (aa : List AV) (xs : List Value), RepArgs hh r aa xs → ∀ (t : Nat) (x : AV), aa[t]? = some x → ∃ y, xs[t]? = some y ∧ AVRep hh r x y := by
    intro aa
    induction aa with
    | nil => intro xs _ t x h; simp at h
    | cons p ps ih => intro xs h t x hx; cases xs with
      | nil => exact h.elim
      | cons y ys => cases t with
        | zero => simp at hx; subst hx; exact ⟨y, rfl, h.1⟩
        | succ t => exact ih ys h.2 t x (by simpa using hx)
  refine callsW' (n := 0) (callsIn_of_wp_marks hf hb trivial ?_)
  let C : Ctx := ⟨w, hh, fun _ => False, r, 0, true⟩
  refine wpIn_mono (h none (fun _ => rfl) C hh r _ w ⟨rfl, rfl⟩ ⟨?_, trivial, ?_, ⟨hbf.ow, hbf.inj, hbf.hi, hbf.ho, rfl, rfl, .refl _, Nat.le_refl _, fun _ _ _ => rfl, fun m k hm => absurd rfl hm, .refl _, fun k hk => .inl hk, hbf.gl, fun _ _ => rfl, fun m b j hb => by cases hb⟩⟩) ?_
  · simp [hN]; omega
  · intro t
    show AVRep hh r (args.getD t .junk) _
    rw [List.getD_eq_getElem?_getD]
    cases ht : args[t]? with
    | none => exact trivial
    | some x =>
      obtain ⟨y, h1, h2⟩ := hget _ _ hra t x ht
      have h1' : cargs[t]? = some y := by rw [← Array.getElem?_toList]; exact h1
      have hlt : t < cargs.size := (Array.getElem?_eq_some_iff.1 h1').1
      simp only [Array.getD_eq_getD_getElem?, Array.getElem?_append_left hlt, h1', Option.getD_some]
      exact h2
  · rintro e a' w' ⟨s', h', r', ⟨he, t, hrs, hreg⟩, hc⟩
    have fin : LeavesInM (Wd none) 0 P fn a'.tmps (fun e w' => ∃ v h', e = .returned v ∧ AVRep h' r res v ∧ After hh r O w h' O w') a'.defers .returning w' := by
      refine leave_marks hc ?_
      intro h' w' hc
      have hx := hc.rg t
      rw [hreg] at hx
      have hv1 : (results fn a'.tmps).run P w' = .ok (a'.tmps.getD t undef) w' := by
        rw [results_eq, hrs]
        simp [resOne]
      have hk := hc.wk
      refine ⟨_, hv1, _, h', rfl, AVRep.rebind _ _ (fun m hm => by rw [hres] at hm; simp at hm) hx, ?_⟩
      refine ⟨fun m b e => (by cases e), fun m hm => absurd rfl hm, hk.hi, fun m k hm => absurd rfl hm, hk.os, hk.tape, hk.output, hk.size, fun k h1 _ => hk.old k h1 (fun x => x), hk.hg, fun k e => ?_⟩
      rcases hk.hn k e with g | g | g
      · exact .inl g
      · exact .inr (.inl g)
      · exact g.elim
    rcases he with rfl | rfl <;> exact fin
def strOf : List PV → Str
  | [.c (.v (.string b))] => b.data.toList
  | _ => []
/-- the strings that have been handed over -/
def dek (k : Lk) : List Str := k.map strOf
abbrev pS (s : Str) : List PV := [.c (st s)]
theorem dek_snoc (k : Lk) (s : Str) : dek (k ++ [pS s]) = dek k ++ [s] := by
  unfold dek
  rw [List.map_append]
  rfl
def okKy (S : List Str) (k : Lk) (x : List PV) : Prop := ∃ s, x = pS s ∧ (dek k ++ [s]).Nodup ∧ ∀ t ∈ dek k ++ [s], t ∈ S
def finKy (S : List Str) (k : Lk) : Prop := (dek k).Perm S
theorem okKy_one {S : List Str} {k : Lk} {x : List PV} (h : okKy S k x) : x.length = 1 := by obtain ⟨s, rfl, _⟩ := h; rfl
theorem okKy_len {S : List Str} {k : Lk} {x : List PV} (h : okKy S k x) : (dek k).length ≤ S.length := by
  obtain ⟨s, _, h1, h2⟩ := h
  have := nodup_le (List.nodup_append.1 h1).1 (fun t ht => h2 t (by simp [ht]))
  exact this
/-- somewhere on the way -/
structure KyI (S L : List Str) (k : Lk) : Prop where
  pm : (dek k ++ L).Perm S
theorem KyI.start (S : List Str) : KyI S S [] := ⟨.refl _⟩
theorem KyI.next {S L L' : List Str} {k : Lk} {t : Str} (h : KyI S L k) (hp : L.Perm (t :: L')) : KyI S L' (k ++ [pS t]) := ⟨by
  rw [dek_snoc, List.append_assoc]
  exact (hp.symm.append_left (dek k)).trans h.pm⟩
theorem KyI.ok {S L L' : List Str} {k : Lk} {t : Str} (hn : S.Nodup) (h : KyI S L k) (hp : L.Perm (t :: L')) : okKy S k (pS t) := by
  have h1 := (h.next hp).pm
  rw [dek_snoc] at h1
  have h2 := h1.nodup_iff.2 hn
  exact ⟨t, rfl, (List.nodup_append.1 h2).1, fun x hx => h1.mem_iff.1 (List.mem_append_left _ hx)⟩
theorem KyI.fin {S L : List Str} {k : Lk} (h : KyI S L k) (hl : L = []) : finKy S k := by
  have := h.pm
  rw [hl, List.append_nil] at this
  exact this
theorem men_none {l : List (Nat × AV)} (h : menB 0 l = true) (t m : Nat) : m ∉ men (look l t) := fun q => absurd (look_men h t _ q) (Nat.not_lt_zero _)
theorem srtS_perm {a b : List Str} (h : a.Perm b) (hn : b.Nodup) : srtS a = srtS b :=
  srtS_uniq (srtS_srt (h.nodup_iff.2 hn)) (srtS_srt hn) fun x => by rw [srtS_mem, srtS_mem]; exact h.mem_iff
end Go.AM
end

section
/- A scope in which the run jumps back to its one label. -/
namespace Go.AM
open Go Go.RowKit
section scope
variable {F : Fence} {n : Nat} {P : Program} {Q : Exit → Act → World → Prop} {a : Act} {w : World} {b : Frame} {k : List Item} {cs : List Frame}
theorem stepR_scope' {c : Code} : step P (lone (b.atR a (.code (.scope c) :: k)) cs w) = .next (lone (b.atR a (.code c :: .inScope c :: k)) cs w) :=
  step_lone_go (by simp [stepG, stepG.exec, Frame.atR])
theorem stepR_inScope' {c : Code} : step P (lone (b.atR a (.inScope c :: k)) cs w) = .next (lone (b.atR a k) cs w) :=
  step_lone_go (by simp [stepG, stepG.exec, Frame.atR])
def jumpQ (l : Nat) (J : Act → World → Prop) (Q : Exit → Act → World → Prop) : Exit → Act → World → Prop
  | .goto l', a, w => l' = l ∧ J a w
  | e, a, w => Q e a w
theorem wpIn_scopeJ {c rest : Code} {ι : Type} (l : Nat) (hf : findLabel c l = some rest) (J : ι → Act → World → Prop) (μ : ι → Nat)
    (first : c.wpIn F n P (jumpQ l (fun a w => ∃ i, J i a w) Q) a w)
    (pass : ∀ i a w, J i a w → rest.wpIn F n P (jumpQ l (fun a' w' => ∃ j, J j a' w' ∧ μ j < μ i) Q) a w) : (Code.scope c).wpIn F n P Q a w := by
  intro b k cs hro hb hr
  have h0 : (lone (b.atR a (.code (.scope c) :: k)) cs w).fenced P F := fenced_calm hb hr rfl
  have hg : gotoIn l (.inScope c :: k) = some (.code rest :: .inScope c :: k) := by simp [gotoIn, hf]
  have hx : ∀ id', exitTo id' (.inScope c :: k) = exitTo id' k := fun id' => by simp [exitTo]
  have key : ∀ m i a w, μ i = m → J i a w → ∃ e a' w', Q e a' w' ∧ ArrivesIn (Machine.fenced P F) P (lone (b.atR a (.code rest :: .inScope c :: k)) cs w) b k cs e a' w' := by
    intro m
    induction m using Nat.strongRecOn with
    | _ m ih =>
      intro i a w hm hJ
      obtain ⟨e, a₁, w₁, hq, harr⟩ := pass i a w hJ b (.inScope c :: k) cs hro hb hr
      cases e with
      | normal => exact ⟨.normal, a₁, w₁, hq, StepsIn.trans harr (.one (fenced_calm hb hr rfl) stepR_inScope')⟩
      | exit id' => exact ⟨.exit id', a₁, w₁, hq, fun k' hk => harr.1 k' (by rw [hx]; exact hk), fun hr' hk => harr.2 hr' (by rw [hx]; exact hk)⟩
      | goto l' =>
        obtain ⟨rfl, j, hJ', hlt⟩ := hq
        obtain ⟨e₂, a₂, w₂, hq₂, harr₂⟩ := ih _ (hm ▸ hlt) j a₁ w₁ rfl hJ'
        exact ⟨e₂, a₂, w₂, hq₂, .of_steps (harr.1 _ hg) harr₂⟩
      | ret => exact ⟨_, a₁, w₁, hq, harr⟩
      | panic ch => exact ⟨_, a₁, w₁, hq, harr⟩
      | outgrown => exact ⟨_, a₁, w₁, hq, harr⟩
  obtain ⟨e, a₁, w₁, hq, harr⟩ := first b (.inScope c :: k) cs hro hb hr
  cases e with
  | normal => exact ⟨.normal, a₁, w₁, hq, .head h0 stepR_scope' (StepsIn.trans harr (.one (fenced_calm hb hr rfl) stepR_inScope'))⟩
  | exit id' => exact ⟨.exit id', a₁, w₁, hq, fun k' hk => .head h0 stepR_scope' (harr.1 k' (by rw [hx]; exact hk)),
      fun hr' hk => let ⟨k₁, h1, h2⟩ := harr.2 hr' (by rw [hx]; exact hk); ⟨k₁, h1, .head h0 stepR_scope' h2⟩⟩
  | goto l' =>
    obtain ⟨rfl, i, hJ'⟩ := hq
    obtain ⟨e₂, a₂, w₂, hq₂, harr₂⟩ := key _ i a₁ w₁ rfl hJ'
    exact ⟨e₂, a₂, w₂, hq₂, .of_steps (.head h0 stepR_scope' (harr.1 _ hg)) harr₂⟩
  | ret => exact ⟨_, a₁, w₁, hq, .of_steps (.one h0 stepR_scope') harr⟩
  | panic ch => exact ⟨_, a₁, w₁, hq, .of_steps (.one h0 stepR_scope') harr⟩
  | outgrown => exact ⟨_, a₁, w₁, hq, .of_steps (.one h0 stepR_scope') harr⟩
end scope
def QJ {ι : Type} (l : Nat) (I : ι → St) (F : ι → Prop) (μ : ι → Nat) (Q : Exit → St → Prop) (i : ι) : Exit → St → Prop
  | .goto l', s => l' = l ∧ ∃ j, F j ∧ μ j < μ i ∧ Le s (I j)
  | e, s => Q e s
variable {P : Program} {B : Bool} {N np : Nat} {Q : Exit → St → Prop} {s : St}
theorem AWp_goto {l : Nat} (h : Q (.goto l) s) : AWp P B N np (.goto l) Q s := fun _ _ _ hh r _ _ _ hc => wpIn_goto ⟨s, hh, r, h, hc⟩
/-- what stands ahead of the label; what stands behind it, from any state that may come there -/
theorem AWp_again {x rest : Code} {ι : Type} (l : Nat) (I : ι → St) (F : ι → Prop) (μ : ι → Nat) (hx : findLabel x l = none)
    (first : AWp P B N np x (fun e s' => e = .normal ∧ ∃ i, F i ∧ Le s' (I i)) s) (pass : ∀ i, F i → AWp P B N np rest (QJ l I F μ Q i) (I i)) :
    AWp P B N np (.scope (.seq x (.seq (.label l) rest))) Q s := by
  intro ro hB C hh r a w hn hc
  have hf : findLabel (.seq x (.seq (.label l) rest)) l = some (.seq .skip rest) := by
    simp [findLabel, hx]
  refine wpIn_scopeJ l hf (fun i a w => F i ∧ ∃ h' r', Conc C N h' r' (I i) a w) μ ?_ ?_
  · refine wpIn_seq (wpIn_mono (first ro hB C hh r a w hn hc) ?_)
    rintro e a' w' ⟨s', h', r', ⟨rfl, i, hF, hle⟩, hc'⟩
    refine wpIn_seq (wpIn_label ?_)
    have hc2 : Conc C N h' r' (I i) a' w' := ⟨hc'.sz, hc'.df, fun t => hle.regs t h' r' _ (hc'.rg t), hc'.wk.forget hle.own⟩
    refine wpIn_mono (pass i hF ro hB C h' r' a' w' hn hc2) ?_
    rintro e a2 w2 ⟨s2, h2, r2, q, hc3⟩
    cases e with
    | goto l' =>
      obtain ⟨rfl, j, hFj, _, hle2⟩ := q
      exact ⟨rfl, j, hFj, h2, r2, hc3.sz, hc3.df, fun t => hle2.regs t h2 r2 _ (hc3.rg t), hc3.wk.forget hle2.own⟩
    | _ => exact ⟨s2, h2, r2, q, hc3⟩
  · rintro i a' w' ⟨hF, h', r', hc2⟩
    refine wpIn_seq (wpIn_skip ?_)
    refine wpIn_mono (pass i hF ro hB C h' r' a' w' hn hc2) ?_
    rintro e a2 w2 ⟨s2, h2, r2, q, hc3⟩
    cases e with
    | goto l' =>
      obtain ⟨rfl, j, hFj, hlt, hle2⟩ := q
      exact ⟨rfl, j, ⟨hFj, h2, r2, hc3.sz, hc3.df, fun t => hle2.regs t h2 r2 _ (hc3.rg t), hc3.wk.forget hle2.own⟩, hlt⟩
    | _ => exact ⟨s2, h2, r2, q, hc3⟩
end Go.AM
end

section
/- slices.SortFunc over elements of one cell. -/
namespace Go.AM
open Go Go.RowKit
section
variable {β : Type} {dvB : β → DV}
/-- an element with the value that stands for it -/
def El1 (h : Hp) (dvB : β → DV) : Type := {x : Value × β // DRep h (dvB x.2) x.1}
def El1.enc {h : Hp} (x : El1 h dvB) : Value := x.1.1
def El1.ob {h : Hp} (x : El1 h dvB) : β := x.1.2
theorem one_len (b : β) : ([dvB b] : List DV).length = 1 := rfl
theorem flat1 : ∀ l : List β, l.flatMap (fun b => [dvB b]) = l.map dvB
  | [] => rfl
  | x :: l => by simp [List.flatMap_cons, flat1 l]
end
open Go.Proofs in
set_option maxHeartbeats 2000000 in
theorem sort_callM1 {P : Program} {ρ : Shelf.Ren} (L : SlLaysF.n6 P ρ) (L0 : SlLaysF0.n6 P ρ) {β : Type} {dvB : β → DV} (cb : β → β → Int) (hO : Sort.SWO (ltOf cb)) {g : Nat}
    (hc : ∀ x y : β, Call0 P g [.p (.c (dvB x)), .p (.c (dvB y))] (.p (.c (.v (.int .i64 (cb x y)))))) {m : Nat} {e : TypeId} {l l' : List β} (hp : l'.Perm l) (hs : l'.Pairwise fun x y => ¬ cb y x < 0)
    (ha : ∀ x ∈ l, ∀ y ∈ l, ¬ cb x y < 0 → ¬ cb y x < 0 → x = y) :
    CallM P (ρ.f 6) [.vec m, .p (.c (.v (.func (.func g) #[] #[])))] (upd O m (some (VB 1 e (fun b => [dvB b]) l))) (.t []) (upd O m (some (VB 1 e (fun b => [dvB b]) l'))) where
  fn := by
    obtain ⟨nm, hn, hf⟩ := L.f6
    exact ⟨_, hf, hn, rfl⟩
  go h r w cargs hrep hbef := by
    obtain ⟨cl⟩ := cargs
    match cl, hrep with
    | [a, b], hrep =>
    obtain ⟨ha1, hb1, _⟩ := hrep
    simp only [AVRep] at ha1
    have hb2 : b = .func (.func g) #[] #[] := rep_val hb1
    subst ha1 hb2
    have hB := hbef.ow m _ (upd_same _ _ _)
    have hself : upd O m (some (VB 1 e (fun b => [dvB b]) l)) m ≠ none := by rw [upd_same]; simp
    have hown' : ∀ q b, upd O m (some (VB 1 e (fun b => [dvB b]) l')) q = some b → q = m ∧ b = VB 1 e (fun b => [dvB b]) l' := fun q b hq => by
      by_cases hqm : q = m
      · subst hqm; rw [upd_same] at hq; cases hq; exact ⟨rfl, rfl⟩
      · rw [upd_ne _ _ _ _ hqm] at hq; cases hq
    have hdom : ∀ q, upd O m (some (VB 1 e (fun b => [dvB b]) l')) q ≠ none → upd O m (some (VB 1 e (fun b => [dvB b]) l)) q ≠ none := fun q hq => by
      by_cases hqm : q = m
      · subst hqm; exact hself
      · rw [upd_ne _ _ _ _ hqm] at hq; exact absurd rfl hq
    have hlenF : ∀ l : List β, (l.flatMap fun b => [dvB b]).length = l.length * 1 := fun l => flat_len one_len l
    by_cases hS : l = []
    · subst hS
      have hl' : l' = [] := List.Perm.eq_nil hp
      subst hl'
      have hB2 := hB
      rw [BlkRep.slE rfl Nat.zero_lt_one] at hB2
      obtain ⟨aa, n, cap, hr, hn, _⟩ := hB2
      have hn0 : n = 0 := by simpa using hn
      subst hn0
      rw [hr]
      refine (AnyF.slices_SortFunc_none L0 aa cap (.func (.func g) #[] #[]) w).mono ?_
      rintro e' w' ⟨rfl, rfl⟩
      refine ⟨_, h, rfl, ⟨[], rfl, trivial⟩, ⟨fun q b hq => ?_, hdom, hbef.hi, fun q i hq => hbef.ho q i (hdom q hq), rfl, rfl, .refl _, Nat.le_refl _, fun _ _ _ => rfl, .refl _, fun _ hq => .inl hq⟩⟩
      obtain ⟨rfl, rfl⟩ := hown' q b hq
      exact hB
    · obtain ⟨b, n, c, cc, cs, e0, e1, e2, e3, e4, e5, e6, e7, e8, e9, e10⟩ := vec_cells Nat.zero_lt_one (fun q => hS (flat_nil one_len Nat.zero_lt_one q)) hB
      rw [hlenF, Nat.mul_one] at e1 e7
      rw [Nat.mul_one] at e1 e6
      subst e1
      have hk0 : hblk (r m) = some b := by rw [e0]; simp only [hblk]; rw [if_neg (by omega)]
      have hhb : h b = none := hbef.ho m b hself hk0
      have hbw : b < w.heap.size := (Array.getElem?_eq_some_iff.1 e5).1
      rw [flat1] at e10
      have hget : ∀ j (hj : j < l.length), ∃ y, cc[j]? = some y ∧ DRep h (dvB l[j]) y := fun j hj => by
        obtain ⟨y, y1, y2⟩ := e10.get j (dvB l[j]) (by rw [List.getElem?_map, List.getElem?_eq_getElem hj]; rfl)
        exact ⟨y, e8 j _ y1, y2⟩
      have hlc : l.length ≤ cc.size := by omega
      let mk : Fin l.length → El1 h dvB := fun i => ⟨(cc[i.val]'(by omega), l[i.val]), by
        obtain ⟨y, y1, y2⟩ := hget i.val i.isLt
        rw [Array.getElem?_eq_getElem (by omega)] at y1
        cases y1; exact y2⟩
      let D : Array (El1 h dvB) := Array.ofFn mk
      have hDs : D.size = l.length := by simp [D]
      have hl0 : 0 < l.length := List.length_pos_iff.2 hS
      haveI : Inhabited (El1 h dvB) := ⟨mk ⟨0, hl0⟩⟩
      have hDob : D.toList.map El1.ob = l := by
        apply List.ext_getElem
        · simp [hDs]
        · intro i h1 h2
          rw [List.getElem_map, Array.getElem_toList]
          have e3 : D[i]'(by simpa using h1) = mk ⟨i, by simpa [hDs] using h1⟩ := by simp [D]
          rw [e3]; rfl
      have hDget : ∀ i, (hi : i < l.length) → D[i]! = mk ⟨i, hi⟩ := fun i hi => by
        rw [getElem!_pos D i (by omega)]
        simp [D]
      have hH : Sort.Holds El1.enc w b 0 D := fun j hj => by
        rw [hDs] at hj
        rw [hDget j hj]
        refine ⟨?_, by simp [World.frozen?, e5]⟩
        simp only [World.cell?, e5, Nat.zero_add]
        show cc[j]? = some (cc[j]'(by omega))
        exact Array.getElem?_eq_getElem (by omega)
      have hnot : ∀ i o, h i = some o → i ≠ b := fun i o ho hik => by subst hik; rw [hhb] at ho; cases ho
      have heap_sw : ∀ (n : Nat) (d : Array (El1 h dvB)) (os : Array Obj) (i : Nat), i < w.heap.size → (sortWorld El1.enc w b 0 n d os).heap[i]? = if i = b then (w.heap[i]?).map (Sort.onCells (Sort.putCells El1.enc 0 d)) else w.heap[i]? := fun n d os i hi => by
        unfold sortWorld
        rw [Sort.heap_grow_old _ _ (by rw [Sort.size_putRow]; exact hi)]
        show (w.heap.modify b _)[i]? = _
        rw [Array.getElem?_modify]
        by_cases e : b = i
        · subst e; rw [if_pos rfl]
        · rw [if_neg e, if_neg (fun x => e x.symm)]
      have hcmp : CmpLays1 P g #[] El1.enc (fun x y : El1 h dvB => cb x.ob y.ob) b 0 D.size w := by
        intro m0 os0 dk hdk x y
        have hWi : ∀ i o, h i = some o → (sortWorld El1.enc w b 0 m0 dk os0).heap[i]? = some o := fun i o ho => by
          have hiw : i < w.heap.size := (Array.getElem?_eq_some_iff.1 (hbef.hi i o ho)).1
          rw [heap_sw _ _ _ _ hiw, if_neg (hnot i o ho)]
          exact hbef.hi i o ho
        have hW : Before h r O (sortWorld El1.enc w b 0 m0 dk os0) := ⟨fun q b hq => (by cases hq), fun q _ _ hq => absurd rfl hq, hWi, fun q _ hq => absurd rfl hq, hbef.gl⟩
        have e0 : (#[x.enc, y.enc] ++ #[] : Array Value) = #[x.enc, y.enc] := by simp
        rw [e0]
        have hcx := (hc x.ob y.ob).go h r _ #[x.enc, y.enc] ⟨x.2, y.2, trivial⟩ hW
        refine hcx.mono ?_
        rintro e' w' ⟨v, h', rfl, hv, q⟩
        refine ⟨by rw [rep_val hv], grow_of q.os q.tape q.output q.size fun i hi => q.old i hi ?_⟩
        rintro ⟨m1, hm1, _⟩
        exact hm1 rfl
      have hO' : Sort.SWO (ltOf fun x y : El1 h dvB => cb x.ob y.ob) := ⟨fun x => hO.irrefl x.ob, fun x y z => hO.trans x.ob y.ob z.ob, fun x y z => hO.ntrans x.ob y.ob z.ob⟩
      have eg : ∀ args w, (callFunc g args).run P w = .ok (.enter g args) w := fun args w => run_callFunc (hc (mk ⟨0, hl0⟩).ob (mk ⟨0, hl0⟩).ob).fn args w
      have hcon := Any.slices_SortFunc L El1.enc (fun x => x.2.one) (fun x y : El1 h dvB => cb x.ob y.ob) hO' g #[] b 0 c D w eg hcmp hH hbw (by omega)
      rw [hDs] at hcon
      rw [e0]
      refine hcon.mono ?_
      rintro e' w' ⟨rfl, d', n', os', hperm, hsort, rfl⟩
      obtain ⟨hsz, _, hpm⟩ := hperm
      have ex1 : d'.extract 0 l.length = d' := by rw [← hDs, ← hsz]; exact Array.extract_size
      have ex2 : D.extract 0 l.length = D := by rw [← hDs]; exact Array.extract_size
      rw [ex1, ex2] at hpm
      have hpl : (d'.toList.map El1.ob).Perm l := by rw [← hDob]; exact hpm.map _
      have hds : d'.size = l.length := by rw [hsz, hDs]
      have hsl : (d'.toList.map El1.ob).Pairwise fun x y => ¬ cb y x < 0 := by
        rw [List.pairwise_iff_getElem]
        intro i j hi hj hij
        simp only [List.length_map, Array.length_toList] at hi hj
        have := hsort i j (Nat.zero_le _) hij (by omega)
        unfold ltOf at this
        have := of_decide_eq_false this
        rw [getElem!_pos d' j hj, getElem!_pos d' i hi] at this
        simpa using this
      have hll : d'.toList.map El1.ob = l' := by
        refine List.Perm.eq_of_pairwise (le := fun x y => ¬ cb y x < 0) ?_ hsl hs (hpl.trans hp.symm)
        intro x y hx hy h1 h2
        exact ha x (hpl.mem_iff.1 hx) y (hp.mem_iff.1 hy) h2 h1
      have hl'n : l'.length = l.length := hp.length_eq
      have sizeG : w.heap.size ≤ (sortWorld El1.enc w b 0 n' d' os').heap.size := by
        show w.heap.size ≤ ((w.heap.modify b _) ++ os').size
        simp
      refine ⟨_, h, rfl, ⟨[], rfl, trivial⟩, ⟨fun q bb hq => ?_, hdom, fun i o ho => ?_, fun q i hq => hbef.ho q i (hdom q hq), rfl, rfl, ⟨rfl, Nat.le_add_right _ _⟩, sizeG, fun i hi hno => ?_, .refl _, fun _ hq => .inl hq⟩⟩
      · obtain ⟨rfl, rfl⟩ := hown' q bb hq
        rw [BlkRep.slE rfl Nat.zero_lt_one]
        refine ⟨_, l.length, c, e0, by rw [hlenF, hl'n], e2, e3, .inr ⟨b, Sort.putCells El1.enc 0 d' cc, rfl, ?_, ?_, ?_⟩⟩
        · rw [heap_sw _ _ _ _ hbw, if_pos rfl, e5]; rfl
        · simp [Sort.putCells, e6]
        · rw [DReps.iff]
          intro t dv ht
          have htl : t < l.length := by
            have := (List.getElem?_eq_some_iff.1 ht).1
            rwa [hlenF, Nat.mul_one, hl'n] at this
          rw [show (VB 1 e (fun b => [dvB b]) l').cs = l'.flatMap (fun b => [dvB b]) from rfl, flat1, List.getElem?_map, ← hll, List.getElem?_map, Array.getElem?_toList, Array.getElem?_eq_getElem (by omega)] at ht
          simp only [Option.map_some, Option.some.injEq] at ht
          subst ht
          refine ⟨(d'[t]'(by omega)).enc, ?_, (d'[t]'(by omega)).2⟩
          simp only [Sort.putCells, Array.getElem?_mapIdx, Array.getElem?_eq_getElem (show t < cc.size by omega), Option.map_some]
          rw [if_pos ⟨Nat.zero_le _, by omega⟩, Nat.sub_zero, getElem!_pos d' t (by omega)]
      · have hiw : i < w.heap.size := (Array.getElem?_eq_some_iff.1 (hbef.hi i o ho)).1
        rw [heap_sw _ _ _ _ hiw, if_neg (hnot i o ho)]; exact hbef.hi i o ho
      · rw [heap_sw _ _ _ _ hi, if_neg (fun q => hno ⟨m, hself, by rw [q]; exact hk0⟩)]
end Go.AM
end

section
/- What the walk of Needs asks. -/
namespace Go.AM
open Go Go.RowKit Go.MapKept
theorem getM_put {κ : Type} [DecidableEq κ] {k k' : κ} {v : List DV} : ∀ {M : MM κ}, getM (putM M k v) k' = if k' = k then some v else getM M k'
  | [] => by
    simp only [putM, getM]
    by_cases e : k = k'
    · rw [if_pos e, if_pos e.symm]
    · rw [if_neg e, if_neg (fun q => e q.symm)]
  | p :: M => by
    by_cases h : p.1 = k
    · simp only [putM, if_pos h, getM]
      by_cases e : k = k'
      · rw [if_pos e, if_pos e.symm]
      · rw [if_neg e, if_neg (fun q => e q.symm), if_neg (fun q => e (h.symm.trans q))]
    · simp only [putM, if_neg h, getM]
      by_cases e : p.1 = k'
      · rw [if_pos e, if_neg (fun q => h (e.trans q)), if_pos e]
      · rw [if_neg e, getM_put, if_neg e]
/-- a map of families -/
structure KRel (M : MM Str) (K : KN) : Prop where
  get : ∀ c, (getM M c = none ∧ ∀ m, m < 131072 → ¬ K c m) ∨ getM M c = some [FD (K c)]
  ew : EW none (enE kS M)
theorem KRel.start : KRel [] (fun _ _ => False) := ⟨fun _ => .inl ⟨rfl, fun _ _ => id⟩, fun e he => by cases he⟩
theorem KRel.put {M : MM Str} {K : KN} (h : KRel M K) (c : Str) (p : Nat → Prop) : KRel (putM M c [FD p]) (KNupd K c p) where
  get c' := by
    rw [getM_put]
    unfold KNupd
    by_cases e : c' = c
    · rw [if_pos e, if_pos e]; exact .inr rfl
    · rw [if_neg e, if_neg e]; exact h.get c'
  ew := putM_ew h.ew rfl
def dvK (M : MM Str) (c : Str) : DV := match getM M c with
  | some [d] => d
  | _ => .v (.map none)
theorem KRel.look {M : MM Str} {K : KN} (h : KRel M K) (c : Str) : lkV none M c [.v (.map none)] false = .p (.c (dvK M c)) := by
  unfold lkV lkP dvK
  rcases h.get c with ⟨e, _⟩ | e <;> rw [e] <;> rfl
theorem KRel.as_ {M : MM Str} {K : KN} (h : KRel M K) (c : Str) : AsM none kU (dvK M c) (FM (K c)) := by
  unfold dvK
  rcases h.get c with ⟨e, h2⟩ | e
  · rw [e]
    refine .inl ⟨rfl, ?_⟩
    rw [FM_ext (q := fun _ => False) fun n hn => ⟨h2 n hn, False.elim⟩]
    unfold FM; rw [lsM_nil]; rfl
  · rw [e]; exact .inr rfl
theorem nilM_rep (h : Hp) : PRep h (pvM none [.v (.map none)]) (.map none) := by
  show DRep h (.v (.map none)) _
  simp only [DRep]; exact ⟨trivial, rfl⟩
/-- a pass, so far -/
structure PaI (D : List Drv) (K : KN) (j : Nat) (M' : MM Str) (K' : KN) (ch : Bool) : Prop where
  rel : KRel M' K'
  ok : KOK D K'
  ch : (ch = false ∧ K' = K ∧ ∀ i, i < j → i < D.length → eqM (nextK K (D.getD i zD)) (K (D.getD i zD).1) = true) ∨ (ch = true ∧ gapK D K' < gapK D K)
theorem PaI.start {D : List Drv} {K : KN} {M : MM Str} (h : KRel M K) (k : KOK D K) : PaI D K 0 M K false := ⟨h, k, .inl ⟨rfl, rfl, fun i h => absurd h (Nat.not_lt_zero _)⟩⟩
theorem PaI.same {D : List Drv} {K K' : KN} {M' : MM Str} {j : Nat} {ch : Bool} (h : PaI D K j M' K' ch) (e : eqM (nextK K' (D.getD j zD)) (K' (D.getD j zD).1) = true) : PaI D K (j + 1) M' K' ch := by
  refine ⟨h.rel, h.ok, h.ch.imp ?_ id⟩
  rintro ⟨h1, h2, h3⟩
  refine ⟨h1, h2, fun i hi hl => ?_⟩
  by_cases q : i = j
  · subst q; rw [← h2]; exact e
  · exact h3 i (by omega) hl
theorem PaI.chg {D : List Drv} {K K' : KN} {M' : MM Str} {j : Nat} {ch : Bool} (h : PaI D K j M' K' ch) (hj : j < D.length) (hD : hokD D) (e : eqM (nextK K' (D.getD j zD)) (K' (D.getD j zD).1) = false) :
    PaI D K (j + 1) (putM M' (D.getD j zD).1 [FD (nextK K' (D.getD j zD))]) (KNupd K' (D.getD j zD).1 (nextK K' (D.getD j zD))) true := by
  have hd : D.getD j zD ∈ D := getD_mem' zD hj
  refine ⟨h.rel.put _ _, h.ok.next hd (hD _ hd), .inr ⟨rfl, ?_⟩⟩
  have h1 := gapK_lt h.ok hd (hD _ hd) e
  rcases h.ch with ⟨_, h2, _⟩ | ⟨_, h2⟩
  · rw [h2] at h1 ⊢; exact h1
  · omega
theorem PaI.done {D : List Drv} {K K' : KN} {M' : MM Str} {j : Nat} (h : PaI D K j M' K' false) (hj : ¬ j < D.length) : K' = K ∧ KFix D K := by
  rcases h.ch with ⟨_, h2, h3⟩ | ⟨h1, _⟩
  · refine ⟨h2, fun d hd => ?_⟩
    obtain ⟨i, hi, rfl⟩ := List.mem_iff_getElem.1 hd
    have := h3 i (by omega) hi
    rwa [List.getD_eq_getElem?_getD, List.getElem?_eq_getElem hi] at this
  · cases h1
theorem PaI.again {D : List Drv} {K K' : KN} {M' : MM Str} {j : Nat} (h : PaI D K j M' K' true) : gapK D K' < gapK D K := by
  rcases h.ch with ⟨h1, _⟩ | ⟨_, h2⟩
  · cases h1
  · exact h2
theorem kok0 (D : List Drv) : KOK D (fun _ _ => False) := ⟨fun _ _ _ h => h.elim, fun _ _ _ _ _ h => h.elim⟩
theorem one_own {b : Nat} (h : b < 131072) : (putM ([] : MM Nat) b TT1).Perm (FM fun m => m = b) := by
  unfold FM; rw [lsM_one h]; exact .refl _
theorem jnF_s {K : KN} {p : Nat → Prop} {l : List Str} {k : Nat} (h : k < l.length) : jnF K p (l.take (k + 1)) = mn (jn (jnF K p (l.take k)) (K (l.getD k []))) := by
  rw [List.take_add_one, List.getElem?_eq_getElem h, Option.toList_some, jnF_snoc, List.getD_eq_getElem?_getD, List.getElem?_eq_getElem h]; rfl
abbrev enL (l : List Int) : List DV := [SL enZ l]
theorem enL_len : ∀ l, (enL l).length = 1 := fun _ => rfl
def leLL (x y : List Int) : Bool := !decide (cmL cmZ y x < 0)
noncomputable def ndL (D : List Drv) (c : Str) : List (List Int) := ((lsM (isMin D c)).map lsB).mergeSort leLL
theorem cmLZ : Cmp (cmL cmZ) := cmpL cmpZ
theorem swoLL : Go.Sort.SWO (Go.Proofs.ltOf (cmL cmZ)) where
  irrefl x := by unfold Go.Proofs.ltOf; rw [cmLZ.refl]; rfl
  trans x y z h k := by
    unfold Go.Proofs.ltOf at *
    rw [decide_eq_true_iff] at *
    exact cmLZ.trans h k
  ntrans x y z h k := by
    unfold Go.Proofs.ltOf at *
    rw [decide_eq_false_iff_not] at *
    intro q
    by_cases e : x = y
    · subst e; exact k q
    · have h1 : ¬ cmL cmZ x y = 0 := fun z => e (cmLZ.zero.1 z)
      have h2 := cmLZ.rev x y
      exact k (cmLZ.trans (show cmL cmZ y x < 0 by omega) q)
theorem leLL_trans (a b c : List Int) (h : leLL a b = true) (k : leLL b c = true) : leLL a c = true := by
  unfold leLL at *
  rw [Bool.not_eq_true', decide_eq_false_iff_not] at *
  have := swoLL.ntrans c b a
  unfold Go.Proofs.ltOf at this
  rw [decide_eq_false_iff_not, decide_eq_false_iff_not, decide_eq_false_iff_not] at this
  exact this k h
theorem leLL_total (a b : List Int) : (leLL a b || leLL b a) = true := by
  unfold leLL
  have := cmLZ.rev a b
  by_cases h : cmL cmZ b a < 0
  · rw [decide_eq_true h, decide_eq_false (by omega)]; rfl
  · rw [decide_eq_false h]; rfl
theorem ndL_perm (D : List Drv) (c : Str) : (ndL D c).Perm ((lsM (isMin D c)).map lsB) := List.mergeSort_perm _ _
theorem ndL_srt (D : List Drv) (c : Str) : (ndL D c).Pairwise fun x y => ¬ cmL cmZ y x < 0 := by
  have h1 : (ndL D c).Pairwise fun a b => leLL a b = true := List.pairwise_mergeSort (le := leLL) leLL_trans leLL_total _
  refine h1.imp fun {a b} q => ?_
  unfold leLL at q
  rwa [Bool.not_eq_true', decide_eq_false_iff_not] at q
theorem ndL_mem {D : List Drv} {c : Str} {x : List Int} : x ∈ ndL D c ↔ ∃ m, m < 131072 ∧ isMin D c m ∧ x = lsB m := by
  rw [(ndL_perm D c).mem_iff, List.mem_map]
  constructor
  · rintro ⟨m, h1, rfl⟩; exact ⟨m, (mem_lsM.1 h1).1, (mem_lsM.1 h1).2, rfl⟩
  · rintro ⟨m, h1, h2, rfl⟩; exact ⟨m, mem_lsM.2 ⟨h1, h2⟩, rfl⟩
theorem lsB_inj {a b : Nat} (ha : a < 131072) (hb : b < 131072) (h : lsB a = lsB b) : a = b := by
  rw [← bm_lsB (m := a) (by omega), h, bm_lsB (by omega)]
theorem ndL_nodup (D : List Drv) (c : Str) : (ndL D c).Nodup := by
  refine (ndL_perm D c).nodup_iff.2 ?_
  refine List.pairwise_map.2 ?_
  refine List.Pairwise.imp_of_mem (fun {a b} ha hb h e => h (lsB_inj (mem_lsM.1 ha).1 (mem_lsM.1 hb).1 e)) (lsM_nodup _)
abbrev SrtL (l : List (List Int)) : Prop := l.Pairwise fun x y => cmL cmZ x y < 0
theorem ndL_lt (D : List Drv) (c : Str) : SrtL (ndL D c) := by
  refine ((ndL_srt D c).and (ndL_nodup D c)).imp fun {a b} q => ?_
  have h1 : ¬ cmL cmZ a b = 0 := fun z => q.2 (cmLZ.zero.1 z)
  have h2 := cmLZ.rev a b
  have h3 := q.1
  omega
theorem srtL_uniq {a b : List (List Int)} (h1 : SrtL a) (h2 : SrtL b) (h : ∀ x, x ∈ a ↔ x ∈ b) : a = b :=
  lt_uniq (R := fun x y => cmL cmZ x y < 0) (fun a q => by rw [cmLZ.refl] at q; omega) (fun a b p q => by have := cmLZ.rev a b; omega) h1 h2 h
/-- the loop that lists -/
structure LsI (S L acc : List Nat) : Prop where
  pm : (acc ++ L).Perm S
theorem LsI.start (S : List Nat) : LsI S S [] := ⟨.refl _⟩
theorem LsI.next {S L L' acc : List Nat} {t : Nat} (h : LsI S L acc) (hp : L.Perm (t :: L')) : LsI S L' (acc ++ [t]) := ⟨by
  rw [List.append_assoc]
  exact (hp.symm.append_left acc).trans h.pm⟩
theorem LsI.len {S L acc : List Nat} (h : LsI S L acc) : acc.length ≤ S.length := by have := h.pm.length_eq; rw [List.length_append] at this; omega
theorem lsM_len (p : Nat → Prop) : (lsM p).length ≤ 131072 := by
  have := nodup_le (lsM_nodup p) (B := List.range 131072) fun x hx => List.mem_range.2 (mem_lsM.1 hx).1
  rwa [List.length_range] at this
theorem LsI.done {D : List Drv} {K : KN} {c : Str} {L acc : List Nat} (h : LsI (lsM (K c)) L acc) (hl : L = []) (hf : KFix D K) (hk : KOK D K) (hD : hokD D) : (ndL D c).Perm (acc.map lsB) := by
  subst hl
  have h1 := h.pm
  rw [List.append_nil, lsM_ext (q := isMin D c) fun n hn => K_min hf hk hD hn] at h1
  exact (ndL_perm D c).trans (h1.symm.map lsB)
theorem lsB_map_inj {acc : List Nat} {x y : List Int} (_ : x ∈ acc.map lsB) (_ : y ∈ acc.map lsB) (h1 : ¬ cmL cmZ x y < 0) (h2 : ¬ cmL cmZ y x < 0) : x = y := by
  have := cmLZ.rev x y
  exact cmLZ.zero.1 (by omega)
theorem LsI.lt {K : KN} {c : Str} {L acc : List Nat} (h : LsI (lsM (K c)) L acc) {L' : List Nat} {t : Nat} (hp : L.Perm (t :: L')) : t < 131072 :=
  (mem_lsM.1 (h.pm.mem_iff.1 (List.mem_append_right _ (hp.mem_iff.2 (by simp))))).1
end Go.AM
end

section
/- Boxes of several cells, one of which holds a slice of the call's own; what is built from slices of the call's own. -/
namespace Go.AM
open Go Go.RowKit
theorem lkC_multi {cs : List DV} {t : TypeId × Array Value} {v : Value} (h : 1 < cs.length) : lkC cs t v = t.2.setIfInBounds (lpos cs) v := by
  match cs, h with
  | _ :: _ :: _, _ => rfl
/-- a slice of the call's own becomes data -/
theorem WOK.frz {C : Ctx} {h : Hp} {r : Nat → Value} {own : Own} {w : World} (k : WOK C h r own w) {m n : Nat} {b : Blk} (hb : own m = some b) (hbv : b.vec = true) (hn : n * b.sz = b.cs.length) (hsz : 0 < b.sz) :
    ∃ h', Hle h h' ∧ WOK C h' r (upd own m none) w ∧ DRep h' (.sl n b.cs) (r m) := by
  have hold := k.ow m b hb
  rw [BlkRep.slE hbv hsz] at hold
  obtain ⟨ad, l, cap, q1, q2, q3, q4, q5⟩ := hold
  have hl : l = n := Nat.eq_of_mul_eq_mul_right hsz (q2.trans hn.symm)
  subst hl
  have hfg : ∀ p, upd own m none p = own p ∨ upd own m none p = none := fun p => by
    by_cases e : p = m
    · subst e; exact .inr (by simp)
    · exact .inl (by rw [upd_ne _ _ _ _ e])
  have hlow : own m ≠ none := by rw [hb]; simp
  rcases q5 with q5 | ⟨i, cc, rfl, p2, p3, p4⟩
  · refine ⟨h, .refl _, k.forget hfg, ?_⟩
    have hcs : b.cs = [] := List.eq_nil_of_length_eq_zero (by rw [← q2, show l = 0 by omega]; simp)
    simp only [DRep]
    exact ⟨ad, cap, q1, q3, q4, .inl hcs⟩
  · by_cases hc0 : cap = 0
    · refine ⟨h, .refl _, k.forget hfg, ?_⟩
      have hcs : b.cs = [] := List.eq_nil_of_length_eq_zero (by rw [← q2, show l = 0 by omega]; simp)
      simp only [DRep]
      exact ⟨_, cap, q1, q3, q4, .inl hcs⟩
    · have hbk : hblk (r m) = some i := by rw [q1]; simp only [hblk]; rw [if_neg hc0]
      obtain ⟨f1, f2⟩ := k.freeze hlow hbk p2
      refine ⟨_, f2, f1, ?_⟩
      simp only [DRep]
      exact ⟨_, cap, q1, q3, q4, .inr ⟨i, 0, cc, b.e, (0, 0), rfl, by simp, by simpa using DReps.mono f2 _ _ p4⟩⟩
section
variable {P : Program} {dst : Option Nat} {d : Nat} {own : Own}
/-- an operation on values, of which one is a slice of the call's own -/
theorem Eff.frz {o : Oper} {ρ ρ' : Operand → AV} {v : AV} {m n : Nat} {b : Blk} (hin : ∀ own, Eff P o d ρ' own v [] none []) (hb : own m = some b) (hbv : b.vec = true) (hn : n * b.sz = b.cs.length) (hsz : 0 < b.sz) (hρ : ∀ x, ρ' x = ρ x ∨ (ρ x = .vec m ∧ ρ' x = .p (.c (.sl n b.cs)))) :
    Eff P o d ρ own v [(m, none)] none [m] := by
  intro C h r own' a w K Q hrep hrd hw _ hK
  obtain ⟨h2, g1, g2, g3⟩ := hw.frz ((hrd m (by simp)).trans hb) hbv hn hsz
  refine hin (upd own' m none) C h2 r (upd own' m none) a w K Q (fun x hx => ?_) (fun _ q => by cases q) g2 (fun q => absurd rfl q) (fun x h' r' w' q1 q2 q3 q4 => ?_)
  · rcases hρ x with e | ⟨e1, e2⟩
    · rw [e]; exact AVRep.mono g1 _ _ (hrep x hx)
    · have := hrep x hx
      rw [e1] at this
      rw [e2]
      have e3 : a.eval x = r m := this
      show DRep _ _ _
      rw [e3]; exact g3
  · exact hK x h' r' w' (g1.trans q1) (fun m _ => q2 m fun z => absurd rfl z) q3 q4
theorem Eff.frzT {β : Type} {encD : β → List DV} {z : Nat} (hL : ∀ b, (encD b).length = z) (hz : Nat.blt 0 z = true) (t m : Nat) {l : List β} {e : TypeId} {o : Oper} {regs : Regs} {v : AV} (ht : regs t = .vec m) (hb : own m = some (VB z e encD l)) (hin : ∀ own, Eff P o d (ev (upd regs t (.p (.c (SL encD l))))) own v [] none []) :
    Eff P o d (ev regs) own v [(m, none)] none [m] := by
  refine Eff.frz hin (n := l.length) hb rfl (flat_len hL l).symm (show 0 < z by simpa using hz) fun x => ?_
  cases x with
  | tmp k =>
    show upd regs t _ k = regs k ∨ (regs k = .vec m ∧ upd regs t _ k = _)
    by_cases e : k = t
    · subst e; exact .inr ⟨ht, upd_same _ _ _⟩
    · exact .inl (upd_ne _ _ _ _ e)
  | _ => exact .inl rfl
end
section ops
variable {P : Program} {tt : TT} (hT : TTok P tt)
variable {dst : Option Nat} {ty : TypeId} {pos : String} {af : Array Edge} {gd : Option (Nat × Bool)} {d : Nat} {ρ : Operand → AV} {own : Own}
variable {T : TypeId} {i : TyI} {x y : Operand}
include hT
/-- the slice in a box of several cells is looked at -/
theorem op_loadF {m j p : Nat} {e : TypeId} {cs : List DV} (ht : tt T = some i) (hg : i.sh.agg = false) (hx : ρ x = .loc m p) (hb : own m = some ⟨false, j + 2, e, cs⟩) (hp : lpos cs = p) (hl : Nat.blt p cs.length = true) (h1 : Nat.blt 1 cs.length = true) :
    Eff P ⟨dst, .load T x, ty, pos, af, gd⟩ d ρ own (.vec j) [] none [m] :=
  Eff.value fun C h r own' a w hrep hrd hw => by
    have hb' := (hrd m (by simp)).trans hb
    have e1 := hrep x (by simp [Op.operands])
    rw [hx] at e1
    obtain ⟨k, ⟨g1, _⟩, g2⟩ := e1
    obtain ⟨q, t, h3, h4⟩ := hw.lk m _ j hb' (by show j ∈ [j]; simp)
    have h3' := h3
    rw [h3] at g1
    simp only [hblk, Option.some.injEq] at g1
    subst g1
    have hbr := hw.ow m _ hb'
    rw [BlkRep.boxE rfl] at hbr
    obtain ⟨k0, c0, p1, p2, p3, _⟩ := hbr
    rw [p1] at h3'
    have hkq : k0 = q := by simpa using h3'
    subst hkq
    rw [p2] at h4
    have h1' : 1 < cs.length := by simpa using h1
    have hl' : p < cs.length := by simpa using hl
    have hc0 : c0 = t.2.setIfInBounds p (r j) := by
      have : c0 = lkC cs t (r j) := by simp only [Option.some.injEq, Obj.cells.injEq] at h4; exact h4.1
      rw [this, lkC_multi h1', hp]
    have hcp : c0[p]? = some (r j) := by
      have hs : t.2.size = cs.length := by have := p3; rw [hc0, Array.size_setIfInBounds] at this; exact this
      rw [hc0, Array.getElem?_setIfInBounds]
      simp [hs, hl']
    refine ⟨r j, ?_, rfl⟩
    have hc : w.cell? ⟨k0, p, none⟩ = some (r j) := by simp [World.cell?, p2, hcp]
    simp only [execOp, g2, Sem.run_bind, loadAt_ptr, loadVar, (hT T i ht).isAgg, hg, Result.andThen_ok, Bool.false_eq_true, if_false, run_load, hc, Sem.run_pure]
/-- a slice of the call's own is put into a box of several cells -/
theorem op_storeF {m j n z p : Nat} {e : TypeId} {cs cs' : List DV} {b : Blk} (ht : tt T = some i) (hsz : i.size = 1) (hx : ρ x = .loc m p) (hy : ρ y = .vec j) (hb : own m = some ⟨false, z, e, cs⟩) (hbj : own j = some b) (hbv : b.vec = true) (_hn : n * b.sz = b.cs.length) (hs0 : 0 < b.sz)
    (hcs : cs.set p .any = cs') (hp : lpos cs' = p) (hl : Nat.blt p cs.length = true) (h1 : Nat.blt 1 cs.length = true) :
    Eff P ⟨none, .store T x y, ty, pos, af, gd⟩ d ρ own .junk [(m, some ⟨false, j + 2, e, cs'⟩)] none [m, j] := by
  intro C h r own' a w K Q hrep hrd hw _ hK
  have hl' : p < cs.length := by simpa using hl
  have h1' : 1 < cs.length := by simpa using h1
  have hlen : cs'.length = cs.length := by rw [← hcs, List.length_set]
  have hb' := (hrd m (by simp)).trans hb
  have hj' := (hrd j (by simp)).trans hbj
  have e1 := hrep x (by simp [Op.operands])
  have e2 := hrep y (by simp [Op.operands])
  rw [hx] at e1; rw [hy] at e2
  obtain ⟨k, h0, h2, c, h3, h4, h5⟩ := own_reads hw hb' e1
  have e2' : a.eval y = r j := e2
  have hbr := hw.ow j b hj'
  rw [BlkRep.slE hbv hs0] at hbr
  obtain ⟨ad, l, cap, q1, q2, q3, q4, q5⟩ := hbr
  have hcells : (a.eval y).cells = #[r j] := by rw [e2', q1]; rfl
  have hone : (r j).oneCell' = true := by rw [q1]; rfl
  have hbx := hw.ow m _ hb'
  rw [BlkRep.boxE rfl] at hbx
  obtain ⟨k0, c0, p1, p2, p3, p4⟩ := hbx
  rw [p1] at h2; simp only [hblk, Option.some.injEq] at h2; subst h2
  have hsize : c0.size = cs.length := p3
  obtain ⟨w', c', k1, k2, k3, k4, k5⟩ := run_storeCells_block P k0 e [r j] p 0 w c0 p2 (by simp; omega) (by simpa using hone)
  have hc' : c' = c0.setIfInBounds p (r j) := by
    apply Array.ext (by rw [k4, Array.size_setIfInBounds])
    intro q hq1 hq2
    have h0 := k5 q
    have e3 : c'[q]? = some c'[q] := Array.getElem?_eq_getElem hq1
    have e4 : (c0.setIfInBounds p (r j))[q]? = some (c0.setIfInBounds p (r j))[q] := Array.getElem?_eq_getElem hq2
    have : c'[q]? = (c0.setIfInBounds p (r j))[q]? := by
      rw [h0, Array.getElem?_setIfInBounds]
      by_cases hq : q = p
      · subst hq; simp [hsize, hl']
      · rw [if_neg (by simp; omega), if_neg (fun z => hq z.symm)]
    rw [e3, e4] at this
    exact Option.some.inj this
  have hrun : (execOp a.eval ⟨none, .store T x y, ty, pos, af, gd⟩).run P w = .ok .skip w' := by
    have hs : ¬ ((a.eval y).cells.size ≠ i.size) := by rw [hcells, hsz]; simp
    simp only [execOp, h0, Instr.storeAt, Instr.sureAddr, storeVar, Sem.run_bind, Sem.run_pure, (hT T i ht).size, Result.andThen_ok, hs, if_false]
    rw [hcells]
    simp only [Result.andThen_ok, k1]
  unfold Oper.wp
  rw [hrun]
  refine hK undef h r w' (.refl _) (fun _ _ => rfl) trivial (hw.write (by rw [hb']; simp) (by rw [p1]; rfl) k2 (b := ⟨false, j + 2, e, cs'⟩) ?_ ?_)
  · rw [BlkRep.boxE rfl]
    refine ⟨k0, c', p1, k3, by rw [k4, p3]; exact hlen.symm, ?_⟩
    rw [DReps.iff] at p4 ⊢
    intro q dv hq
    rw [hc', Array.getElem?_setIfInBounds]
    rw [← hcs, List.getElem?_set] at hq
    by_cases e3 : p = q
    · subst e3
      rw [if_pos rfl] at hq ⊢
      rw [if_pos hl'] at hq
      cases hq
      exact ⟨r j, by rw [if_pos (by rw [hsize]; exact hl')], by simp only [DRep]; exact hone⟩
    · rw [if_neg e3] at hq ⊢
      exact p4 q dv hq
  · intro j' hj
    have : j' = j := by simpa [lnk] using hj
    subst this
    refine ⟨k0, (e, c'), p1, ?_⟩
    rw [k3, lkC_multi (by rw [hlen]; exact h1')]
    show _ = some (Obj.cells (c'.setIfInBounds (lpos cs') (r j')) e (0, 0))
    congr 2
    rw [hp, hc', Array.setIfInBounds_setIfInBounds]
end ops
theorem WOK.relinkF {C : Ctx} {h : Hp} {r : Nat → Value} {own : Own} {w : World} (k : WOK C h r own w) {m z j : Nat} {e : TypeId} {cs cs' : List DV} (hb : own m = some ⟨false, z, e, cs⟩) (hbr : BlkRep h w (r m) ⟨false, j + 2, e, cs'⟩) (hc : ∃ (q : Nat) (t : TypeId × Array Value), r m = .pointer (some ⟨q, 0, none⟩) ∧ w.heap[q]? = some (.cells (lkC cs' t (r j)) t.1 (0, 0))) : WOK C h r (upd own m (some ⟨false, j + 2, e, cs'⟩)) w := by
  have live : ∀ p, upd own m (some ⟨false, j + 2, e, cs'⟩) p ≠ none → own p ≠ none := fun p hp => by
    by_cases h1 : p = m
    · subst h1; rw [hb]; simp
    · rwa [upd_ne _ _ _ _ h1] at hp
  refine ⟨fun p b hp => ?_, fun p q i hp hq => k.inj p q i (live p hp) (live q hq), k.hi, fun p i hp => k.ho p i (live p hp), k.os, k.tape, k.output, k.size, k.old, fun p i hp => k.fo p i (live p hp), k.hg, k.hn, k.gl, k.kp, fun p b j' hp hj => ?_⟩
  · by_cases h1 : p = m
    · subst h1; rw [upd_same] at hp; cases hp; exact hbr
    · rw [upd_ne _ _ _ _ h1] at hp; exact k.ow p b hp
  · by_cases h1 : p = m
    · subst h1; rw [upd_same] at hp; cases hp
      have : j' = j := by simpa [lnk] using hj
      subst this
      exact hc
    · rw [upd_ne _ _ _ _ h1] at hp; exact k.lk p b j' hp hj
theorem WOK.reboxF {C : Ctx} {h : Hp} {r : Nat → Value} {own : Own} {w : World} (k : WOK C h r own w) {m : Nat} {b : Blk} {e : TypeId} {cs' : List DV} (hb : own m = some b) (hbr : BlkRep h w (r m) ⟨false, 1, e, cs'⟩) : WOK C h r (upd own m (some ⟨false, 1, e, cs'⟩)) w := by
  have live : ∀ p, upd own m (some ⟨false, 1, e, cs'⟩) p ≠ none → own p ≠ none := fun p hp => by
    by_cases h1 : p = m
    · subst h1; rw [hb]; simp
    · rwa [upd_ne _ _ _ _ h1] at hp
  refine ⟨fun p b hp => ?_, fun p q i hp hq => k.inj p q i (live p hp) (live q hq), k.hi, fun p i hp => k.ho p i (live p hp), k.os, k.tape, k.output, k.size, k.old, fun p i hp => k.fo p i (live p hp), k.hg, k.hn, k.gl, k.kp, fun p b j' hp hj => ?_⟩
  · by_cases h1 : p = m
    · subst h1; rw [upd_same] at hp; cases hp; exact hbr
    · rw [upd_ne _ _ _ _ h1] at hp; exact k.ow p b hp
  · by_cases h1 : p = m
    · subst h1; rw [upd_same] at hp; cases hp
      exact absurd hj (by simp [lnk])
    · rw [upd_ne _ _ _ _ h1] at hp; exact k.lk p b j' hp hj
section ghost
variable {P : Program} {B : Bool} {N np : Nat} {Q : Exit → St → Prop} {s : St} {c : Code}
def linkFS (m j sz : Nat) (be e : TypeId) (cs' : List DV) (s : St) : St := ⟨(kill [j] s).regs, upd (upd (kill [j] s).own j (some ⟨true, sz, be, []⟩)) m (some ⟨false, j + 2, e, cs'⟩)⟩
/-- a box of several cells that holds no slice yet holds the slice j -/
theorem AWp_lkF (m j p sz : Nat) (be : TypeId) {z : Nat} {e : TypeId} {cs cs' : List DV} (hb : s.own m = some ⟨false, z, e, cs⟩) (hz : Nat.blt z 2 = true) (hj : Nat.beq m j = false) (hnp : Nat.ble np j = true) (hnil : cs[p]? = some (.v (.slice none 0 0))) (hcs : cs.set p .any = cs') (hp : lpos cs' = p) (h1 : Nat.blt 1 cs.length = true) (h : AWp P B N np c Q (linkFS m j sz be e cs' s)) (hs0 : Nat.blt 0 sz = true := by rfl) : AWp P B N np c Q s := by
  have hne : m ≠ j := fun e => by rw [e, Nat.beq_refl] at hj; cases hj
  have h1' : 1 < cs.length := by simpa using h1
  have hl' : p < cs.length := (List.getElem?_eq_some_iff.1 hnil).1
  have hlen : cs'.length = cs.length := by rw [← hcs, List.length_set]
  intro ro hB C hh r a w hn hc
  have hk := kill_conc [j] hc
  have hm : (kill [j] s).own m = some ⟨false, z, e, cs⟩ := by
    show (bif [j].contains m then none else killO [j] (s.own m)) = _
    have : [j].contains m = false := by simp; exact hne
    rw [this, hb]
    have hl : lnk ⟨false, z, e, cs⟩ = [] := by
      match z, hz with
      | 0, _ => rfl
      | 1, _ => rfl
    show some (killB [j] _) = _
    unfold killB; rw [hl]; rfl
  have hw := hk.wk.newNil (j := j) (sz := sz) (be := be) (Nat.le_of_ble_eq_true hs0) (kill_own [j] s j (by simp)) (by rw [hn.1]; exact Nat.le_of_ble_eq_true hnp) (kill_lnk [j] s j (by simp))
  have hold := hk.wk.ow m _ hm
  rw [BlkRep.boxE rfl] at hold
  obtain ⟨k0, c0, p1, p2, p3, p4⟩ := hold
  have hc0p : c0[p]? = some (.slice none 0 0) := by
    obtain ⟨y, g1, g2⟩ := p4.get p _ hnil
    simp only [DRep] at g2
    rw [← g2.1]; exact g1
  have hbr : BlkRep hh w (r m) ⟨false, j + 2, e, cs'⟩ := by
    rw [BlkRep.boxE rfl]
    refine ⟨k0, c0, p1, p2, p3.trans hlen.symm, ?_⟩
    rw [DReps.iff] at p4 ⊢
    intro q dv hq
    rw [← hcs, List.getElem?_set] at hq
    by_cases e3 : p = q
    · subst e3
      rw [if_pos rfl, if_pos hl'] at hq
      cases hq
      exact ⟨_, hc0p, by simp only [DRep]; rfl⟩
    · rw [if_neg e3] at hq; exact p4 q dv hq
  have hw2 := hw.relinkF (m := m) (z := z) (j := j) (e := e) (cs := cs) (cs' := cs') (by rw [upd_ne _ _ _ _ hne]; exact hm) (by rw [upd_ne _ _ _ _ hne]; exact hbr) ⟨k0, (e, c0), by rw [upd_ne _ _ _ _ hne]; exact p1, by
    rw [upd_same, p2, lkC_multi (by rw [hlen]; exact h1'), hp]
    show _ = some (Obj.cells (c0.setIfInBounds p _) e (0, 0))
    congr 2
    apply Array.ext (by rw [Array.size_setIfInBounds])
    intro q hq1 hq2
    have : c0[q]? = (c0.setIfInBounds p (.slice none 0 0))[q]? := by
      rw [Array.getElem?_setIfInBounds]
      by_cases e3 : p = q
      · subst e3; rw [if_pos rfl, if_pos hq1, hc0p]
      · rw [if_neg e3]
    rw [Array.getElem?_eq_getElem hq1, Array.getElem?_eq_getElem hq2] at this
    exact Option.some.inj this⟩
  refine h ro hB C hh (upd r j (.slice none 0 0)) a w hn ⟨hk.sz, hk.df, fun t => ?_, hw2⟩
  exact AVRep.rebind _ _ (fun n hn' => upd_ne _ _ _ _ (fun x => kill_men [j] s j (by simp) t (x ▸ hn'))) (hk.rg t)
def rnFS (m j d : Nat) (e : TypeId) (cs : List DV) (b : Blk) (s : St) : St := ⟨fun t => renV (fun k => bif Nat.beq k j then d else k) ((kill [d] s).regs t), upd (upd (upd (kill [d] s).own j none) d (some b)) m (some ⟨false, d + 2, e, cs⟩)⟩
/-- a box's slice under another name -/
theorem AWp_rnF (m j d : Nat) {e : TypeId} {cs : List DV} {b : Blk} (hm : s.own m = some ⟨false, j + 2, e, cs⟩) (hb : s.own j = some b) (hbv : b.vec = true) (hmj : Nat.beq m j = false) (hmd : Nat.beq m d = false) (hjd : Nat.beq j d = false) (hp : Nat.ble np d = true) (h : AWp P B N np c Q (rnFS m j d e cs b s)) : AWp P B N np c Q s := by
  have neq : ∀ {x y : Nat}, Nat.beq x y = false → x ≠ y := fun h e => by rw [e, Nat.beq_refl] at h; cases h
  have h1 := neq hmj; have h2 := neq hmd; have h3 := neq hjd
  intro ro hB C hh r a w hn' hc
  have hk := kill_conc [d] hc
  have hmen := kill_men [d] s d (by simp)
  have kown : ∀ p, p ≠ d → (kill [d] s).own p = killO [d] (s.own p) := fun p hpd => by
    show (bif [d].contains p then none else killO [d] (s.own p)) = _
    have : [d].contains p = false := by simp; exact hpd
    rw [this]; rfl
  have hm' : (kill [d] s).own m = some ⟨false, j + 2, e, cs⟩ := by
    rw [kown m h2, hm]
    show some (killB [d] _) = _
    have hl : lnk ⟨false, j + 2, e, cs⟩ = [j] := rfl
    unfold killB
    rw [hl]
    have : ([j].any [d].contains) = false := by simp; exact h3
    rw [this]; rfl
  have hb' : (kill [d] s).own j = some b := by
    rw [kown j h3, hb]
    show some (killB [d] b) = _
    unfold killB; rw [lnk_vec hbv]; rfl
  have hbr := hk.wk.ow j b hb'
  have hbm := hk.wk.ow m _ hm'
  have hw := hk.wk.rename (m := j) (d := d) (v := r j) (b := b) (by rw [hb']; simp) (kill_own [d] s d (by simp)) (by rw [hn'.1]; exact Nat.le_of_ble_eq_true hp) (fun _ e => e) hbr (kill_lnk [d] s d (by simp)) (lnk_vec hbv)
  have hown : upd (upd (kill [d] s).own j none) d (some b) m = some ⟨false, j + 2, e, cs⟩ := by rw [upd_ne _ _ _ _ h2, upd_ne _ _ _ _ h1]; exact hm'
  obtain ⟨q, t, g1, g2⟩ := hk.wk.lk m _ j hm' (by simp [lnk])
  have hw2 := hw.relinkF (m := m) (z := j + 2) (j := d) (e := e) (cs := cs) (cs' := cs) hown (by rw [upd_ne _ _ _ _ h2]; exact hbm) ⟨q, t, by rw [upd_ne _ _ _ _ h2]; exact g1, by rw [upd_same]; exact g2⟩
  refine h ro hB C hh (upd r d (r j)) a w hn' ⟨hk.sz, hk.df, fun t => ?_, hw2⟩
  have hr := hk.rg t
  have hmt := hmen t
  show AVRep hh (upd r d (r j)) (renV (fun k => bif Nat.beq k j then d else k) ((kill [d] s).regs t)) _
  generalize (kill [d] s).regs t = v at hr hmt
  have key : ∀ k, d ≠ k → upd r d (r j) (bif Nat.beq k j then d else k) = r k := fun k hk => by
    cases e : Nat.beq k j with
    | true => rw [Nat.eq_of_beq_eq_true e]; simp
    | false => simp only [cond_false]; rw [upd_ne _ _ _ _ (fun x => hk x.symm)]
  cases v with
  | loc k o =>
    obtain ⟨q, h1, h2⟩ := hr
    exact ⟨q, by rw [key k (by simpa [men] using hmt)]; exact h1, h2⟩
  | vec k =>
    show _ = upd r d (r j) _
    rw [key k (by simpa [men] using hmt)]; exact hr
  | p v => exact hr
  | t vs => exact hr
  | ip xs => exact hr
  | fn f caps => exact hr
  | fnl f k =>
    obtain ⟨q, h1, h2⟩ := hr
    exact ⟨q, by rw [key k (by simpa [men] using hmt)]; exact h1, h2⟩
  | it k =>
    obtain ⟨q, h1, h2⟩ := hr
    exact ⟨q, by rw [key k (by simpa [men] using hmt)]; exact h1, h2⟩
  | axm R k =>
    intro h' hq
    show R h' (upd r d (r j) _) _
    rw [key k (by simpa [men] using hmt)]
    exact hr h' hq
  | ax R => exact hr
  | junk => exact hr
/-- a box's slice becomes data -/
theorem AWp_unF (m j p : Nat) {β : Type} {encD : β → List DV} {z : Nat} (hL : ∀ b, (encD b).length = z) (hz : Nat.blt 0 z = true) {l : List β} {e be : TypeId} {cs cs' : List DV} (hm : s.own m = some ⟨false, j + 2, e, cs⟩) (hb : s.own j = some (VB z be encD l)) (hmj : Nat.beq m j = false) (hcs : cs.set p (SL encD l) = cs') (hp : lpos cs = p) (hl : Nat.blt p cs.length = true) (h1 : Nat.blt 1 cs.length = true) (h : AWp P B N np c Q ⟨s.regs, upd (upd s.own j none) m (some ⟨false, 1, e, cs'⟩)⟩) : AWp P B N np c Q s := by
  have h1' : 1 < cs.length := by simpa using h1
  have hl' : p < cs.length := by simpa using hl
  have hlen : cs'.length = cs.length := by rw [← hcs, List.length_set]
  have hne : m ≠ j := fun e => by rw [e, Nat.beq_refl] at hmj; cases hmj
  intro ro hB C hh r a w hn hc
  obtain ⟨h2, g1, g2, g3⟩ := hc.wk.frz hb rfl (n := l.length) (flat_len hL l).symm (show 0 < z by simpa using hz)
  have hm2 : upd s.own j none m = some ⟨false, j + 2, e, cs⟩ := by rw [upd_ne _ _ _ _ hne]; exact hm
  obtain ⟨q, t, q1, q2⟩ := hc.wk.lk m _ j hm (by simp [lnk])
  have hbr := g2.ow m _ hm2
  rw [BlkRep.boxE rfl] at hbr
  obtain ⟨k0, c0, p1, p2, p3, p4⟩ := hbr
  have hkq : k0 = q := by rw [p1] at q1; simpa using q1
  subst hkq
  rw [p2] at q2
  have hc0 : c0 = t.2.setIfInBounds p (r j) := by
    have : c0 = lkC cs t (r j) := by simp only [Option.some.injEq, Obj.cells.injEq] at q2; exact q2.1
    rw [this, lkC_multi h1', hp]
  have hs : t.2.size = cs.length := by have := p3; rw [hc0, Array.size_setIfInBounds] at this; exact this
  have hcp : c0[p]? = some (r j) := by rw [hc0, Array.getElem?_setIfInBounds]; simp [hs, hl']
  have hw2 := g2.reboxF (m := m) (e := e) (cs' := cs') hm2 (by
    rw [BlkRep.boxE rfl]
    refine ⟨k0, c0, p1, p2, p3.trans hlen.symm, ?_⟩
    rw [DReps.iff] at p4 ⊢
    intro q dv hq
    rw [← hcs, List.getElem?_set] at hq
    by_cases e3 : p = q
    · subst e3
      rw [if_pos rfl, if_pos hl'] at hq
      cases hq
      exact ⟨_, hcp, g3⟩
    · rw [if_neg e3] at hq; exact p4 q dv hq)
  exact h ro hB C h2 r a w hn ⟨hc.sz, hc.df.mono g1, fun t => AVRep.mono g1 _ _ (hc.rg t), hw2⟩
end ghost
end Go.AM
end

section
/- Facts for the walks over the reference of chapter 30. -/
namespace Go.AM
open Go Go.RowKit
theorem all_noD {α : Type} {p : α → Bool} {l : List α} (d : α) {k : Nat} (hk : k < l.length) (h : p (l.getD k d) = false) : l.all p = false := by
  rw [List.all_eq_false]
  exact ⟨l.getD k d, getD_mem' d hk, by rw [h]; simp⟩
theorem all_yesD {α : Type} {p : α → Bool} {l : List α} (d : α) (h : ∀ i, i < l.length → p (l.getD i d) = true) : l.all p = true := by
  rw [List.all_eq_true]
  intro c hc
  obtain ⟨i, hi, rfl⟩ := List.mem_iff_getElem.1 hc
  have := h i hi
  rwa [List.getD_eq_getElem?_getD, List.getElem?_eq_getElem hi] at this
theorem eqD {α : Type} (d : α) {a b : List α} (hl : a.length = b.length) (h : ∀ i, i < a.length → a.getD i d = b.getD i d) : a = b := by
  apply List.ext_getElem hl
  intro i h1 h2
  have := h i h1
  rwa [List.getD_eq_getElem?_getD, List.getElem?_eq_getElem h1, List.getD_eq_getElem?_getD, List.getElem?_eq_getElem h2] at this
theorem cl_no {s : Str} {k : Nat} (hk : k < s.length) (h : ¬ okP ((s.getD k 0).toNat : Int)) : false = okS s := by
  unfold okS
  rw [all_noD 0 hk (show okc _ = false from decide_eq_false h), Bool.and_false]
theorem cl_yes {s : Str} (h1 : 1 ≤ s.length) (h2 : s.length ≤ 40) (h : ∀ i, i < s.length → okP ((s.getD i 0).toNat : Int)) : true = okS s := by
  unfold okS
  rw [decide_eq_true ⟨h1, h2⟩, all_yesD 0 fun i hi => (show okc _ = true from decide_eq_true (h i hi))]; rfl
theorem set_no1 {l : List Int} {k : Nat} (hk : k < l.length) (h : ¬ (1 ≤ l.getD k 0 ∧ l.getD k 0 ≤ 16)) : false = hypsB l := by
  unfold hypsB
  rw [all_noD 0 hk (show hypB _ = false from decide_eq_false h), Bool.and_false]
theorem set_no2 {l : List Int} {k n : Nat} (hk : k < l.length) (h0 : 1 ≤ k) (hn : n = k - 1) (h : ¬ l.getD n 0 < l.getD k 0) : false = hypsB l := by
  subst hn
  unfold hypsB
  rw [incr_no (d := 0) h0 hk (decide_eq_false h)]; rfl
theorem set_yes {l : List Int} (h : ∀ i, i < l.length → (1 ≤ l.getD i 0 ∧ l.getD i 0 ≤ 16) ∧ (1 ≤ i → l.getD (i - 1) 0 < l.getD i 0)) : true = hypsB l := by
  unfold hypsB
  rw [incr_yes (d := 0) fun k h1 h2 => decide_eq_true ((h k h2).2 h1), all_yesD 0 fun i hi => (show hypB _ = true from decide_eq_true (h i hi).1)]; rfl
theorem ro_3 {d : Drv} (h : hypsB d.2.2 = false) : false = rightD d := by unfold rightD; rw [h]; simp
theorem ro_4 {d : Drv} {k : Nat} (hk : k < d.2.1.length) (h : okS (d.2.1.getD k []) = false) : false = rightD d := by
  unfold rightD; rw [all_noD [] hk h]; simp
theorem ro_5 {d : Drv} {k n : Nat} (hk : k < d.2.1.length) (h0 : 1 ≤ k) (hn : n = k - 1) (h : ltS (d.2.1.getD n []) (d.2.1.getD k []) = false) : false = rightD d := by
  subst hn
  unfold rightD; rw [incr_no (d := []) h0 hk h]; simp
theorem ro_y {d : Drv} (h1 : okS d.1 = true) (h2 : d.2.1.length ≤ 10) (h3 : hypsB d.2.2 = true) (h : ∀ i, i < d.2.1.length → okS (d.2.1.getD i []) = true ∧ (1 ≤ i → ltS (d.2.1.getD (i - 1) []) (d.2.1.getD i []) = true)) : true = rightD d := by
  unfold rightD
  rw [h1, h3, decide_eq_true h2, incr_yes (d := []) fun k q1 q2 => (h k q2).2 q1, all_yesD [] fun i hi => (h i hi).1]; rfl
theorem find_at {l : List Drv} {d : Drv} {k : Nat} (hs : SrtD l) (hk : k ≤ l.length) (hI : ∀ i, i < k → cmD (l.getD i zD) d < 0) (h : ¬ (k < l.length ∧ cmD (l.getD k zD) d < 0)) : k = lessN l d := by
  refine Cut.uniq ⟨hk, fun i hi => ⟨fun q => ?_, fun q => hI i q⟩⟩ (lessN_cut hs)
  rcases Nat.lt_trichotomy i k with e | e | e
  · exact e
  · subst e; exact absurd ⟨hi, q⟩ h
  · refine absurd ⟨by omega, ?_⟩ h
    have hkl : k < l.length := by omega
    have h1 := (List.pairwise_iff_getElem.1 hs) k i hkl hi e
    have e1 : l.getD k zD = l[k] := by rw [List.getD_eq_getElem?_getD, List.getElem?_eq_getElem hkl]; rfl
    have e2 : l.getD i zD = l[i] := by rw [List.getD_eq_getElem?_getD, List.getElem?_eq_getElem hi]; rfl
    rw [e1]; rw [e2] at q
    exact cmpD.trans h1 q
theorem cmL_end {α : Type} {cm : α → α → Int} {d : α} {a b : List α} {k : Nat} (h : ∀ i, i < k → i < a.length ∧ i < b.length ∧ cm (a.getD i d) (b.getD i d) = 0) (h1 : ¬ (k < a.length ∧ k < b.length)) : cmZ (a.length : Int) (b.length : Int) = cmL cm a b := by
  by_cases e1 : k < a.length
  · have e2 : b.length ≤ k := by omega
    rw [cmL_more h e1 e2]
    exact cmZ_g (decide_eq_false (by omega)) (decide_eq_true (by omega))
  · by_cases e2 : k < b.length
    · rw [cmL_less h (by omega) e2]; exact cmZ_l (decide_eq_true (by omega))
    · have hk : a.length = b.length := by
        rcases Nat.eq_zero_or_pos k with q | q
        · omega
        · have := h (k - 1) (by omega); omega
      rw [cmL_same h (by omega) (by omega), hk]
      exact cmZ_e (decide_eq_false (by omega)) (decide_eq_false (by omega))
theorem cD_1 {a b : Drv} (h : ¬ a.1 = b.1) : cmS a.1 b.1 = cmD a b := by
  rw [cmD_eq, if_neg fun q => h (cmS_0.1 q)]
theorem cD_2 {a b : Drv} {k : Nat} (h : a.1 = b.1) (hI : ∀ i, i < k → i < a.2.1.length ∧ i < b.2.1.length ∧ cmS (a.2.1.getD i []) (b.2.1.getD i []) = 0) (h1 : k < a.2.1.length) (h2 : k < b.2.1.length) (hn : ¬ a.2.1.getD k [] = b.2.1.getD k []) : cmS (a.2.1.getD k []) (b.2.1.getD k []) = cmD a b := by
  have hne : cmS (a.2.1.getD k []) (b.2.1.getD k []) ≠ 0 := fun q => hn (cmS_0.1 q)
  rw [cmD_eq, if_pos (cmS_0.2 h), cmL_at hI h1 h2 hne, if_neg hne]
theorem cD_3 {a b : Drv} {k : Nat} (h : a.1 = b.1) (hI : ∀ i, i < k → i < a.2.1.length ∧ i < b.2.1.length ∧ cmS (a.2.1.getD i []) (b.2.1.getD i []) = 0) (h1 : ¬ (k < a.2.1.length ∧ k < b.2.1.length)) (hn : ¬ (a.2.1.length : Int) = b.2.1.length) : cmZ (a.2.1.length : Int) (b.2.1.length : Int) = cmD a b := by
  have e := cmL_end hI h1
  have hne : ¬ cmL cmS a.2.1 b.2.1 = 0 := fun q => hn (cmZ_0.1 (e.trans q))
  rw [cmD_eq, if_pos (cmS_0.2 h), if_neg hne, e]
theorem cD_4 {a b : Drv} {k : Nat} (h : a.1 = b.1) (hI : ∀ i, i < k → i < a.2.1.length ∧ i < b.2.1.length ∧ cmS (a.2.1.getD i []) (b.2.1.getD i []) = 0) (h1 : ¬ (k < a.2.1.length ∧ k < b.2.1.length)) (hn : (a.2.1.length : Int) = b.2.1.length) : cmL cmZ a.2.2 b.2.2 = cmD a b := by
  have e := cmL_end hI h1
  rw [cmD_eq, if_pos (cmS_0.2 h), if_pos (by rw [← e, hn]; exact cmpZ.refl _)]
theorem hasZ_y {l : List Int} {n : Int} {k : Nat} (hk : k < l.length) (h : l.getD k 0 = n) : true = decide (n ∈ l) := by
  subst h; exact (decide_eq_true (getD_mem' 0 hk)).symm
theorem hasZ_n {l : List Int} {n : Int} (h : ∀ i, i < l.length → ¬ l.getD i 0 = n) : false = decide (n ∈ l) := by
  refine (decide_eq_false fun hm => ?_).symm
  obtain ⟨i, hi, e⟩ := List.mem_iff_getElem.1 hm
  exact h i hi (by rw [List.getD_eq_getElem?_getD, List.getElem?_eq_getElem hi]; exact e)
theorem same_len {α : Type} [DecidableEq α] {a b : List α} (h : ¬ (a.length : Int) = b.length) : false = decide (a = b) := (decide_eq_false fun e => h (by rw [e])).symm
theorem same_at {α : Type} [DecidableEq α] (d : α) {a b : List α} {k : Nat} (h : ¬ a.getD k d = b.getD k d) : false = decide (a = b) := (decide_eq_false fun e => h (by rw [e])).symm
theorem same_all {α : Type} [DecidableEq α] (d : α) {a b : List α} (hl : (a.length : Int) = b.length) (h : ∀ i, i < a.length → a.getD i d = b.getD i d) : true = decide (a = b) := (decide_eq_true (eqD d (by omega) h)).symm
theorem inZ_n {a l : List Int} {k : Nat} (hk : k < a.length) (h : ¬ a.getD k 0 ∈ l) : false = a.all fun n => decide (n ∈ l) := (all_noD (p := fun n => decide (n ∈ l)) 0 hk (decide_eq_false h)).symm
theorem inZ_y {a l : List Int} (h : ∀ i, i < a.length → a.getD i 0 ∈ l) : true = a.all fun n => decide (n ∈ l) := (all_yesD (p := fun n => decide (n ∈ l)) 0 fun i hi => decide_eq_true (h i hi)).symm
end Go.AM
end

section
/- What the reference makes: names, derivations, books. -/
namespace Go.AM
open Go Go.RowKit
def nameL : List Str := [[97], [98], [99], [99, 58, 45, 50, 51], [100], [101, 58, 55, 58, 49, 58, 50], [102], [103]]
def nameS (n : Nat) : Str := nameL.getD (n % 8) []
def bitsL (f n : Nat) : List Nat := (List.range n).filter f.testBit
theorem bitsL_y {f k : Nat} (h : f.testBit k = true) : bitsL f (k + 1) = bitsL f k ++ [k] := by
  unfold bitsL; rw [List.range_succ, List.filter_append, List.filter_cons_of_pos h]; rfl
theorem bitsL_n {f k : Nat} (h : f.testBit k = false) : bitsL f (k + 1) = bitsL f k := by
  unfold bitsL; rw [List.range_succ, List.filter_append, List.filter_cons_of_neg (by rw [h]; simp)]; exact List.append_nil _
theorem bitsL_len (f n : Nat) : (bitsL f n).length ≤ n := by
  have := List.length_filter_le f.testBit (List.range n); rwa [List.length_range] at this
theorem bit_q (f k : Nat) : f.testBit k = decide (((f / 2 ^ k &&& 1 : Nat) : Int) = 1) := by
  rw [Nat.testBit_eq_decide_div_mod_eq, Nat.and_one_is_mod]
  congr 1; rw [eq_iff_iff]; omega
def frF (f k : Nat) : List Str := (bitsL f k).map nameS
def hyF (f k : Nat) : List Int := (bitsL f k).map fun i : Nat => (i : Int) + 1
theorem frF_y {f k : Nat} (h : ((f / 2 ^ k &&& 1 : Nat) : Int) = 1) : frF f k ++ [nameS k] = frF f (k + 1) := by
  unfold frF; rw [bitsL_y (by rw [bit_q]; exact decide_eq_true h), List.map_append]; rfl
theorem frF_n {f k : Nat} (h : ¬ ((f / 2 ^ k &&& 1 : Nat) : Int) = 1) : frF f k = frF f (k + 1) := by
  unfold frF; rw [bitsL_n (by rw [bit_q]; exact decide_eq_false h)]
theorem hyF_y {f k : Nat} (h : ((f / 2 ^ k &&& 1 : Nat) : Int) = 1) : hyF f k ++ [(k : Int) + 1] = hyF f (k + 1) := by
  unfold hyF; rw [bitsL_y (by rw [bit_q]; exact decide_eq_true h), List.map_append]; rfl
theorem hyF_n {f k : Nat} (h : ¬ ((f / 2 ^ k &&& 1 : Nat) : Int) = 1) : hyF f k = hyF f (k + 1) := by
  unfold hyF; rw [bitsL_n (by rw [bit_q]; exact decide_eq_false h)]
theorem frF_len (f k : Nat) : (frF f k).length ≤ k := by unfold frF; rw [List.length_map]; exact bitsL_len f k
theorem hyF_len (f k : Nat) : (hyF f k).length ≤ k := by unfold hyF; rw [List.length_map]; exact bitsL_len f k
abbrev Raw := UInt8 × UInt8 × UInt8
abbrev u8d (x : UInt8) : DV := .v (.int .u8 (x.toNat : Int))
abbrev enR (x : Raw) : List DV := [u8d x.1, u8d x.2.1, u8d x.2.2]
theorem enR_len : ∀ x, (enR x).length = 3 := fun _ => rfl
abbrev zR : Raw := (0, 0, 0)
def oneD (x : Raw) : Drv := (nameS x.1.toNat, frF x.2.1.toNat 8, hyF x.2.2.toNat 4)
abbrev addC0 (D : List Drv) (d : Drv) : DV := SL enD (addB (D, []) d).1
def addC1 (D : List Drv) (g : DV) (d : Drv) : DV := if addE (D, []) d = 0 then g else .sl 0 []
theorem addC_n {D : List Drv} {g : DV} {d : Drv} {n : Int} (h : addE (D, []) d = n) (hn : n ≠ 0) : ([addC0 D d, addC1 D g d] : List DV) = [.sl 0 [], .sl 0 []] := by
  have : ¬ addE (D, []) d = 0 := by rw [h]; exact hn
  unfold addC0 addC1 addB
  rw [if_neg this, if_neg this]; rfl
theorem addC_y {D : List Drv} {g : DV} {d : Drv} (h : addE (D, []) d = 0) : ([addC0 D d, addC1 D g d] : List DV) = [SL enD ([] ++ D.take (lessN D d) ++ [d] ++ D.drop (lessN D d)), g] := by
  unfold addC0 addC1 addB
  rw [if_pos h, if_pos h, List.nil_append, List.append_assoc]; rfl
theorem ins_mem {l : List Drv} {d x : Drv} {n : Nat} : x ∈ l.take n ++ d :: l.drop n ↔ x = d ∨ x ∈ l := by
  rw [List.mem_append, List.mem_cons]
  constructor
  · rintro (h | h | h)
    · exact .inr (List.mem_of_mem_take h)
    · exact .inl h
    · exact .inr (List.mem_of_mem_drop h)
  · rintro (h | h)
    · exact .inr (.inl h)
    · rw [← List.take_append_drop n l, List.mem_append] at h
      exact h.imp id .inr
theorem cut_lt {l : List Drv} {d x : Drv} (hs : SrtD l) (hx : x ∈ l.take (lessN l d)) : cmD x d < 0 := by
  obtain ⟨i, hi, rfl⟩ := List.mem_iff_getElem.1 hx
  rw [List.length_take] at hi
  have := (lessN_cut (d := d) hs).iff i (by omega)
  rw [List.getElem_take]
  have e : l.getD i zD = l[i]'(by omega) := by rw [List.getD_eq_getElem?_getD, List.getElem?_eq_getElem (by omega)]; rfl
  rw [← e]; exact this.2 (by omega)
theorem cut_ge {l : List Drv} {d x : Drv} (hs : SrtD l) (hx : x ∈ l.drop (lessN l d)) : ¬ cmD x d < 0 := by
  obtain ⟨i, hi, rfl⟩ := List.mem_iff_getElem.1 hx
  rw [List.length_drop] at hi
  have := (lessN_cut (d := d) hs).iff (lessN l d + i) (by omega)
  rw [List.getElem_drop]
  have e : l.getD (lessN l d + i) zD = l[lessN l d + i]'(by omega) := by rw [List.getD_eq_getElem?_getD, List.getElem?_eq_getElem (by omega)]; rfl
  rw [← e]; exact fun q => by have := this.1 q; omega
theorem ins_srt {l : List Drv} {d : Drv} (hs : SrtD l) (hn : d ∉ l) : SrtD (l.take (lessN l d) ++ d :: l.drop (lessN l d)) := by
  have hd : ∀ x ∈ l.drop (lessN l d), cmD d x < 0 := fun x hx => by
    have h1 := cut_ge hs hx
    have h2 := cmpD.rev x d
    have h3 : ¬ cmD x d = 0 := fun q => hn (by rw [← cmpD.zero.1 q]; exact List.mem_of_mem_drop hx)
    omega
  refine List.pairwise_append.2 ⟨hs.sublist (List.take_sublist _ _), List.pairwise_cons.2 ⟨hd, hs.sublist (List.drop_sublist _ _)⟩, fun a ha b hb => ?_⟩
  have h1 := cut_lt hs ha
  rcases List.mem_cons.1 hb with rfl | hb
  · exact h1
  · exact cmpD.trans h1 (hd b hb)
theorem addE_0 {b : Book} {d : Drv} (hs : SrtD b.1) (h : addE b d = 0) : rightD d = true ∧ d ∉ b.1 ∧ b.1.length ≠ 60 := by
  unfold addE at h
  split at h
  · cases h
  · next h1 =>
    split at h
    · cases h
    · next h2 =>
      split at h
      · cases h
      · next h3 => exact ⟨by simpa using h1, fun q => h2 ((hasD_iff hs).2 q), h3⟩
theorem addB_srt {b : Book} {d : Drv} (hs : SrtD b.1) : SrtD (addB b d).1 := by
  unfold addB
  split
  · next h => exact ins_srt hs (addE_0 hs h).2.1
  · exact .nil
theorem addB_mem {b : Book} {d x : Drv} (h : addE b d = 0) : x ∈ (addB b d).1 ↔ x = d ∨ x ∈ b.1 := by
  unfold addB; rw [if_pos h]; exact ins_mem
theorem addB_len {b : Book} {d : Drv} (h : addE b d = 0) : (addB b d).1.length = b.1.length + 1 := by
  unfold addB; rw [if_pos h]
  simp only [List.length_append, List.length_take, List.length_cons, List.length_drop]; omega
def mkD (R : List Raw) : Nat → List Drv
  | 0 => []
  | k + 1 => if addE (mkD R k, []) (oneD (R.getD k zR)) = 0 then (addB (mkD R k, []) (oneD (R.getD k zR))).1 else mkD R k
theorem mkD_y {R : List Raw} {k : Nat} (h : addE (mkD R k, []) (oneD (R.getD k zR)) = 0) : (addB (mkD R k, []) (oneD (R.getD k zR))).1 = mkD R (k + 1) := (if_pos h).symm
theorem mkD_n {R : List Raw} {k : Nat} (h : ¬ addE (mkD R k, []) (oneD (R.getD k zR)) = 0) : mkD R k = mkD R (k + 1) := (if_neg h).symm
theorem mkD_srt (R : List Raw) : ∀ k, SrtD (mkD R k)
  | 0 => .nil
  | k + 1 => by
    unfold mkD; split
    · exact addB_srt (b := (mkD R k, [])) (mkD_srt R k)
    · exact mkD_srt R k
theorem mkD_len (R : List Raw) : ∀ k, (mkD R k).length ≤ k
  | 0 => Nat.le_refl _
  | k + 1 => by
    have := mkD_len R k
    unfold mkD; split
    · next h => rw [addB_len h]; show (mkD R k).length + 1 ≤ k + 1; omega
    · omega
theorem mkD_right (R : List Raw) : ∀ k, ∀ d ∈ mkD R k, rightD d = true
  | 0 => fun d h => by cases h
  | k + 1 => fun d hd => by
    unfold mkD at hd; split at hd
    · next h =>
      rcases (addB_mem h).1 hd with rfl | hd
      · exact (addE_0 (mkD_srt R k) h).1
      · exact mkD_right R k d hd
    · exact mkD_right R k d hd
def madeB (R : List Raw) (g : UInt8) : Book := (mkD R (min R.length 8), hyF g.toNat 8)
theorem made_end {R : List Raw} {k : Nat} (h1 : k ≤ R.length ∧ k ≤ 8) (h2 : ¬ (k < R.length ∧ k < 8)) : k = min R.length 8 := by omega
end Go.AM
end

section
/- The example of chapter 30; what claims rest on. -/
namespace Go.AM
open Go Go.RowKit
/-- on what a claim rests -/
def usL (b : Book) (s : Str) : List Str := srtS (lkD (rFin b) (rkD (rFin b) s) s [])
theorem us_mem {b : Book} {s x : Str} : x ∈ usL b s ↔ Rch (rFin b) s x :=
  srtS_mem.trans (lkD_mem (f := rFin b) (down_rds b.1 (okM (bm b.2)) (b.1.length + 1)) (Nat.le_refl _))
theorem us_srt (b : Book) (s : Str) : SrtS (usL b s) := srtS_srt (lkD_nodup (down_rds b.1 (okM (bm b.2)) (b.1.length + 1)) (Nat.le_refl _))
theorem rch_cls {b : Book} {s x : Str} (h : Rch (rFin b) s x) : x ∈ cls (rFin b) := by
  induction h with
  | one h => exact (frm_lt h).1
  | more _ k _ => exact (frm_lt k).1
theorem us_len (b : Book) (s : Str) : (lkD (rFin b) (rkD (rFin b) s) s []).length ≤ b.1.length := by
  have hd := down_rds b.1 (okM (bm b.2)) (b.1.length + 1)
  have h1 := nodup_le (lkD_nodup hd (n := rkD (rFin b) s) (s := s) (Nat.le_refl _)) (B := cls (rFin b)) fun x hx => rch_cls ((lkD_mem hd (Nat.le_refl _)).1 hx)
  refine Nat.le_trans h1 ?_
  unfold cls; rw [List.length_map]
  exact fin_len _
/-- the least sets, said by what follows -/
theorem ndL_eq {D : List Drv} {c : Str} {l : List (List Int)} (hs : SrtL l) (h1 : ∀ m, m < 131072 → isMin D c m → lsB m ∈ l) (h2 : ∀ x ∈ l, ∃ m, m < 131072 ∧ isMin D c m ∧ x = lsB m) : ndL D c = l :=
  srtL_uniq (ndL_lt D c) hs fun x => ⟨fun h => by obtain ⟨m, q1, q2, rfl⟩ := ndL_mem.1 h; exact h1 m q1 q2, fun h => ndL_mem.2 (h2 x h)⟩
theorem min_zero {D : List Drv} {c : Str} (h : Dvd D (okM 0) c) : ndL D c = [[]] := by
  have h0 : isMin D c 0 := ⟨h, fun t ht hn => absurd (by have : t &&& 0 = t := ht; rw [Nat.and_zero] at this; exact this.symm) hn⟩
  refine ndL_eq (List.pairwise_singleton _ _) (fun m _ hm => ?_) fun x hx => ⟨0, by decide, h0, by rw [List.mem_singleton.1 hx]; rfl⟩
  by_cases e : m = 0
  · subst e; exact List.mem_singleton.2 rfl
  · exact absurd h (hm.2 0 (Nat.zero_and m) fun q => e q.symm)
abbrev cA : Str := [97]
abbrev cB : Str := [98]
abbrev cC : Str := [99]
def exL : List Drv := [(cA, [], []), (cB, [cA], [2]), (cC, [cB], []), (cC, [], [1, 3])]
def exX : List Drv := [(cA, [], []), (cB, [cA], [2]), (cC, [], [1, 3]), (cC, [cB], [])]
def exT : List (List Drv) := [[], [(cA, [], [])], [(cA, [], []), (cB, [cA], [2])], [(cA, [], []), (cB, [cA], [2]), (cC, [cB], [])], exX]
def exS (k : Nat) : Book := (exT.getD k [], [2])
theorem ex_grant : grantB ([], []) 2 = exS 0 := by decide +kernel
theorem ex_step (k : Nat) (h : k < 4) : addE (exS k) (exL.getD k zD) = 0 ∧ addB (exS k) (exL.getD k zD) = exS (k + 1) := by
  have : k = 0 ∨ k = 1 ∨ k = 2 ∨ k = 3 := by omega
  rcases this with rfl | rfl | rfl | rfl <;> decide +kernel
theorem ex_srt (k : Nat) (h : k ≤ 4) : SrtD (exS k).1 := by
  have : k = 0 ∨ k = 1 ∨ k = 2 ∨ k = 3 ∨ k = 4 := by omega
  rcases this with rfl | rfl | rfl | rfl | rfl <;> decide +kernel
theorem ex_len (k : Nat) (h : k ≤ 4) : (exS k).1.length = k := by
  have : k = 0 ∨ k = 1 ∨ k = 2 ∨ k = 3 ∨ k = 4 := by omega
  rcases this with rfl | rfl | rfl | rfl | rfl <;> decide +kernel
theorem ex_hok : hok [2] := by unfold hok; decide
theorem ex_hokD : hokD exX := by unfold hokD hok; decide +kernel
def exZ : Book := ([(cA, [], []), (cB, [], []), (cB, [cA], [2]), (cC, [], [1, 3]), (cC, [cB], [])], [2])
theorem ex_z : addB (exS 4) (cB, [], []) = exZ ∧ addE (exS 4) (cB, [], []) = 0 := by decide +kernel
theorem ex_y : withdrawB (exS 4) 2 = (exX, []) := by decide +kernel
theorem exZ_hokD : hokD exZ.1 := by unfold hokD hok; decide +kernel
theorem dvd_exX {m : Nat} {c : Str} (h : Dvd exX (okM m) c) : (c = cB → sb 4 m) ∧ (c = cC → sb 10 m ∨ sb 4 m) := by
  induction h with
  | @mk d h h2 h3 ih =>
    have h4 : sb (bm d.2.2) m := of_decide_eq_true h2
    unfold exX at h
    rcases List.mem_cons.1 h with rfl | h
    · exact ⟨fun q => absurd q (by decide), fun q => absurd q (by decide)⟩
    rcases List.mem_cons.1 h with rfl | h
    · exact ⟨fun _ => h4, fun q => absurd q (by decide)⟩
    rcases List.mem_cons.1 h with rfl | h
    · exact ⟨fun q => absurd q (by decide), fun _ => .inl h4⟩
    · rw [List.mem_singleton] at h; subst h
      exact ⟨fun q => absurd q (by decide), fun _ => .inr ((ih cB (by simp)).1 rfl)⟩
theorem ex_d10 : Dvd exX (okM 10) cC := dv_fin.2 (by decide +kernel)
theorem ex_d4 : Dvd exX (okM 4) cC := dv_fin.2 (by decide +kernel)
theorem ex_min10 : isMin exX cC 10 := ⟨ex_d10, fun t ht hn h => by
  rcases (dvd_exX h).2 rfl with q | q
  · exact hn (sb_antisymm ht q)
  · exact absurd (sb_trans q ht) (by decide)⟩
theorem ex_min4 : isMin exX cC 4 := ⟨ex_d4, fun t ht hn h => by
  rcases (dvd_exX h).2 rfl with q | q
  · exact absurd (sb_trans q ht) (by decide)
  · exact hn (sb_antisymm ht q)⟩
theorem ex_nd : ndL exX cC = [[1, 3], [2]] := by
  refine ndL_eq (by decide +kernel) (fun m _ hm => ?_) fun x hx => ?_
  · rcases (dvd_exX hm.1).2 rfl with q | q
    · have : m = 10 := Classical.byContradiction fun e => hm.2 10 q (fun z => e z.symm) ex_d10
      subst this; decide +kernel
    · have : m = 4 := Classical.byContradiction fun e => hm.2 4 q (fun z => e z.symm) ex_d4
      subst this; decide +kernel
  · rcases List.mem_cons.1 hx with rfl | hx
    · exact ⟨10, by decide, ex_min10, by decide +kernel⟩
    · rw [List.mem_singleton] at hx; subst hx
      exact ⟨4, by decide, ex_min4, by decide +kernel⟩
theorem ex_ndz : ndL exZ.1 cC = [[]] := min_zero (dv_fin.2 (by decide +kernel))
theorem srtS_eq {l l' : List Str} (h : SrtS l') (hn : l.Nodup) (hm : ∀ x, x ∈ l ↔ x ∈ l') : srtS l = l' := srtS_uniq (srtS_srt hn) h fun x => srtS_mem.trans (hm x)
theorem ex_us : usL (exS 4) cC = [cA, cB] := by
  have e : lkD (rFin (exS 4)) (rkD (rFin (exS 4)) cC) cC [] = [cB, cA] := by decide +kernel
  unfold usL; rw [e]
  exact srtS_eq (by decide +kernel) (by decide +kernel) fun x => by simp [or_comm]
theorem ex_usz : usL exZ cC = [cB] := by
  have e : lkD (rFin exZ) (rkD (rFin exZ) cC) cC [] = [cB] := by decide +kernel
  unfold usL; rw [e]
  exact srtS_eq (by decide +kernel) (by decide +kernel) fun x => Iff.rfl
end Go.AM
end

section
/- What the laws of chapter 30 say, without the program. -/
namespace Go.AM
open Go Go.RowKit
theorem hok_right {d : Drv} (h : rightD d = true) : hok d.2.2 := fun n hn => by
  unfold rightD at h
  simp only [Bool.and_eq_true] at h
  have h1 := h.2
  unfold hypsB at h1
  simp only [Bool.and_eq_true] at h1
  have := List.all_eq_true.1 h1.2 n hn
  unfold hypB at this
  have := of_decide_eq_true this
  omega
theorem made_len (R : List Raw) (g : UInt8) : (madeB R g).1.length ≤ 8 := Nat.le_trans (mkD_len R _) (Nat.min_le_right _ _)
theorem made_right (R : List Raw) (g : UInt8) : ∀ d ∈ (madeB R g).1, rightD d = true := mkD_right R _
theorem made_okD (R : List Raw) (g : UInt8) : hokD (madeB R g).1 := fun d hd => hok_right (made_right R g d hd)
theorem made_mem {g : UInt8} {R : List Raw} {n : Int} (h : n ∈ (madeB R g).2) : 1 ≤ n ∧ n ≤ 8 := by
  obtain ⟨i, hi, rfl⟩ := List.mem_map.1 (show n ∈ hyF g.toNat 8 from h)
  have := List.mem_range.1 (List.mem_filter.1 hi).1
  omega
theorem made_ok (R : List Raw) (g : UInt8) : hok (madeB R g).2 := fun n hn => by have := made_mem hn; omega
theorem made_le (R : List Raw) (g : UInt8) : (madeB R g).1.length ≤ 1000000 := Nat.le_trans (made_len R g) (by decide)
section
end
theorem any_s {α : Type} {p : α → Bool} {l : List α} (d : α) {k : Nat} (h : k < l.length) : (l.take (k + 1)).any p = ((l.take k).any p || p (l.getD k d)) := by
  rw [List.take_add_one, List.getElem?_eq_getElem h, Option.toList_some, List.any_append, List.getD_eq_getElem?_getD, List.getElem?_eq_getElem h]
  simp
theorem any_y {α : Type} {p : α → Bool} {l : List α} (d : α) {k : Nat} (h : k < l.length) (q : (l.take k).any p = true) : true = (l.take (k + 1)).any p := by rw [any_s d h, q]; rfl
theorem any_n {α : Type} {p : α → Bool} {l : List α} (d : α) {k : Nat} (h : k < l.length) (q : (l.take k).any p = false) : p (l.getD k d) = (l.take (k + 1)).any p := by rw [any_s d h, q]; rfl
end Go.AM
end

section
/- In whatever order. -/
namespace Go.AM
open Go Go.RowKit
end Go.AM
end

section
/- With more, nothing is lost. -/
namespace Go.AM
open Go Go.RowKit
theorem bitsL_lt {f k : Nat} {i : Nat} (h : i ∈ bitsL f k) : i < k := List.mem_range.1 (List.mem_filter.1 h).1
section
end
theorem all_s {α : Type} {p : α → Bool} {l : List α} (d : α) {k : Nat} (h : k < l.length) : (l.take (k + 1)).all p = ((l.take k).all p && p (l.getD k d)) := by
  rw [List.take_add_one, List.getElem?_eq_getElem h, Option.toList_some, List.all_append, List.getD_eq_getElem?_getD, List.getElem?_eq_getElem h]
  simp
end Go.AM
end

section
/- The reference's Grant and Withdraw give the same lists; the law MatchesReference. -/
namespace Go.AM
open Go Go.RowKit
end Go.AM
end

section
/- A book of few. -/
namespace Go.AM
open Go Go.RowKit
end Go.AM
end

section
/- The reference's rounds. -/
namespace Go.AM
open Go Go.RowKit
section
variable {P : Program} {dst : Option Nat} {d : Nat} {own : Own}
/-- an operation on values, of which two are slices of the call's own -/
theorem Eff.frzT2 {β γ : Type} {encB : β → List DV} {encC : γ → List DV} {z y : Nat} (hL : ∀ b, (encB b).length = z) (hM : ∀ b, (encC b).length = y) (hz : Nat.blt 0 z = true) (hy : Nat.blt 0 y = true) (t m u n : Nat) {l : List β} {k : List γ} {e f : TypeId} {o : Oper} {regs : Regs} {v : AV}
    (ht : regs t = .vec m) (hu : regs u = .vec n) (hb : own m = some (VB z e encB l)) (hc : own n = some (VB y f encC k)) (hmn : Nat.beq m n = false) (htu : Nat.beq t u = false) (hin : ∀ own, Eff P o d (ev (upd (upd regs t (.p (.c (SL encB l)))) u (.p (.c (SL encC k))))) own v [] none []) :
    Eff P o d (ev regs) own v [(m, none), (n, none)] none [m, n] := by
  have hne : n ≠ m := fun e => by rw [e, Nat.beq_refl] at hmn; cases hmn
  have hne2 : u ≠ t := fun e => by rw [e, Nat.beq_refl] at htu; cases htu
  intro C h r own' a w K Q hrep hrd hw _ hK
  obtain ⟨h2, g1, g2, g3⟩ := hw.frz ((hrd m (by simp)).trans hb) rfl (n := l.length) (flat_len hL l).symm (show 0 < z by simpa using hz)
  obtain ⟨h3, g4, g5, g6⟩ := g2.frz (m := n) (n := k.length) (by rw [upd_ne _ _ _ _ hne]; exact (hrd n (by simp)).trans hc) rfl (flat_len hM k).symm (show 0 < y by simpa using hy)
  refine hin (upd (upd own' m none) n none) C h3 r (upd (upd own' m none) n none) a w K Q (fun x hx => ?_) (fun _ q => by cases q) g5 (fun q => absurd rfl q) (fun x h' r' w' q1 q2 q3 q4 => hK x h' r' w' ((g1.trans g4).trans q1) (fun m _ => q2 m fun z => absurd rfl z) q3 q4)
  have hr := hrep x hx
  cases x with
  | tmp q =>
    show AVRep h3 r (upd (upd regs t _) u _ q) _
    have hr' : AVRep h r (regs q) _ := hr
    by_cases e1 : q = u
    · subst e1
      rw [hu] at hr'
      rw [upd_same]
      have e3 : a.eval (.tmp q) = r n := hr'
      show DRep _ _ _
      rw [e3]; exact g6
    · rw [upd_ne _ _ _ _ e1]
      by_cases e2 : q = t
      · subst e2
        rw [ht] at hr'
        rw [upd_same]
        have e3 : a.eval (.tmp q) = r m := hr'
        show DRep _ _ _
        rw [e3]; exact DRep.mono g4 _ _ g3
      · rw [upd_ne _ _ _ _ e2]
        exact AVRep.mono (g1.trans g4) _ _ hr'
  | _ => exact AVRep.mono (g1.trans g4) _ _ hr
end
def rks (f : Fnd) : List Int := f.map fun x => (x.2 : Int)
theorem fnd_n1 {S : List Str} {hs : List Int} {d : Drv} {k : Nat} (hk : k < d.2.1.length) (h : ¬ d.2.1.getD k [] ∈ S) : false = canU S (okL hs) d := by
  unfold canU; rw [all_noD (p := fun s => decide (s ∈ S)) [] hk (decide_eq_false h), Bool.and_false]
theorem fnd_y {S : List Str} {hs : List Int} {d : Drv} (h : ∀ i, i < d.2.1.length → d.2.1.getD i [] ∈ S) : (d.2.2.all fun n => decide (n ∈ hs)) = canU S (okL hs) d := by
  unfold canU; rw [all_yesD (p := fun s => decide (s ∈ S)) [] fun i hi => decide_eq_true (h i hi), Bool.and_true]; rfl
theorem rd_y {S : List Str} {ok : Drv → Bool} {r : Nat} {nx : Fnd} {d : Drv} (h1 : d.1 ∉ cls nx) (h2 : canU S ok d = true) : cls (rnd1 S ok r nx d) = [] ++ cls nx ++ [d.1] ∧ rks (rnd1 S ok r nx d) = [] ++ rks nx ++ [(r : Int)] := by
  unfold rnd1; rw [if_pos ⟨h1, h2⟩]
  unfold cls rks; simp
theorem rd_n1 {S : List Str} {ok : Drv → Bool} {r : Nat} {nx : Fnd} {d : Drv} (h1 : d.1 ∈ cls nx) : rnd1 S ok r nx d = nx := by
  unfold rnd1; rw [if_neg fun q => q.1 h1]
theorem rd_n2 {S : List Str} {ok : Drv → Bool} {r : Nat} {nx : Fnd} {d : Drv} (h1 : canU S ok d = false) : rnd1 S ok r nx d = nx := by
  unfold rnd1; rw [if_neg fun q => by rw [h1] at q; cases q.2]
theorem rndL_take {S : List Str} {ok : Drv → Bool} {r : Nat} {D : List Drv} {nx : Fnd} {j : Nat} (hj : j < D.length) : rndL S ok r (D.take (j + 1)) nx = rnd1 S ok r (rndL S ok r (D.take j) nx) (D.getD j zD) := by
  rw [List.take_add_one, List.getElem?_eq_getElem hj, Option.toList_some, rndL_snoc, List.getD_eq_getElem?_getD, List.getElem?_eq_getElem hj]; rfl
theorem cls_len (f : Fnd) : (cls f).length = f.length := by unfold cls; rw [List.length_map]
theorem rks_len (f : Fnd) : (rks f).length = f.length := by unfold rks; rw [List.length_map]
end Go.AM
end

section
/- Facts for the walk of the reference's rounds. -/
namespace Go.AM
open Go Go.RowKit
theorem pl_any (l : List Str) (s : Str) : 0 ≤ fiX (fun x : Str => decide (x = s)) l ↔ s ∈ l := by
  have h := fiX_any (fun x : Str => decide (x = s)) l
  rw [Bool.eq_iff_iff, decide_eq_true_iff, List.any_eq_true] at h
  rw [h]
  exact ⟨fun ⟨x, h1, h2⟩ => of_decide_eq_true h2 ▸ h1, fun h => ⟨s, h, decide_eq_true rfl⟩⟩
theorem pl_n {l : List Str} {s : Str} (h : fiX (fun x : Str => decide (x = s)) l < 0) : ¬ s ∈ l := fun q => by have := (pl_any l s).2 q; omega
theorem pl_y {l : List Str} {s : Str} (h : ¬ fiX (fun x : Str => decide (x = s)) l < 0) : s ∈ l := (pl_any l s).1 (by omega)
theorem rnd_end {b : Book} {hs : List Int} {k j : Nat} (h : b.1.length ≤ j) : rndL (cls (rds b.1 (okL hs) k)) (okL hs) (k + 1) (b.1.take j) (rds b.1 (okL hs) k) = rds b.1 (okL hs) (k + 1) := by
  rw [List.take_of_length_le h]; rfl
theorem rndL_grow (S : List Str) (ok : Drv → Bool) (r : Nat) : ∀ (D : List Drv) (nx : Fnd), (rndL S ok r D nx).length ≤ nx.length + D.length
  | [], nx => Nat.le_refl _
  | d :: D, nx => by
    rw [rndL_cons]
    have h1 := rndL_grow S ok r D (rnd1 S ok r nx d)
    have h2 : (rnd1 S ok r nx d).length ≤ nx.length + 1 := by
      unfold rnd1; split
      · simp
      · omega
    rw [List.length_cons]; omega
theorem rd_own {S : List Str} {ok : Drv → Bool} {r : Nat} {nx nx' : Fnd} {d : Drv} {C : List Str} {Z : List Int} (h1 : cls (rnd1 S ok r nx d) = C) (h2 : rks (rnd1 S ok r nx d) = Z) (h3 : nx' = rnd1 S ok r nx d) : (some (⟨false, 1, 97, [SL enS C, SL enZ Z]⟩ : Blk)) = some ⟨false, 1, 97, [SL enS (cls nx'), SL enZ (rks nx')]⟩ := by
  subst h3 h1 h2; rfl
end Go.AM
end

section
/- Facts for the walks of the reference's Follows, minimal, used, added. -/
namespace Go.AM
open Go Go.RowKit
def folD (D : List Drv) (hs : List Int) (c : Str) : Bool := decide (c ∈ cls (finD D (okL hs)))
theorem fol_q {l : List Str} {s : Str} : decide (0 ≤ fiX (fun x : Str => decide (x = s)) l) = decide (s ∈ l) := by
  rw [Bool.eq_iff_iff, decide_eq_true_iff, decide_eq_true_iff]; exact pl_any l s
def lessL (l : List Int) (i : Nat) : List Int := l.take i ++ l.drop (i + 1)
def minB (D : List Drv) (hs : List Int) (c : Str) : Bool := folD D hs c && (List.range hs.length).all fun i => !folD D (lessL hs i) c
theorem min_1 {D : List Drv} {hs : List Int} {c : Str} (h : folD D hs c = false) : false = minB D hs c := by unfold minB; rw [h]; rfl
theorem min_2 {D : List Drv} {hs : List Int} {c : Str} {k : Nat} (hk : k < hs.length) (h : folD D (lessL hs k) c = true) : false = minB D hs c := by
  unfold minB
  have : ((List.range hs.length).all fun i => !folD D (lessL hs i) c) = false := by
    rw [List.all_eq_false]
    exact ⟨k, List.mem_range.2 hk, by rw [h]; simp⟩
  rw [this, Bool.and_false]
theorem min_y {D : List Drv} {hs : List Int} {c : Str} (h0 : folD D hs c = true) (h : ∀ i, i < hs.length → folD D (lessL hs i) c = false) : true = minB D hs c := by
  unfold minB
  rw [h0, Bool.true_and]
  symm
  rw [List.all_eq_true]
  intro i hi
  rw [h i (List.mem_range.1 hi)]; rfl
def usP (D : List Drv) (k : Nat) : Bool := D.any fun d => decide ((k : Int) ∈ d.2.2)
def usedL (D : List Drv) (n : Nat) : List Int := ((List.range n).filter fun k : Nat => decide (1 ≤ k) && usP D k).map fun i : Nat => (i : Int)
theorem usF_y {D : List Drv} {k : Nat} (h1 : 1 ≤ k) (h : usP D k = true) : usedL D k ++ [(k : Int)] = usedL D (k + 1) := by
  unfold usedL
  rw [List.range_succ, List.filter_append, List.filter_cons_of_pos, List.map_append]
  · rfl
  · rw [decide_eq_true h1, h]; rfl
theorem usF_n {D : List Drv} {k : Nat} (h : usP D k = false) : usedL D k = usedL D (k + 1) := by
  unfold usedL
  rw [List.range_succ, List.filter_append, List.filter_cons_of_neg]
  · simp
  · rw [h]; simp
theorem usF_len (D : List Drv) (n : Nat) : (usedL D n).length ≤ n := by
  unfold usedL; rw [List.length_map]
  exact Nat.le_trans (List.length_filter_le _ _) (by rw [List.length_range]; exact Nat.le_refl _)
/-- a text put into a sorted list -/
def addS (l : List Str) (s : Str) : List Str := l.takeWhile (fun x => ltS x s) ++ s :: l.dropWhile fun x => ltS x s
theorem addS_k {l : List Str} {s : Str} {k : Nat} (hk : k ≤ l.length) (hI : ∀ i, i < k → ltS (l.getD i []) s = true) (h : ¬ (k < l.length ∧ ltS (l.getD k []) s = true)) : [] ++ l.take k ++ [s] ++ l.drop k = addS l s := by
  have key : ∀ (l : List Str) (k : Nat), k ≤ l.length → (∀ i, i < k → ltS (l.getD i []) s = true) → ¬ (k < l.length ∧ ltS (l.getD k []) s = true) → l.take k = l.takeWhile (fun x => ltS x s) ∧ l.drop k = l.dropWhile fun x => ltS x s := by
    intro l
    induction l with
    | nil => intro k _ _ _; simp
    | cons x l ih =>
      intro k hk hI h
      cases k with
      | zero =>
        have hx : ¬ ltS x s = true := fun q => h ⟨by simp, q⟩
        rw [List.takeWhile_cons_of_neg (p := fun x => ltS x s) hx, List.dropWhile_cons_of_neg (p := fun x => ltS x s) hx]
        exact ⟨rfl, rfl⟩
      | succ k =>
        have hx : ltS x s = true := hI 0 (by omega)
        obtain ⟨e1, e2⟩ := ih k (by simpa using hk) (fun i hi => by have := hI (i + 1) (by omega); simpa using this) (fun q => h ⟨by simpa using q.1, by simpa using q.2⟩)
        rw [List.takeWhile_cons_of_pos (p := fun x => ltS x s) hx, List.dropWhile_cons_of_pos (p := fun x => ltS x s) hx, List.take_succ_cons, List.drop_succ_cons, e1, e2]
        exact ⟨rfl, rfl⟩
  obtain ⟨e1, e2⟩ := key l k hk hI h
  unfold addS
  rw [e1, e2, List.nil_append, List.append_assoc]; rfl
end Go.AM
end

section
/- The reference's Needs: all masks tried. -/
namespace Go.AM
open Go Go.RowKit
section ops
variable {P : Program} {dst : Option Nat} {ty : TypeId} {pos : String} {af : Array Edge} {gd : Option (Nat × Bool)} {d : Nat} {ρ : Operand → AV} {own : Own}
variable {T yT : TypeId} {x y : Operand} {m n : Nat}
theorem op_andI (hx : ρ x = .p (.c (.v (.int .i64 (m : Int))))) (hy : ρ y = .p (.c (.v (.int .i64 (n : Int))))) (hm : m < 9223372036854775808) (hn : n < 18446744073709551616) : Eff P ⟨dst, .binOp .and T x y yT, ty, pos, af, gd⟩ d ρ own (.p (.c (.v (.int .i64 ((m &&& n : Nat) : Int))))) [] none [] :=
  op_and hx hy (by
    have e : BitVec.ofInt 64 (m : Int) = BitVec.ofNat 64 m := BitVec.ofInt_natCast ..
    have e2 : BitVec.ofInt 64 (n : Int) = BitVec.ofNat 64 n := BitVec.ofInt_natCast ..
    have h1 : (BitVec.ofNat 64 m &&& BitVec.ofNat 64 n).toNat = m &&& n := by
      rw [BitVec.toNat_and, BitVec.toNat_ofNat, BitVec.toNat_ofNat, Nat.mod_eq_of_lt (by omega), Nat.mod_eq_of_lt (by omega)]
    have h2 : m &&& n ≤ m := Nat.and_le_left
    show IntKind.i64.wrap ((BitVec.ofInt 64 (m : Int) &&& BitVec.ofInt 64 (n : Int)).toNat : Int) = _
    rw [e, e2, h1, IntKind.wrap_i64]
    omega)
end ops
def subL (l : List Int) (m j : Nat) : List Int := (bitsL m j).map fun i => l.getD i 0
theorem subL_y {l : List Int} {m j : Nat} (h : ((m / 2 ^ j &&& 1 : Nat) : Int) = 1) : subL l m j ++ [l.getD j 0] = subL l m (j + 1) := by
  unfold subL; rw [bitsL_y (by rw [bit_q]; exact decide_eq_true h), List.map_append]; rfl
theorem subL_n {l : List Int} {m j : Nat} (h : ¬ ((m / 2 ^ j &&& 1 : Nat) : Int) = 1) : subL l m j = subL l m (j + 1) := by
  unfold subL; rw [bitsL_n (by rw [bit_q]; exact decide_eq_false h)]
theorem subL_len (l : List Int) (m j : Nat) : (subL l m j).length ≤ j := by unfold subL; rw [List.length_map]; exact bitsL_len m j
def insL (l : List (List Int)) (x : List Int) : List (List Int) := l.takeWhile (fun y => decide (cmL cmZ y x < 0)) ++ x :: l.dropWhile fun y => decide (cmL cmZ y x < 0)
theorem insL_k {l : List (List Int)} {x : List Int} {k : Nat} (hk : k ≤ l.length) (hI : ∀ i, i < k → cmL cmZ (l.getD i []) x < 0) (h : ¬ (k < l.length ∧ cmL cmZ (l.getD k []) x < 0)) : [] ++ l.take k ++ [x] ++ l.drop k = insL l x := by
  have key : ∀ (l : List (List Int)) (k : Nat), k ≤ l.length → (∀ i, i < k → cmL cmZ (l.getD i []) x < 0) → ¬ (k < l.length ∧ cmL cmZ (l.getD k []) x < 0) → l.take k = l.takeWhile (fun y => decide (cmL cmZ y x < 0)) ∧ l.drop k = l.dropWhile fun y => decide (cmL cmZ y x < 0) := by
    intro l
    induction l with
    | nil => intro k _ _ _; simp
    | cons y l ih =>
      intro k hk hI h
      cases k with
      | zero =>
        have hx : ¬ decide (cmL cmZ y x < 0) = true := fun q => h ⟨by simp, of_decide_eq_true q⟩
        rw [List.takeWhile_cons_of_neg (p := fun y => decide (cmL cmZ y x < 0)) hx, List.dropWhile_cons_of_neg (p := fun y => decide (cmL cmZ y x < 0)) hx]
        exact ⟨rfl, rfl⟩
      | succ k =>
        have hx : decide (cmL cmZ y x < 0) = true := decide_eq_true (hI 0 (by omega))
        obtain ⟨e1, e2⟩ := ih k (by simpa using hk) (fun i hi => by have := hI (i + 1) (by omega); simpa using this) (fun q => h ⟨by simpa using q.1, by simpa using q.2⟩)
        rw [List.takeWhile_cons_of_pos (p := fun y => decide (cmL cmZ y x < 0)) hx, List.dropWhile_cons_of_pos (p := fun y => decide (cmL cmZ y x < 0)) hx, List.take_succ_cons, List.drop_succ_cons, e1, e2]
        exact ⟨rfl, rfl⟩
  obtain ⟨e1, e2⟩ := key l k hk hI h
  unfold insL
  rw [e1, e2, List.nil_append, List.append_assoc]; rfl
def ndR (D : List Drv) (c : Str) (U : List Int) : Nat → List (List Int)
  | 0 => []
  | m + 1 => if minB D (subL U m U.length) c = true then insL (ndR D c U m) (subL U m U.length) else ndR D c U m
theorem ndR_y {D : List Drv} {c : Str} {U : List Int} {m : Nat} (h : minB D (subL U m U.length) c = true) : insL (ndR D c U m) (subL U m U.length) = ndR D c U (m + 1) := (if_pos h).symm
theorem ndR_n {D : List Drv} {c : Str} {U : List Int} {m : Nat} (h : minB D (subL U m U.length) c = false) : ndR D c U m = ndR D c U (m + 1) := (if_neg (by rw [h]; simp)).symm
theorem insL_len (l : List (List Int)) (x : List Int) : (insL l x).length = l.length + 1 := by
  unfold insL
  have h := congrArg List.length (List.takeWhile_append_dropWhile (p := fun y => decide (cmL cmZ y x < 0)) (l := l))
  rw [List.length_append] at h
  rw [List.length_append, List.length_cons]; omega
theorem ndR_len (D : List Drv) (c : Str) (U : List Int) : ∀ m, (ndR D c U m).length ≤ m
  | 0 => Nat.le_refl _
  | m + 1 => by
    have := ndR_len D c U m
    unfold ndR; split
    · rw [insL_len]; omega
    · omega
end Go.AM
namespace Go.AM
open Go Go.RowKit
theorem shl_q : ∀ n : Nat, n < 18 → IntKind.i64.wrap ((1 : Int) * 2 ^ (min ((n : Nat) : Int).toNat IntKind.i64.bits)) = ((2 ^ n : Nat) : Int) := by decide
theorem us_pow {D : List Drv} : 2 ^ (usedL D 17).length ≤ 131072 := Nat.le_trans (Nat.pow_le_pow_right (n := 2) (by decide) (usF_len D 17)) (by decide)
end Go.AM
end

section
/- The reference's Reason. -/
namespace Go.AM
open Go Go.RowKit
abbrev plI (f : Fnd) (s : Str) : Int := fiX (fun x : Str => decide (x = s)) (cls f)
theorem pl_lt {f : Fnd} {s : Str} (h : s ∈ cls f) : 0 ≤ plI f s ∧ plI f s < (rks f).length := by
  refine ⟨(pl_any _ _).2 h, ?_⟩
  have h1 := (pl_any _ _).2 h
  rw [rks_len, ← cls_len]
  unfold plI fiX at *
  split
  · next q => exact_mod_cast q
  · next q => rw [if_neg q] at h1; omega
def rkZ (f : Fnd) (s : Str) : Int := (rks f).getD (plI f s).toNat 0
def rsB (f : Fnd) (hs : List Int) (c : Str) (d : Drv) : Bool := decide (d.1 = c) && canU (cls f) (okL hs) d
def rsP (f : Fnd) (hs : List Int) (c : Str) (d : Drv) : Bool := rsB f hs c d && d.2.1.all fun s => decide (rkZ f s < rkZ f c)
theorem rs_in {f : Fnd} {hs : List Int} {c : Str} {d : Drv} {j : Nat} (h : rsB f hs c d = true) (hj : j < d.2.1.length) : d.2.1.getD j [] ∈ cls f := by
  unfold rsB at h
  simp only [Bool.and_eq_true] at h
  exact (canU_iff.1 h.2).2 _ (getD_mem' [] hj)
def rsI (D : List Drv) (f : Fnd) (hs : List Int) (c : Str) : Int := if c ∈ cls f then fiX (rsP f hs c) D else -1
theorem rsB_y {f : Fnd} {hs : List Int} {c : Str} {d : Drv} (h : d.1 = c) : canU (cls f) (okL hs) d = (rsB f hs c d && (d.2.1.take 0).all fun s => decide (rkZ f s < rkZ f c)) := by
  unfold rsB; rw [decide_eq_true h]; simp
theorem rsB_n {f : Fnd} {hs : List Int} {c : Str} {d : Drv} (h : ¬ d.1 = c) : false = (rsB f hs c d && (d.2.1.take 0).all fun s => decide (rkZ f s < rkZ f c)) := by
  unfold rsB; rw [decide_eq_false h]; simp
theorem rs_step {f : Fnd} {hs : List Int} {c : Str} {d : Drv} {j : Nat} (hj : j < d.2.1.length) (h : (rsB f hs c d && (d.2.1.take j).all fun s => decide (rkZ f s < rkZ f c)) = true) :
    decide (rkZ f (d.2.1.getD j []) < rkZ f c) = (rsB f hs c d && (d.2.1.take (j + 1)).all fun s => decide (rkZ f s < rkZ f c)) := by
  simp only [Bool.and_eq_true] at h
  rw [all_s [] hj, h.1, h.2]; rfl
theorem rs_end {f : Fnd} {hs : List Int} {c : Str} {d : Drv} {j : Nat} (h : d.2.1.length ≤ j) : (rsB f hs c d && (d.2.1.take j).all fun s => decide (rkZ f s < rkZ f c)) = rsP f hs c d := by
  rw [List.take_of_length_le h]; rfl
theorem rs_stop {f : Fnd} {hs : List Int} {c : Str} {d : Drv} {j : Nat} (h : (rsB f hs c d && (d.2.1.take j).all fun s => decide (rkZ f s < rkZ f c)) = false) : rsP f hs c d = false := by
  unfold rsP
  rw [← Bool.not_eq_true] at h ⊢
  simp only [Bool.and_eq_true, List.all_eq_true] at h ⊢
  exact fun q => h ⟨q.1, fun s hs => q.2 s (List.mem_of_mem_take hs)⟩
theorem rsI_y {D : List Drv} {f : Fnd} {hs : List Int} {c : Str} {k : Nat} (hc : c ∈ cls f) (h : fiX (rsP f hs c) D = k) : ((k : Nat) : Int) = rsI D f hs c := by unfold rsI; rw [if_pos hc, h]
theorem rsI_n1 {D : List Drv} {f : Fnd} {hs : List Int} {c : Str} (hc : ¬ c ∈ cls f) : (-1 : Int) = rsI D f hs c := by unfold rsI; rw [if_neg hc]
end Go.AM
namespace Go.AM
open Go Go.RowKit
theorem rs_last {D : List Drv} {f : Fnd} {hs : List Int} {c : Str} {k : Nat} (h2 : D.length ≤ k) (h1 : k ≤ D.findIdx (rsP f hs c)) : (-1 : Int) = rsI D f hs c := by
  unfold rsI
  split
  · exact (fiX_end h1 h2).symm
  · rfl
end Go.AM
end

section
/- The reference's rounds are the program's; its minimal sets are the least masks. -/
namespace Go.AM
open Go Go.RowKit
theorem rndL_congr {S : List Str} {ok ok' : Drv → Bool} {r : Nat} : ∀ {L : List Drv} {nx : Fnd}, (∀ d ∈ L, ok d = ok' d) → rndL S ok r L nx = rndL S ok' r L nx
  | [], _, _ => rfl
  | d :: L, nx, h => by
    rw [rndL_cons, rndL_cons]
    have e : rnd1 S ok r nx d = rnd1 S ok' r nx d := by
      unfold rnd1 canU
      rw [h d (by simp)]
    rw [e]
    exact rndL_congr fun x hx => h x (by simp [hx])
theorem rds_congr {D : List Drv} {ok ok' : Drv → Bool} (h : ∀ d ∈ D, ok d = ok' d) : ∀ k, rds D ok k = rds D ok' k
  | 0 => rfl
  | k + 1 => by
    unfold rds
    rw [rds_congr h k]
    exact rndL_congr h
theorem fin_okM {D : List Drv} {hs : List Int} (ho : hok hs) (hD : hokD D) : finD D (okL hs) = finD D (okM (bm hs)) :=
  rds_congr (fun d hd => (okM_bm ho (hD d hd)).symm) _
theorem fol_holds {b : Book} {c : Str} (ho : hok b.2) (hD : hokD b.1) : folD b.1 b.2 c = decide (c ∈ cls (rFin b)) := by
  unfold folD; rw [fin_okM ho hD]
theorem fol_dvd {D : List Drv} {hs : List Int} {c : Str} (ho : hok hs) (hD : hokD D) : folD D hs c = true ↔ Dvd D (okM (bm hs)) c := by
  unfold folD; rw [fin_okM ho hD, decide_eq_true_iff]; exact dv_fin.symm
theorem less_mem {l : List Int} {i : Nat} {x : Int} (h : x ∈ lessL l i) : x ∈ l := by
  unfold lessL at h
  rcases List.mem_append.1 h with h | h
  · exact List.mem_of_mem_take h
  · exact List.mem_of_mem_drop h
theorem less_ne {l : List Int} (hp : l.Pairwise (· < ·)) {i : Nat} (hi : i < l.length) : l[i] ∉ lessL l i := fun h => by
  have hq := List.pairwise_iff_getElem.1 hp
  unfold lessL at h
  rcases List.mem_append.1 h with h | h
  · obtain ⟨j, hj, e⟩ := List.mem_iff_getElem.1 h
    rw [List.length_take] at hj
    rw [List.getElem_take] at e
    have := hq j i (by omega) hi (by omega)
    omega
  · obtain ⟨j, hj, e⟩ := List.mem_iff_getElem.1 h
    rw [List.length_drop] at hj
    rw [List.getElem_drop] at e
    have := hq i (i + 1 + j) hi (by omega) (by omega)
    omega
theorem less_of {l : List Int} {i : Nat} (hi : i < l.length) {x : Int} (h : x ∈ l) (hn : x ≠ l[i]) : x ∈ lessL l i := by
  obtain ⟨j, hj, rfl⟩ := List.mem_iff_getElem.1 h
  unfold lessL
  rw [List.mem_append]
  rcases Nat.lt_trichotomy j i with e | e | e
  · exact .inl (List.mem_iff_getElem.2 ⟨j, by rw [List.length_take]; omega, by rw [List.getElem_take]⟩)
  · subst e; exact absurd rfl hn
  · exact .inr (List.mem_iff_getElem.2 ⟨j - (i + 1), by rw [List.length_drop]; omega, by rw [List.getElem_drop]; congr 1; omega⟩)
theorem min_iff {D : List Drv} {hs : List Int} {c : Str} (ho : hok hs) (hp : hs.Pairwise (· < ·)) (hD : hokD D) : minB D hs c = true ↔ isMin D c (bm hs) := by
  have hol : ∀ i, hok (lessL hs i) := fun i n hn => ho n (less_mem hn)
  unfold minB
  rw [Bool.and_eq_true, List.all_eq_true, fol_dvd ho hD]
  constructor
  · rintro ⟨h1, h2⟩
    refine ⟨h1, fun t ht hne hd => ?_⟩
    obtain ⟨i, hi, hi2⟩ : ∃ i, (bm hs).testBit i = true ∧ t.testBit i = false := Classical.byContradiction fun q => by
      refine hne (Nat.eq_of_testBit_eq fun i => ?_)
      rw [Bool.eq_iff_iff]
      refine ⟨sb_iff.1 ht i, fun z => Classical.byContradiction fun w => q ⟨i, z, by simpa using w⟩⟩
    have hm := (bm_mem ho).1 hi
    obtain ⟨j, hj, e⟩ := List.mem_iff_getElem.1 hm
    have h3 := h2 j (List.mem_range.2 hj)
    rw [Bool.not_eq_true'] at h3
    rw [← Bool.not_eq_true, fol_dvd (hol j) hD] at h3
    refine h3 (dvM_mono (sb_iff.2 fun k hk => ?_) hd)
    refine (bm_mem (hol j)).2 (less_of hj ((bm_mem ho).1 (sb_iff.1 ht k hk)) fun z => ?_)
    rw [e] at z
    have : k = i := by exact_mod_cast z
    rw [this, hi2] at hk; cases hk
  · rintro ⟨h1, h2⟩
    refine ⟨h1, fun j hj => ?_⟩
    have hj := List.mem_range.1 hj
    rw [Bool.not_eq_true', ← Bool.not_eq_true, fol_dvd (hol j) hD]
    refine h2 _ (sb_iff.2 fun k hk => (bm_mem ho).2 (less_mem ((bm_mem (hol j)).1 hk))) fun z => ?_
    have hn := ho hs[j] (List.getElem_mem hj)
    have h3 : (bm hs).testBit hs[j].toNat = true := (bm_mem ho).2 (by rw [Int.toNat_of_nonneg hn.1]; exact List.getElem_mem hj)
    rw [← z] at h3
    have h4 := (bm_mem (hol j)).1 h3
    rw [Int.toNat_of_nonneg hn.1] at h4
    exact less_ne hp hj h4
end Go.AM
end

section
/- The reference's Needs is the program's. -/
namespace Go.AM
open Go Go.RowKit
theorem mem_used {D : List Drv} {n : Int} : n ∈ usedL D 17 ↔ ∃ k : Nat, 1 ≤ k ∧ k < 17 ∧ usP D k = true ∧ n = k := by
  unfold usedL
  simp only [List.mem_map, List.mem_filter, List.mem_range, Bool.and_eq_true, decide_eq_true_eq]
  constructor
  · rintro ⟨k, ⟨h1, h2, h3⟩, rfl⟩; exact ⟨k, h2, h1, h3, rfl⟩
  · rintro ⟨k, h1, h2, h3, rfl⟩; exact ⟨k, ⟨h2, h1, h3⟩, rfl⟩
theorem used_srt (D : List Drv) : (usedL D 17).Pairwise (· < ·) := by
  unfold usedL
  rw [List.pairwise_map]
  exact (List.pairwise_lt_range.sublist List.filter_sublist).imp fun h => by omega
theorem used_ok (D : List Drv) : hok (usedL D 17) := fun n hn => by
  obtain ⟨k, h1, h2, _, rfl⟩ := mem_used.1 hn; omega
theorem used_all {D : List Drv} (hr : ∀ d ∈ D, rightD d = true) {d : Drv} (hd : d ∈ D) {n : Int} (hn : n ∈ d.2.2) : n ∈ usedL D 17 := by
  have h := hr d hd
  unfold rightD at h
  simp only [Bool.and_eq_true] at h
  have h1 := h.2
  unfold hypsB at h1
  simp only [Bool.and_eq_true] at h1
  have h2 := of_decide_eq_true (List.all_eq_true.1 h1.2 n hn)
  refine mem_used.2 ⟨n.toNat, by omega, by omega, List.any_eq_true.2 ⟨d, hd, decide_eq_true ?_⟩, by omega⟩
  rw [Int.toNat_of_nonneg (by omega)]; exact hn
theorem mem_subL {U : List Int} {m : Nat} {x : Int} : x ∈ subL U m U.length ↔ ∃ i, ∃ h : i < U.length, m.testBit i = true ∧ x = U[i] := by
  unfold subL bitsL
  simp only [List.mem_map, List.mem_filter, List.mem_range]
  constructor
  · rintro ⟨i, ⟨h1, h2⟩, rfl⟩
    exact ⟨i, h1, h2, by rw [List.getD_eq_getElem?_getD, List.getElem?_eq_getElem h1]; rfl⟩
  · rintro ⟨i, h1, h2, rfl⟩
    exact ⟨i, ⟨h1, h2⟩, by rw [List.getD_eq_getElem?_getD, List.getElem?_eq_getElem h1]; rfl⟩
theorem subL_srt {U : List Int} (hp : U.Pairwise (· < ·)) (m : Nat) : (subL U m U.length).Pairwise (· < ·) := by
  unfold subL
  rw [List.pairwise_map]
  have h : (bitsL m U.length).Pairwise (· < ·) := List.pairwise_lt_range.sublist List.filter_sublist
  refine List.Pairwise.imp_of_mem (fun {a b} ha hb q => ?_) h
  have h1 := bitsL_lt ha
  have h2 := bitsL_lt hb
  rw [List.getD_eq_getElem?_getD, List.getElem?_eq_getElem h1, List.getD_eq_getElem?_getD, List.getElem?_eq_getElem h2]
  exact (List.pairwise_iff_getElem.1 hp) a b h1 h2 q
theorem get_inj {U : List Int} (hp : U.Pairwise (· < ·)) {i j : Nat} (hi : i < U.length) (hj : j < U.length) (h : U[i] = U[j]) : i = j := by
  have hq := List.pairwise_iff_getElem.1 hp
  rcases Nat.lt_trichotomy i j with e | e | e
  · have := hq i j hi hj e; omega
  · exact e
  · have := hq j i hj hi e; omega
theorem subL_inj {U : List Int} (hp : U.Pairwise (· < ·)) {m n : Nat} (hm : m < 2 ^ U.length) (hn : n < 2 ^ U.length) (h : subL U m U.length = subL U n U.length) : m = n := by
  have key : ∀ {m n : Nat}, m < 2 ^ U.length → subL U m U.length = subL U n U.length → ∀ i, m.testBit i = true → n.testBit i = true := fun {m n} hm h i hi => by
    have hil : i < U.length := Classical.byContradiction fun q => by
      rw [Nat.testBit_lt_two_pow (Nat.lt_of_lt_of_le hm (Nat.pow_le_pow_right (n := 2) (by decide) (by omega)))] at hi; cases hi
    have h1 : U[i] ∈ subL U m U.length := mem_subL.2 ⟨i, hil, hi, rfl⟩
    rw [h] at h1
    obtain ⟨j, hj, h2, e⟩ := mem_subL.1 h1
    rw [get_inj hp hil hj e]; exact h2
  exact Nat.eq_of_testBit_eq fun i => by
    rw [Bool.eq_iff_iff]; exact ⟨key hm h i, key hn h.symm i⟩
theorem mem_insL {l : List (List Int)} {x y : List Int} : y ∈ insL l x ↔ y = x ∨ y ∈ l := by
  unfold insL
  have h : y ∈ l ↔ y ∈ l.takeWhile (fun y => decide (cmL cmZ y x < 0)) ++ l.dropWhile fun y => decide (cmL cmZ y x < 0) := by rw [List.takeWhile_append_dropWhile]
  rw [h, List.mem_append, List.mem_append, List.mem_cons]
  constructor
  · rintro (q | q | q)
    · exact .inr (.inl q)
    · exact .inl q
    · exact .inr (.inr q)
  · rintro (q | q | q)
    · exact .inr (.inl q)
    · exact .inl q
    · exact .inr (.inr q)
theorem insL_srt {x : List Int} : ∀ {l : List (List Int)}, SrtL l → x ∉ l → SrtL (insL l x)
  | [], _, _ => List.pairwise_singleton _ _
  | y :: l, hs, hn => by
    have h1 := List.pairwise_cons.1 hs
    by_cases e : cmL cmZ y x < 0
    · have e1 : insL (y :: l) x = y :: insL l x := by
        unfold insL
        rw [List.takeWhile_cons_of_pos (p := fun y => decide (cmL cmZ y x < 0)) (decide_eq_true e), List.dropWhile_cons_of_pos (p := fun y => decide (cmL cmZ y x < 0)) (decide_eq_true e)]; rfl
      rw [e1]
      refine List.pairwise_cons.2 ⟨fun z hz => ?_, insL_srt h1.2 fun q => hn (by simp [q])⟩
      rcases mem_insL.1 hz with rfl | hz
      · exact e
      · exact h1.1 z hz
    · have e1 : insL (y :: l) x = x :: y :: l := by
        unfold insL
        rw [List.takeWhile_cons_of_neg (p := fun y => decide (cmL cmZ y x < 0)) (by simpa using e), List.dropWhile_cons_of_neg (p := fun y => decide (cmL cmZ y x < 0)) (by simpa using e)]; rfl
      have hxy : cmL cmZ x y < 0 := by
        have h2 := cmLZ.rev y x
        have h3 : ¬ cmL cmZ y x = 0 := fun q => hn (by rw [cmLZ.zero.1 q]; simp)
        omega
      rw [e1]
      refine List.pairwise_cons.2 ⟨fun z hz => ?_, hs⟩
      rcases List.mem_cons.1 hz with rfl | hz
      · exact hxy
      · exact cmLZ.trans hxy (h1.1 z hz)
theorem ndR_mem {D : List Drv} {c : Str} {U : List Int} {x : List Int} : ∀ {M : Nat}, x ∈ ndR D c U M ↔ ∃ m, m < M ∧ minB D (subL U m U.length) c = true ∧ x = subL U m U.length
  | 0 => ⟨fun h => (by cases h), fun ⟨_, h, _⟩ => absurd h (Nat.not_lt_zero _)⟩
  | M + 1 => by
    have ih := ndR_mem (D := D) (c := c) (U := U) (x := x) (M := M)
    unfold ndR
    split
    · next h =>
      rw [mem_insL, ih]
      constructor
      · rintro (rfl | ⟨m, h1, h2⟩)
        · exact ⟨M, by omega, h, rfl⟩
        · exact ⟨m, by omega, h2⟩
      · rintro ⟨m, h1, h2, h3⟩
        by_cases e : m = M
        · subst e; exact .inl h3
        · exact .inr ⟨m, by omega, h2, h3⟩
    · next h =>
      rw [ih]
      constructor
      · rintro ⟨m, h1, h2⟩; exact ⟨m, by omega, h2⟩
      · rintro ⟨m, h1, h2, h3⟩
        by_cases e : m = M
        · subst e; exact absurd h2 h
        · exact ⟨m, by omega, h2, h3⟩
theorem ndR_srt {D : List Drv} {c : Str} {U : List Int} (hp : U.Pairwise (· < ·)) : ∀ {M : Nat}, M ≤ 2 ^ U.length → SrtL (ndR D c U M)
  | 0, _ => .nil
  | M + 1, h => by
    have ih := ndR_srt (D := D) (c := c) hp (M := M) (by omega)
    unfold ndR
    split
    · refine insL_srt ih fun q => ?_
      obtain ⟨m, h1, _, h3⟩ := ndR_mem.1 q
      have := subL_inj hp (by omega) (by omega) h3
      omega
    · exact ih
theorem nd_ref {D : List Drv} {c : Str} (hr : ∀ d ∈ D, rightD d = true) : ndR D c (usedL D 17) (2 ^ (usedL D 17).length) = ndL D c := by
  have hD : hokD D := fun d hd => hok_right (hr d hd)
  have hp := used_srt D
  have hoS : ∀ m, hok (subL (usedL D 17) m (usedL D 17).length) := fun m n hn => by
    obtain ⟨i, hi, _, rfl⟩ := mem_subL.1 hn
    exact used_ok D _ (List.getElem_mem hi)
  refine srtL_uniq (ndR_srt hp (Nat.le_refl _)) (ndL_lt D c) fun x => ?_
  rw [ndR_mem, ndL_mem]
  constructor
  · rintro ⟨m, _, h2, rfl⟩
    exact ⟨_, bm_lt (hoS m), (min_iff (hoS m) (subL_srt hp m) hD).1 h2, (lsB_bm (hoS m) (subL_srt hp m)).symm⟩
  · rintro ⟨m, h1, h2, rfl⟩
    have hom := hok_lsB h1
    -- only hypotheses that occur
    have hU : ∀ n ∈ lsB m, n ∈ usedL D 17 := fun n hn => Classical.byContradiction fun q => by
      have hof : hok ((lsB m).filter fun y => decide (y ∈ usedL D 17)) := fun y hy => hom y (List.mem_filter.1 hy).1
      refine h2.2 (bm ((lsB m).filter fun y => decide (y ∈ usedL D 17))) (sb_iff.2 fun i hi => ?_) (fun z => ?_) (h2.1.mono fun d hd ho => ⟨hd, ?_⟩)
      · obtain ⟨j, _, h3, e⟩ := mem_lsB.1 (List.mem_filter.1 ((bm_mem hof).1 hi)).1
        have : i = j := by exact_mod_cast e
        rw [this]; exact h3
      · obtain ⟨j, _, h3, e⟩ := mem_lsB.1 hn
        rw [← z] at h3
        have h4 := of_decide_eq_true (List.mem_filter.1 ((bm_mem hof).1 h3)).2
        rw [← e] at h4; exact q h4
      · have h3 : sb (bm d.2.2) m := of_decide_eq_true ho
        refine decide_eq_true (sb_iff.2 fun i hi => (bm_mem hof).2 (List.mem_filter.2 ⟨mem_lsB.2 ⟨i, ?_, sb_iff.1 h3 i hi, rfl⟩, decide_eq_true (used_all hr hd ((bm_mem (hD d hd)).1 hi))⟩))
        have := hD d hd _ ((bm_mem (hD d hd)).1 hi)
        omega
    have hbit : ∀ i, (bm (((List.range (usedL D 17).length).filter fun i => decide ((usedL D 17).getD i 0 ∈ lsB m)).map fun i : Nat => (i : Int))).testBit i = true ↔ i < (usedL D 17).length ∧ (usedL D 17).getD i 0 ∈ lsB m := fun i => by
      rw [bm_bit]
      simp only [List.mem_map, List.mem_filter, List.mem_range, decide_eq_true_eq]
      constructor
      · rintro ⟨n, ⟨j, ⟨h3, h4⟩, rfl⟩, e⟩
        have : j = i := by omega
        subst this; exact ⟨h3, h4⟩
      · rintro ⟨h3, h4⟩; exact ⟨i, ⟨i, ⟨h3, h4⟩, rfl⟩, by omega⟩
    have hsub : lsB m = subL (usedL D 17) (bm (((List.range (usedL D 17).length).filter fun i => decide ((usedL D 17).getD i 0 ∈ lsB m)).map fun i : Nat => (i : Int))) (usedL D 17).length := by
      refine ltZ_uniq (lsB_lt m) (subL_srt hp _) fun n => ?_
      rw [mem_subL]
      constructor
      · intro hn
        obtain ⟨i, hi, e⟩ := List.mem_iff_getElem.1 (hU n hn)
        refine ⟨i, hi, (hbit i).2 ⟨hi, ?_⟩, e.symm⟩
        rw [List.getD_eq_getElem?_getD, List.getElem?_eq_getElem hi, Option.getD_some, e]; exact hn
      · rintro ⟨i, hi, h3, rfl⟩
        have := ((hbit i).1 h3).2
        rwa [List.getD_eq_getElem?_getD, List.getElem?_eq_getElem hi] at this
    refine ⟨_, lt_of_bits _ fun i hi => ((hbit i).1 hi).1, ?_, hsub⟩
    rw [← hsub, min_iff hom (lsB_lt m) hD, bm_lsB (by omega)]
    exact h2
end Go.AM
end
