import Derived.Test.YthaiejfjnllglaaGreatDoorTBA
import Derived.RangeFuncSeq
import Derived.RangeFuncRecord
import Derived.RangeFuncIn
set_option maxRecDepth 100000
set_option maxHeartbeats 1000000
namespace Go.AM
section
open Go Go.RowKit
def WB (e : TypeId) (ws : List Nat) : Blk := ⟨true, 1, e, ws.map w32⟩
theorem zY (xs : List Nat) : ∀ (ws : List Nat), xs.length ≤ ws.length → spl 0 (xs.map w32) (ws.map w32) = (xs ++ ws.drop xs.length).map w32 := by
 induction xs with
 | nil => intro ws _; cases ws <;> rfl
 | cons x xs ih =>
  intro ws h
  cases ws with
  | nil => simp at h
  | cons w ws =>
   simp only [List.map_cons, spl, List.length_cons, List.drop_succ_cons, List.cons_append]
   rw [ih ws (by simpa using h)]
section ops
variable {P : Program} {tt : TT} (hT : dx P tt)
variable {dst : Option Nat} {ty : TypeId} {pos : String} {af : Array Edge} {gd : Option (Nat × Bool)} {d : Nat} {ρ : Operand → AV} {own : Own}
variable {T : TypeId} {i : TyI} {x y : Operand} {e : TypeId} {j : TyI}
include hT in
theorem eE {k k' : IntKind} {l : Int} (ht : tt T = some i) (hs : i.sh = .sl e) (he : tt e = some j) (hz : j.zero = [w32 0]) (hj : j.size = 1) (hjb : Nat.ble j.bytes 4 = true) (hx : ρ x = .p (.c (.v (.int k l)))) (hy : ρ y = .p (.c (.v (.int k' l)))) (h0 : 0 ≤ l ∧ l ≤ 70368744177664) :
  Eff P ⟨dst, .makeSlice T x y, ty, pos, af, gd⟩ d ρ own (.vec d) [] (some (WB e (List.replicate l.toNat 0))) [] := by
 have hjb' := bL0 hjb
 have hb : (j.bytes : Int) * l ≤ 281474976710656 := by
  have : (j.bytes : Int) * l ≤ 4 * l := Int.mul_le_mul_of_nonneg_right (by omega) h0.1
  omega
 have h := AC (dst := dst) (ty := ty) (pos := pos) (af := af) (gd := gd) (d := d) (own := own) hT ht hs he hz hx hy h0.1 (by omega) hb
 rw [wF, hj] at h
 unfold WB
 rw [List.map_replicate]
 exact h
include hT in
theorem wZ {m : Nat} {ws xs : List Nat} {be : TypeId} (ht : tt T = some i) (hs : i.sh = .sl e) (he : tt e = some j) (hj : j.size = 1) (hx : ρ x = .vec m) (hb : own m = some (WB be ws)) (hy : ρ y = .p (.c (W xs))) (hfit : xs.length ≤ ws.length) :
  Eff P ⟨dst, .call ⟨.builtin .copy, #[x, y], #[T, T]⟩, ty, pos, af, gd⟩ d ρ own (.p (.c (.v (.int .i64 xs.length)))) [(m, some (WB be (xs ++ ws.drop xs.length)))] none [m] :=
 AD (b := WB be ws) hT ht hs he hx hb rfl hj.symm hy rfl (by rw [hj]; exact y6 xs) (by simpa [WB] using hfit) (zY xs ws hfit) (by rw [hj]; rfl)
include hT in
theorem gy {m : Nat} {k : IntKind} {n : Int} {ws : List Nat} {be : TypeId} (ht : tt T = some i) (hs : i.sh = .sl e) (he : tt e = some j) (hj : j.size = 1) (hx : ρ x = .vec m) (hb : own m = some (WB be ws)) (hy : ρ y = .p (.c (.v (.int k n)))) (hn : 0 ≤ n ∧ n < ws.length) :
  Eff P ⟨dst, .indexAddr T x y, ty, pos, af, gd⟩ d ρ own (.loc m n.toNat) [] none [m] := by
 have h := pN (dst := dst) (ty := ty) (pos := pos) (af := af) (gd := gd) (d := d) hT ht hs he hx hb rfl hj.symm hy ⟨hn.1, by simp only [WB, List.length_map]; rw [hj]; omega⟩ (by rw [hj]; rfl)
 rw [hj, Nat.mul_one] at h
 exact h
include hT in
theorem wY {m off : Nat} {ws : List Nat} {be : TypeId} (ht : tt T = some i) (hg : i.sh.agg = false) (hx : ρ x = .loc m off) (hb : own m = some (WB be ws)) (hn : off < ws.length) :
  Eff P ⟨dst, .load T x, ty, pos, af, gd⟩ d ρ own (.p (.c (w32 (ws.getD off 0)))) [] none [m] :=
 de hT ht hg hx hb (by
  have := jC hn
  rw [Nat.mul_one] at this
  exact this)
include hT in
theorem uF {m off v : Nat} {ws : List Nat} {be : TypeId} (ht : tt T = some i) (hj : i.size = 1) (hx : ρ x = .loc m off) (hy : ρ y = .p (.c (w32 v))) (hb : own m = some (WB be ws)) (hn : off < ws.length) :
  Eff P ⟨dst, .store T x y, ty, pos, af, gd⟩ d ρ own .junk [(m, some (WB be (ws.set off v)))] none [m] := by
 have h := pJ (dst := dst) (ty := ty) (pos := pos) (af := af) (gd := gd) (d := d) (b := WB be ws) hT ht hx hy hb hj (by simpa [WB] using hn) rfl
 have e : (WB be ws).cs.set off (w32 v) = (ws.set off v).map w32 := by simp [WB, List.map_set]
 rw [e] at h
 exact h
include hT in
theorem eT {m : Nat} {ws : List Nat} {be : TypeId} (ht : tt T = some i) (hs : i.sh = .sl e) (hx : ρ x = .vec m) (hb : own m = some (WB be ws)) : Eff P ⟨dst, .call ⟨.builtin .len, #[x], #[T]⟩, ty, pos, af, gd⟩ d ρ own (.p (.c (.v (.int .i64 (ws.length : Nat))))) [] none [m] :=
 tc hT ht hs hx hb rfl rfl (by simp [WB])
end ops
section ghost
variable {P : Program} {B : Bool} {N np : Nat} {Q : Exit → St → Prop} {s : St} {c : Code}
theorem dA {t m : Nat} {ws : List Nat} {be : TypeId} (ht : s.regs t = .vec m) (hb : s.own m = some (WB be ws)) (h : AWp P B N np c Q ⟨upd s.regs t (.p (.c (W ws))), upd s.own m none⟩) : AWp P B N np c Q s := by
 refine fI (n := ws.length) ht hb rfl (by simp [WB]) (by simp [WB]) ?_
 exact h
theorem cf {ι : Type} {x y : Code} (I : ι → St) (F : ι → Prop) (h : AWp P B N np x (iV (fun s' => ∃ i, F i ∧ Le s' (I i)) Q) s) (k : ∀ i, F i → AWp P B N np y Q (I i)) : AWp P B N np (.seq x y) Q s := by
 refine ak (AWp.mono h ?_)
 intro e s' hq
 cases e with
 | normal =>
  obtain ⟨i, hF, hle⟩ := hq
  exact dH hle (k i hF)
 | _ => exact hq
end ghost
theorem bQ (l : List Nat) (k : Nat) : wv (l.take (k + 1)) = wv (l.take k) + 4294967296 ^ k * l.getD k 0 := by
 by_cases h : k < l.length
 ·rw [jj h, eC, List.length_take, Nat.min_eq_left (by omega)]; simp [wv]
 rw [List.take_of_length_le (by omega), List.take_of_length_le (by omega), List.getD_eq_getElem?_getD, List.getElem?_eq_none (by omega)]; simp
theorem my {l r : List Nat} : (l ++ r).getD l.length 0 = r.getD 0 0 := by
 rw [List.getD_eq_getElem?_getD, List.getD_eq_getElem?_getD, List.getElem?_append_right (Nat.le_refl _), Nat.sub_self]
theorem Ab {l : List Nat} {x v : Nat} {r : List Nat} : (l ++ x :: r).set l.length v = (l ++ [v]) ++ r := by
 induction l with
 | nil => rfl
 | cons a l ih => simp only [List.cons_append, List.length_cons, List.set_cons_succ, ih]
theorem mH (l : List Nat) (v : Nat) : wv (l ++ [v]) = wv l + 4294967296 ^ l.length * v := by rw [eC]; simp [wv]
theorem okW.snoc {l : List Nat} (h : okW l) {v : Nat} (hv : v < 4294967296) : okW (l ++ [v]) := by
 intro x hx
 rcases List.mem_append.1 hx with hx | hx
 ·exact h x hx
 simp at hx; omega
theorem okW.app {l r : List Nat} (h : okW l) (k : okW r) : okW (l ++ r) := by
 intro x hx
 rcases List.mem_append.1 hx with hx | hx
 ·exact h x hx
 exact k x hx
theorem okW.nil : okW [] := fun x hx => by simp at hx
theorem okW.rep (n : Nat) : okW (List.replicate n 0) := fun x hx => by
 have := List.eq_of_mem_replicate hx; omega
theorem l5 (n : Nat) : wv (List.replicate n 0) = 0 := by
 induction n with
 | zero => rfl
 | succ n ih => simp [List.replicate_succ, wv, ih]
end
section
open Go Go.RowKit
def kd : IntKind → Bool
 | .u8 | .u16 | .u32 | .u64 => true
 | _ => false
theorem gS {k : IntKind} (hk : kd k = true) (n : Nat) (h : n < 2 ^ k.bits) : k.wrap (n : Int) = n := by
 have hs : k.signed = false := by cases k <;> first | rfl | cases hk
 unfold IntKind.wrap
 simp only [hs, Bool.false_and, Bool.false_eq_true, if_false]
 rw [Int.emod_eq_of_lt (by omega)]
 have : ((2 ^ k.bits : Nat) : Int) = 2 ^ k.bits := by simp
 omega
theorem el {w n : Nat} (h : n < 2 ^ w) : (BitVec.ofInt w (n : Int)).toNat = n := by
 rw [BitVec.ofInt_natCast, BitVec.toNat_ofNat, Nat.mod_eq_of_lt h]
theorem xP {k : IntKind} (hk : kd k = true) {m n : Nat} (hm : m < 2 ^ k.bits) (hn : n < 2 ^ k.bits) : bits .and k m n = ((m &&& n : Nat) : Int) := by
 unfold bits
 simp only [BitVec.toNat_and, el hm, el hn]
 exact gS hk _ (Nat.lt_of_le_of_lt Nat.and_le_left hm)
theorem lr {k : IntKind} (hk : kd k = true) {m n : Nat} (hm : m < 2 ^ k.bits) (hn : n < 2 ^ k.bits) : bits .or k m n = ((m ||| n : Nat) : Int) := by
 unfold bits
 simp only [BitVec.toNat_or, el hm, el hn]
 exact gS hk _ (Nat.or_lt_two_pow hm hn)
theorem qG {k : IntKind} (hk : kd k = true) {m n : Nat} (hm : m < 2 ^ k.bits) (hn : n < 2 ^ k.bits) : bits .xor k m n = ((m ^^^ n : Nat) : Int) := by
 unfold bits
 simp only [BitVec.toNat_xor, el hm, el hn]
 exact gS hk _ (Nat.xor_lt_two_pow hm hn)
section ops
variable {P : Program}
variable {dst : Option Nat} {ty : TypeId} {pos : String} {af : Array Edge} {gd : Option (Nat × Bool)} {d : Nat} {ρ : Operand → AV} {own : Own}
variable {T yT : TypeId} {x y : Operand} {k k' : IntKind} {m n : Nat} {c : Int}
theorem mS (hx : ρ x = .p (.c (.v (.int k m)))) (hy : ρ y = .p (.c (.v (.int k n)))) (hk : kd k = true) (hm : m < 2 ^ k.bits) (hn : n < 2 ^ k.bits) : Eff P ⟨dst, .binOp .and T x y yT, ty, pos, af, gd⟩ d ρ own (.p (.c (.v (.int k ((m &&& n : Nat) : Int))))) [] none [] :=
 Dj hx hy (xP hk hm hn)
theorem uG (hx : ρ x = .p (.c (.v (.int k m)))) (hy : ρ y = .p (.c (.v (.int k n)))) (hk : kd k = true) (hm : m < 2 ^ k.bits) (hn : n < 2 ^ k.bits) : Eff P ⟨dst, .binOp .or T x y yT, ty, pos, af, gd⟩ d ρ own (.p (.c (.v (.int k ((m ||| n : Nat) : Int))))) [] none [] :=
 k9 hx hy (lr hk hm hn)
theorem AB (hx : ρ x = .p (.c (.v (.int k m)))) (hy : ρ y = .p (.c (.v (.int k n)))) (hk : kd k = true) (hm : m < 2 ^ k.bits) (hn : n < 2 ^ k.bits) : Eff P ⟨dst, .binOp .xor T x y yT, ty, pos, af, gd⟩ d ρ own (.p (.c (.v (.int k ((m ^^^ n : Nat) : Int))))) [] none [] :=
 cg hx hy (fun w => by rw [binOp_xor, intBits_xor, qG hk hm hn]; rfl) rfl
theorem nX (hx : ρ x = .p (.c (.v (.int .u32 m)))) (hm : m < 4294967296) : Eff P ⟨dst, .unOp .xor T x, ty, pos, af, gd⟩ d ρ own (.p (.c (.v (.int .u32 ((4294967295 - m : Nat) : Int))))) [] none [] :=
 bg fun C h r own' a w hrep _ _ => by
  have h1 := hrep x (by simp [Op.operands])
  rw [hx] at h1
  refine ⟨_, ?_, iB _ _ _ _⟩
  have e : bits .xor .u32 (4294967295 : Nat) (m : Nat) = ((4294967295 - m : Nat) : Int) := by
   rw [qG rfl (by decide) hm]
   congr 1
   have : (4294967295 : Nat) = 2 ^ 32 - 1 := rfl
   rw [this, Nat.xor_comm]
   have h2 : m < 2 ^ 32 := hm
   apply Nat.eq_of_testBit_eq
   intro i
   rw [Nat.testBit_xor, Nat.testBit_two_pow_sub_one, show 2 ^ 32 - 1 - m = 2 ^ 32 - (m + 1) by omega, Nat.testBit_two_pow_sub_succ h2]
   by_cases hi : i < 32
   ·simp [hi]
   have : m.testBit i = false := Nat.testBit_lt_two_pow (Nat.lt_of_lt_of_le h2 (Nat.pow_le_pow_right (by omega) (by omega)))
   simp [hi, this]
  have hmx : (if IntKind.u32.signed = true then (-1 : Int) else IntKind.u32.max) = ((4294967295 : Nat) : Int) := by decide
  simp only [execOp, b8 h1, Op.unary, hmx, intBits_xor, e]
  rfl
theorem dJ {j : Nat} (hx : ρ x = .p (.c (.v (.int k m)))) (hy : ρ y = .p (.c (.v (.int k' j)))) (hj : j ≤ k.bits) : Eff P ⟨dst, .binOp .shr T x y yT, ty, pos, af, gd⟩ d ρ own (.p (.c (.v (.int k ((m / 2 ^ j : Nat) : Int))))) [] none [] :=
 Dh hx hy (by omega) (by
  rw [Int.toNat_natCast, Nat.min_eq_left hj, Int.fdiv_eq_ediv_of_nonneg _ (Int.pow_nonneg (by omega))]
  simp)
theorem kZ {j : Nat} (hx : ρ x = .p (.c (.v (.int k m)))) (hy : ρ y = .p (.c (.v (.int k' j)))) (hj : j ≤ k.bits) (hk : kd k = true) : Eff P ⟨dst, .binOp .shl T x y yT, ty, pos, af, gd⟩ d ρ own (.p (.c (.v (.int k ((m * 2 ^ j % 2 ^ k.bits : Nat) : Int))))) [] none [] :=
 pK hx hy (by omega) (by
  rw [Int.toNat_natCast, Nat.min_eq_left hj]
  have hs : k.signed = false := by cases k <;> first | rfl | cases hk
  unfold IntKind.wrap
  simp only [hs, Bool.false_and, Bool.false_eq_true, if_false]
  simp)
end ops
theorem tL (x y b : Nat) (hx : x < 4294967296) (hy : y < 4294967296) (hb : b < 2) :
  (((4294967295 - x) &&& y) ||| ((4294967295 - (x ^^^ y)) &&& ((x + 8589934592 - y - b) % 4294967296))) / 2 ^ 31 = if x < y + b then 1 else 0 := by
 have hd : ∀ m n : Nat, (m &&& n) / 2 ^ 31 = (m / 2 ^ 31) &&& (n / 2 ^ 31) := fun m n => by
  rw [← Nat.shiftRight_eq_div_pow, ← Nat.shiftRight_eq_div_pow, ← Nat.shiftRight_eq_div_pow, Nat.shiftRight_and_distrib]
 have ho : ∀ m n : Nat, (m ||| n) / 2 ^ 31 = (m / 2 ^ 31) ||| (n / 2 ^ 31) := fun m n => by
  rw [← Nat.shiftRight_eq_div_pow, ← Nat.shiftRight_eq_div_pow, ← Nat.shiftRight_eq_div_pow, Nat.shiftRight_or_distrib]
 have hxx : ∀ m n : Nat, (m ^^^ n) / 2 ^ 31 = (m / 2 ^ 31) ^^^ (n / 2 ^ 31) := fun m n => by
  rw [← Nat.shiftRight_eq_div_pow, ← Nat.shiftRight_eq_div_pow, ← Nat.shiftRight_eq_div_pow, Nat.shiftRight_xor_distrib]
 have hxy : (x ^^^ y) < 4294967296 := Nat.xor_lt_two_pow (n := 32) hx hy
 have hX := hxx x y
 rw [ho, hd, hd]
 generalize hq : x ^^^ y = q at *
 have e1 : x / 2 ^ 31 = 0 ∨ x / 2 ^ 31 = 1 := by omega
 have e2 : y / 2 ^ 31 = 0 ∨ y / 2 ^ 31 = 1 := by omega
 generalize hD : (x + 8589934592 - y - b) % 4294967296 = D
 have e3 : D / 2 ^ 31 = 0 ∨ D / 2 ^ 31 = 1 := by omega
 have e4 : (4294967295 - x) / 2 ^ 31 = 1 - x / 2 ^ 31 := by omega
 have e5 : (4294967295 - q) / 2 ^ 31 = 1 - q / 2 ^ 31 := by omega
 rw [e4, e5, hX]
 rcases e1 with e1 | e1 <;> rcases e2 with e2 | e2 <;> rcases e3 with e3 | e3 <;> rw [e1, e2, e3] <;> simp <;> omega
theorem gA {m : Nat} (h : m < 4294967296) : m < 2 ^ IntKind.u32.bits := h
theorem fN {m : Nat} (h : m < 18446744073709551616) : m < 2 ^ IntKind.u64.bits := h
def bq (a b : Int) : Int := if a < b then -1 else if b < a then 1 else 0
end
section
open Go Go.RowKit
def bi (n : Nat) : Nat := if n = 0 then 0 else n.log2 + 1
theorem fv {n : Nat} : n < 2 ^ bi n := by
 unfold bi
 split
 ·subst_vars; exact Nat.two_pow_pos 0
 exact Nat.lt_log2_self
theorem fT {n k : Nat} (h : n < 2 ^ k) : bi n ≤ k := by
 unfold bi
 split
 ·omega
 rename_i h0
 have := (Nat.log2_lt h0).2 h
 omega
theorem nv {n : Nat} (h : 0 < n) : 2 ^ (bi n - 1) ≤ n := by
 unfold bi
 rw [if_neg (by omega)]
 exact Nat.log2_self_le (by omega)
theorem iL {n k : Nat} (h : 2 ^ k ≤ n) : bi n = k + bi (n / 2 ^ k) := by
 have hp : 0 < 2 ^ k := Nat.two_pow_pos k
 have hq : 0 < n / 2 ^ k := Nat.div_pos h hp
 apply Nat.le_antisymm
 ·apply fT
  rw [Nat.pow_add, Nat.mul_comm]
  exact (Nat.div_lt_iff_lt_mul hp).1 fv
 have h1 := nv hq
 have h2 : 2 ^ (k + (bi (n / 2 ^ k) - 1)) ≤ n := by
  rw [Nat.pow_add]
  calc 2 ^ k * 2 ^ (bi (n / 2 ^ k) - 1) ≤ 2 ^ k * (n / 2 ^ k) := Nat.mul_le_mul_left _ h1
   _ ≤ n := Nat.mul_div_le n _
 have h3 : 2 ^ (k + (bi (n / 2 ^ k) - 1)) < 2 ^ bi n := Nat.lt_of_le_of_lt h2 fv
 have h4 := (Nat.pow_lt_pow_iff_right (by omega : 1 < 2)).1 h3
 have h5 : 0 < bi (n / 2 ^ k) := by
  rcases Nat.eq_zero_or_pos (bi (n / 2 ^ k)) with h0 | h0
  ·have := fv (n := n / 2 ^ k); rw [h0] at this; omega
  exact h0
 omega
theorem rT {hi lo : Nat} (h1 : hi < 4294967296) (h2 : lo < 4294967296) : (hi * 2 ^ 32 % 2 ^ IntKind.u64.bits ||| lo) = hi * 4294967296 + lo := by
 have e : hi * 2 ^ 32 % 2 ^ IntKind.u64.bits = 2 ^ 32 * hi := by
  show hi * 2 ^ 32 % 2 ^ 64 = _
  omega
 rw [e, ← Nat.two_pow_add_eq_or_of_lt (i := 32) (by omega)]
 omega
section ops
variable {P : Program} {tt : TT} (hT : dx P tt)
variable {dst : Option Nat} {ty : TypeId} {pos : String} {af : Array Edge} {gd : Option (Nat × Bool)} {d : Nat} {ρ : Operand → AV} {own : Own}
variable {T : TypeId} {i : TyI} {x y : Operand}
theorem TyOK.str (h : TyOK P T i) (hs : i.sh = .str) : P.underlying T = some .string := by
 obtain ⟨d, h1, h2⟩ := h.und
 rw [hs] at h2; rw [h1]
 cases d <;> simp only [kJ] at h2 <;> simp_all
include hT in
theorem pO {k : IntKind} {n : Int} {s : ByteArray} {b : UInt8} (ht : tt T = some i) (hs : i.sh = .str) (hx : ρ x = .p (.c (.v (.string s)))) (hy : ρ y = .p (.c (.v (.int k n)))) (hn : 0 ≤ n) (hb : s[n.toNat]? = some b) :
  Eff P ⟨dst, .index T x y, ty, pos, af, gd⟩ d ρ own (.p (.c (.v (.int .u8 b.toNat)))) [] none [] :=
 bg fun C h r own' a w hrep hrd hw => by
  have e1 := hrep x (by simp [Op.operands])
  have e2 := hrep y (by simp [Op.operands])
  rw [hx] at e1; rw [hy] at e2
  refine ⟨_, ?_, iB _ _ _ _⟩
  simp only [execOp, b8 e1, b8 e2, Instr.index, asIntOf, Sem.run_bind, Sem.run_pure, Result.andThen_ok, run_underlying ((hT T i ht).str hs), hn, if_true, hb]
end ops
theorem kG {hi lo : Nat} (h1 : hi < 4294967296) (h2 : lo < 4294967296) : bits .or .u64 ((hi * 2 ^ 32 % 2 ^ IntKind.u64.bits : Nat) : Int) (lo : Int) = ((hi * 4294967296 + lo : Nat) : Int) := by
 have h3 : hi * 2 ^ 32 % 2 ^ IntKind.u64.bits < 2 ^ IntKind.u64.bits := Nat.mod_lt _ (Nat.two_pow_pos _)
 rw [lr (k := .u64) rfl h3 (fN (by omega)), rT h1 h2]
theorem dq {m : Nat} (h : m < 18446744073709551616) : IntKind.u64.wrap (m : Int) = m := gS rfl m (fN h)
theorem mJ {m : Nat} (h : m < 4294967296) : IntKind.u32.wrap (m : Int) = m := gS rfl m (gA h)
theorem aL {k : IntKind} {m n : Int} (h : m = n) : Sub (.p (.c (.v (.int k m)))) (.p (.c (.v (.int k n)))) := aB (by rw [h])
theorem bU {m n : Bool} (h : m = n) : Sub (.p (.c (.v (.bool m)))) (.p (.c (.v (.bool n)))) := aB (by rw [h])
theorem bu {m : Nat} (h : m < 256) : bi m ≤ 8 := fT (k := 8) h
end
end Go.AM
section
namespace Go.AM
open Go Go.RowKit
theorem dW (l : List Nat) (i : Nat) (h : i ≤ l.length) : wv l = wv (l.take i) + 4294967296 ^ i * wv (l.drop i) := by
 conv => lhs; rw [← List.take_append_drop i l]
 rw [eC, List.length_take, Nat.min_eq_left h]
theorem sC {a b : Int} (h : bq a b ≠ 0) : (a < b ∧ bq a b = -1) ∨ (b < a ∧ bq a b = 1) := by
 unfold bq at *
 by_cases h1 : a < b
 ·rw [if_pos h1] at *; exact .inl ⟨h1, rfl⟩
 rw [if_neg h1] at *
 by_cases h2 : b < a
 ·rw [if_pos h2] at *; exact .inr ⟨h2, rfl⟩
 rw [if_neg h2] at h; exact absurd rfl h
theorem gP {a b : Int} (h : bq a b = 0) : a = b := by
 unfold bq at h
 by_cases h1 : a < b
 ·rw [if_pos h1] at h; cases h
 rw [if_neg h1] at h
 by_cases h2 : b < a
 ·rw [if_pos h2] at h; cases h
 omega
theorem gM {a b : Int} (h : a < b) : bq a b = -1 := if_pos h
theorem gO {a b : Int} (h : b < a) : bq a b = 1 := by unfold bq; rw [if_neg (by omega), if_pos h]
theorem gw (a : Int) : bq a a = 0 := by unfold bq; rw [if_neg (by omega), if_neg (by omega)]
theorem kw {m n : Nat} (h : (wl m).length < (wl n).length) : m < n := by
 rcases Nat.lt_or_ge m n with h1 | h1
 ·exact h1
 have := fW h1; omega
theorem Bs {m n : Nat} (h : bq (wl m).length (wl n).length ≠ 0) : bq ((wl m).length : Nat) ((wl n).length : Nat) = bq m n := by
 rcases sC h with ⟨h1, h2⟩ | ⟨h1, h2⟩
 ·rw [h2, gM]; have := kw (m := m) (n := n) (by omega); omega
 rw [h2, gO]; have := kw (m := n) (n := m) (by omega); omega
theorem xH {a b : List Nat} (ha : okW a) (hb : okW b) (hl : a.length = b.length) {k : Nat} (hk : k < a.length) (he : a.drop (k + 1) = b.drop (k + 1)) (h : bq (a.getD k 0) (b.getD k 0) ≠ 0) :
  bq ((a.getD k 0 : Nat) : Int) ((b.getD k 0 : Nat) : Int) = bq (wv a) (wv b) := by
 have e1 := dW a k (by omega)
 have e2 := dW b k (by omega)
 rw [dV hk, he] at e1
 rw [dV (by omega)] at e2
 simp only [wv] at e1 e2
 have l1 := gE (ha.take k)
 have l2 := gE (hb.take k)
 rw [List.length_take, Nat.min_eq_left (by omega)] at l1 l2
 generalize a.getD k 0 = x at *
 generalize b.getD k 0 = y at *
 generalize wv (b.drop (k + 1)) = d at *
 generalize 4294967296 ^ k = p at *
 have key : ∀ (u v s t : Nat), s < p → t < p → u < v → s + p * (u + 4294967296 * d) < t + p * (v + 4294967296 * d) := by
  intro u v s t hs ht huv
  have : p * (u + 4294967296 * d + 1) ≤ p * (v + 4294967296 * d) := Nat.mul_le_mul_left _ (by omega)
  rw [Nat.mul_add, Nat.mul_one] at this
  omega
 rcases sC h with ⟨h1, h2⟩ | ⟨h1, h2⟩
 ·rw [h2, gM]
  have := key x y _ _ l1 l2 (by omega)
  omega
 rw [h2, gO]
 have := key y x _ _ l2 l1 (by omega)
 omega
theorem vA {A b l _r : List Nat} {k c : Nat} (_hk : k < A.length) (hl : l.length = k) (hv : wv l + 4294967296 ^ k * c = wv (A.take k) + wv (b.take k)) (s : Nat) (hs : s = A.getD k 0 + b.getD k 0 + c) :
  wv (l ++ [s % 4294967296]) + 4294967296 ^ (k + 1) * (s / 4294967296) = wv (A.take (k + 1)) + wv (b.take (k + 1)) := by
 rw [mH, hl, bQ, bQ, Nat.pow_succ]
 have e : 4294967296 ^ k * (s % 4294967296) + 4294967296 ^ k * 4294967296 * (s / 4294967296) = 4294967296 ^ k * s := by
  rw [Nat.mul_assoc, ← Nat.mul_add]; congr 1; omega
 rw [hs] at e ⊢
 simp only [Nat.mul_add] at e ⊢
 omega
theorem ue {A b l : List Nat} {k c : Nat} (hl : l.length = k) (hc : c < 2) (hA : okW A) (hb : okW b) (hv : wv l + wv (b.take k) = wv (A.take k) + 4294967296 ^ k * c) :
  wv (l ++ [(A.getD k 0 + 8589934592 - b.getD k 0 - c) % 4294967296]) + wv (b.take (k + 1)) = wv (A.take (k + 1)) + 4294967296 ^ (k + 1) * (if A.getD k 0 < b.getD k 0 + c then 1 else 0) := by
 rw [mH, hl, bQ, bQ, Nat.pow_succ]
 have h1 := hA.getD k
 have h2 := hb.getD k
 generalize A.getD k 0 = x at *
 generalize b.getD k 0 = y at *
 generalize 4294967296 ^ k = p at *
 by_cases h : x < y + c
 ·rw [if_pos h]
  have e : (x + 8589934592 - y - c) % 4294967296 = x + 4294967296 - y - c := by omega
  rw [e]
  have e2 : p * (x + 4294967296 - y - c) + p * y + p * c = p * x + p * 4294967296 := by
   rw [← Nat.mul_add, ← Nat.mul_add, ← Nat.mul_add]; congr 1; omega
  omega
 rw [if_neg h]
 have e : (x + 8589934592 - y - c) % 4294967296 = x - y - c := by omega
 rw [e]
 have e2 : p * (x - y - c) + p * y + p * c = p * x := by
  rw [← Nat.mul_add, ← Nat.mul_add]; congr 1; omega
 omega
end Go.AM
namespace Go.AM
open Go Go.RowKit
section ops
variable {P : Program} {tt : TT} (hT : dx P tt)
variable {dst : Option Nat} {ty : TypeId} {pos : String} {af : Array Edge} {gd : Option (Nat × Bool)} {d : Nat} {ρ : Operand → AV} {own : Own}
variable {T : TypeId} {i : TyI} {x y : Operand} {e : TypeId} {j : TyI}
include hT in
theorem di {m off v : Nat} {ws : List Nat} {be : TypeId} (ht : tt T = some i) (hg : i.sh.agg = false) (hx : ρ x = .loc m off) (hb : own m = some (WB be ws)) (hn : off < ws.length) (hv : ws.getD off 0 = v) :
  Eff P ⟨dst, .load T x, ty, pos, af, gd⟩ d ρ own (.p (.c (w32 v))) [] none [m] := by
 subst hv; exact wY hT ht hg hx hb hn
include hT in
theorem cG {m off v : Nat} {ws ws' : List Nat} {be : TypeId} (ht : tt T = some i) (hj : i.size = 1) (hx : ρ x = .loc m off) (hy : ρ y = .p (.c (w32 v))) (hb : own m = some (WB be ws)) (hn : off < ws.length) (hs : ws.set off v = ws') :
  Eff P ⟨dst, .store T x y, ty, pos, af, gd⟩ d ρ own .junk [(m, some (WB be ws'))] none [m] := by
 subst hs; exact uF hT ht hj hx hy hb hn
include hT in
theorem kv {m : Nat} {ws xs ws' : List Nat} {be : TypeId} (ht : tt T = some i) (hs : i.sh = .sl e) (he : tt e = some j) (hj : j.size = 1) (hx : ρ x = .vec m) (hb : own m = some (WB be ws)) (hy : ρ y = .p (.c (W xs))) (hfit : xs.length ≤ ws.length) (hw : xs ++ ws.drop xs.length = ws') :
  Eff P ⟨dst, .call ⟨.builtin .copy, #[x, y], #[T, T]⟩, ty, pos, af, gd⟩ d ρ own (.p (.c (.v (.int .i64 xs.length)))) [(m, some (WB be ws'))] none [m] := by
 subst hw; exact wZ hT ht hs he hj hx hb hy hfit
end ops
theorem wG (n : Nat) : (List.replicate ((n : Int) + 1).toNat 0).drop n = [0] := by
 rw [show ((n : Int) + 1).toNat = n + 1 by omega, List.drop_replicate, show n + 1 - n = 1 by omega]; rfl
theorem wI (n : Nat) : (List.replicate ((n : Nat) : Int).toNat 0).drop n = [] := by
 rw [Int.toNat_natCast, List.drop_replicate, Nat.sub_self]; rfl
theorem nc {l : List Nat} {k : Nat} (h : l.length ≤ k) : l.getD k 0 = 0 := by
 rw [List.getD_eq_getElem?_getD, List.getElem?_eq_none h]; rfl
theorem r8 {l A : List Nat} (h : l.length < A.length) : (l ++ A.drop l.length).getD l.length 0 = A.getD l.length 0 := by
 rw [my, dV h]; rfl
theorem r6 {l A : List Nat} {v : Nat} (h : l.length < A.length) : (l ++ A.drop l.length).set l.length v = (l ++ [v]) ++ A.drop (l ++ [v]).length := by
 rw [dV h, Ab]; simp
theorem r7 {l A : List Nat} (h : l.length ≤ A.length) : (l ++ A.drop l.length).length = A.length := by simp; omega
end Go.AM
namespace Go.AM
open Go Go.RowKit
theorem vB {a b l : List Nat} {c : Nat} (hl : l.length = (a ++ [0]).length) (hab : b.length ≤ a.length) (ha : okW a) (hb : okW b) (_ho : okW l)
  (hv : wv l + 4294967296 ^ l.length * c = wv ((a ++ [0]).take l.length) + wv (b.take l.length)) : wv (l ++ (a ++ [0]).drop l.length) = wv a + wv b := by
 rw [hl, List.drop_length, List.append_nil]
 rw [hl, List.take_length, List.take_of_length_le (by simp; omega), mH] at hv
 simp only [Nat.mul_zero, Nat.add_zero, List.length_append, List.length_cons, List.length_nil, Nat.zero_add, Nat.pow_succ] at hv
 have h1 := gE ha
 have h2 := gE hb
 have h3 : 4294967296 ^ b.length ≤ 4294967296 ^ a.length := Nat.pow_le_pow_right (by omega) hab
 generalize 4294967296 ^ a.length = p at *
 generalize 4294967296 ^ b.length = q at *
 rcases Nat.eq_zero_or_pos c with h0 | h0
 ·rw [h0, Nat.mul_zero] at hv; omega
 have h4 : p * 4294967296 ≤ p * 4294967296 * c := Nat.le_mul_of_pos_right _ h0
 generalize p * 4294967296 * c = t at *
 omega
end Go.AM
namespace Go.AM
open Go Go.RowKit
theorem uf {a b l : List Nat} {c : Nat} (hl : l.length = a.length) (hab : b.length ≤ a.length) (hle : wv b ≤ wv a) (ho : okW l)
  (hv : wv l + wv (b.take l.length) = wv (a.take l.length) + 4294967296 ^ l.length * c) : wv (l ++ a.drop l.length) = wv a - wv b := by
 rw [hl, List.drop_length, List.append_nil]
 rw [hl, List.take_length, List.take_of_length_le hab] at hv
 have h1 := gE ho
 rw [hl] at h1
 generalize 4294967296 ^ a.length = p at *
 rcases Nat.eq_zero_or_pos c with h0 | h0
 ·subst h0; omega
 have : p * 1 ≤ p * c := Nat.mul_le_mul_left _ h0
 omega
end Go.AM
end
namespace Go.AM
section
open Go Go.RowKit
theorem gh (o : List Nat) (j v : Nat) (h : j < o.length) : wv (o.set j v) + 4294967296 ^ j * o.getD j 0 = wv o + 4294967296 ^ j * v := by
 induction o generalizing j with
 | nil => simp at h
 | cons x o ih =>
  cases j with
  | zero => simp [wv, List.getD_eq_getElem?_getD]; omega
  | succ j =>
   have := ih j (by simpa using h)
   simp only [List.set_cons_succ, wv, List.getD_eq_getElem?_getD, List.getElem?_cons_succ, Nat.pow_succ] at this ⊢
   have e1 : 4294967296 ^ j * 4294967296 * o[j]?.getD 0 = 4294967296 * (4294967296 ^ j * o[j]?.getD 0) := by
    rw [Nat.mul_comm (4294967296 ^ j) 4294967296, Nat.mul_assoc]
   have e2 : 4294967296 ^ j * 4294967296 * v = 4294967296 * (4294967296 ^ j * v) := by
    rw [Nat.mul_comm (4294967296 ^ j) 4294967296, Nat.mul_assoc]
   rw [e1, e2]; omega
theorem okW.set {o : List Nat} (h : okW o) {j v : Nat} (hv : v < 4294967296) : okW (o.set j v) := by
 intro x hx
 rcases List.mem_or_eq_of_mem_set hx with hx | hx
 ·exact h x hx
 omega
theorem fg (o : List Nat) (j v k : Nat) (h : j < o.length) : (o.set j v).getD k 0 = if j = k then v else o.getD k 0 := by
 rw [List.getD_eq_getElem?_getD, List.getElem?_set]
 by_cases e : j = k
 ·rw [if_pos e, if_pos e, if_pos h]; rfl
 rw [if_neg e, if_neg e, List.getD_eq_getElem?_getD]
theorem lS (n k : Nat) : (List.replicate n 0).getD k 0 = 0 := by
 rw [List.getD_eq_getElem?_getD, List.getElem?_replicate]
 split <;> rfl
theorem uK {o b : List Nat} {x c S i k t : Nat} (hlen : i + k < o.length) (ht : t = x * b.getD k 0 + o.getD (i + k) 0 + c)
  (hv : wv o + 4294967296 ^ (i + k) * c = S + 4294967296 ^ i * (x * wv (b.take k))) :
  wv (o.set (i + k) (t % 4294967296)) + 4294967296 ^ (i + (k + 1)) * (t / 4294967296) = S + 4294967296 ^ i * (x * wv (b.take (k + 1))) := by
 have h1 := gh o (i + k) (t % 4294967296) hlen
 rw [bQ, Nat.mul_add, Nat.mul_add, ← Nat.add_assoc, ← Nat.add_assoc, ← hv, Nat.pow_succ]
 have e1 : 4294967296 ^ i * (x * (4294967296 ^ k * b.getD k 0)) = 4294967296 ^ (i + k) * (x * b.getD k 0) := by
  rw [Nat.pow_add, Nat.mul_assoc]; congr 1; exact Nat.mul_left_comm _ _ _
 rw [e1]
 generalize o.getD (i + k) 0 = y at *
 generalize x * b.getD k 0 = z at *
 generalize 4294967296 ^ (i + k) = p at *
 have e2 : p * 4294967296 * (t / 4294967296) + p * (t % 4294967296) = p * z + p * y + p * c := by
  rw [Nat.mul_assoc, ← Nat.mul_add, ← Nat.mul_add, ← Nat.mul_add]; congr 1; omega
 omega
theorem uL {o o' a b : List Nat} {i c S : Nat} (hlen : i + b.length < o'.length) (hz : o'.getD (i + b.length) 0 = 0) (hS : S = wv o) (ho : wv o = wv (a.take i) * wv b)
  (hv : wv o' + 4294967296 ^ (i + b.length) * c = S + 4294967296 ^ i * (a.getD i 0 * wv (b.take b.length))) :
  wv (o'.set (i + b.length) c) = wv (a.take (i + 1)) * wv b := by
 have h1 := gh o' (i + b.length) c hlen
 rw [hz, Nat.mul_zero, Nat.add_zero] at h1
 rw [List.take_length] at hv
 rw [h1, hv, hS, ho, bQ, Nat.add_mul, Nat.mul_assoc]
theorem uk {o a : List Nat} {n i q s x : Nat} (hn : n = 32 * q + s) (hs : s < 32) (hlen : i + q + 1 < o.length) (hx : x = a.getD i 0) (hlo : o.getD (i + q) 0 < 2 ^ s) (hz : o.getD (i + q + 1) 0 = 0)
  (hv : wv o = wv (a.take i) * 2 ^ n) :
  wv ((o.set (i + q) (o.getD (i + q) 0 ||| x * 2 ^ s % 4294967296)).set (i + q + 1) (x * 2 ^ s / 4294967296)) = wv (a.take (i + 1)) * 2 ^ n := by
 have hB : (4294967296 : Nat) = 2 ^ s * 2 ^ (32 - s) := by rw [← Nat.pow_add, show s + (32 - s) = 32 by omega]
 have hor : o.getD (i + q) 0 ||| x * 2 ^ s % 4294967296 = o.getD (i + q) 0 + x * 2 ^ s % 4294967296 := by
  have e : x * 2 ^ s % 4294967296 = 2 ^ s * (x % 2 ^ (32 - s)) := by
   rw [hB, Nat.mul_comm x, Nat.mul_mod_mul_left]
  rw [e, Nat.or_comm, ← Nat.two_pow_add_eq_or_of_lt hlo, Nat.add_comm]
 rw [hor]
 have h1 := gh o (i + q) (o.getD (i + q) 0 + x * 2 ^ s % 4294967296) (by omega)
 have h2 := gh (o.set (i + q) (o.getD (i + q) 0 + x * 2 ^ s % 4294967296)) (i + q + 1) (x * 2 ^ s / 4294967296) (by simp; omega)
 rw [fg _ _ _ _ (by omega), if_neg (by omega), hz, Nat.mul_zero, Nat.add_zero] at h2
 rw [bQ, Nat.add_mul, ← hv, ← hx]
 rw [h2]
 have e3 : 4294967296 ^ i * x * 2 ^ n = 4294967296 ^ (i + q) * (x * 2 ^ s) := by
  have : (2 : Nat) ^ n = 4294967296 ^ q * 2 ^ s := by rw [hn, Nat.pow_add, Nat.pow_mul]
  rw [this, Nat.pow_add, Nat.mul_assoc, Nat.mul_assoc]; congr 1
  exact Nat.mul_left_comm _ _ _
 rw [e3, Nat.pow_succ]
 generalize x * 2 ^ s = t at *
 generalize o.getD (i + q) 0 = y at *
 generalize 4294967296 ^ (i + q) = p at *
 have e4 : p * 4294967296 * (t / 4294967296) + p * (t % 4294967296) = p * t := by
  rw [Nat.mul_assoc, ← Nat.mul_add]; congr 1; omega
 rw [Nat.mul_add] at h1
 omega
def fJ (a : List Nat) (n i : Nat) : Nat := (a.getD i 0 + 4294967296 * a.getD (i + 1) 0) / 2 ^ n % 4294967296
theorem rD (n : Nat) (hn : n < 32) : ∀ (a : List Nat), okW a → wv ((List.range a.length).map (fJ a n)) = wv a / 2 ^ n
 | [], _ => by simp [wv]
 | x :: l, h => by
  have ih := rD n hn l fun y hy => h y (by simp [hy])
  have hx := h x (by simp)
  have hp : 0 < 2 ^ n := Nat.two_pow_pos n
  have hB : (4294967296 : Nat) = 2 ^ n * 2 ^ (32 - n) := by rw [← Nat.pow_add, show n + (32 - n) = 32 by omega]
  have e0 : (List.range (x :: l).length).map (fJ (x :: l) n) = fJ (x :: l) n 0 :: (List.range l.length).map (fJ l n) := by
   rw [List.length_cons, List.range_succ_eq_map, List.map_cons, List.map_map]
   congr 1
  rw [e0]
  simp only [wv]
  rw [ih]
  have hl : ∃ M, wv l = l.getD 0 0 + 4294967296 * M := by
   cases l with
   | nil => exact ⟨0, by simp [wv]⟩
   | cons y r => exact ⟨wv r, by simp [wv]⟩
  obtain ⟨M, hM⟩ := hl
  have hs : fJ (x :: l) n 0 = (x + 4294967296 * l.getD 0 0) / 2 ^ n % 4294967296 := by
   unfold fJ
   simp [List.getD_eq_getElem?_getD]
  rw [hs, hM]
  generalize l.getD 0 0 = y
  generalize hu : (2 : Nat) ^ n = u at *
  generalize hw : (2 : Nat) ^ (32 - n) = w at *
  have hwp : 0 < w := by rw [← hw]; exact Nat.two_pow_pos _
  have d1 : ∀ X Y : Nat, (X + 4294967296 * Y) / u = X / u + w * Y := fun X Y => by
   rw [hB, Nat.mul_assoc, Nat.add_mul_div_left _ _ hp]
  have hxu : x / u < w := by
   rw [Nat.div_lt_iff_lt_mul hp, Nat.mul_comm, ← hB]; exact hx
  rw [d1 x y, d1 x (y + 4294967296 * M), d1 y M]
  have hy : y = u * (y / u) + y % u := (Nat.div_add_mod y u).symm
  have hyu : y % u < u := Nat.mod_lt _ hp
  have e1 : w * y = 4294967296 * (y / u) + w * (y % u) := by
   conv => lhs; rw [hy]
   rw [Nat.mul_add, hB, Nat.mul_comm u w, Nat.mul_assoc]
  have e2 : w * (y % u) + w ≤ 4294967296 := by
   rw [hB, Nat.mul_comm u w, ← Nat.mul_succ]; exact Nat.mul_le_mul_left _ hyu
  have e3 : (x / u + w * y) % 4294967296 = x / u + w * (y % u) := by
   rw [e1, show x / u + (4294967296 * (y / u) + w * (y % u)) = x / u + w * (y % u) + 4294967296 * (y / u) by omega, Nat.add_mul_mod_self_left]
   exact Nat.mod_eq_of_lt (by omega)
  rw [e3, Nat.mul_add 4294967296, Nat.mul_add w y, e1]
  have e4 : w * (4294967296 * M) = 4294967296 * (w * M) := Nat.mul_left_comm _ _ _
  omega
theorem qp {o : List Nat} {j v : Nat} (h : j < o.length) : (o.set j v).drop j = v :: o.drop (j + 1) := by
 have h2 : j < (o.set j v).length := by simpa using h
 rw [List.drop_eq_getElem_cons h2, List.getElem_set_self, List.drop_set_of_lt (by omega)]
theorem tF {a o : List Nat} {k r d : Nat} (hk : k < a.length) (ho : o.length = a.length) (hv : wv (a.drop (k + 1)) = d * wv (o.drop (k + 1)) + r) (_hd : 0 < d) :
  wv (a.drop k) = d * wv ((o.set k ((r * 4294967296 + a.getD k 0) / d)).drop k) + (r * 4294967296 + a.getD k 0) % d := by
 rw [dV hk, qp (by omega)]
 simp only [wv]
 rw [hv]
 have e := Nat.div_add_mod (r * 4294967296 + a.getD k 0) d
 generalize (r * 4294967296 + a.getD k 0) / d = q at *
 generalize (r * 4294967296 + a.getD k 0) % d = m at *
 rw [Nat.mul_add d q, Nat.mul_left_comm d 4294967296]
 omega
theorem ul {x s : Nat} (hx : x < 4294967296) (hs : s < 32) : x * 2 ^ s / 4294967296 < 4294967296 := by
 rw [Nat.div_lt_iff_lt_mul (by omega)]
 have h1 : 2 ^ s ≤ 2 ^ 32 := Nat.pow_le_pow_right (by omega) (by omega)
 calc x * 2 ^ s ≤ x * 2 ^ 32 := Nat.mul_le_mul_left _ h1
  _ < 4294967296 * 4294967296 := by omega
theorem ES {x s : Nat} (hx : x < 4294967296) (hs : s < 32) : IntKind.u64.wrap ((x : Int) * 2 ^ (min ((s : Nat) : Int).toNat IntKind.u64.bits)) = ((x * 2 ^ s : Nat) : Int) := by
 have h1 : min ((s : Nat) : Int).toNat IntKind.u64.bits = s := by rw [Int.toNat_natCast]; exact Nat.min_eq_left (by show s ≤ 64; omega)
 rw [h1]
 have h2 := ul hx hs
 have h3 : x * 2 ^ s < 18446744073709551616 := by
  rw [Nat.div_lt_iff_lt_mul (by omega)] at h2; omega
 have e : (x : Int) * 2 ^ s = ((x * 2 ^ s : Nat) : Int) := by simp
 rw [e, dq h3]
theorem vv {hi lo : Nat} (h1 : lo < 4294967296) (h2 : hi < 4294967296) : bits .or .u64 (lo : Int) ((hi * 2 ^ 32 % 2 ^ IntKind.u64.bits : Nat) : Int) = ((lo + 4294967296 * hi : Nat) : Int) := by
 have h3 : hi * 2 ^ 32 % 2 ^ IntKind.u64.bits < 2 ^ IntKind.u64.bits := Nat.mod_lt _ (Nat.two_pow_pos _)
 rw [lr (k := .u64) rfl (fN (by omega)) h3, Nat.or_comm, rT h2 h1]
 congr 1; omega
theorem CM (a : List Nat) (k : Nat) : okW ((List.range a.length).map (fJ a k)) := by
 intro x hx
 obtain ⟨j, _, rfl⟩ := List.mem_map.1 hx
 exact Nat.mod_lt _ (by omega)
theorem z1 {a o : List Nat} {k : Nat} (hv : ∀ j, j < a.length → o.getD j 0 = fJ a k j) (hl : o.length = a.length) : o = (List.range a.length).map (fJ a k) := by
 apply List.ext_getElem
 ·simp [hl]
 intro j h1 h2
 have := hv j (by omega)
 rw [List.getD_eq_getElem?_getD, List.getElem?_eq_getElem h1] at this
 simpa using this
section ops
variable {P : Program} {tt : TT} (hT : dx P tt)
variable {dst : Option Nat} {ty : TypeId} {pos : String} {af : Array Edge} {gd : Option (Nat × Bool)} {d : Nat} {ρ : Operand → AV} {own : Own}
variable {T : TypeId} {i : TyI} {x y : Operand} {e : TypeId} {j : TyI}
include hT in
theorem eW {k : IntKind} {n : Nat} {ws : List Nat} (ht : tt T = some i) (hs : i.sh = .sl e) (he : tt e = some j) (hj : j.size = 1) (hx : ρ x = .p (.c (W ws))) (hy : ρ y = .p (.c (.v (.int k (n : Nat))))) (hn : n < ws.length) :
  Eff P ⟨dst, .indexAddr T x y, ty, pos, af, gd⟩ d ρ own (.ip ((ws.map w32).drop (n * 1))) [] none [] := by
 have h := ce (dst := dst) (ty := ty) (pos := pos) (af := af) (gd := gd) (d := d) (own := own) hT ht hs he hx rfl hy (by omega) (jW (by omega))
 rw [hj, Int.toNat_natCast] at h
 exact h
include hT in
theorem jp {m : Nat} {k : IntKind} {n : Nat} {ws : List Nat} {be : TypeId} (ht : tt T = some i) (hs : i.sh = .sl e) (he : tt e = some j) (hj : j.size = 1) (hx : ρ x = .vec m) (hb : own m = some (WB be ws)) (hy : ρ y = .p (.c (.v (.int k (n : Nat))))) (hn : n < ws.length) :
  Eff P ⟨dst, .indexAddr T x y, ty, pos, af, gd⟩ d ρ own (.loc m n) [] none [m] := by
 have h := gy (dst := dst) (ty := ty) (pos := pos) (af := af) (gd := gd) (d := d) hT ht hs he hj hx hb hy (by omega)
 rw [Int.toNat_natCast] at h
 exact h
end ops
def sg (neg : Bool) (m : Nat) : Int := if neg then -(m : Int) else m
section zip
variable {P : Program} {N np : Nat} {ops : Array Oper} {draw : Bool} {os : List Oper} {s : St} {acc : List Io} {K : St → Prop}
variable {op : Op} {ty : TypeId} {pos : String} {af : Array Edge} {t : Nat}
theorem aa {v : AV} {rd : List Nat} (he : Eff P ⟨some t, op, ty, pos, af, none⟩ t (ev s.regs) s.own v [] none rd)
  (hr : RK P N np ops draw os ⟨upd s.regs t v, s.own⟩ (acc ++ [⟨men v ++ [], [], rd, false⟩]) K) : RK P N np ops draw (⟨some t, op, ty, pos, af, none⟩ :: os) s acc K := da ag he hr
theorem aj {x : Operand} {v : DV} (hx : ev s.regs x = AV.p (.c v))
  (hr : RK P N np ops draw os ⟨upd s.regs t (.p (.c v)), s.own⟩ (acc ++ [⟨men (.p (.c v)) ++ [], [], [], false⟩]) K) : RK P N np ops draw (⟨some t, .move x, ty, pos, af, none⟩ :: os) s acc K := da ag (aw hx) hr
theorem ai {x : Operand} {v : DV} (hx : ev s.regs x = AV.p (.c v))
  (hr : RK P N np ops draw os ⟨upd s.regs t (.p (.c v)), s.own⟩ (acc ++ [⟨men (.p (.c v)) ++ [], [], [], false⟩]) K) : RK P N np ops draw (⟨some t, .assign x, ty, pos, af, none⟩ :: os) s acc K := da ag (bf hx) hr
theorem ae (hK : K s) (h : (tK np (c9 ops.toList) (dT ops ops.toList acc) && (!draw || qE ops.toList (dT ops ops.toList acc)) && tJ N ops.toList) = true := by kernel_rfl) :
  RK P N np ops draw [] s acc K := RK.done h hK
section
variable {tt : TT} (hT : dx P tt) {T : TypeId} {i : TyI} {x y : Operand} {m off : Nat} {b : Blk} {rest : List DV}
include hT
theorem Gq {c1 c2 : DV} (ht : tt T = some i) (hg : i.sh.agg = true) (hx : ev s.regs x = .loc m off) (hb : s.own m = some b) (hcs : b.cs.drop off = [c1, c2] ++ rest) (hl : [c1, c2].length = i.size)
  (hr : RK P N np ops draw os ⟨upd s.regs t (.p (.a [c1, c2])), s.own⟩ (acc ++ [⟨men (.p (.a [c1, c2])) ++ [], [], [m], false⟩]) K) : RK P N np ops draw (⟨some t, .load T x, ty, pos, af, none⟩ :: os) s acc K :=
 da ag (aT hT ht hg hx hb hcs hl) hr
theorem bO {c1 c2 c3 c4 c5 c6 : DV} (ht : tt T = some i) (hg : i.sh.agg = true) (hx : ev s.regs x = .loc m off) (hb : s.own m = some b) (hcs : b.cs.drop off = [c1, c2, c3, c4, c5, c6] ++ rest) (hl : [c1, c2, c3, c4, c5, c6].length = i.size)
  (hr : RK P N np ops draw os ⟨upd s.regs t (.p (.a [c1, c2, c3, c4, c5, c6])), s.own⟩ (acc ++ [⟨men (.p (.a [c1, c2, c3, c4, c5, c6])) ++ [], [], [m], false⟩]) K) : RK P N np ops draw (⟨some t, .load T x, ty, pos, af, none⟩ :: os) s acc K :=
 da ag (aT hT ht hg hx hb hcs hl) hr
theorem Hh {v : PV} {cs : List DV} (ht : tt T = some i) (hx : ev s.regs x = .loc m off) (hy : ev s.regs y = .p v) (hb : s.own m = some b) (hl : (bV v).length = i.size) (hin : Nat.ble (off + (bV v).length) b.cs.length = true) (hcs : spl off (bV v) b.cs = cs)
  (hr : RK P N np ops draw os ⟨s.regs, upd s.own m (some ⟨b.vec, usz b, b.e, cs⟩)⟩ (acc ++ [⟨men .junk ++ jM [(m, some ⟨b.vec, usz b, b.e, cs⟩)] none, [m], [m], false⟩]) K) : RK P N np ops draw (⟨none, .store T x y, ty, pos, af, none⟩ :: os) s acc K :=
 dj ag (wX hT ht hx hy hb hl hin hcs) hr
theorem Hi {l : List (Nat × Nat)} {f fo ft : Nat} {j : TyI} (ht : tt T = some i) (hs : i.sh = .st l) (hf : l[f]? = some (fo, ft)) (hft : tt ft = some j) (hj : Nat.blt 0 j.size = true) (hx : ev s.regs x = .loc m off)
  (hr : RK P N np ops draw os ⟨upd s.regs t (.loc m (off + fo)), s.own⟩ (acc ++ [⟨men (.loc m (off + fo)) ++ [], [], [], false⟩]) K) : RK P N np ops draw (⟨some t, .fieldAddr T x f, ty, pos, af, none⟩ :: os) s acc K :=
 da ag (bw hT ht hs hf hft hj hx) hr
end
theorem ab {B : Bool} {Q : Exit → St → Prop} {id : Nat} {y : Code} (hP : P.follows .mixedOrders = true) (h : RK P N np ops draw ops.toList (ci (c9 ops.toList) s) [] (iV (AWp P B N np y Q) Q .normal)) : AWp P B N np (.seq (.region id ops draw) y) Q s :=
 ak (au hP h)
end zip
section zip2
variable {P : Program} {N np : Nat} {ops : Array Oper} {draw : Bool} {os : List Oper} {s : St} {acc : List Io} {K : St → Prop}
variable {op : Op} {ty : TypeId} {pos : String} {af : Array Edge} {t : Nat}
theorem aD {v : AV} {rd : List Nat} {j t' : Nat} {want c : Bool} (h3 : c = want) (he : Eff P ⟨some t, op, ty, pos, af, some (j, want)⟩ t (ev s.regs) s.own v [] none rd)
    (hr : RK P N np ops draw os ⟨upd s.regs t v, s.own⟩ (acc ++ [⟨men v ++ [], [], rd, false⟩]) K) (h1 : gB ops j = some t' := by exact rfl) (h2 : s.regs t' = .p (.c (.v (.bool c))) := by exact rfl) : RK P N np ops draw (⟨some t, op, ty, pos, af, some (j, want)⟩ :: os) s acc K := da (bX h1 h2 h3) he hr
theorem a6 {j t' : Nat} {want c : Bool} (h3 : c = !want)
    (hr : RK P N np ops draw os ⟨upd s.regs t (.t []), s.own⟩ (acc ++ [⟨[], [], [], false⟩]) K) (h1 : gB ops j = some t' := by exact rfl) (h2 : s.regs t' = .p (.c (.v (.bool c))) := by exact rfl) : RK P N np ops draw (⟨some t, op, ty, pos, af, some (j, want)⟩ :: os) s acc K := sI (iG h1 h2 h3) hr
theorem eB {j t' : Nat} {want : Bool}
    (hr : RK P N np ops draw os ⟨upd s.regs t (.t []), s.own⟩ (acc ++ [⟨[], [], [], false⟩]) K) (h1 : gB ops j = some t' := by exact rfl) (h2 : s.regs t' = .t [] := by exact rfl) : RK P N np ops draw (⟨some t, op, ty, pos, af, some (j, want)⟩ :: os) s acc K := sI (xu h1 h2) hr
theorem bn {tt : TT} (hT : dx P tt) {T : TypeId} {i : TyI} {x : Operand} {m off : Nat} {b : Blk} {dv : DV} (ht : tt T = some i) (hg : i.sh.agg = false) (hx : ev s.regs x = .loc m off) (hb : s.own m = some b)
    (hr : RK P N np ops draw os ⟨upd s.regs t (.p (.c dv)), s.own⟩ (acc ++ [⟨men (.p (.c dv)) ++ [], [], [m], false⟩]) K) (hcs : b.cs[off]? = some dv := by first | rfl | exact jC (by omega)) : RK P N np ops draw (⟨some t, .load T x, ty, pos, af, none⟩ :: os) s acc K :=
  da ag (de hT ht hg hx hb hcs) hr
theorem bp {x y : Operand} {T yT : TypeId} {k : IntKind} {m n c : Int} (hx : ev s.regs x = .p (.c (.v (.int k m)))) (hy : ev s.regs y = .p (.c (.v (.int k n))))
    (hr : RK P N np ops draw os ⟨upd s.regs t (.p (.c (.v (.int k c)))), s.own⟩ (acc ++ [⟨men (.p (.c (.v (.int k c)))) ++ [], [], [], false⟩]) K) (hc : k.wrap (m + n) = c := by first | exact IntWalk.i64_in _ (by omega) | rfl) : RK P N np ops draw (⟨some t, .binOp .add T x y yT, ty, pos, af, none⟩ :: os) s acc K :=
  da ag (bI hx hy hc) hr
theorem aH {f : FuncId} {fn : Func} {c : Code} {args : List AV} {res : AV} (hf : P.funcs[f]? = some fn) (hb : fn.body = some c) (hN : fn.ntmps = N) (hna : Nat.ble args.length N = true) (hres : men res = []) (h : AWp P false N 0 c (jX P fn res O) ⟨fun t => args.getD t .junk, O⟩)
    (hnm : (fn.name == "runtime.NumGoroutine") = false := by kernel_rfl) : CallM P f args O res O :=
  qF (np := 0) hf hnm hb hN (Nat.le_of_ble_eq_true hna) (fun m h => absurd rfl h) (fun m h => absurd rfl h) hres h
theorem E1 {fn : Func} {t : Nat} {pv : PV} {res : AV} (hres : fn.results = #[.tmp t]) (h : s.regs t = .p pv) (hs : Sub (.p pv) res) : jX P fn res O .ret s :=
  dl hres (.inr rfl) (bC h) hs bv
theorem E11 {fn : Func} {t u : Nat} {pv pu : PV} {res : AV} (hres : fn.results = #[.tmp t, .tmp u]) (h : s.regs t = .p pv) (h2 : s.regs u = .p pu) (hs : Sub (.t [pv, pu]) res) : jX P fn res O .ret s :=
  bS hres (.inr rfl) (bC h) (bC h2) hs bv
theorem E2 {tt : TT} (hT : dx P tt) {fn : Func} {t m off : Nat} {T : TypeId} {i : TyI} {b : Blk} {c1 c2 : DV} {rest : List DV} {res : AV} (hres : fn.results = #[.cell t T]) (ht : tt T = some i) (hg : i.sh.agg = true) (h : s.regs t = .loc m off) (hb : s.own m = some b) (hcs : b.cs.drop off = [c1, c2] ++ rest) (hl : [c1, c2].length = i.size) (hs : Sub (.p (.a [c1, c2])) res) : jX P fn res O .ret s :=
  dl hres (.inr rfl) (aO hT ht hg h hb hcs hl) hs bv
theorem aE {tt : TT} (hT : dx P tt) {T : TypeId} {i : TyI} {x y : Operand} {m off : Nat} {b : Blk} {v : PV} {cs : List DV} (h : (tt T, ev s.regs x, ev s.regs y, s.own m, (bV v).length, Nat.ble (off + (bV v).length) b.cs.length, spl off (bV v) b.cs) = (some i, .loc m off, .p v, some b, i.size, true, cs))
    (hr : RK P N np ops draw os ⟨s.regs, upd s.own m (some ⟨b.vec, usz b, b.e, cs⟩)⟩ (acc ++ [⟨men .junk ++ jM [(m, some ⟨b.vec, usz b, b.e, cs⟩)] none, [m], [m], false⟩]) K) : RK P N np ops draw (⟨none, .store T x y, ty, pos, af, none⟩ :: os) s acc K := by
  injection h with h1 h; injection h with h2 h; injection h with h3 h; injection h with h4 h; injection h with h5 h; injection h with h6 h7
  exact Hh hT h1 h2 h3 h4 h5 h6 h7 hr
theorem av {tt : TT} (hT : dx P tt) {T : TypeId} {i : TyI} {x : Operand} {m off : Nat} {b : Blk} {rest : List DV} {c1 c2 : DV} (h : (tt T, i.sh.agg, ev s.regs x, s.own m, b.cs.drop off, [c1, c2].length) = (some i, true, .loc m off, some b, [c1, c2] ++ rest, i.size))
    (hr : RK P N np ops draw os ⟨upd s.regs t (.p (.a [c1, c2])), s.own⟩ (acc ++ [⟨men (.p (.a [c1, c2])) ++ [], [], [m], false⟩]) K) : RK P N np ops draw (⟨some t, .load T x, ty, pos, af, none⟩ :: os) s acc K := by
  injection h with h1 h; injection h with h2 h; injection h with h3 h; injection h with h4 h; injection h with h5 h6
  exact Gq hT h1 h2 h3 h4 h5 h6 hr
theorem aM {tt : TT} (hT : dx P tt) {T : TypeId} {i : TyI} {x : Operand} {m off : Nat} {l : List (Nat × Nat)} {f fo ft : Nat} {j : TyI} (h : (tt T, i.sh, l[f]?, tt ft, Nat.blt 0 j.size, ev s.regs x) = (some i, .st l, some (fo, ft), some j, true, .loc m off))
    (hr : RK P N np ops draw os ⟨upd s.regs t (.loc m (off + fo)), s.own⟩ (acc ++ [⟨men (.loc m (off + fo)) ++ [], [], [], false⟩]) K) : RK P N np ops draw (⟨some t, .fieldAddr T x f, ty, pos, af, none⟩ :: os) s acc K := by
  injection h with h1 h; injection h with h2 h; injection h with h3 h; injection h with h4 h; injection h with h5 h6
  exact Hi hT h1 h2 h3 h4 h5 h6 hr
theorem cz {tt : TT} (hT : dx P tt) {T : TypeId} {i : TyI} {x : Operand} {xs : List DV} {dv : DV} (ht : tt T = some i) (hg : i.sh.agg = false) (hx : ev s.regs x = .ip xs)
    (hr : RK P N np ops draw os ⟨upd s.regs t (.p (.c dv)), s.own⟩ (acc ++ [⟨men (.p (.c dv)) ++ [], [], [], false⟩]) K) (hcs : xs[0]? = some dv := by first | rfl | exact lL (by omega)) : RK P N np ops draw (⟨some t, .load T x, ty, pos, af, none⟩ :: os) s acc K :=
  da ag (bJ hT ht hg hx hcs) hr
theorem cI {v : AV} {rd : List Nat} {T : TypeId} {x y : Operand}
    (hr : RK P N np ops draw os ⟨upd s.regs t v, s.own⟩ (acc ++ [⟨men v ++ [], [], rd, false⟩]) K)
    (he : Eff P ⟨some t, .indexAddr T x y, ty, pos, af, none⟩ t (ev s.regs) s.own v [] none rd := by first | exact eW hT rfl rfl rfl rfl rfl rfl (by omega) | exact ce hT rfl rfl rfl rfl rfl rfl (by omega) (by first | exact jW (by omega) | simp)) : RK P N np ops draw (⟨some t, .indexAddr T x y, ty, pos, af, none⟩ :: os) s acc K := da ag he hr
theorem cW {v : AV} {rd : List Nat} {T : TypeId} {x y : Operand}
    (hr : RK P N np ops draw os ⟨upd s.regs t v, s.own⟩ (acc ++ [⟨men v ++ [], [], rd, false⟩]) K)
    (he : Eff P ⟨some t, .indexAddr T x y, ty, pos, af, none⟩ t (ev s.regs) s.own v [] none rd := by first | exact jp hT rfl rfl rfl rfl rfl rfl rfl (by first | omega | (simp; omega)) | exact gy hT rfl rfl rfl rfl rfl rfl rfl (by first | omega | (simp; omega))) : RK P N np ops draw (⟨some t, .indexAddr T x y, ty, pos, af, none⟩ :: os) s acc K := da ag he hr
end zip2
end
section
open Go Go.RowKit
theorem DU {g v1 r N B u2 v2 : Nat} (hg : g * v1 + r = N) (h : r * B + u2 < g * v2) : N * B + u2 < g * (v1 * B + v2) := by
 rw [← hg, Nat.add_mul, Nat.mul_add, ← Nat.mul_assoc]; omega
theorem DT {g v1 r N B u2 v2 : Nat} (hg : g * v1 + r = N) (h : g * v2 ≤ r * B + u2) : g * (v1 * B + v2) ≤ N * B + u2 := by
 rw [← hg, Nat.add_mul, Nat.mul_add, ← Nat.mul_assoc]; omega
section guess
variable {P V T N u2 v1 v2 vl tl g r : Nat}
theorem DQ (hV : V = P * (v1 * 4294967296 + v2) + vl) (hT : T = P * (N * 4294967296 + u2) + tl) (htl : tl < P) (hu2 : u2 < 4294967296) (hv1 : 0 < v1) : T / V ≤ N / v1 := by
 rw [Nat.le_div_iff_mul_le hv1]
 have h1 : T / V * V ≤ T := Nat.div_mul_le_self T V
 generalize T / V = q at *
 have h2 : q * (P * (v1 * 4294967296)) ≤ q * V := Nat.mul_le_mul_left _ (by rw [hV, Nat.mul_add]; omega)
 have h3 : T < P * ((N + 1) * 4294967296) := by
  have : P * (N * 4294967296 + u2) + P ≤ P * ((N + 1) * 4294967296) := by
   rw [← Nat.mul_succ]; exact Nat.mul_le_mul_left _ (by omega)
  omega
 have h4 : P * (q * v1 * 4294967296) < P * ((N + 1) * 4294967296) := by
  have e : P * (q * v1 * 4294967296) = q * (P * (v1 * 4294967296)) := by
   rw [Nat.mul_assoc q v1, Nat.mul_left_comm]
  omega
 have h5 := Nat.lt_of_mul_lt_mul_left h4
 omega
theorem DS (hV : V = P * (v1 * 4294967296 + v2) + vl) (hT : T = P * (N * 4294967296 + u2) + tl) (htl : tl < P) (hg : g * v1 + r = N) (h : r * 4294967296 + u2 < g * v2) : T / V < g := by
 have h1 : T / V * V ≤ T := Nat.div_mul_le_self T V
 generalize T / V = q at *
 have h2 : q * (P * (v1 * 4294967296 + v2)) ≤ q * V := Nat.mul_le_mul_left _ (by omega)
 have h3 : P * (q * (v1 * 4294967296 + v2)) < P * (N * 4294967296 + u2 + 1) := by
  have e : P * (q * (v1 * 4294967296 + v2)) = q * (P * (v1 * 4294967296 + v2)) := Nat.mul_left_comm _ _ _
  have e3 : P * (N * 4294967296 + u2 + 1) = P * (N * 4294967296 + u2) + P := Nat.mul_succ _ _
  omega
 have h5 := Nat.lt_of_mul_lt_mul_left h3
 have h6 : N * 4294967296 + u2 < g * (v1 * 4294967296 + v2) := by
  exact DU hg h
 have h7 : q * (v1 * 4294967296 + v2) < g * (v1 * 4294967296 + v2) := by omega
 exact Nat.lt_of_mul_lt_mul_right h7
theorem g_N (hV : V = P * (v1 * 4294967296 + v2) + vl) (hvl : vl < P) (hT : T = P * (N * 4294967296 + u2) + tl) (hTV : T < 4294967296 * V) : N ≤ v1 * 4294967296 + v2 := by
 have h1 : P * (N * 4294967296) < P * (4294967296 * (v1 * 4294967296 + v2 + 1)) := by
  have e : P * (4294967296 * (v1 * 4294967296 + v2 + 1)) = 4294967296 * (P * (v1 * 4294967296 + v2) + P) := by
   rw [Nat.mul_left_comm, Nat.mul_succ]
  have e2 : P * (N * 4294967296) ≤ P * (N * 4294967296 + u2) := Nat.mul_le_mul_left _ (by omega)
  omega
 have h2 := Nat.lt_of_mul_lt_mul_left h1
 omega
theorem DR (hV : V = P * (v1 * 4294967296 + v2) + vl) (hvl : vl < P) (hT : T = P * (N * 4294967296 + u2) + tl) (hv1 : 2147483648 ≤ v1) (hv2 : v2 < 4294967296) (hN : N ≤ v1 * 4294967296 + v2) (hg : g * v1 + r = N)
  (h : (g < 4294967296 ∧ g * v2 ≤ r * 4294967296 + u2) ∨ 4294967296 ≤ r) : g < 4294967296 ∧ g ≤ T / V + 1 := by
 have hgB : g < 4294967296 := by
  rcases h with h | h
  ·exact h.1
  rcases Nat.lt_or_ge g 4294967296 with h1 | h1
  ·exact h1
  have : 4294967296 * v1 ≤ g * v1 := Nat.mul_le_mul_right _ h1
  omega
 refine ⟨hgB, ?_⟩
 have hle : g * v2 ≤ r * 4294967296 + u2 := by
  rcases h with h | h
  ·exact h.2
  have h1 : g * v2 ≤ 4294967296 * 4294967296 := Nat.mul_le_mul (by omega) (by omega)
  have h2 : 4294967296 * 4294967296 ≤ r * 4294967296 := Nat.mul_le_mul_right _ h
  omega
 have h6 : g * (v1 * 4294967296 + v2) ≤ N * 4294967296 + u2 := by
  exact DT hg hle
 have hPpos : 0 < P := by omega
 have hVpos : 0 < V := by
  have : 0 < P * (v1 * 4294967296 + v2) := Nat.mul_pos hPpos (by omega)
  omega
 have h7 : g * V < T + V := by
  have e1 : g * V = P * (g * (v1 * 4294967296 + v2)) + g * vl := by
   rw [hV, Nat.mul_add, Nat.mul_left_comm]
  have e2 : P * (g * (v1 * 4294967296 + v2)) ≤ P * (N * 4294967296 + u2) := Nat.mul_le_mul_left _ h6
  have e3 : g * vl ≤ g * P := Nat.mul_le_mul_left _ (by omega)
  have e4 : g * P < (v1 * 4294967296 + v2) * P := Nat.mul_lt_mul_of_pos_right (by omega) hPpos
  have e5 : (v1 * 4294967296 + v2) * P = P * (v1 * 4294967296 + v2) := Nat.mul_comm _ _
  omega
 rcases Nat.eq_zero_or_pos g with h0 | h0
 ·subst h0; exact Nat.zero_le _
 have h8 : (g - 1) * V ≤ T := by
  have : (g - 1) * V + V = g * V := by
   rw [← Nat.succ_mul]; congr 1; omega
  omega
 have h9 : g - 1 ≤ T / V := (Nat.le_div_iff_mul_le hVpos).2 h8
 generalize T / V = q at h9 ⊢
 omega
end guess
theorem za (w : List Nat) (k : Nat) : wv (w.take (k + 3)) = 4294967296 ^ k * ((w.getD (k + 2) 0 * 4294967296 + w.getD (k + 1) 0) * 4294967296 + w.getD k 0) + wv (w.take k) := by
 rw [bQ, bQ, bQ, Nat.pow_succ 4294967296 (k + 1), Nat.pow_succ 4294967296 k]
 generalize 4294967296 ^ k = p
 generalize w.getD k 0 = x
 generalize w.getD (k + 1) 0 = y
 generalize w.getD (k + 2) 0 = z
 have e0 : p * ((z * 4294967296 + y) * 4294967296 + x) = p * (z * 4294967296 * 4294967296) + p * (y * 4294967296) + p * x := by
  rw [Nat.add_mul, Nat.mul_add, Nat.mul_add]
 have e1 : p * 4294967296 * y = p * (y * 4294967296) := by rw [Nat.mul_assoc, Nat.mul_comm 4294967296 y]
 have e2 : p * 4294967296 * 4294967296 * z = p * (z * 4294967296 * 4294967296) := by
  rw [Nat.mul_assoc, Nat.mul_assoc, ← Nat.mul_assoc 4294967296, Nat.mul_comm _ z, ← Nat.mul_assoc z]
 rw [e0, e1, e2]; omega
theorem zb (w : List Nat) (k : Nat) : wv (w.take (k + 2)) = 4294967296 ^ k * (w.getD (k + 1) 0 * 4294967296 + w.getD k 0) + wv (w.take k) := by
 rw [bQ, bQ, Nat.pow_succ]
 generalize 4294967296 ^ k = p
 generalize w.getD k 0 = x
 generalize w.getD (k + 1) 0 = y
 have e0 : p * (y * 4294967296 + x) = p * (y * 4294967296) + p * x := Nat.mul_add _ _ _
 have e1 : p * 4294967296 * y = p * (y * 4294967296) := by rw [Nat.mul_assoc, Nat.mul_comm 4294967296 y]
 rw [e0, e1]; omega
theorem ky (w : List Nat) (j k : Nat) : (w.drop j).getD k 0 = w.getD (j + k) 0 := by
 rw [List.getD_eq_getElem?_getD, List.getElem?_drop, List.getD_eq_getElem?_getD]
theorem dp {w : List Nat} (h : okW w) (k : Nat) : wv (w.take k) < 4294967296 ^ k := by
 have h1 := gE (h.take k)
 refine Nat.lt_of_lt_of_le h1 (Nat.pow_le_pow_right (by omega) ?_)
 rw [List.length_take]; exact Nat.min_le_left _ _
structure Dig (v u : List Nat) (k j : Nat) : Prop where
 hv : v.length = k + 2
 okv : okW v
 top : 2147483648 ≤ v.getD (k + 1) 0
 oku : okW u
 hu : j + k + 2 < u.length
 low : wv (u.drop (j + 1)) < wv v
section dig
variable {v u : List Nat} {k j : Nat} (h : Dig v u k j)
include h
theorem Dig.V : wv v = 4294967296 ^ k * (v.getD (k + 1) 0 * 4294967296 + v.getD k 0) + wv (v.take k) := by
 have := zb v k
 rwa [List.take_of_length_le (by rw [h.hv]; omega)] at this
theorem Dig.vl : wv (v.take k) < 4294967296 ^ k := dp h.okv k
theorem Dig.Vlt : wv v < 4294967296 ^ (k + 2) := by have := gE h.okv; rwa [h.hv] at this
theorem Dig.T0 : wv (u.drop j) = u.getD j 0 + 4294967296 * wv (u.drop (j + 1)) := by
 have := h.hu
 rw [dV (k := j) (by omega)]; rfl
theorem Dig.TV : wv (u.drop j) < 4294967296 * wv v := by
 have h1 := h.T0
 have h2 := h.low
 have h3 := h.oku.getD j
 have h4 : 4294967296 * (wv (u.drop (j + 1)) + 1) ≤ 4294967296 * wv v := Nat.mul_le_mul_left _ h2
 omega
theorem Dig.high : wv (u.drop (j + k + 3)) = 0 := by
 have h1 := h.TV
 have h2 := h.Vlt
 have h3 := dW (u.drop j) (k + 3) (by rw [List.length_drop]; have := h.hu; omega)
 rw [List.drop_drop] at h3
 have e : j + (k + 3) = j + k + 3 := by omega
 rw [e] at h3
 rcases Nat.eq_zero_or_pos (wv (u.drop (j + k + 3))) with h0 | h0
 ·exact h0
 exfalso
 have h4 : 4294967296 ^ (k + 3) ≤ 4294967296 ^ (k + 3) * wv (u.drop (j + k + 3)) := Nat.le_mul_of_pos_right _ h0
 have h5 : 4294967296 ^ (k + 3) = 4294967296 * 4294967296 ^ (k + 2) := by rw [Nat.pow_succ, Nat.mul_comm]
 have h6 : 4294967296 * wv v ≤ 4294967296 * 4294967296 ^ (k + 2) := Nat.mul_le_mul_left _ (by omega)
 omega
theorem Dig.T : wv (u.drop j) = 4294967296 ^ k * ((u.getD (j + k + 2) 0 * 4294967296 + u.getD (j + k + 1) 0) * 4294967296 + u.getD (j + k) 0) + wv ((u.drop j).take k) := by
 have h1 := za (u.drop j) k
 rw [ky, ky, ky] at h1
 have e : ((u.drop j).take (k + 3)) = (u.drop j).take (k + 3) := rfl
 have h3 := dW (u.drop j) (k + 3) (by rw [List.length_drop]; have := h.hu; omega)
 rw [List.drop_drop, show j + (k + 3) = j + k + 3 by omega, h.high, Nat.mul_zero, Nat.add_zero] at h3
 rw [h3, h1, show j + (k + 2) = j + k + 2 by omega, show j + (k + 1) = j + k + 1 by omega]
theorem Dig.tl : wv ((u.drop j).take k) < 4294967296 ^ k := dp (h.oku.drop j) k
def cQ (v u : List Nat) (j : Nat) : Nat := wv (u.drop j) / wv v
theorem Dig.q_lt : cQ v u j < 4294967296 := by
 have hp : 0 < wv v := by have := h.low; omega
 exact (Nat.div_lt_iff_lt_mul hp).2 h.TV
theorem Dig.init : cQ v u j ≤ (u.getD (j + k + 2) 0 * 4294967296 + u.getD (j + k + 1) 0) / v.getD (k + 1) 0 :=
 DQ h.V h.T h.tl (h.oku.getD _) (by have := h.top; omega)
theorem Dig.N : u.getD (j + k + 2) 0 * 4294967296 + u.getD (j + k + 1) 0 ≤ v.getD (k + 1) 0 * 4294967296 + v.getD k 0 := g_N h.V h.vl h.T h.TV
theorem Dig.dec {g r : Nat} (hg : g * v.getD (k + 1) 0 + r = u.getD (j + k + 2) 0 * 4294967296 + u.getD (j + k + 1) 0) (hc : 4294967296 ≤ g ∨ r * 4294967296 + u.getD (j + k) 0 < g * v.getD k 0) : cQ v u j < g := by
 rcases hc with hc | hc
 ·have := h.q_lt; omega
 exact DS h.V h.T h.tl hg hc
theorem Dig.exit {g r : Nat} (hg : g * v.getD (k + 1) 0 + r = u.getD (j + k + 2) 0 * 4294967296 + u.getD (j + k + 1) 0) (hc : (g < 4294967296 ∧ g * v.getD k 0 ≤ r * 4294967296 + u.getD (j + k) 0) ∨ 4294967296 ≤ r) : g < 4294967296 ∧ g ≤ cQ v u j + 1 :=
 DR h.V h.vl h.T h.top (h.okv.getD _) h.N hg hc
end dig
theorem to {o v : List Nat} {j i g c e S t : Nat} (hlen : j + i < o.length) (ho : okW o) (he : e < 2) (ht : t = g * v.getD i 0 + c)
  (hv : wv o + 4294967296 ^ j * (g * wv (v.take i)) = S + 4294967296 ^ (j + i) * (c + e)) :
  wv (o.set (j + i) ((o.getD (j + i) 0 + 8589934592 - t % 4294967296 - e) % 4294967296)) + 4294967296 ^ j * (g * wv (v.take (i + 1))) = S + 4294967296 ^ (j + (i + 1)) * (t / 4294967296 + (if o.getD (j + i) 0 < t % 4294967296 + e then 1 else 0)) := by
 have h1 := gh o (j + i) ((o.getD (j + i) 0 + 8589934592 - t % 4294967296 - e) % 4294967296) hlen
 have h2 := ho.getD (j + i)
 rw [bQ, Nat.mul_add, Nat.mul_add]
 have e1 : 4294967296 ^ j * (g * (4294967296 ^ i * v.getD i 0)) = 4294967296 ^ (j + i) * (g * v.getD i 0) := by
  rw [Nat.pow_add, Nat.mul_assoc]; congr 1; exact Nat.mul_left_comm _ _ _
 rw [e1, show j + (i + 1) = j + i + 1 by omega, Nat.pow_succ]
 generalize 4294967296 ^ j * (g * wv (v.take i)) = A at *
 generalize g * v.getD i 0 = z at *
 generalize o.getD (j + i) 0 = y at *
 generalize 4294967296 ^ (j + i) = p at *
 have ht2 : t % 4294967296 < 4294967296 := Nat.mod_lt _ (by omega)
 have e3 : p * 4294967296 * (t / 4294967296) + p * (t % 4294967296) = p * z + p * c := by
  rw [Nat.mul_assoc, ← Nat.mul_add, ← Nat.mul_add]; congr 1; omega
 rw [Nat.mul_add] at hv ⊢
 generalize t % 4294967296 = l at *
 generalize p * 4294967296 * (t / 4294967296) = D at *
 by_cases hb : y < l + e
 ·rw [if_pos hb, Nat.mul_one]
  have e4 : (y + 8589934592 - l - e) % 4294967296 = y + 4294967296 - l - e := by omega
  rw [e4] at h1 ⊢
  have e5 : p * (y + 4294967296 - l - e) + p * l + p * e = p * y + p * 4294967296 := by
   rw [← Nat.mul_add, ← Nat.mul_add, ← Nat.mul_add]; congr 1; omega
  omega
 rw [if_neg hb, Nat.mul_zero]
 have e4 : (y + 8589934592 - l - e) % 4294967296 = y - l - e := by omega
 rw [e4] at h1 ⊢
 have e5 : p * (y - l - e) + p * l + p * e = p * y := by
  rw [← Nat.mul_add, ← Nat.mul_add]; congr 1; omega
 omega
theorem uN {o : List Nat} {p c e A S : Nat} (hlen : p < o.length) (ho : okW o) (hc : c < 4294967296) (he : e < 2) (hv : wv o + A = S + 4294967296 ^ p * (c + e)) :
  wv (o.set p ((o.getD p 0 + 8589934592 - c - e) % 4294967296)) + A = S + 4294967296 ^ (p + 1) * (if o.getD p 0 < c + e then 1 else 0) := by
 have h1 := gh o p ((o.getD p 0 + 8589934592 - c - e) % 4294967296) hlen
 have h2 := ho.getD p
 rw [Nat.pow_succ]
 generalize o.getD p 0 = y at *
 generalize 4294967296 ^ p = w at *
 rw [Nat.mul_add] at hv
 by_cases hb : y < c + e
 ·rw [if_pos hb, Nat.mul_one]
  have e4 : (y + 8589934592 - c - e) % 4294967296 = y + 4294967296 - c - e := by omega
  rw [e4] at h1 ⊢
  have e5 : w * (y + 4294967296 - c - e) + w * c + w * e = w * y + w * 4294967296 := by
   rw [← Nat.mul_add, ← Nat.mul_add, ← Nat.mul_add]; congr 1; omega
  omega
 rw [if_neg hb, Nat.mul_zero]
 have e4 : (y + 8589934592 - c - e) % 4294967296 = y - c - e := by omega
 rw [e4] at h1 ⊢
 have e5 : w * (y - c - e) + w * c + w * e = w * y := by
  rw [← Nat.mul_add, ← Nat.mul_add]; congr 1; omega
 omega
theorem tP {o v : List Nat} {j i c S t : Nat} (hlen : j + i < o.length) (ht : t = o.getD (j + i) 0 + v.getD i 0 + c)
  (hv : wv o + 4294967296 ^ (j + i) * c = S + 4294967296 ^ j * wv (v.take i)) :
  wv (o.set (j + i) (t % 4294967296)) + 4294967296 ^ (j + (i + 1)) * (t / 4294967296) = S + 4294967296 ^ j * wv (v.take (i + 1)) := by
 have h1 := gh o (j + i) (t % 4294967296) hlen
 rw [bQ, Nat.mul_add, ← Nat.mul_assoc, ← Nat.pow_add, show j + (i + 1) = j + i + 1 by omega, Nat.pow_succ]
 generalize v.getD i 0 = z at *
 generalize o.getD (j + i) 0 = y at *
 generalize 4294967296 ^ (j + i) = p at *
 have e3 : p * 4294967296 * (t / 4294967296) + p * (t % 4294967296) = p * y + p * z + p * c := by
  rw [Nat.mul_assoc, ← Nat.mul_add, ← Nat.mul_add, ← Nat.mul_add]; congr 1; omega
 omega
end
section
open Go Go.RowKit
theorem kW {n : Nat} {w : List Nat} (h : w.length = n + 1) : wv w = wv (w.take n) + 4294967296 ^ n * w.getD n 0 := by
 have := bQ w n
 rwa [List.take_of_length_le (by omega)] at this
theorem oW {k n : Nat} (h : (wl k).length = n + 1) : (wl k).getD n 0 ≠ 0 := by
 have h0 : wl k ≠ [] := by intro e; rw [e] at h; simp at h
 have := ra h0
 rw [List.getLast_eq_getElem] at this
 have e : (wl k).getD n 0 = (wl k)[(wl k).length - 1]'(by omega) := by
  rw [List.getD_eq_getElem?_getD, List.getElem?_eq_getElem (by omega)]; simp [h]
 rwa [e]
theorem tm {k n s : Nat} (hn : (wl k).length = n + 1) (hs : s = 32 - bi ((wl k).getD n 0)) :
  (wl (k * 2 ^ s)).length = n + 1 ∧ 2147483648 ≤ (wl (k * 2 ^ s)).getD n 0 ∧ s < 32 ∧ 4294967296 ^ n ≤ k := by
 have ht := oW hn
 have ht2 := (bR k).getD n
 have hk := kW hn
 have hlo := dp (bR k) n
 rw [bN] at hk
 generalize (wl k).getD n 0 = t at *
 have b1 := nv (n := t) (by omega)
 have b2 := @fv t
 have b3 : bi t ≤ 32 := fT (k := 32) (by simpa using ht2)
 have b4 : 0 < bi t := by
  rcases Nat.eq_zero_or_pos (bi t) with h | h
  ·rw [h] at b2; simp at b2; omega
  exact h
 generalize wv ((wl k).take n) = lo at *
 have hs32 : s < 32 := by omega
 have hk1 : 4294967296 ^ n ≤ k := by
  have : 4294967296 ^ n * 1 ≤ 4294967296 ^ n * t := Nat.mul_le_mul_left _ (by omega)
  rw [Nat.mul_one] at this
  generalize 4294967296 ^ n * t = z at *
  omega
 have e1 : 2 ^ bi t * 2 ^ s = 4294967296 := by rw [← Nat.pow_add, hs, show bi t + (32 - bi t) = 32 by omega]
 have e2 : 2 ^ (bi t - 1) * 2 ^ s = 2147483648 := by rw [← Nat.pow_add, hs, show bi t - 1 + (32 - bi t) = 31 by omega]
 have up : k * 2 ^ s < 4294967296 ^ (n + 1) := by
  have h1 : k < 4294967296 ^ n * 2 ^ bi t := by
   have : 4294967296 ^ n * t + 4294967296 ^ n ≤ 4294967296 ^ n * 2 ^ bi t := by rw [← Nat.mul_succ]; exact Nat.mul_le_mul_left _ b2
   generalize 4294967296 ^ n * t = z at *
   omega
  have h2 := Nat.mul_lt_mul_of_pos_right h1 (Nat.two_pow_pos s)
  rwa [Nat.mul_assoc, e1, ← Nat.pow_succ] at h2
 have low : 4294967296 ^ n * 2147483648 ≤ k * 2 ^ s := by
  have h1 : 4294967296 ^ n * 2 ^ (bi t - 1) ≤ k := by
   have : 4294967296 ^ n * 2 ^ (bi t - 1) ≤ 4294967296 ^ n * t := Nat.mul_le_mul_left _ b1
   generalize 4294967296 ^ n * t = z at *
   omega
  have h2 := Nat.mul_le_mul_right (2 ^ s) h1
  rwa [Nat.mul_assoc, e2] at h2
 have l1 := fk up
 have l2 := fj (k * 2 ^ s)
 have len : (wl (k * 2 ^ s)).length = n + 1 := by
  rcases Nat.lt_or_ge (wl (k * 2 ^ s)).length (n + 1) with h | h
  ·exfalso
   have h3 : 4294967296 ^ (wl (k * 2 ^ s)).length ≤ 4294967296 ^ n := Nat.pow_le_pow_right (by decide) (by omega)
   have h4 : 4294967296 ^ n * 1 ≤ 4294967296 ^ n * 2147483648 := Nat.mul_le_mul_left _ (by omega)
   omega
  omega
 refine ⟨len, ?_, hs32, hk1⟩
 have hv := kW len
 have hlo2 := dp (bR (k * 2 ^ s)) n
 rw [bN] at hv
 generalize (wl (k * 2 ^ s)).getD n 0 = x at *
 have h5 : 4294967296 ^ n * 2147483648 < 4294967296 ^ n * (x + 1) := by
  rw [show 4294967296 ^ n * (x + 1) = 4294967296 ^ n * x + 4294967296 ^ n from Nat.mul_succ _ _]
  generalize 4294967296 ^ n * x = z at *
  omega
 have := Nat.lt_of_mul_lt_mul_left h5
 omega
theorem z6 {m s : Nat} (hs : s < 32) : (wl (m * 2 ^ s)).length ≤ (wl m).length + 1 := by
 apply fk
 have h1 := fj m
 have h2 : 2 ^ s ≤ 4294967296 := (Nat.pow_le_pow_right (by omega) (show s ≤ 32 by omega) : 2 ^ s ≤ 2 ^ 32)
 calc m * 2 ^ s < 4294967296 ^ (wl m).length * 2 ^ s := Nat.mul_lt_mul_of_pos_right h1 (Nat.two_pow_pos s)
  _ ≤ 4294967296 ^ (wl m).length * 4294967296 := Nat.mul_le_mul_left _ h2
  _ = _ := (Nat.pow_succ ..).symm
theorem vh {m b s n d : Nat} {u : List Nat} (hu : wv u = m * 2 ^ s) (hl : u.length = (wl m).length + 1) (hb : 4294967296 ^ n ≤ b) (hd : d + n = (wl m).length) : wv (u.drop d) < b * 2 ^ s := by
 have h1 := fj m
 have h2 := dW u d (by omega)
 have h3 : 4294967296 ^ d * wv (u.drop d) < 4294967296 ^ d * (b * 2 ^ s) := by
  have h4 : m * 2 ^ s < 4294967296 ^ (wl m).length * 2 ^ s := Nat.mul_lt_mul_of_pos_right h1 (Nat.two_pow_pos s)
  have h5 : 4294967296 ^ (wl m).length * 2 ^ s ≤ 4294967296 ^ d * (b * 2 ^ s) := by
   rw [← hd, Nat.pow_add, Nat.mul_assoc]
   exact Nat.mul_le_mul_left _ (Nat.mul_le_mul_right _ hb)
  omega
 exact Nat.lt_of_mul_lt_mul_left h3
theorem Bm {m b s q r : Nat} (h : m * 2 ^ s = b * 2 ^ s * q + r) (hr : r < b * 2 ^ s) : m / b = q ∧ m % b = r / 2 ^ s := by
 have hp := Nat.two_pow_pos s
 have hb : 0 < b * 2 ^ s := by omega
 have e1 : m * 2 ^ s / (b * 2 ^ s) = q := by rw [h, Nat.mul_add_div hb, Nat.div_eq_of_lt hr, Nat.add_zero]
 have e2 : m * 2 ^ s % (b * 2 ^ s) = r := by rw [h, Nat.mul_add_mod, Nat.mod_eq_of_lt hr]
 rw [Nat.mul_div_mul_right _ _ hp] at e1
 rw [Nat.mul_mod_mul_right] at e2
 refine ⟨e1, ?_⟩
 rw [← e2, Nat.mul_div_cancel _ hp]
section dig
variable {v u : List Nat} {k j : Nat} (h : Dig v u k j)
include h
theorem Dig.split : wv u = wv (u.take j) + 4294967296 ^ j * wv (u.drop j) := dW u j (by have := h.hu; omega)
theorem Dig.qV : cQ v u j * wv v ≤ wv (u.drop j) := by
 have _ := h.hu
 exact Nat.div_mul_le_self _ _
theorem Dig.done {o : List Nat} (hok : okW o) (hl : o.length = u.length) (hv : wv o + 4294967296 ^ j * (cQ v u j * wv v) = wv u) : wv (o.drop j) < wv v := by
 have hp : 0 < wv v := by have := h.low; omega
 have h1 := h.split
 have h2 := dW o j (by rw [hl]; have := h.hu; omega)
 have h3 := dp hok j
 have h4 := dp h.oku j
 have h5 : wv (u.drop j) = wv v * cQ v u j + wv (u.drop j) % wv v := (Nat.div_add_mod _ _).symm
 have h6 := Nat.mod_lt (wv (u.drop j)) hp
 generalize wv (u.drop j) % wv v = r at *
 have e : 4294967296 ^ j * wv (u.drop j) = 4294967296 ^ j * (cQ v u j * wv v) + 4294967296 ^ j * r := by
  rw [← Nat.mul_add, Nat.mul_comm (cQ v u j), ← h5]
 have h7 : 4294967296 ^ j * wv (o.drop j) < 4294967296 ^ j * (r + 1) := by
  rw [Nat.mul_succ]
  generalize 4294967296 ^ j * (cQ v u j * wv v) = z at *
  generalize 4294967296 ^ j * wv (o.drop j) = y at *
  generalize 4294967296 ^ j * wv (u.drop j) = x at *
  omega
 have := Nat.lt_of_mul_lt_mul_left h7
 omega
theorem Dig.good {o : List Nat} {g : Nat} (hq : cQ v u j ≤ g) (hv : wv o + 4294967296 ^ j * (g * wv v) = wv u) : g = cQ v u j := by
 have hp : 0 < wv v := by have := h.low; omega
 have h1 := h.split
 have h4 := dp h.oku j
 have h7 : 4294967296 ^ j * (g * wv v) < 4294967296 ^ j * (wv (u.drop j) + 1) := by
  rw [Nat.mul_succ]
  generalize 4294967296 ^ j * (g * wv v) = y at *
  generalize 4294967296 ^ j * wv (u.drop j) = x at *
  omega
 have h8 := Nat.lt_of_mul_lt_mul_left h7
 have : g ≤ cQ v u j := (Nat.le_div_iff_mul_le hp).2 (by omega)
 omega
theorem Dig.small {o : List Nat} (hok : okW o) (hl : o.length = u.length) (hd : o.drop (j + k + 3) = u.drop (j + k + 3)) : wv o < 4294967296 ^ (j + k + 3) := by
 have h1 := dW o (j + k + 3) (by rw [hl]; have := h.hu; omega)
 rw [hd, h.high, Nat.mul_zero, Nat.add_zero] at h1
 rw [h1]
 exact dp hok _
theorem Dig.bad {o : List Nat} {g : Nat} (hok : okW o) (hl : o.length = u.length) (hd : o.drop (j + k + 3) = u.drop (j + k + 3)) (hq : g ≤ cQ v u j + 1) (hv : wv o + 4294967296 ^ j * (g * wv v) = wv u + 4294967296 ^ (j + k + 3)) : g = cQ v u j + 1 := by
 have h0 := h.small hok hl hd
 rcases Nat.lt_or_ge (cQ v u j) g with h1 | h1
 ·omega
 exfalso
 have h2 := h.qV
 have h3 : g * wv v ≤ cQ v u j * wv v := Nat.mul_le_mul_right _ h1
 have h4 := h.split
 have h5 : 4294967296 ^ j * (g * wv v) ≤ 4294967296 ^ j * wv (u.drop j) := Nat.mul_le_mul_left _ (by omega)
 generalize 4294967296 ^ j * (g * wv v) = y at *
 generalize 4294967296 ^ j * wv (u.drop j) = x at *
 generalize 4294967296 ^ (j + k + 3) = w at *
 omega
theorem Dig.back {o o1 : List Nat} {g c S : Nat} (hok : okW o) (hl : o.length = u.length) (hd : o.drop (j + k + 3) = u.drop (j + k + 3)) (hg : g = cQ v u j + 1)
  (hv : S + 4294967296 ^ j * (g * wv v) = wv u + 4294967296 ^ (j + k + 3)) (hb : wv o1 + 4294967296 ^ (j + k + 2) * c = S + 4294967296 ^ j * wv v)
  (ho1 : okW o1) (hc : c < 2) (ho : o = o1.set (j + k + 2) ((o1.getD (j + k + 2) 0 + c) % 4294967296)) (hl1 : o1.length = u.length) :
  wv o + 4294967296 ^ j * (cQ v u j * wv v) = wv u := by
 have h1 := gh o1 (j + k + 2) ((o1.getD (j + k + 2) 0 + c) % 4294967296) (by rw [hl1]; have := h.hu; omega)
 rw [← ho] at h1
 have h2 := ho1.getD (j + k + 2)
 have h0 := h.small hok hl hd
 have h3 := h.qV
 have h4 := h.split
 have h5 : 4294967296 ^ j * (cQ v u j * wv v) ≤ 4294967296 ^ j * wv (u.drop j) := Nat.mul_le_mul_left _ h3
 have e1 : 4294967296 ^ j * (g * wv v) = 4294967296 ^ j * (cQ v u j * wv v) + 4294967296 ^ j * wv v := by
  rw [hg, Nat.succ_mul, Nat.mul_add]
 have e2 : 4294967296 ^ (j + k + 3) = 4294967296 ^ (j + k + 2) * 4294967296 := Nat.pow_succ ..
 rw [e1] at hv
 generalize o1.getD (j + k + 2) 0 = y at *
 clear e1 h3 hg ho hl hd hok hl1 ho1
 generalize 4294967296 ^ j * (cQ v u j * wv v) = z at *
 generalize 4294967296 ^ j * wv (u.drop j) = x at *
 generalize 4294967296 ^ j * wv v = zv at *
 generalize 4294967296 ^ (j + k + 3) = w3 at *
 generalize 4294967296 ^ (j + k + 2) = w at *
 by_cases hov : y + c < 4294967296
 ·exfalso
  rw [Nat.mod_eq_of_lt hov, Nat.mul_add] at h1
  omega
 have e3 : (y + c) % 4294967296 = 0 := by omega
 have e4 : y = 4294967295 ∧ c = 1 := by omega
 rw [e3, e4.1] at h1
 rw [e4.2] at hb
 subst e2
 omega
end dig
theorem vi {V j M g X : Nat} {q : List Nat} (hj : j < q.length) (hM : M = V * (4294967296 ^ (j + 1) * wv (q.drop (j + 1))) + X) {Y : Nat} (hX : Y + 4294967296 ^ j * (g * V) = X) : M = V * (4294967296 ^ j * wv ((q.set j g).drop j)) + Y := by
 rw [qp hj]
 show M = V * (4294967296 ^ j * (g + 4294967296 * wv (q.drop (j + 1)))) + Y
 have e1 : 4294967296 ^ j * (g * V) = V * (4294967296 ^ j * g) := by rw [Nat.mul_comm g, Nat.mul_left_comm]
 have e2 : V * (4294967296 ^ j * (g + 4294967296 * wv (q.drop (j + 1)))) = V * (4294967296 ^ j * g) + V * (4294967296 ^ (j + 1) * wv (q.drop (j + 1))) := by
  rw [Nat.pow_succ, Nat.mul_assoc (4294967296 ^ j), ← Nat.mul_add, ← Nat.mul_add]
 rw [hM, ← hX, e1, e2]; omega
end
section
open Go Go.RowKit
theorem Fv (n : Nat) : (4294967296 : Nat) ^ n = 2 ^ (32 * n) := by rw [Nat.pow_mul]
theorem xN {m n : Nat} (h : (wl m).length = n + 1) : bi m = 32 * n + bi ((wl m).getD n 0) := by
 have h1 := kW h
 have h2 := dp (bR m) n
 have h3 := oW h
 rw [bN] at h1
 generalize (wl m).getD n 0 = t at *
 generalize wv ((wl m).take n) = lo at *
 have hp : 0 < (4294967296 : Nat) ^ n := Nat.pow_pos (by decide)
 have h4 : m / 4294967296 ^ n = t := by
  rw [h1, Nat.add_mul_div_left _ _ hp, Nat.div_eq_of_lt h2, Nat.zero_add]
 have h5 : 4294967296 ^ n ≤ m := by
  have := Nat.mul_le_mul_left (4294967296 ^ n) (show 1 ≤ t by omega)
  rw [Nat.mul_one] at this
  omega
 rw [Fv] at h4 h5
 rw [iL h5, h4]
end
section
open Go Go.RowKit
theorem Sub.I {w z : Int} (h : w = z) : Sub (.p (.a [zn w, zm w])) (I z) := aB (by rw [h])
theorem mI {m : Nat} (h : (wl m).length = 0) : m = 0 := by
 have := List.length_eq_zero_iff.1 h
 rw [← bN m, this]; rfl
theorem rE (b : Bool) : sg b 0 = 0 := by cases b <;> rfl
theorem xY {b : Bool} {m : Nat} (h : 0 < m) : zn (sg b m) = .v (.bool b) := by
 unfold zn sg; cases b <;> simp <;> omega
theorem xZ (b : Bool) (m : Nat) : zm (sg b m) = nt m := by
 rw [EE]; unfold sg; cases b <;> simp
theorem sz {z : Int} (h : L 45 z) : (wl z.natAbs).length ≤ 1099511627776 := vH (n := 40) h
section add
variable {x y : Int}
theorem xU (h : (decide (x < 0) == decide (y < 0)) = true) : sg (decide (x < 0)) (wv (wl x.natAbs) + wv (wl y.natAbs)) = x + y := by
 rw [bN, bN]; unfold sg
 by_cases h1 : x < 0 <;> by_cases h2 : y < 0 <;> simp [h1, h2] at h ⊢ <;> omega
theorem Er (h : (decide (x < 0) == decide (y < 0)) = false) (hc : x.natAbs < y.natAbs) : sg (decide (y < 0)) (wv (wl y.natAbs) - wv (wl x.natAbs)) = x + y := by
 rw [bN, bN]; unfold sg
 by_cases h1 : x < 0 <;> by_cases h2 : y < 0 <;> simp [h1, h2] at h ⊢ <;> omega
theorem Es (h : (decide (x < 0) == decide (y < 0)) = false) (hc : y.natAbs ≤ x.natAbs) : sg (decide (x < 0)) (wv (wl x.natAbs) - wv (wl y.natAbs)) = x + y := by
 rw [bN, bN]; unfold sg
 by_cases h1 : x < 0 <;> by_cases h2 : y < 0 <;> simp [h1, h2] at h ⊢ <;> omega
end add
theorem Do (x y : Int) : sg (!(decide (x < 0) == decide (y < 0))) (wv (wl x.natAbs) * wv (wl y.natAbs)) = x * y := by
 rw [bN, bN, ← Int.natAbs_mul]
 unfold sg
 by_cases h1 : x < 0 <;> by_cases h2 : y < 0 <;> simp only [h1, h2, decide_true, decide_false, beq_self_eq_true, Bool.not_true, if_false, Bool.false_eq_true]
 ·have := Int.mul_pos_of_neg_of_neg h1 h2; omega
 ·have : x * y ≤ 0 := Int.mul_nonpos_of_nonpos_of_nonneg (by omega) (by omega)
  show -((x * y).natAbs : Int) = x * y; omega
 ·have : x * y ≤ 0 := Int.mul_nonpos_of_nonneg_of_nonpos (by omega) (by omega)
  show -((x * y).natAbs : Int) = x * y; omega
 have : 0 ≤ x * y := Int.mul_nonneg (by omega) (by omega)
 omega
theorem Dm (x : Int) : sg (!decide (x < 0)) (wv (wl x.natAbs)) = -x := by
 rw [bN]; unfold sg
 by_cases h1 : x < 0 <;> simp [h1] <;> omega
theorem Et (x : Int) : sg false (wv (wl x.natAbs)) = (x.natAbs : Int) := by rw [bN]; rfl
theorem D4 {m n : Nat} (h : bq (m : Int) (n : Int) < 0) : m < n := by
 unfold bq at h; split at h
 ·omega
 split at h <;> omega
theorem D5 {m n : Nat} (h : ¬ bq (m : Int) (n : Int) < 0) : n ≤ m := by
 unfold bq at h; split at h
 ·omega
 omega
end
section
open Go Go.RowKit
class LB (z : Int) (n : outParam Nat) : Prop where
 le : L n z
theorem lz {z : Int} {n m : Nat} [h : LB z n] (k : Nat.ble n m = true := by rfl) : L m z := h.le.mono (bL0 k)
instance LB.mul {a b : Int} {n m : Nat} [h : LB a n] [k : LB b m] : LB (a * b) (max n m + 1) := ⟨(h.le.mono (Nat.le_max_left _ _)).mul (k.le.mono (Nat.le_max_right _ _))⟩
instance LB.add {a b : Int} {n m : Nat} [h : LB a n] [k : LB b m] : LB (a + b) (max n m + 1) := ⟨(h.le.mono (Nat.le_max_left _ _)).add (k.le.mono (Nat.le_max_right _ _))⟩
instance LB.sub {a b : Int} {n m : Nat} [h : LB a n] [k : LB b m] : LB (a - b) (max n m + 1) := ⟨(h.le.mono (Nat.le_max_left _ _)).sub (k.le.mono (Nat.le_max_right _ _))⟩
instance LB.neg {a : Int} {n : Nat} [h : LB a n] : LB (-a) n := ⟨h.le.neg⟩
theorem L.abs {a : Int} {n : Nat} (h : L n a) : L n (a.natAbs : Int) := by unfold L at *; rwa [Int.natAbs_natCast]
instance LB.abs {a : Int} {n : Nat} [h : LB a n] : LB (a.natAbs : Int) n := ⟨h.le.abs⟩
instance {n : Nat} {z : Int} : Decidable (L n z) := inferInstanceAs (Decidable (_ < _))
instance LB.zero : LB 0 0 := ⟨by decide⟩
instance LB.one : LB 1 0 := ⟨by decide⟩
instance LB.two : LB 2 1 := ⟨by decide⟩
instance LB.three : LB 3 1 := ⟨by decide⟩
instance LB.five : LB 5 2 := ⟨by decide⟩
instance LB.six : LB 6 2 := ⟨by decide⟩
instance LB.eight : LB 8 2 := ⟨by decide⟩
instance LB.four : LB 4 2 := ⟨by decide⟩
theorem L.ediv {a b : Int} {n : Nat} (h : L n a) : L n (a / b) := L.of_le h (Int.natAbs_ediv_le_natAbs a b)
instance LB.ediv {a b : Int} {n : Nat} [h : LB a n] : LB (a / b) n := ⟨h.le.ediv⟩
theorem L.emod {a b : Int} {n m : Nat} (h : L n a) (k : L m b) : L (max n m) (a % b) := by
 by_cases hb : b = 0
 ·subst hb; rw [Int.emod_zero]; exact h.mono (Nat.le_max_left _ _)
 have h1 := Int.emod_nonneg a hb
 have h2 := Int.emod_lt a hb
 exact (L.of_le k (by omega)).mono (Nat.le_max_right _ _)
instance LB.emod {a b : Int} {n m : Nat} [h : LB a n] [k : LB b m] : LB (a % b) (max n m) := ⟨h.le.emod k.le⟩
def sgn (x : Int) : Int := if x = 0 then 0 else if x < 0 then -1 else 1
theorem y8 (x : Int) : L 0 (sgn x) := by unfold sgn; split <;> (try split) <;> decide
instance LB.sgn {x : Int} : LB (sgn x) 0 := ⟨y8 x⟩
theorem sg_lt {b : Bool} {m : Nat} : sg b m < 0 ↔ b = true ∧ 0 < m := by unfold sg; cases b <;> simp <;> omega
theorem gL {x y q r : Int} (hy : y ≠ 0) (e : x = y * q + r) (h0 : 0 ≤ r) (h1 : r < y.natAbs) : x / y = q ∧ x % y = r := by
 rcases Int.lt_or_gt_of_ne hy with h | h
 ·exact (Int.ediv_emod_unique' h).2 ⟨by omega, h0, by omega⟩
 exact (Int.ediv_emod_unique h).2 ⟨by omega, h0, by omega⟩
theorem mB {x y : Int} (hy : y ≠ 0) (h : sg (decide (x < 0)) (x.natAbs % y.natAbs) < 0) :
  sg (!(decide (x < 0) == decide (y < 0))) (x.natAbs / y.natAbs) - sgn y = x / y ∧ sg (decide (x < 0)) (x.natAbs % y.natAbs) + y.natAbs = x % y := by
 obtain ⟨h1, h2⟩ := sg_lt.1 h
 have h1 := dT0 h1
 have hn : 0 < y.natAbs := by omega
 have e := Nat.div_add_mod x.natAbs y.natAbs
 have l := Nat.mod_lt x.natAbs hn
 generalize x.natAbs / y.natAbs = q at *
 generalize x.natAbs % y.natAbs = r at *
 have e' : (x.natAbs : Int) = y.natAbs * q + r := by exact_mod_cast e.symm
 unfold sg sgn
 simp only [h1, decide_true, if_true]
 by_cases h3 : y < 0
 ·simp only [h3, decide_true, beq_self_eq_true, Bool.not_true, Bool.false_eq_true, if_false, if_neg hy, if_true]
  have hyy : (y.natAbs : Int) = -y := by omega
  rw [hyy] at e' ⊢
  have := gL (x := x) (y := y) (q := q - -1) (r := -r + -y) hy (by rw [Int.mul_sub, Int.mul_neg, Int.mul_one]; rw [Int.neg_mul] at e'; omega) (by omega) (by omega)
  exact ⟨this.1.symm, this.2.symm⟩
 simp only [h3, decide_false, beq_false, Bool.not_true, Bool.not_false, if_true, if_neg hy, if_false]
 have hyy : (y.natAbs : Int) = y := by omega
 rw [hyy] at e' ⊢
 have := gL (x := x) (y := y) (q := -q - 1) (r := -r + y) hy (by rw [Int.mul_sub, Int.mul_neg, Int.mul_one]; omega) (by omega) (by omega)
 exact ⟨this.1.symm, this.2.symm⟩
theorem mA {x y : Int} (hy : y ≠ 0) (h : ¬ sg (decide (x < 0)) (x.natAbs % y.natAbs) < 0) :
  sg (!(decide (x < 0) == decide (y < 0))) (x.natAbs / y.natAbs) = x / y ∧ sg (decide (x < 0)) (x.natAbs % y.natAbs) = x % y := by
 have hn : 0 < y.natAbs := by omega
 have e := Nat.div_add_mod x.natAbs y.natAbs
 have l := Nat.mod_lt x.natAbs hn
 rw [sg_lt] at h
 generalize x.natAbs / y.natAbs = q at *
 generalize x.natAbs % y.natAbs = r at *
 have e' : (x.natAbs : Int) = y.natAbs * q + r := by exact_mod_cast e.symm
 by_cases h1 : x < 0
 ·have hr : r = 0 := by
   rcases Nat.eq_zero_or_pos r with h2 | h2
   ·exact h2
   exact absurd ⟨decide_eq_true h1, h2⟩ h
  subst hr
  by_cases h3 : y < 0
  ·have hyy : (y.natAbs : Int) = -y := by omega
   rw [hyy, Int.neg_mul] at e'
   have := gL (x := x) (y := y) (q := q) (r := 0) hy (by omega) (by omega) (by omega)
   rw [this.1, this.2]
   simp [sg, h1, h3]
  have hyy : (y.natAbs : Int) = y := by omega
  rw [hyy] at e'
  have := gL (x := x) (y := y) (q := -q) (r := 0) hy (by rw [Int.mul_neg]; omega) (by omega) (by omega)
  rw [this.1, this.2]
  simp [sg, h1, h3]
 by_cases h3 : y < 0
 ·have hyy : (y.natAbs : Int) = -y := by omega
  rw [hyy, Int.neg_mul] at e'
  have := gL (x := x) (y := y) (q := -q) (r := r) hy (by rw [Int.mul_neg]; omega) (by omega) (by omega)
  rw [this.1, this.2]
  simp [sg, h1, h3]
 have hyy : (y.natAbs : Int) = y := by omega
 rw [hyy] at e'
 have := gL (x := x) (y := y) (q := q) (r := r) hy (by omega) (by omega) (by omega)
 rw [this.1, this.2]
 simp [sg, h1, h3]
def isq : Nat → Nat
 | 0 => 0
 | n + 1 => if (isq n + 1) * (isq n + 1) ≤ n + 1 then isq n + 1 else isq n
theorem iF (n : Nat) : isq n * isq n ≤ n ∧ n < (isq n + 1) * (isq n + 1) := by
 induction n with
 | zero => simp [isq]
 | succ n ih =>
  obtain ⟨h1, h2⟩ := ih
  unfold isq
  generalize isq n = r at *
  have e1 : (r + 1) * (r + 1) = r * r + 2 * r + 1 := by grind
  have e2 : (r + 1 + 1) * (r + 1 + 1) = r * r + 4 * r + 4 := by grind
  split
  ·next h => exact ⟨h, by omega⟩
  next h => exact ⟨by omega, by omega⟩
theorem xn {n r : Nat} (h1 : r * r ≤ n) (h2 : n < (r + 1) * (r + 1)) : isq n = r := by
 obtain ⟨g1, g2⟩ := iF n
 rcases Nat.lt_trichotomy (isq n) r with h | h | h
 ·have : (isq n + 1) * (isq n + 1) ≤ r * r := Nat.mul_le_mul h h
  omega
 ·exact h
 have : (r + 1) * (r + 1) ≤ isq n * isq n := Nat.mul_le_mul h h
 omega
theorem uR {n r : Nat} (h : r * r ≤ n) : r ≤ isq n := by
 obtain ⟨g1, g2⟩ := iF n
 rcases Nat.lt_or_ge (isq n) r with h1 | h1
 ·have : (isq n + 1) * (isq n + 1) ≤ r * r := Nat.mul_le_mul h1 h1
  omega
 exact h1
theorem uJ {a s : Nat} (hs : 0 < s) : isq a ≤ (s + a / s) / 2 := by
 have h1 := (iF a).1
 have h3 : a < s * (a / s + 1) := Nat.lt_mul_div_succ a hs
 generalize isq a = r at *
 generalize a / s = g at *
 rcases Nat.lt_or_ge ((s + g) / 2) r with h | h
 ·exfalso
  have h2 : s + g + 1 ≤ 2 * r := by omega
  have h4 : s * (g + 1) ≤ s * (2 * r - s) := Nat.mul_le_mul_left _ (by omega)
  have h5 : s * (2 * r - s) ≤ r * r := by
   obtain ⟨t, ht⟩ : ∃ t, 2 * r = s + t := ⟨2 * r - s, by omega⟩
   rw [show 2 * r - s = t by omega]
   have : 4 * (s * t) ≤ (s + t) * (s + t) := by
    rcases Nat.le_total s t with h | h
    ·obtain ⟨d, rfl⟩ := Nat.le.dest h; grind
    obtain ⟨d, rfl⟩ := Nat.le.dest h; grind
   rw [← ht] at this
   have e : 2 * r * (2 * r) = 4 * (r * r) := by grind
   omega
  omega
 exact h
theorem qR {a s : Nat} (h : isq a ≤ s) (h2 : s ≤ (s + a / s) / 2) : isq a = s := by
 have h3 : s ≤ a / s := by omega
 have h4 : s * s ≤ a := by
  have := Nat.mul_le_mul_left s h3
  have := Nat.mul_div_le a s
  omega
 exact Nat.le_antisymm h (uR h4)
theorem A6 {a : Nat} (h : 0 < a) : 0 < isq a := uR (r := 1) (by omega)
theorem DH (a : Nat) : isq a ≤ a := by
 have := (iF a).1
 rcases Nat.eq_zero_or_pos (isq a) with h | h
 ·omega
 have := Nat.le_mul_of_pos_left (isq a) h; omega
theorem wB (a : Nat) : isq a ≤ 2 ^ ((bi a + 1) / 2) := by
 obtain ⟨h1, _⟩ := iF a
 have h2 := fv (n := a)
 rcases Nat.lt_or_ge (2 ^ ((bi a + 1) / 2)) (isq a) with h | h
 ·exfalso
  have h3 := Nat.mul_lt_mul'' h h
  rw [← Nat.pow_add] at h3
  have h4 : 2 ^ bi a ≤ 2 ^ ((bi a + 1) / 2 + (bi a + 1) / 2) := Nat.pow_le_pow_right (by omega) (by omega)
  omega
 exact h
theorem wA {a : Nat} (h : 0 < a) : 2 ^ ((bi a + 1) / 2) ≤ 2 * a := by
 have h1 := nv h
 have h0 : 0 < bi a := by
  rcases Nat.eq_zero_or_pos (bi a) with e | e
  ·have := fv (n := a); rw [e] at this; omega
  exact e
 have h2 : 2 ^ ((bi a + 1) / 2) ≤ 2 ^ (bi a - 1 + 1) := Nat.pow_le_pow_right (by omega) (by omega)
 rw [Nat.pow_succ] at h2
 omega
theorem Ef {n : Nat} {z : Int} (h : L n z) : bi z.natAbs ≤ 2 ^ n := fT h
def eQ (z : Int) : Bool := decide (0 ≤ z) && decide (isq z.toNat * isq z.toNat = z.toNat)
end
section
open Go Go.RowKit
section ops
variable {P : Program}
variable {dst : Option Nat} {ty : TypeId} {pos : String} {af : Array Edge} {gd : Option (Nat × Bool)} {d : Nat} {ρ : Operand → AV} {own : Own}
variable {x y : Operand} {k k' : IntKind} {m n : Int} {tys : Array TypeId}
theorem pL (hx : ρ x = .p (.c (.v (.int k m)))) (hy : ρ y = .p (.c (.v (.int k' n)))) : Eff P ⟨dst, .call ⟨.builtin .max, #[x, y], tys⟩, ty, pos, af, gd⟩ d ρ own (.p (.c (.v (.int k (if n > m then n else m))))) [] none [] :=
 lH (fun C h r own' a w hrep _ => by
  have e1 := hrep x (by simp)
  have e2 := hrep y (by simp)
  rw [hx] at e1; rw [hy] at e2
  simp [builtin, b8 e1, b8 e2, run_max_int2]) rfl
end ops
abbrev PI (z : Int) : PV := .a [zn z, zm z]
abbrev PE (e : Int) : PV := .c (.v (.int .i64 e))
abbrev PB (b : Bool) : PV := .c (.v (.bool b))
theorem wl_len_zero {x : Int} : ((wl x.natAbs).length : Int) = 0 ↔ x = 0 := by
 constructor
 ·intro h; have := mI (m := x.natAbs) (by omega); omega
 rintro rfl; rfl
theorem kO {x : Int} (h : decide (x < 0) = true) : sgn x = -1 := by
 have := dT0 h
 unfold sgn; rw [if_neg (by omega), if_pos this]
theorem z7 {x : Int} (h0 : x ≠ 0) (h : decide (x < 0) = false) : sgn x = 1 := by
 have := dF0 h
 unfold sgn; rw [if_neg h0, if_neg this]
theorem xJ {x y : Int} (h : (!(decide (x < 0) == decide (y < 0))) = true) : bq (sgn x) (sgn y) = bq x y := by
 by_cases h1 : x < 0 <;> by_cases h2 : y < 0 <;> simp [h1, h2] at h
 ·rw [kO (decide_eq_true h1), gM (a := x) (by omega), gM]
  unfold sgn; split <;> (try split) <;> omega
 rw [kO (decide_eq_true h2), gO (a := x) (by omega), gO]
 unfold sgn; split <;> (try split) <;> omega
theorem xI {x y : Int} (h : (!(decide (x < 0) == decide (y < 0))) = false) : IntKind.i64.wrap (bq x.natAbs y.natAbs * (if sgn x = 0 then 1 else sgn x)) = bq x y := by
 have key : bq x.natAbs y.natAbs * (if sgn x = 0 then 1 else sgn x) = bq x y := by
  by_cases h1 : x < 0 <;> by_cases h2 : y < 0 <;> simp [h1, h2] at h
  ·rw [kO (decide_eq_true h1)]
   rcases Int.lt_trichotomy x y with h | h | h
   ·rw [gM h, gO (by omega)]; rfl
   ·rw [h, gw, gw]; rfl
   rw [gO h, gM (by omega)]; rfl
  have e : (if sgn x = 0 then 1 else sgn x) = 1 := by
   unfold sgn
   by_cases h0 : x = 0
   ·simp [h0]
   simp [h0, h1]
  rw [e, Int.mul_one, Int.natAbs_of_nonneg (by omega), Int.natAbs_of_nonneg (by omega)]
 rw [key]
 unfold bq
 split
 ·rfl
 split <;> rfl
theorem kc (n : Int) : IntKind.u64.wrap n = n % 18446744073709551616 := by simp [IntKind.wrap, IntKind.bits, IntKind.signed]
theorem oP {m : Nat} : wv [m % 4294967296, m / 2 ^ 32] = m := by
 simp only [wv]; omega
theorem mT {m : Nat} (h : m < 18446744073709551616) : okW [m % 4294967296, m / 2 ^ 32] := by
 intro x hx
 simp only [List.mem_cons, List.not_mem_nil, or_false] at hx
 rcases hx with rfl | rfl
 ·omega
 omega
theorem um (b : Bool) (m : Nat) : (sg b m).natAbs = m := by unfold sg; split <;> omega
theorem tf {n : Int} : sg (decide (n < 0)) n.natAbs = n := by
 unfold sg; by_cases h : n < 0 <;> simp [h] <;> omega
def a7 (n : Int) : Prop := -9223372036854775808 ≤ n ∧ n < 9223372036854775808
instance {n : Int} : Decidable (a7 n) := inferInstanceAs (Decidable (_ ∧ _))
theorem zf {z : Int} (h : a7 z) : IntKind.u64.wrap (if IntKind.i64.wrap (0 - z) > z then IntKind.i64.wrap (0 - z) else z) = (z.natAbs : Nat) := by
 obtain ⟨h1, h2⟩ := h
 rw [kc, IntKind.wrap_i64]
 split <;> omega
theorem jh (m : Nat) : IntKind.u32.wrap (m : Int) = ((m % 4294967296 : Nat) : Int) := by rw [IntKind.wrap_u32]; omega
theorem xy (a b : Int) : Int.gcd b (a % b) = Int.gcd a b := by
 rw [show a % b = a - b * (a / b) by have := Int.emod_def a b; omega, Int.gcd_sub_mul_left_right, Int.gcd_comm]
def rootV (x : Int) : Int := if x < 0 then 0 else isq x.toNat
def iP (x : Int) : Int := if x < 0 then 1 else 0
theorem pg (x : Int) : 0 ≤ rootV x := by unfold rootV; split <;> omega
theorem wD {x : Int} (h : 0 ≤ x) : rootV x ≤ x := by
 unfold rootV; rw [if_neg (by omega)]; have := DH x.toNat; omega
theorem L.rootV {x : Int} {n : Nat} (h : L n x) : L n (rootV x) := by
 rcases Int.lt_or_le x 0 with h1 | h1
 ·unfold AM.rootV; rw [if_pos h1]; exact h.of_le (by omega)
 exact h.of_le (by have := wD h1; have := pg x; omega)
instance LB.rootV {x : Int} {n : Nat} [h : LB x n] : LB (rootV x) n := ⟨h.le.rootV⟩
theorem oe {x : Int} : eQ x = (decide (0 ≤ x) && decide (x - rootV x * rootV x = 0)) := by
 unfold eQ rootV
 by_cases h : x < 0
 ·rw [decide_eq_false (by omega)]; rfl
 rw [if_neg h]
 congr 1
 apply decide_eq_decide.2
 have e : ((isq x.toNat : Nat) : Int) * (isq x.toNat : Nat) = ((isq x.toNat * isq x.toNat : Nat) : Int) := by rw [Int.natCast_mul]
 rw [e]
 omega
end
section
open Go Go.RowKit
theorem vt {m : Nat} (h : bi m = 0) : m = 0 := by
 have := fv (n := m); rw [h] at this; omega
theorem jE {x : Int} (h : 0 ≤ x) : rootV x = (isq x.toNat : Nat) := by unfold rootV; rw [if_neg (by omega)]
theorem gW {x : Int} (h : x < 0) : rootV x = 0 ∧ iP x = 1 := by unfold rootV iP; rw [if_pos h, if_pos h]; exact ⟨rfl, rfl⟩
theorem gX {x : Int} (h : ¬ x < 0) : iP x = 0 := by unfold iP; rw [if_neg h]
theorem un {x : Int} (h : ((bi x.natAbs : Nat) : Int) = 0) : x = 0 := by
 have := vt (m := x.natAbs) (by omega); omega
theorem sV {x : Int} (h : ¬ x < 0) (h0 : ((bi x.natAbs : Nat) : Int) ≠ 0) (h2 : (2 : Int) ≥ (bi x.natAbs : Nat)) : rootV x = 1 := by
 have h3 := fv (n := x.natAbs)
 have h4 : 2 ^ bi x.natAbs ≤ 2 ^ 2 := Nat.pow_le_pow_right (by omega) (by omega)
 have h5 : x.natAbs ≠ 0 := fun e => h0 (by rw [e]; rfl)
 rw [jE (by omega), xn (r := 1) (by omega) (by omega)]; rfl
theorem sU {x : Int} (h : 0 < x) : 0 < ((2 ^ ((bi x.natAbs + 1) / 2) : Nat) : Int) ∧ rootV x ≤ ((2 ^ ((bi x.natAbs + 1) / 2) : Nat) : Int) ∧ ((2 ^ ((bi x.natAbs + 1) / 2) : Nat) : Int) ≤ 2 * x := by
 have e : x.natAbs = x.toNat := by omega
 have h1 := wB x.toNat
 have h2 := wA (a := x.toNat) (by omega)
 have h3 : 0 < 2 ^ ((bi x.toNat + 1) / 2) := Nat.pow_pos (by omega)
 rw [jE (by omega), e]
 generalize 2 ^ ((bi x.toNat + 1) / 2) = s at *
 omega
theorem km {x s : Int} (h : 0 < x) (hs : 0 < s) : rootV x ≤ (s * 1 + x / s) / 2 ∧ 0 < (s * 1 + x / s) / 2 := by
 obtain ⟨a, rfl⟩ := Int.eq_ofNat_of_zero_le (show 0 ≤ x by omega)
 obtain ⟨t, rfl⟩ := Int.eq_ofNat_of_zero_le (show 0 ≤ s by omega)
 have h1 := uJ (a := a) (s := t) (by omega)
 have h2 := A6 (a := a) (by omega)
 rw [jE (by omega), Int.toNat_natCast, Int.mul_one]
 have e : (((t : Nat) : Int) + (a : Nat) / (t : Nat)) / 2 = (((t + a / t) / 2 : Nat) : Int) := by
  rw [Int.natCast_ediv, Int.natCast_add, Int.natCast_ediv]; rfl
 rw [e]; omega
theorem uo {x s : Int} (h : 0 < x) (hs : 0 < s) (h1 : rootV x ≤ s) (h2 : s ≤ (s * 1 + x / s) / 2) : rootV x = s := by
 obtain ⟨a, rfl⟩ := Int.eq_ofNat_of_zero_le (show 0 ≤ x by omega)
 obtain ⟨t, rfl⟩ := Int.eq_ofNat_of_zero_le (show 0 ≤ s by omega)
 rw [jE (by omega), Int.toNat_natCast] at *
 have e : (((t : Nat) : Int) * 1 + (a : Nat) / (t : Nat)) / 2 = (((t + a / t) / 2 : Nat) : Int) := by
  rw [Int.mul_one, Int.natCast_ediv, Int.natCast_add, Int.natCast_ediv]; rfl
 rw [e] at h2
 have := qR (a := a) (s := t) (by omega) (by omega)
 omega
theorem qY {a b : Int} (h : bq a b ≥ 0) : b ≤ a := by
 unfold bq at h; split at h <;> omega
theorem ox {a b : Int} (h : ¬ bq a b ≥ 0) : a < b := by
 unfold bq at h; split at h
 ·assumption
 split at h <;> omega
theorem AF : okW [1] := by intro x hx; simp at hx; omega
theorem CN (k : Nat) : sg false (wv [1] * 2 ^ k) = ((2 ^ k : Nat) : Int) := by simp [sg, wv]
theorem GF (b : Nat) (h : b ≤ 1099511627776) : IntKind.i64.wrap (((b : Int) + 2 - 1).tdiv 2) = (((b + 1) / 2 : Nat) : Int) := by
 rw [Int.tdiv_eq_ediv_of_nonneg (by omega)]
 rw [iW0 _ (by omega)]; omega
end
section
open Go Go.RowKit
@[ext] structure Fm where
 a : Int
 b : Int
 c : Int
 deriving DecidableEq
@[ext] structure Mt where
 a : Int
 b : Int
 c : Int
 d : Int
 deriving DecidableEq
abbrev FL (a b c : Int) : List DV := [zn a, zm a, zn b, zm b, zn c, zm c]
abbrev ML (a b c d : Int) : List DV := [zn a, zm a, zn b, zm b, zn c, zm c, zn d, zm d]
abbrev FA (a b c : Int) : AV := .p (.a (FL a b c))
abbrev MA (a b c d : Int) : AV := .p (.a (ML a b c d))
abbrev PF (f : Fm) : PV := .a (FL f.a f.b f.c)
abbrev PM (m : Mt) : PV := .a (ML m.a m.b m.c m.d)
def dsc (a b c : Int) : Int := b * b - 4 * a * c
def vl (a b c x y : Int) : Int := a * x * x + b * x * y + c * y * y
def apB (a b c p q r s : Int) : Int := 2 * (a * p * q + c * r * s) + b * (p * s + q * r)
def Fm.disc (f : Fm) : Int := dsc f.a f.b f.c
def Fm.val (f : Fm) (x y : Int) : Int := vl f.a f.b f.c x y
def Fm.app (f : Fm) (m : Mt) : Fm := ⟨vl f.a f.b f.c m.a m.c, apB f.a f.b f.c m.a m.b m.c m.d, vl f.a f.b f.c m.b m.d⟩
def Mt.mul (m n : Mt) : Mt := ⟨m.a * n.a + m.b * n.c, m.a * n.b + m.b * n.d, m.c * n.a + m.d * n.c, m.c * n.b + m.d * n.d⟩
def Mt.det (m : Mt) : Int := m.a * m.d - m.b * m.c
def Mt.one : Mt := ⟨1, 0, 0, 1⟩
instance LB.dsc {a b c : Int} {k l m : Nat} [h1 : LB a k] [h2 : LB b l] [h3 : LB c m] : LB (dsc a b c) (max (max k l) m + 5) := ⟨by
 have i1 : LB a (max (max k l) m) := ⟨h1.le.mono (by omega)⟩
 have i2 : LB b (max (max k l) m) := ⟨h2.le.mono (by omega)⟩
 have i3 : LB c (max (max k l) m) := ⟨h3.le.mono (by omega)⟩
 generalize max (max k l) m = n at *
 unfold AM.dsc
 have j1 := i2.le.mul i2.le
 have j2 := ((show L (n + 2) 4 from (show L 2 4 by decide).mono (by omega)).mul (i1.le.mono (by omega))).mul (i3.le.mono (m := n + 3) (by omega))
 exact ((j1.mono (m := n + 3 + 1) (by omega)).sub (j2.mono (m := n + 3 + 1) (by omega))).mono (by omega)⟩
instance LB.vl {a b c x y : Int} {k1 k2 k3 k4 k5 : Nat} [h1 : LB a k1] [h2 : LB b k2] [h3 : LB c k3] [h4 : LB x k4] [h5 : LB y k5] : LB (vl a b c x y) (max (max (max (max k1 k2) k3) k4) k5 + 4) := ⟨by
 have i1 : L (max (max (max (max k1 k2) k3) k4) k5) a := h1.le.mono (by omega)
 have i2 : L (max (max (max (max k1 k2) k3) k4) k5) b := h2.le.mono (by omega)
 have i3 : L (max (max (max (max k1 k2) k3) k4) k5) c := h3.le.mono (by omega)
 have i4 : L (max (max (max (max k1 k2) k3) k4) k5) x := h4.le.mono (by omega)
 have i5 : L (max (max (max (max k1 k2) k3) k4) k5) y := h5.le.mono (by omega)
 generalize max (max (max (max k1 k2) k3) k4) k5 = n at *
 unfold AM.vl
 have j1 := (i1.mul i4).mul (i4.mono (m := n + 1) (by omega))
 have j2 := (i2.mul i4).mul (i5.mono (m := n + 1) (by omega))
 have j3 := (i3.mul i5).mul (i5.mono (m := n + 1) (by omega))
 exact (j1.add j2).add (j3.mono (by omega))⟩
instance LB.apB {a b c p q r s : Int} {k1 k2 k3 k4 k5 k6 k7 : Nat} [h1 : LB a k1] [h2 : LB b k2] [h3 : LB c k3] [h4 : LB p k4] [h5 : LB q k5] [h6 : LB r k6] [h7 : LB s k7] : LB (apB a b c p q r s) (max (max (max (max (max (max k1 k2) k3) k4) k5) k6) k7 + 6) := ⟨by
 have i1 : L (max (max (max (max (max (max k1 k2) k3) k4) k5) k6) k7) a := h1.le.mono (by omega)
 have i2 : L (max (max (max (max (max (max k1 k2) k3) k4) k5) k6) k7) b := h2.le.mono (by omega)
 have i3 : L (max (max (max (max (max (max k1 k2) k3) k4) k5) k6) k7) c := h3.le.mono (by omega)
 have i4 : L (max (max (max (max (max (max k1 k2) k3) k4) k5) k6) k7) p := h4.le.mono (by omega)
 have i5 : L (max (max (max (max (max (max k1 k2) k3) k4) k5) k6) k7) q := h5.le.mono (by omega)
 have i6 : L (max (max (max (max (max (max k1 k2) k3) k4) k5) k6) k7) r := h6.le.mono (by omega)
 have i7 : L (max (max (max (max (max (max k1 k2) k3) k4) k5) k6) k7) s := h7.le.mono (by omega)
 generalize max (max (max (max (max (max k1 k2) k3) k4) k5) k6) k7 = n at *
 unfold AM.apB
 have j1 := (i1.mul i4).mul (i5.mono (m := n + 1) (by omega))
 have j2 := (i3.mul i6).mul (i7.mono (m := n + 1) (by omega))
 have j3 := (show L (n + 3) 2 from (show L 1 2 by decide).mono (by omega)).mul (j1.add j2)
 have j4 := (i2.mono (m := n + 2) (by omega)).mul ((i4.mul i7).add (i5.mul i6))
 exact (j3.add (j4.mono (by omega))).mono (by omega)⟩
theorem BP (f : Fm) (m : Mt) (x y : Int) : (f.app m).val x y = f.val (m.a * x + m.b * y) (m.c * x + m.d * y) := by
 simp only [Fm.app, Fm.val, vl, apB]; grind
theorem eo (f : Fm) (m n : Mt) : (f.app m).app n = f.app (m.mul n) := by
 simp only [Fm.app, Mt.mul, vl, apB, Fm.mk.injEq]
 refine ⟨?_, ?_, ?_⟩ <;> grind
theorem qt (f : Fm) (m : Mt) : (f.app m).disc = f.disc * (m.det * m.det) := by
 simp only [Fm.app, Fm.disc, dsc, vl, apB, Mt.det]; grind
theorem en (m n : Mt) : (m.mul n).det = m.det * n.det := by
 simp only [Mt.mul, Mt.det]; grind
theorem nA (f : Fm) : f.app .one = f := by
 simp only [Fm.app, Mt.one, vl, apB]; ext <;> simp <;> grind
theorem sgn_zero_iff {x : Int} : sgn x = 0 ↔ x = 0 := by unfold sgn; split <;> (try split) <;> omega
theorem sgn_lt_iff {x : Int} : sgn x < 0 ↔ x < 0 := by unfold sgn; split <;> (try split) <;> omega
theorem sgn_gt_iff {x : Int} : sgn x > 0 ↔ 0 < x := by unfold sgn; split <;> (try split) <;> omega
theorem sgn_le_iff {x : Int} : sgn x ≤ 0 ↔ x ≤ 0 := by unfold sgn; split <;> (try split) <;> omega
theorem sgn_ge_iff {x : Int} : sgn x ≥ 0 ↔ 0 ≤ x := by unfold sgn; split <;> (try split) <;> omega
theorem xo {x : Int} (h : (iP x == 0) = true) : (sgn (if x < 0 then 0 else x - rootV x * rootV x) == 0) = eQ x := by
 have h0 : ¬ x < 0 := fun h1 => by rw [(gW h1).2] at h; cases h
 rw [if_neg h0, oe, decide_eq_true (show 0 ≤ x by omega), Bool.true_and, Bool.eq_iff_iff]
 simp [sgn_zero_iff]
theorem A7 {x : Int} (h : (iP x == 0) = false) : false = eQ x := by
 have h0 : x < 0 := by
  rcases Int.lt_or_le x 0 with h1 | h1
  ·exact h1
  rw [gX (by omega)] at h; cases h
 rw [oe, decide_eq_false (by omega)]; rfl
def ck (a b c : Int) : Int := if eQ (dsc a b c) then 5 else if dsc a b c < 0 ∧ a ≤ 0 then 1 else 0
def prim (a b c : Int) : Bool := decide (Int.gcd a (Int.gcd b c : Int) = 1)
def rdd (a b c : Int) : Bool := decide (ck a b c = 0) && decide (dsc a b c ≤ 0) && decide ((b.natAbs : Int) ≤ a) && decide (a ≤ c) && (decide ((b.natAbs : Int) < a) && decide (a < c) || decide (0 ≤ b))
theorem Ga {a b c : Int} (h : eQ (dsc a b c) = true) : 5 = ck a b c := by unfold ck; rw [if_pos h]
theorem Ea {a b c : Int} (h : eQ (dsc a b c) = false) (h1 : sgn (dsc a b c) < 0) (h2 : sgn a ≤ 0) : 1 = ck a b c := by
 unfold ck; rw [if_neg (by simp [h]), if_pos ⟨sgn_lt_iff.1 h1, sgn_le_iff.1 h2⟩]
theorem Gb {a b c : Int} (h : eQ (dsc a b c) = false) (_h1 : sgn (dsc a b c) < 0) (h2 : ¬ sgn a ≤ 0) : 0 = ck a b c := by
 unfold ck; rw [if_neg (by simp [h]), if_neg (fun h3 => h2 (sgn_le_iff.2 h3.2))]
theorem D9 {a b c : Int} (h : eQ (dsc a b c) = false) (h1 : ¬ sgn (dsc a b c) < 0) : 0 = ck a b c := by
 unfold ck; rw [if_neg (by simp [h]), if_neg (fun h3 => h1 (sgn_lt_iff.2 h3.1))]
theorem EC {b c : Int} {n : Nat} (hb : L n b) (hc : L n c) : LB ((Int.gcd b c : Nat) : Int) n := ⟨by
 by_cases h : b = 0
 ·subst h; exact L.of_le hc (by simp)
 refine L.of_le hb ?_
 rw [Int.natAbs_natCast]
 exact Nat.le_of_dvd (by omega) (by simpa using Int.natAbs_dvd_natAbs.2 (Int.gcd_dvd_left ..))⟩
theorem cmpI_eq_zero {a b : Int} : bq a b = 0 ↔ a = b := by
 constructor
 ·exact gP
 rintro rfl; exact gw a
theorem cmpI_le_zero {a b : Int} : bq a b ≤ 0 ↔ a ≤ b := by unfold bq; split <;> (try split) <;> omega
theorem cmpI_lt_zero {a b : Int} : bq a b < 0 ↔ a < b := by unfold bq; split <;> (try split) <;> omega
theorem cmpI_gt_zero {a b : Int} : bq a b > 0 ↔ b < a := by unfold bq; split <;> (try split) <;> omega
theorem wL (a b c : Int) : (bq (Int.gcd a (Int.gcd b c : Int) : Nat) 1 == 0) = prim a b c := by
 unfold prim
 rw [Bool.eq_iff_iff]
 simp only [beq_iff_eq, cmpI_eq_zero, decide_eq_true_iff]
 omega
end
section
open Go Go.RowKit
section
variable {a b c : Int}
theorem rdd_iff : rdd a b c = true ↔ ck a b c = 0 ∧ dsc a b c ≤ 0 ∧ (b.natAbs : Int) ≤ a ∧ a ≤ c ∧ (((b.natAbs : Int) < a ∧ a < c) ∨ 0 ≤ b) := by
 unfold rdd; simp [and_assoc]
theorem mb (h : ¬ (ck a b c = 0 ∧ dsc a b c ≤ 0 ∧ (b.natAbs : Int) ≤ a ∧ a ≤ c ∧ (((b.natAbs : Int) < a ∧ a < c) ∨ 0 ≤ b))) : false = rdd a b c := by
 rw [← rdd_iff] at h; exact (Bool.eq_false_iff.2 h).symm
theorem Fe (h : ck a b c ≠ 0) : false = rdd a b c := mb fun x => h x.1
theorem Fc (h : sgn (dsc a b c) > 0) : false = rdd a b c := mb fun x => by have := sgn_gt_iff.1 h; omega
theorem Fb (h1 : ck a b c = 0) (h2 : ¬ sgn (dsc a b c) > 0) (h5 : bq b.natAbs a < 0) (h6 : bq a c < 0) : true = rdd a b c := by
 rw [sgn_gt_iff] at h2; rw [cmpI_lt_zero] at h5 h6
 exact (rdd_iff.2 ⟨h1, by omega, by omega, by omega, .inl ⟨h5, h6⟩⟩).symm
theorem yH (h1 : ck a b c = 0) (h2 : ¬ sgn (dsc a b c) > 0) (h3 : bq b.natAbs a ≤ 0) (h4 : bq a c ≤ 0) (h5 : ¬ (bq b.natAbs a < 0 ∧ bq a c < 0)) : decide (sgn b ≥ 0) = rdd a b c := by
 rw [sgn_gt_iff] at h2; rw [cmpI_lt_zero, cmpI_lt_zero] at h5; rw [cmpI_le_zero] at h3 h4
 rw [Bool.eq_iff_iff, rdd_iff, decide_eq_true_iff, sgn_ge_iff]
 constructor
 ·intro h; exact ⟨h1, by omega, h3, h4, .inr h⟩
 rintro ⟨_, _, _, _, h | h⟩
 ·exact absurd h h5
 exact h
theorem Fa (h : ¬ bq a c ≤ 0) : false = rdd a b c := mb fun x => h (cmpI_le_zero.2 x.2.2.2.1)
theorem E9 (h : ¬ bq b.natAbs a ≤ 0) : false = rdd a b c := mb fun x => h (cmpI_le_zero.2 x.2.2.1)
end
end
section
open Go Go.RowKit
def Fm.red (f : Fm) : Bool := rdd f.a f.b f.c
def Mt.S : Mt := ⟨0, -1, 1, 0⟩
def Mt.T (k : Int) : Mt := ⟨1, k, 0, 1⟩
def Fm.k (f : Fm) : Int := (f.a - f.b) / (2 * f.a)
def stp (s : Fm × Mt) : Fm × Mt :=
 let f1 := s.1.app (.T s.1.k)
 let m1 := s.2.mul (.T s.1.k)
 if f1.red then (f1, m1) else (f1.app .S, m1.mul .S)
def ec : Nat → Fm × Mt → Fm × Mt
 | 0, s => s
 | n + 1, s => if s.1.red then s else ec n (stp s)
def Fm.mu (f : Fm) : Nat := if f.red then 0 else f.a.toNat + 1
def Fm.pos (f : Fm) : Prop := 0 < f.a ∧ f.disc < 0
theorem cp (x : Int) : 0 ≤ x * x := by
 rcases Int.le_total 0 x with h | h
 ·exact Int.mul_nonneg h h
 exact Int.mul_nonneg_of_nonpos_of_nonpos h h
theorem eD {x y : Int} (h : x.natAbs ≤ y.natAbs) : x * x ≤ y * y := by
 rw [← Int.natAbs_mul_self (a := x), ← Int.natAbs_mul_self (a := y)]
 exact_mod_cast Nat.mul_le_mul h h
theorem fE {x : Int} {m : Int} (hm : 0 ≤ m) (h : x * x ≤ m * m) : (x.natAbs : Int) ≤ m := by
 rcases Int.lt_or_le m (x.natAbs : Int) with h1 | h1
 ·exfalso
  have h2 : m * m < (x.natAbs : Int) * x.natAbs := Int.mul_self_lt_mul_self hm h1
  rw [Int.natAbs_mul_self'] at h2
  omega
 exact h1
theorem Fm.pos.c {f : Fm} (h : f.pos) : 0 < f.c := by
 obtain ⟨h1, h2⟩ := h
 unfold Fm.disc dsc at h2
 have h3 := cp f.b
 rcases Int.lt_or_le 0 f.c with h4 | h4
 ·exact h4
 have : f.a * f.c ≤ 0 := Int.mul_nonpos_of_nonneg_of_nonpos (by omega) h4
 have e : 4 * f.a * f.c = 4 * (f.a * f.c) := by rw [Int.mul_assoc]
 omega
theorem tN (f : Fm) (k : Int) : f.app (.T k) = ⟨f.a, f.b + 2 * f.a * k, f.a * k * k + f.b * k + f.c⟩ := by
 simp only [Fm.app, Mt.T, vl, apB, Fm.mk.injEq]; refine ⟨?_, ?_, ?_⟩ <;> grind
theorem tO (f : Fm) : f.app .S = ⟨f.c, -f.b, f.a⟩ := by
 simp only [Fm.app, Mt.S, vl, apB, Fm.mk.injEq]; refine ⟨?_, ?_, ?_⟩ <;> grind
theorem mC (k : Int) : (Mt.T k).det = 1 := by simp [Mt.T, Mt.det]
theorem oK : Mt.S.det = 1 := by simp [Mt.S, Mt.det]
theorem b_T {f : Fm} (h : 0 < f.a) : -f.a < f.b + 2 * f.a * f.k ∧ f.b + 2 * f.a * f.k ≤ f.a ∧ ((f.b + 2 * f.a * f.k).natAbs ≤ f.b.natAbs) := by
 have h1 := Int.mul_ediv_add_emod (f.a - f.b) (2 * f.a)
 have h2 := Int.emod_nonneg (f.a - f.b) (show 2 * f.a ≠ 0 by omega)
 have h3 := Int.emod_lt_of_pos (f.a - f.b) (show 0 < 2 * f.a by omega)
 have hk : (f.a - f.b) / (2 * f.a) = f.k := rfl
 rw [hk] at h1
 generalize (f.a - f.b) % (2 * f.a) = r at *
 have e : f.b + 2 * f.a * f.k = f.a - r := by omega
 refine ⟨by omega, by omega, ?_⟩
 by_cases hb : -f.a < f.b ∧ f.b ≤ f.a
 ·have h0 : f.k = 0 := by unfold Fm.k; exact Int.ediv_eq_zero_of_lt (by omega) (by omega)
  rw [h0]; simp
 omega
theorem iI {f : Fm} {m : Mt} (h : m.det = 1) : (f.app m).disc = f.disc := by rw [qt, h]; omega
structure Good (f0 : Fm) (M : Int) (s : Fm × Mt) : Prop where
 eq : s.1 = f0.app s.2
 det : s.2.det = 1
 pos : s.1.pos
 ha : s.1.a ≤ M
 hc : s.1.c ≤ M
theorem GP {f : Fm} (h : f.pos) : f.a * f.k * f.k + f.b * f.k + f.c ≤ f.c := by
 obtain ⟨h1, h2, h3⟩ := b_T h.1
 have h4 := eD h3
 have e : 4 * f.a * (f.a * f.k * f.k + f.b * f.k) = (f.b + 2 * f.a * f.k) * (f.b + 2 * f.a * f.k) - f.b * f.b := by grind
 rcases Int.lt_or_le 0 (f.a * f.k * f.k + f.b * f.k) with h5 | h5
 ·have := Int.mul_pos (show 0 < 4 * f.a by have := h.1; omega) h5
  omega
 omega
theorem kX {f : Fm} {m : Mt} (h : f.pos) (hd : m.det = 1) (ha : 0 < (f.app m).a) : (f.app m).pos := ⟨ha, by rw [iI hd]; exact h.2⟩
theorem Good.T {f0 : Fm} {M : Int} {s : Fm × Mt} (h : Good f0 M s) : Good f0 M (s.1.app (.T s.1.k), s.2.mul (.T s.1.k)) := by
 have e := tN s.1 s.1.k
 refine ⟨?_, ?_, kX h.pos (mC _) ?_, ?_, ?_⟩
 ·show s.1.app _ = f0.app _
  rw [← eo, ← h.eq]
 ·show (s.2.mul _).det = 1
  rw [en, h.det, mC]; rfl
 ·rw [e]; exact h.pos.1
 ·show (s.1.app _).a ≤ M
  rw [e]; exact h.ha
 show (s.1.app _).c ≤ M
 rw [e]; exact Int.le_trans (GP h.pos) h.hc
theorem Good.S {f0 : Fm} {M : Int} {s : Fm × Mt} (h : Good f0 M s) : Good f0 M (s.1.app .S, s.2.mul .S) := by
 have e := tO s.1
 refine ⟨?_, ?_, kX h.pos oK ?_, ?_, ?_⟩
 ·show s.1.app _ = f0.app _
  rw [← eo, ← h.eq]
 ·show (s.2.mul _).det = 1
  rw [en, h.det, oK]; rfl
 ·rw [e]; exact h.pos.c
 ·show (s.1.app _).a ≤ M
  rw [e]; exact h.hc
 show (s.1.app _).c ≤ M
 rw [e]; exact h.ha
theorem Good.stp {f0 : Fm} {M : Int} {s : Fm × Mt} (h : Good f0 M s) : Good f0 M (stp s) := by
 unfold AM.stp
 simp only
 split
 ·exact h.T
 exact h.T.S
theorem p7 {x : Int} (h : x < 0) : eQ x = false := by unfold eQ; rw [decide_eq_false (by omega)]; rfl
theorem pE {f : Fm} (h : f.pos) : ck f.a f.b f.c = 0 := by
 unfold ck
 rw [p7 (show dsc f.a f.b f.c < 0 from h.2), if_neg (by simp), if_neg]
 intro h1; have := h.1; omega
theorem kP {f : Fm} (h : f.pos) : f.red = true ↔ (f.b.natAbs : Int) ≤ f.a ∧ f.a ≤ f.c ∧ (((f.b.natAbs : Int) < f.a ∧ f.a < f.c) ∨ 0 ≤ f.b) := by
 unfold Fm.red
 rw [rdd_iff]
 have h1 : dsc f.a f.b f.c < 0 := h.2
 constructor
 ·rintro ⟨_, _, h2⟩; exact h2
 intro h2; exact ⟨pE h, by omega, h2⟩
theorem uM {s : Fm × Mt} (h : s.1.pos) (hr : s.1.red = false) : (stp s).1.mu < s.1.mu := by
 obtain ⟨h1, h2, h3⟩ := b_T h.1
 have e := tN s.1 s.1.k
 have hp : (s.1.app (.T s.1.k)).pos := kX h (mC _) (by rw [e]; exact h.1)
 have hm : s.1.mu = s.1.a.toNat + 1 := by unfold Fm.mu; rw [hr]; rfl
 rw [hm]
 unfold AM.stp
 simp only
 split
 ·next hg => unfold Fm.mu; rw [hg]; simp
 next hg =>
 have hp2 : ((s.1.app (.T s.1.k)).app .S).pos := kX hp oK (by rw [tO]; exact hp.c)
 unfold Fm.mu
 split
 ·omega
 next hg2 =>
 have hg1 : ¬ ((s.1.app (.T s.1.k)).red = true) := hg
 rw [kP hp] at hg1
 rw [kP hp2] at hg2
 rw [tO] at hg2 ⊢
 rw [e] at hg1 hg2 ⊢
 simp only at hg1 hg2 ⊢
 have hc : 0 < s.1.a * s.1.k * s.1.k + s.1.b * s.1.k + s.1.c := by have := hp.c; rw [e] at this; exact this
 have ha := h.1
 omega
theorem nQ {n : Nat} {s : Fm × Mt} (h : s.1.red = true) : ec n s = s := by
 cases n with
 | zero => rfl
 | succ n => unfold ec; rw [if_pos h]
theorem nP {n : Nat} {s : Fm × Mt} (h : s.1.red = false) (hn : s.1.mu ≤ n) : ec n s = ec (n - 1) (stp s) := by
 have h0 : 0 < s.1.mu := by unfold Fm.mu; rw [h]; simp
 obtain ⟨k, rfl⟩ : ∃ k, n = k + 1 := ⟨n - 1, by omega⟩
 rw [Nat.add_sub_cancel]
 show (if s.1.red then s else ec k (stp s)) = _
 rw [h]; rfl
theorem mc {f0 : Fm} {M : Int} : ∀ (n : Nat) {s : Fm × Mt}, Good f0 M s → s.1.mu ≤ n → Good f0 M (ec n s) ∧ (ec n s).1.red = true
 | 0, s, h, hn => by
  refine ⟨h, ?_⟩
  unfold Fm.mu at hn
  cases hr : s.1.red with
  | true => exact hr
  | false => rw [hr] at hn; simp at hn
 | n + 1, s, h, hn => by
  cases hr : s.1.red with
  | true => rw [nQ hr]; exact ⟨h, hr⟩
  | false =>
   rw [nP hr hn, Nat.add_sub_cancel]
   have := uM h.pos hr
   exact mc n h.stp (by omega)
def rdE (a b c : Int) : Int := if ck a b c = 0 ∧ 0 < dsc a b c then 5 else ck a b c
def rdS (a b c : Int) : Fm × Mt := if rdE a b c = 0 then ec (Fm.mu ⟨a, b, c⟩) (⟨a, b, c⟩, .one) else (⟨0, 0, 0⟩, ⟨0, 0, 0, 0⟩)
def rdF (a b c : Int) : Fm := (rdS a b c).1
def rdM (a b c : Int) : Mt := (rdS a b c).2
theorem od : eQ 0 = true := by decide
theorem kQ {a b c : Int} (h : rdE a b c = 0) : Fm.pos ⟨a, b, c⟩ := by
 unfold rdE at h
 split at h
 ·cases h
 next h1 =>
 have h2 : ck a b c = 0 := h
 have h3 : ¬ 0 < dsc a b c := fun x => h1 ⟨h2, x⟩
 unfold ck at h2
 split at h2
 ·cases h2
 next h4 =>
 have h5 : dsc a b c ≠ 0 := fun e => h4 (by rw [e]; exact od)
 split at h2
 ·cases h2
 next h6 =>
 have h7 : dsc a b c < 0 := by omega
 refine ⟨?_, h7⟩
 show 0 < a
 rcases Int.lt_or_le 0 a with h8 | h8
 ·exact h8
 exact absurd ⟨h7, h8⟩ h6
theorem gJ {a b c : Int} (h : Fm.pos ⟨a, b, c⟩) : rdE a b c = 0 := by
 unfold rdE
 have h1 : dsc a b c < 0 := h.2
 rw [if_neg (by omega)]
 exact pE h
theorem qe {f : Fm} {M : Int} (h : f.pos) (ha : f.a ≤ M) (hc : f.c ≤ M) : Good f M (f, .one) := ⟨(nA f).symm, by simp [Mt.one, Mt.det], h, ha, hc⟩
theorem gY {a b c M : Int} (h : Fm.pos ⟨a, b, c⟩) (ha : a ≤ M) (hc : c ≤ M) : Good ⟨a, b, c⟩ M (rdS a b c) ∧ (rdF a b c).red = true := by
 unfold rdF rdS
 rw [if_pos (gJ h)]
 exact mc _ (qe h ha hc) (Nat.le_refl _)
theorem jG {a b c : Int} (h : rdE a b c ≠ 0) : rdF a b c = ⟨0, 0, 0⟩ ∧ rdM a b c = ⟨0, 0, 0, 0⟩ := by
 unfold rdF rdM rdS; rw [if_neg h]; exact ⟨rfl, rfl⟩
end
section
open Go Go.RowKit
theorem jR {a b c p r v M : Int} (hD : b * b - 4 * a * c ≤ -3) (ha : 0 ≤ a) (haM : a ≤ M) (hv : a * p * p + b * p * r + c * r * r = v) (h0 : 0 ≤ v) (hM : v ≤ M) : (r.natAbs : Int) ≤ 2 * M := by
 refine fE (by omega) ?_
 have e : 4 * (a * v) = (2 * a * p + b * r) * (2 * a * p + b * r) + (4 * a * c - b * b) * (r * r) := by rw [← hv]; grind
 have h1 := cp (2 * a * p + b * r)
 have h2 := cp r
 have h3 : 3 * (r * r) ≤ (4 * a * c - b * b) * (r * r) := Int.mul_le_mul_of_nonneg_right (by omega) h2
 have h4 : a * v ≤ M * M := Int.mul_le_mul haM hM h0 (by omega)
 have e2 : 2 * M * (2 * M) = 4 * (M * M) := by grind
 omega
theorem xE (a b c : Int) : (b * b - 4 * a * c) % 4 = 0 ∨ (b * b - 4 * a * c) % 4 = 1 := by
 have e : 4 * a * c = 4 * (a * c) := by rw [Int.mul_assoc]
 rw [e]
 have h : b * b % 4 = 0 ∨ b * b % 4 = 1 := by
  have h1 := Int.emod_add_mul_ediv b 2
  rcases Int.emod_two_eq b with h2 | h2
  ·left
   rw [h2] at h1
   have : b * b = 4 * (b / 2 * (b / 2)) := by rw [← h1]; grind
   omega
  right
  rw [h2] at h1
  have : b * b = 4 * (b / 2 * (b / 2) + b / 2) + 1 := by grind
  omega
 omega
theorem sx {f : Fm} (h : f.pos) : f.b * f.b - 4 * f.a * f.c ≤ -3 := by
 have h1 : f.b * f.b - 4 * f.a * f.c < 0 := h.2
 have h2 := xE f.a f.b f.c
 omega
theorem Good.b {f0 : Fm} {M : Int} {s : Fm × Mt} (h : Good f0 M s) : (s.1.b.natAbs : Int) ≤ 2 * M := by
 have h1 := sx h.pos
 have h2 := h.pos.1
 have h3 := h.pos.c
 have h4 : s.1.a * s.1.c ≤ M * M := Int.mul_le_mul h.ha h.hc (by omega) (by have := h.ha; omega)
 refine fE (by have := h.ha; omega) ?_
 have e2 : 2 * M * (2 * M) = 4 * (M * M) := by grind
 have e : 4 * s.1.a * s.1.c = 4 * (s.1.a * s.1.c) := by rw [Int.mul_assoc]
 omega
theorem Good.m {f0 : Fm} {M : Int} {s : Fm × Mt} (h : Good f0 M s) (h0 : f0.pos) (ha : f0.a ≤ M) (hc : f0.c ≤ M) :
  (s.2.a.natAbs : Int) ≤ 2 * M ∧ (s.2.b.natAbs : Int) ≤ 2 * M ∧ (s.2.c.natAbs : Int) ≤ 2 * M ∧ (s.2.d.natAbs : Int) ≤ 2 * M := by
 have hD := sx h0
 have hD' : f0.b * f0.b - 4 * f0.c * f0.a ≤ -3 := by
  have e : 4 * f0.c * f0.a = 4 * f0.a * f0.c := by grind
  rw [e]; exact hD
 have e1 : vl f0.a f0.b f0.c s.2.a s.2.c = s.1.a := by rw [h.eq]; rfl
 have e2 : vl f0.a f0.b f0.c s.2.b s.2.d = s.1.c := by rw [h.eq]; rfl
 unfold vl at e1 e2
 have p1 := h.pos.1
 have p2 := h.pos.c
 have q1 := h0.1
 have q2 := h0.c
 refine ⟨jR hD' (Int.le_of_lt q2) hc (p := s.2.c) ?_ (Int.le_of_lt p1) h.ha, jR hD' (Int.le_of_lt q2) hc (p := s.2.d) ?_ (Int.le_of_lt p2) h.hc, jR hD (Int.le_of_lt q1) ha e1 (Int.le_of_lt p1) h.ha, jR hD (Int.le_of_lt q1) ha e2 (Int.le_of_lt p2) h.hc⟩
 ·rw [← e1]; grind
 rw [← e2]; grind
theorem L.max2 {a c : Int} {n : Nat} (ha : L n a) (hc : L n c) : ∃ M, a ≤ M ∧ c ≤ M ∧ 0 ≤ M ∧ L n M := by
 rcases Int.le_total (a.natAbs : Int) c.natAbs with h | h
 ·exact ⟨c.natAbs, by omega, by omega, by omega, hc.abs⟩
 exact ⟨a.natAbs, by omega, by omega, by omega, ha.abs⟩
theorem L.two {x M : Int} {n : Nat} (hM : L n M) (h0 : 0 ≤ M) (h : (x.natAbs : Int) ≤ 2 * M) : L (n + 1) x := by
 have : L (n + 1) (2 * M) := by
  have := hM.add hM
  rwa [← Int.two_mul] at this
 exact this.of_le (by omega)
structure LF (n : Nat) (f : Fm) : Prop where
 a : L n f.a
 b : L n f.b
 c : L n f.c
structure LM (n : Nat) (m : Mt) : Prop where
 a : L n m.a
 b : L n m.b
 c : L n m.c
 d : L n m.d
theorem Good.L {f0 : Fm} {M : Int} {n : Nat} {s : Fm × Mt} (h : Good f0 M s) (h0 : f0.pos) (ha : f0.a ≤ M) (hc : f0.c ≤ M) (hM : L n M) : LF (n + 1) s.1 ∧ LM (n + 1) s.2 := by
 have p1 := h.pos.1
 have p2 := h.pos.c
 have p3 := h.ha
 have p4 := h.hc
 obtain ⟨m1, m2, m3, m4⟩ := h.m h0 ha hc
 have hM0 : 0 ≤ M := by omega
 exact ⟨⟨hM.two hM0 (by omega), hM.two hM0 h.b, hM.two hM0 (by omega)⟩, hM.two hM0 m1, hM.two hM0 m2, hM.two hM0 m3, hM.two hM0 m4⟩
theorem Ff {a b c : Int} {n : Nat} (ha : L n a) (_hb : L n b) (hc : L n c) : LF (n + 1) (rdF a b c) ∧ LM (n + 1) (rdM a b c) := by
 by_cases h : rdE a b c = 0
 ·obtain ⟨M, h1, h2, h3, h4⟩ := ha.max2 hc
  have hp := kQ h
  have := (gY hp h1 h2).1.L hp h1 h2 h4
  exact this
 have h0 : L (n + 1) 0 := by unfold L; exact Nat.lt_of_lt_of_le (by decide) (tX (n + 1))
 rw [(jG h).1, (jG h).2]
 exact ⟨⟨h0, h0, h0⟩, h0, h0, h0, h0⟩
section
variable {a b c : Int} {k l m : Nat} [h1 : LB a k] [h2 : LB b l] [h3 : LB c m]
theorem rdS_LB : LF (max (max k l) m + 1) (rdF a b c) ∧ LM (max (max k l) m + 1) (rdM a b c) := Ff (h1.le.mono (by omega)) (h2.le.mono (by omega)) (h3.le.mono (by omega))
instance LB.rdFa : LB (rdF a b c).a (max (max k l) m + 1) := ⟨rdS_LB.1.a⟩
instance LB.rdFb : LB (rdF a b c).b (max (max k l) m + 1) := ⟨rdS_LB.1.b⟩
instance LB.rdFc : LB (rdF a b c).c (max (max k l) m + 1) := ⟨rdS_LB.1.c⟩
instance LB.rdMa : LB (rdM a b c).a (max (max k l) m + 1) := ⟨rdS_LB.2.a⟩
instance LB.rdMb : LB (rdM a b c).b (max (max k l) m + 1) := ⟨rdS_LB.2.b⟩
instance LB.rdMc : LB (rdM a b c).c (max (max k l) m + 1) := ⟨rdS_LB.2.c⟩
instance LB.rdMd : LB (rdM a b c).d (max (max k l) m + 1) := ⟨rdS_LB.2.d⟩
end
def mN (σ : Nat → Nat) : AV → AV
 | .loc m o => .loc (σ m) o
 | .vec m => .vec (σ m)
 | .fnl f m => .fnl f (σ m)
 | v => v
theorem wK {h : Hp} {r : Nat → Value} {σ : Nat → Nat} : ∀ (v : AV) (x : Value), AVRep h r (mN σ v) x → AVRep h (fun n => r (σ n)) v x
 | .p _, _, k => k
 | .t _, _, k => k
 | .loc _ _, _, k => k
 | .vec _, _, k => k
 | .ip _, _, k => k
 | .fn _ _, _, k => k
 | .fnl _ _, _, k => k
 | .ax _, _, k => k
 | .junk, _, k => k
theorem CallM.ren {P : Program} {f : FuncId} {args jV : List AV} {o o2 o' o2' : Own} {res : AV} (hc : CallM P f args o res o') (σ : Nat → Nat) (hres : men res = [])
  (ha : jV = args.map (mN σ)) (hinj : ∀ m n, o m ≠ none → o n ≠ none → σ m = σ n → m = n)
  (h1 : ∀ m, o m ≠ none → o2 (σ m) = o m) (_h2 : ∀ n, o2 n ≠ none → ∃ m, o m ≠ none ∧ σ m = n)
  (h3 : ∀ m, o m ≠ none → o2' (σ m) = o' m) (h4 : ∀ n, o2' n ≠ none → ∃ m, o m ≠ none ∧ σ m = n) : CallM P f jV o2 res o2' := by
 refine ⟨hc.fn, ?_⟩
 intro h r w cargs hra hbf
 have hra' : RepArgs h (fun n => r (σ n)) args cargs.toList := by
  rw [ha] at hra
  have : ∀ (as0 : List AV) (xs : List Value), RepArgs h r (as0.map (mN σ)) xs → RepArgs h (fun n => r (σ n)) as0 xs := by
   intro as0
   induction as0 with
   | nil => intro xs k; cases xs <;> exact k
   | cons p ps ih => intro xs k; cases xs with
    | nil => exact k.elim
    | cons x xs => exact ⟨wK _ _ k.1, ih xs k.2⟩
  exact this _ _ hra
 have e2 : ∀ m, o m ≠ none → o2 (σ m) ≠ none := fun m hm => by rw [h1 m hm]; exact hm
 refine Calls.mono (hc.go h (fun n => r (σ n)) w cargs hra' ⟨fun m b hb => hbf.ow (σ m) b (by rw [h1 m (by rw [hb]; simp)]; exact hb), fun m n k hm hn e f => hinj m n hm hn (hbf.inj _ _ k (e2 m hm) (e2 n hn) e f), hbf.hi, fun m k hm e => hbf.ho _ k (e2 m hm) e, hbf.gl⟩) ?_
 rintro e w' ⟨v, h', rfl, hv, q⟩
 refine ⟨v, h', rfl, AVRep.rebind _ _ (fun m hm => by rw [hres] at hm; simp at hm) hv, ?_⟩
 refine ⟨fun n b hb => ?_, fun n hn => ?_, q.hi, fun n k hn e => ?_, q.os, q.tape, q.output, q.size, fun k hk hno => q.old k hk ?_, q.hg, fun k hk => ?_⟩
 ·obtain ⟨m, hm, rfl⟩ := h4 n (by rw [hb]; simp)
  exact q.ow m b (by rw [← h3 m hm]; exact hb)
 ·obtain ⟨m, hm, rfl⟩ := h4 n hn
  exact e2 m hm
 ·obtain ⟨m, hm, rfl⟩ := h4 n hn
  exact q.ho m k (by rw [← h3 m hm]; exact hn) e
 ·rintro ⟨m, hm, e⟩
  exact hno ⟨σ m, e2 m hm, e⟩
 rcases q.hn k hk with g | g | ⟨m, hm, e⟩
 ·exact .inl g
 ·exact .inr (.inl g)
 exact .inr (.inr ⟨σ m, e2 m hm, e⟩)
theorem CallM.ren1 {P : Program} {f : FuncId} {args jV : List AV} {b b' : Blk} {res : AV} (m : Nat) (hc : CallM P f args (upd O 0 (some b)) res (upd O 0 (some b'))) (hres : men res = []) (ha : jV = args.map (mN fun _ => m)) :
  CallM P f jV (upd O m (some b)) res (upd O m (some b')) := by
 have z : ∀ (b : Blk) (k n : Nat), upd O k (some b) n ≠ none → n = k := fun b k n hn => by
  by_cases e : n = k
  ·exact e
  rw [aF _ _ _ _ e] at hn; exact absurd rfl hn
 refine hc.ren (fun _ => m) hres ha (fun p q hp hq _ => by rw [z _ _ _ hp, z _ _ _ hq]) (fun p hp => by rw [z _ _ _ hp]; simp) (fun n hn => ⟨0, by simp, (z _ _ _ hn).symm⟩) (fun p hp => by rw [z _ _ _ hp]; simp) (fun n hn => ⟨0, by simp, (z _ _ _ hn).symm⟩)
theorem zd {b : Blk} : ∀ m, upd O 0 (some b) m ≠ none → m < 1 := fun m hm => by
 by_cases e : m = 0
 ·omega
 rw [aF _ _ _ _ e] at hm; exact absurd rfl hm
theorem vL {b b' : Blk} : ∀ m, upd O 0 (some b') m ≠ none → upd O 0 (some b) m ≠ none := fun m hm => by
 by_cases e : m = 0
 ·subst e; simp
 rw [aF _ _ _ _ e] at hm; exact absurd rfl hm
theorem wV {s : St} {b : Blk} (h : s.own 0 = some b) : ∀ m c, upd O 0 (some b) m = some c → s.own m = some c := fun m c hm => by
 by_cases e : m = 0
 ·subst e; rw [upd_same] at hm; rw [h, hm]
 rw [aF _ _ _ _ e] at hm; cases hm
theorem oT {k : Nat} {b : Blk} : ∀ m, upd O k (some b) m ≠ none → m ∈ [k] := fun m hm => by
 by_cases e : m = k
 ·simp [e]
 rw [aF _ _ _ _ e] at hm; exact absurd rfl hm
theorem lP {own : Own} {k : Nat} {b : Blk} (h : own k = some b) : ∀ m ∈ [k], own m = upd O k (some b) m := fun m hm => by
 rw [List.mem_singleton.1 hm, upd_same, h]
theorem EL {s : Fm × Mt} (h : (!rdd (s.1.app (.T s.1.k)).a (s.1.app (.T s.1.k)).b (s.1.app (.T s.1.k)).c) = false) : stp s = (s.1.app (.T s.1.k), s.2.mul (.T s.1.k)) := by
 unfold stp; simp only; rw [if_pos (show (s.1.app (.T s.1.k)).red = true by unfold Fm.red; simpa using h)]
theorem EM {s : Fm × Mt} (h : (!rdd (s.1.app (.T s.1.k)).a (s.1.app (.T s.1.k)).b (s.1.app (.T s.1.k)).c) = true) : stp s = ((s.1.app (.T s.1.k)).app .S, (s.2.mul (.T s.1.k)).mul .S) := by
 unfold stp; simp only; rw [if_neg (show ¬ (s.1.app (.T s.1.k)).red = true by unfold Fm.red; simpa using h)]
theorem rI {f0 : Fm} {M : Int} {s s' R : Fm × Mt} {n : Nat} (hG : Good f0 M s) (hn : s.1.mu ≤ n) (hR : ec n s = R) (hr : (!rdd s.1.a s.1.b s.1.c) = true) (e : stp s = s') : (Good f0 M s' ∧ s'.1.mu ≤ n - 1 ∧ ec (n - 1) s' = R) ∧ n - 1 < n := by
 have hr' : s.1.red = false := by unfold Fm.red; simpa using hr
 have h1 := uM hG.pos hr'
 refine ⟨⟨e ▸ hG.stp, by rw [← e]; omega, ?_⟩, by omega⟩
 rw [← hR, nP hr' hn, e]
theorem Ae {s R : Fm × Mt} {n : Nat} (hR : ec n s = R) (hr : (!rdd s.1.a s.1.b s.1.c) = false) : s = R := by
 rw [← hR, nQ]; unfold Fm.red; simpa using hr
theorem Fh {a b c : Int} (h1 : (ck a b c == 0) = true) (h2 : ¬ sgn (dsc a b c) > 0) : rdE a b c = 0 := by
 have h3 : ck a b c = 0 := by simpa using h1
 rw [sgn_gt_iff] at h2
 unfold rdE; rw [if_neg (fun x => h2 x.2), h3]
theorem Fg {a b c : Int} (h1 : (ck a b c == 0) = true) (h2 : sgn (dsc a b c) > 0) : rdE a b c = 5 := by
 have h3 : ck a b c = 0 := by simpa using h1
 rw [sgn_gt_iff] at h2
 unfold rdE; rw [if_pos ⟨h3, h2⟩]
theorem CX {a b c : Int} (h1 : (ck a b c == 0) = false) : rdE a b c = ck a b c ∧ rdE a b c ≠ 0 := by
 have h3 : ck a b c ≠ 0 := by simpa using h1
 have : rdE a b c = ck a b c := by unfold rdE; rw [if_neg (fun x => h3 x.1)]
 exact ⟨this, by rw [this]; exact h3⟩
theorem rH {a b c e : Int} (h : rdE a b c = e) (h0 : e ≠ 0) : AV.t [PF ⟨0, 0, 0⟩, PM ⟨0, 0, 0, 0⟩, PE e] = AV.t [PF (rdF a b c), PM (rdM a b c), PE (rdE a b c)] := by
 rw [(jG (h ▸ h0)).1, (jG (h ▸ h0)).2, h]
theorem CR {a b c : Int} {s : Fm × Mt} (h : rdE a b c = 0) (hs : s = ec (Fm.mu ⟨a, b, c⟩) (⟨a, b, c⟩, .one)) : AV.t [PF s.1, PM s.2, PE 0] = AV.t [PF (rdF a b c), PM (rdM a b c), PE (rdE a b c)] := by
 unfold rdF rdM rdS; rw [if_pos h, ← hs, h]
def smB (a b c p q r : Int) : Bool := decide (rdE a b c = 0 ∧ rdE p q r = 0 ∧ rdF a b c = rdF p q r)
def Mt.adj (n : Mt) : Mt := ⟨n.d, -n.b, -n.c, n.a⟩
def smM (a b c p q r : Int) : Mt := if smB a b c p q r then (rdM a b c).mul (rdM p q r).adj else ⟨0, 0, 0, 0⟩
theorem l7 {a b c p q r : Int} (h : ¬ (rdE a b c = 0 ∧ rdE p q r = 0 ∧ rdF a b c = rdF p q r)) : AV.t [PM ⟨0, 0, 0, 0⟩, PB false] = AV.t [PM (smM a b c p q r), PB (smB a b c p q r)] := by
 have h1 : smB a b c p q r = false := decide_eq_false h
 unfold smM; rw [h1]; rfl
theorem CI {a b c p q r : Int} (h1 : (rdE a b c != 0) = false) (h2 : (rdE p q r != 0) = false) (h3 : (bq (rdF a b c).a (rdF p q r).a != 0) = false) (h4 : (bq (rdF a b c).b (rdF p q r).b != 0) = false) (h5 : (bq (rdF a b c).c (rdF p q r).c != 0) = false) :
  AV.t [PM ((rdM a b c).mul (rdM p q r).adj), PB true] = AV.t [PM (smM a b c p q r), PB (smB a b c p q r)] := by
 have h : smB a b c p q r = true := decide_eq_true ⟨bY h1, bY h2, Fm.ext (gP (bY h3)) (gP (bY h4)) (gP (bY h5))⟩
 unfold smM; rw [h]; rfl
theorem qC {x y : Int} (h : (bq x y != 0) = true) : x ≠ y := fun e => b9 h (by rw [e, gw])
end
section
open Go Go.RowKit
def prE (d : Int) : Int := if 1 < d % 4 ∨ eQ d = true then 5 else 0
def prF (d : Int) : Fm := if prE d = 0 then ⟨1, d % 4, -(d / 4)⟩ else ⟨0, 0, 0⟩
theorem yJ {d : Int} (h : 1 < d % 4 ∨ eQ d = true) : AV.t [PF ⟨0, 0, 0⟩, PE 5] = AV.t [PF (prF d), PE (prE d)] := by
 have h1 : prE d = 5 := if_pos h
 unfold prF; rw [h1, if_neg (by decide)]
theorem C9 {d : Int} (h : ¬ 1 < d % 4) (h2 : eQ d = false) : AV.t [PF ⟨1, d % 4, -(d / 4)⟩, PE 0] = AV.t [PF (prF d), PE (prE d)] := by
 have h1 : prE d = 0 := if_neg (fun x => x.elim h (fun y => by rw [h2] at y; cases y))
 unfold prF; rw [h1, if_pos rfl]
def wd (ws : List Nat) (i : Int) : Nat := if i < 0 then 0 else ws.getD i.toNat 0
theorem sN {z : Int} : IntKind.u64.wrap z = (((z % 18446744073709551616).toNat : Nat) : Int) := by rw [kc]; omega
theorem vN {z : Int} (hz : a7 z) (h : z < 0) : IntKind.u64.wrap (0 - (((z % 18446744073709551616).toNat : Nat) : Int)) = (z.natAbs : Nat) := by
 obtain ⟨h1, h2⟩ := hz
 rw [kc]; omega
theorem yM {z : Int} (hz : a7 z) (h : ¬ z < 0) : IntKind.u32.wrap (((z % 18446744073709551616).toNat : Nat) : Int) = ((z.natAbs % 4294967296 : Nat) : Int) := by
 obtain ⟨h1, h2⟩ := hz
 rw [jh]; omega
theorem yN {z : Int} (hz : a7 z) (h : ¬ z < 0) : IntKind.u32.wrap (((z % 18446744073709551616).toNat / 2 ^ 32 : Nat) : Int) = ((z.natAbs / 2 ^ 32 : Nat) : Int) := by
 obtain ⟨h1, h2⟩ := hz
 rw [jh]; omega
theorem uI {z : Int} (hz : a7 z) : IntKind.u32.wrap ((z.natAbs / 2 ^ 32 : Nat) : Int) = ((z.natAbs / 2 ^ 32 : Nat) : Int) := by
 obtain ⟨h1, h2⟩ := hz
 rw [jh]; omega
end
section
open Go Go.RowKit
def rnS (m d : Nat) (b : Blk) (s : St) : St := ⟨fun t => mN (fun k => bif Nat.beq k m then d else k) ((ci [d] s).regs t), upd (upd (ci [d] s).own m none) d (some b)⟩
theorem fG {P : Program} {B : Bool} {N np : Nat} {Q : Exit → St → Prop} {s : St} {c : Code} (m d : Nat) {b : Blk} (hb : s.own m = some b) (hd : Nat.beq m d = false) (hp : Nat.ble np d = true) (h : AWp P B N np c Q (rnS m d b s)) (hl0 : lnk b = [] := by rfl) : AWp P B N np c Q s := by
 have hne : m ≠ d := fun e => by rw [e, Nat.beq_refl] at hd; cases hd
 intro ro hB C hh r a w hn hc
 have hk := gm [d] hc
 have hown : (ci [d] s).own d = none := fO [d] s d (by simp)
 have hmen := iE [d] s d (by simp)
 have hm : (ci [d] s).own m = some b := by
  have : (ci [d] s).own m = s.own m := by
   show (bif [d].contains m then none else iT [d] (s.own m)) = s.own m
   have : [d].contains m = false := by simp; exact hne
   rw [this, hb]
   show some (eA [d] b) = some b
   unfold eA; rw [hl0]; rfl
  rw [this]; exact hb
 have hbr := hk.wk.ow m b hm
 have hw := hk.wk.rename (m := m) (d := d) (v := r m) (b := b) (by rw [hm]; simp) hown (by rw [hn.1]; exact bL0 hp) (fun _ e => e) hbr (fP [d] s d (by simp)) hl0
 refine h ro hB C hh (upd r d (r m)) a w hn ⟨hk.sz, hk.df, fun t => ?_, hw⟩
 have hr := hk.rg t
 have hmt := hmen t
 show AVRep hh (upd r d (r m)) (mN (fun k => bif Nat.beq k m then d else k) ((ci [d] s).regs t)) _
 generalize (ci [d] s).regs t = v at hr hmt
 have key : ∀ k, d ≠ k → upd r d (r m) (bif Nat.beq k m then d else k) = r k := fun k hk => by
  cases e : Nat.beq k m with
  | true => rw [Nat.eq_of_beq_eq_true e]; simp
  | false => simp only [cond_false]; rw [aF _ _ _ _ (fun x => hk x.symm)]
 cases v with
 | loc k o =>
  obtain ⟨q, h1, h2⟩ := hr
  exact ⟨q, by rw [key k (by simpa [men] using hmt)]; exact h1, h2⟩
 | vec k =>
  show _ = upd r d (r m) _
  rw [key k (by simpa [men] using hmt)]; exact hr
 | p v => exact hr
 | t vs => exact hr
 | ip xs => exact hr
 | fn f caps => exact hr
 | fnl f k =>
  obtain ⟨q, h1, h2⟩ := hr
  exact ⟨q, by rw [key k (by simpa [men] using hmt)]; exact h1, h2⟩
 | ax R => exact hr
 | junk => exact hr
section add
end add
end
section
open Go Go.RowKit
end
section
open Go Go.RowKit
end
section
open Go Go.RowKit
theorem Ds {a : Nat} (h : (wl a).length ≤ 2) : a < 18446744073709551616 := by
 have h1 := fj a
 have h2 : 4294967296 ^ (wl a).length ≤ 4294967296 ^ 2 := Nat.pow_le_pow_right (by decide) h
 omega
end
section
open Go Go.RowKit
end
section
open Go Go.RowKit
theorem Eb {a b c : Int} (h : ck a b c = 0) : dsc a b c ≠ 0 := fun e => by
 unfold ck at h; rw [e, od] at h; simp at h
section
end
def eJ (b : Nat) : Mt := ((Mt.T ((b : Int) % 8 - 3)).mul .S).mul (.T ((b : Int) / 8 % 8 - 4))
theorem lV (b : Nat) : (eJ b).det = 1 := by unfold eJ; rw [en, en, mC, mC, oK]; rfl
def md (n : Bool) (w : List Nat) : Int := sg n (wv (w.take 2))
end
section
open Go Go.RowKit
instance : LB 7 3 := ⟨by decide⟩
instance : LB 9 3 := ⟨by decide⟩
instance : LB 10 3 := ⟨by decide⟩
instance : LB 11 3 := ⟨by decide⟩
instance : LB 12 3 := ⟨by decide⟩
instance : LB 13 3 := ⟨by decide⟩
instance : LB 14 3 := ⟨by decide⟩
instance : LB 15 3 := ⟨by decide⟩
instance : LB 16 3 := ⟨by decide⟩
instance : LB 17 3 := ⟨by decide⟩
instance : LB 18 3 := ⟨by decide⟩
instance : LB 19 3 := ⟨by decide⟩
instance : LB 20 3 := ⟨by decide⟩
instance : LB 21 3 := ⟨by decide⟩
instance : LB 22 3 := ⟨by decide⟩
instance : LB 23 3 := ⟨by decide⟩
instance : LB 24 3 := ⟨by decide⟩
instance : LB 25 3 := ⟨by decide⟩
instance : LB 26 3 := ⟨by decide⟩
instance : LB 27 3 := ⟨by decide⟩
instance : LB 28 3 := ⟨by decide⟩
instance : LB 29 3 := ⟨by decide⟩
instance : LB 30 3 := ⟨by decide⟩
instance : LB 31 3 := ⟨by decide⟩
instance : LB 32 3 := ⟨by decide⟩
instance : LB 33 3 := ⟨by decide⟩
instance : LB 34 3 := ⟨by decide⟩
instance : LB 35 3 := ⟨by decide⟩
instance : LB 36 3 := ⟨by decide⟩
instance : LB 37 3 := ⟨by decide⟩
instance : LB 38 3 := ⟨by decide⟩
instance : LB 39 3 := ⟨by decide⟩
instance : LB 40 3 := ⟨by decide⟩
instance : LB 41 3 := ⟨by decide⟩
instance : LB 42 3 := ⟨by decide⟩
instance : LB 43 3 := ⟨by decide⟩
instance : LB 44 3 := ⟨by decide⟩
instance : LB 45 3 := ⟨by decide⟩
instance : LB 46 3 := ⟨by decide⟩
instance : LB 47 3 := ⟨by decide⟩
instance : LB 48 3 := ⟨by decide⟩
instance : LB 49 3 := ⟨by decide⟩
instance : LB 50 3 := ⟨by decide⟩
instance : LB 51 3 := ⟨by decide⟩
instance : LB 52 3 := ⟨by decide⟩
instance : LB 53 3 := ⟨by decide⟩
instance : LB 54 3 := ⟨by decide⟩
instance : LB 55 3 := ⟨by decide⟩
instance : LB 56 3 := ⟨by decide⟩
instance : LB 57 3 := ⟨by decide⟩
instance : LB 58 3 := ⟨by decide⟩
instance : LB 59 3 := ⟨by decide⟩
instance : LB 60 3 := ⟨by decide⟩
instance : LB 61 3 := ⟨by decide⟩
instance : LB 62 3 := ⟨by decide⟩
instance : LB 63 3 := ⟨by decide⟩
instance : LB 64 3 := ⟨by decide⟩
theorem CT {a b c : Int} (h : rdE a b c = 0) : rdd (rdF a b c).a (rdF a b c).b (rdF a b c).c = true := by
 obtain ⟨M, h1, h2⟩ : ∃ M, a ≤ M ∧ c ≤ M := ⟨max a c, Int.le_max_left _ _, Int.le_max_right _ _⟩
 exact (gY (kQ h) h1 h2).2
theorem CU {a b c : Int} (h : rdE a b c = 0) : (rdF a b c).pos := by
 obtain ⟨M, h1, h2⟩ : ∃ M, a ≤ M ∧ c ≤ M := ⟨max a c, Int.le_max_left _ _, Int.le_max_right _ _⟩
 exact (gY (kQ h) h1 h2).1.pos
end
section
open Go Go.RowKit
def je (f : Fm) : Int := (Int.gcd f.a (Int.gcd f.b f.c : Int) : Nat)
theorem qy (f : Fm) : je f ∣ f.a := Int.gcd_dvd_left ..
theorem qx (f : Fm) : je f ∣ f.b := Int.dvd_trans (Int.gcd_dvd_right ..) (Int.gcd_dvd_left ..)
theorem qw (f : Fm) : je f ∣ f.c := Int.dvd_trans (Int.gcd_dvd_right ..) (Int.gcd_dvd_right ..)
theorem vg {d a b c : Int} (ha : d ∣ a) (hb : d ∣ b) (hc : d ∣ c) (x y : Int) : d ∣ vl a b c x y := by
 unfold vl
 exact Int.dvd_add (Int.dvd_add (Int.dvd_mul_of_dvd_left (Int.dvd_mul_of_dvd_left ha)) (Int.dvd_mul_of_dvd_left (Int.dvd_mul_of_dvd_left hb))) (Int.dvd_mul_of_dvd_left (Int.dvd_mul_of_dvd_left hc))
theorem Bl {d a b c : Int} (ha : d ∣ a) (hb : d ∣ b) (hc : d ∣ c) (p q r s : Int) : d ∣ apB a b c p q r s := by
 unfold apB
 exact Int.dvd_add (Int.dvd_mul_of_dvd_right (Int.dvd_add (Int.dvd_mul_of_dvd_left (Int.dvd_mul_of_dvd_left ha)) (Int.dvd_mul_of_dvd_left (Int.dvd_mul_of_dvd_left hc)))) (Int.dvd_mul_of_dvd_left hb)
theorem xC {d : Int} {f : Fm} (ha : d ∣ f.a) (hb : d ∣ f.b) (hc : d ∣ f.c) : d ∣ je f := Int.dvd_coe_gcd ha (Int.dvd_coe_gcd hb hc)
theorem xG (f : Fm) (m : Mt) : je f ∣ je (f.app m) :=
 xC (vg (qy f) (qx f) (qw f) _ _) (Bl (qy f) (qx f) (qw f) _ _ _ _) (vg (qy f) (qx f) (qw f) _ _)
theorem uv {f : Fm} : prim f.a f.b f.c = true ↔ je f = 1 := by
 unfold prim je
 rw [decide_eq_true_iff]
 omega
theorem Bq (f : Fm) : 0 ≤ je f := by unfold je; omega
theorem rQ {f : Fm} {m : Mt} (h : prim (f.app m).a (f.app m).b (f.app m).c = true) : prim f.a f.b f.c = true := by
 rw [uv] at h ⊢
 have h1 := xG f m
 rw [h] at h1
 exact Int.eq_one_of_dvd_one (Bq f) h1
def Mt.inv (m : Mt) : Mt := ⟨m.d * m.det, -m.b * m.det, -m.c * m.det, m.a * m.det⟩
theorem AP {m : Mt} (h : m.det * m.det = 1) : m.mul m.inv = .one := by
 unfold Mt.mul Mt.inv Mt.one
 have e : m.a * m.d - m.b * m.c = m.det := rfl
 simp only [Mt.mk.injEq]
 refine ⟨?_, ?_, ?_, ?_⟩ <;> grind
theorem BF {f : Fm} {m : Mt} (h : m.det * m.det = 1) : (f.app m).app m.inv = f := by rw [eo, AP h, nA]
theorem lO (f : Fm) {m : Mt} (h : m.det * m.det = 1) : prim f.a f.b f.c = prim (f.app m).a (f.app m).b (f.app m).c := by
 rw [Bool.eq_iff_iff]
 constructor
 ·intro h1
  rw [← BF (f := f) h] at h1
  exact rQ h1
 exact rQ
theorem rh {a b c x y : Int} (hd : dsc a b c < 0) (hxy : ¬ (x = 0 ∧ y = 0)) : 0 < a * vl a b c x y := by
 have e : 4 * (a * vl a b c x y) = (2 * a * x + b * y) * (2 * a * x + b * y) - dsc a b c * (y * y) := by unfold vl dsc; grind
 have ha : a ≠ 0 := by
  rintro rfl
  unfold dsc at hd
  have := cp b
  omega
 have h1 := cp (2 * a * x + b * y)
 by_cases hy : y = 0
 ·subst hy
  have hx : x ≠ 0 := fun e => hxy ⟨e, rfl⟩
  have h2 : (2 * a * x + b * 0) * (2 * a * x + b * 0) = 4 * ((a * x) * (a * x)) := by grind
  have h3 : 0 < (a * x) * (a * x) := by
   have h4 := cp (a * x)
   have h5 : (a * x) * (a * x) ≠ 0 := Int.mul_ne_zero (Int.mul_ne_zero ha hx) (Int.mul_ne_zero ha hx)
   omega
  simp only [Int.mul_zero, Int.sub_zero] at e
  simp only [Int.mul_zero] at h2
  omega
 have h2 : 0 < y * y := by
  have h4 := cp y
  have h5 : y * y ≠ 0 := Int.mul_ne_zero hy hy
  omega
 have h3 : 0 < -(dsc a b c) * (y * y) := Int.mul_pos (by omega) h2
 rw [Int.neg_mul] at h3
 omega
section
end
end
section
open Go Go.RowKit
def FC (f : Fm) : List DV := FL f.a f.b f.c
def FB (e : TypeId) (fs : List Fm) : Blk := ⟨true, 6, e, fs.flatMap FC⟩
def FS (fs : List Fm) : DV := .sl fs.length (fs.flatMap FC)
theorem iM (fs : List Fm) : (fs.flatMap FC).length = fs.length * 6 := by
 induction fs with
 | nil => rfl
 | cons f fs ih => rw [List.flatMap_cons, List.length_append, ih, List.length_cons]; show 6 + _ = _; omega
theorem sJ : ∀ (fs : List Fm) (i : Nat) (h : i < fs.length), (fs.flatMap FC).drop (i * 6) = FC fs[i] ++ (fs.drop (i + 1)).flatMap FC
 | [], _, h => absurd h (Nat.not_lt_zero _)
 | f :: fs, 0, _ => rfl
 | f :: fs, i + 1, h => by
  have e : (i + 1) * 6 = 6 + i * 6 := by omega
  rw [e, ← List.drop_drop]
  exact sJ fs i (by simpa using h)
section ops
variable {P : Program} {tt : TT} (hT : dx P tt)
variable {dst : Option Nat} {ty : TypeId} {pos : String} {af : Array Edge} {gd : Option (Nat × Bool)} {d : Nat} {ρ : Operand → AV} {own : Own}
variable {T : TypeId} {i : TyI} {x y : Operand} {e : TypeId} {j : TyI}
include hT
theorem mp {m : Nat} {fs : List Fm} {f : Fm} (ht : tt T = some i) (hs : i.sh = .sl e) (he : tt e = some j) (hj : j.size = 6) (hjb : Nat.ble j.bytes 192 = true) (hx : ρ x = .vec m) (hb : own m = some (FB e fs)) (hy : ρ y = .p (.c (.sl 1 (FC f)))) (hfit : fs.length ≤ 100000000) (hmd : m ≠ d) :
  Eff P ⟨dst, .call ⟨.builtin .append, #[x, y], #[T, T]⟩, ty, pos, af, gd⟩ d ρ own (.vec d) [(m, none)] (some (FB e (fs ++ [f]))) [m] := by
 have hl : (FB e fs).cs.length = fs.length * 6 := iM fs
 have h := iS (dst := dst) (ty := ty) (pos := pos) (af := af) (gd := gd) hT ht hs he hx hb rfl hj.symm rfl hy (by rfl) (by rw [hj]; rfl) (by rw [hj]; exact hjb) (by rw [hl, hj]; omega) (by rw [hj]; rfl) hmd
 rw [hj] at h
 unfold FB
 rw [List.flatMap_append]
 have e1 : [f].flatMap FC = FC f := by simp
 rw [e1]
 exact h
theorem iR {k : IntKind} {n : Int} {fs : List Fm} (ht : tt T = some i) (hs : i.sh = .sl e) (he : tt e = some j) (hj : j.size = 6) (hx : ρ x = .p (.c (FS fs))) (hy : ρ y = .p (.c (.v (.int k n)))) (hn : 0 ≤ n ∧ n < fs.length) :
  Eff P ⟨dst, .indexAddr T x y, ty, pos, af, gd⟩ d ρ own (.ip (FC (fs.getD n.toNat ⟨0, 0, 0⟩) ++ (fs.drop (n.toNat + 1)).flatMap FC)) [] none [] := by
 have hi : n.toNat < fs.length := by omega
 have h := ce (dst := dst) (ty := ty) (pos := pos) (af := af) (gd := gd) (d := d) (own := own) hT ht hs he hx (l := fs.length) (xs := fs.flatMap FC) (by rfl) hy hn (by
  intro h0
  have := iM fs
  rw [h0] at this
  simp at this
  omega)
 rw [hj, sJ fs n.toNat hi] at h
 have e1 : fs.getD n.toNat ⟨0, 0, 0⟩ = fs[n.toNat] := by simp [List.getD, hi]
 rw [e1]
 exact h
end ops
def okF (n a b : Int) : Bool := decide ((b * b + n) % (4 * a) = 0) && (rdd a b ((b * b + n) / (4 * a)) && prim a b ((b * b + n) / (4 * a)))
def fB (n a : Int) : Nat → Int → List Fm
 | 0, _ => []
 | k + 1, b => (if okF n a b then [⟨a, b, (b * b + n) / (4 * a)⟩] else []) ++ fB n a k (b + 1)
def ee (n : Int) : Nat → Int → List Fm
 | 0, _ => []
 | k + 1, a => if 3 * a * a ≤ n then fB n a (2 * a + 1).toNat (-a) ++ ee n k (a + 1) else []
def lst (n : Int) : List Fm := ee n 100 1
theorem gk {n a : Int} {f : Fm} : ∀ {k : Nat} {b : Int}, f ∈ fB n a k b → ∃ b', b ≤ b' ∧ b' < b + k ∧ okF n a b' = true ∧ f = ⟨a, b', (b' * b' + n) / (4 * a)⟩
 | 0, b, h => by simp [fB] at h
 | k + 1, b, h => by
  unfold fB at h
  rw [List.mem_append] at h
  rcases h with h | h
  ·split at h
   ·next hk => simp at h; exact ⟨b, by omega, by omega, hk, h⟩
   simp at h
  obtain ⟨b', h1, h2, h3, h4⟩ := gk h
  exact ⟨b', by omega, by omega, h3, h4⟩
theorem nY {n : Int} {f : Fm} : ∀ {k : Nat} {a : Int}, 1 ≤ a → f ∈ ee n k a → ∃ a' b', 1 ≤ a' ∧ 3 * a' * a' ≤ n ∧ -a' ≤ b' ∧ b' ≤ a' ∧ okF n a' b' = true ∧ f = ⟨a', b', (b' * b' + n) / (4 * a')⟩
 | 0, a, _, h => by simp [ee] at h
 | k + 1, a, ha, h => by
  unfold ee at h
  split at h
  ·next hk =>
   rw [List.mem_append] at h
   rcases h with h | h
   ·obtain ⟨b', h1, h2, h3, h4⟩ := gk h
    exact ⟨a, b', ha, hk, h1, by omega, h3, h4⟩
   exact nY (by omega) h
  simp at h
theorem sa {n : Int} {f : Fm} (h : f ∈ lst n) : 1 ≤ f.a ∧ 3 * f.a * f.a ≤ n ∧ -f.a ≤ f.b ∧ f.b ≤ f.a ∧ dsc f.a f.b f.c = -n ∧ rdd f.a f.b f.c = true ∧ prim f.a f.b f.c = true := by
 obtain ⟨a, b, h1, h2, h3, h4, h5, rfl⟩ := nY (by omega) h
 unfold okF at h5
 rw [Bool.and_eq_true, Bool.and_eq_true, decide_eq_true_iff] at h5
 refine ⟨h1, h2, h3, h4, ?_, h5.2.1, h5.2.2⟩
 have h6 := Int.mul_ediv_add_emod (b * b + n) (4 * a)
 rw [h5.1] at h6
 show b * b - 4 * a * ((b * b + n) / (4 * a)) = -n
 omega
theorem Du {n : Int} (h3 : 3 ≤ n) (h : n % 4 = 0 ∨ n % 4 = 3) : lst n ≠ [] := by
 have key : ∀ b : Int, b = 0 ∨ b = 1 → (b * b + n) % 4 = 0 → okF n 1 b = true := by
  intro b hb h4
  have hc : (b * b + n) / (4 * 1) = (b * b + n) / 4 := rfl
  have hd : dsc 1 b ((b * b + n) / 4) = -n := by
   unfold dsc
   have := Int.mul_ediv_add_emod (b * b + n) 4
   omega
  unfold okF
  rw [Bool.and_eq_true, Bool.and_eq_true, decide_eq_true_iff, hc]
  have hp : Fm.pos ⟨1, b, (b * b + n) / 4⟩ := ⟨by show (0 : Int) < 1; omega, by show dsc _ _ _ < 0; rw [hd]; omega⟩
  refine ⟨h4, ?_, ?_⟩
  ·refine (kP hp).2 ?_
   rcases hb with rfl | rfl
   ·simp only; omega
   simp only; omega
  unfold prim; rw [decide_eq_true_iff]; exact Int.one_gcd
 have e : lst n = fB n 1 3 (-1) ++ ee n 99 2 := by
  show ee n (99 + 1) 1 = _
  unfold ee
  rw [if_pos (by omega)]
  rfl
 rw [e]
 intro h0
 have h1 := (List.append_eq_nil_iff.1 h0).1
 have e2 : fB n 1 3 (-1) = (if okF n 1 (-1) then [⟨1, -1, ((-1) * (-1) + n) / (4 * 1)⟩] else []) ++ ((if okF n 1 0 then [⟨1, 0, (0 * 0 + n) / (4 * 1)⟩] else []) ++ ((if okF n 1 1 then [⟨1, 1, (1 * 1 + n) / (4 * 1)⟩] else []) ++ [])) := rfl
 rw [e2] at h1
 have h2 := (List.append_eq_nil_iff.1 (List.append_eq_nil_iff.1 h1).2)
 rcases h with h | h
 ·rw [if_pos (key 0 (.inl rfl) (by omega))] at h2
  exact absurd h2.1 (by simp)
 have h5 := (List.append_eq_nil_iff.1 h2.2).1
 rw [if_pos (key 1 (.inr rfl) (by omega))] at h5
 exact absurd h5 (by simp)
section ghost
variable {P : Program} {B : Bool} {N np : Nat} {Q : Exit → St → Prop} {s : St} {c : Code}
theorem lK {t m : Nat} {fs : List Fm} {be : TypeId} (ht : s.regs t = .vec m) (hb : s.own m = some (FB be fs)) (h : AWp P B N np c Q ⟨upd s.regs t (.p (.c (FS fs))), upd s.own m none⟩) : AWp P B N np c Q s := by
 refine fI (n := fs.length) ht hb rfl (iM fs).symm (by show 0 < 6; omega) ?_
 exact h
end ghost
theorem ki {x m : Int} (h : -m ≤ x ∧ x ≤ m) : 0 ≤ x * x ∧ x * x ≤ m * m := ⟨cp x, eD (by omega)⟩
theorem Hg {a N : Int} (_h1 : 1 ≤ a) (h : 3 * a * a ≤ N) (hN : N ≤ 2003) : a ≤ 25 := by
 rcases Int.lt_or_le 25 a with h2 | h2
 ·have h3 : (26 : Int) * 26 ≤ a * a := Int.mul_le_mul (by omega) (by omega) (by omega) (by omega)
  have e : 3 * a * a = 3 * (a * a) := Int.mul_assoc ..
  omega
 exact h2
def szz (D : Nat) : Int := if (3 + (D : Int) % 2000) % 4 = 1 then 3 + (D : Int) % 2000 + 2 else if (3 + (D : Int) % 2000) % 4 = 2 then 3 + (D : Int) % 2000 + 1 else 3 + (D : Int) % 2000
theorem dN (D : Nat) : 3 + (D : Int) % 2000 ≤ szz D ∧ 3 ≤ szz D ∧ szz D ≤ 2003 ∧ (szz D % 4 = 0 ∨ szz D % 4 = 3) ∧ ∀ n : Int, 3 + (D : Int) % 2000 ≤ n → n ≤ szz D → (n % 4 = 0 ∨ n % 4 = 3) → n = szz D := by
 unfold szz
 have h1 := Int.emod_nonneg (D : Int) (show (2000 : Int) ≠ 0 by omega)
 have h2 := Int.emod_lt_of_pos (D : Int) (show (0 : Int) < 2000 by omega)
 generalize (D : Int) % 2000 = d at *
 split
 ·refine ⟨by omega, by omega, by omega, by omega, fun n _ _ _ => by omega⟩
 split
 ·refine ⟨by omega, by omega, by omega, by omega, fun n _ _ _ => by omega⟩
 refine ⟨by omega, by omega, by omega, by omega, fun n _ _ _ => by omega⟩
def pik (D i : Nat) : Fm := (lst (szz D)).getD ((i : Int) % ((lst (szz D)).length : Nat)).toNat ⟨0, 0, 0⟩
def mkF (D i m : Nat) : Fm := if m % 4 = 0 then pik D i else (pik D i).app (eJ m)
theorem AU (D : Nat) : 0 < (lst (szz D)).length := List.length_pos_iff.2 (Du (dN D).2.1 (dN D).2.2.2.1)
theorem Av (D i : Nat) : pik D i ∈ lst (szz D) := by
 unfold pik
 have h := AU D
 have h1 := Int.emod_nonneg (i : Int) (show ((lst (szz D)).length : Int) ≠ 0 by omega)
 have h2 := Int.emod_lt_of_pos (i : Int) (show (0 : Int) < ((lst (szz D)).length : Int) by omega)
 have h3 : ((i : Int) % ((lst (szz D)).length : Nat)).toNat < (lst (szz D)).length := by omega
 rw [List.getD, List.getElem?_eq_getElem h3]
 exact List.getElem_mem h3
theorem kq (D i : Nat) : 1 ≤ (pik D i).a ∧ (pik D i).a ≤ 25 ∧ -(pik D i).a ≤ (pik D i).b ∧ (pik D i).b ≤ (pik D i).a ∧ dsc (pik D i).a (pik D i).b (pik D i).c = -szz D ∧ rdd (pik D i).a (pik D i).b (pik D i).c = true ∧ prim (pik D i).a (pik D i).b (pik D i).c = true := by
 obtain ⟨h1, h2, h3, h4, h5, h6, h7⟩ := sa (Av D i)
 exact ⟨h1, Hg h1 h2 (dN D).2.2.1, h3, h4, h5, h6, h7⟩
theorem Dk {n a b : Int} (h : (b * b + n) % (4 * a) = 0) : okF n a b = (rdd a b ((b * b + n) / (4 * a)) && prim a b ((b * b + n) / (4 * a))) := by unfold okF; rw [decide_eq_true h]; rfl
end
section
open Go Go.RowKit
theorem BO {a b c x y : Int} (hb : (b.natAbs : Int) ≤ a) : a * ((x.natAbs : Int) * x.natAbs) - a * ((x.natAbs : Int) * y.natAbs) + c * ((y.natAbs : Int) * y.natAbs) ≤ vl a b c x y := by
 have e1 : a * x * x = a * ((x.natAbs : Int) * x.natAbs) := by rw [Int.natAbs_mul_self', Int.mul_assoc]
 have e2 : c * y * y = c * ((y.natAbs : Int) * y.natAbs) := by rw [Int.natAbs_mul_self', Int.mul_assoc]
 have e3 : ((b * x * y).natAbs : Int) = (b.natAbs : Int) * ((x.natAbs : Int) * y.natAbs) := by rw [Int.natAbs_mul, Int.natAbs_mul]; simp [Int.mul_assoc]
 have h1 : (b.natAbs : Int) * ((x.natAbs : Int) * y.natAbs) ≤ a * ((x.natAbs : Int) * y.natAbs) := Int.mul_le_mul_of_nonneg_right hb (Int.mul_nonneg (by omega) (by omega))
 unfold vl
 rw [e1, e2]
 omega
theorem yO {a b c x y : Int} (ha : 0 < a) (hb : (b.natAbs : Int) ≤ a) (hc : a ≤ c) (hy : y ≠ 0) : c ≤ vl a b c x y := by
 refine Int.le_trans ?_ (BO hb)
 have hy1 : 1 ≤ (y.natAbs : Int) := by omega
 have hx0 : 0 ≤ (x.natAbs : Int) := by omega
 generalize (x.natAbs : Int) = u at *
 generalize (y.natAbs : Int) = v at *
 have k1 : a * (u * u) - a * (u * v) = a * (u * (u - v)) := by grind
 have hv : 1 ≤ v * v := by
  have : 1 * 1 ≤ v * v := Int.mul_le_mul hy1 hy1 (by omega) (by omega)
  omega
 rcases Int.le_total v u with h | h
 ·have h1 : 0 ≤ a * (u * (u - v)) := Int.mul_nonneg (by omega) (Int.mul_nonneg hx0 (by omega))
  have h2 : c * 1 ≤ c * (v * v) := Int.mul_le_mul_of_nonneg_left hv (by omega)
  omega
 have h0 : 0 ≤ a * (u * u) := Int.mul_nonneg (by omega) (cp u)
 rcases Int.lt_or_le u v with h' | h'
 ·have h3 : a * (u * v) ≤ c * (u * v) := Int.mul_le_mul_of_nonneg_right hc (Int.mul_nonneg hx0 (by omega))
  have k2 : c * (v * v) - c * (u * v) = c * (v * (v - u)) := by grind
  have h4 : 1 * 1 ≤ v * (v - u) := Int.mul_le_mul hy1 (by omega) (by omega) (by omega)
  have h5 : c * 1 ≤ c * (v * (v - u)) := Int.mul_le_mul_of_nonneg_left (by omega) (by omega)
  omega
 have e : u = v := by omega
 subst e
 have h2 : c * 1 ≤ c * (u * u) := Int.mul_le_mul_of_nonneg_left hv (by omega)
 omega
theorem FF {a b c x y : Int} (ha : 0 < a) (hb : (b.natAbs : Int) ≤ a) (hc : a ≤ c) (h : x ≠ 0 ∨ y ≠ 0) : a ≤ vl a b c x y := by
 by_cases hy : y = 0
 ·subst hy
  have hx : x ≠ 0 := h.resolve_right (fun k => k rfl)
  have e : vl a b c x 0 = a * ((x.natAbs : Int) * x.natAbs) := by unfold vl; rw [Int.natAbs_mul_self']; grind
  rw [e]
  have hx1 : 1 ≤ (x.natAbs : Int) := by omega
  generalize (x.natAbs : Int) = u at *
  have h1 : 1 * 1 ≤ u * u := Int.mul_le_mul hx1 hx1 (by omega) (by omega)
  have h2 : a * 1 ≤ a * (u * u) := Int.mul_le_mul_of_nonneg_left (by omega) (by omega)
  omega
 exact Int.le_trans hc (yO ha hb hc hy)
theorem AQ (D i m : Nat) : (mkF D i m).pos := by
 obtain ⟨h1, _, _, _, h5, _⟩ := kq D i
 have h3 := (dN D).2.1
 have hp : (pik D i).pos := ⟨by omega, by show dsc _ _ _ < 0; omega⟩
 unfold mkF
 split
 ·exact hp
 have hd := lV m
 refine ⟨?_, ?_⟩
 ·have hm : ¬ ((eJ m).a = 0 ∧ (eJ m).c = 0) := by
   rintro ⟨k1, k2⟩
   unfold Mt.det at hd
   rw [k1, k2] at hd
   simp at hd
  have hs := rh (a := (pik D i).a) (b := (pik D i).b) (c := (pik D i).c) (x := (eJ m).a) (y := (eJ m).c) (by omega) hm
  show 0 < vl (pik D i).a (pik D i).b (pik D i).c (eJ m).a (eJ m).c
  rcases Int.lt_or_le 0 (vl (pik D i).a (pik D i).b (pik D i).c (eJ m).a (eJ m).c) with h | h
  ·exact h
  have := Int.mul_nonpos_of_nonneg_of_nonpos (show 0 ≤ (pik D i).a by omega) h
  omega
 show ((pik D i).app (eJ m)).disc < 0
 rw [iI hd]
 exact hp.2
end
section
open Go Go.RowKit
structure Rd (g : Fm) : Prop where
 a : 0 < g.a
 b : (g.b.natAbs : Int) ≤ g.a
 c : g.a ≤ g.c
 s : ((g.b.natAbs : Int) < g.a ∧ g.a < g.c) ∨ 0 ≤ g.b
theorem Rd.of {g : Fm} (hp : 0 < g.a) (h : rdd g.a g.b g.c = true) : Rd g := by
 have h1 := rdd_iff.1 h
 exact ⟨hp, h1.2.2.1, h1.2.2.2.1, h1.2.2.2.2⟩
theorem vj {m : Mt} (h : m.det = 1) : m.a ≠ 0 ∨ m.c ≠ 0 := by
 by_cases h1 : m.a = 0
 ·right; intro h2
  unfold Mt.det at h
  rw [h1, h2] at h
  simp at h
 exact .inl h1
theorem lu {m : Mt} : m.adj.det = m.det := by unfold Mt.adj Mt.det; grind
theorem jv {g : Fm} {m : Mt} (h : m.det = 1) : (g.app m).app m.adj = g := by
 rw [eo]
 have e : m.mul m.adj = .one := by
  have h' : m.a * m.d - m.b * m.c = 1 := h
  unfold Mt.mul Mt.adj Mt.one
  simp only [Mt.mk.injEq]
  refine ⟨?_, ?_, ?_, ?_⟩ <;> grind
 rw [e, nA]
theorem Rd.le {g : Fm} {m : Mt} (hg : Rd g) (h : m.det = 1) : g.a ≤ (g.app m).a := FF hg.a hg.b hg.c (vj h)
theorem Rd.cle {g : Fm} {m : Mt} (hg : Rd g) (h : m.c ≠ 0) : g.c ≤ (g.app m).a := yO hg.a hg.b hg.c h
theorem pp {g : Fm} {m : Mt} (hg : Rd g) (hm : m.det = 1) (hh : Rd (g.app m)) : g.app m = g := by
 have ha : (g.app m).a = g.a := by
  have h1 := hg.le hm
  have h2 := hh.le (m := m.adj) (by rw [lu]; exact hm)
  rw [jv hm] at h2
  omega
 have hd : (g.app m).disc = g.disc := iI hm
 have fin : (g.app m).b = g.b → g.app m = g := by
  intro hb
  have hc : (g.app m).c = g.c := by
   have h1 : (g.app m).b * (g.app m).b - 4 * (g.app m).a * (g.app m).c = g.b * g.b - 4 * g.a * g.c := hd
   rw [hb, ha] at h1
   have h2 : g.a * (g.app m).c = g.a * g.c := by
    have e1 : 4 * g.a * (g.app m).c = 4 * (g.a * (g.app m).c) := Int.mul_assoc ..
    have e2 : 4 * g.a * g.c = 4 * (g.a * g.c) := Int.mul_assoc ..
    omega
   exact Int.eq_of_mul_eq_mul_left (by have := hg.a; omega) h2
  exact Fm.ext ha hb hc
 apply fin
 by_cases hy : m.c = 0
 ·have h1 : m.a * m.d = 1 := by
   have : m.a * m.d - m.b * m.c = 1 := hm
   rw [hy] at this; omega
  have hb : (g.app m).b = g.b + 2 * g.a * (m.a * m.b) := by
   show apB g.a g.b g.c m.a m.b m.c m.d = _
   unfold apB
   rw [hy]
   grind
  have s1 := hg.s; have s2 := hh.s
  have b1 := hg.b; have b2 := hh.b
  have a1 := hg.a
  rw [ha] at s2 b2
  generalize (g.app m).b = B at *
  generalize m.a * m.b = t at *
  have ht : t = 0 := by
   rcases Int.lt_or_le t 0 with h | h
   ·exfalso
    have : g.a * t ≤ g.a * (-1) := Int.mul_le_mul_of_nonneg_left (by omega) (by omega)
    have e : 2 * g.a * t = 2 * (g.a * t) := Int.mul_assoc ..
    omega
   rcases Int.lt_or_le 0 t with h' | h'
   ·exfalso
    have : g.a * 1 ≤ g.a * t := Int.mul_le_mul_of_nonneg_left (by omega) (by omega)
    have e : 2 * g.a * t = 2 * (g.a * t) := Int.mul_assoc ..
    omega
   omega
  rw [ht] at hb
  omega
 have h1 : g.c ≤ (g.app m).a := hg.cle hy
 have h2 : (g.app m).c ≤ g.a := by
  have := hh.cle (m := m.adj) (by show -m.c ≠ 0; omega)
  rw [jv hm] at this
  exact this
 have c1 := hg.c; have c2 := hh.c
 have s1 := hg.s; have s2 := hh.s
 have e1 : g.c = g.a := by omega
 have e2 : (g.app m).c = g.a := by omega
 have h3 : (g.app m).b * (g.app m).b - 4 * (g.app m).a * (g.app m).c = g.b * g.b - 4 * g.a * g.c := hd
 rw [ha, e2, e1] at h3
 have h4 : (g.app m).b * (g.app m).b = g.b * g.b := by omega
 have p1 : 0 ≤ g.b := by omega
 have p2 : 0 ≤ (g.app m).b := by omega
 have q1 := fE p1 (Int.le_of_eq h4)
 have q2 := fE p2 (Int.le_of_eq h4.symm)
 omega
theorem mO {f : Fm} (hf : f.pos) : ∃ m : Mt, m.det = 1 ∧ rdF f.a f.b f.c = f.app m := by
 have he : rdE f.a f.b f.c = 0 := gJ hf
 obtain ⟨h1, _⟩ := gY (M := max f.a f.c) hf (by omega) (by omega)
 exact ⟨(rdS f.a f.b f.c).2, h1.det, h1.eq⟩
end
section
open Go Go.RowKit
theorem Ar {f : Fm} {m : Mt} (hf : f.pos) (hd : m.det = 1) : (f.app m).pos := by
 refine ⟨?_, ?_⟩
 ·have hm : ¬ (m.a = 0 ∧ m.c = 0) := by
   rintro ⟨k1, k2⟩
   rcases vj hd with h | h
   ·exact h k1
   exact h k2
  have hs := rh (a := f.a) (b := f.b) (c := f.c) (x := m.a) (y := m.c) hf.2 hm
  show 0 < vl f.a f.b f.c m.a m.c
  rcases Int.lt_or_le 0 (vl f.a f.b f.c m.a m.c) with h | h
  ·exact h
  have h0 := hf.1
  have := Int.mul_nonpos_of_nonneg_of_nonpos (show 0 ≤ f.a by omega) h
  omega
 show (f.app m).disc < 0
 rw [iI hd]
 exact hf.2
theorem Rd.rdF {f : Fm} (hf : f.pos) : Rd (AM.rdF f.a f.b f.c) := by
 have he : rdE f.a f.b f.c = 0 := gJ hf
 exact Rd.of (CU he).1 (CT he)
theorem vM {f : Fm} {t : Mt} (hf : f.pos) (ht : t.det = 1) : rdF (f.app t).a (f.app t).b (f.app t).c = rdF f.a f.b f.c := by
 have hp := Ar hf ht
 obtain ⟨m, hm, e⟩ := mO hf
 obtain ⟨k, hk, e'⟩ := mO hp
 have r1 := Rd.rdF hf
 have r2 := Rd.rdF hp
 have e3 : (f.app m).app (m.adj.mul (t.mul k)) = (f.app t).app k := by
  rw [← eo, jv hm, eo]
 rw [e] at r1
 rw [e'] at r2
 rw [e, e']
 rw [← e3] at r2 ⊢
 exact pp r1 (by rw [en, en, lu, hm, ht, hk]; rfl) r2
end
section
open Go Go.RowKit
theorem rM {f : Fm} (hf : f.pos) : (rdM f.a f.b f.c).det = 1 ∧ rdF f.a f.b f.c = f.app (rdM f.a f.b f.c) := by
 obtain ⟨h1, _⟩ := gY (M := max f.a f.c) hf (by omega) (by omega)
 exact ⟨h1.det, h1.eq⟩
theorem uj {f g : Fm} (hf : f.pos) (hg : g.pos) (h : smB f.a f.b f.c g.a g.b g.c = true) : (smM f.a f.b f.c g.a g.b g.c).det = 1 ∧ f.app (smM f.a f.b f.c g.a g.b g.c) = g := by
 unfold smM
 rw [if_pos h]
 unfold smB at h
 have h1 := (dT0 h).2.2
 obtain ⟨d1, e1⟩ := rM hf
 obtain ⟨d2, e2⟩ := rM hg
 refine ⟨by rw [en, lu, d1, d2]; rfl, ?_⟩
 rw [← eo, ← e1, h1, e2, jv d2]
theorem AR (D i m : Nat) : dsc (mkF D i m).a (mkF D i m).b (mkF D i m).c = -szz D := by
 obtain ⟨_, _, _, _, h5, _⟩ := kq D i
 unfold mkF
 split
 ·exact h5
 have := iI (f := pik D i) (lV m)
 exact Eq.trans this h5
end
section
open Go Go.RowKit
theorem FE {m n : Mt} {k : Nat} (m1 : LB m.a k) (m2 : LB m.b k) (m3 : LB m.c k) (m4 : LB m.d k) (n1 : LB n.a k) (n2 : LB n.b k) (n3 : LB n.c k) (n4 : LB n.d k) :
  LB (m.mul n.adj).a (k + 2) ∧ LB (m.mul n.adj).b (k + 2) ∧ LB (m.mul n.adj).c (k + 2) ∧ LB (m.mul n.adj).d (k + 2) := by
 refine ⟨⟨?_⟩, ⟨?_⟩, ⟨?_⟩, ⟨?_⟩⟩
 ·exact (m1.le.mul n4.le).add (m2.le.mul n3.le.neg)
 ·exact (m1.le.mul n2.le.neg).add (m2.le.mul n1.le)
 ·exact (m3.le.mul n4.le).add (m4.le.mul n3.le.neg)
 exact (m3.le.mul n2.le.neg).add (m4.le.mul n1.le)
theorem GB {a b c p q r : Int} (ha : LB a 20) (hb : LB b 20) (hc : LB c 20) (hp : LB p 20) (hq : LB q 20) (hr : LB r 20) :
  LB (smM a b c p q r).a 23 ∧ LB (smM a b c p q r).b 23 ∧ LB (smM a b c p q r).c 23 ∧ LB (smM a b c p q r).d 23 := by
 unfold smM
 split
 ·exact FE (k := 21) ⟨lz⟩ ⟨lz⟩ ⟨lz⟩ ⟨lz⟩ ⟨lz⟩ ⟨lz⟩ ⟨lz⟩ ⟨lz⟩
 exact ⟨⟨lz⟩, ⟨lz⟩, ⟨lz⟩, ⟨lz⟩⟩
def Fm.rd (f : Fm) : Fm := rdF f.a f.b f.c
theorem rJ {f : Fm} {t : Mt} (hf : f.pos) (ht : t.det = 1) : (f.app t).rd = f.rd := vM hf ht
theorem kn {f : Fm} (hf : f.pos) : ∃ m : Mt, m.det = 1 ∧ f.rd = f.app m := mO hf
section
end
end
section
open Go Go.RowKit
structure Rest (n0 : Nat) (G : Nat → Prop) (h : Hp) (W : World) (h' : Hp) (W' : World) : Prop where
 os : W'.os = W.os
 tape : W'.tape = W.tape
 output : OutD W' W
 size : W.heap.size ≤ W'.heap.size
 old : ∀ i, i < W.heap.size → W'.heap[i]? = W.heap[i]? ∨ (n0 ≤ i ∧ ¬ G i ∧ h i = none)
 hi : ∀ i o, h' i = some o → W'.heap[i]? = some o
 hg : Hle h h'
 hn : ∀ i, h' i ≠ none → h i ≠ none ∨ (n0 ≤ i ∧ ¬ G i)
structure Gave (G : Nat → Prop) (h : Hp) (W : World) (G' : Nat → Prop) (h' : Hp) (W' : World) : Prop where
 os : W'.os = W.os
 tape : W'.tape = W.tape
 output : OutD W' W
 size : W.heap.size ≤ W'.heap.size
 old : ∀ i, i < W.heap.size → ¬ G i → W'.heap[i]? = W.heap[i]?
 hg : Hle h h'
 hn : ∀ i, h' i ≠ none → h i ≠ none ∨ W.heap.size ≤ i ∨ G i
 gg : ∀ i, G' i → G i ∨ W.heap.size ≤ i
structure Keeps (P : Program) (l : Nat) (xs : List (List PV)) (n0 : Nat) (J : Nat → Hp → (Nat → Prop) → World → Prop) : Prop where
 hi : ∀ k h G W, J k h G W → ∀ i o, h i = some o → W.heap[i]? = some o
 g : ∀ k h G W, J k h G W → ∀ i, G i → i < W.heap.size ∧ h i = none
 rest : ∀ k h G W h' W', J k h G W → Rest n0 G h W h' W' → J k h' G W'
 give : ∀ k h G W x vals, xs[k]? = some x → J k h G W → PReps h x vals → YieldAt (Wd none) 0 P l vals.toArray W fun e W' => e = .returned (.bool true) ∧ ∃ h' G', J (k + 1) h' G' W' ∧ Gave G h W G' h' W'
structure Iter (P : Program) (gf : FuncId) (caps : List (List DV)) (xs : List (List PV)) : Prop where
 fn : nC P gf
 go : ∀ (l : Nat) (lb : Array Value) (J : Nat → Hp → (Nat → Prop) → World → Prop) (h : Hp) (G : Nat → Prop) (W : World), CapsRep h caps lb.toList → GlOK h → Keeps P l xs W.heap.size J → J 0 h G W →
  CallsIn (Wd none) 0 P gf (#[.func (.yield l) #[] #[]] ++ lb) W fun e W' => (∃ v, e = .returned v) ∧ ∃ h' G', J xs.length h' G' W'
def gG : ez → List Nat → List PV → ez
 | regs, p :: ps, x :: xs => gG (upd regs p (.p x)) ps xs
 | regs, _, _ => regs
theorem ej {h : Hp} {r : Nat → Value} : ∀ (ps : List Nat) (x : List PV) (vals : List Value) (regs : ez) (t : Array Value), PReps h x vals → x.length = ps.length → (∀ p ∈ ps, p < t.size) →
  RegsOK h r regs { tmps := t, defers := [] } →
  RegsOK h r (gG regs ps x) { tmps := (ps.zip vals).foldl (fun t (p, v) => t.setIfInBounds p v) t, defers := [] } ∧ ((ps.zip vals).foldl (fun t (p, v) => t.setIfInBounds p v) t).size = t.size
 | [], [], vals, regs, t, _, _, _, k => by simp [gG]; exact k
 | p :: ps, [], _, _, _, _, hl, _, _ => by simp at hl
 | [], x :: xs, _, _, _, _, hl, _, _ => by simp at hl
 | p :: ps, x :: xs, [], _, _, hv, _, _, _ => hv.elim
 | p :: ps, x :: xs, v :: vals, regs, t, hv, hl, hp, k => by
  have k1 : RegsOK h r (upd regs p (.p x)) { tmps := t.setIfInBounds p v, defers := [] } := by
   intro u
   show AVRep h r (upd regs p (.p x) u) ((t.setIfInBounds p v).getD u undef)
   rw [gq _ _ _ _ (hp p (by simp)), oS]
   by_cases e : u = p
   ·rw [if_pos e, if_pos e]; exact hv.1
   rw [if_neg e, if_neg e]; exact k u
  obtain ⟨g1, g2⟩ := ej ps xs vals (upd regs p (.p x)) (t.setIfInBounds p v) hv.2 (by simpa using hl) (fun q hq => by simpa using hp q (by simp [hq])) k1
  exact ⟨g1, by rw [List.zip_cons_cons, List.foldl_cons]; rw [g2]; simp⟩
section round
variable {C : Ctx} {h h' : Hp} {r r' : Nat → Value} {own own' : Own} {w w' : World} {L np' : Nat}
def Ctx.round (h : Hp) (r : Nat → Value) (own : Own) (w : World) (np' : Nat) : Ctx := ⟨w, h, fun i => ∃ m, own m ≠ none ∧ aR (r m) = some i, r, np', false⟩
theorem WOK.enter (k : WOK C h r own w) : WOK (Ctx.round h r own w np') h r own w :=
 ⟨k.ow, k.inj, k.hi, k.ho, rfl, rfl, .refl _, Nat.le_refl _, fun _ _ _ => rfl, fun m _ hm e => .inr ⟨m, hm, e⟩, .refl _, fun _ e => .inl e, k.gl, fun _ _ => rfl, k.lk⟩
theorem WOK.leave (k : WOK C h r own w) (q : WOK (Ctx.round h r own w np') h' r' own' w') (hnp : C.np ≤ np') : WOK C h' r' own' w' := by
 have hF : ∀ i, (Ctx.round h r own w np').F i → C.w0.heap.size ≤ i ∨ C.F i := by
  rintro i ⟨m, hm, e⟩; exact k.fo m i hm e
 refine ⟨q.ow, q.inj, q.hi, q.ho, q.os.trans k.os, q.tape.trans k.tape, q.output.trans k.output, Nat.le_trans k.size q.size, fun i hi hf => ?_, fun m i hm e => ?_, k.hg.trans q.hg, fun i hi => ?_, q.gl, fun m hm => ?_, q.lk⟩
 ·have := q.old i (Nat.lt_of_lt_of_le hi k.size) (fun x => by
   rcases hF i x with g | g
   ·omega
   exact hf g)
  rw [this]; exact k.old i hi hf
 ·rcases q.fo m i hm e with g | g
  ·exact .inl (Nat.le_trans k.size g)
  exact hF i g
 ·rcases q.hn i hi with g | g | g
  ·exact k.hn i g
  ·exact .inr (.inl (Nat.le_trans k.size g))
  exact .inr (hF i g)
 rw [q.kp m (Nat.lt_of_lt_of_le hm hnp)]; exact k.kp m hm
theorem WOK.putL {o : Obj} (k : WOK C h r own w) (hL : ∀ m, own m ≠ none → aR (r m) ≠ some L) (hh : h L = none) (hs : C.w0.heap.size ≤ L) : WOK C h r own (w.putObj L o) := by
 have old : ∀ i, i ≠ L → (w.putObj L o).heap[i]? = w.heap[i]? := fun i hi => bG hi
 refine ⟨fun m b e => (k.ow m b e).world fun i hi => old i fun x => hL m (by rw [e]; simp) (by rw [hi, x]), k.inj, fun i o' e => ?_, k.ho, k.os, k.tape, k.output, by rw [bt]; exact k.size, fun i hi hf => ?_, k.fo, k.hg, k.hn, k.gl, k.kp, fun m b j e hj => ?_⟩
 ·rw [old i fun x => by subst x; rw [hh] at e; cases e]; exact k.hi i o' e
 ·rw [old i (by omega)]; exact k.old i hi hf
 obtain ⟨q, t, h1, h2⟩ := k.lk m b j e hj
 refine ⟨q, t, h1, ?_⟩
 rw [old q fun x => hL m (by rw [e]; simp) (by rw [h1, x]; rfl)]; exact h2
theorem WOK.rec_left (hL0 : ∀ m, own m ≠ none → aR (r m) ≠ some L) (q : WOK (Ctx.round h r own w np') h' r' own' w') {o : Obj} (hL : w.heap[L]? = some o) (hh : h L = none) : w'.heap[L]? = some o ∧ h' L = none ∧ ∀ m, own' m ≠ none → aR (r' m) ≠ some L := by
 have hlt : L < w.heap.size := (Array.getElem?_eq_some_iff.1 hL).1
 have hF : ¬ (Ctx.round h r own w np').F L := by rintro ⟨m, hm, e⟩; exact hL0 m hm e
 refine ⟨?_, ?_, fun m hm e => ?_⟩
 ·rw [q.old L hlt hF]; exact hL
 ·cases e : h' L with
  | none => rfl
  | some o' =>
   rcases q.hn L (by rw [e]; simp) with g | g | g
   ·exact absurd hh g
   ·have : w.heap.size ≤ L := g; omega
   exact absurd g hF
 rcases q.fo m L hm e with g | g
 ·have : w.heap.size ≤ L := g; omega
 exact hF g
theorem WOK.rest (k : WOK C h r own w) {n0 : Nat} {G : Nat → Prop} (q : Rest n0 G h w h' w') (hG : ∀ m i, own m ≠ none → aR (r m) = some i → G i) (h0 : C.w0.heap.size ≤ n0) : WOK C h' r own w' := by
 have same : ∀ m i, own m ≠ none → aR (r m) = some i → w'.heap[i]? = w.heap[i]? := fun m i hm e => by
  rcases q.old i (k.lt hm e) with g | ⟨_, g, _⟩
  ·exact g
  exact absurd (hG m i hm e) g
 refine ⟨fun m b e => ((k.ow m b e).mono q.hg).world fun i hi => same m i (by rw [e]; simp) hi, k.inj, q.hi, fun m i hm e => ?_, q.os.trans k.os, q.tape.trans k.tape, q.output.trans k.output, Nat.le_trans k.size q.size, fun i hi hf => ?_, k.fo, k.hg.trans q.hg, fun i hi => ?_, k.gl.mono q.hg, k.kp, fun m b j e hj => ?_⟩
 ·cases hh : h' i with
  | none => rfl
  | some o =>
   rcases q.hn i (by rw [hh]; simp) with g | g
   ·exact absurd (k.ho m i hm e) g
   exact absurd (hG m i hm e) g.2
 ·rcases q.old i (Nat.lt_of_lt_of_le hi k.size) with g | ⟨g, _, _⟩
  ·rw [g]; exact k.old i hi hf
  omega
 ·rcases q.hn i hi with g | g
  ·exact k.hn i g
  exact .inr (.inl (Nat.le_trans h0 g.1))
 obtain ⟨q1, t, h1, h2⟩ := k.lk m b j e hj
 exact ⟨q1, t, h1, by rw [same m q1 (by rw [e]; simp) (by rw [h1]; rfl)]; exact h2⟩
end round
def GW (np' : Nat) (o o' : Own) : Prop := ∀ (C : Ctx) (h : Hp) (r : Nat → Value) (w : World), C.np ≤ np' → WOK C h r o w →
 ∃ r2, (∀ m, m < np' → r2 m = r m) ∧ WOK C h r2 o' w ∧ ∀ m i, o' m ≠ none → aR (r2 m) = some i → ∃ m2, o m2 ≠ none ∧ aR (r m2) = some i
theorem GW.forget {np' : Nat} {o o' : Own} (e : ∀ m, o' m = o m ∨ o' m = none) : GW np' o o' := fun C h r w _ k =>
 ⟨r, fun _ _ => rfl, k.forget e, fun m i hm hi => ⟨m, by
  rcases e m with g | g
  ·rw [← g]; exact hm
  exact absurd g hm, hi⟩⟩
def mX (np' : Nat) (l : List (Nat × AV)) : Bool := l.all fun p => (men p.2).all fun m => Nat.blt m np'
theorem iC {np' : Nat} : ∀ {l : List (Nat × AV)}, mX np' l = true → ∀ t, ∀ m ∈ men (bP l t), m < np'
 | [], _, t, m, hm => by simp [bP, men] at hm
 | (k, v) :: l, h, t, m, hm => by
  unfold mX at h
  rw [List.all_cons, Bool.and_eq_true] at h
  simp only [bP, oS] at hm
  by_cases e : t = k
  ·rw [if_pos e] at hm
   have := List.all_eq_true.1 h.1 m hm
   simpa using this
  rw [if_neg e] at hm
  exact iC (l := l) h.2 t m hm
theorem jL {C : Ctx} {h : Hp} {D : Nat} (hD : h D = none) : ∀ {ds : List Deferred}, Marks C h ds → ∀ x ∈ ds, x.target ≠ .collected D
 | [], _, x, hx => by simp at hx
 | d :: ds, ⟨_, ⟨D', h1, _, _, h4, _⟩, k⟩, x, hx => by
  rcases List.mem_cons.1 hx with rfl | hx
  ·intro e
   rw [h1] at e
   have : D' = D := by simpa using e
   subst this; rw [hD] at h4; cases h4
  exact jL hD k x hx
theorem kL {P : Program} {N np : Nat} {Q : Exit → St → Prop} {l : List (Nat × AV)} {g : Operand} {ps : Array Tmp} {assign body : Code} {gf : FuncId} {caps : List (List DV)} {xs : List (List PV)} (np' : Nat) (own : Nat → Own)
  (hg : ev (bP l) g = .fn gf caps) (hit : Iter P gf caps xs) (hps : ∀ x ∈ xs, x.length = ps.toList.length)
  (hfix : mX np' l = true) (hnp : Nat.ble np np' = true) (hpN : (ps.toList.all fun p => Nat.blt p N) = true)
  (hround : ∀ (k : Nat) (x : List PV), xs[k]? = some x → AWp P true N np' assign (iV (AWp P true N np' body (fun e s' => e = .normal ∧ GW np' s'.own (own (k + 1)))) (fun _ _ => False)) ⟨gG (bP l) ps.toList x, own k⟩)
  (hdone : Q .normal ⟨bP l, own xs.length⟩) : AWp P false N np (.rangeFunc g ps assign body) Q ⟨bP l, own 0⟩ := by
 intro ro hB C hh r a w hn hc
 have hro : ro = none := hB rfl
 subst hro
 have hnp' := bL0 hnp
 have hmar : C.mar = true := hn.2
 refine wpIn_rangeFunc ?_
 intro fn _
 have hgv := dS hc.rg g
 rw [hg] at hgv
 obtain ⟨lb, hval, hcaps⟩ := hgv
 obtain ⟨rec, hrec⟩ : ∃ rec : LoopState → Option Code → Loop, rec = fun st pe => { state := st, pending := pe, fn, tmps := a.tmps, params := ps, assign, body, defers := w.heap.size } := ⟨_, rfl⟩
 obtain ⟨W1, hW1⟩ : ∃ W1, (w.alloc (.deferred (some []))).alloc (.loop (rec .ready none)) = W1 := ⟨_, rfl⟩
 obtain ⟨hw1, hle1⟩ := hc.wk.imm (.deferred (some []))
 obtain ⟨h1, hh1⟩ : ∃ h1 : Hp, h1 = fun i => if i = w.heap.size then some (.deferred (some [])) else hh i := ⟨_, rfl⟩
 rw [← hh1] at hw1 hle1
 have hs1 : W1.heap.size = w.heap.size + 2 := by rw [← hW1]; simp
 have hold1 : ∀ i, i < (w.alloc (.deferred (some []))).heap.size → W1.heap[i]? = (w.alloc (.deferred (some []))).heap[i]? := fun i hi => by
  rw [← hW1, bB, if_neg (by omega)]
 have hw2 : WOK C h1 r (own 0) W1 := hw1.beside (by rw [← hW1]; rfl) (by rw [← hW1]; rfl) (by rw [← hW1]; exact ⟨rfl, Nat.le_refl _⟩) (by rw [hs1]; simp) hold1
 have hL1 : W1.heap[w.heap.size + 1]? = some (.loop (rec .ready none)) := by
  rw [← hW1, bB, if_pos (by simp)]
 have hD0 : hh w.heap.size = none := by
  cases e : hh w.heap.size with
  | none => rfl
  | some o => have := hc.wk.hlt e; omega
 have hhL : h1 (w.heap.size + 1) = none := by
  rw [hh1]
  show (if w.heap.size + 1 = w.heap.size then _ else hh (w.heap.size + 1)) = none
  rw [if_neg (by omega)]
  cases e : hh (w.heap.size + 1) with
  | none => rfl
  | some o => have := hc.wk.hlt e; omega
 have hnoL : ∀ m, own 0 m ≠ none → aR (r m) ≠ some (w.heap.size + 1) := fun m hm e => by
  have := hc.wk.lt hm e; omega
 have hD1 : h1 w.heap.size = some (.deferred (some [])) := by rw [hh1]; exact if_pos rfl
 generalize hLL : w.heap.size + 1 = L at *
 have hCL : C.w0.heap.size ≤ L := by have := hc.wk.size; omega
 refine ⟨L, [{ target := .collected w.heap.size, args := #[] }], W1, { target := .fn (.func gf) lb, args := #[.func (.yield L) #[] #[]] }, W1, gf, #[.func (.yield L) #[] #[]] ++ lb, W1, ?_, ?_, fun _ _ => trivial, ?_, fun e => by simp [Wd] at e, ?_⟩
 ·rw [← hW1, hrec, ← hLL]; exact run_enterLoop_outer _ _ _ _ _
 ·simp only [resolve, hval]
  simp [go_sem]
 ·have eg : ∀ args w, (callFunc gf args).run P w = .ok (.enter gf args) w := fun args w => dh hit.fn args w
  simp [invoke, go_sem, eg]
 have hmen := iC hfix
 obtain ⟨J, hJ⟩ : ∃ J : Nat → Hp → (Nat → Prop) → World → Prop, J = fun k h G W => ∃ r', (∀ m, m < np' → r' m = r m) ∧ WOK C h r' (own k) W ∧ W.heap[L]? = some (.loop (rec .ready none)) ∧ h L = none ∧ (∀ m, own k m ≠ none → aR (r' m) ≠ some L) ∧ Hle h1 h ∧
   G = fun i => i = L ∨ ∃ m, own k m ≠ none ∧ aR (r' m) = some i := ⟨_, rfl⟩
 have hrg : ∀ h r', Hle h1 h → (∀ m, m < np' → r' m = r m) → RegsOK h r' (bP l) a := fun h r' hl hr t =>
  AVRep.rebind _ _ (fun m hm => hr m (hmen t m hm)) (AVRep.mono (hle1.trans hl) _ _ (hc.rg t))
 refine CallsIn.mono (hit.go L lb J h1 (fun i => i = L ∨ ∃ m, own 0 m ≠ none ∧ aR (r m) = some i) W1 (hcaps.mono hle1) hw2.gl ⟨?_, ?_, ?_, ?_⟩ ?_) ?_
 ·intro k h G W hk
  rw [hJ] at hk
  obtain ⟨r', _, q, _⟩ := hk
  exact q.hi
 ·intro k h G W hk i hi
  rw [hJ] at hk
  obtain ⟨r', e1, e2, e3, e4, e5, e6, rfl⟩ := hk
  rcases hi with rfl | ⟨m, hm, e⟩
  ·exact ⟨(Array.getElem?_eq_some_iff.1 e3).1, e4⟩
  exact ⟨e2.lt hm e, e2.ho m i hm e⟩
 ·intro k h G W h' W' hk q
  rw [hJ] at hk ⊢
  obtain ⟨r', e1, e2, e3, e4, e5, e6, rfl⟩ := hk
  have hlt : L < W.heap.size := (Array.getElem?_eq_some_iff.1 e3).1
  refine ⟨r', e1, e2.rest q (fun m i hm e => .inr ⟨m, hm, e⟩) (Nat.le_trans hw2.size (Nat.le_refl _)), ?_, ?_, e5, e6.trans q.hg, rfl⟩
  ·rcases q.old L hlt with g | ⟨_, g, _⟩
   ·rw [g]; exact e3
   exact absurd (.inl rfl) g
  cases e : h' L with
  | none => rfl
  | some o =>
   rcases q.hn L (by rw [e]; simp) with g | g
   ·exact absurd e4 g
   exact absurd (.inl rfl) g.2
 ·intro k h G W x vals hx hk hv
  rw [hJ] at hk
  obtain ⟨r', e1, e2, e3, e4, e5, e6, rfl⟩ := hk
  have hlen : x.length = ps.toList.length := hps x (List.mem_of_getElem? hx)
  have hvl : vals.length = x.length := by
   have : ∀ (ps : List PV) (vs : List Value), PReps h ps vs → vs.length = ps.length := by
    intro ps
    induction ps with
    | nil => intro vs k; cases vs with
     | nil => rfl
     | cons _ _ => exact k.elim
    | cons p ps ih => intro vs k; cases vs with
     | nil => exact k.elim
     | cons v vs => simp [ih vs k.2]
   exact this _ _ hv
  have hsz : vals.toArray.size = (rec .ready none).params.size := by
   rw [hrec]
   show vals.length = ps.size
   rw [hvl, hlen]; simp
  refine ⟨_, _, _, _, run_yield e3 hsz, roundIn_of_wpIn trivial ?_⟩
  rw [hrec]
  show assign.wpIn (Wd (some L)) 0 P _ { tmps := (ps.zip vals.toArray).foldl (fun t (p, v) => t.setIfInBounds p v) a.tmps, defers := [] } W
  have hzip : (ps.zip vals.toArray).foldl (fun t (p, v) => t.setIfInBounds p v) a.tmps = (ps.toList.zip vals).foldl (fun t (p, v) => t.setIfInBounds p v) a.tmps := by
   rw [← Array.foldl_toList, Array.toList_zip]
  rw [hzip]
  obtain ⟨f1, f2⟩ := ej (r := r') ps.toList x vals (bP l) a.tmps hv hlen (fun p hp => by
   have := List.all_eq_true.1 hpN p hp
   rw [hc.sz]; simpa using this) (fun t => hrg h r' e6 e1 t)
  refine wpIn_mono (hround k x hx (some L) (fun e => by cases e) (Ctx.round h r' (own k) W np') h r' _ W ⟨rfl, rfl⟩ ⟨f2.trans hc.sz, trivial, f1, e2.enter⟩) ?_
  rintro e a1 w1 ⟨s1, h2, r2, q1, c1⟩
  cases e with
  | normal =>
   have hwk1 := e2.leave c1.wk (Nat.le_trans (Nat.le_of_eq hn.1) hnp')
   obtain ⟨g1, g2, g3⟩ := WOK.rec_left e5 c1.wk e3 e4
   have hd1 : a1.defers = [] := by
    have := c1.df
    cases hd : a1.defers with
    | nil => rfl
    | cons d ds => rw [hd] at this; cases this.1
   have hw3 := hwk1.putL (o := .loop { rec .ready none with state := .busy }) g3 g2 hCL
   have hLw : L < w1.heap.size := (Array.getElem?_eq_some_iff.1 g1).1
   have hLb : (w1.putObj L (.loop { rec .ready none with state := .busy })).heap[L]? = some (.loop { rec .ready none with state := .busy }) := World.putObj_heap_same hLw
   refine ⟨_, run_beginRound g1 (by rw [hrec]), ?_⟩
   refine wpIn_mono (q1 (some L) (fun e => by cases e) (Ctx.round h2 r2 s1.own _ np') h2 r2 a1 _ ⟨rfl, rfl⟩ ⟨c1.sz, by rw [hd1]; trivial, c1.rg, hw3.enter⟩) ?_
   rintro e a2 w2 ⟨s2, h3, r3, ⟨rfl, q2⟩, c2⟩
   have hwk2 := hw3.leave c2.wk (Nat.le_trans (Nat.le_of_eq hn.1) hnp')
   obtain ⟨k1, k2, k3⟩ := WOK.rec_left g3 c2.wk hLb g2
   obtain ⟨r4, q3, hwk3, q4⟩ := q2 C h3 r3 w2 (Nat.le_trans (Nat.le_of_eq hn.1) hnp') hwk2
   have k3' : ∀ m, own (k + 1) m ≠ none → aR (r4 m) ≠ some L := fun m hm e => by
    obtain ⟨m2, g1, g2⟩ := q4 m L hm e
    exact k3 m2 g1 g2
   have F2 : ∀ i, (Ctx.round h2 r2 s1.own (w1.putObj L (.loop { rec .ready none with state := .busy })) np').F i → W.heap.size ≤ i ∨ ∃ m, own k m ≠ none ∧ aR (r' m) = some i := by
    rintro i ⟨m, hm, e⟩; exact c1.wk.fo m i hm e
   have sz1 : W.heap.size ≤ w1.heap.size := c1.wk.size
   have sz2 : w1.heap.size ≤ w2.heap.size := by have : (w1.putObj L _).heap.size ≤ w2.heap.size := c2.wk.size; rwa [bt] at this
   refine ⟨_, _, run_endRound none k1, rfl, h3, fun i => i = L ∨ ∃ m, own (k + 1) m ≠ none ∧ aR (r4 m) = some i, ?_, ?_⟩
   ·rw [hJ]
    refine ⟨r4, fun m hm => ?_, hwk3.putL k3' k2 hCL, ?_, k2, k3', e6.trans (c1.wk.hg.trans c2.wk.hg), rfl⟩
    ·rw [q3 m hm, c2.wk.kp m hm]
     show r2 m = r m
     rw [c1.wk.kp m hm]
     exact e1 m hm
    rw [World.putObj_heap_same (Array.getElem?_eq_some_iff.1 k1).1, hrec]; rfl
   refine ⟨c2.wk.os.trans c1.wk.os, c2.wk.tape.trans c1.wk.tape, c2.wk.output.trans c1.wk.output, by rw [bt]; omega, fun i hi hg => ?_, c1.wk.hg.trans c2.wk.hg, fun i hi => ?_, fun i hi => ?_⟩
   ·have hiL : i ≠ L := fun x => hg (.inl x)
    rw [bG hiL, c2.wk.old i (by rw [show (Ctx.round h2 r2 s1.own (w1.putObj L (.loop { rec .ready none with state := .busy })) np').w0.heap.size = w1.heap.size from bt _ _ _]; omega) (fun x => by
     rcases F2 i x with g | g
     ·omega
     exact hg (.inr g))]
    show (w1.putObj L _).heap[i]? = _
    rw [bG hiL]
    exact c1.wk.old i hi (fun x => hg (.inr x))
   ·rcases c2.wk.hn i hi with g | g | g
    ·rcases c1.wk.hn i g with g | g | g
     ·exact .inl g
     ·exact .inr (.inl g)
     exact .inr (.inr (.inr g))
    ·have g' : (w1.putObj L (.loop { rec .ready none with state := .busy })).heap.size ≤ i := g
     rw [bt] at g'
     exact .inr (.inl (by omega))
    rcases F2 i g with g | g
    ·exact .inr (.inl g)
    exact .inr (.inr (.inr g))
   rcases hi with rfl | ⟨m, hm, e⟩
   ·exact .inl (.inl rfl)
   obtain ⟨m2, g1, g2⟩ := q4 m i hm e
   rcases c2.wk.fo m2 i g1 g2 with g | g
   ·have g' : (w1.putObj L (.loop { rec .ready none with state := .busy })).heap.size ≤ i := g
    rw [bt] at g'
    exact .inr (by omega)
   rcases F2 i g with g | g
   ·exact .inr g
   exact .inl (.inr g)
  | _ => exact q1.elim
 ·rw [hJ]
  exact ⟨r, fun _ _ => rfl, hw2, hL1, hhL, hnoL, .refl _, rfl⟩
 rintro e W3 ⟨⟨v, rfl⟩, h', G', hk⟩
 rw [hJ] at hk
 obtain ⟨r', e1, e2, e3, e4, e5, e6, _⟩ := hk
 refine ⟨none, _, by have := run_endLoop (P := P) e3 (by rw [hrec]; simp); rw [hrec] at this; exact this, ?_⟩
 refine ⟨⟨bP l, own xs.length⟩, h', r', hdone, hc.sz, ?_, fun t => hrg h' r' e6 e1 t, e2.putL e5 e4 hCL⟩
 refine ⟨hmar, ⟨w.heap.size, rfl, hc.wk.size, ?_, e6 _ _ hD1, jL hD0 hc.df⟩, hc.df.mono (hle1.trans e6)⟩
 cases e : C.h0 w.heap.size with
 | none => rfl
 | some o => have := hc.wk.hg _ _ e; rw [hD0] at this; cases this
end
section
open Go Go.RowKit
section ops
variable {P : Program} {tt : TT} (hT : dx P tt)
variable {dst : Option Nat} {ty : TypeId} {pos : String} {af : Array Edge} {gd : Option (Nat × Bool)} {d : Nat} {ρ : Operand → AV} {own : Own}
variable {T : TypeId} {i : TyI} {x y : Operand}
theorem lB {f : FuncId} {c : Operand} {xs : List DV} (hx : ρ c = .ip xs) : Eff P ⟨dst, .makeFunc (.func f) #[] #[c], ty, pos, af, gd⟩ d ρ own (.fn f [xs]) [] none [] :=
 bg fun C h r own' a w hrep hrd hw => by
  have e1 := hrep c (by simp [Op.operands])
  rw [hx] at e1
  refine ⟨.func (.func f) #[] #[a.eval c], ?_, #[a.eval c], rfl, e1, trivial⟩
  simp [execOp, Instr.makeFunc]
theorem vd {h : Hp} {r : Nat → Value} {f : FuncId} {v : Value} (e : AVRep h r (.p (.c (.v (.func (.func f) #[] #[])))) v) : v = .func (.func f) #[] #[] := by
 simp only [AVRep, PRep, DRep] at e
 exact e.1
theorem Eff.callF {f : FuncId} {c : Operand} {args : Array Operand} {tys : Array TypeId} {res : AV} (hx : ρ c = .p (.c (.v (.func (.func f) #[] #[])))) (hc : aG P f (args.toList.map ρ) res) :
  Eff P ⟨dst, .call ⟨.value c, args, tys⟩, ty, pos, af, gd⟩ d ρ own res [] none [] := by
 intro C h r own' a w K Q hrep hrd hw _ hK
 have e1 := hrep c (by simp [Op.operands, Call.operands])
 rw [hx] at e1
 have e2 := vd e1
 unfold Oper.wp
 have hrun : (execOp a.eval ⟨dst, .call ⟨.value c, args, tys⟩, ty, pos, af, gd⟩).run P w = .ok (.enter f (args.map a.eval)) w := by
  simp only [execOp, resolve, Sem.run_bind, e2, Deferred.ofValue, Sem.run_pure, Result.andThen_ok, invoke, Array.empty_append, Array.append_empty]
  exact dh hc.fn _ w
 rw [hrun]
 refine Calls.mono (hc.go h r w (args.map a.eval) ?_ (hw.before fun m hm => absurd rfl hm)) ?_
 ·rw [Array.toList_map]
  exact dP _ fun x hx => hrep x (by simp only [Op.operands, Call.operands]; exact Array.mem_append.2 (.inr (Array.mem_toList_iff.1 hx)))
 rintro e w' ⟨v, h', rfl, hv, hq⟩
 exact hK v h' r w' hq.hg (fun _ _ => rfl) hv (hw.after (fun m hm => absurd rfl hm) hq (fun m => by simp [ff, cJ]) (fun m b hm => absurd rfl hm))
include hT in
theorem iA (ht : tt T = some i) (hu : (P.info? T).bind (·.zero) = some (.slice none 0 0)) : Eff P ⟨dst, .alloc T, ty, pos, af, gd⟩ d ρ own (.loc d 0) [] (some ⟨false, 1, T, [.v (.slice none 0 0)]⟩) [] := by
 intro C h r own' a w K Q hrep _ hw hal hK
 obtain ⟨ti, g1, g2, g3, z, g4, g5, g6, g7⟩ := (hT T i ht).info
 have hzz : z = .slice none 0 0 := by
  rw [g1] at hu
  simp only [Option.bind_some, g4, Option.some.injEq] at hu
  exact hu
 subst hzz
 refine ga (hal (by simp)) hw (x := .pointer (some ⟨w.heap.size, 0, none⟩)) (c := #[.slice none 0 0]) ?_ ?_ ?_ ?_ hK
 ·intro k hk; simp [aR] at hk; exact hk.symm
 ·refine ⟨w.heap.size, #[.slice none 0 0], rfl, by rw [bB, if_pos rfl], rfl, ?_⟩
  simp only [DReps, DRep]
  exact ⟨⟨_, rfl, rfl, rfl⟩, trivial⟩
 ·intro h r' hr; exact ⟨w.heap.size, by rw [hr]; rfl, rfl⟩
 have hz1 : (zeroValue T).run P w = .ok (.slice none 0 0) w := by simp [zeroValue, typeInfo, g1, g4]
 simp only [execOp, Instr.alloc, newVar, newRow, Sem.run_bind, hz1, run_newObj, Result.andThen_ok, Sem.run_pure]; rfl
include hT in
theorem fq {m j : Nat} {b : Blk} (ht : tt T = some i) (hg : i.sh.agg = false) (hx : ρ x = .loc m 0) (hb : own m = some b) (hj : lnk b = [j]) :
  Eff P ⟨dst, .load T x, ty, pos, af, gd⟩ d ρ own (.vec j) [] none [m] :=
 bg fun C h r own' a w hrep hrd hw => by
  have e1 := hrep x (by simp [Op.operands])
  rw [hx] at e1
  obtain ⟨k, h1, h2⟩ := e1
  obtain ⟨q, t, h3, h4⟩ := hw.lk m b j ((hrd m (by simp)).trans hb) (by rw [hj]; simp)
  rw [h3] at h1
  simp only [aR, Option.some.injEq] at h1
  subst h1
  refine ⟨r j, ?_, rfl⟩
  have hc : w.cell? ⟨q, 0, none⟩ = some (r j) := by simp [World.cell?, h4]
  simp only [execOp, h2, Sem.run_bind, fC, loadVar, (hT T i ht).isAgg, hg, Result.andThen_ok, Bool.false_eq_true, if_false, run_load, hc, Sem.run_pure]
include hT in
theorem jI {m j n z : Nat} {e : TypeId} {dv : DV} {b : Blk} (ht : tt T = some i) (hsz : i.size = 1) (hx : ρ x = .loc m 0) (hy : ρ y = .vec j) (hb : own m = some ⟨false, z, e, [dv]⟩) (hbj : own j = some b) (hbv : b.vec = true) (hn : n * b.sz = b.cs.length) (hs0 : 0 < b.sz) :
  Eff P ⟨none, .store T x y, ty, pos, af, gd⟩ d ρ own .junk [(m, some ⟨false, j + 2, e, [.sl n []]⟩)] none [m, j] := by
 intro C h r own' a w K Q hrep hrd hw _ hK
 have hb' := (hrd m (by simp)).trans hb
 have hj' := (hrd j (by simp)).trans hbj
 have e1 := hrep x (by simp [Op.operands])
 have e2 := hrep y (by simp [Op.operands])
 rw [hx] at e1; rw [hy] at e2
 obtain ⟨k, h1, h2, c, h3, h4, h5⟩ := kt hw hb' e1
 have e2' : a.eval y = r j := e2
 have hbr := hw.ow j b hj'
 unfold BlkRep at hbr
 rw [hbv] at hbr
 obtain ⟨ad, l, cap, q1, q2, q3, q4, q5⟩ := hbr
 have hl : l = n := Nat.eq_of_mul_eq_mul_right hs0 (q2.trans hn.symm)
 subst hl
 have hcells : (a.eval y).cells = #[r j] := by rw [e2', q1]; rfl
 have hone : (r j).oneCell' = true := by rw [q1]; rfl
 have hbx := hw.ow m _ hb'
 unfold BlkRep at hbx
 simp only at hbx
 obtain ⟨k0, c0, p1, p2, p3, p4⟩ := hbx
 rw [p1] at h2; simp only [aR, Option.some.injEq] at h2; subst h2
 rw [p2] at h3
 have hcc : c0 = c := by simpa using h3
 subst hcc
 have hsize : c0.size = 1 := p3
 obtain ⟨w', c', k1, k2, k3, k4, k5⟩ := cT P k0 e [r j] 0 0 w c0 p2 (by simp; omega) (by simpa using hone)
 have hc' : c' = #[r j] := by
  have h0 := k5 0
  simp at h0
  apply Array.ext (by simp; omega)
  intro q hq1 hq2
  have : q = 0 := by omega
  subst this
  rw [Array.getElem?_eq_getElem (by omega)] at h0
  simpa using h0
 have hrun : (execOp a.eval ⟨none, .store T x y, ty, pos, af, gd⟩).run P w = .ok .skip w' := by
  have hs : ¬ ((a.eval y).cells.size ≠ i.size) := by rw [hcells, hsz]; simp
  simp only [execOp, h1, Instr.storeAt, Instr.sureAddr, storeVar, Sem.run_bind, Sem.run_pure, (hT T i ht).size, Result.andThen_ok, hs, if_false]
  rw [hcells]
  simp only [Result.andThen_ok, k1]
 unfold Oper.wp
 rw [hrun]
 refine hK undef h r w' (.refl _) (fun _ _ => rfl) trivial (hw.write (by rw [hb']; simp) (by rw [p1]; rfl) k2 (b := ⟨false, j + 2, e, [.sl l []]⟩) ?_ ?_)
 ·refine ⟨k0, c', p1, k3, by rw [hc']; rfl, ?_⟩
  rw [hc']
  simp only [DReps, DRep]
  exact ⟨⟨r j, rfl, ad, cap, q1, q3, q4, .inl trivial⟩, trivial⟩
 intro j' hj
 have : j' = j := by simpa [lnk] using hj
 subst this
 exact ⟨k0, e, p1, by rw [k3, hc']⟩
include hT in
theorem j8 {g e l : Nat} {vs : List Value} {j : TyI} {k : IntKind} {n : Int} (ht : tt T = some i) (hs : i.sh = .ar l e) (he : tt e = some j) (hj : j.size = 1) (hgl : (g, vs) ∈ tB) (hone : (vs.all Value.oneCell') = true) (hy : ρ y = .p (.c (.v (.int k n)))) (hn : 0 ≤ n ∧ n < l) :
  Eff P ⟨dst, .indexAddr T (.global g) y, ty, pos, af, gd⟩ d ρ own (.ip ((vs.drop n.toNat).map .v)) [] none [] :=
 bg fun C h r own' a w hrep hrd hw => by
  have e2 := hrep y (by simp [Op.operands])
  rw [hy] at e2
  obtain ⟨c, t, fr, h1, h2⟩ := hw.gl _ hgl
  refine ⟨.pointer (some ⟨g, 0 + n.toNat * j.size, none⟩), ?_, g, _, c, t, fr, rfl, h1, ?_⟩
  ·have hu := (hT T i ht).array hs
   have hgv : a.eval (.global g) = .pointer (some ⟨g, 0, none⟩) := rfl
   simp only [execOp, hgv, b8 e2, Instr.indexAt, asIntOf, Sem.run_bind, Sem.run_pure, Result.andThen_ok, run_underlying hu, Instr.sureAddr, hn, and_self, if_true, (hT e j he).size, Addr.add_lit]
  rw [DReps.iff]
  intro p dv hp
  rw [List.getElem?_map, List.getElem?_drop] at hp
  cases hv : vs[n.toNat + p]? with
  | none => rw [hv] at hp; cases hp
  | some v =>
   rw [hv] at hp
   cases hp
   refine ⟨v, ?_, ?_⟩
   ·have e3 : 0 + n.toNat * j.size + p = n.toNat + p := by rw [hj]; omega
    show c[0 + n.toNat * j.size + p]? = some v
    rw [e3]; exact h2 _ _ hv
   simp only [DRep, true_and]
   exact List.all_eq_true.1 hone v (List.mem_of_getElem? hv)
end ops
section ghost
variable {P : Program} {B : Bool} {N np : Nat} {Q : Exit → St → Prop} {s : St} {c : Code}
theorem cE {t m z : Nat} {e : TypeId} {cs : List DV} (ht : s.regs t = .loc m 0) (hb : s.own m = some ⟨false, z, e, cs⟩) (h : AWp P B N np c Q ⟨upd s.regs t (.ip cs), upd s.own m none⟩) : AWp P B N np c Q s := by
 intro ro hB C hh r a w hn hc
 have hold := hc.wk.ow m _ hb
 unfold BlkRep at hold
 simp only at hold
 obtain ⟨k, cc, q1, q2, q3, q4⟩ := hold
 obtain ⟨f1, f2⟩ := hc.wk.freeze (m := m) (i := k) (by rw [hb]; simp) (by rw [q1]; rfl) q2
 refine h ro hB C _ r a w hn ⟨hc.sz, hc.df.mono f2, fun t' => ?_, f1⟩
 show AVRep _ _ (upd s.regs t _ t') _
 by_cases e' : t' = t
 ·subst e'
  rw [upd_same]
  have hx := hc.rg t'
  rw [ht] at hx
  obtain ⟨k', g1, g2⟩ := hx
  rw [q1] at g1; simp only [aR, Option.some.injEq] at g1; subst g1
  exact ⟨k, 0, cc, e, (0, 0), g2, if_pos rfl, by simpa using DReps.mono f2 _ _ q4⟩
 rw [aF _ _ _ _ e']; exact AVRep.mono f2 _ _ (hc.rg t')
theorem WOK.relink {C : Ctx} {h : Hp} {r : Nat → Value} {own : Own} {w : World} (k : WOK C h r own w) {m z j n : Nat} {e : TypeId} {cs : List DV} (hb : own m = some ⟨false, z, e, cs⟩) (hc : ∃ q t, r m = .pointer (some ⟨q, 0, none⟩) ∧ w.heap[q]? = some (.cells #[r j] t (0, 0)))
  (hr : DReps h [DV.sl n []] fun i => (#[r j])[i]?) : WOK C h r (upd own m (some ⟨false, j + 2, e, [.sl n []]⟩)) w := by
 have live : ∀ p, upd own m (some ⟨false, j + 2, e, [.sl n []]⟩) p ≠ none → own p ≠ none := fun p hp => by
  by_cases h1 : p = m
  ·subst h1; rw [hb]; simp
  rwa [aF _ _ _ _ h1] at hp
 refine ⟨fun p b hp => ?_, fun p q i hp hq => k.inj p q i (live p hp) (live q hq), k.hi, fun p i hp => k.ho p i (live p hp), k.os, k.tape, k.output, k.size, k.old, fun p i hp => k.fo p i (live p hp), k.hg, k.hn, k.gl, k.kp, fun p b j' hp hj => ?_⟩
 ·by_cases h1 : p = m
  ·subst h1; rw [upd_same] at hp; cases hp
   have hold := k.ow p _ hb
   unfold BlkRep at hold ⊢
   simp only at hold ⊢
   obtain ⟨k0, c0, p1, p2, p3, p4⟩ := hold
   obtain ⟨q, t, g1, g2⟩ := hc
   rw [p1] at g1
   have : k0 = q := by simpa using g1
   subst this
   rw [p2] at g2
   have e2 : c0 = #[r j] := by simp only [Option.some.injEq, Obj.cells.injEq] at g2; exact g2.1
   subst e2
   exact ⟨k0, _, p1, p2, rfl, hr⟩
  rw [aF _ _ _ _ h1] at hp; exact k.ow p b hp
 by_cases h1 : p = m
 ·subst h1; rw [upd_same] at hp; cases hp
  have : j' = j := by simpa [lnk] using hj
  subst this
  exact hc
 rw [aF _ _ _ _ h1] at hp; exact k.lk p b j' hp hj
theorem WOK.newNil {C : Ctx} {h : Hp} {r : Nat → Value} {own : Own} {w : World} (k : WOK C h r own w) {j sz : Nat} {be : TypeId} (hd : own j = none) (hp : C.np ≤ j) (hl : ∀ m b, own m = some b → j ∉ lnk b) : WOK C h (upd r j (.slice none 0 0)) (upd own j (some ⟨true, sz, be, []⟩)) w := by
 have live : ∀ n, n ≠ j → upd own j (some (⟨true, sz, be, []⟩ : Blk)) n ≠ none → own n ≠ none := fun n h1 hn => by rwa [aF _ _ _ _ h1] at hn
 have nb : ∀ i, aR (upd r j (.slice none 0 0) j) = some i → False := fun i e => by rw [upd_same] at e; cases e
 refine ⟨fun m b e => ?_, fun m n i hm hn e f => ?_, k.hi, fun m i hm e => ?_, k.os, k.tape, k.output, k.size, k.old, fun m i hm e => ?_, k.hg, k.hn, k.gl, fun m hm => ?_, fun m b j' e hj => ?_⟩
 ·by_cases h1 : m = j
  ·subst h1; rw [upd_same] at e ⊢; cases e
   exact ⟨none, 0, 0, rfl, by simp, by omega, by omega, .inl rfl⟩
  rw [aF _ _ _ _ h1] at e ⊢; exact k.ow m b e
 ·by_cases h1 : m = j
  ·subst h1; exact (nb i e).elim
  by_cases h2 : n = j
  ·subst h2; exact (nb i f).elim
  rw [aF _ _ _ _ h1] at e; rw [aF _ _ _ _ h2] at f
  exact k.inj m n i (live m h1 hm) (live n h2 hn) e f
 ·by_cases h1 : m = j
  ·subst h1; exact (nb i e).elim
  rw [aF _ _ _ _ h1] at e; exact k.ho m i (live m h1 hm) e
 ·by_cases h1 : m = j
  ·subst h1; exact (nb i e).elim
  rw [aF _ _ _ _ h1] at e; exact k.fo m i (live m h1 hm) e
 ·rw [aF _ _ _ _ (by omega)]; exact k.kp m hm
 by_cases h1 : m = j
 ·subst h1; rw [upd_same] at e; cases e; simp [lnk] at hj
 rw [aF _ _ _ _ h1] at e
 have hjj : j' ≠ j := fun x => hl m b e (x ▸ hj)
 rw [aF _ _ _ _ h1, aF _ _ _ _ hjj]
 exact k.lk m b j' e hj
def FO (m j sz : Nat) (be e : TypeId) (s : St) : St := ⟨(ci [j] s).regs, upd (upd (ci [j] s).own j (some ⟨true, sz, be, []⟩)) m (some ⟨false, j + 2, e, [.sl 0 []]⟩)⟩
theorem jY (m j sz : Nat) (be : TypeId) {z : Nat} {e : TypeId} (hb : s.own m = some ⟨false, z, e, [.v (.slice none 0 0)]⟩) (hz : Nat.blt z 2 = true) (hj : Nat.beq m j = false) (hp : Nat.ble np j = true) (h : AWp P B N np c Q (FO m j sz be e s)) : AWp P B N np c Q s := by
 have hne : m ≠ j := fun e => by rw [e, Nat.beq_refl] at hj; cases hj
 intro ro hB C hh r a w hn hc
 have hk := gm [j] hc
 have hm : (ci [j] s).own m = some ⟨false, z, e, [.v (.slice none 0 0)]⟩ := by
  show (bif [j].contains m then none else iT [j] (s.own m)) = _
  have : [j].contains m = false := by simp; exact hne
  rw [this, hb]
  have hl : lnk ⟨false, z, e, [.v (.slice none 0 0)]⟩ = [] := by
   match z, hz with
   | 0, _ => rfl
   | 1, _ => rfl
  show some (eA [j] _) = _
  unfold eA; rw [hl]; rfl
 have hw := hk.wk.newNil (j := j) (sz := sz) (be := be) (fO [j] s j (by simp)) (by rw [hn.1]; exact bL0 hp) (fP [j] s j (by simp))
 have hold := hk.wk.ow m _ hm
 unfold BlkRep at hold
 simp only at hold
 obtain ⟨k0, c0, p1, p2, p3, p4⟩ := hold
 have hc0 : c0 = #[.slice none 0 0] := by
  simp only [DReps, DRep] at p4
  obtain ⟨⟨y, g1, g2⟩, _⟩ := p4
  apply Array.ext (by simpa using p3)
  intro q hq1 hq2
  have : q = 0 := by have : q < 1 := hq2; omega
  subst this
  rw [Array.getElem?_eq_getElem (by simpa using hq1)] at g1
  simp at g1
  rw [g1, g2.1]; rfl
 subst hc0
 have hw2 := hw.relink (m := m) (z := z) (j := j) (n := 0) (e := e) (cs := [.v (.slice none 0 0)]) (by rw [aF _ _ _ _ hne]; exact hm) ⟨k0, e, by rw [aF _ _ _ _ hne]; exact p1, by rw [upd_same]; exact p2⟩ (by
  rw [upd_same]
  simp only [DReps, DRep]
  exact ⟨⟨_, rfl, none, 0, rfl, by omega, by omega, .inl trivial⟩, trivial⟩)
 refine h ro hB C hh (upd r j (.slice none 0 0)) a w hn ⟨hk.sz, hk.df, fun t => ?_, hw2⟩
 exact AVRep.rebind _ _ (fun n hn' => aF _ _ _ _ (fun x => iE [j] s j (by simp) t (x ▸ hn'))) (hk.rg t)
end ghost
theorem GW.rnL {np' : Nat} {o o' : Own} (m j d n : Nat) {e : TypeId} {cs : List DV} {b : Blk} (hm : o m = some ⟨false, j + 2, e, cs⟩) (hb : o j = some b) (hbv : b.vec = true) (hn : n * b.sz = b.cs.length) (hs0 : 0 < b.sz) (hmj : Nat.beq m j = false) (hmd : Nat.beq m d = false) (hjd : Nat.beq j d = false) (hp : Nat.ble np' d = true)
  (hfin : ∀ x, o' x = (upd (upd (upd (ci [d] ⟨fun _ => .junk, o⟩).own j none) d (some b)) m (some ⟨false, d + 2, e, [.sl n []]⟩)) x ∨ o' x = none) : GW np' o o' := by
 have neq : ∀ {x y : Nat}, Nat.beq x y = false → x ≠ y := fun h e => by rw [e, Nat.beq_refl] at h; cases h
 have h1 := neq hmj; have h2 := neq hmd; have h3 := neq hjd
 intro C hh r w hnp hk0
 have hdp := bL0 hp
 have hk : WOK C hh r (ci [d] ⟨fun _ => .junk, o⟩).own w := hk0.killed (A := [d]) fun x => by
  show (bif [d].contains x then none else iT [d] (o x)) = _ ∨ (bif [d].contains x then none else iT [d] (o x)) = none
  cases [d].contains x with
  | true => exact .inr rfl
  | false => exact .inl rfl
 have kown : ∀ p, p ≠ d → (ci [d] ⟨fun _ => .junk, o⟩).own p = iT [d] (o p) := fun p hpd => by
  show (bif [d].contains p then none else iT [d] (o p)) = _
  have : [d].contains p = false := by simp; exact hpd
  rw [this]; rfl
 have hm' : (ci [d] ⟨fun _ => .junk, o⟩).own m = some ⟨false, j + 2, e, cs⟩ := by
  rw [kown m h2, hm]
  show some (eA [d] _) = _
  have hl : lnk ⟨false, j + 2, e, cs⟩ = [j] := rfl
  unfold eA
  rw [hl]
  have : ([j].any [d].contains) = false := by simp; exact h3
  rw [this]; rfl
 have hb' : (ci [d] ⟨fun _ => .junk, o⟩).own j = some b := by
  rw [kown j h3, hb]
  show some (eA [d] b) = _
  unfold eA; rw [jr hbv]; rfl
 have hbr := hk.ow j b hb'
 have hw := hk.rename (m := j) (d := d) (v := r j) (b := b) (by rw [hb']; simp) (fO [d] _ d (by simp)) (Nat.le_trans hnp hdp) (fun _ e => e) hbr (fP [d] _ d (by simp)) (jr hbv)
 have hown : upd (upd (ci [d] ⟨fun _ => .junk, o⟩).own j none) d (some b) m = some ⟨false, j + 2, e, cs⟩ := by rw [aF _ _ _ _ h2, aF _ _ _ _ h1]; exact hm'
 obtain ⟨q, t, g1, g2⟩ := hk.lk m _ j hm' (by simp [lnk])
 have hbr2 := hbr
 unfold BlkRep at hbr2
 rw [hbv] at hbr2
 obtain ⟨ad, l, cap, q1, q2, q3, q4, _⟩ := hbr2
 have hl : l = n := Nat.eq_of_mul_eq_mul_right hs0 (q2.trans hn.symm)
 subst hl
 have hw2 := hw.relink (m := m) (z := j + 2) (j := d) (n := l) (e := e) (cs := cs) hown ⟨q, t, by rw [aF _ _ _ _ h2]; exact g1, by rw [upd_same]; exact g2⟩ (by
  rw [upd_same]
  simp only [DReps, DRep]
  exact ⟨⟨_, rfl, ad, cap, q1, q3, q4, .inl trivial⟩, trivial⟩)
 refine ⟨upd r d (r j), fun x hx => aF _ _ _ _ (by omega), hw2.forget hfin, fun x i hx hi => ?_⟩
 have hx2 : upd (upd (upd (ci [d] ⟨fun _ => .junk, o⟩).own j none) d (some b)) m (some ⟨false, d + 2, e, [.sl l []]⟩) x ≠ none := by
  rcases hfin x with g | g
  ·rw [← g]; exact hx
  exact absurd g hx
 by_cases e1 : x = d
 ·subst e1; rw [upd_same] at hi; exact ⟨j, by rw [hb]; simp, hi⟩
 rw [aF _ _ _ _ e1] at hi
 refine ⟨x, ?_, hi⟩
 by_cases e2 : x = m
 ·subst e2; rw [hm]; simp
 rw [aF _ _ _ _ e2, aF _ _ _ _ e1] at hx2
 by_cases e3 : x = j
 ·subst e3; rw [hb]; simp
 rw [aF _ _ _ _ e3, kown x e1] at hx2
 intro e4; rw [e4] at hx2; exact hx2 rfl
end
section
open Go Go.RowKit
section
end
section
end
end
section
open Go Go.RowKit
section
variable (P : Program) (l : Nat) (xs : List (List PV)) (n0 : Nat) (J : Nat → Hp → (Nat → Prop) → World → Prop) (N : Nat)
structure CJ (k : Nat) (G : Nat → Prop) (h : Hp) (r : Nat → Value) (s : St) (a : Act) (w : World) : Prop where
 sz : a.tmps.size = N
 df : a.defers = []
 rg : RegsOK h r s.regs a
 kj : ∃ C : Ctx, WOK C h r s.own w ∧ J k C.h0 G C.w0 ∧ n0 ≤ C.w0.heap.size ∧ (∀ i, C.F i → n0 ≤ i ∧ ¬ G i ∧ C.h0 i = none) ∧ C.np = 0 ∧ C.mar = false
def AJ (c : Code) (Q : Exit → Nat → St → Prop) (k : Nat) (s : St) : Prop :=
 ∀ (h : Hp) (r : Nat → Value) (a : Act) (w : World) (G : Nat → Prop), CJ n0 J N k G h r s a w →
  c.wpIn (Wd none) 0 P (fun e a' w' => ∃ k' s' h' r' G', Q e k' s' ∧ CJ n0 J N k' G' h' r' s' a' w') a w
def RJ (Q : Exit → Nat → St → Prop) (ops : Array Oper) (os : List Oper) (i : Nat) (k : Nat) (s : St) : Prop := ops.toList.drop i = os →
 ∀ (h : Hp) (r : Nat → Value) (a : Act) (w : World) (G : Nat → Prop), CJ n0 J N k G h r s a w →
  wpOpsIn (Wd none) 0 P ops (fun e a' w' => ∃ k' s' h' r' G', Q e k' s' ∧ CJ n0 J N k' G' h' r' s' a' w') (List.range' i os.length) a w
end
def lv (K : Nat → St → Prop) (Q : Exit → Nat → St → Prop) : Exit → Nat → St → Prop
 | .normal, k, s => K k s
 | e, k, s => Q e k s
def JIn (id : Nat) (Q : Exit → Nat → St → Prop) : Exit → Nat → St → Prop
 | .exit id', k, s => bif Nat.beq id' id then Q .normal k s else Q (.exit id') k s
 | e, k, s => Q e k s
section
variable {P : Program} {l : Nat} {xs : List (List PV)} {n0 : Nat} {J : Nat → Hp → (Nat → Prop) → World → Prop} {N : Nat} (hK : Keeps P l xs n0 J)
variable {Q : Exit → Nat → St → Prop} {k : Nat} {s : St}
include hK in
theorem CJ.now {G : Nat → Prop} {h : Hp} {r : Nat → Value} {a : Act} {w : World} (c : CJ n0 J N k G h r s a w) : J k h G w := by
 obtain ⟨C, hw, hj, hs, hF, _⟩ := c.kj
 have hg := hK.g _ _ _ _ hj
 refine hK.rest _ _ _ _ _ _ hj ⟨hw.os, hw.tape, hw.output, hw.size, fun i hi => ?_, hw.hi, hw.hg, fun i hi => ?_⟩
 ·by_cases e : C.F i
  ·exact .inr (hF i e)
  exact .inl (hw.old i hi e)
 rcases hw.hn i hi with g | g | g
 ·exact .inl g
 ·exact .inr ⟨Nat.le_trans hs g, fun x => by have := (hg i x).1; omega⟩
 exact .inr ⟨(hF i g).1, (hF i g).2.1⟩
include hK in
theorem CJ.notG {G : Nat → Prop} {h : Hp} {r : Nat → Value} {a : Act} {w : World} (c : CJ n0 J N k G h r s a w) {m i : Nat} (hm : s.own m ≠ none) (e : aR (r m) = some i) : n0 ≤ i ∧ ¬ G i ∧ i < w.heap.size ∧ h i = none := by
 obtain ⟨C, hw, hj, hs, hF, _⟩ := c.kj
 refine ⟨?_, ?_, hw.lt hm e, hw.ho m i hm e⟩
 ·rcases hw.fo m i hm e with g | g
  ·exact Nat.le_trans hs g
  exact (hF i g).1
 rcases hw.fo m i hm e with g | g
 ·exact fun x => by have := (hK.g _ _ _ _ hj i x).1; omega
 exact (hF i g).2.1
theorem BJ {c : Code} (h : AWp P true N 0 c (fun e s' => Q e k s') s) : AJ P n0 J N c Q k s := by
 intro hh r a w G hc
 obtain ⟨C, hw, hj, hs, hF, hn, hm⟩ := hc.kj
 refine wpIn_mono (h none (fun _ => rfl) C hh r a w ⟨hn, hm⟩ ⟨hc.sz, by rw [hc.df]; trivial, hc.rg, hw⟩) ?_
 rintro e a' w' ⟨s', h', r', q, c'⟩
 refine ⟨k, s', h', r', G, q, c'.sz, ?_, c'.rg, C, c'.wk, hj, hs, hF, hn, hm⟩
 have := c'.df
 cases hd : a'.defers with
 | nil => rfl
 | cons d ds => rw [hd] at this; have h1 := this.1; rw [hm] at h1; cases h1
theorem cB (hP : P.follows .mixedOrders = true) {id : Nat} {ops : Array Oper} {draw : Bool} (h : RK P N 0 ops draw ops.toList (ci (c9 ops.toList) s) [] (Q .normal k)) : AJ P n0 J N (.region id ops draw) Q k s :=
 BJ (au hP h)
theorem db {x y : Code} (h : AJ P n0 J N x (lv (AJ P n0 J N y Q) Q) k s) : AJ P n0 J N (.seq x y) Q k s := by
 intro hh r a w G hc
 refine wpIn_seq (wpIn_mono (h hh r a w G hc) ?_)
 rintro e a' w' ⟨k', s', h', r', G', q, c⟩
 cases e with
 | normal => exact q h' r' a' w' G' c
 | _ => exact ⟨k', s', h', r', G', q, c⟩
theorem fw (h : Q .normal k s) : AJ P n0 J N .skip Q k s := fun hh r _ _ G hc => wpIn_skip ⟨k, s, hh, r, G, h, hc⟩
theorem gQ {id : Nat} (h : Q (.exit id) k s) : AJ P n0 J N (.exit id) Q k s := fun hh r _ _ G hc => wpIn_exit ⟨k, s, hh, r, G, h, hc⟩
theorem fV {id : Nat} {c : Code} (h : AJ P n0 J N c (JIn id Q) k s) : AJ P n0 J N (.block id c) Q k s := by
 intro hh r a w G hc
 refine wpIn_block (wpIn_mono (h hh r a w G hc) ?_)
 rintro e a' w' ⟨k', s', h', r', G', q, c⟩
 cases e with
 | exit id' =>
  simp only [Exit.inBlock]
  simp only [JIn] at q
  by_cases hid : id' = id
  ·subst hid
   rw [if_pos rfl]
   have : Nat.beq id' id' = true := by simp
   rw [this] at q
   exact ⟨k', s', h', r', G', q, c⟩
  rw [if_neg hid]
  have : Nat.beq id' id = false := by
   cases e : Nat.beq id' id with
   | false => rfl
   | true => exact absurd (Nat.eq_of_beq_eq_true e) hid
  rw [this] at q
  exact ⟨k', s', h', r', G', q, c⟩
 | _ => exact ⟨k', s', h', r', G', q, c⟩
theorem CJ.bool {G : Nat → Prop} {h : Hp} {r : Nat → Value} {a : Act} {w : World} (hc : CJ n0 J N k G h r s a w) {c : Operand} {b : Bool} (he : ev s.regs c = .p (.c (.v (.bool b)))) : a.eval c = .bool b := by
 have := dS hc.rg c
 rw [he] at this
 simp only [AVRep, PRep, DRep] at this
 exact this.1
theorem gR {c : Operand} {x y : Code} {b : Bool} (he : ev s.regs c = .p (.c (.v (.bool b)))) (ht : b = true → AJ P n0 J N x Q k s) (hf : b = false → AJ P n0 J N y Q k s) : AJ P n0 J N (.cond c x y) Q k s := by
 intro hh r a w G hc
 have hb := hc.bool he
 cases b with
 | true => exact wpIn_cond_true hb (ht rfl hh r a w G hc)
 | false => exact wpIn_cond_false hb (hf rfl hh r a w G hc)
theorem kN {c : Operand} {x y : Code} {b : Bool} (he : ev s.regs c = .p (.c (.v (.bool b)))) (hb : b = true) (ht : AJ P n0 J N x Q k s) : AJ P n0 J N (.cond c x y) Q k s :=
 gR he (fun _ => ht) (fun h => by rw [hb] at h; cases h)
theorem fe {c : Operand} {x y : Code} {b : Bool} (he : ev s.regs c = .p (.c (.v (.bool b)))) (hb : b = false) (hf : AJ P n0 J N y Q k s) : AJ P n0 J N (.cond c x y) Q k s :=
 gR he (fun h => by rw [hb] at h; cases h) (fun _ => hf)
theorem CJ.le {t : St} (q : Le s t) {G : Nat → Prop} {h : Hp} {r : Nat → Value} {a : Act} {w : World} (c : CJ n0 J N k G h r s a w) : CJ n0 J N k G h r t a w := by
 obtain ⟨C, hw, rest⟩ := c.kj
 exact ⟨c.sz, c.df, fun i => q.regs i h r _ (c.rg i), C, hw.forget q.own, rest⟩
theorem nD {ι : Type} {c : Code} (I : ι → St) (κ : ι → Nat) (F : ι → Prop) (μ : ι → Nat) (i₀ : ι) (h₀ : F i₀) (hk : κ i₀ = k) (hs : Le s (I i₀))
  (round : ∀ i, F i → AJ P n0 J N c (lv (fun k' s' => ∃ j, F j ∧ μ j < μ i ∧ κ j = k' ∧ Le s' (I j)) Q) (κ i) (I i)) : AJ P n0 J N (.loop c) Q k s := by
 intro hh r a w G hc b kk cs hro hfn hroom
 have key : ∀ n i h r a w G, μ i = n → F i → CJ n0 J N (κ i) G h r (I i) a w →
   ∃ e a' w', (∃ k' s' h' r' G', Q e k' s' ∧ CJ n0 J N k' G' h' r' s' a' w') ∧ ArrivesIn (Machine.fenced P (Wd none)) P (lone (b.atR a (.code c :: .inLoop c :: kk)) cs w) b kk cs e a' w' := by
  intro n
  induction n using Nat.strongRecOn with
  | _ n ih =>
   intro i h r a w G hμ hF hc
   obtain ⟨e, a₁, w₁, ⟨k₁, s₁, h₁, r₁, G₁, hq, hc₁⟩, harr⟩ := round i hF h r a w G hc b (.inLoop c :: kk) cs hro hfn hroom
   cases e with
   | normal =>
    obtain ⟨j, hFj, hlt, hκ, hle⟩ := hq
    subst hκ
    obtain ⟨e₂, a₂, w₂, hq₂, harr₂⟩ := ih (μ j) (hμ ▸ hlt) j h₁ r₁ a₁ w₁ G₁ rfl hFj (hc₁.le hle)
    exact ⟨e₂, a₂, w₂, hq₂, .of_steps (StepsIn.trans harr (.one (fenced_calm hfn hroom rfl) stepR_inLoop)) harr₂⟩
   | exit id => exact ⟨_, a₁, w₁, ⟨k₁, s₁, h₁, r₁, G₁, hq, hc₁⟩, .pass (x := .inLoop c) rfl (fun _ _ => .inl (by simp)) harr⟩
   | goto l => exact ⟨_, a₁, w₁, ⟨k₁, s₁, h₁, r₁, G₁, hq, hc₁⟩, .pass (x := .inLoop c) rfl (fun _ _ => .inl (by simp)) harr⟩
   | ret => exact ⟨_, a₁, w₁, ⟨k₁, s₁, h₁, r₁, G₁, hq, hc₁⟩, .pass (x := .inLoop c) rfl (fun _ _ => .inl (by simp)) harr⟩
   | panic ch => exact ⟨_, a₁, w₁, ⟨k₁, s₁, h₁, r₁, G₁, hq, hc₁⟩, .pass (x := .inLoop c) rfl (fun _ _ => .inl (by simp)) harr⟩
   | outgrown => exact ⟨_, a₁, w₁, ⟨k₁, s₁, h₁, r₁, G₁, hq, hc₁⟩, .pass (x := .inLoop c) rfl (fun _ _ => .inl (by simp)) harr⟩
 subst hk
 obtain ⟨e, a', w', hq, harr⟩ := key _ i₀ hh r a w G rfl h₀ (hc.le hs)
 exact ⟨e, a', w', hq, .of_steps (.one (fenced_calm hfn hroom rfl) stepR_loop) harr⟩
section rj
variable {ops : Array Oper} {os : List Oper} {i : Nat} {op : Op} {ty : TypeId} {pos : String} {af : Array Edge} {gd : Option (Nat × Bool)} {t : Nat}
theorem j0 {id : Nat} (h : RJ P n0 J N Q ops ops.toList 0 k s) : AJ P n0 J N (.region id ops false) Q k s := by
 intro hh r a w G hc
 apply wpIn_region
 rw [List.range_eq_range']
 exact h rfl hh r a w G hc
theorem RJ.done (h : Q .normal k s) : RJ P n0 J N Q ops [] i k s := fun _ hh r _ _ G hc => ⟨k, s, hh, r, G, h, hc⟩
theorem gr {o : Oper} (h : ops.toList.drop i = o :: os) : ops[i]? = some o ∧ ops.toList.drop (i + 1) = os := by
 have h1 : (ops.toList.drop i)[0]? = some o := by rw [h]; rfl
 rw [List.getElem?_drop] at h1
 refine ⟨by rw [← Array.getElem?_toList]; simpa using h1, ?_⟩
 rw [← List.tail_drop, h]; rfl
theorem ei {o : Oper} {b : Bool} {h : Hp} {r : Nat → Value} {a : Act} (hc : RegsOK h r s.regs a) (hG : cy ops o s.regs b) : Region.wanted o (yielded ops a.tmps) = b := by
 unfold cy at hG
 cases hg : o.guard with
 | none =>
  rw [hg] at hG
  unfold Region.wanted
  rw [hg, hG]
 | some x =>
  obtain ⟨j, want⟩ := x
  rw [hg] at hG
  obtain ⟨t, g1, hG⟩ := hG
  rcases hG with ⟨c, g2, g3⟩ | ⟨g2, g3⟩
  ·have := l4 hc g1 g2
   unfold Region.wanted
   rw [hg]
   simp only [this]
   rw [← g3]
   cases c <;> cases want <;> rfl
  have := kb hc g1 g2
  unfold Region.wanted
  rw [hg]
  simp only [this]
  rw [g3]
  cases want <;> rfl
theorem CJ.put {G : Nat → Prop} {h h' : Hp} {r r' : Nat → Value} {a : Act} {w w' : World} {C : Ctx} {v : AV} {x : Value} (hc : CJ n0 J N k G h r s a w) (hle : Hle h h') (hr : ∀ m, r' m = r m) (ht : t < N) (hv : AVRep h' r' v x)
  (q : WOK C h' r' s.own w') (hj : J k C.h0 G C.w0) (hs : n0 ≤ C.w0.heap.size) (hF : ∀ i, C.F i → n0 ≤ i ∧ ¬ G i ∧ C.h0 i = none) (hn : C.np = 0) (hm : C.mar = false) : CJ n0 J N k G h' r' ⟨upd s.regs t v, s.own⟩ (a.put (some t) x) w' :=
 ⟨by simp [Act.put, hc.sz], by simpa [Act.put] using hc.df, (show RegsOK h' r' s.regs a from fun u => AVRep.rebind _ _ (fun m _ => hr m) (AVRep.mono hle _ _ (hc.rg u))).put (dst := some t) (fun d e => by cases e; rw [hc.sz]; exact ht) hv, C, q, hj, hs, hF, hn, hm⟩
theorem RJ.val {v : AV} {rd : List Nat} (hg : cy ops ⟨some t, op, ty, pos, af, gd⟩ s.regs true) (he : Eff P ⟨some t, op, ty, pos, af, gd⟩ t (ev s.regs) s.own v [] none rd)
  (hr : RJ P n0 J N Q ops os (i + 1) k ⟨upd s.regs t v, s.own⟩) (hN : (Nat.blt t N && jq ⟨some t, op, ty, pos, af, gd⟩) = true := by rfl) : RJ P n0 J N Q ops (⟨some t, op, ty, pos, af, gd⟩ :: os) i k s := by
 intro hd hh r a w G hc
 obtain ⟨h1, h2⟩ := gr hd
 rw [Bool.and_eq_true, Nat.blt_eq] at hN
 rw [List.length_cons, List.range'_succ, wpOpsIn_cons]
 unfold wpOpIn
 simp only [h1]
 rw [ei hc.rg hg, if_pos rfl]
 obtain ⟨C, hw, hj, hs, hF, hn, hm⟩ := hc.kj
 refine jB (jJ hN.2) ?_
 refine he C hh r s.own a w _ _ (fun x _ => dS hc.rg x) (fun _ _ => rfl) hw (fun e => absurd rfl e) ?_
 intro x h' r' w' hle hrr hv hw'
 exact ⟨hr h2 h' r' _ w' G (hc.put hle (fun m => hrr m (fun e => absurd rfl e)) hN.1 hv hw' hj hs hF hn hm), rfl⟩
theorem jF {h : Hp} {r : Nat → Value} : ∀ {x : List PV} {vs : List Value}, RepArgs h r (x.map .p) vs → PReps h x vs
 | [], [], _ => trivial
 | _ :: _, _ :: _, k => ⟨k.1, jF k.2⟩
 | [], _ :: _, k => k.elim
 | _ :: _, [], k => k.elim
theorem RJ.yield (hK : Keeps P l xs n0 J) {c : Operand} {args : Array Operand} {tys : Array TypeId} {x : List PV} (hg : cy ops ⟨some t, .call ⟨.value c, args, tys⟩, ty, pos, af, gd⟩ s.regs true)
  (hy : ev s.regs c = .p (.c (.v (.func (.yield l) #[] #[])))) (ha : args.toList.map (ev s.regs) = x.map .p) (hx : xs[k]? = some x)
  (hr : RJ P n0 J N Q ops os (i + 1) (k + 1) ⟨upd s.regs t (.p (.c (.v (.bool true)))), s.own⟩) (hN : Nat.blt t N = true := by rfl) : RJ P n0 J N Q ops (⟨some t, .call ⟨.value c, args, tys⟩, ty, pos, af, gd⟩ :: os) i k s := by
 intro hd hh r a w G hc
 obtain ⟨h1, h2⟩ := gr hd
 rw [Nat.blt_eq] at hN
 rw [List.length_cons, List.range'_succ, wpOpsIn_cons]
 unfold wpOpIn
 simp only [h1]
 rw [ei hc.rg hg, if_pos rfl]
 have hyv : a.eval c = .func (.yield l) #[] #[] := by
  have := dS hc.rg c
  rw [hy] at this
  simp only [AVRep, PRep, DRep] at this
  exact this.1
 have hra : RepArgs hh r (x.map .p) (args.map a.eval).toList := by
  rw [← ha, Array.toList_map]
  exact dP _ fun x _ => dS hc.rg x
 obtain ⟨fn, tmps, assign, body, hrun, hR⟩ := hK.give k hh G w x _ hx (hc.now hK) (jF hra)
 refine ⟨fun _ _ => trivial, ?_⟩
 rw [Oper.semAt_eq _ _ _ (fun c' e => by cases e)]
 have hex : (execOp a.eval ⟨some t, .call ⟨.value c, args, tys⟩, ty, pos, af, gd⟩).run P w = .ok (.round l fn tmps assign body) w := by
  simp only [execOp, resolve, Sem.run_bind, hyv, Deferred.ofValue, Sem.run_pure, Result.andThen_ok, invoke, Array.empty_append]
  have e : (args.map a.eval).toList.toArray = args.map a.eval := Array.toArray_toList
  rw [← e]; exact hrun
 rw [hex]
 refine ⟨fun e => by simp [Wd] at e, RoundIn.mono hR ?_⟩
 rintro e w' ⟨rfl, h', G', hj, q⟩
 have hC := hc.kj
 obtain ⟨C, hw, hj0, hs, hF, hn, hm⟩ := hC
 have same : ∀ m i, s.own m ≠ none → aR (r m) = some i → w'.heap[i]? = w.heap[i]? := fun m i hm e => by
  have := hc.notG hK hm e
  exact q.old i this.2.2.1 this.2.1
 have hw' : WOK ⟨w', h', fun i => ∃ m, s.own m ≠ none ∧ aR (r m) = some i, r, 0, false⟩ h' r s.own w' := by
  refine ⟨fun m b e => ((hw.ow m b e).mono q.hg).world fun i hi => same m i (by rw [e]; simp) hi, hw.inj, hK.hi _ _ _ _ hj, fun m i hm e => ?_, rfl, rfl, .refl _, Nat.le_refl _, fun _ _ _ => rfl, fun m i hm e => .inr ⟨m, hm, e⟩, .refl _, fun _ e => .inl e, hw.gl.mono q.hg, fun _ _ => rfl, fun m b j e hj' => ?_⟩
  ·have hg := hc.notG hK hm e
   cases hh' : h' i with
   | none => rfl
   | some o =>
    rcases q.hn i (by rw [hh']; simp) with g | g | g
    ·exact absurd hg.2.2.2 g
    ·omega
    exact absurd g hg.2.1
  obtain ⟨q1, t', e1, e2⟩ := hw.lk m b j e hj'
  exact ⟨q1, t', e1, by rw [same m q1 (by rw [e]; simp) (by rw [e1]; rfl)]; exact e2⟩
 have n1 : n0 ≤ w'.heap.size := Nat.le_trans (Nat.le_trans hs hw.size) q.size
 refine hr h2 h' r _ w' G' ⟨by simp [Act.put, hc.sz], by simpa [Act.put] using hc.df, (show RegsOK h' r s.regs a from fun u => AVRep.mono q.hg _ _ (hc.rg u)).put (dst := some t) (v := .p (.c (.v (.bool true)))) (x := .bool true) (fun d e => by cases e; rw [hc.sz]; exact hN) ⟨rfl, rfl⟩, _, hw', hj, n1, ?_, rfl, rfl⟩
 rintro i ⟨m, hm, e⟩
 have hg := hc.notG hK hm e
 refine ⟨hg.1, fun x => ?_, ?_⟩
 ·rcases q.gg i x with g | g
  ·exact hg.2.1 g
  omega
 exact hw'.ho m i hm e
end rj
end
theorem sf {P : Program} {f : FuncId} {fn : Func} {c : Code} {N : Nat} {caps : List (List DV)} {xs : List (List PV)} (hf : P.funcs[f]? = some fn) (hnm : (fn.name == "runtime.NumGoroutine") = false) (hb : fn.body = some c) (hN : fn.ntmps = N) (hna : caps.length + 1 ≤ N) (hres : fn.results = #[])
  (h : ∀ l n0 J, Keeps P l xs n0 J → AJ P n0 J N c (fun e k _ => (e = .normal ∨ e = .ret) ∧ k = xs.length) 0 ⟨fun t => ((.p (.c (.v (.func (.yield l) #[] #[]))) :: caps.map .ip : List AV)).getD t .junk, O⟩) : Iter P f caps xs := by
 refine ⟨⟨fn, hf, hnm, by rw [hb]; rfl⟩, ?_⟩
 intro l lb J hh G W hcaps hgl hK h0
 refine callsIn_of_wp hf hb trivial ?_
 have hcl : ∀ (cs : List (List DV)) (xs : List Value), CapsRep hh cs xs → xs.length = cs.length := by
  intro cs
  induction cs with
  | nil => intro xs k; cases xs with
   | nil => rfl
   | cons _ _ => exact k.elim
  | cons p ps ih => intro xs k; cases xs with
   | nil => exact k.elim
   | cons x xs => simp [ih xs k.2]
 have hlen : lb.size = caps.length := by simpa using hcl _ _ hcaps
 have hget : ∀ (cs : List (List DV)) (xs : List Value), CapsRep hh cs xs → ∀ (t : Nat) (x : List DV), cs[t]? = some x → ∃ y, xs[t]? = some y ∧ IpRep hh x y := by
  intro cs
  induction cs with
  | nil => intro xs _ t x h; simp at h
  | cons p ps ih => intro xs h t x hx; cases xs with
   | nil => exact h.elim
   | cons y ys => cases t with
    | zero => simp at hx; subst hx; exact ⟨y, rfl, h.1⟩
    | succ t => exact ih ys h.2 t x (by simpa using hx)
 refine wpIn_mono (h l W.heap.size J hK hh (fun _ => .bool false) _ W G ⟨?_, rfl, ?_, (⟨W, hh, fun _ => False, fun _ => .bool false, 0, false⟩ : Ctx), ?_, h0, Nat.le_refl _, fun _ e => e.elim, rfl, rfl⟩) ?_
 ·simp [hN, hlen]; omega
 ·intro t
  show AVRep hh _ (((.p (.c (.v (.func (.yield l) #[] #[]))) :: caps.map .ip : List AV)).getD t .junk) _
  rw [List.getD_eq_getElem?_getD]
  cases t with
  | zero =>
   simp only [List.getElem?_cons_zero, Option.getD_some]
   have e0 : (#[.func (.yield l) #[] #[]] ++ lb ++ Array.replicate (fn.ntmps - (#[.func (.yield l) #[] #[]] ++ lb : Array Value).size) undef : Array Value).getD 0 undef = .func (.yield l) #[] #[] := by
    rw [Array.getD_eq_getD_getElem?, Array.getElem?_append_left (by simp; omega), Array.getElem?_append_left (by simp)]; rfl
   show AVRep hh _ (.p (.c (.v (.func (.yield l) #[] #[])))) (Array.getD _ 0 undef)
   rw [e0]
   simp only [AVRep, PRep, DRep, true_and]; rfl
  | succ t =>
   rw [List.getElem?_cons_succ, List.getElem?_map]
   cases ht : caps[t]? with
   | none => exact trivial
   | some x =>
    obtain ⟨y, g1, g2⟩ := hget _ _ hcaps t x ht
    have g1' : lb[t]? = some y := by rw [← Array.getElem?_toList]; exact g1
    have hlt : t < lb.size := (Array.getElem?_eq_some_iff.1 g1').1
    simp only [Option.map_some, Option.getD_some, Array.getD_eq_getD_getElem?]
    rw [Array.getElem?_append_left (by simp; omega), Array.getElem?_append_right (by simp)]
    simp only [List.size_toArray, List.length_cons, List.length_nil, Nat.zero_add, Nat.add_sub_cancel, g1', Option.getD_some]
    exact g2
 ·exact ⟨fun m b e => (by cases e), fun m n k e => absurd rfl e, hK.hi _ _ _ _ h0, fun m k e => absurd rfl e, rfl, rfl, .refl _, Nat.le_refl _, fun _ _ _ => rfl, fun m k e => absurd rfl e, Hle.refl _, fun k e => Or.inl e, hgl, fun _ _ => rfl, fun m b j e => (by cases e)⟩
 rintro e a' w' ⟨k', s', h', r', G', ⟨he, rfl⟩, c'⟩
 have hr : (results fn a'.tmps).run P w' = .ok (.tuple #[]) w' := by rw [eK, hres]; simp
 have fin : ∀ e', (e' = Exit.normal ∨ e' = Exit.ret) → bodyPost P fn (fun e W' => (∃ v, e = .returned v) ∧ ∃ h' G', J xs.length h' G' W') e' a' w' := by
  rintro e' (rfl | rfl) <;> exact ⟨c'.df, _, hr, ⟨_, rfl⟩, h', G', c'.now hK⟩
 exact fin e he
end
section
open Go Go.RowKit
structure Tr where
 a : Int
 b : Int
 c : Int
 deriving DecidableEq
def okT (n a b : Int) : Bool := decide ((b * b + n) % (4 * a) = 0) && (decide (a ≤ (b * b + n) / (4 * a)) && !(decide (b < 0) && decide (a = (b * b + n) / (4 * a))))
def dO (n a : Int) : Nat → Int → List Tr
 | 0, _ => []
 | k + 1, b => (if okT n a b then [⟨a, b, (b * b + n) / (4 * a)⟩] else []) ++ dO n a k (b + 1)
def dG (n : Int) : Nat → Int → List Tr
 | 0, _ => []
 | k + 1, a => if 3 * a * a ≤ n then dO n a (2 * a).toNat (1 - a) ++ dG n k (a + 1) else []
def trs (n : Int) : List Tr := dG n 2000 1
def TP (t : Tr) : List DV := [.v (.int .i64 t.a), .v (.int .i64 t.b), .v (.int .i64 t.c)]
def trI (n : Int) : List (List PV) := (trs n).map fun t => [.a (TP t)]
theorem y5 {a N : Int} (_h1 : 1 ≤ a) (h : 3 * a * a ≤ N) (hN : N ≤ 4194304) : a ≤ 1183 := by
 rcases Int.lt_or_le 1183 a with h2 | h2
 ·have h3 : (1184 : Int) * 1184 ≤ a * a := Int.mul_le_mul (by omega) (by omega) (by omega) (by omega)
  have e : 3 * a * a = 3 * (a * a) := Int.mul_assoc ..
  omega
 exact h2
theorem Gp {a : Int} (h1 : 1 ≤ a ∧ a ≤ 1184) : 0 ≤ 3 * a * a ∧ 3 * a * a ≤ 4205568 := by
 have := ki (x := a) (m := 1184) (by omega)
 have e : 3 * a * a = 3 * (a * a) := Int.mul_assoc ..
 omega
theorem Ha {x y : Int} (hx : 0 ≤ x ∧ x ≤ 6000000) (hy : 1 ≤ y) : 0 ≤ x / y ∧ x / y ≤ 6000000 := ⟨Int.ediv_nonneg hx.1 (by omega), Int.le_trans (Int.ediv_le_self _ hx.1) hx.2⟩
section
variable {n a b : Int} {k : Nat} {r : List Tr}
theorem wy (n : Int) : (trs n).drop 0 = dG n (2001 - (1 : Int)).toNat 1 := rfl
theorem EI (h : (trs n).drop k = dG n (2001 - a).toNat a) (ha : 1 ≤ a ∧ a ≤ 1184) (hc : 3 * a * a ≤ n) : (trs n).drop k = dO n a (a + 1 - (1 - a)).toNat (1 - a) ++ dG n (2000 - a).toNat (a + 1) := by
 have e : (2001 - a).toNat = (2000 - a).toNat + 1 := by omega
 rw [h, e, dG, if_pos hc, show (2 * a).toNat = (a + 1 - (1 - a)).toNat by congr 1; omega]
theorem sO (h : (trs n).drop k = dO n a (a + 1 - b).toNat b ++ r) (hb : b ≤ a) (hk : okT n a b = false) : (trs n).drop k = dO n a (a + 1 - (b + 1)).toNat (b + 1) ++ r := by
 have e : (a + 1 - b).toNat = (a + 1 - (b + 1)).toNat + 1 := by omega
 rw [h, e, dO, hk]; rfl
theorem tZ (h : (trs n).drop k = dO n a (a + 1 - b).toNat b ++ r) (hb : b ≤ a) (hk : okT n a b = true) : (trs n).drop k = ⟨a, b, (b * b + n) / (4 * a)⟩ :: (dO n a (a + 1 - (b + 1)).toNat (b + 1) ++ r) := by
 have e : (a + 1 - b).toNat = (a + 1 - (b + 1)).toNat + 1 := by omega
 rw [h, e, dO, hk]; rfl
theorem ua {t : Tr} (h : (trs n).drop k = t :: r) : (trI n)[k]? = some [.a (TP t)] := by
 have h1 : ((trs n).drop k)[0]? = some t := by rw [h]; rfl
 rw [List.getElem?_drop] at h1
 unfold trI
 rw [List.getElem?_map, show (trs n)[k]? = some t by simpa using h1]; rfl
theorem rp {t : Tr} (h : (trs n).drop k = t :: r) : (trs n).drop (k + 1) = r := by
 rw [← List.tail_drop, h]; rfl
theorem CA (h : (trs n).drop k = dO n a (a + 1 - b).toNat b ++ dG n (2000 - a).toNat (a + 1)) (hb : ¬ b ≤ a) : (trs n).drop k = dG n (2001 - (a + 1)).toNat (a + 1) := by
 have e : (a + 1 - b).toNat = 0 := by omega
 have e2 : (2001 - (a + 1)).toNat = (2000 - a).toNat := by omega
 rw [h, e, e2]; rfl
theorem CC (h : (trs n).drop k = dG n (2001 - a).toNat a) (hc : ¬ 3 * a * a ≤ n) (hk : k ≤ (trs n).length) : k = (trI n).length := by
 have h0 : (trs n).drop k = [] := by
  rw [h]
  cases (2001 - a).toNat with
  | zero => rfl
  | succ k => rw [dG, if_neg hc]
 have := congrArg List.length h0
 rw [List.length_drop] at this
 unfold trI
 simp at this ⊢
 omega
theorem yE {t : Tr} (h : (trs n).drop k = t :: r) : k + 1 ≤ (trs n).length := by
 have := congrArg List.length h
 rw [List.length_drop, List.length_cons] at this
 omega
theorem FD (h : (b * b + n) % (4 * a) ≠ 0) : okT n a b = false := by unfold okT; rw [decide_eq_false h]; rfl
theorem Fz (h : (b * b + n) % (4 * a) = 0) (h1 : (b * b + n) / (4 * a) < a) : okT n a b = false := by unfold okT; rw [decide_eq_true h, decide_eq_false (by omega)]; rfl
theorem Fy (h : (b * b + n) % (4 * a) = 0) (_h1 : ¬ (b * b + n) / (4 * a) < a) (h2 : b < 0) (h3 : a = (b * b + n) / (4 * a)) : okT n a b = false := by
 unfold okT; rw [decide_eq_true h, decide_eq_true (by omega), decide_eq_true h2, decide_eq_true h3]; rfl
theorem Fx (h : (b * b + n) % (4 * a) = 0) (h1 : ¬ (b * b + n) / (4 * a) < a) (h3 : ¬ a = (b * b + n) / (4 * a)) : okT n a b = true := by
 unfold okT; rw [decide_eq_true h, decide_eq_true (by omega), decide_eq_false h3, Bool.and_false]; rfl
theorem Fw (h : (b * b + n) % (4 * a) = 0) (h1 : ¬ (b * b + n) / (4 * a) < a) (h2 : ¬ b < 0) : okT n a b = true := by
 unfold okT; rw [decide_eq_true h, decide_eq_true (by omega), decide_eq_false h2]; rfl
end
end
section
open Go Go.RowKit
theorem wl_zero_iff {x : Int} : ((wl x.natAbs).length : Int) = 0 ↔ x = 0 := wl_len_zero
theorem rb {m : Nat} (h : 0 < (wl m).length) : (wl m).getD 0 0 = m % 4294967296 := by
 have hm : 0 < m := by
  rcases Nat.eq_zero_or_pos m with e | e
  ·subst e; simp [q9] at h
  exact e
 rw [tW hm]; rfl
def cH (x : Int) : Bool := decide (x % 2 = 1)
theorem Dl {x : Int} (h : ¬ ((wl x.natAbs).length : Int) > 0) : false = cH x := by
 have h1 : ((wl x.natAbs).length : Int) = 0 := by omega
 have h2 := wl_zero_iff.1 h1
 subst h2; rfl
theorem AG {x : Int} (h : ((wl x.natAbs).length : Int) > 0) : ((((wl x.natAbs).getD 0 0 &&& 1 : Nat) : Int) == 1) = cH x := by
 rw [rb (by omega), Nat.and_one_is_mod]
 unfold cH
 rw [Bool.eq_iff_iff, beq_iff_eq, decide_eq_true_iff]
 omega
theorem xi {x m : Int} (h : ((wl x.natAbs).length : Int) = 0) : 0 = x % m := by rw [wl_zero_iff.1 h]; simp
theorem AZ {x m : Int} (hm : m = 4 ∨ m = 8) (h : ¬ ((wl x.natAbs).length : Int) = 0) : ((wl x.natAbs).getD 0 0 : Int) % m = (x.natAbs : Int) % m := by
 rw [rb (by omega)]
 rcases hm with rfl | rfl <;> omega
theorem AY {x m : Int} (hm : m = 4 ∨ m = 8) (h : x < 0) (h2 : (x.natAbs : Int) % m > 0) : m - (x.natAbs : Int) % m = x % m := by
 rcases hm with rfl | rfl <;> omega
theorem xj {x m : Int} (hm : m = 4 ∨ m = 8) (h : x < 0) (h2 : ¬ (x.natAbs : Int) % m > 0) : (x.natAbs : Int) % m = x % m := by
 rcases hm with rfl | rfl <;> omega
theorem AX {x m : Int} (h : ¬ x < 0) : (x.natAbs : Int) % m = x % m := by
 rw [show (x.natAbs : Int) = x by omega]
def twG : Nat → Int → Int × Int
 | 0, a => (a, 0)
 | f + 1, a => if cH a then (a, 0) else ((twG f (a / 2)).1, (twG f (a / 2)).2 + 1)
def tw (a : Int) : Int × Int := twG a.natAbs a
theorem oV : ∀ (f : Nat) (a : Int), a ≠ 0 → a.natAbs ≤ f → twG (f + 1) a = twG f a
 | 0, a, h0, h => by omega
 | f + 1, a, h0, h => by
  have e1 : twG (f + 1 + 1) a = if cH a then (a, 0) else ((twG (f + 1) (a / 2)).1, (twG (f + 1) (a / 2)).2 + 1) := rfl
  have e2 : twG (f + 1) a = if cH a then (a, 0) else ((twG f (a / 2)).1, (twG f (a / 2)).2 + 1) := rfl
  rw [e1, e2]
  split
  ·rfl
  next hp =>
  have h2 : a % 2 = 0 := by
   have : ¬ a % 2 = 1 := fun e => hp (by unfold cH; rw [e]; rfl)
   omega
  rw [oV f (a / 2) (by omega) (by omega)]
theorem zV {f : Nat} {a : Int} (h0 : a ≠ 0) (h : a.natAbs ≤ f) : twG f a = tw a := by
 unfold tw
 induction f with
 | zero => omega
 | succ f ih =>
  rcases Nat.lt_or_ge f a.natAbs with h1 | h1
  ·have : a.natAbs = f + 1 := by omega
   rw [this]
  rw [oV f a h0 h1]; exact ih h1
theorem gU {a : Int} (h : cH a = true) : tw a = (a, 0) := by
 unfold tw
 cases a.natAbs with
 | zero => rfl
 | succ n => rw [twG, if_pos h]
theorem ji {a : Int} (h0 : a ≠ 0) (h : cH a = false) : tw a = ((tw (a / 2)).1, (tw (a / 2)).2 + 1) := by
 have h2 : a % 2 = 0 := by
  have : ¬ a % 2 = 1 := fun e => by unfold cH at h; rw [e] at h; cases h
  omega
 have h3 : a.natAbs = (a.natAbs - 1) + 1 := by omega
 have h4 : tw a = twG ((a.natAbs - 1) + 1) a := by unfold tw; rw [← h3]
 rw [h4, twG, if_neg (by rw [h]; simp), zV (a := a / 2) (f := a.natAbs - 1) (by omega) (by omega)]
theorem zU {a0 b : Int} {k : Int} (h0 : b ≠ 0) (ho : cH b = false) (h : tw a0 = ((tw b).1, (tw b).2 + k)) : tw a0 = ((tw (b / 2)).1, (tw (b / 2)).2 + (k + 1)) := by
 rw [h, ji h0 ho]
 simp only [Prod.mk.injEq, true_and]
 omega
theorem zT {a0 b : Int} {k : Int} (ho : cH b = true) (h : tw a0 = ((tw b).1, (tw b).2 + k)) : tw a0 = (b, k) := by
 rw [h, gU ho]; simp
theorem eR : ∀ (n : Nat) (a : Int), a.natAbs ≤ n → a ≠ 0 → (tw a).1.natAbs ≤ a.natAbs ∧ (tw a).1 ≠ 0 ∧ cH (tw a).1 = true ∧ 0 ≤ (tw a).2 ∧ (tw a).2 ≤ a.natAbs ∧ (0 < a → 0 < (tw a).1)
 | 0, a, h, h0 => by omega
 | n + 1, a, h, h0 => by
  cases ho : cH a with
  | true => rw [gU ho]; exact ⟨Nat.le_refl _, h0, ho, by simp only; omega, by simp only; omega, fun h => h⟩
  | false =>
   have h2 : a % 2 = 0 := by
    have : ¬ a % 2 = 1 := fun e => by unfold cH at ho; rw [e] at ho; cases ho
    omega
   obtain ⟨i1, i2, i3, i4, i5, i6⟩ := eR n (a / 2) (by omega) (by omega)
   rw [ji h0 ho]
   exact ⟨by simp only; omega, i2, i3, by simp only; omega, by simp only; omega, fun hp => i6 (by omega)⟩
def sg8 (a : Int) : Int := if a % 8 = 1 then 1 else if a % 8 = 3 then -1 else if a % 8 = 5 then -1 else if a % 8 = 7 then 1 else 0
def jO : Nat → Int → Int → Int → Int × Int
 | 0, k, _, n => (k, n)
 | f + 1, k, a, n => if 0 < a then
   let k1 := if (tw a).2 % 2 = 1 then k * sg8 n else k
   let k2 := if (tw a).1 % 4 = 3 ∧ n % 4 = 3 then -k1 else k1
   jO f k2 (n % (tw a).1) (tw a).1
  else (k, n)
def kr (a n : Int) : Int :=
 if n = 0 then (if (a.natAbs : Int) = 1 then 1 else 0)
 else if cH a = false ∧ cH n = false then 0
 else
  let k0 : Int := if n < 0 ∧ a < 0 then -1 else 1
  let n1 : Int := n.natAbs
  let k1 := if (tw n1).2 % 2 = 1 then k0 * sg8 a else k0
  let r := jO (a % (tw n1).1).natAbs.succ k1 (a % (tw n1).1) (tw n1).1
  if r.2 = 1 then r.1 else 0
end
section
open Go Go.RowKit
theorem xv {a b : Int} (hb : b ≠ 0) (_ha : -9223372036854775807 ≤ a ∧ a ≤ 9223372036854775807) (hb2 : -9223372036854775807 ≤ b ∧ b ≤ 9223372036854775807) :
  Int.gcd b (a.tmod b) = Int.gcd a b ∧ (-9223372036854775807 ≤ a.tmod b ∧ a.tmod b ≤ 9223372036854775807) ∧ (a.tmod b).natAbs < b.natAbs := by
 have h1 : (a.tmod b).natAbs = a.natAbs % b.natAbs := Int.natAbs_tmod a b
 have h2 : a.natAbs % b.natAbs < b.natAbs := Nat.mod_lt _ (by omega)
 refine ⟨?_, ?_, by omega⟩
 ·unfold Int.gcd
  rw [h1, Nat.gcd_comm b.natAbs, ← Nat.gcd_rec, Nat.gcd_comm]
 omega
theorem Bf {a b x y : Int} (hb : b = 0) (h : Int.gcd a b = Int.gcd x y) : (if 0 - a > a then 0 - a else a) = ((Int.gcd x y : Nat) : Int) := by
 subst hb
 rw [← h]
 unfold Int.gcd
 simp only [Int.natAbs_zero, Nat.gcd_zero_right]
 split <;> omega
def isD (x : Int) : Bool := decide (0 < x) && (decide (x % 4 = 0) || decide (x % 4 = 3))
section
end
end
end Go.AM
