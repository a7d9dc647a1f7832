/- Texts merged by program, in build order. -/
import Derived.Test.YtmoaoiakmmbpoaaGreatDoorHFA
import Derived.Laws.IdiomRangeMap
import Derived.Maps.RangeRun
import Derived.RangeFuncSeq
import Derived.RangeFuncRecord
import Derived.RangeFuncIn
import Derived.Laws.Externs
import Derived.Shelf.SlMaps.Clone
import Derived.Shelf.SlSortCmp.NoneTotal
import Derived.Laws.Strings
import Derived.Laws.IdiomStrings
section
/- min, max; short names of results; facts for package integer. -/
namespace Go.AM
open Go Go.RowKit
section ops
end ops
def InI64 (n : Int) : Prop := -9223372036854775808 ≤ n ∧ n < 9223372036854775808
instance {n : Int} : Decidable (InI64 n) := inferInstanceAs (Decidable (_ ∧ _))
end Go.AM
end

section
/- The integer root by Newton's steps. -/
namespace Go.AM
open Go Go.RowKit
end Go.AM
end

section
/- Binary quadratic forms: what the functions compute. -/
namespace Go.AM
open Go Go.RowKit
end Go.AM
end

section
/- Reduced forms: the test's cases. -/
namespace Go.AM
open Go Go.RowKit
section
end
end Go.AM
end

section
/- Reduction of forms. -/
namespace Go.AM
open Go Go.RowKit
end Go.AM
end

section
/- Sizes in a reduction; contracts under other names. -/
namespace Go.AM
open Go Go.RowKit
section
end
def renV (σ : Nat → Nat) : AV → AV
  | .loc m o => .loc (σ m) o
  | .vec m => .vec (σ m)
  | .fnl f m => .fnl f (σ m)
  | .it m => .it (σ m)
  | .axm R m => .axm R (σ m)
  | v => v
theorem renV_rep {h : Hp} {r : Nat → Value} {σ : Nat → Nat} : ∀ (v : AV) (x : Value), AVRep h r (renV σ v) x → AVRep h (fun n => r (σ n)) v x
  | .p _, _, k => k
  | .t _, _, k => k
  | .loc _ _, _, k => k
  | .vec _, _, k => k
  | .ip _, _, k => k
  | .fn _ _, _, k => k
  | .fnl _ _, _, k => k
  | .it _, _, k => k
  | .axm _ _, _, k => k
  | .ax _, _, k => k
  | .junk, _, k => k
theorem CallM.ren {P : Program} {f : FuncId} {args args2 : List AV} {o o2 o' o2' : Own} {res : AV} (hc : CallM P f args o res o') (σ : Nat → Nat) (hres : men res = [])
    (ha : args2 = args.map (renV σ)) (hinj : ∀ m n, o m ≠ none → o n ≠ none → σ m = σ n → m = n)
    (h1 : ∀ m, o m ≠ none → o2 (σ m) = o m) (_h2 : ∀ n, o2 n ≠ none → ∃ m, o m ≠ none ∧ σ m = n)
    (h3 : ∀ m, o m ≠ none → o2' (σ m) = o' m) (h4 : ∀ n, o2' n ≠ none → ∃ m, o m ≠ none ∧ σ m = n) : CallM P f args2 o2 res o2' := by
  refine ⟨hc.fn, ?_⟩
  intro h r w cargs hra hbf
  have hra' : RepArgs h (fun n => r (σ n)) args cargs.toList := by
    rw [ha] at hra
    have : ∀ (as0 : List AV) (xs : List Value), RepArgs h r (as0.map (renV σ)) xs → RepArgs h (fun n => r (σ n)) as0 xs := by
      intro as0
      induction as0 with
      | nil => intro xs k; cases xs <;> exact k
      | cons p ps ih => intro xs k; cases xs with
        | nil => exact k.elim
        | cons x xs => exact ⟨renV_rep _ _ k.1, ih xs k.2⟩
    exact this _ _ hra
  have e2 : ∀ m, o m ≠ none → o2 (σ m) ≠ none := fun m hm => by rw [h1 m hm]; exact hm
  refine Calls.mono (hc.go h (fun n => r (σ n)) w cargs hra' ⟨fun m b hb => hbf.ow (σ m) b (by rw [h1 m (by rw [hb]; simp)]; exact hb), fun m n k hm hn e f => hinj m n hm hn (hbf.inj _ _ k (e2 m hm) (e2 n hn) e f), hbf.hi, fun m k hm e => hbf.ho _ k (e2 m hm) e, hbf.gl⟩) ?_
  rintro e w' ⟨v, h', rfl, hv, q⟩
  refine ⟨v, h', rfl, AVRep.rebind _ _ (fun m hm => by rw [hres] at hm; simp at hm) hv, ?_⟩
  refine ⟨fun n b hb => ?_, fun n hn => ?_, q.hi, fun n k hn e => ?_, q.os, q.tape, q.output, q.size, fun k hk hno => q.old k hk ?_, q.hg, fun k hk => ?_⟩
  · obtain ⟨m, hm, rfl⟩ := h4 n (by rw [hb]; simp)
    exact q.ow m b (by rw [← h3 m hm]; exact hb)
  · obtain ⟨m, hm, rfl⟩ := h4 n hn
    exact e2 m hm
  · obtain ⟨m, hm, rfl⟩ := h4 n hn
    exact q.ho m k (by rw [← h3 m hm]; exact hn) e
  · rintro ⟨m, hm, e⟩
    exact hno ⟨σ m, e2 m hm, e⟩
  · rcases q.hn k hk with g | g | ⟨m, hm, e⟩
    · exact .inl g
    · exact .inr (.inl g)
    · exact .inr (.inr ⟨σ m, e2 m hm, e⟩)
/-- one owned block: its name is free -/
theorem CallM.ren1 {P : Program} {f : FuncId} {args args2 : List AV} {b b' : Blk} {res : AV} (m : Nat) (hc : CallM P f args (upd O 0 (some b)) res (upd O 0 (some b'))) (hres : men res = []) (ha : args2 = args.map (renV fun _ => m)) :
    CallM P f args2 (upd O m (some b)) res (upd O m (some b')) := by
  have z : ∀ (b : Blk) (k n : Nat), upd O k (some b) n ≠ none → n = k := fun b k n hn => by
    by_cases e : n = k
    · exact e
    · rw [upd_ne _ _ _ _ e] at hn; exact absurd rfl hn
  refine hc.ren (fun _ => m) hres ha (fun p q hp hq _ => by rw [z _ _ _ hp, z _ _ _ hq]) (fun p hp => by rw [z _ _ _ hp]; simp) (fun n hn => ⟨0, by simp, (z _ _ _ hn).symm⟩) (fun p hp => by rw [z _ _ _ hp]; simp) (fun n hn => ⟨0, by simp, (z _ _ _ hn).symm⟩)
theorem upd1_lt {b : Blk} : ∀ m, upd O 0 (some b) m ≠ none → m < 1 := fun m hm => by
  by_cases e : m = 0
  · omega
  · rw [upd_ne _ _ _ _ e] at hm; exact absurd rfl hm
theorem upd1_dom {b b' : Blk} : ∀ m, upd O 0 (some b') m ≠ none → upd O 0 (some b) m ≠ none := fun m hm => by
  by_cases e : m = 0
  · subst e; simp
  · rw [upd_ne _ _ _ _ e] at hm; exact absurd rfl hm
theorem own_end1 {s : St} {b : Blk} (h : s.own 0 = some b) : ∀ m c, upd O 0 (some b) m = some c → s.own m = some c := fun m c hm => by
  by_cases e : m = 0
  · subst e; rw [upd_same] at hm; rw [h, hm]
  · rw [upd_ne _ _ _ _ e] at hm; cases hm
end Go.AM
end

section
/- The reference's integers: words of a list, comparison, principal forms. -/
namespace Go.AM
open Go Go.RowKit
end Go.AM
end

section
/- A slice under another name; sums digit by digit. -/
namespace Go.AM
open Go Go.RowKit
def rnS (m d : Nat) (b : Blk) (s : St) : St := ⟨fun t => renV (fun k => bif Nat.beq k m then d else k) ((kill [d] s).regs t), upd (upd (kill [d] s).own m none) d (some b)⟩
theorem AWp_rn {P : Program} {B : Bool} {N np : Nat} {Q : Exit → St → Prop} {s : St} {c : Code} (m d : Nat) {b : Blk} (hb : s.own m = some b) (hd : Nat.beq m d = false) (hp : Nat.ble np d = true) (h : AWp P B N np c Q (rnS m d b s)) (hl0 : lnk b = [] := by rfl) : AWp P B N np c Q s := by
  have hne : m ≠ d := fun e => by rw [e, Nat.beq_refl] at hd; cases hd
  intro ro hB C hh r a w hn hc
  have hk := kill_conc [d] hc
  have hown : (kill [d] s).own d = none := kill_own [d] s d (by simp)
  have hmen := kill_men [d] s d (by simp)
  have hm : (kill [d] s).own m = some b := by
    have : (kill [d] s).own m = s.own m := by
      show (bif [d].contains m then none else killO [d] (s.own m)) = s.own m
      have : [d].contains m = false := by simp; exact hne
      rw [this, hb]
      show some (killB [d] b) = some b
      unfold killB; rw [hl0]; rfl
    rw [this]; exact hb
  have hbr := hk.wk.ow m b hm
  have hw := hk.wk.rename (m := m) (d := d) (v := r m) (b := b) (by rw [hm]; simp) hown (by rw [hn.1]; exact Nat.le_of_ble_eq_true hp) (fun _ e => e) hbr (kill_lnk [d] s d (by simp)) hl0
  refine h ro hB C hh (upd r d (r m)) a w hn ⟨hk.sz, hk.df, fun t => ?_, hw⟩
  have hr := hk.rg t
  have hmt := hmen t
  show AVRep hh (upd r d (r m)) (renV (fun k => bif Nat.beq k m then d else k) ((kill [d] s).regs t)) _
  generalize (kill [d] s).regs t = v at hr hmt
  have key : ∀ k, d ≠ k → upd r d (r m) (bif Nat.beq k m then d else k) = r k := fun k hk => by
    cases e : Nat.beq k m with
    | true => rw [Nat.eq_of_beq_eq_true e]; simp
    | false => simp only [cond_false]; rw [upd_ne _ _ _ _ (fun x => hk x.symm)]
  cases v with
  | loc k o =>
    obtain ⟨q, h1, h2⟩ := hr
    exact ⟨q, by rw [key k (by simpa [men] using hmt)]; exact h1, h2⟩
  | vec k =>
    show _ = upd r d (r m) _
    rw [key k (by simpa [men] using hmt)]; exact hr
  | p v => exact hr
  | t vs => exact hr
  | ip xs => exact hr
  | fn f caps => exact hr
  | fnl f k =>
    obtain ⟨q, h1, h2⟩ := hr
    exact ⟨q, by rw [key k (by simpa [men] using hmt)]; exact h1, h2⟩
  | it k =>
    obtain ⟨q, h1, h2⟩ := hr
    exact ⟨q, by rw [key k (by simpa [men] using hmt)]; exact h1, h2⟩
  | axm R k =>
    intro h' hq
    show R h' (upd r d (r m) _) _
    rw [key k (by simpa [men] using hmt)]
    exact hr h' hq
  | ax R => exact hr
  | junk => exact hr
/-- the n least words of a number -/
def dgs : Nat → Nat → List Nat
  | 0, _ => []
  | n + 1, v => v % 4294967296 :: dgs n (v / 4294967296)
section add
end add
end Go.AM
end

section
/- A call that hands back a new slice of the caller's own; a call that writes two. -/
namespace Go.AM
open Go Go.RowKit
/-- the contract of a function that hands back a new slice, which the caller may write -/
structure CallV (P : Program) (f : FuncId) (args : List AV) (b : Blk) : Prop where
  fn : FnOK P f
  go : ∀ (h : Hp) (r : Nat → Value) (w : World) (cargs : Array Value), RepArgs h r args cargs.toList → Before h r O w →
    Calls P f cargs w fun e w' => ∃ v h', e = .returned v ∧ BlkRep h' w' v b ∧ (∀ k, hblk v = some k → w.heap.size ≤ k ∧ h' k = none) ∧ After h r O w h' O w'
theorem Eff.callV {P : Program} {dst : Option Nat} {f : FuncId} {args : Array Operand} {tys : Array TypeId} {ty : TypeId} {pos : String} {af : Array Edge} {gd : Option (Nat × Bool)} {d : Nat} {ρ : Operand → AV} {own : Own} {b : Blk}
    (hc : CallV P f (args.toList.map ρ) b) (hl0 : lnk b = [] := by rfl) : Eff P ⟨dst, .call ⟨.value (.func f), args, tys⟩, ty, pos, af, gd⟩ d ρ own (.vec d) [] (some b) [] := by
  intro C h r own' a w K Q hrep hrd hw hnew hK
  unfold Oper.wp
  have hrun : (execOp a.eval ⟨dst, .call ⟨.value (.func f), args, tys⟩, ty, pos, af, gd⟩).run P w = .ok (.enter f (args.map a.eval)) w := by
    simp only [execOp, resolve, Sem.run_bind, Act.eval, Deferred.ofValue, Sem.run_pure, Result.andThen_ok, invoke, Array.empty_append, Array.append_empty]
    exact run_callFunc hc.fn _ w
  rw [hrun]
  refine Calls.mono (hc.go h r w (args.map a.eval) ?_ (hw.before fun m hm => absurd rfl hm)) ?_
  · rw [Array.toList_map]
    exact repArgs_map _ fun x hx => hrep x (by simp only [Op.operands, Call.operands]; exact Array.mem_append.2 (.inr (Array.mem_toList_iff.1 hx)))
  · rintro e w' ⟨v, h', rfl, hv, hfr, hq⟩
    obtain ⟨hd, hp, hnl⟩ := hnew (by simp)
    have hw' : WOK C h' r own' w' := hw.after (fun m hm => absurd rfl hm) hq (fun m => by simp) (fun m b hm => absurd rfl hm)
    refine hK v h' (upd r d v) w' hq.hg (fun m hm => upd_ne _ _ _ _ (hm (by simp))) (by show v = upd r d v d; rw [upd_same]) ?_
    show WOK C h' (upd r d v) (upd own' d (some b)) w'
    have live : ∀ m, m ≠ d → upd own' d (some b) m ≠ none → own' m ≠ none := fun m h1 hm => by rwa [upd_ne _ _ _ _ h1] at hm
    have below : ∀ m k, own' m ≠ none → hblk (r m) = some k → k < w.heap.size := fun m k hm hk => hw.lt hm hk
    refine ⟨?_, ?_, hw'.hi, ?_, hw'.os, hw'.tape, hw'.output, hw'.size, hw'.old, ?_, hw'.hg, hw'.hn, hw'.gl, ?_, ?_⟩
    · intro m b' e
      by_cases h1 : m = d
      · subst h1; rw [upd_same] at e ⊢; cases e; exact hv
      · rw [upd_ne _ _ _ _ h1] at e ⊢; exact hw'.ow m b' e
    · intro m n k hm hn e f'
      by_cases h1 : m = d <;> by_cases h2 : n = d
      · rw [h1, h2]
      · subst h1; rw [upd_same] at e; rw [upd_ne _ _ _ _ h2] at f'
        have := below n k (live n h2 hn) f'; have := (hfr k e).1; omega
      · subst h2; rw [upd_same] at f'; rw [upd_ne _ _ _ _ h1] at e
        have := below m k (live m h1 hm) e; have := (hfr k f').1; omega
      · rw [upd_ne _ _ _ _ h1] at e; rw [upd_ne _ _ _ _ h2] at f'
        exact hw'.inj m n k (live m h1 hm) (live n h2 hn) e f'
    · intro m k hm e
      by_cases h1 : m = d
      · subst h1; rw [upd_same] at e; exact (hfr k e).2
      · rw [upd_ne _ _ _ _ h1] at e; exact hw'.ho m k (live m h1 hm) e
    · intro m k hm e
      by_cases h1 : m = d
      · subst h1; rw [upd_same] at e; exact .inl (Nat.le_trans hw.size (hfr k e).1)
      · rw [upd_ne _ _ _ _ h1] at e; exact hw'.fo m k (live m h1 hm) e
    · intro m hm
      rw [upd_ne _ _ _ _ (by omega)]; exact hw'.kp m hm
    · intro m b' j e hj
      by_cases h1 : m = d
      · subst h1; rw [upd_same] at e; cases e; rw [hl0] at hj; cases hj
      · rw [upd_ne _ _ _ _ h1] at e
        have hjd : j ≠ d := fun x => hnl m b' e (x ▸ hj)
        rw [upd_ne _ _ _ _ h1, upd_ne _ _ _ _ hjd]
        exact hw'.lk m b' j e hj
def EndsV (fn : Func) (b : Blk) (e : Exit) (s : St) : Prop := (e = .normal ∨ e = .ret) ∧ ∃ t m, fn.results = #[.tmp t] ∧ s.regs t = .vec m ∧ s.own m = some b
theorem callV_of {P : Program} {f : FuncId} {fn : Func} {c : Code} {N : Nat} {args : List AV} {b : Blk} (hf : P.funcs[f]? = some fn) (hnm : (fn.name == "runtime.NumGoroutine") = false) (hb : fn.body = some c) (hN : fn.ntmps = N) (hna : args.length ≤ N)
    (h : AWp P false N 0 c (EndsV fn b) ⟨fun t => args.getD t .junk, O⟩) : CallV P f args b := by
  refine ⟨⟨fn, hf, hnm, by rw [hb]; rfl⟩, ?_⟩
  intro hh r w cargs hra hbf
  have hlen : cargs.size = args.length := by
    have : ∀ (as0 : List AV) (xs : List Value), RepArgs hh r as0 xs → xs.length = as0.length := by
      intro as0
      induction as0 with
      | nil => intro xs h; cases xs with
        | nil => rfl
        | cons _ _ => exact h.elim
      | cons p ps ih => intro xs h; cases xs with
        | nil => exact h.elim
        | cons x xs => simp [ih xs h.2]
    simpa using this _ _ hra
  have hget : ∀ (as0 : List AV) (xs : List Value), RepArgs hh r as0 xs → ∀ (t : Nat) (x : AV), as0[t]? = some x → ∃ y, xs[t]? = some y ∧ AVRep hh r x y := by
    intro as0
    induction as0 with
    | nil => intro xs _ t x h; simp at h
    | cons p ps ih => intro xs h t x hx; cases xs with
      | nil => exact h.elim
      | cons y ys => cases t with
        | zero => simp at hx; subst hx; exact ⟨y, rfl, h.1⟩
        | succ t => exact ih ys h.2 t x (by simpa using hx)
  refine callsW' (n := 0) (callsIn_of_wp_marks hf hb trivial ?_)
  let C : Ctx := ⟨w, hh, fun _ => False, r, 0, true⟩
  refine wpIn_mono (h none (fun _ => rfl) C hh r _ w ⟨rfl, rfl⟩ ⟨?_, trivial, ?_, ⟨hbf.ow, hbf.inj, hbf.hi, hbf.ho, rfl, rfl, .refl _, Nat.le_refl _, fun _ _ _ => rfl, fun m k hm => absurd rfl hm, .refl _, fun k hk => .inl hk, hbf.gl, fun _ _ => rfl, fun m b j hb => by cases hb⟩⟩) ?_
  · simp [hN]; omega
  · intro t
    show AVRep hh r (args.getD t .junk) _
    rw [List.getD_eq_getElem?_getD]
    cases ht : args[t]? with
    | none => exact trivial
    | some x =>
      obtain ⟨y, h1, h2⟩ := hget _ _ hra t x ht
      have h1' : cargs[t]? = some y := by rw [← Array.getElem?_toList]; exact h1
      have hlt : t < cargs.size := (Array.getElem?_eq_some_iff.1 h1').1
      simp only [Array.getD_eq_getD_getElem?, Array.getElem?_append_left hlt, h1', Option.getD_some]
      exact h2
  · rintro e a' w' ⟨s', h', r', ⟨he, t, m, hres, hreg, hown⟩, hc⟩
    have fin : LeavesInM (Wd none) 0 P fn a'.tmps (fun e w' => ∃ v h', e = .returned v ∧ BlkRep h' w' v b ∧ (∀ k, hblk v = some k → w.heap.size ≤ k ∧ h' k = none) ∧ After hh r O w h' O w') a'.defers .returning w' := by
      refine leave_marks hc ?_
      intro h' w' hc
      have hx : a'.tmps.getD t undef = r' m := by
        have := hc.rg t
        rw [hreg] at this; exact this
      have hv1 : (results fn a'.tmps).run P w' = .ok (r' m) w' := by
        rw [results_eq, hres]
        simp [resOne, hx]
      have hk := hc.wk
      have hlow : s'.own m ≠ none := by rw [hown]; simp
      refine ⟨r' m, hv1, r' m, h', rfl, hk.ow m b hown, fun k e => ⟨?_, hk.ho m k hlow e⟩, ?_⟩
      · rcases hk.fo m k hlow e with g | g
        · exact g
        · exact g.elim
      · refine ⟨fun m b e => (by cases e), fun m hm => absurd rfl hm, hk.hi, fun m k hm => absurd rfl hm, hk.os, hk.tape, hk.output, hk.size, fun k h1 _ => hk.old k h1 (fun x => x), hk.hg, fun k e => ?_⟩
        rcases hk.hn k e with g | g | g
        · exact .inl g
        · exact .inr (.inl g)
        · exact g.elim
    rcases he with rfl | rfl <;> exact fin
theorem CallV.call0 {P : Program} {f : FuncId} {args : List AV} {n : Nat} {b : Blk} (h : CallV P f args b) (hv : b.vec = true) (hn : n * b.sz = b.cs.length) (hsz : 0 < b.sz) : Call0 P f args (.p (.c (.sl n b.cs))) := by
  refine ⟨h.fn, ?_⟩
  intro hh r w cargs hra hbf
  refine Calls.mono (h.go hh r w cargs hra hbf) ?_
  rintro e w' ⟨v, h', rfl, hb, hfr, q⟩
  rw [BlkRep.slE hv hsz] at hb
  obtain ⟨a, l, cap, rfl, h2, h3, h4, h5⟩ := hb
  have hl : l = n := Nat.eq_of_mul_eq_mul_right hsz (h2.trans hn.symm)
  subst hl
  by_cases hc0 : cap = 0
  · refine ⟨_, h', rfl, ?_, q⟩
    have hcs : b.cs = [] := List.eq_nil_of_length_eq_zero (by rw [← h2, show l = 0 by omega]; simp)
    simp only [AVRep, PRep, DRep]
    exact ⟨a, cap, rfl, h3, h4, .inl hcs⟩
  · rcases h5 with h5 | ⟨k, c, rfl, g2, g3, g4⟩
    · exact absurd h5 hc0
    · obtain ⟨f1, f2⟩ := hfr k (by simp [hblk, hc0])
      have hle : Hle h' (fun j => if j = k then some (.cells c b.e (0, 0)) else h' j) := fun j o hj => by
        show (if j = k then _ else h' j) = _
        rw [if_neg fun e => by subst e; rw [f2] at hj; cases hj]; exact hj
      refine ⟨_, (fun j => if j = k then some (.cells c b.e (0, 0)) else h' j), rfl, ?_, ?_⟩
      · simp only [AVRep, PRep, DRep]
        exact ⟨_, cap, rfl, h3, h4, .inr ⟨k, 0, c, b.e, (0, 0), rfl, by simp, by simpa using DReps.mono hle _ _ g4⟩⟩
      · refine ⟨fun m b e => (by cases e), q.dom, fun j o hj => ?_, fun m j hm => absurd rfl (q.dom m hm), q.os, q.tape, q.output, q.size, q.old, q.hg.trans hle, fun j hj => ?_⟩
        · by_cases e : j = k
          · subst e; simp only [if_true, Option.some.injEq] at hj; subst hj; exact g2
          · simp only [e, if_false] at hj; exact q.hi j o hj
        · by_cases e : j = k
          · subst e; exact .inr (.inl f1)
          · simp only [e, if_false] at hj; exact q.hn j hj
/-- a call that writes some slices -/
theorem RK.mutL {P : Program} {N np : Nat} {ops : Array Oper} {draw : Bool} {os : List Oper} {s : St} {acc : List Io} {K : St → Prop} {t : Nat} {op : Op} {ty : TypeId} {pos : String} {af : Array Edge} {gd : Option (Nat × Bool)} {v : AV} {st : Chg} {rd : List Nat}
    (hg : Guards ops ⟨some t, op, ty, pos, af, gd⟩ s.regs true) (he : Eff P ⟨some t, op, ty, pos, af, gd⟩ t (ev s.regs) s.own v st none rd)
    (hr : RK P N np ops draw os ⟨upd s.regs t v, applySt s.own st⟩ (acc ++ [⟨men v ++ lnkS st none, st.map (·.1), rd, false⟩]) K) : RK P N np ops draw (⟨some t, op, ty, pos, af, gd⟩ :: os) s acc K := by
  refine RK.step (Step.run v st none rd hg he (fun h => absurd rfl h)) ?_
  simp only [Option.isSome_none, Bool.false_eq_true, if_false, List.append_nil]
  exact hr
end Go.AM
end

section
/- The reference's long division in binary: its arithmetic. -/
namespace Go.AM
open Go Go.RowKit
/-- a list whose first words have been halved -/
def hlf (l : List Nat) (i : Nat) : List Nat := (dgs l.length (wv l / 2)).take i ++ l.drop i
end Go.AM
end

section
/- The reference's division: quotient and remainder. -/
namespace Go.AM
open Go Go.RowKit
end Go.AM
end

section
/- A call that takes slices over: they are data from then on. -/
namespace Go.AM
open Go Go.RowKit
end Go.AM
end

section
/- The reference's forms: the same values. -/
namespace Go.AM
open Go Go.RowKit
section
end
end Go.AM
end

section
/- Laws of forms: sizes of constants; what a reduction gives. -/
namespace Go.AM
open Go Go.RowKit
instance : LB 7 3 := ⟨by decide⟩
instance : LB 9 3 := ⟨by decide⟩
instance : LB 10 3 := ⟨by decide⟩
instance : LB 11 3 := ⟨by decide⟩
instance : LB 12 3 := ⟨by decide⟩
instance : LB 13 3 := ⟨by decide⟩
instance : LB 14 3 := ⟨by decide⟩
instance : LB 15 3 := ⟨by decide⟩
instance : LB 16 3 := ⟨by decide⟩
instance : LB 17 3 := ⟨by decide⟩
instance : LB 18 3 := ⟨by decide⟩
instance : LB 19 3 := ⟨by decide⟩
instance : LB 20 3 := ⟨by decide⟩
instance : LB 21 3 := ⟨by decide⟩
instance : LB 22 3 := ⟨by decide⟩
instance : LB 23 3 := ⟨by decide⟩
instance : LB 24 3 := ⟨by decide⟩
instance : LB 25 3 := ⟨by decide⟩
instance : LB 26 3 := ⟨by decide⟩
instance : LB 27 3 := ⟨by decide⟩
instance : LB 28 3 := ⟨by decide⟩
instance : LB 29 3 := ⟨by decide⟩
instance : LB 30 3 := ⟨by decide⟩
instance : LB 31 3 := ⟨by decide⟩
instance : LB 32 3 := ⟨by decide⟩
instance : LB 33 3 := ⟨by decide⟩
instance : LB 34 3 := ⟨by decide⟩
instance : LB 35 3 := ⟨by decide⟩
instance : LB 36 3 := ⟨by decide⟩
instance : LB 37 3 := ⟨by decide⟩
instance : LB 38 3 := ⟨by decide⟩
instance : LB 39 3 := ⟨by decide⟩
instance : LB 40 3 := ⟨by decide⟩
instance : LB 41 3 := ⟨by decide⟩
instance : LB 42 3 := ⟨by decide⟩
instance : LB 43 3 := ⟨by decide⟩
instance : LB 44 3 := ⟨by decide⟩
instance : LB 45 3 := ⟨by decide⟩
instance : LB 46 3 := ⟨by decide⟩
instance : LB 47 3 := ⟨by decide⟩
instance : LB 48 3 := ⟨by decide⟩
instance : LB 49 3 := ⟨by decide⟩
instance : LB 50 3 := ⟨by decide⟩
instance : LB 51 3 := ⟨by decide⟩
instance : LB 52 3 := ⟨by decide⟩
instance : LB 53 3 := ⟨by decide⟩
instance : LB 54 3 := ⟨by decide⟩
instance : LB 55 3 := ⟨by decide⟩
instance : LB 56 3 := ⟨by decide⟩
instance : LB 57 3 := ⟨by decide⟩
instance : LB 58 3 := ⟨by decide⟩
instance : LB 59 3 := ⟨by decide⟩
instance : LB 60 3 := ⟨by decide⟩
instance : LB 61 3 := ⟨by decide⟩
instance : LB 62 3 := ⟨by decide⟩
instance : LB 63 3 := ⟨by decide⟩
instance : LB 64 3 := ⟨by decide⟩
end Go.AM
end

section
/- Maps: entries as data; what a look-up, a store, a step of a loop over a map do to them. -/
namespace Go.AM
open Go Go.RowKit Go.MapKept
/-- an entry: its key, the cells of its value -/
abbrev En := Value × List DV
def flE (E : List En) : List DV := E.flatMap fun e => .v e.1 :: e.2
/-- a map that nobody writes any more -/
abbrev MP (a : Option Nat) (E : List En) : DV := .mp a (flE E)
/-- a map of the call's own -/
abbrev MB (a : Option Nat) (E : List En) : Blk := ⟨true, 0, 0, [MP a E]⟩
/-- an iterator: where it stands, what is to come -/
abbrev IB (a : Option Nat) (cur left : List En) : Blk := ⟨true, 0, 0, [MP a cur, MP a left]⟩
def EW (a : Option Nat) (E : List En) : Prop := ∀ e ∈ E, e.2.length + 1 = mw a
def ERep (h : Hp) (a : Option Nat) (e : En) (m : MapEntry) : Prop := m.key = e.1 ∧ e.1.oneCell' = true ∧ e.2.length + 1 = mw a ∧ DReps h e.2 (mval a m.val)
def ERepL (h : Hp) (a : Option Nat) : List En → List MapEntry → Prop
  | [], [] => True
  | e :: E, m :: l => ERep h a e m ∧ ERepL h a E l
  | _, _ => False
theorem mw_pos (a : Option Nat) : 0 < mw a := by cases a <;> simp [mw]
theorem flE_cons (e : En) (E : List En) : flE (e :: E) = .v e.1 :: (e.2 ++ flE E) := by simp [flE]
theorem flE_len {a : Option Nat} : ∀ {E : List En}, EW a E → (flE E).length = E.length * mw a
  | [], _ => by simp [flE]
  | e :: E, h => by
    have h1 := h e (by simp)
    have ih := flE_len (a := a) (E := E) fun x hx => h x (by simp [hx])
    rw [flE_cons]
    simp only [List.length_cons, List.length_append, ih, Nat.add_mul, Nat.one_mul]
    omega
theorem DReps.split {h : Hp} {xs ys : List DV} {g : Nat → Option Value} : DReps h (xs ++ ys) g ↔ DReps h xs g ∧ DReps h ys fun i => g (xs.length + i) := by
  constructor
  · intro k
    refine ⟨?_, ?_⟩
    · have := k.take xs.length
      rwa [List.take_left] at this
    · have := k.drop xs.length
      rwa [List.drop_left] at this
  · rintro ⟨k1, k2⟩
    rw [DReps.iff]
    intro i d hi
    by_cases hl : i < xs.length
    · rw [List.getElem?_append_left hl] at hi
      exact k1.get i d hi
    · rw [List.getElem?_append_right (by omega)] at hi
      have := k2.get _ d hi
      rwa [Nat.add_sub_cancel' (by omega)] at this
theorem mcell_cons {a : Option Nat} {m : MapEntry} {l : List MapEntry} (i : Nat) : mcell a (m :: l) (mw a + i) = mcell a l i := by
  have := mw_pos a
  simp only [mcell]
  rw [if_neg (by omega), if_neg (by omega), Nat.add_sub_cancel_left]
theorem ents_iff {h : Hp} {a : Option Nat} : ∀ {E : List En} {l : List MapEntry}, EW a E → (((flE E).length = l.length * mw a ∧ DReps h (flE E) (mcell a l)) ↔ ERepL h a E l)
  | [], [], _ => by simp [flE, DReps, ERepL]
  | [], m :: l, _ => by
    have := mw_pos a
    simp only [flE, List.flatMap_nil, List.length_nil, List.length_cons, ERepL, iff_false]
    rintro ⟨e, _⟩
    rw [Nat.add_mul] at e; omega
  | e :: E, [], hw => by
    simp only [flE_cons, List.length_cons, List.length_nil, Nat.zero_mul, ERepL, iff_false]
    rintro ⟨e, _⟩; omega
  | e :: E, m :: l, hw => by
    have h1 := hw e (by simp)
    have ih := ents_iff (h := h) (a := a) (E := E) (l := l) fun x hx => hw x (by simp [hx])
    have hwE : EW a E := fun x hx => hw x (by simp [hx])
    have hlE := flE_len hwE
    have hp := mw_pos a
    have hle : (flE (e :: E)).length = (m :: l).length * mw a ↔ (flE E).length = l.length * mw a := by
      rw [flE_cons]
      simp only [List.length_cons, List.length_append, Nat.add_mul, Nat.one_mul]
      omega
    have hcell : DReps h (flE (e :: E)) (mcell a (m :: l)) ↔ (m.key = e.1 ∧ e.1.oneCell' = true ∧ DReps h e.2 (mval a m.val)) ∧ DReps h (flE E) (mcell a l) := by
      rw [flE_cons, show (DV.v e.1 :: (e.2 ++ flE E)) = (DV.v e.1 :: e.2) ++ flE E from rfl, DReps.split]
      have e1 : (fun i => mcell a (m :: l) ((DV.v e.1 :: e.2).length + i)) = mcell a l := by
        funext i
        rw [List.length_cons, h1]
        exact mcell_cons i
      rw [e1]
      refine and_congr ?_ Iff.rfl
      simp only [DReps, DRep]
      have e2 : DReps h e.2 (fun i => mcell a (m :: l) (i + 1)) ↔ DReps h e.2 (mval a m.val) := by
        have : ∀ i, i < e.2.length → mcell a (m :: l) (i + 1) = mval a m.val i := fun i hi => by
          simp only [mcell]
          rw [if_neg (by omega), if_pos (by omega), Nat.add_sub_cancel]
        exact ⟨fun k => k.congr fun i hi => (this i hi).symm, fun k => k.congr fun i hi => this i hi⟩
      rw [e2]
      constructor
      · rintro ⟨⟨y, g1, g2, g3⟩, g4⟩
        simp only [mcell, if_true, Option.some.injEq] at g1
        exact ⟨g1.trans g2, g3, g4⟩
      · rintro ⟨g1, g2, g3⟩
        exact ⟨⟨m.key, by simp [mcell], g1, g2⟩, g3⟩
    rw [hle, hcell]
    show _ ↔ ERep h a e m ∧ ERepL h a E l
    rw [← ih]
    unfold ERep
    constructor
    · rintro ⟨g1, ⟨g2, g3, g4⟩, g5⟩; exact ⟨⟨g2, g3, h1, g4⟩, g1, g5⟩
    · rintro ⟨⟨g2, g3, _, g4⟩, g1, g5⟩; exact ⟨g1, ⟨g2, g3, g4⟩, g5⟩
theorem ERepL.len {h : Hp} {a : Option Nat} : ∀ {E : List En} {l : List MapEntry}, ERepL h a E l → E.length = l.length
  | [], [], _ => rfl
  | _ :: _, _ :: _, k => by simp [ERepL.len k.2]
  | [], _ :: _, k => k.elim
  | _ :: _, [], k => k.elim
theorem ERepL.ew {h : Hp} {a : Option Nat} : ∀ {E : List En} {l : List MapEntry}, ERepL h a E l → EW a E
  | [], [], _ => fun _ hx => by cases hx
  | e :: E, m :: l, k => fun x hx => by
    rcases List.mem_cons.1 hx with rfl | hx
    · exact k.1.2.2.1
    · exact ERepL.ew k.2 x hx
  | [], _ :: _, k => k.elim
  | _ :: _, [], k => k.elim
theorem ERep.mono {h h' : Hp} (hh : Hle h h') {a : Option Nat} {e : En} {m : MapEntry} (k : ERep h a e m) : ERep h' a e m := ⟨k.1, k.2.1, k.2.2.1, DReps.mono hh _ _ k.2.2.2⟩
theorem ERepL.mono {h h' : Hp} (hh : Hle h h') {a : Option Nat} : ∀ {E : List En} {l : List MapEntry}, ERepL h a E l → ERepL h' a E l
  | [], [], _ => trivial
  | _ :: _, _ :: _, k => ⟨k.1.mono hh, ERepL.mono hh k.2⟩
  | [], _ :: _, k => k.elim
  | _ :: _, [], k => k.elim
theorem ERepL.app {h : Hp} {a : Option Nat} : ∀ {E F : List En} {l m : List MapEntry}, ERepL h a E l → ERepL h a F m → ERepL h a (E ++ F) (l ++ m)
  | [], _, [], _, _, q => q
  | _ :: _, _, _ :: _, _, k, q => ⟨k.1, ERepL.app k.2 q⟩
  | [], _, _ :: _, _, k, _ => k.elim
  | _ :: _, _, [], _, k, _ => k.elim
/-- the entries in another order -/
theorem ERepL.perm {h : Hp} {a : Option Nat} {E F : List En} (p : E.Perm F) : ∀ {l : List MapEntry}, ERepL h a E l → ∃ l', l'.Perm l ∧ ERepL h a F l' := by
  induction p with
  | nil => intro l k; exact ⟨l, .refl _, k⟩
  | @cons e E F _ ih =>
    intro l k
    cases l with
    | nil => exact k.elim
    | cons m l =>
      obtain ⟨l', h1, h2⟩ := ih k.2
      exact ⟨m :: l', h1.cons m, k.1, h2⟩
  | swap e f E =>
    intro l k
    match l, k with
    | m :: n :: l, k => exact ⟨n :: m :: l, .swap _ _ _, k.2.1, k.1, k.2.2⟩
    | [m], k => exact k.2.elim
    | [], k => exact k.elim
  | trans _ _ ih1 ih2 =>
    intro l k
    obtain ⟨l1, h1, h2⟩ := ih1 k
    obtain ⟨l2, h3, h4⟩ := ih2 h2
    exact ⟨l2, h3.trans h1, h4⟩
theorem ERepL.perm' {h : Hp} {a : Option Nat} {l m : List MapEntry} (p : l.Perm m) : ∀ {E : List En}, ERepL h a E l → ∃ F, F.Perm E ∧ ERepL h a F m := by
  induction p with
  | nil => intro E k; exact ⟨E, .refl _, k⟩
  | @cons x l m _ ih =>
    intro E k
    cases E with
    | nil => exact k.elim
    | cons e E =>
      obtain ⟨F, h1, h2⟩ := ih k.2
      exact ⟨e :: F, h1.cons e, k.1, h2⟩
  | swap x y l =>
    intro E k
    match E, k with
    | e :: f :: E, k => exact ⟨f :: e :: E, .swap _ _ _, k.2.1, k.1, k.2.2⟩
    | [e], k => exact k.2.elim
    | [], k => exact k.elim
  | trans _ _ ih1 ih2 =>
    intro E k
    obtain ⟨F1, h1, h2⟩ := ih1 k
    obtain ⟨F2, h3, h4⟩ := ih2 h2
    exact ⟨F2, h3.trans h1, h4⟩
/-- the entries of the block, read as these, in some order -/
def Ents (h : Hp) (a : Option Nat) (E : List En) (es : Array MapEntry) : Prop := ∃ l, l.Perm es.toList ∧ ERepL h a E l
theorem Ents.mono {h h' : Hp} (hh : Hle h h') {a : Option Nat} {E : List En} {es : Array MapEntry} : Ents h a E es → Ents h' a E es
  | ⟨l, h1, h2⟩ => ⟨l, h1, h2.mono hh⟩
theorem Ents.perm {h : Hp} {a : Option Nat} {E F : List En} {es : Array MapEntry} (p : E.Perm F) : Ents h a E es → Ents h a F es
  | ⟨l, h1, h2⟩ => by
    obtain ⟨l', g1, g2⟩ := h2.perm p
    exact ⟨l', g1.trans h1, g2⟩
theorem mp_rep {h : Hp} {a : Option Nat} {E : List En} {x : Value} (hw : EW a E) : DRep h (MP a E) x ↔ ∃ k es clk, x = .map (some k) ∧ h k = some (.map es clk) ∧ MapOK es clk ∧ Ents h a E es := by
  simp only [DRep]
  constructor
  · rintro ⟨k, es, clk, l, h1, h2, h3, h4, h5, h6⟩
    exact ⟨k, es, clk, h1, h2, h3, l, h4, (ents_iff hw).1 ⟨h5, h6⟩⟩
  · rintro ⟨k, es, clk, h1, h2, h3, l, h4, h5⟩
    have := (ents_iff hw).2 h5
    exact ⟨k, es, clk, l, h1, h2, h3, h4, this.1, this.2⟩
theorem mb_rep {h : Hp} {w : World} {a : Option Nat} {E : List En} {v : Value} (hw : EW a E) : BlkRep h w v (MB a E) ↔ ∃ k es clk, v = .map (some k) ∧ w.heap[k]? = some (.map es clk) ∧ MapOK es clk ∧ Ents h a E es := by
  rw [BlkRep.mpE rfl rfl]
  simp only [MapRep]
  constructor
  · rintro ⟨k, es, clk, l, h1, h2, h3, h4, h5, h6⟩
    exact ⟨k, es, clk, h1, h2, h3, l, h4, (ents_iff hw).1 ⟨h5, h6⟩⟩
  · rintro ⟨k, es, clk, h1, h2, h3, l, h4, h5⟩
    have := (ents_iff hw).2 h5
    exact ⟨k, es, clk, l, h1, h2, h3, h4, this.1, this.2⟩
end Go.AM
end

section
/- Maps with typed keys: made, read, written, cleared of an entry, ranged over. -/
namespace Go.AM
open Go Go.RowKit Go.MapKept
/-- keys of one of Go's plain types -/
structure KeyT {κ : Type} (d : TypeDesc) (kv : κ → Value) : Prop where
  key : ∀ k, IsKey d (kv k)
  inj : ∀ {a b}, kv a = kv b → a = b
theorem isKey_one {d : TypeDesc} {x : Value} (h : IsKey d x) : x.oneCell' = true := by cases d <;> cases x <;> first | rfl | exact h.elim
section keys
variable {κ : Type} [DecidableEq κ]
abbrev MM (κ : Type) := List (κ × List DV)
def enE (kv : κ → Value) (M : MM κ) : List En := M.map fun p => (kv p.1, p.2)
def getM (M : MM κ) (k : κ) : Option (List DV) := match M with
  | [] => none
  | p :: M => if p.1 = k then some p.2 else getM M k
def putM (M : MM κ) (k : κ) (v : List DV) : MM κ := match M with
  | [] => [(k, v)]
  | p :: M => if p.1 = k then (k, v) :: M else p :: putM M k v
theorem getM_some {k : κ} {v : List DV} : ∀ {M : MM κ}, getM M k = some v → (k, v) ∈ M
  | [], h => by cases h
  | p :: M, h => by
    unfold getM at h
    split at h
    · next e => cases h; subst e; simp
    · exact List.mem_cons_of_mem _ (getM_some h)
theorem getM_none {k : κ} : ∀ {M : MM κ}, getM M k = none → ∀ p ∈ M, p.1 ≠ k
  | [], _ => fun _ hq => by cases hq
  | p :: M, h => by
    unfold getM at h
    split at h
    · cases h
    · next e =>
      intro q hq
      rcases List.mem_cons.1 hq with rfl | hq
      · exact e
      · exact getM_none h q hq
theorem getM_of_mem {k : κ} {v : List DV} : ∀ {M : MM κ}, (M.map (·.1)).Nodup → (k, v) ∈ M → getM M k = some v
  | p :: M, hn, h => by
    have hn' := List.nodup_cons.1 hn
    unfold getM
    rcases List.mem_cons.1 h with rfl | h
    · simp
    · rw [if_neg (fun (e : p.1 = k) => hn'.1 (List.mem_map.2 ⟨_, h, e.symm⟩))]
      exact getM_of_mem hn'.2 h
theorem putM_old {k : κ} {v v' : List DV} : ∀ {M : MM κ}, (M.map (·.1)).Nodup → (k, v') ∈ M → ∃ M1 M2, M = M1 ++ (k, v') :: M2 ∧ putM M k v = M1 ++ (k, v) :: M2
  | p :: M, hn, h => by
    have hn' := List.nodup_cons.1 hn
    by_cases e : p.1 = k
    · rcases List.mem_cons.1 h with rfl | h
      · exact ⟨[], M, rfl, by simp [putM]⟩
      · exact absurd (List.mem_map.2 ⟨_, h, e.symm⟩) hn'.1
    · rcases List.mem_cons.1 h with rfl | h
      · exact absurd rfl e
      · obtain ⟨M1, M2, h1, h2⟩ := putM_old (v := v) hn'.2 h
        exact ⟨p :: M1, M2, by rw [h1]; rfl, by simp [putM, e, h2]⟩
theorem putM_new {k : κ} {v : List DV} : ∀ {M : MM κ}, (∀ p ∈ M, p.1 ≠ k) → putM M k v = M ++ [(k, v)]
  | [], _ => rfl
  | p :: M, h => by
    simp only [putM, if_neg (h p (by simp)), List.cons_append]
    rw [putM_new fun q hq => h q (by simp [hq])]
variable {kv : κ → Value} {d : TypeDesc} {h : Hp} {a : Option Nat}
theorem ERepL.keys : ∀ {E : List En} {l : List MapEntry}, ERepL h a E l → l.map (·.key) = E.map (·.1)
  | [], [], _ => rfl
  | _ :: _, _ :: _, k => by simp [ERepL.keys k.2, k.1.1]
  | [], _ :: _, k => k.elim
  | _ :: _, [], k => k.elim
theorem ERepL.mem_l : ∀ {E : List En} {l : List MapEntry}, ERepL h a E l → ∀ m ∈ l, ∃ e ∈ E, ERep h a e m
  | e :: E, m :: l, k, x, hx => by
    rcases List.mem_cons.1 hx with rfl | hx
    · exact ⟨e, by simp, k.1⟩
    · obtain ⟨f, h1, h2⟩ := ERepL.mem_l k.2 x hx
      exact ⟨f, by simp [h1], h2⟩
  | [], _ :: _, k, _, _ => k.elim
theorem ERepL.mem_E : ∀ {E : List En} {l : List MapEntry}, ERepL h a E l → ∀ e ∈ E, ∃ m ∈ l, ERep h a e m
  | e :: E, m :: l, k, x, hx => by
    rcases List.mem_cons.1 hx with rfl | hx
    · exact ⟨m, by simp, k.1⟩
    · obtain ⟨f, h1, h2⟩ := ERepL.mem_E k.2 x hx
      exact ⟨f, by simp [h1], h2⟩
  | _ :: _, [], k, _, _ => k.elim
omit [DecidableEq κ] in
theorem enE_keys (M : MM κ) : (enE kv M).map (·.1) = (M.map (·.1)).map kv := by simp [enE]
variable (K : KeyT d kv)
include K
omit [DecidableEq κ] K in
theorem ents_nodup {M : MM κ} {es : Array MapEntry} {clk : Nat} (hs : MapOK es clk) (he : Ents h a (enE kv M) es) : (M.map (·.1)).Nodup := by
  obtain ⟨l, h1, h2⟩ := he
  have h3 : (l.map (·.key)).Nodup := (h1.map _).nodup_iff.2 hs.2.2
  rw [h2.keys, enE_keys] at h3
  exact (List.pairwise_map.1 h3).imp fun hne e => hne (by rw [e])
omit [DecidableEq κ] in
theorem ents_isKey {M : MM κ} {es : Array MapEntry} (he : Ents h a (enE kv M) es) : ∀ x ∈ es.toList, IsKey d x.key := by
  obtain ⟨l, h1, h2⟩ := he
  intro x hx
  obtain ⟨e, g1, g2⟩ := h2.mem_l x (h1.mem_iff.2 hx)
  obtain ⟨p, _, rfl⟩ := List.mem_map.1 g1
  rw [g2.1]; exact K.key _
/-- what the search finds -/
theorem ents_find {M : MM κ} {es : Array MapEntry} {clk : Nat} (hs : MapOK es clk) (he : Ents h a (enE kv M) es) (k : κ) :
    (getM M k = none ∧ Instr.findNow d (kv k) es.toList 0 = some none ∧ ∀ x ∈ es.toList, x.key ≠ kv k) ∨
    ∃ j m vs, getM M k = some vs ∧ Instr.findNow d (kv k) es.toList 0 = some (some (j, m.val)) ∧ es[j]? = some m ∧ ERep h a (kv k, vs) m := by
  have hn := ents_nodup hs he
  rcases findNow_spec (K.key k) es.toList 0 (ents_isKey K he) with ⟨h1, h2⟩ | ⟨j, e, h1, h2, h3⟩
  · refine .inl ⟨?_, h1, h2⟩
    cases hg : getM M k with
    | none => rfl
    | some vs =>
      obtain ⟨l, g1, g2⟩ := he
      obtain ⟨m, q1, q2⟩ := g2.mem_E (kv k, vs) (List.mem_map.2 ⟨_, getM_some hg, rfl⟩)
      exact absurd q2.1 (h2 m (g1.mem_iff.1 q1))
  · obtain ⟨l, g1, g2⟩ := he
    have hm : e ∈ l := g1.mem_iff.2 (List.mem_of_getElem? h2)
    obtain ⟨x, q1, q2⟩ := g2.mem_l e hm
    obtain ⟨p, q3, rfl⟩ := List.mem_map.1 q1
    have hk : p.1 = k := K.inj (q2.1.symm.trans h3)
    subst hk
    refine .inr ⟨j, e, p.2, getM_of_mem hn q3, by simpa using h1, by simpa using h2, q2⟩
theorem ents_put_new {M : MM κ} {es : Array MapEntry} {k : κ} {vs : List DV} {v : Value} {b : Nat} (he : Ents h a (enE kv M) es) (hv : vs.length + 1 = mw a ∧ DReps h vs (mval a v)) (hk : getM M k = none) :
    Ents h a (enE kv (putM M k vs)) (es.push ⟨kv k, v, b⟩) := by
  rw [putM_new (getM_none hk)]
  obtain ⟨l, h1, h2⟩ := he
  refine ⟨l ++ [⟨kv k, v, b⟩], by rw [Array.toList_push]; exact h1.append_right _, ?_⟩
  unfold enE
  rw [List.map_append]
  exact h2.app ⟨⟨rfl, isKey_one (K.key k), hv.1, hv.2⟩, trivial⟩
theorem ents_put_old {M : MM κ} {es : Array MapEntry} {clk : Nat} (hs : MapOK es clk) {k : κ} {vs ws : List DV} {v : Value} {j : Nat} {m : MapEntry} (he : Ents h a (enE kv M) es) (hv : vs.length + 1 = mw a ∧ DReps h vs (mval a v)) (hk : getM M k = some ws)
    (hj : es[j]? = some m) (hm : m.key = kv k) : Ents h a (enE kv (putM M k vs)) (es.modify j fun e => { e with key := kv k, val := v }) := by
  have hn := ents_nodup hs he
  obtain ⟨M1, M2, e1, e2⟩ := putM_old (v := vs) hn (getM_some hk)
  rw [e2]
  obtain ⟨l, h1, h2⟩ := he
  have hj' : es.toList[j]? = some m := by simpa using hj
  have hlt := (List.getElem?_eq_some_iff.1 hj').1
  have hsp : es.toList = es.toList.take j ++ m :: es.toList.drop (j + 1) := by
    have := List.take_append_drop j es.toList
    rw [List.drop_eq_getElem_cons hlt] at this
    rw [(List.getElem?_eq_some_iff.1 hj').2] at this
    exact this.symm
  rw [hsp] at h1
  obtain ⟨F, p1, p2⟩ := h2.perm' h1
  obtain ⟨F1, f, F2, rfl, q1, q2, q3⟩ : ∃ F1 f F2, F = F1 ++ f :: F2 ∧ ERepL h a F1 (es.toList.take j) ∧ ERep h a f m ∧ ERepL h a F2 (es.toList.drop (j + 1)) := by
    clear p1 hsp h1
    revert F
    generalize es.toList.take j = A
    generalize es.toList.drop (j + 1) = B
    induction A with
    | nil => intro F p2; cases F with
      | nil => exact p2.elim
      | cons f F => exact ⟨[], f, F, rfl, trivial, p2.1, p2.2⟩
    | cons x A ih => intro F p2; cases F with
      | nil => exact p2.elim
      | cons f F =>
        obtain ⟨F1, g, F2, rfl, r1, r2, r3⟩ := ih F p2.2
        exact ⟨f :: F1, g, F2, rfl, ⟨p2.1, r1⟩, r2, r3⟩
  have hf : f = (kv k, ws) := by
    have hfm : f ∈ enE kv M := p1.mem_iff.1 (by simp)
    obtain ⟨p, r1, rfl⟩ := List.mem_map.1 hfm
    have : p.1 = k := K.inj (q2.1.symm.trans hm)
    subst this
    have := getM_of_mem hn r1
    rw [hk] at this; cases this; rfl
  subst hf
  have p3 : (F1 ++ F2).Perm (enE kv M1 ++ enE kv M2) := by
    have := p1
    rw [e1] at this
    unfold enE at this
    rw [List.map_append, List.map_cons] at this
    exact (List.perm_middle.symm.trans (this.trans List.perm_middle)).cons_inv
  have p4 : (F1 ++ (kv k, vs) :: F2).Perm (enE kv (M1 ++ (k, vs) :: M2)) := by
    unfold enE
    rw [List.map_append, List.map_cons]
    exact List.perm_middle.trans ((p3.cons _).trans List.perm_middle.symm)
  have r1 : ERepL h a (F1 ++ (kv k, vs) :: F2) (es.toList.take j ++ { m with key := kv k, val := v } :: es.toList.drop (j + 1)) :=
    q1.app ⟨⟨rfl, isKey_one (K.key k), hv.1, hv.2⟩, q3⟩
  obtain ⟨l', s1, s2⟩ := r1.perm p4
  refine ⟨l', s1.trans ?_, s2⟩
  have : (es.modify j fun e => { e with key := kv k, val := v }).toList = es.toList.take j ++ { m with key := kv k, val := v } :: es.toList.drop (j + 1) := by
    rw [Array.toList_modify, List.modify_eq_take_cons_drop hlt, (List.getElem?_eq_some_iff.1 hj').2]
  rw [this]
end keys
/-- a map's value in one piece -/
def pvM (a : Option Nat) (vs : List DV) : PV := match a with
  | none => .c (vs.headD (.v (.bool false)))
  | some _ => .a vs
theorem pvM_rep {h : Hp} {a : Option Nat} {vs : List DV} {v : Value} (hl : vs.length + 1 = mw a) (hp : 0 < vs.length) (hd : DReps h vs (mval a v)) : PRep h (pvM a vs) v := by
  cases a with
  | none =>
    have : vs.length = 1 := by simp [mw] at hl; exact hl
    match vs, this with
    | [x], _ =>
      simp only [DReps, mval] at hd
      obtain ⟨⟨y, e, k⟩, _⟩ := hd
      simp at e; subst e
      exact k
  | some n =>
    have hn : vs.length = n := by simp [mw] at hl; exact hl
    have h0 := hd.get 0 vs[0] (by simp [hp])
    obtain ⟨y, e, _⟩ := h0
    cases v with
    | agg cs =>
      simp only [mval] at e
      split at e
      · next hc =>
        refine ⟨cs, rfl, by rw [hc, hn], hd.congr fun i _ => ?_⟩
        simp [mval, hc]
      · cases e
    | _ => simp [mval] at e
/-- a value as a map's value -/
def pvA : PV → Option Nat
  | .c _ => none
  | .a ds => some ds.length
theorem mval_rep {h : Hp} {v : PV} {x : Value} (k : PRep h v x) (a : Option Nat) (ha : a = pvA v) : (pvCells v).length + 1 = mw a ∧ DReps h (pvCells v) (mval a x) := by
  subst ha
  cases v with
  | c d =>
    refine ⟨rfl, ?_⟩
    simp only [pvCells, DReps, mval, pvA]
    exact ⟨⟨x, by simp, k⟩, trivial⟩
  | a ds =>
    obtain ⟨cs, rfl, h1, h2⟩ := k
    exact ⟨rfl, h2.congr fun i _ => by simp [mval, pvA, h1]⟩
end Go.AM
end

section
/- The operations on maps. -/
namespace Go.AM
open Go Go.RowKit Go.MapKept
theorem TyOK.map {P : Program} {T : TypeId} {i : TyI} (h : TyOK P T i) {k e : Nat} (hs : i.sh = .mp k e) : P.underlying T = some (.map k e) := by
  obtain ⟨d, h1, h2⟩ := h.und
  rw [hs] at h2; rw [h1]
  cases d <;> simp only [ShOK] at h2 <;> simp_all
/-- the kind of a key's type -/
def kdOf : Sh → TypeDesc
  | .int k => .int k
  | .str => .string
  | _ => .bool
def isKd : Sh → Bool
  | .int _ => true
  | .str => true
  | _ => false
theorem TyOK.kd {P : Program} {T : TypeId} {i : TyI} (h : TyOK P T i) (hs : isKd i.sh = true) : P.underlying T = some (kdOf i.sh) := by
  obtain ⟨d, h1, h2⟩ := h.und
  rw [h1]
  cases hi : i.sh <;> rw [hi] at h2 hs <;> first | (cases hs; done) | (cases d <;> simp only [ShOK] at h2 <;> simp_all [kdOf])
/-- data that reads as a map: none at all, or one that nobody writes any more -/
def AsM {κ : Type} (a : Option Nat) (kv : κ → Value) (dv : DV) (M : MM κ) : Prop := (dv = .v (.map none) ∧ M = []) ∨ dv = MP a (enE kv M)
theorem ew_enE {κ : Type} {kv : κ → Value} {a : Option Nat} {M : MM κ} (h : ∀ p ∈ M, p.2.length + 1 = mw a) : EW a (enE kv M) := fun e he => by
  obtain ⟨p, hp, rfl⟩ := List.mem_map.1 he
  exact h p hp
theorem AsM.rep {κ : Type} {a : Option Nat} {kv : κ → Value} {dv : DV} {M : MM κ} (k : AsM a kv dv M) (hw : EW a (enE kv M)) {h : Hp} {x : Value} (hx : DRep h dv x) :
    (x = .map none ∧ M = []) ∨ ∃ b es clk, x = .map (some b) ∧ h b = some (.map es clk) ∧ MapOK es clk ∧ Ents h a (enE kv M) es := by
  rcases k with ⟨rfl, rfl⟩ | rfl
  · exact .inl ⟨hx.1, rfl⟩
  · exact .inr ((mp_rep hw).1 hx)
section ops
variable {P : Program} {tt : TT} (hT : TTok P tt)
variable {dst : Option Nat} {ty : TypeId} {pos : String} {af : Array Edge} {gd : Option (Nat × Bool)} {d : Nat} {ρ : Operand → AV} {own : Own}
variable {T : TypeId} {i : TyI} {x y z : Operand}
/-- a new map -/
theorem op_makeMap {a : Option Nat} : Eff P ⟨dst, .makeMap T none, ty, pos, af, gd⟩ d ρ own (.vec d) [] (some (MB a [])) [] := by
  intro C h r own' ac w K Q hrep _ hw hal hK
  obtain ⟨g1, g2, g3⟩ := hal (by simp)
  have hrun : (execOp ac.eval ⟨dst, .makeMap T none, ty, pos, af, gd⟩).run P w = .ok (.value (.map (some w.heap.size))) (w.alloc (.map #[] 0)) := by
    simp [execOp, Instr.makeMap]
  unfold Oper.wp
  rw [hrun]
  refine hK (.map (some w.heap.size)) h (upd r d (.map (some w.heap.size))) _ (.refl _) (fun m hm => upd_ne _ _ _ _ (hm (by simp))) (by show _ = upd r d _ d; simp) ?_
  refine hw.alloc g1 g2 (fun i hi => by cases hi; rfl) ?_ g3 rfl
  rw [mb_rep (fun e he => by cases he)]
  exact ⟨w.heap.size, #[], 0, rfl, by rw [AM.heap_alloc, if_pos rfl], stamped_empty 0, [], .refl _, trivial⟩
section keyed
variable {κ : Type} [DecidableEq κ] {kv : κ → Value} {a : Option Nat}
include hT in
theorem put_run {M : MM κ} {kt et : Nat} {j : TyI} (ht : tt T = some i) (hs : i.sh = .mp kt et) (hk : tt kt = some j) (hjk : isKd j.sh = true) (K : KeyT (kdOf j.sh) kv) {h : Hp} {w : World} {b : Nat} {es : Array MapEntry} {clk : Nat} (hb : w.heap[b]? = some (.map es clk)) (hm : MapOK es clk)
    (he : Ents h a (enE kv M) es) (k : κ) {vs : List DV} {v : Value} (hv : vs.length + 1 = mw a ∧ DReps h vs (mval a v)) :
    ∃ es' clk', (Instr.mapUpdate T (.map (some b)) (kv k) v).run P w = .ok () { w with heap := w.heap.setIfInBounds b (.map es' clk') } ∧ MapOK es' clk' ∧ Ents h a (enE kv (putM M k vs)) es' := by
  have hu := (hT T i ht).map hs
  have hd := (hT kt j hk).kd hjk
  have hkk := K.key k
  rcases ents_find K hm he k with ⟨f1, f2, f3⟩ | ⟨q, m, ws, f1, f2, f3, f4⟩
  · refine ⟨es.push ⟨kv k, v, clk⟩, clk + 1, ?_, stamped_push hm f3, ents_put_new K he hv f1⟩
    simp [Instr.mapUpdate, run_underlying hu, MapKept.run_getObj_map hb, run_checkKey hd hkk, run_findKey hd f2, run_setObj_map _ hb, Result.andThen]
  · refine ⟨es.modify q fun e => { e with key := kv k, val := v }, clk, ?_, stamped_modify hm _ _ (fun _ _ => rfl) (fun e' _ he' => ?_), ents_put_old K hm he hv f1 f3 f4.1⟩
    · have h1 : m.key = kv k := f4.1
      simp [Instr.mapUpdate, run_underlying hu, MapKept.run_getObj_map hb, run_checkKey hd hkk, run_findKey hd f2, f3, h1, run_keyThatStays hkk, run_setObj_map _ hb, Result.andThen]
    · rw [f3] at he'; cases he'; exact f4.1.symm
theorem putM_ew {M : MM κ} {k : κ} {vs : List DV} (hw : EW a (enE kv M)) (hv : vs.length + 1 = mw a) : EW a (enE kv (putM M k vs)) := by
  refine ew_enE ?_
  induction M with
  | nil => intro p hp; simp [putM] at hp; subst hp; exact hv
  | cons q M ih =>
    intro p hp
    unfold putM at hp
    have hq := hw (kv q.1, q.2) (by simp [enE])
    have hM : EW a (enE kv M) := fun e he => hw e (by simp only [enE, List.map_cons, List.mem_cons]; exact .inr he)
    split at hp
    · rcases List.mem_cons.1 hp with rfl | hp
      · exact hv
      · exact hM (kv p.1, p.2) (List.mem_map.2 ⟨p, hp, rfl⟩)
    · rcases List.mem_cons.1 hp with rfl | hp
      · exact hq
      · exact ih hM p hp
theorem sameBut_set {w : World} {b : Nat} {o o' : Obj} (hb : w.heap[b]? = some o) : SameBut b w { w with heap := w.heap.setIfInBounds b o' } ∧ ({ w with heap := w.heap.setIfInBounds b o' } : World).heap[b]? = some o' :=
  ⟨⟨rfl, rfl, .refl _, by simp, fun k hk => (heap_set hb).2 k hk⟩, (heap_set hb).1⟩
include hT in
theorem put_eff {o : Oper} (ho : o.op = .mapUpdate T x y z ∨ o.op = .insert T x y z) {M M' : MM κ} {kt et : Nat} {j : TyI} {m : Nat} {k : κ} {v : PV} (ht : tt T = some i) (hs : i.sh = .mp kt et) (hk : tt kt = some j) (hjk : isKd j.sh = true) (K : KeyT (kdOf j.sh) kv)
    (hx : ρ x = .vec m) (hb : own m = some (MB a (enE kv M))) (hw0 : EW a (enE kv M)) (hy : ρ y = .p (.c (.v (kv k)))) (hz : ρ z = .p v) (ha : a = pvA v) (hM : (putM M k (pvCells v)).Perm M') :
    Eff P o d ρ own .junk [(m, some (MB a (enE kv M')))] none [m] := by
  intro C h r own' ac w KK Q hrep hrd hw _ hK
  have hb' := (hrd m (by simp)).trans hb
  have hops : o.op.operands = #[x, y, z] := by rcases ho with ho | ho <;> rw [ho] <;> rfl
  have e1 := hrep x (by rw [hops]; simp)
  have e2 := hrep y (by rw [hops]; simp)
  have e3 := hrep z (by rw [hops]; simp)
  rw [hx] at e1; rw [hy] at e2; rw [hz] at e3
  have e1' : ac.eval x = r m := e1
  obtain ⟨b, es, clk, q1, q2, q3, q4⟩ := (mb_rep hw0).1 (hw.ow m _ hb')
  have hv := mval_rep e3 a ha
  obtain ⟨es', clk', g1, g2, g3⟩ := put_run hT ht hs hk hjk K q2 q3 q4 k hv
  obtain ⟨s1, s2⟩ := sameBut_set (o' := .map es' clk') q2
  have hrun : (execOp ac.eval o).run P w = .ok .skip { w with heap := w.heap.setIfInBounds b (.map es' clk') } := by
    have : (execOp ac.eval o) = (do Instr.mapUpdate T (ac.eval x) (ac.eval y) (ac.eval z); pure .skip) := by
      rcases ho with ho | ho <;> simp only [execOp, ho]
    rw [this, e1', q1, rep_val e2]
    simp only [Sem.run_bind, g1, Result.andThen_ok, Sem.run_pure]
  unfold Oper.wp
  rw [hrun]
  refine hK undef h r _ (.refl _) (fun _ _ => rfl) trivial (hw.write (by rw [hb']; simp) (i := b) (by rw [q1]; rfl) s1 ?_ (fun j hj => by cases hj))
  have hpm : (enE kv (putM M k (pvCells v))).Perm (enE kv M') := hM.map _
  have hw1 := putM_ew (k := k) hw0 hv.1
  rw [mb_rep (fun e he => hw1 e (hpm.mem_iff.2 he))]
  exact ⟨b, es', clk', q1, s2, g2, g3.perm hpm⟩
include hT in
/-- m[k] = v, m of the call's own -/
theorem op_mapUpdate {M M' : MM κ} {kt et : Nat} {j : TyI} {m : Nat} {k : κ} {v : PV} (ht : tt T = some i) (hs : i.sh = .mp kt et) (hk : tt kt = some j) (hjk : isKd j.sh = true) (K : KeyT (kdOf j.sh) kv)
    (hx : ρ x = .vec m) (hb : own m = some (MB a (enE kv M))) (hw0 : EW a (enE kv M)) (hy : ρ y = .p (.c (.v (kv k)))) (hz : ρ z = .p v) (ha : a = pvA v) (hM : (putM M k (pvCells v)).Perm M') :
    Eff P ⟨dst, .mapUpdate T x y z, ty, pos, af, gd⟩ d ρ own .junk [(m, some (MB a (enE kv M')))] none [m] := put_eff hT (.inl rfl) ht hs hk hjk K hx hb hw0 hy hz ha hM
include hT in
theorem op_insert {M M' : MM κ} {kt et : Nat} {j : TyI} {m : Nat} {k : κ} {v : PV} (ht : tt T = some i) (hs : i.sh = .mp kt et) (hk : tt kt = some j) (hjk : isKd j.sh = true) (K : KeyT (kdOf j.sh) kv)
    (hx : ρ x = .vec m) (hb : own m = some (MB a (enE kv M))) (hw0 : EW a (enE kv M)) (hy : ρ y = .p (.c (.v (kv k)))) (hz : ρ z = .p v) (ha : a = pvA v) (hM : (putM M k (pvCells v)).Perm M') :
    Eff P ⟨dst, .insert T x y z, ty, pos, af, gd⟩ d ρ own .junk [(m, some (MB a (enE kv M')))] none [m] := put_eff hT (.inr rfl) ht hs hk hjk K hx hb hw0 hy hz ha hM
/-- what a look-up yields -/
def lkP (a : Option Nat) (M : MM κ) (k : κ) (zs : List DV) : PV := pvM a ((getM M k).getD zs)
def lkV (a : Option Nat) (M : MM κ) (k : κ) (zs : List DV) : Bool → AV
  | true => .t [lkP a M k zs, .c (.v (.bool (getM M k).isSome))]
  | false => .p (lkP a M k zs)
include hT in
theorem look_run {M : MM κ} {kt et : Nat} {j : TyI} {zv : Value} {zs : List DV} (ht : tt T = some i) (hs : i.sh = .mp kt et) (hk : tt kt = some j) (hjk : isKd j.sh = true) (K : KeyT (kdOf j.sh) kv) (hz : ((P.info? et).bind fun x => x.zero) = some zv) (hp : 1 < mw a)
    {h : Hp} {w : World} {xv : Value} (hzr : PRep h (pvM a zs) zv) (hx : (xv = .map none ∧ M = []) ∨ ∃ b es clk, xv = .map (some b) ∧ w.heap[b]? = some (.map es clk) ∧ MapOK es clk ∧ Ents h a (enE kv M) es) (k : κ) (ok : Bool) (r : Nat → Value) :
    ∃ y, (Instr.lookup T xv (kv k) ok).run P w = .ok y w ∧ AVRep h r (lkV a M k zs ok) y := by
  have hu := (hT T i ht).map hs
  have hd := (hT kt j hk).kd hjk
  have hkk := K.key k
  have hzz : (zeroValue et).run P w = .ok zv w := by
    cases hi : P.info? et with
    | none => rw [hi] at hz; cases hz
    | some ti => rw [hi] at hz; simp [zeroValue, typeInfo, hi, show ti.zero = some zv from hz]
  have fin : ∀ (pv : PV) (y : Value) (g : Bool), PRep h pv y → pv = lkP a M k zs → g = (getM M k).isSome → AVRep h r (lkV a M k zs ok) (if ok then .tuple #[y, .bool g] else y) := by
    intro pv y g h1 h2 h3
    subst h2 h3
    cases ok with
    | true => exact ⟨[y, .bool _], rfl, h1, ⟨rfl, rfl⟩, trivial⟩
    | false => exact h1
  rcases hx with ⟨rfl, rfl⟩ | ⟨b, es, clk, rfl, hb, hm, he⟩
  · refine ⟨_, ?_, fin _ zv false hzr rfl rfl⟩
    have hf : Instr.findNow (kdOf j.sh) (kv k) [] 0 = some none := rfl
    simp [Instr.lookup, run_underlying hu, run_checkKey hd hkk, run_findKey hd hf, hzz, Result.andThen]
  · rcases ents_find K hm he k with ⟨f1, f2, f3⟩ | ⟨q, m, ws, f1, f2, f3, f4⟩
    · refine ⟨_, ?_, fin (lkP a M k zs) zv false (by simp only [lkP, f1, Option.getD_none]; exact hzr) rfl (by rw [f1]; rfl)⟩
      simp [Instr.lookup, run_underlying hu, MapKept.run_getObj_map hb, run_checkKey hd hkk, run_findKey hd f2, hzz, Result.andThen]
    · have hpl : 0 < ws.length := by have : ws.length + 1 = mw a := f4.2.2.1; omega
      refine ⟨_, ?_, fin (lkP a M k zs) m.val true (by simp only [lkP, f1, Option.getD_some]; exact pvM_rep f4.2.2.1 hpl f4.2.2.2) rfl (by rw [f1]; rfl)⟩
      simp [Instr.lookup, run_underlying hu, MapKept.run_getObj_map hb, run_checkKey hd hkk, run_findKey hd f2, Result.andThen]
include hT in
/-- m[k], m frozen or none -/
theorem op_look {M : MM κ} {kt et : Nat} {j : TyI} {zv : Value} {zs : List DV} {dv : DV} {k : κ} {ok : Bool} (ht : tt T = some i) (hs : i.sh = .mp kt et) (hk : tt kt = some j) (hjk : isKd j.sh = true) (K : KeyT (kdOf j.sh) kv) (hz : ((P.info? et).bind fun x => x.zero) = some zv) (hp : Nat.blt 1 (mw a) = true)
    (hzr : ∀ h, PRep h (pvM a zs) zv) (hx : ρ x = .p (.c dv)) (hm : AsM a kv dv M) (hw0 : EW a (enE kv M)) (hy : ρ y = .p (.c (.v (kv k)))) {v : AV} (hv : lkV a M k zs ok = v) :
    Eff P ⟨dst, .lookup T x y ok, ty, pos, af, gd⟩ d ρ own v [] none [] :=
  Eff.value fun C h r own' ac w hrep hrd hw => by
    subst hv
    have e1 := hrep x (by simp [Op.operands])
    have e2 := hrep y (by simp [Op.operands])
    rw [hx] at e1; rw [hy] at e2
    have e3 := hm.rep hw0 e1
    obtain ⟨yv, g1, g2⟩ := look_run hT ht hs hk hjk K hz (Nat.le_of_ble_eq_true hp) (hzr h) (w := w) (e3.imp id fun ⟨b, es, clk, q1, q2, q3, q4⟩ => ⟨b, es, clk, q1, hw.hi _ _ q2, q3, q4⟩) k ok r
    refine ⟨yv, ?_, g2⟩
    simp only [execOp, rep_val e2, Sem.run_bind, g1, Result.andThen_ok, Sem.run_pure]
include hT in
/-- m[k], m of the call's own -/
theorem op_look_own {M : MM κ} {kt et : Nat} {j : TyI} {zv : Value} {zs : List DV} {k : κ} {ok : Bool} {m : Nat} (ht : tt T = some i) (hs : i.sh = .mp kt et) (hk : tt kt = some j) (hjk : isKd j.sh = true) (K : KeyT (kdOf j.sh) kv) (hz : ((P.info? et).bind fun x => x.zero) = some zv) (hp : Nat.blt 1 (mw a) = true)
    (hzr : ∀ h, PRep h (pvM a zs) zv) (hx : ρ x = .vec m) (hb : own m = some (MB a (enE kv M))) (hw0 : EW a (enE kv M)) (hy : ρ y = .p (.c (.v (kv k)))) {v : AV} (hv : lkV a M k zs ok = v) :
    Eff P ⟨dst, .lookup T x y ok, ty, pos, af, gd⟩ d ρ own v [] none [m] :=
  Eff.value fun C h r own' ac w hrep hrd hw => by
    subst hv
    have e1 := hrep x (by simp [Op.operands])
    have e2 := hrep y (by simp [Op.operands])
    rw [hx] at e1; rw [hy] at e2
    have e1' : ac.eval x = r m := e1
    have q := (mb_rep hw0).1 (hw.ow m _ ((hrd m (by simp)).trans hb))
    obtain ⟨yv, g1, g2⟩ := look_run hT ht hs hk hjk K hz (Nat.le_of_ble_eq_true hp) (hzr h) (w := w) (.inr q) k ok r
    refine ⟨yv, ?_, g2⟩
    simp only [execOp, e1', rep_val e2, Sem.run_bind, g1, Result.andThen_ok, Sem.run_pure]
omit [DecidableEq κ] in
theorem ents_size {h : Hp} {M : MM κ} {es : Array MapEntry} : Ents h a (enE kv M) es → es.size = M.length
  | ⟨l, h1, h2⟩ => by
    have e1 := h1.length_eq
    have e := h2.len
    simp only [enE, List.length_map] at e
    simp only [Array.length_toList] at e1
    exact e1.symm.trans e.symm
omit [DecidableEq κ] in
include hT in
/-- len(m), m frozen or none -/
theorem op_len_map {M : MM κ} {kt et : Nat} {dv : DV} {n : Int} (ht : tt T = some i) (hs : i.sh = .mp kt et) (hx : ρ x = .p (.c dv)) (hm : AsM a kv dv M) (hw0 : EW a (enE kv M)) (hn : (M.length : Int) = n) :
    Eff P ⟨dst, .call ⟨.builtin .len, #[x], #[T]⟩, ty, pos, af, gd⟩ d ρ own (.p (.c (.v (.int .i64 n)))) [] none [] :=
  Eff.value fun C h r own' ac w hrep hrd hw => by
    subst hn
    have e1 := hrep x (by simp [Op.operands, Call.operands])
    rw [hx] at e1
    have hu := (hT T i ht).map hs
    rcases hm.rep hw0 e1 with ⟨q, rfl⟩ | ⟨b, es, clk, q1, q2, q3, q4⟩
    · refine ⟨.int .i64 0, ?_, mk_int _ _ _ _⟩
      apply run_builtin
      simp [q, builtin, Builtin.len_, run_underlying hu, goInt]
    · refine ⟨.int .i64 M.length, ?_, mk_int _ _ _ _⟩
      apply run_builtin
      simp [q1, builtin, Builtin.len_, run_underlying hu, goInt, MapKept.run_getObj_map (hw.hi _ _ q2), ents_size q4]
omit [DecidableEq κ] in
include hT in
/-- len(m), m of the call's own -/
theorem op_len_mapO {M : MM κ} {kt et : Nat} {m : Nat} {n : Int} (ht : tt T = some i) (hs : i.sh = .mp kt et) (hx : ρ x = .vec m) (hb : own m = some (MB a (enE kv M))) (hw0 : EW a (enE kv M)) (hn : (M.length : Int) = n) :
    Eff P ⟨dst, .call ⟨.builtin .len, #[x], #[T]⟩, ty, pos, af, gd⟩ d ρ own (.p (.c (.v (.int .i64 n)))) [] none [m] :=
  Eff.value fun C h r own' ac w hrep hrd hw => by
    subst hn
    have e1 := hrep x (by simp [Op.operands, Call.operands])
    rw [hx] at e1
    have e1' : ac.eval x = r m := e1
    have hu := (hT T i ht).map hs
    obtain ⟨b, es, clk, q1, q2, q3, q4⟩ := (mb_rep hw0).1 (hw.ow m _ ((hrd m (by simp)).trans hb))
    refine ⟨.int .i64 M.length, ?_, mk_int _ _ _ _⟩
    apply run_builtin
    simp [e1', q1, builtin, Builtin.len_, run_underlying hu, goInt, MapKept.run_getObj_map q2, ents_size q4]
end keyed
end ops
end Go.AM
end

section
/- Forms under matrices of determinant 1 or -1; three times a form; principal forms. -/
namespace Go.AM
open Go Go.RowKit
section
end
end Go.AM
end

section
/- Slices of forms; the list of reduced forms. -/
namespace Go.AM
open Go Go.RowKit
section ops
end ops
section ghost
end ghost
end Go.AM
end

section
/- The least values of a reduced form. -/
namespace Go.AM
open Go Go.RowKit
end Go.AM
end

section
/- A class has one reduced form. -/
namespace Go.AM
open Go Go.RowKit
end Go.AM
end

section
/- Unique reduced forms, as the law asks. -/
namespace Go.AM
open Go Go.RowKit
end Go.AM
end

section
/- Equivalence of forms, as the law FormSame asks. -/
namespace Go.AM
open Go Go.RowKit
end Go.AM
end

section
/- Facts of FormSame and FormInverse in the terms of their walks. -/
namespace Go.AM
open Go Go.RowKit
section
end
end Go.AM
end

section
/- Closures; loops over functions; boxes that hold a slice. -/
namespace Go.AM
open Go Go.RowKit
/-- What a function that is ranged over does between two rounds: it writes no block but its own (none of G, and none that was there when it began: n0). -/
structure Rest (n0 : Nat) (G : Nat → Prop) (h : Hp) (W : World) (h' : Hp) (W' : World) : Prop where
  os : W'.os = W.os
  tape : W'.tape = W.tape
  output : OutD W' W
  size : W.heap.size ≤ W'.heap.size
  old : ∀ i, i < W.heap.size → W'.heap[i]? = W.heap[i]? ∨ (n0 ≤ i ∧ ¬ G i ∧ h i = none)
  hi : ∀ i o, h' i = some o → W'.heap[i]? = some o
  hg : Hle h h'
  hn : ∀ i, h' i ≠ none → h i ≠ none ∨ (n0 ≤ i ∧ ¬ G i)
/-- What a round does: it writes the blocks of G alone. -/
structure Gave (G : Nat → Prop) (h : Hp) (W : World) (G' : Nat → Prop) (h' : Hp) (W' : World) : Prop where
  os : W'.os = W.os
  tape : W'.tape = W.tape
  output : OutD W' W
  size : W.heap.size ≤ W'.heap.size
  old : ∀ i, i < W.heap.size → ¬ G i → W'.heap[i]? = W.heap[i]?
  hg : Hle h h'
  hn : ∀ i, h' i ≠ none → h i ≠ none ∨ W.heap.size ≤ i ∨ G i
  gg : ∀ i, G' i → G i ∨ W.heap.size ≤ i
/-- What the user of a loop over a function keeps: J (the round's number, what is known to stay, the user's blocks, the world). -/
structure Keeps (P : Program) (l : Nat) (xs : List (List PV)) (n0 : Nat) (J : Nat → Hp → (Nat → Prop) → World → Prop) : Prop where
  hi : ∀ k h G W, J k h G W → ∀ i o, h i = some o → W.heap[i]? = some o
  g : ∀ k h G W, J k h G W → ∀ i, G i → i < W.heap.size ∧ h i = none
  rest : ∀ k h G W h' W', J k h G W → Rest n0 G h W h' W' → J k h' G W'
  give : ∀ k h G W x vals, xs[k]? = some x → J k h G W → PReps h x vals → YieldAt (Wd none) 0 P l vals.toArray W fun e W' => e = .returned (.bool true) ∧ ∃ h' G', J (k + 1) h' G' W' ∧ Gave G h W G' h' W'
/-- the parameters of a round -/
def setPs : Regs → List Nat → List PV → Regs
  | regs, p :: ps, x :: xs => setPs (upd regs p (.p x)) ps xs
  | regs, _, _ => regs
theorem foldl_zip_set {h : Hp} {r : Nat → Value} : ∀ (ps : List Nat) (x : List PV) (vals : List Value) (regs : Regs) (t : Array Value), PReps h x vals → x.length = ps.length → (∀ p ∈ ps, p < t.size) →
    RegsOK h r regs { tmps := t, defers := [] } →
    RegsOK h r (setPs regs ps x) { tmps := (ps.zip vals).foldl (fun t (p, v) => t.setIfInBounds p v) t, defers := [] } ∧ ((ps.zip vals).foldl (fun t (p, v) => t.setIfInBounds p v) t).size = t.size
  | [], [], vals, regs, t, _, _, _, k => by simp [setPs]; exact k
  | p :: ps, [], _, _, _, _, hl, _, _ => by simp at hl
  | [], x :: xs, _, _, _, _, hl, _, _ => by simp at hl
  | p :: ps, x :: xs, [], _, _, hv, _, _, _ => hv.elim
  | p :: ps, x :: xs, v :: vals, regs, t, hv, hl, hp, k => by
    have k1 : RegsOK h r (upd regs p (.p x)) { tmps := t.setIfInBounds p v, defers := [] } := by
      intro u
      show AVRep h r (upd regs p (.p x) u) ((t.setIfInBounds p v).getD u undef)
      rw [getD_setIfInBounds _ _ _ _ (hp p (by simp)), upd_eq]
      by_cases e : u = p
      · rw [if_pos e, if_pos e]; exact hv.1
      · rw [if_neg e, if_neg e]; exact k u
    obtain ⟨g1, g2⟩ := foldl_zip_set ps xs vals (upd regs p (.p x)) (t.setIfInBounds p v) hv.2 (by simpa using hl) (fun q hq => by simpa using hp q (by simp [hq])) k1
    exact ⟨g1, by rw [List.zip_cons_cons, List.foldl_cons]; rw [g2]; simp⟩
section round
variable {C : Ctx} {h h' : Hp} {r r' : Nat → Value} {own own' : Own} {w w' : World} {L np' : Nat}
def Ctx.round (h : Hp) (r : Nat → Value) (own : Own) (w : World) (np' : Nat) : Ctx := ⟨w, h, fun i => ∃ m, own m ≠ none ∧ hblk (r m) = some i, r, np', false⟩
theorem WOK.enter (k : WOK C h r own w) : WOK (Ctx.round h r own w np') h r own w :=
  ⟨k.ow, k.inj, k.hi, k.ho, rfl, rfl, .refl _, Nat.le_refl _, fun _ _ _ => rfl, fun m _ hm e => .inr ⟨m, hm, e⟩, .refl _, fun _ e => .inl e, k.gl, fun _ _ => rfl, k.lk⟩
theorem WOK.leave (k : WOK C h r own w) (q : WOK (Ctx.round h r own w np') h' r' own' w') (hnp : C.np ≤ np') : WOK C h' r' own' w' := by
  have hF : ∀ i, (Ctx.round h r own w np').F i → C.w0.heap.size ≤ i ∨ C.F i := by
    rintro i ⟨m, hm, e⟩; exact k.fo m i hm e
  refine ⟨q.ow, q.inj, q.hi, q.ho, q.os.trans k.os, q.tape.trans k.tape, q.output.trans k.output, Nat.le_trans k.size q.size, fun i hi hf => ?_, fun m i hm e => ?_, k.hg.trans q.hg, fun i hi => ?_, q.gl, fun m hm => ?_, q.lk⟩
  · have := q.old i (Nat.lt_of_lt_of_le hi k.size) (fun x => by
      rcases hF i x with g | g
      · omega
      · exact hf g)
    rw [this]; exact k.old i hi hf
  · rcases q.fo m i hm e with g | g
    · exact .inl (Nat.le_trans k.size g)
    · exact hF i g
  · rcases q.hn i hi with g | g | g
    · exact k.hn i g
    · exact .inr (.inl (Nat.le_trans k.size g))
    · exact .inr (hF i g)
  · rw [q.kp m (Nat.lt_of_lt_of_le hm hnp)]; exact k.kp m hm
theorem WOK.putL {o : Obj} (k : WOK C h r own w) (hL : ∀ m, own m ≠ none → hblk (r m) ≠ some L) (hh : h L = none) (hs : C.w0.heap.size ≤ L) : WOK C h r own (w.putObj L o) := by
  have old : ∀ i, i ≠ L → (w.putObj L o).heap[i]? = w.heap[i]? := fun i hi => putObj_other hi
  refine ⟨fun m b e => (k.ow m b e).world fun i hi => old i fun x => hL m (by rw [e]; simp) (by rw [hi, x]), k.inj, fun i o' e => ?_, k.ho, k.os, k.tape, k.output, by rw [size_putObj']; exact k.size, fun i hi hf => ?_, k.fo, k.hg, k.hn, k.gl, k.kp, fun m b j e hj => ?_⟩
  · rw [old i fun x => by subst x; rw [hh] at e; cases e]; exact k.hi i o' e
  · rw [old i (by omega)]; exact k.old i hi hf
  · obtain ⟨q, t, h1, h2⟩ := k.lk m b j e hj
    refine ⟨q, t, h1, ?_⟩
    rw [old q fun x => hL m (by rw [e]; simp) (by rw [h1, x]; rfl)]; exact h2
/-- what the round leaves of the loop's record -/
theorem WOK.rec_left (hL0 : ∀ m, own m ≠ none → hblk (r m) ≠ some L) (q : WOK (Ctx.round h r own w np') h' r' own' w') {o : Obj} (hL : w.heap[L]? = some o) (hh : h L = none) : w'.heap[L]? = some o ∧ h' L = none ∧ ∀ m, own' m ≠ none → hblk (r' m) ≠ some L := by
  have hlt : L < w.heap.size := (Array.getElem?_eq_some_iff.1 hL).1
  have hF : ¬ (Ctx.round h r own w np').F L := by rintro ⟨m, hm, e⟩; exact hL0 m hm e
  refine ⟨?_, ?_, fun m hm e => ?_⟩
  · rw [q.old L hlt hF]; exact hL
  · cases e : h' L with
    | none => rfl
    | some o' =>
      rcases q.hn L (by rw [e]; simp) with g | g | g
      · exact absurd hh g
      · have : w.heap.size ≤ L := g; omega
      · exact absurd g hF
  · rcases q.fo m L hm e with g | g
    · have : w.heap.size ≤ L := g; omega
    · exact hF g
/-- the world may change where nothing is owned or known -/
theorem WOK.rest (k : WOK C h r own w) {n0 : Nat} {G : Nat → Prop} (q : Rest n0 G h w h' w') (hG : ∀ m i, own m ≠ none → hblk (r m) = some i → G i) (h0 : C.w0.heap.size ≤ n0) : WOK C h' r own w' := by
  have same : ∀ m i, own m ≠ none → hblk (r m) = some i → w'.heap[i]? = w.heap[i]? := fun m i hm e => by
    rcases q.old i (k.lt hm e) with g | ⟨_, g, _⟩
    · exact g
    · exact absurd (hG m i hm e) g
  refine ⟨fun m b e => ((k.ow m b e).mono q.hg).world fun i hi => same m i (by rw [e]; simp) hi, k.inj, q.hi, fun m i hm e => ?_, q.os.trans k.os, q.tape.trans k.tape, q.output.trans k.output, Nat.le_trans k.size q.size, fun i hi hf => ?_, k.fo, k.hg.trans q.hg, fun i hi => ?_, k.gl.mono q.hg, k.kp, fun m b j e hj => ?_⟩
  · cases hh : h' i with
    | none => rfl
    | some o =>
      rcases q.hn i (by rw [hh]; simp) with g | g
      · exact absurd (k.ho m i hm e) g
      · exact absurd (hG m i hm e) g.2
  · rcases q.old i (Nat.lt_of_lt_of_le hi k.size) with g | ⟨g, _, _⟩
    · rw [g]; exact k.old i hi hf
    · omega
  · rcases q.hn i hi with g | g
    · exact k.hn i g
    · exact .inr (.inl (Nat.le_trans h0 g.1))
  · obtain ⟨q1, t, h1, h2⟩ := k.lk m b j e hj
    exact ⟨q1, t, h1, by rw [same m q1 (by rw [e]; simp) (by rw [h1]; rfl)]; exact h2⟩
end round
/-- what is owned may be said otherwise -/
def GW (np' : Nat) (o o' : Own) : Prop := ∀ (C : Ctx) (h : Hp) (r : Nat → Value) (w : World), C.np ≤ np' → WOK C h r o w →
  ∃ r2, (∀ m, m < np' → r2 m = r m) ∧ WOK C h r2 o' w ∧ ∀ m i, o' m ≠ none → hblk (r2 m) = some i → ∃ m2, o m2 ≠ none ∧ hblk (r m2) = some i
def menB (np' : Nat) (l : List (Nat × AV)) : Bool := l.all fun p => (men p.2).all fun m => Nat.blt m np'
theorem look_men {np' : Nat} : ∀ {l : List (Nat × AV)}, menB np' l = true → ∀ t, ∀ m ∈ men (look l t), m < np'
  | [], _, t, m, hm => by simp [look, men] at hm
  | (k, v) :: l, h, t, m, hm => by
    unfold menB at h
    rw [List.all_cons, Bool.and_eq_true] at h
    simp only [look, upd_eq] at hm
    by_cases e : t = k
    · rw [if_pos e] at hm
      have := List.all_eq_true.1 h.1 m hm
      simpa using this
    · rw [if_neg e] at hm
      exact look_men (l := l) h.2 t m hm
theorem marks_ne {C : Ctx} {h : Hp} {D : Nat} (hD : h D = none) : ∀ {ds : List Deferred}, Marks C h ds → ∀ x ∈ ds, x.target ≠ .collected D
  | [], _, x, hx => by simp at hx
  | d :: ds, ⟨_, ⟨D', h1, _, _, h4, _⟩, k⟩, x, hx => by
    rcases List.mem_cons.1 hx with rfl | hx
    · intro e
      rw [h1] at e
      have : D' = D := by simpa using e
      subst this; rw [hD] at h4; cases h4
    · exact marks_ne hD k x hx
end Go.AM
end

section
/- Operations with closures, boxes that hold a slice, a listed variable, a small map. -/
namespace Go.AM
open Go Go.RowKit
section ops
variable {P : Program} {tt : TT} (hT : TTok P tt)
variable {dst : Option Nat} {ty : TypeId} {pos : String} {af : Array Edge} {gd : Option (Nat × Bool)} {d : Nat} {ρ : Operand → AV} {own : Own}
variable {T : TypeId} {i : TyI} {x y : Operand}
/-- a closure over data that stays -/
theorem op_makeFunc {f : FuncId} {c : Operand} {xs : List DV} (hx : ρ c = .ip xs) : Eff P ⟨dst, .makeFunc (.func f) #[] #[c], ty, pos, af, gd⟩ d ρ own (.fn f [xs]) [] none [] :=
  Eff.value fun C h r own' a w hrep hrd hw => by
    have e1 := hrep c (by simp [Op.operands])
    rw [hx] at e1
    refine ⟨.func (.func f) #[] #[a.eval c], ?_, #[a.eval c], rfl, e1, trivial⟩
    simp [execOp, Instr.makeFunc]
include hT in
/-- the slice in a box is looked at -/
theorem op_loadNm {m j : Nat} {v : Bool} {z : Nat} {e : TypeId} {dv : DV} (ht : tt T = some i) (hg : i.sh.agg = false) (hx : ρ x = .loc m 0) (hb : own m = some ⟨v, z, e, [dv]⟩) (hj : lnk ⟨v, z, e, [dv]⟩ = [j]) :
    Eff P ⟨dst, .load T x, ty, pos, af, gd⟩ d ρ own (.vec j) [] none [m] :=
  Eff.value fun C h r own' a w hrep hrd hw => by
    have e1 := hrep x (by simp [Op.operands])
    rw [hx] at e1
    obtain ⟨k, ⟨h1, _⟩, h2⟩ := e1
    obtain ⟨q, t, h3, h4⟩ := hw.lk m _ j ((hrd m (by simp)).trans hb) (by rw [hj]; simp)
    rw [h3] at h1
    simp only [hblk, Option.some.injEq] at h1
    subst h1
    refine ⟨r j, ?_, rfl⟩
    have hc : w.cell? ⟨q, 0, none⟩ = some (r j) := by simp [World.cell?, h4, lkC]
    simp only [execOp, h2, Sem.run_bind, loadAt_ptr, loadVar, (hT T i ht).isAgg, hg, Result.andThen_ok, Bool.false_eq_true, if_false, run_load, hc, Sem.run_pure]
include hT in
/-- a slice of the call's own is put into a box -/
theorem op_storeNm {m j n z : Nat} {e : TypeId} {dv : DV} {b : Blk} (ht : tt T = some i) (hsz : i.size = 1) (hx : ρ x = .loc m 0) (hy : ρ y = .vec j) (hb : own m = some ⟨false, z, e, [dv]⟩) (hbj : own j = some b) (hbv : b.vec = true) (hn : n * b.sz = b.cs.length) (hs0 : 0 < b.sz) :
    Eff P ⟨none, .store T x y, ty, pos, af, gd⟩ d ρ own .junk [(m, some ⟨false, j + 2, e, [.sl n []]⟩)] none [m, j] := by
  intro C h r own' a w K Q hrep hrd hw _ hK
  have hb' := (hrd m (by simp)).trans hb
  have hj' := (hrd j (by simp)).trans hbj
  have e1 := hrep x (by simp [Op.operands])
  have e2 := hrep y (by simp [Op.operands])
  rw [hx] at e1; rw [hy] at e2
  obtain ⟨k, h1, h2, c, h3, h4, h5⟩ := own_reads hw hb' e1
  have e2' : a.eval y = r j := e2
  have hbr := hw.ow j b hj'
  rw [BlkRep.slE hbv hs0] at hbr
  obtain ⟨ad, l, cap, q1, q2, q3, q4, q5⟩ := hbr
  have hl : l = n := Nat.eq_of_mul_eq_mul_right hs0 (q2.trans hn.symm)
  subst hl
  have hcells : (a.eval y).cells = #[r j] := by rw [e2', q1]; rfl
  have hone : (r j).oneCell' = true := by rw [q1]; rfl
  have hbx := hw.ow m _ hb'
  unfold BlkRep at hbx
  simp only at hbx
  obtain ⟨k0, c0, p1, p2, p3, p4⟩ := hbx
  rw [p1] at h2; simp only [hblk, Option.some.injEq] at h2; subst h2
  rw [p2] at h3
  have hcc : c0 = c := by simpa using h3
  subst hcc
  have hsize : c0.size = 1 := p3
  obtain ⟨w', c', k1, k2, k3, k4, k5⟩ := run_storeCells_block P k0 e [r j] 0 0 w c0 p2 (by simp; omega) (by simpa using hone)
  have hc' : c' = #[r j] := by
    have h0 := k5 0
    simp at h0
    apply Array.ext (by simp; omega)
    intro q hq1 hq2
    have : q = 0 := by omega
    subst this
    rw [Array.getElem?_eq_getElem (by omega)] at h0
    simpa using h0
  have hrun : (execOp a.eval ⟨none, .store T x y, ty, pos, af, gd⟩).run P w = .ok .skip w' := by
    have hs : ¬ ((a.eval y).cells.size ≠ i.size) := by rw [hcells, hsz]; simp
    simp only [execOp, h1, Instr.storeAt, Instr.sureAddr, storeVar, Sem.run_bind, Sem.run_pure, (hT T i ht).size, Result.andThen_ok, hs, if_false]
    rw [hcells]
    simp only [Result.andThen_ok, k1]
  unfold Oper.wp
  rw [hrun]
  refine hK undef h r w' (.refl _) (fun _ _ => rfl) trivial (hw.write (by rw [hb']; simp) (by rw [p1]; rfl) k2 (b := ⟨false, j + 2, e, [.sl l []]⟩) ?_ ?_)
  · refine ⟨k0, c', p1, k3, by rw [hc']; rfl, ?_⟩
    rw [hc']
    simp only [DReps, DRep]
    exact ⟨⟨r j, rfl, ad, cap, q1, q3, q4, .inl trivial⟩, trivial⟩
  · intro j' hj
    have : j' = j := by simpa [lnk] using hj
    subst this
    exact ⟨k0, (e, #[]), p1, by rw [k3, hc']; rfl⟩
include hT in
theorem op_index_glob {g e l : Nat} {vs : List Value} {j : TyI} {k : IntKind} {n : Int} (ht : tt T = some i) (hs : i.sh = .ar l e) (he : tt e = some j) (hj : j.size = 1) (hgl : (g, vs) ∈ glist) (hone : (vs.all Value.oneCell') = true) (hy : ρ y = .p (.c (.v (.int k n)))) (hn : 0 ≤ n ∧ n < l) :
    Eff P ⟨dst, .indexAddr T (.global g) y, ty, pos, af, gd⟩ d ρ own (.ip ((vs.drop n.toNat).map .v)) [] none [] :=
  Eff.value fun C h r own' a w hrep hrd hw => by
    have e2 := hrep y (by simp [Op.operands])
    rw [hy] at e2
    obtain ⟨c, t, fr, h1, h2⟩ := hw.gl _ hgl
    refine ⟨.pointer (some ⟨g, 0 + n.toNat * j.size, none⟩), ?_, g, _, c, t, fr, rfl, h1, ?_⟩
    · have hu := (hT T i ht).array hs
      have hgv : a.eval (.global g) = .pointer (some ⟨g, 0, none⟩) := rfl
      simp only [execOp, hgv, rep_val e2, Instr.indexAt, asIntOf, Sem.run_bind, Sem.run_pure, Result.andThen_ok, run_underlying hu, Instr.sureAddr, hn, and_self, if_true, (hT e j he).size, Addr.add_lit]
    · rw [DReps.iff]
      intro p dv hp
      rw [List.getElem?_map, List.getElem?_drop] at hp
      cases hv : vs[n.toNat + p]? with
      | none => rw [hv] at hp; cases hp
      | some v =>
        rw [hv] at hp
        cases hp
        refine ⟨v, ?_, ?_⟩
        · have e3 : 0 + n.toNat * j.size + p = n.toNat + p := by rw [hj]; omega
          show c[0 + n.toNat * j.size + p]? = some v
          rw [e3]; exact h2 _ _ hv
        · simp only [DRep, true_and]
          exact List.all_eq_true.1 hone v (List.mem_of_getElem? hv)
end ops
section ghost
variable {P : Program} {B : Bool} {N np : Nat} {Q : Exit → St → Prop} {s : St} {c : Code}
/-- a box is not written any more -/
theorem AWp_freezeBox {t m z : Nat} {e : TypeId} {cs : List DV} (ht : s.regs t = .loc m 0) (hb : s.own m = some ⟨false, z, e, cs⟩) (h : AWp P B N np c Q ⟨upd s.regs t (.ip cs), upd s.own m none⟩) : AWp P B N np c Q s := by
  intro ro hB C hh r a w hn hc
  have hold := hc.wk.ow m _ hb
  unfold BlkRep at hold
  simp only at hold
  obtain ⟨k, cc, q1, q2, q3, q4⟩ := hold
  obtain ⟨f1, f2⟩ := hc.wk.freeze (m := m) (i := k) (by rw [hb]; simp) (by rw [q1]; rfl) q2
  refine h ro hB C _ r a w hn ⟨hc.sz, hc.df.mono f2, fun t' => ?_, f1⟩
  show AVRep _ _ (upd s.regs t _ t') _
  by_cases e' : t' = t
  · subst e'
    rw [upd_same]
    have hx := hc.rg t'
    rw [ht] at hx
    obtain ⟨k', ⟨g1, _⟩, g2⟩ := hx
    rw [q1] at g1; simp only [hblk, Option.some.injEq] at g1; subst g1
    exact ⟨k, 0, cc, e, (0, 0), g2, if_pos rfl, by simpa using DReps.mono f2 _ _ q4⟩
  · rw [upd_ne _ _ _ _ e']; exact AVRep.mono f2 _ _ (hc.rg t')
/-- a box's slice gets another name -/
theorem WOK.relink {C : Ctx} {h : Hp} {r : Nat → Value} {own : Own} {w : World} (k : WOK C h r own w) {m z j n : Nat} {e : TypeId} {cs : List DV} (hb : own m = some ⟨false, z, e, cs⟩) (hc : ∃ (q : Nat) (t : TypeId × Array Value), r m = .pointer (some ⟨q, 0, none⟩) ∧ w.heap[q]? = some (.cells #[r j] t.1 (0, 0)))
    (hr : DReps h [DV.sl n []] fun i => (#[r j])[i]?) : WOK C h r (upd own m (some ⟨false, j + 2, e, [.sl n []]⟩)) w := by
  have live : ∀ p, upd own m (some ⟨false, j + 2, e, [.sl n []]⟩) p ≠ none → own p ≠ none := fun p hp => by
    by_cases h1 : p = m
    · subst h1; rw [hb]; simp
    · rwa [upd_ne _ _ _ _ h1] at hp
  refine ⟨fun p b hp => ?_, fun p q i hp hq => k.inj p q i (live p hp) (live q hq), k.hi, fun p i hp => k.ho p i (live p hp), k.os, k.tape, k.output, k.size, k.old, fun p i hp => k.fo p i (live p hp), k.hg, k.hn, k.gl, k.kp, fun p b j' hp hj => ?_⟩
  · by_cases h1 : p = m
    · subst h1; rw [upd_same] at hp; cases hp
      have hold := k.ow p _ hb
      unfold BlkRep at hold ⊢
      simp only at hold ⊢
      obtain ⟨k0, c0, p1, p2, p3, p4⟩ := hold
      obtain ⟨q, t, g1, g2⟩ := hc
      rw [p1] at g1
      have : k0 = q := by simpa using g1
      subst this
      rw [p2] at g2
      have e2 : c0 = #[r j] := by simp only [Option.some.injEq, Obj.cells.injEq] at g2; exact g2.1
      subst e2
      exact ⟨k0, _, p1, p2, rfl, hr⟩
    · rw [upd_ne _ _ _ _ h1] at hp; exact k.ow p b hp
  · by_cases h1 : p = m
    · subst h1; rw [upd_same] at hp; cases hp
      have : j' = j := by simpa [lnk] using hj
      subst this
      exact hc
    · rw [upd_ne _ _ _ _ h1] at hp; exact k.lk p b j' hp hj
/-- a new name for the slice that a box does not yet hold: none -/
theorem WOK.newNil {C : Ctx} {h : Hp} {r : Nat → Value} {own : Own} {w : World} (k : WOK C h r own w) {j sz : Nat} {be : TypeId} (hs0 : 0 < sz) (hd : own j = none) (hp : C.np ≤ j) (hl : ∀ m b, own m = some b → j ∉ lnk b) : WOK C h (upd r j (.slice none 0 0)) (upd own j (some ⟨true, sz, be, []⟩)) w := by
  have live : ∀ n, n ≠ j → upd own j (some (⟨true, sz, be, []⟩ : Blk)) n ≠ none → own n ≠ none := fun n h1 hn => by rwa [upd_ne _ _ _ _ h1] at hn
  have nb : ∀ i, hblk (upd r j (.slice none 0 0) j) = some i → False := fun i e => by rw [upd_same] at e; cases e
  refine ⟨fun m b e => ?_, fun m n i hm hn e f => ?_, k.hi, fun m i hm e => ?_, k.os, k.tape, k.output, k.size, k.old, fun m i hm e => ?_, k.hg, k.hn, k.gl, fun m hm => ?_, fun m b j' e hj => ?_⟩
  · by_cases h1 : m = j
    · subst h1; rw [upd_same] at e ⊢; cases e
      rw [BlkRep.slE rfl hs0]
      exact ⟨none, 0, 0, rfl, by simp, by omega, by omega, .inl rfl⟩
    · rw [upd_ne _ _ _ _ h1] at e ⊢; exact k.ow m b e
  · by_cases h1 : m = j
    · subst h1; exact (nb i e).elim
    · by_cases h2 : n = j
      · subst h2; exact (nb i f).elim
      · rw [upd_ne _ _ _ _ h1] at e; rw [upd_ne _ _ _ _ h2] at f
        exact k.inj m n i (live m h1 hm) (live n h2 hn) e f
  · by_cases h1 : m = j
    · subst h1; exact (nb i e).elim
    · rw [upd_ne _ _ _ _ h1] at e; exact k.ho m i (live m h1 hm) e
  · by_cases h1 : m = j
    · subst h1; exact (nb i e).elim
    · rw [upd_ne _ _ _ _ h1] at e; exact k.fo m i (live m h1 hm) e
  · rw [upd_ne _ _ _ _ (by omega)]; exact k.kp m hm
  · by_cases h1 : m = j
    · subst h1; rw [upd_same] at e; cases e; simp [lnk] at hj
    · rw [upd_ne _ _ _ _ h1] at e
      have hjj : j' ≠ j := fun x => hl m b e (x ▸ hj)
      rw [upd_ne _ _ _ _ h1, upd_ne _ _ _ _ hjj]
      exact k.lk m b j' e hj
def linkS (m j sz : Nat) (be e : TypeId) (s : St) : St := ⟨(kill [j] s).regs, upd (upd (kill [j] s).own j (some ⟨true, sz, be, []⟩)) m (some ⟨false, j + 2, e, [.sl 0 []]⟩)⟩
/-- a box that holds no slice yet is a box that holds the slice j -/
theorem AWp_mkLink (m j sz : Nat) (be : TypeId) {z : Nat} {e : TypeId} (hb : s.own m = some ⟨false, z, e, [.v (.slice none 0 0)]⟩) (hz : Nat.blt z 2 = true) (hj : Nat.beq m j = false) (hp : Nat.ble np j = true) (h : AWp P B N np c Q (linkS m j sz be e s)) (hs0 : Nat.blt 0 sz = true := by rfl) : AWp P B N np c Q s := by
  have hne : m ≠ j := fun e => by rw [e, Nat.beq_refl] at hj; cases hj
  intro ro hB C hh r a w hn hc
  have hk := kill_conc [j] hc
  have hm : (kill [j] s).own m = some ⟨false, z, e, [.v (.slice none 0 0)]⟩ := by
    show (bif [j].contains m then none else killO [j] (s.own m)) = _
    have : [j].contains m = false := by simp; exact hne
    rw [this, hb]
    have hl : lnk ⟨false, z, e, [.v (.slice none 0 0)]⟩ = [] := by
      match z, hz with
      | 0, _ => rfl
      | 1, _ => rfl
    show some (killB [j] _) = _
    unfold killB; rw [hl]; rfl
  have hw := hk.wk.newNil (j := j) (sz := sz) (be := be) (Nat.le_of_ble_eq_true hs0) (kill_own [j] s j (by simp)) (by rw [hn.1]; exact Nat.le_of_ble_eq_true hp) (kill_lnk [j] s j (by simp))
  have hold := hk.wk.ow m _ hm
  unfold BlkRep at hold
  simp only at hold
  obtain ⟨k0, c0, p1, p2, p3, p4⟩ := hold
  have hc0 : c0 = #[.slice none 0 0] := by
    simp only [DReps, DRep] at p4
    obtain ⟨⟨y, g1, g2⟩, _⟩ := p4
    apply Array.ext (by simpa using p3)
    intro q hq1 hq2
    have : q = 0 := by have : q < 1 := hq2; omega
    subst this
    rw [Array.getElem?_eq_getElem (by simpa using hq1)] at g1
    simp at g1
    rw [g1, g2.1]; rfl
  subst hc0
  have hw2 := hw.relink (m := m) (z := z) (j := j) (n := 0) (e := e) (cs := [.v (.slice none 0 0)]) (by rw [upd_ne _ _ _ _ hne]; exact hm) ⟨k0, (e, #[]), by rw [upd_ne _ _ _ _ hne]; exact p1, by rw [upd_same]; exact p2⟩ (by
    rw [upd_same]
    simp only [DReps, DRep]
    exact ⟨⟨_, rfl, none, 0, rfl, by omega, by omega, .inl trivial⟩, trivial⟩)
  refine h ro hB C hh (upd r j (.slice none 0 0)) a w hn ⟨hk.sz, hk.df, fun t => ?_, hw2⟩
  exact AVRep.rebind _ _ (fun n hn' => upd_ne _ _ _ _ (fun x => kill_men [j] s j (by simp) t (x ▸ hn'))) (hk.rg t)
end ghost
/-- a box's slice under another name, at a round's end -/
theorem GW.rnL {np' : Nat} {o o' : Own} (m j d n : Nat) {e : TypeId} {dv : DV} {b : Blk} (hm : o m = some ⟨false, j + 2, e, [dv]⟩) (hb : o j = some b) (hbv : b.vec = true) (hn : n * b.sz = b.cs.length) (hs0 : 0 < b.sz) (hmj : Nat.beq m j = false) (hmd : Nat.beq m d = false) (hjd : Nat.beq j d = false) (hp : Nat.ble np' d = true)
    (hfin : ∀ x, o' x = (upd (upd (upd (kill [d] ⟨fun _ => .junk, o⟩).own j none) d (some b)) m (some ⟨false, d + 2, e, [.sl n []]⟩)) x ∨ o' x = none) : GW np' o o' := by
  have neq : ∀ {x y : Nat}, Nat.beq x y = false → x ≠ y := fun h e => by rw [e, Nat.beq_refl] at h; cases h
  have h1 := neq hmj; have h2 := neq hmd; have h3 := neq hjd
  intro C hh r w hnp hk0
  have hdp := Nat.le_of_ble_eq_true hp
  have hk : WOK C hh r (kill [d] ⟨fun _ => .junk, o⟩).own w := hk0.killed (A := [d]) fun x => by
    show (bif [d].contains x then none else killO [d] (o x)) = _ ∨ (bif [d].contains x then none else killO [d] (o x)) = none
    cases [d].contains x with
    | true => exact .inr rfl
    | false => exact .inl rfl
  have kown : ∀ p, p ≠ d → (kill [d] ⟨fun _ => .junk, o⟩).own p = killO [d] (o p) := fun p hpd => by
    show (bif [d].contains p then none else killO [d] (o p)) = _
    have : [d].contains p = false := by simp; exact hpd
    rw [this]; rfl
  have hm' : (kill [d] ⟨fun _ => .junk, o⟩).own m = some ⟨false, j + 2, e, [dv]⟩ := by
    rw [kown m h2, hm]
    show some (killB [d] _) = _
    have hl : lnk ⟨false, j + 2, e, [dv]⟩ = [j] := rfl
    unfold killB
    rw [hl]
    have : ([j].any [d].contains) = false := by simp; exact h3
    rw [this]; rfl
  have hb' : (kill [d] ⟨fun _ => .junk, o⟩).own j = some b := by
    rw [kown j h3, hb]
    show some (killB [d] b) = _
    unfold killB; rw [lnk_vec hbv]; rfl
  have hbr := hk.ow j b hb'
  have hw := hk.rename (m := j) (d := d) (v := r j) (b := b) (by rw [hb']; simp) (kill_own [d] _ d (by simp)) (Nat.le_trans hnp hdp) (fun _ e => e) hbr (kill_lnk [d] _ d (by simp)) (lnk_vec hbv)
  have hown : upd (upd (kill [d] ⟨fun _ => .junk, o⟩).own j none) d (some b) m = some ⟨false, j + 2, e, [dv]⟩ := by rw [upd_ne _ _ _ _ h2, upd_ne _ _ _ _ h1]; exact hm'
  obtain ⟨q, t, g1, g2⟩ := hk.lk m _ j hm' (by simp [lnk])
  have hbr2 := hbr
  rw [BlkRep.slE hbv hs0] at hbr2
  obtain ⟨ad, l, cap, q1, q2, q3, q4, _⟩ := hbr2
  have hl : l = n := Nat.eq_of_mul_eq_mul_right hs0 (q2.trans hn.symm)
  subst hl
  have hw2 := hw.relink (m := m) (z := j + 2) (j := d) (n := l) (e := e) (cs := [dv]) hown ⟨q, t, by rw [upd_ne _ _ _ _ h2]; exact g1, by rw [upd_same]; exact g2⟩ (by
    rw [upd_same]
    simp only [DReps, DRep]
    exact ⟨⟨_, rfl, ad, cap, q1, q3, q4, .inl trivial⟩, trivial⟩)
  refine ⟨upd r d (r j), fun x hx => upd_ne _ _ _ _ (by omega), hw2.forget hfin, fun x i hx hi => ?_⟩
  have hx2 : upd (upd (upd (kill [d] ⟨fun _ => .junk, o⟩).own j none) d (some b)) m (some ⟨false, d + 2, e, [.sl l []]⟩) x ≠ none := by
    rcases hfin x with g | g
    · rw [← g]; exact hx
    · exact absurd g hx
  by_cases e1 : x = d
  · subst e1; rw [upd_same] at hi; exact ⟨j, by rw [hb]; simp, hi⟩
  · rw [upd_ne _ _ _ _ e1] at hi
    refine ⟨x, ?_, hi⟩
    by_cases e2 : x = m
    · subst e2; rw [hm]; simp
    · rw [upd_ne _ _ _ _ e2, upd_ne _ _ _ _ e1] at hx2
      by_cases e3 : x = j
      · subst e3; rw [hb]; simp
      · rw [upd_ne _ _ _ _ e3, kown x e1] at hx2
        intro e4; rw [e4] at hx2; exact hx2 rfl
end Go.AM
end

section
/- A region that makes a map of two numbers. -/
namespace Go.AM
open Go Go.RowKit
section
variable {P : Program} {ro : Option Nat} {ops : Array Oper} {Q : Exit → Act → World → Prop} {K : Act → World → Prop} {a : Act} {w w' : World} {i : Nat} {o : Oper}
theorem wpOpIn_val {x : Value} (ho : ops[i]? = some o) (hg : o.guard = none) (hd : noDefer o = true) (hrun : (execOp a.eval o).run P w = .ok (.value x) w') (hK : K (a.put o.dst x) w') : wpOpIn (Wd ro) 0 P ops Q i K a w := by
  unfold wpOpIn
  have hw : Region.wanted o (yielded ops a.tmps) = true := by unfold Region.wanted; rw [hg]
  simp only [ho]
  rw [if_pos hw]
  refine ⟨fun _ _ => trivial, ?_⟩
  rw [Oper.semAt_eq _ _ _ (noDefer_ne hd), hrun]
  exact hK
theorem wpOpIn_skip (ho : ops[i]? = some o) (hg : o.guard = none) (hd : noDefer o = true) (hrun : (execOp a.eval o).run P w = .ok .skip w') (hK : K (a.put o.dst undef) w') : wpOpIn (Wd ro) 0 P ops Q i K a w := by
  unfold wpOpIn
  have hw : Region.wanted o (yielded ops a.tmps) = true := by unfold Region.wanted; rw [hg]
  simp only [ho]
  rw [if_pos hw]
  refine ⟨fun _ _ => trivial, ?_⟩
  rw [Oper.semAt_eq _ _ _ (noDefer_ne hd), hrun]
  exact hK
end
section
end
end Go.AM
end

section
/- A function that is ranged over, walked: between the rounds it may own memory of its own. -/
namespace Go.AM
open Go Go.RowKit
section
end
section
variable {P : Program} {l : Nat} {xs : List (List PV)} {n0 : Nat} {J : Nat → Hp → (Nat → Prop) → World → Prop} {N : Nat} (hK : Keeps P l xs n0 J)
variable {Q : Exit → Nat → St → Prop} {k : Nat} {s : St}
section rj
variable {ops : Array Oper} {os : List Oper} {i : Nat} {op : Op} {ty : TypeId} {pos : String} {af : Array Edge} {gd : Option (Nat × Bool)} {t : Nat}
theorem drop_next {o : Oper} (h : ops.toList.drop i = o :: os) : ops[i]? = some o ∧ ops.toList.drop (i + 1) = os := by
  have h1 : (ops.toList.drop i)[0]? = some o := by rw [h]; rfl
  rw [List.getElem?_drop] at h1
  refine ⟨by rw [← Array.getElem?_toList]; simpa using h1, ?_⟩
  rw [← List.tail_drop, h]; rfl
theorem guards_wanted {o : Oper} {b : Bool} {h : Hp} {r : Nat → Value} {a : Act} (hc : RegsOK h r s.regs a) (hG : Guards ops o s.regs b) : Region.wanted o (yielded ops a.tmps) = b := by
  unfold Guards at hG
  cases hg : o.guard with
  | none =>
    rw [hg] at hG
    unfold Region.wanted
    rw [hg, hG]
  | some x =>
    obtain ⟨j, want⟩ := x
    rw [hg] at hG
    obtain ⟨t, g1, hG⟩ := hG
    rcases hG with ⟨c, g2, g3⟩ | ⟨g2, g3⟩
    · have := yielded_of hc g1 g2
      unfold Region.wanted
      rw [hg]
      simp only [this]
      rw [← g3]
      cases c <;> cases want <;> rfl
    · have := yielded_none hc g1 g2
      unfold Region.wanted
      rw [hg]
      simp only [this]
      rw [g3]
      cases want <;> rfl
theorem repArgs_ps {h : Hp} {r : Nat → Value} : ∀ {x : List PV} {vs : List Value}, RepArgs h r (x.map .p) vs → PReps h x vs
  | [], [], _ => trivial
  | _ :: _, _ :: _, k => ⟨k.1, repArgs_ps k.2⟩
  | [], _ :: _, k => k.elim
  | _ :: _, [], k => k.elim
end rj
end
end Go.AM
end

section
/- Slices of forms that the call owns: reading, writing, clearing the tail. -/
namespace Go.AM
open Go Go.RowKit
section ops
end ops
end Go.AM
end

section
/- Loops over maps that nobody writes; maps become data; maps compared with nil; maps.clone. -/
namespace Go.AM
open Go Go.RowKit Go.MapKept
theorem ib_rep {h : Hp} {w : World} {a : Option Nat} {cur left : List En} {v : Value} (hc : EW a cur) (hw : EW a left) (h1 : cur.length ≤ 1) :
    BlkRep h w v (IB a cur left) ↔ ∃ k m since seen c0, v = .map (some k) ∧ w.heap[k]? = some (.mapIter m since seen c0) ∧
      ((m = none ∧ cur = [] ∧ left = []) ∨ ∃ b es clk l, m = some b ∧ h b = some (.map es clk) ∧ MapOK es clk ∧ since = clk ∧ c0 = clk ∧ l.Perm (es.toList.filter fun e => !seen.contains e.born) ∧ ERepL h a left l ∧
        (cur = [] ∨ ∃ c e, cur = [c] ∧ e ∈ es.toList ∧ seen.back? = some e.born ∧ ERep h a c e)) := by
  have e0 : ∀ E : List En, flE E = [] ↔ E = [] := fun E => by
    constructor
    · intro e
      cases E with
      | nil => rfl
      | cons x E => rw [flE_cons] at e; cases e
    · rintro rfl; rfl
  rw [BlkRep.mpE rfl rfl]
  simp only [MapRep, e0]
  refine exists_congr fun k => exists_congr fun m => exists_congr fun since => exists_congr fun seen => exists_congr fun c0 => ?_
  refine and_congr Iff.rfl (and_congr Iff.rfl (or_congr Iff.rfl ?_))
  refine exists_congr fun b => exists_congr fun es => exists_congr fun clk => exists_congr fun l => ?_
  refine and_congr Iff.rfl (and_congr Iff.rfl (and_congr Iff.rfl (and_congr Iff.rfl (and_congr Iff.rfl (and_congr Iff.rfl ?_)))))
  rw [← and_assoc]
  refine and_congr (ents_iff hw) (or_congr Iff.rfl ?_)
  constructor
  · rintro ⟨e, g1, g2, g3, g4⟩
    have := (ents_iff (E := cur) (l := [e]) hc).1 ⟨by simpa using g3, g4⟩
    match cur, this with
    | [c], k => exact ⟨c, e, rfl, g1, g2, k.1⟩
    | [], k => exact k.elim
    | _ :: _ :: _, k => exact k.2.elim
  · rintro ⟨c, e, rfl, g1, g2, g3⟩
    have := (ents_iff (E := [c]) (l := [e]) hc).2 ⟨g3, trivial⟩
    exact ⟨e, g1, g2, by simpa using this.1, this.2⟩
section ops
variable {P : Program} {tt : TT} (hT : TTok P tt)
variable {dst : Option Nat} {ty : TypeId} {pos : String} {af : Array Edge} {gd : Option (Nat × Bool)} {d : Nat} {ρ : Operand → AV} {own : Own}
variable {T : TypeId} {i : TyI} {x y z : Operand} {κ : Type} {kv : κ → Value} {a : Option Nat}
include hT in
/-- a loop over a map begins -/
theorem op_range {M : MM κ} {kt et : Nat} {dv : DV} (ht : tt T = some i) (hs : i.sh = .mp kt et) (hx : ρ x = .p (.c dv)) (hm : AsM a kv dv M) (hw0 : EW a (enE kv M)) :
    Eff P ⟨dst, .range T x, ty, pos, af, gd⟩ d ρ own (.it d) [] (some (IB a [] (enE kv M))) [] := by
  intro C h r own' ac w K Q hrep hrd hw hal hK
  have e1 := hrep x (by simp [Op.operands])
  rw [hx] at e1
  obtain ⟨g1, g2, g3⟩ := hal (by simp)
  have hu := (hT T i ht).map hs
  rcases hm.rep hw0 e1 with ⟨q, rfl⟩ | ⟨b, es, clk, q1, q2, q3, q4⟩
  · have hrun : (execOp ac.eval ⟨dst, .range T x, ty, pos, af, gd⟩).run P w = .ok (.value (.pointer (some ⟨w.heap.size, 0, none⟩))) (w.alloc (.mapIter none 0 #[] 0)) := by
      simp [execOp, q, run_range_nilMap w T kt et hu]
    unfold Oper.wp
    rw [hrun]
    refine hK (.pointer (some ⟨w.heap.size, 0, none⟩)) h (upd r d (.map (some w.heap.size))) _ (.refl _) (fun m hm => upd_ne _ _ _ _ (hm (by simp))) ⟨w.heap.size, upd_same _ _ _, rfl⟩ ?_
    refine hw.alloc g1 g2 (fun i hi => by cases hi; rfl) ?_ g3 rfl
    rw [ib_rep (fun e he => by cases he) hw0 (by simp)]
    exact ⟨w.heap.size, none, 0, #[], 0, rfl, by rw [AM.heap_alloc, if_pos rfl], .inl ⟨rfl, rfl, rfl⟩⟩
  · have hb := hw.hi _ _ q2
    have hrun : (execOp ac.eval ⟨dst, .range T x, ty, pos, af, gd⟩).run P w = .ok (.value (.pointer (some ⟨w.heap.size, 0, none⟩))) (w.alloc (.mapIter (some b) clk #[] clk)) := by
      simp [execOp, q1, run_range_map w T kt et b es clk hu hb]
    unfold Oper.wp
    rw [hrun]
    refine hK (.pointer (some ⟨w.heap.size, 0, none⟩)) h (upd r d (.map (some w.heap.size))) _ (.refl _) (fun m hm => upd_ne _ _ _ _ (hm (by simp))) ⟨w.heap.size, upd_same _ _ _, rfl⟩ ?_
    refine hw.alloc g1 g2 (fun i hi => by cases hi; rfl) ?_ g3 rfl
    obtain ⟨l, l1, l2⟩ := q4
    rw [ib_rep (fun e he => by cases he) hw0 (by simp)]
    refine ⟨w.heap.size, some b, clk, #[], clk, rfl, by rw [AM.heap_alloc, if_pos rfl], .inr ⟨b, es, clk, l, rfl, q2, q3, rfl, rfl, ?_, l2, .inl rfl⟩⟩
    have : (es.toList.filter fun e => !(#[] : Array Nat).contains e.born) = es.toList := List.filter_eq_self.2 (by simp)
    rw [this]; exact l1
/-- the entry at which the iterator stands -/
theorem op_entry {m : Nat} {k : Value} {vs : List DV} {left : List En} (hx : ρ x = .it m) (hb : own m = some (IB a [(k, vs)] left)) (hc : EW a [(k, vs)]) (hw0 : EW a left) (hp : Nat.blt 0 vs.length = true) :
    Eff P ⟨dst, .entry x, ty, pos, af, gd⟩ d ρ own (.t [.c (.v k), pvM a vs]) [] none [m] :=
  Eff.value fun C h r own' ac w hrep hrd hw => by
    have e1 := hrep x (by simp [Op.operands])
    rw [hx] at e1
    obtain ⟨k0, e2, e3⟩ := e1
    obtain ⟨q, mm, since, seen, c0, q1, q2, q3⟩ := (ib_rep hc hw0 (by simp)).1 (hw.ow m _ ((hrd m (by simp)).trans hb))
    rw [e2] at q1; cases q1
    rcases q3 with ⟨_, q3, _⟩ | ⟨b, es, clk, l, rfl, f1, f2, hs1, hs2, f5, f6, f7⟩
    · cases q3
    rcases f7 with f7 | ⟨c, e, f7, f8, f9, f10⟩
    · cases f7
    cases f7
    have hmb := hw.hi _ _ f1
    have hf : es.find? (fun x => x.born == e.born) = some e := by
      rw [← Array.find?_toList]; exact find_born e es.toList ((stamped_iff _ _).1 f2).2.1 f8
    refine ⟨.tuple #[e.key, e.val], ?_, [e.key, e.val], rfl, ⟨f10.1, f10.2.1⟩, pvM_rep f10.2.2.1 (Nat.le_of_ble_eq_true hp) f10.2.2.2, trivial⟩
    have g1 : (getObj k0).run P w = .ok (.mapIter (some b) clk seen clk) w := by simp [getObj, Sem.run, q2, hs1, hs2]
    have g2 := MapKept.run_getObj_map (P := P) hmb
    simp [execOp, e3, Instr.entry, g1, g2, f9, hf, Result.andThen]
end ops
section code
variable {P : Program} {B : Bool} {N np : Nat} {Q : Exit → St → Prop} {s : St}
theorem eq_of_perm_filter_nil {es : Array MapEntry} {seen : Array Nat} {l : List MapEntry} (h : l.Perm (es.toList.filter fun e => !seen.contains e.born)) : (leftOf es seen).size = l.length := by
  have e1 := h.length_eq
  unfold leftOf
  rw [← Array.length_toList, Array.toList_filter]
  exact e1.symm
/-- the head of a loop over a map: nothing is left, or some entry comes -/
theorem AWp_next {id nx more it m : Nat} {a : Option Nat} {cur left : List En} {y1 y2 : TypeId} {p1 p2 : String} {a1 a2 : Array Edge}
    (hx : s.regs it = .it m) (hb : s.own m = some (IB a cur left)) (hc : EW a cur) (hw0 : EW a left) (h1 : Nat.ble cur.length 1 = true) (hN : (Nat.blt nx N && Nat.blt more N && !Nat.beq nx more) = true)
    (hend : left = [] → Q .normal ⟨upd (upd s.regs nx .junk) more (.p (.c (.v (.bool false)))), s.own⟩)
    (hone : ∀ (e : En) (rest : List En), left.Perm (e :: rest) → EW a [e] → EW a rest → Q .normal ⟨upd (upd s.regs nx .junk) more (.p (.c (.v (.bool true)))), upd s.own m (some (IB a [e] rest))⟩) :
    AWp P B N np (.region id #[⟨some nx, .next (.tmp it) false, y1, p1, a1, none⟩, ⟨some more, .extract (.tmp nx) 0, y2, p2, a2, none⟩] false) Q s := by
  intro ro hB C hh r ac w hn hcc
  simp only [Bool.and_eq_true, Nat.blt_eq] at hN
  obtain ⟨⟨n1, n2⟩, n3⟩ := hN
  apply wpIn_region
  have hs0 : ac.tmps.size = N := hcc.sz
  have r0 := hcc.rg it
  rw [hx] at r0
  obtain ⟨k0, e2, e3⟩ := r0
  have e3 : ac.eval (.tmp it) = .pointer (some ⟨k0, 0, none⟩) := e3
  obtain ⟨q, mm, since, seen, c0, q1, q2, q3⟩ := (ib_rep hc hw0 (Nat.le_of_ble_eq_true h1)).1 (hcc.wk.ow m _ hb)
  rw [e2] at q1; cases q1
  show wpOpsIn (Wd ro) 0 P _ _ [0, 1] ac w
  rw [wpOpsIn_cons]
  have fin : ∀ (vs : List Value) (g : Bool) (w' : World) (own' : Own), Q .normal ⟨upd (upd s.regs nx .junk) more (.p (.c (.v (.bool g)))), own'⟩ → Conc C N hh r ⟨s.regs, own'⟩ ac w' → (Instr.next (.pointer (some ⟨k0, 0, none⟩)) false y1).run P w = .ok (.tuple (.bool g :: vs).toArray) w' →
      wpOpIn (Wd ro) 0 P #[⟨some nx, .next (.tmp it) false, y1, p1, a1, none⟩, ⟨some more, .extract (.tmp nx) 0, y2, p2, a2, none⟩] (fun e a' w' => ∃ s' h' r', Q e s' ∧ Conc C N h' r' s' a' w') 0
        (wpOpsIn (Wd ro) 0 P #[⟨some nx, .next (.tmp it) false, y1, p1, a1, none⟩, ⟨some more, .extract (.tmp nx) 0, y2, p2, a2, none⟩] (fun e a' w' => ∃ s' h' r', Q e s' ∧ Conc C N h' r' s' a' w') [1]) ac w := by
    intro vs g w' own' hq hc' hrun
    refine wpOpIn_val (o := ⟨some nx, .next (.tmp it) false, y1, p1, a1, none⟩) rfl rfl rfl (x := .tuple (.bool g :: vs).toArray) (w' := w') (by simp only [execOp, e3, Sem.run_bind, hrun, Result.andThen_ok, Sem.run_pure]) ?_
    rw [wpOpsIn_cons]
    have g1 : (ac.put (some nx) (.tuple (.bool g :: vs).toArray)).eval (.tmp nx) = .tuple (.bool g :: vs).toArray := by
      simp [Act.put, Act.eval, hs0, n1]
    refine wpOpIn_val (o := ⟨some more, .extract (.tmp nx) 0, y2, p2, a2, none⟩) rfl rfl rfl (x := .bool g) (w' := w') (by
      simp only [execOp, g1]; simp [Instr.extract]) ?_
    show ∃ s' h' r', Q .normal s' ∧ Conc C N h' r' s' _ _
    refine ⟨_, hh, r, hq, ?_, hc'.df, ?_, hc'.wk⟩
    · simp [Act.put]; exact hs0
    · have r1 := (show RegsOK hh r s.regs ac from hc'.rg).put (dst := some nx) (fun d' e => by cases e; omega) (v := .junk) (x := .tuple (.bool g :: vs).toArray) trivial
      exact r1.put (dst := some more) (fun d' e => by cases e; simp [Act.put]; omega) (v := .p (.c (.v (.bool g)))) (x := .bool g) (mk_bool _ _ _)
  rcases q3 with ⟨rfl, rfl, rfl⟩ | ⟨b, es, clk, l, rfl, f1, f2, hs1, hs2, f5, f6, f7⟩
  · refine fin [] false w s.own (hend rfl) hcc ?_
    have g1 : (getObj k0).run P w = .ok (.mapIter none since seen c0) w := by simp [getObj, Sem.run, q2]
    simp [Instr.next, g1, Result.andThen]
  · have hmb := hcc.wk.hi _ _ f1
    have hold : ∀ x ∈ es.toList, x.born < since := by rw [hs1]; exact f2.1
    rcases run_next_at (P := P) w y1 k0 b since c0 seen es clk q2 hmb hold (by omega) with ⟨z1, z2⟩ | ⟨e, z1, w1, z2, z3⟩
    · have hl : left = [] := by
        have := eq_of_perm_filter_nil f5
        have h2 := f6.len
        exact List.eq_nil_of_length_eq_zero (by omega)
      exact fin [] false w s.own (hend hl) hcc z2
    · have ze : e ∈ l := by
        refine f5.mem_iff.2 ?_
        unfold leftOf at z1
        rwa [Array.toList_filter] at z1
      have hnd : (l.map (·.born)).Nodup := by
        refine (f5.map _).nodup_iff.2 ?_
        exact (List.filter_sublist.map _).nodup f2.2.1
      obtain ⟨l2, hl2⟩ : ∃ l2, l.Perm (e :: l2) := by
        obtain ⟨u, v, rfl⟩ := List.append_of_mem ze
        exact ⟨u ++ v, List.perm_middle⟩
      obtain ⟨F, p1', p2'⟩ := f6.perm' hl2
      match F, p2' with
      | [], k => exact k.elim
      | c :: rest, k =>
        have hce : EW a [c] := fun x hx => by rw [List.mem_singleton] at hx; subst hx; exact k.1.2.2.1
        have hre : EW a rest := k.2.ew
        have hk1 : hblk (r m) = some k0 := by rw [e2]; rfl
        have hwq : WOK C hh r s.own w1 := by
          rcases z2 with rfl | rfl
          · exact hcc.wk
          · exact hcc.wk.drew
        have q2' : w1.heap[k0]? = some (.mapIter (some b) since seen c0) := by rcases z2 with rfl | rfl <;> exact q2
        obtain ⟨s1, s2⟩ := sameBut_set (o' := .mapIter (some b) since (seen.push e.born) clk) q2'
        refine fin [e.key, e.val] true (ChangeMaps.setBlock w1 k0 (.mapIter (some b) since (seen.push e.born) clk)) (upd s.own m (some (IB a [c] rest))) (hone c rest p1'.symm hce hre) ⟨hcc.sz, hcc.df, hcc.rg, ?_⟩ z3
        refine hwq.write (by rw [hb]; simp) hk1 s1 ?_ (fun j hj => by cases hj)
        rw [ib_rep hce hre (by simp)]
        refine ⟨k0, some b, since, seen.push e.born, clk, e2, s2, .inr ⟨b, es, clk, l2, rfl, f1, f2, hs1, rfl, ?_, k.2, .inr ⟨c, e, rfl, ?_, by simp, k.1⟩⟩⟩
        · have hq : (es.toList.filter fun x => !(seen.push e.born).contains x.born) = (es.toList.filter fun x => !seen.contains x.born).filter fun x => !(x.born == e.born) := by
            rw [List.filter_filter]
            refine List.filter_congr fun x _ => ?_
            rw [Array.contains_push]
            cases seen.contains x.born <;> cases x.born == e.born <;> rfl
          rw [hq]
          have hn2 : ((e :: l2).map (·.born)).Nodup := (hl2.map _).nodup_iff.1 hnd
          have hn3 := (List.nodup_cons.1 hn2).1
          have e5 : (e :: l2).filter (fun x => !(x.born == e.born)) = l2 := by
            rw [List.filter_cons_of_neg (by simp)]
            refine List.filter_eq_self.2 fun x hx => ?_
            have : x.born ≠ e.born := fun q => hn3 (List.mem_map.2 ⟨x, hx, q⟩)
            simp [this]
          have := (hl2.symm.trans f5).filter (fun x => !(x.born == e.born))
          rw [e5] at this
          exact this
        · exact (List.mem_filter.1 (f5.mem_iff.1 ze)).1
end code
end Go.AM
end

section
/- A map of the call's own becomes data; maps compared with nil; a clone. -/
namespace Go.AM
open Go Go.RowKit Go.MapKept
section code
variable {P : Program} {B : Bool} {N np : Nat} {Q : Exit → St → Prop} {s : St} {c : Code}
/-- a map of the call's own becomes data -/
theorem AWp_freezeM {t m : Nat} {a : Option Nat} {E : List En} (ht : s.regs t = .vec m) (hb : s.own m = some (MB a E)) (hw : EW a E) (h : AWp P B N np c Q ⟨upd s.regs t (.p (.c (MP a E))), upd s.own m none⟩) : AWp P B N np c Q s := by
  intro ro hB C hh r ac w hn hc
  obtain ⟨k, es, clk, q1, q2, q3, q4⟩ := (mb_rep hw).1 (hc.wk.ow m _ hb)
  obtain ⟨f1, f2⟩ := hc.wk.freeze (m := m) (i := k) (by rw [hb]; simp) (by rw [q1]; rfl) q2
  refine h ro hB C _ r ac w hn ⟨hc.sz, hc.df.mono f2, fun t' => ?_, f1⟩
  show AVRep _ _ (upd s.regs t _ t') _
  by_cases e' : t' = t
  · subst e'
    rw [upd_same]
    have hx := hc.rg t'
    rw [ht] at hx
    have hx' : ac.tmps.getD t' undef = r m := hx
    rw [hx', q1]
    exact (mp_rep hw).2 ⟨k, es, clk, rfl, if_pos rfl, q3, q4.mono f2⟩
  · rw [upd_ne _ _ _ _ e']; exact AVRep.mono f2 _ _ (hc.rg t')
end code
section ops
variable {P : Program} {tt : TT} (hT : TTok P tt)
variable {dst : Option Nat} {ty : TypeId} {pos : String} {af : Array Edge} {gd : Option (Nat × Bool)} {d : Nat} {ρ : Operand → AV} {own : Own}
variable {T yT : TypeId} {i : TyI} {x y z : Operand} {a : Option Nat}
include hT in
/-- m == nil, m a frozen map -/
theorem op_eql_mapnil {kt et : Nat} {E : List En} (ht : tt T = some i) (hs : i.sh = .mp kt et) (hx : ρ x = .p (.c (MP a E))) (hw0 : EW a E) (hy : ρ y = .p (.c (.v (.map none)))) :
    Eff P ⟨dst, .binOp .eql T x y yT, ty, pos, af, gd⟩ d ρ own (.p (.c (.v (.bool false)))) [] none [] :=
  Eff.value fun C h r own' ac w hrep hrd hw => by
    have e1 := hrep x (by simp [Op.operands])
    have e2 := hrep y (by simp [Op.operands])
    rw [hx] at e1; rw [hy] at e2
    have hu := (hT T i ht).map hs
    obtain ⟨k, es, clk, q1, _⟩ := (mp_rep hw0).1 e1
    refine ⟨.bool false, ?_, mk_bool _ _ _⟩
    have g := Go.Proofs.run_eql_map_nil_sl (P := P) w T kt et (some k) hu
    simp only [execOp, q1, rep_val e2]
    have gg : (eqGuard .eql T x y (.map (some k)) (.map none)).run P w = .ok () w := by
      simp [eqGuard]
    simp only [Sem.run_bind, gg, Result.andThen_ok, g, Sem.run_pure, Option.isNone]
end ops
/-- the region in which maps.Clone calls the model's own clone -/
theorem AWp_clone {P : Program} {tt : TT} (hT : TTok P tt) {B : Bool} {N np : Nat} {Q : Exit → St → Prop} {s : St} {id t0 t5 t6 t7 t8 t2 T MT F : Nat} {i : TyI} {kt et : Nat} {fn : Func} {a : Option Nat} {E : List En} {y1 y2 y3 y4 y5 : TypeId} {p1 p2 p3 p4 p5 : String} {a1 a2 a3 a4 a5 : Array Edge} {tys : Array TypeId}
    (hf : P.funcs[F]? = some fn) (hn1 : (fn.name == "runtime.NumGoroutine") = false) (hn2 : fn.body.isNone = true) (hn3 : Extern.findNext fn = none) (hn4 : Extern.find fn = some Extern.MapsClone.clone)
    (ht : tt T = some i) (hs : i.sh = .mp kt et) (hx : s.regs t0 = .p (.c (MP a E))) (hw0 : EW a E) (hN : (Nat.blt t5 N && Nat.blt t6 N && Nat.blt t7 N && Nat.blt t8 N && Nat.blt t2 N) = true) (hp : Nat.ble np t7 = true)
    (h : Q .normal ⟨upd (upd (upd (upd (upd (kill [t7] s).regs t5 .junk) t6 .junk) t7 .junk) t8 (.vec t7)) t2 (.vec t7), upd (kill [t7] s).own t7 (some (MB a E))⟩) :
    AWp P B N np (.region id #[⟨some t5, .move (.tmp t0), y1, p1, a1, none⟩, ⟨some t6, .makeInterface T (.tmp t5), y2, p2, a2, none⟩, ⟨some t7, .call ⟨.value (.func F), #[.tmp t6], tys⟩, y3, p3, a3, none⟩,
      ⟨some t8, .typeAssert (.tmp t7) MT T false, y4, p4, a4, none⟩, ⟨some t2, .assign (.tmp t8), y5, p5, a5, none⟩] false) Q s := by
  intro ro hB C hh r ac w hn hc0
  have hc := kill_conc [t7] hc0
  simp only [Bool.and_eq_true, Nat.blt_eq] at hN
  obtain ⟨⟨⟨⟨n1, n2⟩, n3⟩, n4⟩, n5⟩ := hN
  have hs0 : ac.tmps.size = N := hc.sz
  have hu := (hT T i ht).map hs
  have r0 := hc0.rg t0
  rw [hx] at r0
  obtain ⟨k, es, clk, q1, q2, q3, q4⟩ := (mp_rep hw0).1 r0
  have v0 : ac.eval (.tmp t0) = .map (some k) := q1
  have hb := hc.wk.hi _ _ q2
  have hdn := kill_own [t7] s t7 (by simp)
  have hdl := kill_lnk [t7] s t7 (by simp)
  generalize hW : w.alloc (.map es clk) = W
  have hw1 : WOK C hh (upd r t7 (.map (some w.heap.size))) (upd (kill [t7] s).own t7 (some (MB a E))) W := by
    rw [← hW]
    refine hc.wk.alloc hdn (by rw [hn.1]; exact Nat.le_of_ble_eq_true hp) (fun i hi => by cases hi; rfl) ?_ hdl rfl
    exact (mb_rep hw0).2 ⟨w.heap.size, es, clk, rfl, by rw [AM.heap_alloc, if_pos rfl], q3, q4⟩
  apply wpIn_region
  show wpOpsIn (Wd ro) 0 P _ _ [0, 1, 2, 3, 4] ac w
  rw [wpOpsIn_cons]
  refine wpOpIn_val (o := ⟨some t5, .move (.tmp t0), y1, p1, a1, none⟩) rfl rfl rfl (x := .map (some k)) (w' := w) (by simp only [execOp, v0, Sem.run_pure]) ?_
  rw [wpOpsIn_cons]
  generalize hA1 : ac.put (some t5) (.map (some k)) = A1
  have s1 : A1.tmps.size = N := by rw [← hA1]; simp [Act.put]; exact hs0
  have g1 : A1.eval (.tmp t5) = .map (some k) := by rw [← hA1]; simp [Act.put, Act.eval, hs0, n1]
  have hmi : (Instr.makeInterface T (.map (some k))).run P w = .ok (.iface T (.map (some k))) w := by
    simp [Instr.makeInterface, run_underlying hu]
  refine wpOpIn_val (o := ⟨some t6, .makeInterface T (.tmp t5), y2, p2, a2, none⟩) rfl rfl rfl (x := .iface T (.map (some k))) (w' := w) (by simp only [execOp, g1, Sem.run_bind, hmi, Result.andThen_ok, Sem.run_pure]) ?_
  rw [wpOpsIn_cons]
  generalize hA2 : A1.put (some t6) (.iface T (.map (some k))) = A2
  have s2 : A2.tmps.size = N := by rw [← hA2]; simp [Act.put]; exact s1
  have g2 : A2.eval (.tmp t6) = .iface T (.map (some k)) := by rw [← hA2]; simp [Act.put, Act.eval, s1, n2]
  have hcl : (callFunc F #[.iface T (.map (some k))]).run P w = .ok (.value (.iface T (.map (some w.heap.size)))) W := by
    rw [run_callFunc_extern hf hn1 hn2 hn3 hn4, Go.Proofs.run_maps_clone_sl w T hb, hW]; rfl
  refine wpOpIn_val (o := ⟨some t7, .call ⟨.value (.func F), #[.tmp t6], tys⟩, y3, p3, a3, none⟩) rfl rfl rfl (x := .iface T (.map (some w.heap.size))) (w' := W) (by
    have gf : A2.eval (.func F) = .func (.func F) #[] #[] := rfl
    simp only [execOp, resolve, Sem.run_bind, gf, Deferred.ofValue, Sem.run_pure, Result.andThen_ok, invoke, Array.empty_append, Array.append_empty, List.map_toArray, List.map_cons, List.map_nil, g2]
    exact hcl) ?_
  rw [wpOpsIn_cons]
  generalize hA3 : A2.put (some t7) (.iface T (.map (some w.heap.size))) = A3
  have s3 : A3.tmps.size = N := by rw [← hA3]; simp [Act.put]; exact s2
  have g3 : A3.eval (.tmp t7) = .iface T (.map (some w.heap.size)) := by rw [← hA3]; simp [Act.put, Act.eval, s2, n3]
  have hta : (Instr.typeAssert (.iface T (.map (some w.heap.size))) MT T false).run P W = .ok (.map (some w.heap.size)) W := Go.Proofs.run_typeAssert_map_sl W T MT kt et _ hu
  refine wpOpIn_val (o := ⟨some t8, .typeAssert (.tmp t7) MT T false, y4, p4, a4, none⟩) rfl rfl rfl (x := .map (some w.heap.size)) (w' := W) (by simp only [execOp, g3, Sem.run_bind, hta, Result.andThen_ok, Sem.run_pure]) ?_
  rw [wpOpsIn_cons]
  generalize hA4 : A3.put (some t8) (.map (some w.heap.size)) = A4
  have s4 : A4.tmps.size = N := by rw [← hA4]; simp [Act.put]; exact s3
  have g4 : A4.eval (.tmp t8) = .map (some w.heap.size) := by rw [← hA4]; simp [Act.put, Act.eval, s3, n4]
  refine wpOpIn_val (o := ⟨some t2, .assign (.tmp t8), y5, p5, a5, none⟩) rfl rfl rfl (x := .map (some w.heap.size)) (w' := W) (by simp only [execOp, g4, Sem.run_pure]) ?_
  show ∃ s' h' r', Q .normal s' ∧ Conc C N h' r' s' _ _
  have hreb : RegsOK hh (upd r t7 (.map (some w.heap.size))) (kill [t7] s).regs ac := fun t => AVRep.rebind _ _ (fun m hm => upd_ne _ _ _ _ (fun e => kill_men [t7] s t7 (by simp) t (e ▸ hm))) (hc.rg t)
  refine ⟨_, hh, upd r t7 (.map (some w.heap.size)), h, ?_, ?_, ?_, hw1⟩
  · simp [Act.put]; exact s4
  · rw [← hA4, ← hA3, ← hA2, ← hA1]; exact hc.df
  · have m1 := hreb.put (dst := some t5) (fun d' e => by cases e; omega) (v := .junk) (x := .map (some k)) trivial
    rw [hA1] at m1
    have m2 := m1.put (dst := some t6) (fun d' e => by cases e; omega) (v := .junk) (x := .iface T (.map (some k))) trivial
    rw [hA2] at m2
    have m3 := m2.put (dst := some t7) (fun d' e => by cases e; omega) (v := .junk) (x := .iface T (.map (some w.heap.size))) trivial
    rw [hA3] at m3
    have hv : AVRep hh (upd r t7 (.map (some w.heap.size))) (.vec t7) (.map (some w.heap.size)) := (upd_same r t7 _).symm
    have m4 := m3.put (dst := some t8) (fun d' e => by cases e; omega) hv
    rw [hA4] at m4
    exact m4.put (dst := some t2) (fun d' e => by cases e; omega) hv
end Go.AM
end

section
/- maps.DeleteFunc, from its code: the one loop that takes entries out of the map that it ranges over. -/
namespace Go.AM
open Go Go.RowKit Go.MapKept
/-- a call of a function with what it has captured -/
theorem Eff.callFn {P : Program} {dst : Option Nat} {ty : TypeId} {pos : String} {af : Array Edge} {gd : Option (Nat × Bool)} {d : Nat} {ρ : Operand → AV} {own : Own} {f : FuncId} {caps : List (List DV)} {c : Operand} {args : Array Operand} {tys : Array TypeId} {res : AV}
    (hx : ρ c = .fn f caps) (hc : Call0 P f (args.toList.map ρ ++ caps.map .ip) res) :
    Eff P ⟨dst, .call ⟨.value c, args, tys⟩, ty, pos, af, gd⟩ d ρ own res [] none [] := by
  intro C h r own' a w K Q hrep hrd hw _ hK
  have e1 := hrep c (by simp [Op.operands, Call.operands])
  rw [hx] at e1
  obtain ⟨lb, e2, e3⟩ := e1
  unfold Oper.wp
  have hrun : (execOp a.eval ⟨dst, .call ⟨.value c, args, tys⟩, ty, pos, af, gd⟩).run P w = .ok (.enter f (args.map a.eval ++ lb)) w := by
    simp only [execOp, resolve, Sem.run_bind, e2, Deferred.ofValue, Sem.run_pure, Result.andThen_ok, invoke, Array.empty_append]
    exact run_callFunc hc.fn _ w
  rw [hrun]
  refine Calls.mono (hc.go h r w (args.map a.eval ++ lb) ?_ (hw.before fun m hm => absurd rfl hm)) ?_
  · rw [Array.toList_append, Array.toList_map]
    have h1 := repArgs_map (h := h) (r := r) (ρ := ρ) (a := a) args.toList fun x hx => hrep x (by simp only [Op.operands, Call.operands]; exact Array.mem_append.2 (.inr (Array.mem_toList_iff.1 hx)))
    have h2 : ∀ (cs : List (List DV)) (xs : List Value), CapsRep h cs xs → RepArgs h r (cs.map .ip) xs := by
      intro cs
      induction cs with
      | nil => intro xs k; cases xs with | nil => trivial | cons _ _ => exact k.elim
      | cons c cs ih => intro xs k; cases xs with | nil => exact k.elim | cons x xs => exact ⟨k.1, ih xs k.2⟩
    have h3 : ∀ (us : List AV) (xs : List Value) (bs : List AV) (ys : List Value), RepArgs h r us xs → RepArgs h r bs ys → RepArgs h r (us ++ bs) (xs ++ ys) := by
      intro us
      induction us with
      | nil => intro xs bs ys k q; cases xs with | nil => exact q | cons _ _ => exact k.elim
      | cons c cs ih => intro xs bs ys k q; cases xs with | nil => exact k.elim | cons x xs => exact ⟨k.1, ih xs bs ys k.2 q⟩
    exact h3 _ _ _ _ h1 (h2 _ _ e3)
  · rintro e w' ⟨v, h', rfl, hv, hq⟩
    exact hK v h' r w' hq.hg (fun _ _ => rfl) hv (hw.after (fun m hm => absurd rfl hm) hq (fun m => by simp [nown, applySt]) (fun m b hm => absurd rfl hm))
/-- a block that nobody speaks of has been written -/
theorem WOK.side {C : Ctx} {h : Hp} {r : Nat → Value} {own : Own} {w w' : World} (k : WOK C h r own w) {i : Nat} (hs : SameBut i w w') (h1 : h i = none) (h2 : C.w0.heap.size ≤ i) (h3 : ∀ m, own m ≠ none → hblk (r m) ≠ some i) : WOK C h r own w' :=
  ⟨fun m b e => (k.ow m b e).world fun j hj => hs.rest j fun q => h3 m (by rw [e]; simp) (q ▸ hj), k.inj, fun j o e => by rw [hs.rest j fun q => by subst q; rw [h1] at e; cases e]; exact k.hi j o e, k.ho, hs.os.trans k.os, hs.tape.trans k.tape, hs.output.trans k.output,
    by rw [hs.size]; exact k.size, fun j hj hf => by rw [hs.rest j (by omega)]; exact k.old j hj hf, k.fo, k.hg, k.hn, k.gl, k.kp, fun m b j e hj => by
      obtain ⟨q, t, g1, g2⟩ := k.lk m b j e hj
      exact ⟨q, t, g1, by rw [hs.rest q fun x => h3 m (by rw [e]; simp) (by rw [g1, x]; rfl)]; exact g2⟩⟩
theorem wpIn_loopX {P : Program} {F : Fence} {nn : Nat} {ι : Type} {c : Code} {Q : Exit → Act → World → Prop} (J : ι → Act → World → Prop) (μ : ι → Nat)
    (round : ∀ i a w, J i a w → c.wpIn F nn P (fun e a' w' => match e with | .normal => ∃ j, μ j < μ i ∧ J j a' w' | e => Q e a' w') a w) (i₀ : ι) (a : Act) (w : World) (h₀ : J i₀ a w) : (Code.loop c).wpIn F nn P Q a w := by
  intro b k cs hro hfn hroom
  have key : ∀ n i a w, μ i = n → J i a w → ∃ e a' w', Q e a' w' ∧ ArrivesIn (Machine.fenced P F) P (lone (b.atR a (.code c :: .inLoop c :: k)) cs w) b k cs e a' w' := by
    intro n
    induction n using Nat.strongRecOn with
    | _ n ih =>
      intro i a w hμ hJ
      obtain ⟨e, a₁, w₁, hq, harr⟩ := round i a w hJ b (.inLoop c :: k) cs hro hfn hroom
      cases e with
      | normal =>
        obtain ⟨j, hlt, hj⟩ := hq
        obtain ⟨e₂, a₂, w₂, hq₂, harr₂⟩ := ih (μ j) (hμ ▸ hlt) j a₁ w₁ rfl hj
        exact ⟨e₂, a₂, w₂, hq₂, .of_steps (StepsIn.trans harr (.one (fenced_calm hfn hroom rfl) stepR_inLoop)) harr₂⟩
      | exit id => exact ⟨_, a₁, w₁, hq, .pass (x := .inLoop c) rfl (fun _ _ => .inl (by simp)) harr⟩
      | goto l => exact ⟨_, a₁, w₁, hq, .pass (x := .inLoop c) rfl (fun _ _ => .inl (by simp)) harr⟩
      | ret => exact ⟨_, a₁, w₁, hq, .pass (x := .inLoop c) rfl (fun _ _ => .inl (by simp)) harr⟩
      | panic ch => exact ⟨_, a₁, w₁, hq, .pass (x := .inLoop c) rfl (fun _ _ => .inl (by simp)) harr⟩
      | outgrown => exact ⟨_, a₁, w₁, hq, .pass (x := .inLoop c) rfl (fun _ _ => .inl (by simp)) harr⟩
  obtain ⟨e, a', w', hq, harr⟩ := key _ i₀ a w rfl h₀
  exact ⟨e, a', w', hq, .of_steps (.one (fenced_calm hfn hroom rfl) stepR_loop) harr⟩
section del
variable {P : Program} {tt : TT} (hT : TTok P tt) {κ : Type} [DecidableEq κ] {kv : κ → Value}
variable {T kt et : Nat} {i j : TyI} {gf : FuncId} {caps : List (List DV)} {M : MM κ} {pd : κ → Bool}
theorem find_spec {es : Array MapEntry} {clk : Nat} {d : TypeDesc} {e : MapEntry} (hs : MapOK es clk) (hk : ∀ x ∈ es.toList, IsKey d x.key) (he : e ∈ es.toList) :
    ∃ q, Instr.findNow d e.key es.toList 0 = some (some (q, e.val)) ∧ es[q]? = some e := by
  rcases findNow_spec (hk e he) es.toList 0 hk with ⟨_, h2⟩ | ⟨q, x, h1, h2, h3⟩
  · exact absurd rfl (h2 e he)
  · have hx : x = e := by
      have hm := List.mem_of_getElem? h2
      have hn := ((stamped_iff _ _).1 hs).2.2
      exact entry_eq_of_key hn hm he h3
    subst hx
    exact ⟨q, by simpa using h1, by simpa using h2⟩
theorem erase_toList {es : Array MapEntry} {q : Nat} {e : MapEntry} (h : es[q]? = some e) : (es.eraseIdxIfInBounds q).toList = es.toList.take q ++ es.toList.drop (q + 1) ∧ es.toList = es.toList.take q ++ e :: es.toList.drop (q + 1) := by
  have h' : es.toList[q]? = some e := by simpa using h
  have hlt := (List.getElem?_eq_some_iff.1 h').1
  have hlt' : q < es.size := by simpa using hlt
  constructor
  · unfold Array.eraseIdxIfInBounds
    rw [dif_pos hlt', Array.toList_eraseIdx, List.eraseIdx_eq_take_drop_succ]
  · have := List.take_append_drop q es.toList
    rw [List.drop_eq_getElem_cons hlt, (List.getElem?_eq_some_iff.1 h').2] at this
    exact this.symm
end del
end Go.AM
end

section
/- maps.DeleteFunc: its contract. -/
namespace Go.AM
open Go Go.RowKit Go.MapKept
theorem ev_put {a : Act} {d t : Nat} {x : Value} (hd : d < a.tmps.size) : (a.put (some d) x).eval (.tmp t) = if t = d then x else a.eval (.tmp t) := by
  show (a.tmps.setIfInBounds d x).getD t undef = _
  rw [getD_setIfInBounds _ _ _ _ hd]; rfl
theorem size_put {a : Act} {d : Nat} {x : Value} : (a.put (some d) x).tmps.size = a.tmps.size := by simp [Act.put]
section del
variable {P : Program} {tt : TT} (hT : TTok P tt) {κ : Type} [DecidableEq κ] {kv : κ → Value}
variable {T kt et : Nat} {i j : TyI} {gf : FuncId} {caps : List (List DV)} {M : MM κ} {pd : κ → Bool}
/-- the act, as far as the loop looks at it -/
structure DelA (C : Ctx) (h : Hp) (r : Nat → Value) (m k0 : Nat) (fv : Value) (ac : Act) : Prop where
  sz : ac.tmps.size = 19
  df : Marks C h ac.defers
  e0 : ac.eval (.tmp 0) = r m
  e1 : ac.eval (.tmp 1) = fv
  e7 : ac.eval (.tmp 7) = .pointer (some ⟨k0, 0, none⟩)
theorem DelA.put {C : Ctx} {h : Hp} {r : Nat → Value} {m k0 : Nat} {fv : Value} {ac : Act} (k : DelA C h r m k0 fv ac) {d : Nat} (x : Value) (hd : (Nat.blt d 19 && !Nat.beq 0 d && !Nat.beq 1 d && !Nat.beq 7 d) = true) : DelA C h r m k0 fv (ac.put (some d) x) := by
  simp only [Bool.and_eq_true, Nat.blt_eq, Bool.not_eq_true'] at hd
  obtain ⟨⟨⟨h1, h2⟩, h3⟩, h4⟩ := hd
  have ne : ∀ {p q : Nat}, Nat.beq p q = false → p ≠ q := fun h e => by rw [e, Nat.beq_refl] at h; cases h
  have hs : d < ac.tmps.size := by rw [k.sz]; exact h1
  exact ⟨by rw [size_put]; exact k.sz, k.df, by rw [ev_put hs, if_neg (ne h2)]; exact k.e0, by rw [ev_put hs, if_neg (ne h3)]; exact k.e1, by rw [ev_put hs, if_neg (ne h4)]; exact k.e7⟩
/-- the world, as far as the loop looks at it -/
structure DelW (C : Ctx) (h : Hp) (r : Nat → Value) (m bm k0 : Nat) (V L : List En) (w : World) : Prop where
  rm : r m = .map (some bm)
  wk : WOK C h r (upd O m (some (MB none (V ++ L)))) w
  ew : EW none (V ++ L)
  hk : h k0 = none
  k1 : C.w0.heap.size ≤ k0
  kn : k0 ≠ bm
  it : ∃ es clk since seen lV lL, w.heap[bm]? = some (.map es clk) ∧ MapOK es clk ∧ w.heap[k0]? = some (.mapIter (some bm) since seen clk) ∧ since ≤ clk ∧ (∀ x ∈ es.toList, x.born < since) ∧
    es.toList.Perm (lV ++ lL) ∧ ERepL h none V lV ∧ ERepL h none L lL ∧ (∀ x ∈ lV, seen.contains x.born = true) ∧ (∀ x ∈ lL, seen.contains x.born = false)
/-- the loop's step: nothing is left, or an entry comes and stands with those that stay -/
theorem DelW.next {C : Ctx} {h : Hp} {r : Nat → Value} {m bm k0 : Nat} {V L : List En} {w : World} (k : DelW C h r m bm k0 V L w) (ty : TypeId) :
    (L = [] ∧ (Instr.next (.pointer (some ⟨k0, 0, none⟩)) false ty).run P w = .ok (.tuple #[.bool false]) w) ∨
    ∃ c rest key val w', L.Perm (c :: rest) ∧ DelW C h r m bm k0 (c :: V) rest w' ∧ (Instr.next (.pointer (some ⟨k0, 0, none⟩)) false ty).run P w = .ok (.tuple #[.bool true, key, val]) w' ∧
      (Instr.entry (.pointer (some ⟨k0, 0, none⟩))).run P w' = .ok (.tuple #[key, val]) w' ∧ key = c.1 ∧ DRep h (.v c.1) key ∧ PRep h (pvM none c.2) val := by
  obtain ⟨es, clk, since, seen, lV, lL, f1, f2, f3, f4, f5, f6, f7, f8, f9, f10⟩ := k.it
  have hleft : (es.toList.filter fun e => !seen.contains e.born).Perm lL := by
    have := f6.filter (fun e => !seen.contains e.born)
    have h1 : lV.filter (fun e => !seen.contains e.born) = [] := List.filter_eq_nil_iff.2 (fun x hx => by rw [f9 x hx]; simp)
    have h2 : lL.filter (fun e => !seen.contains e.born) = lL := List.filter_eq_self.2 (fun x hx => by rw [f10 x hx]; rfl)
    rw [List.filter_append, h1, h2, List.nil_append] at this
    exact this
  rcases run_next_at (P := P) w ty k0 bm since clk seen es clk f3 f1 f5 f4 with ⟨z1, z2⟩ | ⟨e, z1, w1, z2, z3⟩
  · refine .inl ⟨?_, z2⟩
    have h1 := hleft.length_eq
    unfold leftOf at z1
    rw [← Array.length_toList, Array.toList_filter] at z1
    have h2 := f8.len
    exact List.eq_nil_of_length_eq_zero (by omega)
  · right
    have ze : e ∈ lL := by
      refine hleft.mem_iff.1 ?_
      unfold leftOf at z1
      rwa [Array.toList_filter] at z1
    have zes : e ∈ es.toList := f6.mem_iff.2 (by simp [ze])
    have hnd := ((stamped_iff _ _).1 f2).2.1
    obtain ⟨l2, hl2⟩ : ∃ l2, lL.Perm (e :: l2) := by
      obtain ⟨u, v, rfl⟩ := List.append_of_mem ze
      exact ⟨u ++ v, List.perm_middle⟩
    obtain ⟨F, p1, p2⟩ := f8.perm' hl2
    match F, p2 with
    | [], q => exact q.elim
    | c :: rest, q =>
      have hwq : WOK C h r (upd O m (some (MB none (V ++ L)))) w1 := by
        rcases z2 with rfl | rfl
        · exact k.wk
        · exact k.wk.drew
      have hheap : w1.heap = w.heap := by rcases z2 with rfl | rfl <;> rfl
      have f3' : w1.heap[k0]? = some (.mapIter (some bm) since seen clk) := by rw [hheap]; exact f3
      have f1' : w1.heap[bm]? = some (.map es clk) := by rw [hheap]; exact f1
      obtain ⟨s1, s2⟩ := sameBut_set (o' := .mapIter (some bm) since (seen.push e.born) clk) f3'
      have hperm : (V ++ L).Perm (c :: V ++ rest) := (p1.symm.append_left V).trans List.perm_middle
      have hew : EW none (c :: V ++ rest) := fun x hx => k.ew x (hperm.mem_iff.2 hx)
      have hwo := hwq.side s1 k.hk k.k1 (fun q' hq' e' => by
        have : q' = m := by
          by_cases hqm : q' = m
          · exact hqm
          · rw [upd_ne _ _ _ _ hqm] at hq'; exact absurd rfl hq'
        subst this
        rw [k.rm] at e'; cases e'; exact k.kn rfl)
      have hbm' : ({ w1 with heap := w1.heap.setIfInBounds k0 (.mapIter (some bm) since (seen.push e.born) clk) } : World).heap[bm]? = some (.map es clk) := by
        rw [s1.rest bm (fun x => k.kn x.symm)]; exact f1'
      have hen : es.toList.Perm (e :: lV ++ l2) := f6.trans ((hl2.append_left lV).trans List.perm_middle)
      refine ⟨c, rest, e.key, e.val, _, p1.symm, ⟨k.rm, ?_, hew, k.hk, k.k1, k.kn, es, clk, since, seen.push e.born, e :: lV, l2, hbm', f2, s2, f4, f5, hen, ⟨q.1, f7⟩, q.2, ?_, ?_⟩, z3, ?_, q.1.1, ⟨q.1.1, q.1.2.1⟩, ?_⟩
      · have := hwo.write (m := m) (i := bm) (by rw [upd_same]; simp) (by rw [k.rm]; rfl) (.refl _ _) (b := MB none (c :: V ++ rest)) ((mb_rep hew).2 ⟨bm, es, clk, k.rm, hbm', f2, e :: lV ++ l2, hen.symm, ⟨q.1, f7.app q.2⟩⟩) (fun j hj => by cases hj)
        have e2 : upd (upd O m (some (MB none (V ++ L)))) m (some (MB none (c :: V ++ rest))) = upd O m (some (MB none (c :: V ++ rest))) := by
          funext p
          by_cases hp : p = m
          · subst hp; simp
          · rw [upd_ne _ _ _ _ hp, upd_ne _ _ _ _ hp, upd_ne _ _ _ _ hp]
        rw [e2] at this; exact this
      · intro x hx
        rw [Array.contains_push]
        rcases List.mem_cons.1 hx with rfl | hx
        · simp
        · rw [f9 x hx]; rfl
      · intro x hx
        rw [Array.contains_push, f10 x (hl2.mem_iff.2 (by simp [hx]))]
        have : x.born ≠ e.born := fun q' => by
          have h3 : ((e :: lV ++ l2).map (·.born)).Nodup := (hen.map _).nodup_iff.1 hnd
          simp only [List.cons_append, List.map_cons, List.map_append, List.nodup_cons] at h3
          exact h3.1 (List.mem_append.2 (.inr (List.mem_map.2 ⟨x, hx, q'⟩)))
        simp [this]
      · have hf : es.find? (fun x => x.born == e.born) = some e := by
          rw [← Array.find?_toList]; exact find_born e es.toList hnd zes
        show (Instr.entry _).run P ({ w1 with heap := w1.heap.setIfInBounds k0 (.mapIter (some bm) since (seen.push e.born) clk) } : World) = .ok _ ({ w1 with heap := w1.heap.setIfInBounds k0 (.mapIter (some bm) since (seen.push e.born) clk) } : World)
        have s2' := s2
        have hb2 := hbm'
        revert s2' hb2
        generalize ({ w1 with heap := w1.heap.setIfInBounds k0 (.mapIter (some bm) since (seen.push e.born) clk) } : World) = W
        intro s2' hb2
        have g1 : (getObj k0).run P W = .ok (.mapIter (some bm) since (seen.push e.born) clk) W := by simp only [getObj, Sem.run, s2']
        have g2 := MapKept.run_getObj_map (P := P) hb2
        simp [Instr.entry, g1, g2, hf, Result.andThen]
      · exact pvM_rep q.1.2.2.1 (by have := q.1.2.2.1; simp only [mw] at this; omega) q.1.2.2.2
/-- an entry is taken out -/
theorem DelW.del {C : Ctx} {h : Hp} {r : Nat → Value} {m bm k0 : Nat} {V L : List En} {c : En} {w : World} (k : DelW C h r m bm k0 (c :: V) L w) (hu : P.underlying T = some (.map kt et)) {d : TypeDesc} (hd : P.underlying kt = some d) (hk : ∀ x ∈ c :: V ++ L, IsKey d x.1) {key : Value} (hkey : key = c.1) {tyk : TypeId} (ty : TypeId) :
    ∃ w', (Builtin.delete_ #[T, tyk] ty #[r m, key]).run P w = .ok (.tuple #[]) w' ∧ DelW C h r m bm k0 V L w' := by
  subst hkey
  obtain ⟨es, clk, since, seen, lV, lL, f1, f2, f3, f4, f5, f6, f7, f8, f9, f10⟩ := k.it
  match lV, f7 with
  | [], q => exact q.elim
  | e :: lV, f7 =>
    have zes : e ∈ es.toList := f6.mem_iff.2 (by simp)
    have hke : e.key = c.1 := f7.1.1
    have hks : ∀ x ∈ es.toList, IsKey d x.key := fun x hx => by
      have hx' := f6.mem_iff.1 hx
      obtain ⟨y, y1, y2⟩ := (f7.app f8).mem_l x hx'
      rw [y2.1]; exact hk y (by simpa using y1)
    obtain ⟨q, g1, g2⟩ := find_spec f2 hks zes
    obtain ⟨t1, t2⟩ := erase_toList g2
    obtain ⟨s1, s2⟩ := sameBut_set (o' := .map (es.eraseIdxIfInBounds q) clk) f1
    have hkk : IsKey d c.1 := hk c (by simp)
    rw [hke] at g1
    refine ⟨{ w with heap := w.heap.setIfInBounds bm (.map (es.eraseIdxIfInBounds q) clk) }, ?_, ?_⟩
    · rw [k.rm]
      simp [Builtin.delete_, run_underlying hu, MapKept.run_getObj_map f1, run_checkKey hd hkk, run_findKey hd g1, run_setObj_map _ f1, Result.andThen]
    · have hperm : (es.eraseIdxIfInBounds q).toList.Perm (lV ++ lL) := by
        rw [t1]
        rw [t2] at f6
        exact (List.perm_middle.symm.trans f6).cons_inv
      have hew : EW none (V ++ L) := fun x hx => k.ew x (by simp only [List.cons_append, List.mem_cons]; exact .inr hx)
      have hok := stamped_erase f2 q
      have hb0 : ({ w with heap := w.heap.setIfInBounds bm (.map (es.eraseIdxIfInBounds q) clk) } : World).heap[k0]? = some (.mapIter (some bm) since seen clk) := by
        rw [s1.rest k0 k.kn]; exact f3
      refine ⟨k.rm, ?_, hew, k.hk, k.k1, k.kn, es.eraseIdxIfInBounds q, clk, since, seen, lV, lL, s2, hok, hb0, f4, fun x hx => ?_, hperm, f7.2, f8, fun x hx => f9 x (by simp [hx]), f10⟩
      · have := k.wk.write (m := m) (i := bm) (by rw [upd_same]; simp) (by rw [k.rm]; rfl) s1 (b := MB none (V ++ L)) ((mb_rep hew).2 ⟨bm, _, clk, k.rm, s2, hok, lV ++ lL, hperm.symm, f7.2.app f8⟩) (fun j hj => by cases hj)
        have e2 : upd (upd O m (some (MB none (c :: V ++ L)))) m (some (MB none (V ++ L))) = upd O m (some (MB none (V ++ L))) := by
          funext p
          by_cases hp : p = m
          · subst hp; simp
          · rw [upd_ne _ _ _ _ hp, upd_ne _ _ _ _ hp, upd_ne _ _ _ _ hp]
        rw [e2] at this; exact this
      · refine f5 x ?_
        rw [t2]; rw [t1] at hx
        rcases List.mem_append.1 hx with hx | hx
        · simp [hx]
        · simp [hx]
end del
end Go.AM
end

section
/- maps.DeleteFunc: the walk of its code. -/
namespace Go.AM
open Go Go.RowKit Go.MapKept
section del
variable {P : Program} {tt : TT} (hT : TTok P tt) {κ : Type} {kv : κ → Value}
variable {T kt et : Nat} {i j : TyI} {gf : FuncId} {caps : List (List DV)} {M : MM κ} {pd : κ → Bool}
include hT in
theorem AWp_delLoop {B : Bool} {np m : Nat} {Q : Exit → St → Prop} {i0 i1 i2 i3 i4 b0 b1 : Nat} {y1 y2 y3 y4 y5 y6 y7 y8 y9 z1 z2 z3 z4 z5 z6 z7 : TypeId} {p1 p2 p3 p4 p5 p6 p7 p8 p9 q1 q2 q3 q4 q5 q6 q7 : String} {a1 a2 a3 a4 a5 a6 a7 a8 a9 c1 c2 c3 c4 c5 c6 c7 : Array Edge} {tys : Array TypeId} {tyk : TypeId}
    (ht : tt T = some i) (hs : i.sh = .mp kt et) (hk : tt kt = some j) (hjk : isKd j.sh = true) (K : KeyT (kdOf j.sh) kv) (hw0 : EW none (enE kv M))
    (hc : ∀ p ∈ M, Call0 P gf ([.p (.c (.v (kv p.1))), .p (pvM none p.2)] ++ caps.map .ip) (.p (.c (.v (.bool (pd p.1))))))
    (hQ : Q .normal ⟨fun _ => .junk, upd O m (some (MB none (enE kv (M.filter fun p => !pd p.1))))⟩) :
    AWp P B 19 np (.seq (.region i0 #[⟨some 6, .move (.tmp 0), y1, p1, a1, none⟩, ⟨some 7, .range T (.tmp 6), y2, p2, a2, none⟩] false)
      (.block b0 (.loop (.seq (.region i1 #[⟨some 8, .next (.tmp 7) false, y3, p3, a3, none⟩, ⟨some 9, .extract (.tmp 8) 0, y4, p4, a4, none⟩] false)
        (.seq (.cond (.tmp 9) .skip (.exit b0)) (.block b1 (.seq
          (.region i2 #[⟨some 10, .entry (.tmp 7), y5, p5, a5, none⟩, ⟨some 11, .extract (.tmp 10) 0, y6, p6, a6, none⟩, ⟨some 12, .extract (.tmp 10) 1, y7, p7, a7, none⟩, ⟨some 4, .assign (.tmp 11), y8, p8, a8, none⟩, ⟨some 5, .assign (.tmp 12), y9, p9, a9, none⟩] false)
          (.seq (.region i3 #[⟨some 13, .move (.tmp 1), z1, q1, c1, none⟩, ⟨some 14, .move (.tmp 4), z2, q2, c2, none⟩, ⟨some 15, .move (.tmp 5), z3, q3, c3, none⟩, ⟨some 16, .call ⟨.value (.tmp 13), #[.tmp 14, .tmp 15], tys⟩, z4, q4, c4, none⟩] false)
            (.cond (.tmp 16) (.region i4 #[⟨some 17, .move (.tmp 0), z5, q5, c5, none⟩, ⟨some 18, .move (.tmp 4), z6, q6, c6, none⟩, ⟨none, .call ⟨.builtin .delete, #[.tmp 17, .tmp 18], #[T, tyk]⟩, z7, q7, c7, none⟩] false) .skip)))))))))
      Q ⟨fun t => [AV.vec m, .fn gf caps].getD t .junk, upd O m (some (MB none (enE kv M)))⟩ := by
  intro ro hB C hh r ac w hn hcc
  have hu := (hT T i ht).map hs
  have hd := (hT kt j hk).kd hjk
  have hs0 : ac.tmps.size = 19 := hcc.sz
  have e0 : ac.eval (.tmp 0) = r m := hcc.rg 0
  have e1 : AVRep hh r (.fn gf caps) (ac.eval (.tmp 1)) := hcc.rg 1
  obtain ⟨bm, es, clk, rm, hbm, hok, l0, hl0, hE0⟩ := (mb_rep hw0).1 (hcc.wk.ow m _ (show upd O m _ m = _ from upd_same _ _ _))
  -- the loop's start
  refine wpIn_seq ?_
  apply wpIn_region
  show wpOpsIn (Wd ro) 0 P _ _ [0, 1] ac w
  rw [wpOpsIn_cons]
  refine wpOpIn_val (o := ⟨some 6, .move (.tmp 0), y1, p1, a1, none⟩) rfl rfl rfl (x := r m) (w' := w) (by simp only [execOp, e0, Sem.run_pure]) ?_
  rw [wpOpsIn_cons]
  have g6 : (ac.put (some 6) (r m)).eval (.tmp 6) = .map (some bm) := by rw [ev_put (by omega), if_pos rfl, rm]
  refine wpOpIn_val (o := ⟨some 7, .range T (.tmp 6), y2, p2, a2, none⟩) rfl rfl rfl (x := .pointer (some ⟨w.heap.size, 0, none⟩)) (w' := w.alloc (.mapIter (some bm) clk #[] clk)) (by
    simp only [execOp, g6, Sem.run_bind, run_range_map w T kt et bm es clk hu hbm, Result.andThen_ok, Sem.run_pure]) ?_
  show Exit.then _ _ .normal _ _
  generalize hfv : ac.eval (.tmp 1) = fv at e1
  have A0 : DelA C hh r m w.heap.size fv ((ac.put (some 6) (r m)).put (some 7) (.pointer (some ⟨w.heap.size, 0, none⟩))) :=
    ⟨by rw [size_put, size_put]; exact hs0, hcc.df, by rw [ev_put (by rw [size_put]; omega), if_neg (by decide), ev_put (by omega), if_neg (by decide)]; exact e0,
      by rw [ev_put (by rw [size_put]; omega), if_neg (by decide), ev_put (by omega), if_neg (by decide)]; exact hfv, by rw [ev_put (by rw [size_put]; omega), if_pos rfl]⟩
  have hlt : bm < w.heap.size := (Array.getElem?_eq_some_iff.1 hbm).1
  have W0 : DelW C hh r m bm w.heap.size [] (enE kv M) (w.alloc (.mapIter (some bm) clk #[] clk)) := by
    refine ⟨rm, ?_, hw0, ?_, hcc.wk.size, fun e => by omega, es, clk, clk, #[], [], l0, ?_, hok, by rw [AM.heap_alloc, if_pos rfl], Nat.le_refl _, hok.1, hl0.symm, trivial, hE0, (fun x hx => by cases hx), (fun x _ => by simp)⟩
    · exact hcc.wk.beside rfl rfl (.refl _) (by show _ ≤ (w.heap.push _).size; simp) fun q hq => by rw [AM.heap_alloc, if_neg (by omega)]
    · cases e : hh w.heap.size with
      | none => rfl
      | some o => exact absurd (hcc.wk.hlt e) (Nat.lt_irrefl _)
    · rw [AM.heap_alloc, if_neg (by omega)]; exact hbm
  generalize w.heap.size = k0 at A0 W0
  generalize (ac.put (some 6) (r m)).put (some 7) (.pointer (some ⟨k0, 0, none⟩)) = ac0 at A0 ⊢
  generalize w.alloc (.mapIter (some bm) clk #[] clk) = wr0 at W0 ⊢
  -- the rounds
  refine wpIn_block ?_
  refine wpIn_loopX (ι := List En × MM κ × MM κ) (fun v a' w' => ∃ h, Hle C.h0 h ∧ (∀ x, AVRep hh r (.fn gf caps) x → AVRep h r (.fn gf caps) x) ∧ DelA C h r m k0 fv a' ∧ DelW C h r m bm k0 v.1 (enE kv v.2.1) w' ∧ (v.2.2 ++ v.2.1).Perm M ∧ v.1.Perm (enE kv (v.2.2.filter fun p => !pd p.1)))
    (fun v => v.2.1.length) ?_ ([], M, []) ac0 wr0 ⟨hh, hcc.wk.hg, fun _ q => q, A0, W0, by simp, by simp [enE]⟩
  rintro ⟨V, L, D⟩ a' w' ⟨h, hg, hfn, A, W, hp1, hp2⟩
  simp only at A W hp1 hp2
  refine wpIn_seq ?_
  apply wpIn_region
  show wpOpsIn (Wd ro) 0 P _ _ [0, 1] a' w'
  rw [wpOpsIn_cons]
  have fin : ∀ (vs : List Value) (g : Bool) (w1 : World), (Instr.next (.pointer (some ⟨k0, 0, none⟩)) false y3).run P w' = .ok (.tuple (.bool g :: vs).toArray) w1 →
      ∀ (R : Exit → Act → World → Prop), (∀ b', (∀ h', DelA C h' r m k0 fv a' → DelA C h' r m k0 fv b') → b'.eval (.tmp 9) = .bool g → R .normal b' w1) →
      wpOpIn (Wd ro) 0 P #[⟨some 8, .next (.tmp 7) false, y3, p3, a3, none⟩, ⟨some 9, .extract (.tmp 8) 0, y4, p4, a4, none⟩] R 0
        (wpOpsIn (Wd ro) 0 P #[⟨some 8, .next (.tmp 7) false, y3, p3, a3, none⟩, ⟨some 9, .extract (.tmp 8) 0, y4, p4, a4, none⟩] R [1]) a' w' := by
    intro vs g w1 hrun R hR
    refine wpOpIn_val (o := ⟨some 8, .next (.tmp 7) false, y3, p3, a3, none⟩) rfl rfl rfl (x := .tuple (.bool g :: vs).toArray) (w' := w1) (by simp only [execOp, A.e7, Sem.run_bind, hrun, Result.andThen_ok, Sem.run_pure]) ?_
    rw [wpOpsIn_cons]
    have g1 : (a'.put (some 8) (.tuple (.bool g :: vs).toArray)).eval (.tmp 8) = .tuple (.bool g :: vs).toArray := by rw [ev_put (by rw [A.sz]; decide), if_pos rfl]
    refine wpOpIn_val (o := ⟨some 9, .extract (.tmp 8) 0, y4, p4, a4, none⟩) rfl rfl rfl (x := .bool g) (w' := w1) (by simp only [execOp, g1]; simp [Instr.extract]) ?_
    exact hR _ (fun h' q => (q.put _ rfl).put _ rfl) (by rw [ev_put (by rw [size_put, A.sz]; decide), if_pos rfl])
  rcases W.next (P := P) y3 with ⟨hL, hrun⟩ | ⟨c, rest, key, val, w1, hperm, W1, hrun, hent, hkey, hk1, hv1⟩
  · -- nothing is left
    refine fin [] false w' hrun _ fun b' hb' h9 => ?_
    show Exit.then _ _ .normal _ _
    refine wpIn_seq ?_
    refine wpIn_cond_false h9 (wpIn_exit ?_)
    show Exit.inBlock b0 (fun e a' w' => ∃ s' h' r', Q e s' ∧ Conc C 19 h' r' s' a' w') (.exit b0) b' w'
    simp only [Exit.inBlock]
    rw [if_pos trivial]
    have hLn : L = [] := by
      cases L with
      | nil => rfl
      | cons x L => simp [enE] at hL
    subst hLn
    refine ⟨_, h, r, hQ, (hb' h A).sz, (hb' h A).df, fun t => trivial, ?_⟩
    have hpm : (V ++ enE kv []).Perm (enE kv (M.filter fun p => !pd p.1)) := by
      simp only [enE, List.map_nil, List.append_nil]
      simp only [List.append_nil] at hp1
      exact hp2.trans ((hp1.filter _).map _)
    obtain ⟨b2, es2, clk2, r2, r3, r4, r5⟩ := (mb_rep W.ew).1 (W.wk.ow m _ (upd_same _ _ _))
    have hew2 : EW none (enE kv (M.filter fun p => !pd p.1)) := fun x hx => W.ew x (hpm.mem_iff.2 hx)
    have := W.wk.write (m := m) (i := b2) (by rw [upd_same]; simp) (by rw [r2]; rfl) (.refl _ _) (b := MB none (enE kv (M.filter fun p => !pd p.1))) ((mb_rep hew2).2 ⟨b2, es2, clk2, r2, r3, r4, r5.perm hpm⟩) (fun j hj => by cases hj)
    have e2 : upd (upd O m (some (MB none (V ++ enE kv [])))) m (some (MB none (enE kv (M.filter fun p => !pd p.1)))) = upd O m (some (MB none (enE kv (M.filter fun p => !pd p.1)))) := by
      funext p
      by_cases hp : p = m
      · subst hp; simp
      · rw [upd_ne _ _ _ _ hp, upd_ne _ _ _ _ hp, upd_ne _ _ _ _ hp]
    rw [e2] at this; exact this
  · -- an entry has come
    obtain ⟨x, hxL, hxc⟩ : ∃ x ∈ L, (kv x.1, x.2) = c := by
      have : c ∈ enE kv L := hperm.mem_iff.2 (by simp)
      obtain ⟨x, h1, h2⟩ := List.mem_map.1 this
      exact ⟨x, h1, h2⟩
    obtain ⟨L2, hL2⟩ : ∃ L2, L.Perm (x :: L2) := by
      obtain ⟨u, v, rfl⟩ := List.append_of_mem hxL
      exact ⟨u ++ v, List.perm_middle⟩
    have hrest : rest.Perm (enE kv L2) := by
      have h1 : (enE kv L).Perm (c :: enE kv L2) := by
        have := hL2.map (fun p => (kv p.1, p.2))
        rw [List.map_cons, hxc] at this
        exact this
      exact (hperm.symm.trans h1).cons_inv
    have W1' : DelW C h r m bm k0 (c :: V) (enE kv L2) w1 := by
      obtain ⟨es', clk', since', seen', lV', lL', f1, f2, f3, f4, f5, f6, f7, f8, f9, f10⟩ := W1.it
      obtain ⟨lL2, g1, g2⟩ := f8.perm hrest
      have hew : EW none (c :: V ++ enE kv L2) := fun y hy => W1.ew y (by
        simp only [List.cons_append, List.mem_cons, List.mem_append] at hy ⊢
        exact hy.imp id (Or.imp id hrest.mem_iff.2))
      refine ⟨W1.rm, ?_, hew, W1.hk, W1.k1, W1.kn, es', clk', since', seen', lV', lL2, f1, f2, f3, f4, f5, f6.trans (g1.symm.append_left _), f7, g2, f9, fun y hy => f10 y (g1.mem_iff.1 hy)⟩
      have := W1.wk.write (m := m) (i := bm) (by rw [upd_same]; simp) (by rw [W1.rm]; rfl) (.refl _ _) (b := MB none (c :: V ++ enE kv L2)) ((mb_rep hew).2 ⟨bm, es', clk', W1.rm, f1, f2, lV' ++ lL2, (f6.trans (g1.symm.append_left _)).symm, f7.app g2⟩) (fun j hj => by cases hj)
      have e2 : upd (upd O m (some (MB none (c :: V ++ rest)))) m (some (MB none (c :: V ++ enE kv L2))) = upd O m (some (MB none (c :: V ++ enE kv L2))) := by
        funext p
        by_cases hp : p = m
        · subst hp; simp
        · rw [upd_ne _ _ _ _ hp, upd_ne _ _ _ _ hp, upd_ne _ _ _ _ hp]
      rw [e2] at this; exact this
    have hp1' : ((x :: D) ++ L2).Perm M := ((List.perm_middle.symm).trans (hL2.symm.append_left D)).trans hp1
    refine fin [key, val] true w1 hrun _ fun b' hb' h9 => ?_
    have A1 := hb' h A
    have hs1 := A1.sz
    show Exit.then _ _ .normal _ _
    refine wpIn_seq ?_
    refine wpIn_cond_true h9 (wpIn_skip ?_)
    show Exit.then _ _ .normal _ _
    refine wpIn_block ?_
    refine wpIn_seq ?_
    apply wpIn_region
    show wpOpsIn (Wd ro) 0 P _ _ [0, 1, 2, 3, 4] b' w1
    rw [wpOpsIn_cons]
    refine wpOpIn_val (o := ⟨some 10, .entry (.tmp 7), y5, p5, a5, none⟩) rfl rfl rfl (x := .tuple #[key, val]) (w' := w1) (by simp only [execOp, A1.e7, Sem.run_bind, hent, Result.andThen_ok, Sem.run_pure]) ?_
    rw [wpOpsIn_cons]
    have A2 := A1.put (d := 10) (.tuple #[key, val]) rfl
    have g10 : (b'.put (some 10) (.tuple #[key, val])).eval (.tmp 10) = .tuple #[key, val] := by rw [ev_put (by omega), if_pos rfl]
    generalize b'.put (some 10) (.tuple #[key, val]) = b2 at A2 g10 ⊢
    have hs2 := A2.sz
    refine wpOpIn_val (o := ⟨some 11, .extract (.tmp 10) 0, y6, p6, a6, none⟩) rfl rfl rfl (x := key) (w' := w1) (by simp only [execOp, g10]; simp [Instr.extract]) ?_
    rw [wpOpsIn_cons]
    have A3 := A2.put (d := 11) key rfl
    have g11 : (b2.put (some 11) key).eval (.tmp 11) = key := by rw [ev_put (by omega), if_pos rfl]
    have g10' : (b2.put (some 11) key).eval (.tmp 10) = .tuple #[key, val] := by rw [ev_put (by omega), if_neg (by decide)]; exact g10
    generalize b2.put (some 11) key = b3 at A3 g11 g10' ⊢
    have hs3 := A3.sz
    refine wpOpIn_val (o := ⟨some 12, .extract (.tmp 10) 1, y7, p7, a7, none⟩) rfl rfl rfl (x := val) (w' := w1) (by simp only [execOp, g10']; simp [Instr.extract]) ?_
    rw [wpOpsIn_cons]
    have A4 := A3.put (d := 12) val rfl
    have g12 : (b3.put (some 12) val).eval (.tmp 12) = val := by rw [ev_put (by omega), if_pos rfl]
    have g11' : (b3.put (some 12) val).eval (.tmp 11) = key := by rw [ev_put (by omega), if_neg (by decide)]; exact g11
    generalize b3.put (some 12) val = b4 at A4 g12 g11' ⊢
    have hs4 := A4.sz
    refine wpOpIn_val (o := ⟨some 4, .assign (.tmp 11), y8, p8, a8, none⟩) rfl rfl rfl (x := key) (w' := w1) (by simp only [execOp, g11', Sem.run_pure]) ?_
    rw [wpOpsIn_cons]
    have A5 := A4.put (d := 4) key rfl
    have g4 : (b4.put (some 4) key).eval (.tmp 4) = key := by rw [ev_put (by omega), if_pos rfl]
    have g12' : (b4.put (some 4) key).eval (.tmp 12) = val := by rw [ev_put (by omega), if_neg (by decide)]; exact g12
    generalize b4.put (some 4) key = b5 at A5 g4 g12' ⊢
    have hs5 := A5.sz
    refine wpOpIn_val (o := ⟨some 5, .assign (.tmp 12), y9, p9, a9, none⟩) rfl rfl rfl (x := val) (w' := w1) (by simp only [execOp, g12', Sem.run_pure]) ?_
    have A6 := A5.put (d := 5) val rfl
    have g5 : (b5.put (some 5) val).eval (.tmp 5) = val := by rw [ev_put (by omega), if_pos rfl]
    have g4' : (b5.put (some 5) val).eval (.tmp 4) = key := by rw [ev_put (by omega), if_neg (by decide)]; exact g4
    generalize b5.put (some 5) val = b6 at A6 g5 g4'
    have hs6 := A6.sz
    show Exit.then _ _ .normal _ _
    refine wpIn_seq ?_
    apply wpIn_region
    show wpOpsIn (Wd ro) 0 P _ _ [0, 1, 2, 3] b6 w1
    rw [wpOpsIn_cons]
    refine wpOpIn_val (o := ⟨some 13, .move (.tmp 1), z1, q1, c1, none⟩) rfl rfl rfl (x := fv) (w' := w1) (by simp only [execOp, A6.e1, Sem.run_pure]) ?_
    rw [wpOpsIn_cons]
    have B1 := A6.put (d := 13) fv rfl
    have k13 : (b6.put (some 13) fv).eval (.tmp 13) = fv := by rw [ev_put (by omega), if_pos rfl]
    have k4 : (b6.put (some 13) fv).eval (.tmp 4) = key := by rw [ev_put (by omega), if_neg (by decide)]; exact g4'
    have k5 : (b6.put (some 13) fv).eval (.tmp 5) = val := by rw [ev_put (by omega), if_neg (by decide)]; exact g5
    generalize b6.put (some 13) fv = d1 at B1 k13 k4 k5 ⊢
    have ss1 := B1.sz
    refine wpOpIn_val (o := ⟨some 14, .move (.tmp 4), z2, q2, c2, none⟩) rfl rfl rfl (x := key) (w' := w1) (by simp only [execOp, k4, Sem.run_pure]) ?_
    rw [wpOpsIn_cons]
    have B2 := B1.put (d := 14) key rfl
    have m13 : (d1.put (some 14) key).eval (.tmp 13) = fv := by rw [ev_put (by omega), if_neg (by decide)]; exact k13
    have m4 : (d1.put (some 14) key).eval (.tmp 4) = key := by rw [ev_put (by omega), if_neg (by decide)]; exact k4
    have m5 : (d1.put (some 14) key).eval (.tmp 5) = val := by rw [ev_put (by omega), if_neg (by decide)]; exact k5
    have m14 : (d1.put (some 14) key).eval (.tmp 14) = key := by rw [ev_put (by omega), if_pos rfl]
    generalize d1.put (some 14) key = d2 at B2 m13 m4 m5 m14 ⊢
    have ss2 := B2.sz
    refine wpOpIn_val (o := ⟨some 15, .move (.tmp 5), z3, q3, c3, none⟩) rfl rfl rfl (x := val) (w' := w1) (by simp only [execOp, m5, Sem.run_pure]) ?_
    rw [wpOpsIn_cons]
    have B3 := B2.put (d := 15) val rfl
    have o13 : (d2.put (some 15) val).eval (.tmp 13) = fv := by rw [ev_put (by omega), if_neg (by decide)]; exact m13
    have o4 : (d2.put (some 15) val).eval (.tmp 4) = key := by rw [ev_put (by omega), if_neg (by decide)]; exact m4
    have o14 : (d2.put (some 15) val).eval (.tmp 14) = key := by rw [ev_put (by omega), if_neg (by decide)]; exact m14
    have o15 : (d2.put (some 15) val).eval (.tmp 15) = val := by rw [ev_put (by omega), if_pos rfl]
    generalize d2.put (some 15) val = d3 at B3 o13 o4 o14 o15 ⊢
    have ss3 := B3.sz
    have hxM : x ∈ M := hp1'.mem_iff.1 (by simp)
    have hcx := hc x hxM
    obtain ⟨lb, l1, l2⟩ := hfn _ e1
    unfold wpOpIn
    simp only [show (#[⟨some 13, .move (.tmp 1), z1, q1, c1, none⟩, ⟨some 14, .move (.tmp 4), z2, q2, c2, none⟩, ⟨some 15, .move (.tmp 5), z3, q3, c3, none⟩, ⟨some 16, .call ⟨.value (.tmp 13), #[.tmp 14, .tmp 15], tys⟩, z4, q4, c4, none⟩] : Array Oper)[3]? = some ⟨some 16, .call ⟨.value (.tmp 13), #[.tmp 14, .tmp 15], tys⟩, z4, q4, c4, none⟩ from rfl]
    rw [if_pos (by unfold Region.wanted; rfl)]
    refine wpIn_of_wp (fun c e => by cases e) ?_
    have hrunc : (execOp d3.eval ⟨some 16, .call ⟨.value (.tmp 13), #[.tmp 14, .tmp 15], tys⟩, z4, q4, c4, none⟩).run P w1 = .ok (.enter gf (#[key, val] ++ lb)) w1 := by
      simp only [execOp, resolve, Sem.run_bind, o13, l1, Deferred.ofValue, Sem.run_pure, Result.andThen_ok, invoke, Array.empty_append, List.map_toArray, List.map_cons, List.map_nil, o14, o15]
      exact run_callFunc hcx.fn _ w1
    unfold Oper.wp
    rw [hrunc]
    have h2a : ∀ (cs : List (List DV)) (xs : List Value), CapsRep h cs xs → RepArgs h r (cs.map .ip) xs := by
      intro cs
      induction cs with
      | nil => intro xs k; cases xs with | nil => trivial | cons _ _ => exact k.elim
      | cons c cs ih => intro xs k; cases xs with | nil => exact k.elim | cons x xs => exact ⟨k.1, ih xs k.2⟩
    have hx1 : kv x.1 = c.1 := by rw [← hxc]
    have hx2 : x.2 = c.2 := by rw [← hxc]
    refine Calls.mono (hcx.go h r w1 (#[key, val] ++ lb) ?_ (W1'.wk.before fun m hm => absurd rfl hm)) ?_
    · rw [Array.toList_append]
      exact ⟨by rw [hx1]; exact hk1, by rw [hx2]; exact hv1, h2a _ _ l2⟩
    rintro e w2 ⟨v, h2, rfl, hv, hq⟩
    have hvv := rep_val hv
    subst hvv
    refine ⟨?_, rfl⟩
    have B4 := (B3.put (d := 16) (.bool (pd x.1)) rfl)
    have r16 : (d3.put (some 16) (.bool (pd x.1))).eval (.tmp 16) = .bool (pd x.1) := by rw [ev_put (by omega), if_pos rfl]
    have r4 : (d3.put (some 16) (.bool (pd x.1))).eval (.tmp 4) = key := by rw [ev_put (by omega), if_neg (by decide)]; exact o4
    generalize d3.put (some 16) (.bool (pd x.1)) = d4 at B4 r16 r4 ⊢
    have ss4 := B4.sz
    have hle := hq.hg
    have hbmlt : bm < w1.heap.size := by
      obtain ⟨es', clk', _, _, _, _, f1, _⟩ := W1'.it
      exact (Array.getElem?_eq_some_iff.1 f1).1
    have hk0lt : k0 < w1.heap.size := by
      obtain ⟨es', clk', _, _, _, _, _, _, f3, _⟩ := W1'.it
      exact (Array.getElem?_eq_some_iff.1 f3).1
    have W2 : DelW C h2 r m bm k0 (c :: V) (enE kv L2) w2 := by
      obtain ⟨es', clk', since', seen', lV', lL', f1, f2, f3, f4, f5, f6, f7, f8, f9, f10⟩ := W1'.it
      refine ⟨W1'.rm, W1'.wk.after (fun m hm => absurd rfl hm) hq (fun m => by simp) (fun m b hm => absurd rfl hm), W1'.ew, ?_, W1'.k1, W1'.kn, es', clk', since', seen', lV', lL', ?_, f2, ?_, f4, f5, f6, f7.mono hle, f8.mono hle, f9, f10⟩
      · cases e : h2 k0 with
        | none => rfl
        | some o =>
          rcases hq.hn k0 (by rw [e]; simp) with g | g | ⟨m, g, _⟩
          · exact absurd W1'.hk g
          · omega
          · exact absurd rfl g
      · rw [hq.old bm hbmlt (fun ⟨m, g, _⟩ => g rfl)]; exact f1
      · rw [hq.old k0 hk0lt (fun ⟨m, g, _⟩ => g rfl)]; exact f3
    have hg2 : Hle C.h0 h2 := hg.trans hle
    have hfn2 : ∀ x, AVRep hh r (.fn gf caps) x → AVRep h2 r (.fn gf caps) x := fun x hx => AVRep.mono hle _ _ (hfn x hx)
    have B5 : DelA C h2 r m k0 fv d4 := ⟨B4.sz, B4.df.mono hle, B4.e0, B4.e1, B4.e7⟩
    have hlen : L2.length < L.length := by have := hL2.length_eq; simp at this; omega
    have W2rm := W2.rm
    show Exit.then _ _ .normal _ _
    cases hpd : pd x.1 with
    | false =>
      rw [hpd] at r16
      refine wpIn_cond_false r16 (wpIn_skip ?_)
      refine ⟨(c :: V, L2, x :: D), hlen, h2, hg2, hfn2, B5, W2, hp1', ?_⟩
      simp only [List.filter_cons, hpd, Bool.not_false, if_true, enE, List.map_cons, hxc]
      exact hp2.cons c
    | true =>
      rw [hpd] at r16
      refine wpIn_cond_true r16 ?_
      apply wpIn_region
      show wpOpsIn (Wd ro) 0 P _ _ [0, 1, 2] d4 w2
      rw [wpOpsIn_cons]
      refine wpOpIn_val (o := ⟨some 17, .move (.tmp 0), z5, q5, c5, none⟩) rfl rfl rfl (x := r m) (w' := w2) (by simp only [execOp, B5.e0, Sem.run_pure]) ?_
      rw [wpOpsIn_cons]
      have B6 := B5.put (d := 17) (r m) rfl
      have u17 : (d4.put (some 17) (r m)).eval (.tmp 17) = r m := by rw [ev_put (by omega), if_pos rfl]
      have u4 : (d4.put (some 17) (r m)).eval (.tmp 4) = key := by rw [ev_put (by omega), if_neg (by decide)]; exact r4
      generalize d4.put (some 17) (r m) = d5 at B6 u17 u4 ⊢
      have ss5 := B6.sz
      refine wpOpIn_val (o := ⟨some 18, .move (.tmp 4), z6, q6, c6, none⟩) rfl rfl rfl (x := key) (w' := w2) (by simp only [execOp, u4, Sem.run_pure]) ?_
      rw [wpOpsIn_cons]
      have B7 := B6.put (d := 18) key rfl
      have v17 : (d5.put (some 18) key).eval (.tmp 17) = r m := by rw [ev_put (by omega), if_neg (by decide)]; exact u17
      have v18 : (d5.put (some 18) key).eval (.tmp 18) = key := by rw [ev_put (by omega), if_pos rfl]
      generalize d5.put (some 18) key = d6 at B7 v17 v18 ⊢
      have hkk : ∀ y ∈ c :: V ++ enE kv L2, IsKey (kdOf j.sh) y.1 := by
        intro y hy
        simp only [List.cons_append, List.mem_cons, List.mem_append] at hy
        rcases hy with rfl | hy | hy
        · rw [← hx1]; exact K.key _
        · obtain ⟨p, _, rfl⟩ := List.mem_map.1 (hp2.mem_iff.1 hy); exact K.key _
        · obtain ⟨p, _, rfl⟩ := List.mem_map.1 hy; exact K.key _
      obtain ⟨w3, hdel, W3⟩ := W2.del (P := P) (T := T) hu hd hkk hkey (tyk := tyk) z7
      refine wpOpIn_val (o := ⟨none, .call ⟨.builtin .delete, #[.tmp 17, .tmp 18], #[T, tyk]⟩, z7, q7, c7, none⟩) rfl rfl rfl (x := .tuple #[]) (w' := w3) (by
        apply run_builtin
        simp only [List.map_toArray, List.map_cons, List.map_nil, v17, v18, builtin, Sem.run_bind, hdel, Result.andThen_ok, Sem.run_pure]) ?_
      refine ⟨(V, L2, x :: D), hlen, h2, hg2, hfn2, B7, W3, hp1', ?_⟩
      simp only [List.filter_cons, hpd, Bool.not_true, Bool.false_eq_true, if_false]
      exact hp2
end del
end Go.AM
end

section
/- Keys: masks and strings; maps that stand for sets. -/
namespace Go.AM
open Go Go.RowKit Go.MapKept
/-- strings, as their bytes -/
abbrev Str := List UInt8
def kS (s : Str) : Value := .string ⟨s.toArray⟩
def kU (n : Nat) : Value := .int .u32 (n : Int)
theorem keyS : KeyT .string kS := ⟨fun _ => trivial, fun {a b} h => by
  unfold kS at h
  injection h with h
  injection h with h
  exact congrArg Array.toList h⟩
theorem keyU : KeyT (.int .u32) kU := ⟨fun _ => rfl, fun {a b} h => by
  unfold kU at h
  injection h with _ h
  exact Int.ofNat.inj h⟩
theorem perm_map_inv {α β : Type} (f : α → β) {A B : List β} (p : A.Perm B) : ∀ L : List α, L.map f = A → ∃ L', L.Perm L' ∧ L'.map f = B := by
  induction p with
  | nil => intro L h; exact ⟨L, .refl _, h⟩
  | cons x _ ih =>
    intro L h
    cases L with
    | nil => cases h
    | cons y L =>
      simp only [List.map_cons, List.cons.injEq] at h
      obtain ⟨L', h1, h2⟩ := ih L h.2
      exact ⟨y :: L', h1.cons y, by simp [h.1, h2]⟩
  | swap x y l =>
    intro L h
    match L, h with
    | a :: b :: L, h =>
      simp only [List.map_cons, List.cons.injEq] at h
      exact ⟨b :: a :: L, .swap _ _ _, by simp [h.1, h.2.1, h.2.2]⟩
  | trans _ _ ih1 ih2 =>
    intro L h
    obtain ⟨L1, h1, h2⟩ := ih1 L h
    obtain ⟨L2, h3, h4⟩ := ih2 L1 h2
    exact ⟨L2, h1.trans h3, h4⟩
abbrev TT1 : List DV := [.v (.bool true)]
/-- a map in which every key has the value true -/
def SE {κ : Type} (S : List κ) : MM κ := S.map fun k => (k, TT1)
theorem ew_SE {κ : Type} {kv : κ → Value} (S : List κ) : EW none (enE kv (SE S)) := ew_enE fun p hp => by
  obtain ⟨k, _, rfl⟩ := List.mem_map.1 hp
  rfl
theorem SE_len {κ : Type} (S : List κ) : (SE S).length = S.length := by simp [SE]
theorem SE_get {κ : Type} [DecidableEq κ] (S : List κ) (k : κ) : getM (SE S) k = if k ∈ S then some TT1 else none := by
  induction S with
  | nil => rfl
  | cons x S ih =>
    show getM ((x, TT1) :: SE S) k = _
    simp only [getM]
    by_cases h : x = k
    · subst h; simp
    · rw [if_neg h, ih]
      have : (k ∈ x :: S) ↔ k ∈ S := by simp [Ne.symm h]
      simp only [this]
theorem SE_put {κ : Type} [DecidableEq κ] {S S' : List κ} {k : κ} (hn : S.Nodup) (hn' : S'.Nodup) (h : ∀ x, x ∈ S' ↔ x ∈ S ∨ x = k) : (putM (SE S) k TT1).Perm (SE S') := by
  by_cases hk : k ∈ S
  · have e : putM (SE S) k TT1 = SE S := by
      clear hn h
      induction S with
      | nil => cases hk
      | cons x S ih =>
        show putM ((x, TT1) :: SE S) k TT1 = (x, TT1) :: SE S
        simp only [putM]
        by_cases hx : x = k
        · subst hx; rw [if_pos rfl]
        · rw [if_neg hx, ih (by rcases List.mem_cons.1 hk with e | e; exact absurd e.symm hx; exact e)]
    rw [e]
    refine ((List.perm_ext_iff_of_nodup hn hn').2 fun x => ?_).map _
    rw [h]
    exact ⟨.inl, fun q => q.elim id fun e => e ▸ hk⟩
  · rw [putM_new (fun p hp => by
      obtain ⟨x, hx, rfl⟩ := List.mem_map.1 hp
      exact fun e => hk (e ▸ hx))]
    have e : SE S ++ [(k, TT1)] = SE (S ++ [k]) := by simp [SE]
    rw [e]
    refine ((List.perm_ext_iff_of_nodup ?_ hn').2 fun x => ?_).map _
    · rw [List.nodup_append]
      exact ⟨hn, by simp, fun a ha b hb q => by simp at hb; subst hb; exact hk (q ▸ ha)⟩
    · rw [h]; simp
section next
variable {P : Program} {B : Bool} {N np : Nat} {Q : Exit → St → Prop} {s : St}
/-- the head of a loop over a map that stands for a set -/
theorem AWp_nextS {κ : Type} {kv : κ → Value} {id nx more it m : Nat} {cur : List En} {S : List κ} {y1 y2 : TypeId} {p1 p2 : String} {a1 a2 : Array Edge}
    (hx : s.regs it = .it m) (hb : s.own m = some (IB none cur (enE kv (SE S)))) (hc : EW none cur) (h1 : Nat.ble cur.length 1 = true) (hN : (Nat.blt nx N && Nat.blt more N && !Nat.beq nx more) = true)
    (hend : S = [] → Q .normal ⟨upd (upd s.regs nx .junk) more (.p (.c (.v (.bool false)))), s.own⟩)
    (hone : ∀ (k : κ) (S' : List κ), S.Perm (k :: S') → Q .normal ⟨upd (upd s.regs nx .junk) more (.p (.c (.v (.bool true)))), upd s.own m (some (IB none [(kv k, TT1)] (enE kv (SE S'))))⟩) :
    AWp P B N np (.region id #[⟨some nx, .next (.tmp it) false, y1, p1, a1, none⟩, ⟨some more, .extract (.tmp nx) 0, y2, p2, a2, none⟩] false) Q s := by
  refine AWp_next hx hb hc (ew_SE S) h1 hN (fun e => hend ?_) fun e rest hp _ _ => ?_
  · cases S with
    | nil => rfl
    | cons x S => simp [enE, SE] at e
  · obtain ⟨L, h2, h3⟩ := perm_map_inv (fun k => (kv k, TT1)) hp S (by simp [enE, SE])
    cases L with
    | nil => cases h3
    | cons k S' =>
      simp only [List.map_cons, List.cons.injEq] at h3
      obtain ⟨rfl, rfl⟩ := h3
      have := hone k S' h2
      simp only [enE, SE, List.map_map] at this
      exact this
end next
@[irreducible] def rng17 : List Nat := List.range 131072
theorem mem_rng17 {n : Nat} : n ∈ rng17 ↔ n < 131072 := by unfold rng17; exact List.mem_range
theorem rng17_nodup : rng17.Nodup := by unfold rng17; exact List.nodup_range
open Classical in
noncomputable def lsM (p : Nat → Prop) : List Nat := rng17.filter fun n => decide (p n)
theorem mem_lsM {p : Nat → Prop} {n : Nat} : n ∈ lsM p ↔ n < 131072 ∧ p n := by
  unfold lsM
  rw [List.mem_filter, mem_rng17]
  simp only [decide_eq_true_eq]
theorem lsM_nodup (p : Nat → Prop) : (lsM p).Nodup := rng17_nodup.filter _
theorem lsM_ext {p q : Nat → Prop} (h : ∀ n, n < 131072 → (p n ↔ q n)) : lsM p = lsM q := by
  unfold lsM
  refine List.filter_congr fun n hn => ?_
  rw [Bool.eq_iff_iff]
  simp only [decide_eq_true_eq]
  exact h n (mem_rng17.1 hn)
theorem lsM_put {p : Nat → Prop} {k : Nat} (hk : k < 131072) : (putM (SE (lsM p)) k TT1).Perm (SE (lsM fun x => p x ∨ x = k)) :=
  SE_put (lsM_nodup p) (lsM_nodup _) fun x => by
    rw [mem_lsM, mem_lsM]
    constructor
    · rintro ⟨h1, h2 | h2⟩
      · exact .inl ⟨h1, h2⟩
      · exact .inr h2
    · rintro (⟨h1, h2⟩ | h2)
      · exact ⟨h1, .inl h2⟩
      · exact ⟨h2 ▸ hk, .inr h2⟩
theorem SE_filter {κ : Type} (S : List κ) (g : κ → Bool) : (SE S).filter (fun x => !g x.1) = SE (S.filter fun x => !g x) := by
  unfold SE
  rw [List.filter_map]; rfl
theorem lsM_filter {p : Nat → Prop} (g : Nat → Bool) : (SE (lsM p)).filter (fun x => !g x.1) = SE (lsM fun n => p n ∧ g n = false) := by
  rw [SE_filter]
  have : (lsM p).filter (fun x => !g x) = lsM fun n => p n ∧ g n = false := by
    unfold lsM
    rw [List.filter_filter]
    refine List.filter_congr fun n _ => ?_
    rw [Bool.eq_iff_iff]
    simp only [Bool.and_eq_true, Bool.not_eq_true', decide_eq_true_eq]
    exact and_comm
  rw [this]
theorem lsM_nil : lsM (fun _ => False) = [] := by
  unfold lsM
  exact List.filter_eq_nil_iff.2 fun x _ => by simp
theorem lsM_one {n : Nat} (h : n < 131072) : lsM (fun x => x = n) = [n] := by
  have hp : (lsM fun x => x = n).Perm [n] := (List.perm_ext_iff_of_nodup (lsM_nodup _) (by simp)).2 fun x => by
    rw [mem_lsM]; simp only [List.mem_singleton]
    exact ⟨fun q => q.2, fun q => ⟨q ▸ h, q⟩⟩
  exact List.perm_singleton.1 hp
end Go.AM
end

section
/- What the walks of maps of masks ask. -/
namespace Go.AM
open Go Go.RowKit Go.MapKept
abbrev U (n : Nat) : AV := .p (.c (.v (.int .u32 (n : Int))))
abbrev CurOK (cur : List En) : Prop := EW none cur ∧ Nat.ble cur.length 1 = true
theorem cur0 : CurOK [] := ⟨fun _ h => (by cases h), rfl⟩
theorem cur1w {v : Value} : EW none [(v, TT1)] := fun e he => by rw [List.mem_singleton] at he; subst he; rfl
theorem cur1 {v : Value} : CurOK [(v, TT1)] := ⟨cur1w, rfl⟩
/-- a family of sets of hypotheses, as a map -/
noncomputable abbrev FM (p : Nat → Prop) : MM Nat := SE (lsM p)
noncomputable abbrev FD (p : Nat → Prop) : DV := MP none (enE kU (FM p))
noncomputable abbrev FB' (p : Nat → Prop) : Blk := MB none (enE kU (FM p))
theorem lt17 {n : Nat} (h : n < 131072) : n < 4294967296 := by omega
open Classical in
noncomputable def worse (p : Nat → Prop) (s : Nat) : Bool := decide (∃ t, t < 131072 ∧ p t ∧ t ≠ s ∧ t &&& s = t)
theorem worse_iff {p : Nat → Prop} {s : Nat} : worse p s = true ↔ ∃ t, t < 131072 ∧ p t ∧ t ≠ s ∧ t &&& s = t := by
  unfold worse; simp only [decide_eq_true_eq]
/-- the least ones -/
def mn (p : Nat → Prop) : Nat → Prop := fun n => p n ∧ worse p n = false
/-- bit by bit: in m and not in n -/
def andN (m n : Nat) : Nat := (BitVec.ofNat 32 m &&& ~~~BitVec.ofNat 32 n).toNat
theorem andN_bit {m n i : Nat} (hm : m < 4294967296) : (andN m n).testBit i = (m.testBit i && !n.testBit i) := by
  unfold andN
  rw [BitVec.testBit_toNat, BitVec.getLsbD_and, BitVec.getLsbD_not, BitVec.getLsbD_ofNat, BitVec.getLsbD_ofNat]
  by_cases h : i < 32
  · simp [h]
  · have : m.testBit i = false := Nat.testBit_lt_two_pow (Nat.lt_of_lt_of_le hm (Nat.le_trans (by decide : 4294967296 ≤ 2 ^ 32) (Nat.pow_le_pow_right (by decide) (by omega))))
    simp [h, this]
theorem andN_lt (m n : Nat) : andN m n < 4294967296 := by unfold andN; exact BitVec.isLt _
theorem andN_zero {m n : Nat} (hm : m < 4294967296) : andN m n = 0 ↔ m &&& n = m := by
  constructor
  · intro h
    apply Nat.eq_of_testBit_eq
    intro i
    have := andN_bit (n := n) (i := i) hm
    rw [h, Nat.zero_testBit] at this
    rw [Nat.testBit_and]
    cases h1 : m.testBit i <;> cases h2 : n.testBit i <;> simp_all
  · intro h
    apply Nat.eq_of_testBit_eq
    intro i
    rw [andN_bit hm, Nat.zero_testBit, ← h, Nat.testBit_and]
    cases m.testBit i <;> cases n.testBit i <;> rfl
section ops
variable {P : Program} {dst : Option Nat} {ty : TypeId} {pos : String} {af : Array Edge} {gd : Option (Nat × Bool)} {d : Nat} {ρ : Operand → AV} {own : Own} {T yT : TypeId} {x y : Operand} {m n : Nat}
theorem op_andNotN (hx : ρ x = U m) (hy : ρ y = U n) : Eff P ⟨dst, .binOp .andNot T x y yT, ty, pos, af, gd⟩ d ρ own (U (andN m n)) [] none [] :=
  binOp_run hx hy (fun w => by
    have e : BitVec.ofInt 32 (m : Int) = BitVec.ofNat 32 m := BitVec.ofInt_natCast ..
    have e2 : BitVec.ofInt 32 (n : Int) = BitVec.ofNat 32 n := BitVec.ofInt_natCast ..
    have hw : IntKind.u32.wrap ((BitVec.ofNat 32 m &&& ~~~BitVec.ofNat 32 n).toNat : Int) = ((andN m n : Nat) : Int) := wrap_uns (k := .u32) rfl _ (andN_lt m n)
    have hb : bits .andNot .u32 (m : Int) (n : Int) = ((andN m n : Nat) : Int) := by
      show IntKind.u32.wrap ((BitVec.ofInt 32 (m : Int) &&& ~~~BitVec.ofInt 32 (n : Int)).toNat : Int) = _
      rw [e, e2]; exact hw
    rw [binOp_andNot, intBits_andNot, hb]; rfl) rfl
end ops
/-- what is to come of a set, somewhere in a loop over it -/
structure LfI (q : Nat → Prop) (L : List Nat) : Prop where
  sub : ∀ t ∈ L, t < 131072 ∧ q t
  nd : L.Nodup
theorem LfI.start (q : Nat → Prop) : LfI q (lsM q) := ⟨fun _ h => mem_lsM.1 h, lsM_nodup q⟩
theorem LfI.next {q : Nat → Prop} {S L : List Nat} {t : Nat} (h : LfI q S) (hp : S.Perm (t :: L)) : LfI q L :=
  ⟨fun x hx => h.sub x (hp.mem_iff.2 (by simp [hx])), (List.nodup_cons.1 (hp.nodup_iff.1 h.nd)).2⟩
theorem LfI.hd {q : Nat → Prop} {S L : List Nat} {t : Nat} (h : LfI q S) (hp : S.Perm (t :: L)) : (t < 131072 ∧ q t) ∧ t ∉ L :=
  ⟨h.sub t (hp.mem_iff.2 (by simp)), (List.nodup_cons.1 (hp.nodup_iff.1 h.nd)).1⟩
theorem perm_len {α : Type} {S L : List α} {t : α} (hp : S.Perm (t :: L)) : L.length < S.length := by have := hp.length_eq; simp at this; omega
theorem perm_mem {α : Type} {S L : List α} {t x : α} (hp : S.Perm (t :: L)) (h : x ∉ S) : x ∉ L := fun q => h (hp.mem_iff.2 (by simp [q]))
theorem perm_new {α : Type} {S L : List α} {t x : α} (hp : S.Perm (t :: L)) (h : x ∉ L) : x = t ∨ x ∉ S := by
  by_cases e : x = t
  · exact .inl e
  · exact .inr fun q => h (by rcases List.mem_cons.1 (hp.mem_iff.1 q) with r | r; exact absurd r e; exact r)
structure LeI (p : Nat → Prop) (s : Nat) (L : List Nat) : Prop extends LfI p L where
  no : ∀ t, t < 131072 → p t → t ∉ L → ¬ (t ≠ s ∧ t &&& s = t)
theorem LeI.start (p : Nat → Prop) (s : Nat) : LeI p s (lsM p) := ⟨.start p, fun _ h1 h2 h3 => absurd (mem_lsM.2 ⟨h1, h2⟩) h3⟩
theorem LeI.next' {p : Nat → Prop} {s t : Nat} {S L : List Nat} (h : LeI p s S) (hp : S.Perm (t :: L)) (hn : ¬ (t ≠ s ∧ t &&& s = t)) : LeI p s L :=
  ⟨h.toLfI.next hp, fun x h1 h2 h3 => (perm_new hp h3).elim (fun e => e ▸ hn) (h.no x h1 h2)⟩
theorem LeI.done {p : Nat → Prop} {s : Nat} (h : LeI p s []) : worse p s = false := by
  rw [← Bool.not_eq_true, worse_iff]
  rintro ⟨t, h1, h2, h3⟩
  exact h.no t h1 h2 (by simp) h3
theorem LeI.yes {p : Nat → Prop} {s t : Nat} {S L : List Nat} (h : LeI p s S) (hp : S.Perm (t :: L)) (h1 : t ≠ s) (h2 : t &&& s = t) : worse p s = true :=
  worse_iff.2 ⟨t, (h.toLfI.hd hp).1.1, (h.toLfI.hd hp).1.2, h1, h2⟩
theorem in_eq {s t : Nat} (hs : s < 4294967296) : (((andN s t : Nat) : Int) == 0) = decide (s &&& t = s) := by
  rw [Bool.eq_iff_iff, beq_iff_eq, decide_eq_true_iff, ← andN_zero hs]
  omega
/-- maps.Copy, on the way -/
def cpP (p q : Nat → Prop) (L : List Nat) : Nat → Prop := fun x => p x ∨ (q x ∧ x ∉ L)
theorem cpP_0 (p q : Nat → Prop) : FM (cpP p q (lsM q)) = FM p := by
  unfold FM
  congr 1
  refine lsM_ext fun n hn => ⟨fun h => h.elim id fun h => absurd (mem_lsM.2 ⟨hn, h.1⟩) h.2, .inl⟩
theorem cpP_end (p q : Nat → Prop) : FM (cpP p q []) = FM fun x => p x ∨ q x := by
  unfold FM
  congr 1
  refine lsM_ext fun n hn => ⟨fun h => h.imp id fun h => h.1, fun h => h.imp id fun h => ⟨h, by simp⟩⟩
theorem cpP_put {p q : Nat → Prop} {S L : List Nat} {t : Nat} (h : LfI q S) (hp : S.Perm (t :: L)) : (putM (FM (cpP p q S)) t TT1).Perm (FM (cpP p q L)) := by
  have hd := h.hd hp
  have e : FM (cpP p q L) = FM (fun x => cpP p q S x ∨ x = t) := by
    unfold FM
    congr 1
    refine lsM_ext fun n hn => ⟨?_, ?_⟩
    · rintro (h1 | ⟨h1, h2⟩)
      · exact .inl (.inl h1)
      · rcases perm_new hp h2 with e | e
        · exact .inr e
        · exact .inl (.inr ⟨h1, e⟩)
    · rintro ((h1 | ⟨h1, h2⟩) | rfl)
      · exact .inl h1
      · exact .inr ⟨h1, perm_mem hp h2⟩
      · exact .inr ⟨hd.1.2, hd.2⟩
  rw [e]
  exact lsM_put hd.1.1
/-- the unions of one of each, as far as these are not to come -/
def jo (p q : Nat → Prop) (L : List Nat) : Nat → Prop := fun x => ∃ s t, s < 131072 ∧ t < 131072 ∧ p s ∧ s ∉ L ∧ q t ∧ x = s ||| t
def jn (p q : Nat → Prop) : Nat → Prop := fun x => ∃ s t, s < 131072 ∧ t < 131072 ∧ p s ∧ q t ∧ x = s ||| t
def ji (p q : Nat → Prop) (L : List Nat) (s : Nat) (M : List Nat) : Nat → Prop := fun x => jo p q (s :: L) x ∨ ∃ t, t < 131072 ∧ q t ∧ t ∉ M ∧ x = s ||| t
theorem FM_ext {p q : Nat → Prop} (h : ∀ n, n < 131072 → (p n ↔ q n)) : FM p = FM q := by unfold FM; rw [lsM_ext h]
theorem jo_0 (p q : Nat → Prop) : FM (jo p q (lsM p)) = [] := by
  rw [FM_ext (q := fun _ => False) fun n _ => ⟨fun ⟨s, _, h1, _, h3, h4, _⟩ => h4 (mem_lsM.2 ⟨h1, h3⟩), False.elim⟩]
  unfold FM; rw [lsM_nil]; rfl
theorem jo_end (p q : Nat → Prop) : FM (jo p q []) = FM (jn p q) := FM_ext fun n _ => ⟨fun ⟨s, t, h1, h2, h3, _, h5⟩ => ⟨s, t, h1, h2, h3, h5⟩, fun ⟨s, t, h1, h2, h3, h5⟩ => ⟨s, t, h1, h2, h3, by simp, h5⟩⟩
theorem ji_0 {p q : Nat → Prop} {S L : List Nat} {s : Nat} (hp : S.Perm (s :: L)) : FM (ji p q L s (lsM q)) = FM (jo p q S) := FM_ext fun n _ => by
  constructor
  · rintro (⟨a, t, h1, h2, h3, h4, h5⟩ | ⟨t, h1, h2, h3, _⟩)
    · exact ⟨a, t, h1, h2, h3, fun e => h4 (hp.mem_iff.1 e), h5⟩
    · exact absurd (mem_lsM.2 ⟨h1, h2⟩) h3
  · rintro ⟨a, t, h1, h2, h3, h4, h5⟩
    exact .inl ⟨a, t, h1, h2, h3, fun e => h4 (hp.mem_iff.2 e), h5⟩
theorem ji_end {p q : Nat → Prop} {S L : List Nat} {s : Nat} (h : LfI p S) (hp : S.Perm (s :: L)) : FM (ji p q L s []) = FM (jo p q L) := FM_ext fun n _ => by
  have hd := h.hd hp
  constructor
  · rintro (⟨a, t, h1, h2, h3, h4, h5⟩ | ⟨t, h1, h2, _, h4⟩)
    · exact ⟨a, t, h1, h2, h3, fun e => h4 (List.mem_cons_of_mem _ e), h5⟩
    · exact ⟨s, t, hd.1.1, h1, hd.1.2, hd.2, h2, h4⟩
  · rintro ⟨a, t, h1, h2, h3, h4, h5, h6⟩
    by_cases e : a = s
    · subst e; exact .inr ⟨t, h2, h5, by simp, h6⟩
    · exact .inl ⟨a, t, h1, h2, h3, fun q => by rcases List.mem_cons.1 q with r | r; exact e r; exact h4 r, h5, h6⟩
theorem or17 {s t : Nat} (hs : s < 131072) (ht : t < 131072) : s ||| t < 131072 := Nat.or_lt_two_pow (n := 17) hs ht
theorem ji_put {p q : Nat → Prop} {L M M' : List Nat} {s t : Nat} (hs : s < 131072) (h : LfI q M) (hp : M.Perm (t :: M')) : (putM (FM (ji p q L s M)) (s ||| t) TT1).Perm (FM (ji p q L s M')) := by
  have hd := h.hd hp
  have e : FM (ji p q L s M') = FM (fun x => ji p q L s M x ∨ x = s ||| t) := FM_ext fun n _ => by
    constructor
    · rintro (h1 | ⟨u, h1, h2, h3, h4⟩)
      · exact .inl (.inl h1)
      · rcases perm_new hp h3 with e | e
        · subst e; exact .inr h4
        · exact .inl (.inr ⟨u, h1, h2, e, h4⟩)
    · rintro ((h1 | ⟨u, h1, h2, h3, h4⟩) | rfl)
      · exact .inl h1
      · exact .inr ⟨u, h1, h2, perm_mem hp h3, h4⟩
      · exact .inr ⟨t, hd.1.1, hd.1.2, hd.2, rfl⟩
  rw [e]
  exact lsM_put (or17 hs hd.1.1)
open Classical in
/-- two families are one -/
noncomputable def eqM (p q : Nat → Prop) : Bool := decide (∀ n, n < 131072 → (p n ↔ q n))
theorem eqM_iff {p q : Nat → Prop} : eqM p q = true ↔ ∀ n, n < 131072 → (p n ↔ q n) := by unfold eqM; simp only [decide_eq_true_eq]
open Classical in
noncomputable def mbM (q : Nat → Prop) (k : Nat) : Bool := decide (q k)
theorem mbM_iff {q : Nat → Prop} {k : Nat} : mbM q k = true ↔ q k := by unfold mbM; simp only [decide_eq_true_eq]
theorem FM_len {p : Nat → Prop} : (FM p).length = (lsM p).length := SE_len _
theorem eqM_len {p q : Nat → Prop} (h : ¬ (FM p).length = (FM q).length) : eqM p q = false := by
  rw [← Bool.not_eq_true, eqM_iff]
  exact fun e => h (by rw [FM_ext e])
theorem FM_look {q : Nat → Prop} {k : Nat} (hk : k < 131072) : lkV none (FM q) k [.v (.bool false)] true = .t [.c (.v (.bool (mbM q k))), .c (.v (.bool (mbM q k)))] := by
  unfold lkV lkP
  rw [SE_get]
  by_cases h : q k
  · rw [if_pos (mem_lsM.2 ⟨hk, h⟩), mbM_iff.2 h]; rfl
  · have : mbM q k = false := by rw [← Bool.not_eq_true, mbM_iff]; exact h
    rw [if_neg fun e => h (mem_lsM.1 e).2, this]; rfl
structure EqI (p q : Nat → Prop) (L : List Nat) : Prop extends LfI p L where
  yes : ∀ t, t < 131072 → p t → t ∉ L → q t
theorem EqI.start (p q : Nat → Prop) : EqI p q (lsM p) := ⟨.start p, fun _ h1 h2 h3 => absurd (mem_lsM.2 ⟨h1, h2⟩) h3⟩
theorem EqI.next' {p q : Nat → Prop} {S L : List Nat} {t : Nat} (h : EqI p q S) (hp : S.Perm (t :: L)) (ht : q t) : EqI p q L :=
  ⟨h.toLfI.next hp, fun x h1 h2 h3 => (perm_new hp h3).elim (fun e => e ▸ ht) (h.yes x h1 h2)⟩
theorem EqI.no {p q : Nat → Prop} {S L : List Nat} {t : Nat} (h : EqI p q S) (hp : S.Perm (t :: L)) (ht : ¬ q t) : eqM p q = false := by
  have hd := (h.toLfI.hd hp).1
  rw [← Bool.not_eq_true, eqM_iff]
  exact fun e => ht ((e t hd.1).1 hd.2)
theorem nodup_le {α : Type} [DecidableEq α] : ∀ {A B : List α}, A.Nodup → (∀ x ∈ A, x ∈ B) → A.length ≤ B.length
  | [], _, _, _ => by simp
  | a :: A, B, hn, hs => by
    have hn' := List.nodup_cons.1 hn
    have ha := hs a (by simp)
    have := nodup_le (A := A) (B := B.erase a) hn'.2 fun x hx => (List.mem_erase_of_ne (fun e : x = a => hn'.1 (e ▸ hx))).2 (hs x (by simp [hx]))
    rw [List.length_erase_of_mem ha] at this
    have : 0 < B.length := List.length_pos_of_mem ha
    simp only [List.length_cons]; omega
theorem nodup_sub {α : Type} [DecidableEq α] {A B : List α} (hn : A.Nodup) (hs : ∀ x ∈ A, x ∈ B) (hl : B.length ≤ A.length) : ∀ x ∈ B, x ∈ A := fun x hx => by
  by_cases h : x ∈ A
  · exact h
  · have := nodup_le (A := x :: A) (B := B) (List.nodup_cons.2 ⟨h, hn⟩) fun y hy => by
      rcases List.mem_cons.1 hy with rfl | hy
      · exact hx
      · exact hs y hy
    simp only [List.length_cons] at this; omega
theorem EqI.done {p q : Nat → Prop} (h : EqI p q []) (hl : (FM p).length = (FM q).length) : eqM p q = true := by
  rw [eqM_iff]
  have hsub : ∀ n ∈ lsM p, n ∈ lsM q := fun n hn => mem_lsM.2 ⟨(mem_lsM.1 hn).1, h.yes n (mem_lsM.1 hn).1 (mem_lsM.1 hn).2 (by simp)⟩
  have hback := nodup_sub (lsM_nodup p) hsub (by rw [FM_len, FM_len] at hl; omega)
  intro n hn
  exact ⟨fun b => (mem_lsM.1 (hsub n (mem_lsM.2 ⟨hn, b⟩))).2, fun b => (mem_lsM.1 (hback n (mem_lsM.2 ⟨hn, b⟩))).2⟩
theorem mbe {M N : MM Nat} (h : M = N) : MB none (enE kU M) = MB none (enE kU N) := by rw [h]
theorem jo_own0 (p q : Nat → Prop) : some (MB none []) = some (FB' (jo p q (lsM p))) := congrArg some (mbe (jo_0 p q)).symm
theorem ji_own0 {p q : Nat → Prop} {S L : List Nat} {s : Nat} (hp : S.Perm (s :: L)) : some (FB' (jo p q S)) = some (FB' (ji p q L s (lsM q))) := congrArg some (mbe (ji_0 hp)).symm
theorem ji_ownE {p q : Nat → Prop} {S L M : List Nat} {s : Nat} (h : LfI p S) (hp : S.Perm (s :: L)) (hm : M = []) : some (FB' (ji p q L s M)) = some (FB' (jo p q L)) := by
  subst hm; exact congrArg some (mbe (ji_end h hp))
theorem worse_ext {p q : Nat → Prop} (h : ∀ n, n < 131072 → (p n ↔ q n)) (s : Nat) : worse p s = worse q s := by
  rw [Bool.eq_iff_iff, worse_iff, worse_iff]
  exact ⟨fun ⟨t, h1, h2, h3⟩ => ⟨t, h1, (h t h1).1 h2, h3⟩, fun ⟨t, h1, h2, h3⟩ => ⟨t, h1, (h t h1).2 h2, h3⟩⟩
theorem FM_mn {p q : Nat → Prop} (h : ∀ n, n < 131072 → (p n ↔ q n)) : FM (mn p) = FM (mn q) := FM_ext fun n hn => by
  unfold mn; rw [worse_ext h]; exact and_congr (h n hn) Iff.rfl
theorem jo_ownE {p q : Nat → Prop} {S : List Nat} (hl : S = []) : some (FB' (mn (jo p q S))) = some (FB' (mn (jn p q))) := by
  subst hl
  exact congrArg some (mbe (FM_mn fun n _ => ⟨fun ⟨s, t, h1, h2, h3, _, h5⟩ => ⟨s, t, h1, h2, h3, h5⟩, fun ⟨s, t, h1, h2, h3, h5⟩ => ⟨s, t, h1, h2, h3, by simp, h5⟩⟩))
theorem cp_own0 (p q : Nat → Prop) : some (FB' p) = some (FB' (cpP p q (lsM q))) := congrArg some (mbe (cpP_0 p q)).symm
theorem cp_ownE {p q : Nat → Prop} {S : List Nat} (hl : S = []) : some (FB' (cpP p q S)) = some (FB' fun x => p x ∨ q x) := by
  subst hl; exact congrArg some (mbe (cpP_end p q))
end Go.AM
end

section
/- slices.SortFunc by the kit's contract, for slices that the call owns: one sorted list. -/
namespace Go.AM
open Go Go.RowKit
theorem grow_of {w w' : World} (os : w'.os = w.os) (tp : w'.tape = w.tape) (out : OutD w' w) (sz : w.heap.size ≤ w'.heap.size) (old : ∀ k, k < w.heap.size → w'.heap[k]? = w.heap[k]?) :
    ∃ q os', w' = Sort.grow (w.drewN q) os' := by
  obtain ⟨o1, o2⟩ := out
  refine ⟨w'.drawn - w.drawn, w'.heap.extract w.heap.size w'.heap.size, ?_⟩
  have hh : w'.heap = w.heap ++ w'.heap.extract w.heap.size w'.heap.size := by
    apply Array.ext_getElem?
    intro k
    rw [Array.getElem?_append]
    by_cases hk : k < w.heap.size
    · rw [if_pos hk, old k hk]
    · rw [if_neg hk, Array.getElem?_extract]
      by_cases h2 : k < w'.heap.size
      · rw [if_pos (by omega), show w.heap.size + (k - w.heap.size) = k by omega]
      · rw [if_neg (by omega), Array.getElem?_eq_none (by omega)]
  have hd : w'.drawn = w.drawn + (w'.drawn - w.drawn) := by omega
  unfold Sort.grow World.drewN
  generalize w'.heap.extract w.heap.size w'.heap.size = x at hh
  generalize w'.drawn - w.drawn = y at hd
  cases w'
  simp only at os tp o1 hh hd
  subst os tp o1 hh hd
  rfl
section
variable {β : Type} {encD : β → List DV} {k : Nat}
theorem flat_get (hL : ∀ b, (encD b).length = k) : ∀ (l : List β) (t : Nat) (dv : DV), (l.flatMap encD)[t]? = some dv → ∃ b, l[t / k]? = some b ∧ (encD b)[t % k]? = some dv
  | [], t, dv, h => by simp at h
  | b :: l, t, dv, h => by
    rw [List.flatMap_cons, List.getElem?_append] at h
    rw [hL b] at h
    by_cases ht : t < k
    · rw [if_pos ht] at h
      rw [Nat.div_eq_of_lt ht, Nat.mod_eq_of_lt ht]
      exact ⟨b, rfl, h⟩
    · rw [if_neg ht] at h
      obtain ⟨b', h1, h2⟩ := flat_get hL l (t - k) dv h
      have hk : 0 < k := by
        rcases Nat.eq_zero_or_pos k with e | e
        · subst e
          have := List.length_eq_zero_iff.1 (hL b')
          rw [this] at h2; simp at h2
        · exact e
      have e1 : t / k = (t - k) / k + 1 := by
        rw [Nat.div_eq_sub_div hk (by omega)]
      have e2 : t % k = (t - k) % k := Nat.mod_eq_sub_mod (by omega)
      rw [e1, e2]
      exact ⟨b', by simpa using h1, h2⟩
theorem flat_len (hL : ∀ b, (encD b).length = k) (l : List β) : (l.flatMap encD).length = l.length * k := by
  induction l with
  | nil => simp
  | cons b l ih => rw [List.flatMap_cons, List.length_append, ih, hL, List.length_cons, Nat.add_mul]; omega
end
end Go.AM
end

section
/- Slices of elements of z cells, in general: reading, growing, clearing the tail. -/
namespace Go.AM
open Go Go.RowKit
section
variable {β : Type} {encD : β → List DV} {z : Nat}
abbrev SL (encD : β → List DV) (l : List β) : DV := .sl l.length (l.flatMap encD)
abbrev VB (z : Nat) (e : TypeId) (encD : β → List DV) (l : List β) : Blk := ⟨true, z, e, l.flatMap encD⟩
theorem flat_drop (hL : ∀ b, (encD b).length = z) : ∀ (l : List β) (i : Nat) (h : i < l.length), (l.flatMap encD).drop (i * z) = encD l[i] ++ (l.drop (i + 1)).flatMap encD
  | x :: l, 0, _ => by simp
  | x :: l, i + 1, h => by
    have ih := flat_drop hL l i (by simpa using h)
    have e : (i + 1) * z = (encD x).length + i * z := by rw [hL, Nat.add_mul, Nat.one_mul, Nat.add_comm]
    rw [e, List.flatMap_cons, List.drop_length_add_append, ih]
    simp
theorem flat_take (hL : ∀ b, (encD b).length = z) : ∀ (l : List β) (n : Nat), (l.take n).flatMap encD = (l.flatMap encD).take (n * z)
  | [], n => by simp
  | x :: l, 0 => by simp
  | x :: l, n + 1 => by
    have e : (n + 1) * z = (encD x).length + n * z := by rw [hL, Nat.add_mul, Nat.one_mul, Nat.add_comm]
    rw [List.take_succ_cons, List.flatMap_cons, List.flatMap_cons, e, List.take_length_add_append, flat_take hL l n]
variable {P : Program} {tt : TT} (hT : TTok P tt)
variable {dst : Option Nat} {ty : TypeId} {pos : String} {af : Array Edge} {gd : Option (Nat × Bool)} {d : Nat} {ρ : Operand → AV} {own : Own}
variable {T e : TypeId} {i j : TyI} {x y : Operand}
include hT
theorem op_indexG (hL : ∀ b, (encD b).length = z) (hz : 0 < z) (b0 : β) {k : IntKind} {n : Int} {l : List β} (ht : tt T = some i) (hs : i.sh = .sl e) (he : tt e = some j) (hj : j.size = z) (hx : ρ x = .p (.c (SL encD l))) (hy : ρ y = .p (.c (.v (.int k n)))) (hn : 0 ≤ n ∧ n < l.length) :
    Eff P ⟨dst, .indexAddr T x y, ty, pos, af, gd⟩ d ρ own (.ip (encD (l.getD n.toNat b0) ++ (l.drop (n.toNat + 1)).flatMap encD)) [] none [] := by
  have hi : n.toNat < l.length := by omega
  have h := op_index_sl (dst := dst) (ty := ty) (pos := pos) (af := af) (gd := gd) (d := d) (own := own) hT ht hs he hx (l := l.length) (xs := l.flatMap encD) (by rfl) hy hn (by
    intro h0
    have := flat_len hL l
    rw [h0] at this
    have h1 : 1 * 1 ≤ l.length * z := Nat.mul_le_mul (by omega) hz
    simp at this
    omega)
  rw [hj, flat_drop hL l n.toNat hi] at h
  have e1 : l.getD n.toNat b0 = l[n.toNat] := by simp [List.getD, hi]
  rw [e1]; exact h
theorem op_appendG (hL : ∀ b, (encD b).length = z) (hz : Nat.blt 0 z = true) {m : Nat} {l : List β} {b : β} (ht : tt T = some i) (hs : i.sh = .sl e) (he : tt e = some j) (hj : j.size = z) (hjb : Nat.ble j.bytes (32 * z) = true) (hx : ρ x = .vec m) (hb : own m = some (VB z e encD l)) (hy : ρ y = .p (.c (.sl 1 (encD b)))) (hfit : l.length ≤ 10000000) (hmd : m ≠ d) (hzb : Nat.ble z 96 = true) :
    Eff P ⟨dst, .call ⟨.builtin .append, #[x, y], #[T, T]⟩, ty, pos, af, gd⟩ d ρ own (.vec d) [(m, none)] (some (VB z e encD (l ++ [b]))) [m] := by
  have hl : (VB z e encD l).cs.length = l.length * z := flat_len hL l
  have hz2 := Nat.le_of_ble_eq_true hzb
  have h1 : l.length * z ≤ 10000000 * 96 := Nat.mul_le_mul hfit hz2
  have h := op_append (dst := dst) (ty := ty) (pos := pos) (af := af) (gd := gd) hT ht hs he hx hb rfl hj.symm rfl hy (by rfl) (by rw [hj, Nat.one_mul]; exact hL b) (by rw [hj]; exact hjb) (by rw [hl, hj]; omega) (by rw [hj]; exact hz) hmd
  unfold VB
  rw [List.flatMap_append]
  rw [hj] at h
  simpa using h
theorem op_len_vecG (hL : ∀ b, (encD b).length = z) (hz : Nat.blt 0 z = true) {m : Nat} {l : List β} {be : TypeId} (ht : tt T = some i) (hs : i.sh = .sl e) (hx : ρ x = .vec m) (hb : own m = some (VB z be encD l)) :
    Eff P ⟨dst, .call ⟨.builtin .len, #[x], #[T]⟩, ty, pos, af, gd⟩ d ρ own (.p (.c (.v (.int .i64 (l.length : Nat))))) [] none [m] :=
  op_len_vec hT ht hs hx hb rfl hz (flat_len hL l).symm
end
section
variable {β : Type} {encD : β → List DV} {z : Nat}
theorem AWp_freezeG {P : Program} {B : Bool} {N np : Nat} {Q : Exit → St → Prop} {s : St} {c : Code} (hL : ∀ b, (encD b).length = z) (hz : Nat.blt 0 z = true) {t m : Nat} {l : List β} {e : TypeId} (ht : s.regs t = .vec m) (hb : s.own m = some (VB z e encD l)) (h : AWp P B N np c Q ⟨upd s.regs t (.p (.c (SL encD l))), upd s.own m none⟩) : AWp P B N np c Q s :=
  AWp_freeze (n := l.length) ht hb rfl (flat_len hL l).symm (show 0 < z by simpa using hz) h
end
section
end
end Go.AM
end

section
/- Strings: their order, and the operations on them. -/
namespace Go.AM
open Go Go.RowKit Go.MapKept
abbrev ltS (a b : Str) : Bool := Op.bytesLess a b
theorem ltS_irrefl : ∀ a : Str, ltS a a = false
  | [] => rfl
  | x :: a => by
    have ih := ltS_irrefl a
    simp only [ltS, Op.bytesLess] at ih ⊢
    simp [ih]
theorem ltS_total : ∀ {a b : Str}, a ≠ b → ltS a b = true ∨ ltS b a = true
  | [], [], h => absurd rfl h
  | [], _ :: _, _ => .inl rfl
  | _ :: _, [], _ => .inr rfl
  | x :: a, y :: b, h => by
    simp only [ltS, Op.bytesLess, Bool.or_eq_true, decide_eq_true_eq, Bool.and_eq_true, beq_iff_eq]
    by_cases e : x = y
    · subst e
      rcases ltS_total (a := a) (b := b) (fun q => h (by rw [q])) with k | k
      · exact .inl (.inr ⟨rfl, k⟩)
      · exact .inr (.inr ⟨rfl, k⟩)
    · rcases Nat.lt_or_gt_of_ne (fun q => e (UInt8.toNat_inj.1 q)) with k | k
      · exact .inl (.inl (UInt8.lt_iff_toNat_lt.2 k))
      · exact .inr (.inl (UInt8.lt_iff_toNat_lt.2 k))
theorem ltS_trans : ∀ {a b c : Str}, ltS a b = true → ltS b c = true → ltS a c = true
  | [], _, [], h, k => by
    rename_i b
    cases b <;> simp [ltS, Op.bytesLess] at h k
  | [], _, _ :: _, _, _ => rfl
  | _ :: _, [], _, h, _ => by simp [ltS, Op.bytesLess] at h
  | _ :: _, _ :: _, [], _, k => by simp [ltS, Op.bytesLess] at k
  | x :: a, y :: b, z :: c, h, k => by
    simp only [ltS, Op.bytesLess, Bool.or_eq_true, decide_eq_true_eq, Bool.and_eq_true, beq_iff_eq] at h k ⊢
    rcases h with h | ⟨rfl, h⟩
    · rcases k with k | ⟨rfl, k⟩
      · exact .inl (UInt8.lt_trans h k)
      · exact .inl h
    · rcases k with k | ⟨rfl, k⟩
      · exact .inl k
      · exact .inr ⟨rfl, ltS_trans h k⟩
theorem ltS_asymm {a b : Str} (h : ltS a b = true) : ltS b a = false := by
  cases k : ltS b a with
  | false => rfl
  | true => have := ltS_trans h k; rw [ltS_irrefl] at this; cases this
/-- the comparison of two strings -/
def cmS (a b : Str) : Int := bif ltS a b then -1 else bif ltS b a then 1 else 0
abbrev st (s : Str) : DV := .v (kS s)
abbrev enS (s : Str) : List DV := [st s]
abbrev enZ (z : Int) : List DV := [.v (.int .i64 z)]
abbrev enB (b : UInt8) : List DV := [.v (.int .u8 (b.toNat : Int))]
theorem enS_len : ∀ s, (enS s).length = 1 := fun _ => rfl
theorem enZ_len : ∀ s, (enZ s).length = 1 := fun _ => rfl
theorem enB_len : ∀ s, (enB s).length = 1 := fun _ => rfl
abbrev AS (s : Str) : AV := .p (.c (st s))
section ops
variable {P : Program} {tt : TT} (hT : TTok P tt)
variable {dst : Option Nat} {ty : TypeId} {pos : String} {af : Array Edge} {gd : Option (Nat × Bool)} {d : Nat} {ρ : Operand → AV} {own : Own}
variable {T yT : TypeId} {i : TyI} {x y : Operand} {a b : Str}
include hT in
theorem op_slen {n : Int} (ht : tt T = some i) (hs : i.sh = .str) (hx : ρ x = AS a) (hn : (a.length : Int) = n) :
    Eff P ⟨dst, .call ⟨.builtin .len, #[x], #[T]⟩, ty, pos, af, gd⟩ d ρ own (.p (.c (.v (.int .i64 n)))) [] none [] := by
  subst hn
  refine builtin_run (fun C h r own' ac w hrep _ => ?_) rfl
  have e1 := rep_val (by have := hrep x (by simp); rw [hx] at this; exact this)
  obtain ⟨dd, h1, h2⟩ := (hT T i ht).und
  rw [hs] at h2
  have hu : P.underlying T = some .string := by rw [h1]; cases dd <;> simp only [ShOK] at h2 <;> rfl
  simp only [List.map_toArray, List.map_cons, List.map_nil, e1, builtin, Sem.run_bind, kS, run_len_string w T ty _ hu, Result.andThen_ok, Sem.run_pure]
  rfl
theorem sbin {op : BinOp} {v : Bool} (hx : ρ x = AS a) (hy : ρ y = AS b) (hv : binOp op T (kS a) (kS b) = pure (.bool v)) : Eff P ⟨dst, .binOp op T x y yT, ty, pos, af, gd⟩ d ρ own (.p (.c (.v (.bool v)))) [] none [] :=
  Eff.value fun C h r own' ac w hrep _ _ => by
    have e1 := hrep x (by simp [Op.operands])
    have e2 := hrep y (by simp [Op.operands])
    rw [hx] at e1; rw [hy] at e2
    refine ⟨.bool v, ?_, mk_bool _ _ _⟩
    have hg : eqGuard op T x y (kS a) (kS b) = pure () := by
      unfold eqGuard kS
      cases op <;> rfl
    simp only [execOp, rep_val e1, rep_val e2, hg, Sem.run_bind, Sem.run_pure, Result.andThen_ok, hv]
theorem op_slss (hx : ρ x = AS a) (hy : ρ y = AS b) : Eff P ⟨dst, .binOp .lss T x y yT, ty, pos, af, gd⟩ d ρ own (B (ltS a b)) [] none [] :=
  sbin hx hy (by unfold kS; simp [binOp, Op.stringOp])
theorem op_sgeq (hx : ρ x = AS a) (hy : ρ y = AS b) : Eff P ⟨dst, .binOp .geq T x y yT, ty, pos, af, gd⟩ d ρ own (B (!ltS a b)) [] none [] :=
  sbin hx hy (by unfold kS; simp [binOp, Op.stringOp])
theorem beq_str (a b : Str) : (a == b) = decide (a = b) := by
  rw [Bool.eq_iff_iff, beq_iff_eq, decide_eq_true_iff]
theorem op_seql (hx : ρ x = AS a) (hy : ρ y = AS b) : Eff P ⟨dst, .binOp .eql T x y yT, ty, pos, af, gd⟩ d ρ own (B (decide (a = b))) [] none [] :=
  sbin hx hy (by unfold kS; simp [binOp, Op.stringOp, beq_str])
theorem op_sneq (hx : ρ x = AS a) (hy : ρ y = AS b) : Eff P ⟨dst, .binOp .neq T x y yT, ty, pos, af, gd⟩ d ρ own (B (!decide (a = b))) [] none [] :=
  sbin hx hy (by unfold kS; simp [binOp, Op.stringOp, beq_str])
theorem ltS_swap (a b : Str) : (!(ltS a b || decide (a = b))) = ltS b a := by
  by_cases e : a = b
  · subst e; simp [ltS_irrefl]
  · rcases ltS_total e with k | k
    · rw [k, ltS_asymm k]; rfl
    · rw [k, ltS_asymm k]; simp [e]
theorem op_sgtr (hx : ρ x = AS a) (hy : ρ y = AS b) : Eff P ⟨dst, .binOp .gtr T x y yT, ty, pos, af, gd⟩ d ρ own (B (ltS b a)) [] none [] :=
  sbin hx hy (by rw [← ltS_swap]; unfold kS; simp [binOp, Op.stringOp, beq_str])
include hT in
/-- s[i] -/
theorem op_sidx {k : IntKind} {n : Int} {c : UInt8} (ht : tt T = some i) (hs : i.sh = .str) (hx : ρ x = AS a) (hy : ρ y = .p (.c (.v (.int k n)))) (hn : 0 ≤ n ∧ n < a.length) (hc : a.getD n.toNat 0 = c) :
    Eff P ⟨dst, .index T x y, ty, pos, af, gd⟩ d ρ own (.p (.c (.v (.int .u8 c.toNat)))) [] none [] :=
  op_index_str hT ht hs hx hy hn.1 (by
    have hlt : n.toNat < a.length := by omega
    subst hc
    rw [ByteArray.getElem?_lt' _ _ (by show n.toNat < a.toArray.size; simpa using hlt)]
    congr 1
    show a.toArray[n.toNat] = _
    simp [List.getD_eq_getElem?_getD, hlt])
include hT in
/-- []byte(s) -/
theorem op_bytes {e : Nat} {S : TypeId} {j k : TyI} (hS : tt S = some j) (hsj : j.sh = .str) (ht : tt T = some i) (hs : i.sh = .sl e) (he : tt e = some k) (hk : k.sh = .int .u8) (hx : ρ x = AS a) (hl : a.length ≤ 140737488355328) :
    Eff P ⟨dst, .convert S T x, ty, pos, af, gd⟩ d ρ own (.p (.c (SL enB a))) [] none [] := by
  intro C h r own' ac w K Q hrep _ hw _ hK
  have e1 := hrep x (by simp [Op.operands])
  rw [hx] at e1
  have hrun := run_bytes_of_string (P := P) w S T e ⟨a.toArray⟩ ((hT S j hS).str hsj) ((hT T i ht).slice hs) ((hT e k he).int hk)
  have hge := grownCap_ge w a.length 0 e
  have hsz : (ByteArray.mk a.toArray).size = a.length := by show a.toArray.size = _; simp
  rw [hsz] at hrun
  have hr2 : (execOp ac.eval ⟨dst, .convert S T x, ty, pos, af, gd⟩).run P w = .ok (.value (.slice (some ⟨w.heap.size, 0, none⟩) a.length (grownCap w a.length 0 e))) (w.drew.alloc (.cells (bytesRow ⟨a.toArray⟩ (grownCap w a.length 0 e)) e ((bytesRow ⟨a.toArray⟩ (grownCap w a.length 0 e)).size, (bytesRow ⟨a.toArray⟩ (grownCap w a.length 0 e)).size + 1))) := by
    simp only [execOp, rep_val e1, kS, Sem.run_bind, hrun, Result.andThen_ok, Sem.run_pure]
  unfold Oper.wp
  rw [hr2]
  obtain ⟨k1, k2⟩ := hw.draw.imm (.cells (bytesRow ⟨a.toArray⟩ (grownCap w a.length 0 e)) e ((bytesRow ⟨a.toArray⟩ (grownCap w a.length 0 e)).size, (bytesRow ⟨a.toArray⟩ (grownCap w a.length 0 e)).size + 1))
  refine hK _ _ r _ k2 (fun _ _ => rfl) ?_ k1
  simp only [AVRep, PRep, DRep]
  refine ⟨_, _, rfl, hge, hl, .inr ⟨w.heap.size, 0, _, e, _, rfl, if_pos rfl, ?_⟩⟩
  rw [DReps.iff]
  intro q dv hq
  have hlt : q < a.length := by have := (List.getElem?_eq_some_iff.1 hq).1; rwa [flat_len enB_len, Nat.mul_one] at this
  obtain ⟨b', g1, g2⟩ := flat_get enB_len a q dv hq
  refine ⟨.int .u8 (a[q].toNat : Int), ?_, ?_⟩
  · rw [Nat.zero_add, bytesRow_at _ _ _ (by show q < a.toArray.size; simpa using hlt)]
    simp
  · rw [Nat.div_one, List.getElem?_eq_getElem hlt, Option.some.injEq] at g1
    subst g1
    simp only [Nat.mod_one, enB, List.getElem?_cons_zero, Option.some.injEq] at g2
    subst g2
    exact ⟨rfl, rfl⟩
end ops
/-- strictly increasing, as far as looked at -/
def incr {α : Type} (lt : α → α → Bool) : List α → Bool
  | x :: y :: l => lt x y && incr lt (y :: l)
  | _ => true
theorem incr_iff {α : Type} {lt : α → α → Bool} : ∀ {l : List α}, incr lt l = true ↔ ∀ i (h : i + 1 < l.length), lt (l[i]'(by omega)) l[i + 1] = true
  | [] => by simp [incr]
  | [x] => by simp [incr]
  | x :: y :: l => by
    simp only [incr, Bool.and_eq_true, incr_iff (l := y :: l)]
    constructor
    · rintro ⟨h1, h2⟩ i hi
      cases i with
      | zero => exact h1
      | succ i => exact h2 i (by simpa using hi)
    · intro h
      exact ⟨h 0 (by simp), fun i hi => h (i + 1) (by simpa using hi)⟩
theorem incr_no {α : Type} {lt : α → α → Bool} {l : List α} {d : α} {k : Nat} (h1 : 1 ≤ k) (h2 : k < l.length) (h : lt (l.getD (k - 1) d) (l.getD k d) = false) : incr lt l = false := by
  rw [← Bool.not_eq_true, incr_iff]
  intro q
  have := q (k - 1) (by omega)
  have e1 : l.getD (k - 1) d = l[k - 1] := by rw [List.getD_eq_getElem?_getD, List.getElem?_eq_getElem (by omega)]; rfl
  have e2 : l.getD k d = l[k - 1 + 1] := by
    rw [List.getD_eq_getElem?_getD, List.getElem?_eq_getElem (by omega)]
    simp only [Option.getD_some]
    congr 1; omega
  rw [e1, e2, this] at h
  cases h
theorem incr_yes {α : Type} {lt : α → α → Bool} {l : List α} {d : α} (h : ∀ k, 1 ≤ k → k < l.length → lt (l.getD (k - 1) d) (l.getD k d) = true) : incr lt l = true := by
  rw [incr_iff]
  intro i hi
  have := h (i + 1) (by omega) hi
  rwa [Nat.add_sub_cancel, List.getD_eq_getElem?_getD, List.getElem?_eq_getElem (by omega), List.getD_eq_getElem?_getD, List.getElem?_eq_getElem hi] at this
/-- the comparison of two lists -/
def cmL {α : Type} (cm : α → α → Int) : List α → List α → Int
  | [], [] => 0
  | [], _ :: _ => -1
  | _ :: _, [] => 1
  | x :: a, y :: b => if cm x y = 0 then cmL cm a b else cm x y
def cmZ (a b : Int) : Int := if a < b then -1 else if b < a then 1 else 0
theorem cmL_drop {α : Type} {cm : α → α → Int} {d : α} : ∀ {a b : List α} {k : Nat}, (∀ i, i < k → i < a.length ∧ i < b.length ∧ cm (a.getD i d) (b.getD i d) = 0) → cmL cm a b = cmL cm (a.drop k) (b.drop k)
  | _, _, 0, _ => rfl
  | [], _, k + 1, h => absurd (h 0 (by omega)).1 (by simp)
  | _ :: _, [], k + 1, h => absurd (h 0 (by omega)).2.1 (by simp)
  | x :: a, y :: b, k + 1, h => by
    have h0 := (h 0 (by omega)).2.2
    simp only [List.getD_cons_zero] at h0
    simp only [cmL, h0, if_true, List.drop_succ_cons]
    exact cmL_drop fun i hi => by
      have := h (i + 1) (by omega)
      simpa using this
theorem dropD {α : Type} {l : List α} {k : Nat} {d : α} (h : k < l.length) : l.drop k = l.getD k d :: l.drop (k + 1) := by
  rw [List.drop_eq_getElem_cons h, List.getD_eq_getElem?_getD, List.getElem?_eq_getElem h]; rfl
theorem cmL_at {α : Type} {cm : α → α → Int} {d : α} {a b : List α} {k : Nat} (h : ∀ i, i < k → i < a.length ∧ i < b.length ∧ cm (a.getD i d) (b.getD i d) = 0) (h1 : k < a.length) (h2 : k < b.length) (h3 : cm (a.getD k d) (b.getD k d) ≠ 0) : cmL cm a b = cm (a.getD k d) (b.getD k d) := by
  rw [cmL_drop h, dropD (d := d) h1, dropD (d := d) h2, cmL, if_neg h3]
theorem cmL_more {α : Type} {cm : α → α → Int} {d : α} {a b : List α} {k : Nat} (h : ∀ i, i < k → i < a.length ∧ i < b.length ∧ cm (a.getD i d) (b.getD i d) = 0) (h1 : k < a.length) (h2 : b.length ≤ k) : cmL cm a b = 1 := by
  rw [cmL_drop h, dropD (d := d) h1, List.drop_eq_nil_of_le h2]; rfl
theorem cmL_less {α : Type} {cm : α → α → Int} {d : α} {a b : List α} {k : Nat} (h : ∀ i, i < k → i < a.length ∧ i < b.length ∧ cm (a.getD i d) (b.getD i d) = 0) (h1 : a.length ≤ k) (h2 : k < b.length) : cmL cm a b = -1 := by
  rw [cmL_drop h, dropD (d := d) h2, List.drop_eq_nil_of_le h1]; rfl
theorem cmL_same {α : Type} {cm : α → α → Int} {d : α} {a b : List α} {k : Nat} (h : ∀ i, i < k → i < a.length ∧ i < b.length ∧ cm (a.getD i d) (b.getD i d) = 0) (h1 : a.length ≤ k) (h2 : b.length ≤ k) : cmL cm a b = 0 := by
  rw [cmL_drop h, List.drop_eq_nil_of_le h1, List.drop_eq_nil_of_le h2]; rfl
/-- a contract for arguments of which more is known -/
def SubLs : List AV → List AV → Prop
  | [], [] => True
  | x :: xs, y :: ys => Sub x y ∧ SubLs xs ys
  | _, _ => False
theorem SubLs.rep {h : Hp} {r : Nat → Value} : ∀ {xs ys : List AV} {vs : List Value}, SubLs xs ys → RepArgs h r xs vs → RepArgs h r ys vs
  | [], [], [], _, _ => trivial
  | _ :: _, _ :: _, _ :: _, k, q => ⟨k.1 _ _ _ q.1, SubLs.rep k.2 q.2⟩
  | [], [], _ :: _, _, q => q.elim
  | _ :: _, _ :: _, [], _, q => q.elim
  | [], _ :: _, _, k, _ => k.elim
  | _ :: _, [], _, k, _ => k.elim
theorem CallM.sub {P : Program} {f : FuncId} {args args' : List AV} {o o' : Own} {res : AV} (h : CallM P f args o res o') (k : SubLs args' args) : CallM P f args' o res o' :=
  ⟨h.fn, fun hh r w cargs hra hbf => h.go hh r w cargs (k.rep hra) hbf⟩
theorem sub_fn {g : FuncId} : Sub (.p (.c (.v (.func (.func g) #[] #[])))) (.fn g []) := fun _ _ x k => by
  have := rep_val k
  subst this
  exact ⟨#[], rfl, trivial⟩
/-- where a test first says yes -/
def fiX {α : Type} (p : α → Bool) (l : List α) : Int := if l.findIdx p < l.length then (l.findIdx p : Nat) else -1
theorem fiX_no {α : Type} {p : α → Bool} {l : List α} {d : α} {k : Nat} (h1 : k ≤ l.findIdx p) (h2 : k < l.length) (h3 : p (l.getD k d) = false) : k + 1 ≤ l.findIdx p := by
  rcases Nat.lt_or_ge k (l.findIdx p) with h | h
  · exact h
  · have e : l.findIdx p = k := by omega
    have := List.findIdx_getElem (p := p) (xs := l) (w := by omega)
    rw [List.getD_eq_getElem?_getD, List.getElem?_eq_getElem h2] at h3
    simp only [e] at this
    simp only [Option.getD_some] at h3
    rw [this] at h3; cases h3
theorem fiX_yes {α : Type} {p : α → Bool} {l : List α} {d : α} {k : Nat} (h1 : k ≤ l.findIdx p) (h2 : k < l.length) (h3 : p (l.getD k d) = true) : fiX p l = k := by
  have e : l.findIdx p = k := by
    rcases Nat.lt_or_ge k (l.findIdx p) with h | h
    · have := List.not_of_lt_findIdx h
      rw [List.getD_eq_getElem?_getD, List.getElem?_eq_getElem h2] at h3
      simp only [Option.getD_some] at h3
      rw [h3] at this; cases this
    · omega
  unfold fiX; rw [e, if_pos h2]
theorem fiX_end {α : Type} {p : α → Bool} {l : List α} {k : Nat} (h1 : k ≤ l.findIdx p) (h2 : l.length ≤ k) : fiX p l = -1 := by
  unfold fiX; rw [if_neg (by omega)]
theorem fiX_any {α : Type} (p : α → Bool) (l : List α) : decide (0 ≤ fiX p l) = l.any p := by
  unfold fiX
  by_cases h : l.findIdx p < l.length
  · rw [if_pos h, List.any_eq_true.2 ((List.findIdx_lt_length).1 h)]
    exact decide_eq_true (by omega)
  · rw [if_neg h]
    have : l.any p = false := by
      rw [← Bool.not_eq_true, List.any_eq_true]
      exact fun e => h (List.findIdx_lt_length.2 e)
    rw [this]; rfl
theorem getD_mem' {α : Type} {l : List α} {k : Nat} (d : α) (h : k < l.length) : l.getD k d ∈ l := by
  rw [List.getD_eq_getElem?_getD, List.getElem?_eq_getElem h]; exact List.getElem_mem h
end Go.AM
end

section
/- Facts for the walks over strings and lists. -/
namespace Go.AM
open Go Go.RowKit Go.MapKept
abbrev ltZ (a b : Int) : Bool := decide (a < b)
theorem cmS_l {a b : Str} (h : ltS a b = true) : cmS a b = -1 := by unfold cmS; rw [h]; rfl
theorem cmS_g {a b : Str} (h : ltS a b = false) (k : ltS b a = true) : cmS a b = 1 := by unfold cmS; rw [h, k]; rfl
theorem cmS_e {a b : Str} (h : ltS a b = false) (k : ltS b a = false) : cmS a b = 0 := by unfold cmS; rw [h, k]; rfl
theorem cmZ_l {a b : Int} (h : decide (a < b) = true) : cmZ a b = -1 := if_pos (of_decide_eq_true h)
theorem cmZ_g {a b : Int} (h : decide (a < b) = false) (k : decide (b < a) = true) : cmZ a b = 1 := by unfold cmZ; rw [if_neg (of_decide_eq_false h), if_pos (of_decide_eq_true k)]
theorem cmZ_e {a b : Int} (h : decide (a < b) = false) (k : decide (b < a) = false) : cmZ a b = 0 := by unfold cmZ; rw [if_neg (of_decide_eq_false h), if_neg (of_decide_eq_false k)]
def okP (n : Int) : Prop := (97 ≤ n ∧ n ≤ 122) ∨ (65 ≤ n ∧ n ≤ 90) ∨ (48 ≤ n ∧ n ≤ 57) ∨ n = 58 ∨ n = 45
instance (n : Int) : Decidable (okP n) := by unfold okP; infer_instance
def okc (c : UInt8) : Bool := decide (okP (c.toNat : Int))
theorem oc_t {n : Int} (h : okP n) : (!true) = !decide (okP n) := by rw [decide_eq_true h]
theorem oc_f {n : Int} (h : ¬ (97 ≤ n ∧ n ≤ 122) ∧ ¬ (65 ≤ n ∧ n ≤ 90) ∧ ¬ (48 ≤ n ∧ n ≤ 57) ∧ ¬ n = 58) : (!(n == 45)) = !decide (okP n) := by
  congr 1
  rw [Bool.eq_iff_iff, beq_iff_eq, decide_eq_true_iff]
  unfold okP
  constructor
  · exact fun e => .inr (.inr (.inr (.inr e)))
  · rintro (e | e | e | e | e)
    · exact absurd e h.1
    · exact absurd e h.2.1
    · exact absurd e h.2.2.1
    · exact absurd e h.2.2.2
    · exact e
def hypB (n : Int) : Bool := decide (1 ≤ n ∧ n ≤ 16)
def okS (s : Str) : Bool := decide (1 ≤ s.length ∧ s.length ≤ 40) && s.all okc
def hypsB (l : List Int) : Bool := incr ltZ l && l.all hypB
/-- a derivation: its claim, what it is derived from, its hypotheses -/
abbrev Drv := Str × List Str × List Int
abbrev enD (d : Drv) : List DV := [st d.1, SL enS d.2.1, SL enZ d.2.2]
theorem enD_len : ∀ d, (enD d).length = 3 := fun _ => rfl
def rightD (d : Drv) : Bool := okS d.1 && decide (d.2.1.length ≤ 10) && incr ltS d.2.1 && d.2.1.all okS && hypsB d.2.2
def orZ : List Int → Int
  | [] => 0
  | x :: l => if x = 0 then orZ l else x
def cmD (a b : Drv) : Int := orZ [cmS a.1 b.1, cmL cmS a.2.1 b.2.1, cmL cmZ a.2.2 b.2.2]
theorem any_not {α : Type} {p : α → Bool} : ∀ {l : List α}, (!(l.any fun x => !p x)) = l.all p
  | [] => rfl
  | x :: l => by
    have := any_not (p := p) (l := l)
    simp only [List.any_cons, List.all_cons, Bool.not_or, Bool.not_not, this]
theorem orZ_no {l : List Int} {k : Nat} (h : ∀ i, i < k → i < l.length → l.getD i 0 = 0) : orZ l = orZ (l.drop k) := by
  induction k generalizing l with
  | zero => rfl
  | succ k ih =>
    cases l with
    | nil => rfl
    | cons x l =>
      have h0 := h 0 (by omega) (by simp)
      simp only [List.getD_cons_zero] at h0
      simp only [orZ, h0, if_true, List.drop_succ_cons]
      exact ih fun i h1 h2 => by
        have := h (i + 1) (by omega) (by simp; omega)
        simpa using this
theorem orZ_at {l : List Int} {k : Nat} (h : ∀ i, i < k → i < l.length → l.getD i 0 = 0) (hk : k < l.length) (hn : l.getD k 0 ≠ 0) : orZ l = l.getD k 0 := by
  rw [orZ_no h, dropD (d := 0) hk, orZ, if_neg hn]
theorem orZ_end {l : List Int} {k : Nat} (h : ∀ i, i < k → i < l.length → l.getD i 0 = 0) (hk : l.length ≤ k) : orZ l = 0 := by
  rw [orZ_no h, List.drop_eq_nil_of_le hk]; rfl
theorem hyp_a {n : Int} (h : 1 ≤ n) : decide (n ≤ 16) = hypB n := by unfold hypB; rw [Bool.eq_iff_iff, decide_eq_true_iff, decide_eq_true_iff]; omega
theorem hyp_b {n : Int} (h : ¬ 1 ≤ n) : false = hypB n := by unfold hypB; exact (decide_eq_false (by omega)).symm
theorem okS_n {s : Str} (h : ¬ (1 ≤ s.length ∧ s.length ≤ 40)) : false = okS s := by unfold okS; rw [decide_eq_false h]; rfl
theorem okS_y {s : Str} (h : 1 ≤ s.length) (k : s.length ≤ 40) : (!(s.any fun c => !okc c)) = okS s := by unfold okS; rw [decide_eq_true ⟨h, k⟩, any_not]; rfl
theorem hyps_y {l : List Int} (h : incr ltZ l = true) : (!(l.any fun n => !hypB n)) = hypsB l := by unfold hypsB; rw [h, any_not]; rfl
theorem hyps_n {l : List Int} (h : incr ltZ l = false) : false = hypsB l := by unfold hypsB; rw [h]; rfl
theorem right_y {d : Drv} (h1 : okS d.1 = true) (h2 : (d.2.1.length : Int) ≤ 10) (h3 : incr ltS d.2.1 = true) (h4 : (!(d.2.1.any fun s => !okS s)) = true) : hypsB d.2.2 = rightD d := by
  rw [any_not] at h4
  unfold rightD; rw [h1, h3, h4, decide_eq_true (by omega : d.2.1.length ≤ 10)]; simp
theorem right_4 {d : Drv} (h4 : (!(d.2.1.any fun s => !okS s)) = false) : false = rightD d := by
  rw [any_not] at h4
  unfold rightD; rw [h4]; simp
theorem right_3 {d : Drv} (h3 : incr ltS d.2.1 = false) : false = rightD d := by unfold rightD; rw [h3]; simp
theorem right_2 {d : Drv} (h2 : ¬ (d.2.1.length : Int) ≤ 10) : false = rightD d := by unfold rightD; rw [decide_eq_false (by omega : ¬ d.2.1.length ≤ 10)]; simp
theorem right_1 {d : Drv} (h1 : okS d.1 = false) : false = rightD d := by unfold rightD; rw [h1]; simp
end Go.AM
end

section
/- What follows from derivations, in rounds. -/
namespace Go.AM
/-- derivations that were used, each with its round -/
abbrev Fnd := List (Drv × Nat)
def cls (f : Fnd) : List Str := f.map (·.1.1)
def canU (S : List Str) (ok : Drv → Bool) (d : Drv) : Bool := ok d && d.2.1.all fun s => decide (s ∈ S)
def rnd1 (S : List Str) (ok : Drv → Bool) (r : Nat) (nx : Fnd) (d : Drv) : Fnd := if d.1 ∉ cls nx ∧ canU S ok d = true then nx ++ [(d, r)] else nx
def rndL (S : List Str) (ok : Drv → Bool) (r : Nat) (D : List Drv) (nx : Fnd) : Fnd := D.foldl (rnd1 S ok r) nx
def rds (D : List Drv) (ok : Drv → Bool) : Nat → Fnd
  | 0 => []
  | k + 1 => rndL (cls (rds D ok k)) ok (k + 1) D (rds D ok k)
def finD (D : List Drv) (ok : Drv → Bool) : Fnd := rds D ok (D.length + 1)
theorem canU_iff {S : List Str} {ok : Drv → Bool} {d : Drv} : canU S ok d = true ↔ ok d = true ∧ ∀ s ∈ d.2.1, s ∈ S := by
  unfold canU; rw [Bool.and_eq_true, List.all_eq_true]; simp only [decide_eq_true_eq]
theorem cls_app (f g : Fnd) : cls (f ++ g) = cls f ++ cls g := by simp [cls]
theorem mem_cls {f : Fnd} {c : Str} : c ∈ cls f ↔ ∃ x ∈ f, x.1.1 = c := by simp [cls]
theorem rndL_cons (S : List Str) (ok : Drv → Bool) (r : Nat) (d : Drv) (D : List Drv) (nx : Fnd) : rndL S ok r (d :: D) nx = rndL S ok r D (rnd1 S ok r nx d) := rfl
theorem rndL_snoc (S : List Str) (ok : Drv → Bool) (r : Nat) (d : Drv) (D : List Drv) (nx : Fnd) : rndL S ok r (D ++ [d]) nx = rnd1 S ok r (rndL S ok r D nx) d := by unfold rndL; rw [List.foldl_append]; rfl
theorem rnd1_mem {S : List Str} {ok : Drv → Bool} {r : Nat} {nx : Fnd} {d : Drv} {c : Str} : c ∈ cls (rnd1 S ok r nx d) ↔ c ∈ cls nx ∨ (d.1 = c ∧ canU S ok d = true) := by
  unfold rnd1
  split
  · next h =>
    rw [cls_app, List.mem_append]
    refine or_congr Iff.rfl ?_
    simp only [cls, List.map_cons, List.map_nil, List.mem_singleton]
    exact ⟨fun e => ⟨e.symm, h.2⟩, fun e => e.1.symm⟩
  · next h =>
    refine ⟨.inl, fun e => e.elim id fun e => Classical.byContradiction fun k => h ⟨fun q => k (e.1 ▸ q), e.2⟩⟩
theorem rndL_mem {S : List Str} {ok : Drv → Bool} {r : Nat} {c : Str} : ∀ {D : List Drv} {nx : Fnd}, c ∈ cls (rndL S ok r D nx) ↔ c ∈ cls nx ∨ ∃ d ∈ D, d.1 = c ∧ canU S ok d = true
  | [], nx => by simp [rndL]
  | d :: D, nx => by
    rw [rndL_cons, rndL_mem, rnd1_mem, or_assoc]
    simp
/-- what a round adds -/
theorem rndL_new {S : List Str} {ok : Drv → Bool} {r : Nat} : ∀ {D : List Drv} {nx : Fnd}, (cls nx).Nodup → ∃ e, rndL S ok r D nx = nx ++ e ∧ (cls (nx ++ e)).Nodup ∧
    ∀ x ∈ e, x.2 = r ∧ x.1 ∈ D ∧ canU S ok x.1 = true ∧ D.find? (fun d => decide (d.1 = x.1.1) && canU S ok d) = some x.1
  | [], nx, hn => ⟨[], by simp [rndL], by simpa using hn, by simp⟩
  | d :: D, nx, hn => by
    rw [rndL_cons]
    by_cases h : d.1 ∉ cls nx ∧ canU S ok d = true
    · have e1 : rnd1 S ok r nx d = nx ++ [(d, r)] := if_pos h
      have hn1 : (cls (nx ++ [(d, r)])).Nodup := by
        rw [cls_app, List.nodup_append]
        refine ⟨hn, by simp [cls], fun a ha b hb q => ?_⟩
        simp only [cls, List.map_cons, List.map_nil, List.mem_singleton] at hb
        exact h.1 (by rw [← hb, ← q]; exact ha)
      obtain ⟨e, h1, h2, h3⟩ := rndL_new (S := S) (ok := ok) (r := r) (D := D) hn1
      refine ⟨(d, r) :: e, ?_, ?_, ?_⟩
      · rw [e1, h1]; simp
      · rw [List.append_assoc] at h2; exact h2
      · intro x hx
        rcases List.mem_cons.1 hx with rfl | hx
        · refine ⟨rfl, by simp, h.2, ?_⟩
          rw [List.find?_cons_of_pos]
          simp [h.2]
        · obtain ⟨g1, g2, g3, g4⟩ := h3 x hx
          refine ⟨g1, List.mem_cons_of_mem _ g2, g3, ?_⟩
          rw [List.find?_cons_of_neg, g4]
          have hne : d.1 ≠ x.1.1 := fun q => by
            rw [cls_app, cls_app, List.append_assoc, List.nodup_append] at h2
            have := (List.nodup_append.1 h2.2.1).2.2 d.1 (by simp [cls]) x.1.1 (mem_cls.2 ⟨x, hx, rfl⟩)
            exact this q
          simp [hne]
    · have e1 : rnd1 S ok r nx d = nx := if_neg h
      rw [e1]
      obtain ⟨e, h1, h2, h3⟩ := rndL_new (S := S) (ok := ok) (r := r) (D := D) hn
      refine ⟨e, h1, h2, fun x hx => ?_⟩
      obtain ⟨g1, g2, g3, g4⟩ := h3 x hx
      refine ⟨g1, List.mem_cons_of_mem _ g2, g3, ?_⟩
      rw [List.find?_cons_of_neg, g4]
      have : ¬ (d.1 = x.1.1 ∧ canU S ok d = true) := fun q => h ⟨fun z => ?_, q.2⟩
      · simpa using this
      · rw [cls_app, List.nodup_append] at h2
        exact h2.2.2 d.1 z x.1.1 (mem_cls.2 ⟨x, hx, rfl⟩) q.1
theorem rndL_id {S : List Str} {ok : Drv → Bool} {r : Nat} : ∀ {D : List Drv} {nx : Fnd}, (∀ d ∈ D, canU S ok d = true → d.1 ∈ cls nx) → rndL S ok r D nx = nx
  | [], _, _ => rfl
  | d :: D, nx, h => by
    rw [rndL_cons, show rnd1 S ok r nx d = nx from if_neg fun q => q.1 (h d (by simp) q.2)]
    exact rndL_id fun x hx => h x (by simp [hx])
variable {D : List Drv} {ok : Drv → Bool}
theorem rds_nodup : ∀ k, (cls (rds D ok k)).Nodup
  | 0 => by simp [rds, cls]
  | k + 1 => by
    obtain ⟨e, h1, h2, _⟩ := rndL_new (S := cls (rds D ok k)) (ok := ok) (r := k + 1) (D := D) (rds_nodup k)
    rw [rds, h1]; exact h2
theorem rds_step (k : Nat) : ∃ e, rds D ok (k + 1) = rds D ok k ++ e ∧ ∀ x ∈ e, x.2 = k + 1 ∧ x.1 ∈ D ∧ canU (cls (rds D ok k)) ok x.1 = true ∧ D.find? (fun d => decide (d.1 = x.1.1) && canU (cls (rds D ok k)) ok d) = some x.1 := by
  obtain ⟨e, h1, _, h3⟩ := rndL_new (S := cls (rds D ok k)) (ok := ok) (r := k + 1) (D := D) (rds_nodup k)
  exact ⟨e, h1, h3⟩
theorem mem_rds (k : Nat) {c : Str} : c ∈ cls (rds D ok (k + 1)) ↔ c ∈ cls (rds D ok k) ∨ ∃ d ∈ D, d.1 = c ∧ canU (cls (rds D ok k)) ok d = true := rndL_mem
theorem rds_pre {j k : Nat} (h : j ≤ k) : ∃ e, rds D ok k = rds D ok j ++ e := by
  induction k with
  | zero => exact ⟨[], by rw [Nat.le_zero.1 h]; simp⟩
  | succ k ih =>
    rcases Nat.lt_or_ge j (k + 1) with hl | hl
    · obtain ⟨e, h1⟩ := ih (by omega)
      obtain ⟨e', h2, _⟩ := rds_step (D := D) (ok := ok) k
      exact ⟨e ++ e', by rw [h2, h1, List.append_assoc]⟩
    · exact ⟨[], by rw [show j = k + 1 by omega]; simp⟩
theorem rds_sub {j k : Nat} (h : j ≤ k) {c : Str} (hc : c ∈ cls (rds D ok j)) : c ∈ cls (rds D ok k) := by
  obtain ⟨e, h1⟩ := rds_pre (D := D) (ok := ok) h
  rw [h1, cls_app]; exact List.mem_append_left _ hc
/-- where an entry comes from -/
theorem rds_src {k : Nat} {x : Drv × Nat} : x ∈ rds D ok k → ∃ j, x.2 = j + 1 ∧ j < k ∧ x.1 ∈ D ∧ canU (cls (rds D ok j)) ok x.1 = true ∧ x.1.1 ∉ cls (rds D ok j) ∧ D.find? (fun d => decide (d.1 = x.1.1) && canU (cls (rds D ok j)) ok d) = some x.1 := by
  induction k with
  | zero => intro h; simp [rds] at h
  | succ k ih =>
    intro h
    obtain ⟨e, h1, h2⟩ := rds_step (D := D) (ok := ok) k
    rw [h1] at h
    rcases List.mem_append.1 h with h | h
    · obtain ⟨j, g1, g2, g3⟩ := ih h
      exact ⟨j, g1, by omega, g3⟩
    · obtain ⟨g1, g2, g3, g4⟩ := h2 x h
      refine ⟨k, g1, by omega, g2, g3, ?_, g4⟩
      have hn := rds_nodup (D := D) (ok := ok) (k + 1)
      rw [h1, cls_app, List.nodup_append] at hn
      exact fun q => hn.2.2 _ q _ (mem_cls.2 ⟨x, h, rfl⟩) rfl
theorem rds_len (k : Nat) : (rds D ok k).length ≤ D.length := by
  have h1 : (cls (rds D ok k)).length ≤ (D.map (·.1)).length := (rds_nodup k).length_le_of_subset fun c hc => by
    obtain ⟨x, hx, rfl⟩ := mem_cls.1 hc
    obtain ⟨_, _, _, g, _⟩ := rds_src hx
    exact List.mem_map.2 ⟨x.1, g, rfl⟩
  simpa [cls] using h1
theorem rds_stab {k : Nat} (h : rds D ok (k + 1) = rds D ok k) : ∀ j, k ≤ j → rds D ok j = rds D ok k := by
  intro j hj
  induction j with
  | zero => rw [Nat.le_zero.1 hj]
  | succ j ih =>
    rcases Nat.lt_or_ge k (j + 1) with hl | hl
    · have e := ih (by omega)
      show rndL (cls (rds D ok j)) ok (j + 1) D (rds D ok j) = _
      rw [e]
      refine rndL_id fun d hd hc => ?_
      rw [← h]
      exact (mem_rds k).2 (.inr ⟨d, hd, rfl, hc⟩)
    · rw [show j + 1 = k by omega]
theorem rds_grow {k : Nat} (h : rds D ok (k + 1) ≠ rds D ok k) : (rds D ok k).length < (rds D ok (k + 1)).length := by
  obtain ⟨e, h1, _⟩ := rds_step (D := D) (ok := ok) k
  rw [h1] at h ⊢
  rw [List.length_append]
  cases e with
  | nil => simp at h
  | cons => simp
theorem rds_fix : ∃ k, k ≤ D.length ∧ rds D ok (k + 1) = rds D ok k := by
  refine Classical.byContradiction fun hno => ?_
  have h : ∀ k, k ≤ D.length + 1 → k ≤ (rds D ok k).length := by
    intro k
    induction k with
    | zero => intro _; exact Nat.zero_le _
    | succ k ih =>
      intro hk
      have h1 := ih (by omega)
      have h2 := rds_grow (D := D) (ok := ok) (k := k) fun q => hno ⟨k, by omega, q⟩
      omega
  have h1 := h (D.length + 1) (Nat.le_refl _)
  have h2 := rds_len (D := D) (ok := ok) (D.length + 1)
  omega
theorem fin_of {k : Nat} (h : rds D ok (k + 1) = rds D ok k) : rds D ok k = finD D ok := by
  obtain ⟨j, h1, h2⟩ := rds_fix (D := D) (ok := ok)
  unfold finD
  rw [rds_stab h2 (D.length + 1) (by omega)]
  rcases Nat.le_total k j with q | q
  · exact (rds_stab h j q).symm
  · exact rds_stab h2 k q
theorem fin_of_len {k : Nat} (h : (rds D ok (k + 1)).length = (rds D ok k).length) : rds D ok k = finD D ok :=
  fin_of (Classical.byContradiction fun q => by have := rds_grow q; omega)
theorem fin_len (k : Nat) : (rds D ok k).length ≤ D.length := rds_len k
theorem fin_closed {d : Drv} (hd : d ∈ D) (h : canU (cls (finD D ok)) ok d = true) : d.1 ∈ cls (finD D ok) := by
  obtain ⟨j, h1, h2⟩ := rds_fix (D := D) (ok := ok)
  have e := fin_of h2
  rw [← e] at h ⊢
  rw [← h2]
  exact (mem_rds j).2 (.inr ⟨d, hd, rfl, h⟩)
/-- what follows -/
inductive Dvd (D : List Drv) (ok : Drv → Bool) : Str → Prop
  | mk {d : Drv} (h : d ∈ D) (h2 : ok d = true) (h3 : ∀ s ∈ d.2.1, Dvd D ok s) : Dvd D ok d.1
theorem Dvd.mono {D D' : List Drv} {ok ok' : Drv → Bool} (h1 : ∀ d ∈ D, ok d = true → d ∈ D' ∧ ok' d = true) {c : Str} (h : Dvd D ok c) : Dvd D' ok' c := by
  induction h with
  | mk h h2 h3 ih => exact .mk (h1 _ h h2).1 (h1 _ h h2).2 ih
theorem rds_dv : ∀ {k : Nat} {c : Str}, c ∈ cls (rds D ok k) → Dvd D ok c
  | 0, c, h => by simp [rds, cls] at h
  | k + 1, c, h => by
    rcases (mem_rds k).1 h with h | ⟨d, hd, rfl, hc⟩
    · exact rds_dv h
    · rw [canU_iff] at hc
      exact .mk hd hc.1 fun s hs => rds_dv (hc.2 s hs)
theorem dv_fin {c : Str} : Dvd D ok c ↔ c ∈ cls (finD D ok) := by
  constructor
  · intro h
    induction h with
    | mk h h2 h3 ih => exact fin_closed h (canU_iff.2 ⟨h2, ih⟩)
  · exact rds_dv
/-- the reason of a claim -/
def whyD (f : Fnd) (c : Str) : Option (Drv × Nat) := f.find? fun x => decide (x.1.1 = c)
theorem whyD_some {f : Fnd} {c : Str} {x : Drv × Nat} (h : whyD f c = some x) : x ∈ f ∧ x.1.1 = c := by
  unfold whyD at h
  exact ⟨List.mem_of_find?_eq_some h, by simpa using List.find?_some h⟩
theorem whyD_none {f : Fnd} {c : Str} : whyD f c = none ↔ c ∉ cls f := by
  unfold whyD
  rw [List.find?_eq_none, mem_cls]
  simp only [decide_eq_true_eq]
  exact ⟨fun h ⟨x, h1, h2⟩ => h x h1 h2, fun h x h1 h2 => h ⟨x, h1, h2⟩⟩
theorem whyD_of {f : Fnd} (hn : (cls f).Nodup) {x : Drv × Nat} (h : x ∈ f) : whyD f x.1.1 = some x := by
  induction f with
  | nil => cases h
  | cons y f ih =>
    have hn' : y.1.1 ∉ cls f ∧ (cls f).Nodup := List.nodup_cons.1 hn
    unfold whyD
    rcases List.mem_cons.1 h with rfl | h
    · rw [List.find?_cons_of_pos (by simp)]
    · rw [List.find?_cons_of_neg]
      · exact ih hn'.2 h
      · have : y.1.1 ≠ x.1.1 := fun e => hn'.1 (e ▸ mem_cls.2 ⟨x, h, rfl⟩)
        simp [this]
/-- what the reason of a claim leans on -/
def frm (f : Fnd) (c : Str) : List Str := match whyD f c with
  | some x => x.1.2.1
  | none => []
def rkD (f : Fnd) (c : Str) : Nat := match whyD f c with
  | some x => x.2
  | none => 0
theorem frm_lt {c s : Str} {k : Nat} (h : s ∈ frm (rds D ok k) c) : s ∈ cls (rds D ok k) ∧ rkD (rds D ok k) s < rkD (rds D ok k) c := by
  unfold frm at h
  cases e : whyD (rds D ok k) c with
  | none => rw [e] at h; simp at h
  | some x =>
    rw [e] at h
    obtain ⟨j, h1, h2, _, h4, _⟩ := rds_src (whyD_some e).1
    have h5 := (canU_iff.1 h4).2 s h
    have hr : rkD (rds D ok k) c = j + 1 := by unfold rkD; rw [e]; exact h1
    obtain ⟨y, hy, hys⟩ := mem_cls.1 h5
    obtain ⟨e', he⟩ := rds_pre (D := D) (ok := ok) (Nat.le_of_lt h2)
    have hy2 : y ∈ rds D ok k := by rw [he]; exact List.mem_append_left _ hy
    have hw := whyD_of (rds_nodup k) hy2
    obtain ⟨j', g1, g2, _⟩ := rds_src hy
    have hs : rkD (rds D ok k) s = j' + 1 := by unfold rkD; rw [← hys, hw]; exact g1
    exact ⟨rds_sub (Nat.le_of_lt h2) h5, by omega⟩
end Go.AM
end

section
/- Sets of hypotheses as masks; the least sets from which a claim follows, as the program finds them. -/
namespace Go.AM
abbrev sb (t m : Nat) : Prop := t &&& m = t
theorem sb_iff {t m : Nat} : sb t m ↔ ∀ i, t.testBit i = true → m.testBit i = true := by
  constructor
  · intro h i hi
    rw [← h, Nat.testBit_and, Bool.and_eq_true] at hi
    exact hi.2
  · intro h
    apply Nat.eq_of_testBit_eq
    intro i
    rw [Nat.testBit_and]
    cases e : t.testBit i with
    | false => rfl
    | true => rw [h i e]; rfl
theorem sb_refl (t : Nat) : sb t t := Nat.and_self t
theorem sb_trans {a b c : Nat} (h : sb a b) (k : sb b c) : sb a c := sb_iff.2 fun i hi => sb_iff.1 k i (sb_iff.1 h i hi)
theorem sb_antisymm {a b : Nat} (h : sb a b) (k : sb b a) : a = b := by rw [← h, Nat.and_comm]; exact k
theorem sb_le {a b : Nat} (h : sb a b) : a ≤ b := by rw [← h]; exact Nat.and_le_right
theorem sb_or {a b c : Nat} : sb (a ||| b) c ↔ sb a c ∧ sb b c := by
  simp only [sb_iff, Nat.testBit_or, Bool.or_eq_true]
  exact ⟨fun h => ⟨fun i hi => h i (.inl hi), fun i hi => h i (.inr hi)⟩, fun h i hi => hi.elim (h.1 i) (h.2 i)⟩
def bmF (m : Nat) (n : Int) : Nat := m ||| 2 ^ n.toNat
/-- a list's mask -/
def bm (l : List Int) : Nat := l.foldl bmF 0
theorem bm_go (l : List Int) (m i : Nat) : (l.foldl bmF m).testBit i = (m.testBit i || l.any fun n => decide (n.toNat = i)) := by
  induction l generalizing m with
  | nil => simp
  | cons n l ih =>
    rw [List.foldl_cons, ih, bmF, Nat.testBit_or, Nat.testBit_two_pow, List.any_cons, Bool.or_assoc]
theorem bm_bit (l : List Int) (i : Nat) : (bm l).testBit i = true ↔ ∃ n ∈ l, n.toNat = i := by
  unfold bm; rw [bm_go]; simp
/-- hypotheses, and one place below and above -/
def hok (l : List Int) : Prop := ∀ n ∈ l, 0 ≤ n ∧ n ≤ 16
theorem lt_of_bits {m : Nat} (k : Nat) (h : ∀ i, m.testBit i = true → i < k) : m < 2 ^ k := by
  apply Nat.lt_of_not_le
  intro hle
  obtain ⟨i, h1, h2⟩ := Nat.exists_ge_and_testBit_of_ge_two_pow hle
  have := h i h2
  omega
theorem bm_lt {l : List Int} (h : hok l) : bm l < 131072 := lt_of_bits 17 fun i hi => by
  obtain ⟨n, h1, h2⟩ := (bm_bit l i).1 hi
  have := h n h1; omega
theorem bm_mem {l : List Int} (h : hok l) {i : Nat} : (bm l).testBit i = true ↔ (i : Int) ∈ l := by
  rw [bm_bit]
  constructor
  · rintro ⟨n, h1, h2⟩
    have := h n h1
    rw [show (i : Int) = n by omega]; exact h1
  · exact fun h1 => ⟨i, h1, rfl⟩
/-- the list of a mask -/
def lsB (m : Nat) : List Int := ((List.range 32).filter fun i => m.testBit i).map fun i : Nat => (i : Int)
theorem mem_lsB {m : Nat} {n : Int} : n ∈ lsB m ↔ ∃ i, i < 32 ∧ m.testBit i = true ∧ n = i := by
  unfold lsB
  rw [List.mem_map]
  constructor
  · rintro ⟨i, h1, h2⟩
    rw [List.mem_filter, List.mem_range] at h1
    exact ⟨i, h1.1, h1.2, h2.symm⟩
  · rintro ⟨i, h1, h2, h3⟩
    exact ⟨i, List.mem_filter.2 ⟨List.mem_range.2 h1, h2⟩, h3.symm⟩
theorem lsB_lt (m : Nat) : (lsB m).Pairwise (· < ·) := by
  unfold lsB
  rw [List.pairwise_map]
  refine (List.Pairwise.sublist List.filter_sublist ?_)
  exact (List.pairwise_lt_range (n := 32)).imp fun h => by omega
/-- lists in strict order are told by what they have -/
theorem lt_uniq {α : Type} {R : α → α → Prop} (hi : ∀ a, ¬ R a a) (ha : ∀ a b, R a b → ¬ R b a) {a b : List α} (h1 : a.Pairwise R) (h2 : b.Pairwise R) (h : ∀ x, x ∈ a ↔ x ∈ b) : a = b := by
  have nd : ∀ {l : List α}, l.Pairwise R → l.Nodup := fun q => List.Pairwise.imp (fun {x y} r (e : x = y) => hi x (by subst e; exact r)) q
  exact List.Perm.eq_of_pairwise (le := R) (fun x y _ _ p q => absurd q (ha x y p)) h1 h2 ((List.perm_ext_iff_of_nodup (nd h1) (nd h2)).2 h)
theorem ltZ_uniq {a b : List Int} (h1 : a.Pairwise (· < ·)) (h2 : b.Pairwise (· < ·)) (h : ∀ x, x ∈ a ↔ x ∈ b) : a = b :=
  lt_uniq (R := (· < ·)) (fun _ => Int.lt_irrefl _) (fun _ _ p q => by omega) h1 h2 h
theorem lsB_bm {l : List Int} (h : hok l) (hp : l.Pairwise (· < ·)) : lsB (bm l) = l := ltZ_uniq (lsB_lt _) hp fun n => by
  rw [mem_lsB]
  constructor
  · rintro ⟨i, _, h2, rfl⟩; exact (bm_mem h).1 h2
  · intro hn
    have := h n hn
    refine ⟨n.toNat, by omega, (bm_mem h).2 ?_, by omega⟩
    rw [show ((n.toNat : Nat) : Int) = n by omega]; exact hn
theorem bm_lsB {m : Nat} (h : m < 4294967296) : bm (lsB m) = m := by
  apply Nat.eq_of_testBit_eq
  intro i
  rw [Bool.eq_iff_iff, bm_bit]
  constructor
  · rintro ⟨n, h1, rfl⟩
    obtain ⟨i, h2, h3, rfl⟩ := mem_lsB.1 h1
    exact h3
  · intro hi
    refine ⟨i, mem_lsB.2 ⟨i, ?_, hi, rfl⟩, rfl⟩
    apply Nat.lt_of_not_le
    intro hle
    have : m.testBit i = false := Nat.testBit_lt_two_pow (Nat.lt_of_lt_of_le h (Nat.le_trans (by decide : 4294967296 ≤ 2 ^ 32) (Nat.pow_le_pow_right (by decide) hle)))
    rw [this] at hi; cases hi
theorem hok_lsB {m : Nat} (h : m < 131072) : hok (lsB m) := fun n hn => by
  obtain ⟨i, h1, h2, rfl⟩ := mem_lsB.1 hn
  refine ⟨by omega, ?_⟩
  apply Int.not_lt.1
  intro hlt
  have : m.testBit i = false := Nat.testBit_lt_two_pow (Nat.lt_of_lt_of_le h (Nat.le_trans (by decide : 131072 ≤ 2 ^ 17) (Nat.pow_le_pow_right (by decide) (by omega))))
  rw [this] at h2; cases h2
/-- a derivation whose hypotheses are all in a mask; in a list -/
def okM (m : Nat) (d : Drv) : Bool := decide (sb (bm d.2.2) m)
def okL (hs : List Int) (d : Drv) : Bool := d.2.2.all fun n => decide (n ∈ hs)
theorem okM_bm {hs : List Int} {d : Drv} (h : hok hs) (hd : hok d.2.2) : okM (bm hs) d = okL hs d := by
  unfold okM okL
  rw [Bool.eq_iff_iff, decide_eq_true_iff, sb_iff, List.all_eq_true]
  simp only [decide_eq_true_eq]
  constructor
  · intro k n hn
    have h0 := hd n hn
    have := (bm_mem h).1 (k n.toNat ((bm_bit _ _).2 ⟨n, hn, rfl⟩))
    rwa [show ((n.toNat : Nat) : Int) = n by omega] at this
  · intro k i hi
    exact (bm_mem h).2 (k _ ((bm_mem hd).1 hi))
theorem okM_mono {t m : Nat} (h : sb t m) {d : Drv} (k : okM t d = true) : okM m d = true := by
  unfold okM at *
  rw [decide_eq_true_iff] at *
  exact sb_trans k h
theorem dvM_mono {D : List Drv} {t m : Nat} (h : sb t m) {c : Str} (k : Dvd D (okM t) c) : Dvd D (okM m) c := k.mono fun _ hd ho => ⟨hd, okM_mono h ho⟩
/-- a least mask from which a claim follows -/
def isMin (D : List Drv) (c : Str) (m : Nat) : Prop := Dvd D (okM m) c ∧ ∀ t, sb t m → t ≠ m → ¬ Dvd D (okM t) c
def up (p : Nat → Prop) (m : Nat) : Prop := ∃ t, t < 131072 ∧ p t ∧ sb t m
theorem mn_below {p : Nat → Prop} (m : Nat) : m < 131072 → p m → ∃ t, t < 131072 ∧ mn p t ∧ sb t m := by
  induction m using Nat.strongRecOn with
  | ind m ih =>
    intro hm h
    cases e : worse p m with
    | false => exact ⟨m, hm, ⟨h, e⟩, sb_refl m⟩
    | true =>
      obtain ⟨t, h1, h2, h3, h4⟩ := worse_iff.1 e
      have := sb_le h4
      obtain ⟨u, g1, g2, g3⟩ := ih t (by omega) h1 h2
      exact ⟨u, g1, g2, sb_trans g3 h4⟩
theorem up_mn {p : Nat → Prop} {m : Nat} : up (mn p) m ↔ up p m := by
  constructor
  · rintro ⟨t, h1, h2, h3⟩; exact ⟨t, h1, h2.1, h3⟩
  · rintro ⟨t, h1, h2, h3⟩
    obtain ⟨u, g1, g2, g3⟩ := mn_below t h1 h2
    exact ⟨u, g1, g2, sb_trans g3 h3⟩
theorem up_jn {p q : Nat → Prop} {m : Nat} : up (jn p q) m ↔ up p m ∧ up q m := by
  constructor
  · rintro ⟨t, h1, ⟨a, b, h2, h3, h4, h5, rfl⟩, h6⟩
    have := sb_or.1 h6
    exact ⟨⟨a, h2, h4, this.1⟩, b, h3, h5, this.2⟩
  · rintro ⟨⟨a, h1, h2, h3⟩, b, h4, h5, h6⟩
    exact ⟨a ||| b, or17 h1 h4, ⟨a, b, h1, h4, h2, h5, rfl⟩, sb_or.2 ⟨h3, h6⟩⟩
theorem up_or {p q : Nat → Prop} {m : Nat} : up (fun x => p x ∨ q x) m ↔ up p m ∨ up q m := by
  constructor
  · rintro ⟨t, h1, h2 | h2, h3⟩
    · exact .inl ⟨t, h1, h2, h3⟩
    · exact .inr ⟨t, h1, h2, h3⟩
  · rintro (⟨t, h1, h2, h3⟩ | ⟨t, h1, h2, h3⟩)
    · exact ⟨t, h1, .inl h2, h3⟩
    · exact ⟨t, h1, .inr h2, h3⟩
/-- no member lies above another -/
def anti (p : Nat → Prop) : Prop := ∀ s t, s < 131072 → t < 131072 → p s → p t → sb t s → t = s
theorem mn_anti (p : Nat → Prop) : anti (mn p) := fun s t _ ht h1 h2 h3 => by
  refine Classical.byContradiction fun hne => ?_
  have := worse_iff.2 ⟨t, ht, h2.1, hne, h3⟩
  rw [h1.2] at this; cases this
theorem anti_ext {p q : Nat → Prop} (hp : anti p) (hq : anti q) (h : ∀ m, m < 131072 → (up p m ↔ up q m)) : ∀ n, n < 131072 → (p n ↔ q n) := by
  have one : ∀ {p q : Nat → Prop}, anti p → (∀ m, m < 131072 → (up p m ↔ up q m)) → ∀ n, n < 131072 → p n → q n := fun {p q} hp h n hn hpn => by
    obtain ⟨t, h1, h2, h3⟩ := (h n hn).1 ⟨n, hn, hpn, sb_refl n⟩
    obtain ⟨u, g1, g2, g3⟩ := (h t h1).2 ⟨t, h1, h2, sb_refl t⟩
    have e1 := hp n u hn g1 hpn g2 (sb_trans g3 h3)
    rw [e1] at g3
    rw [sb_antisymm g3 h3]; exact h2
  exact fun n hn => ⟨one hp h n hn, one hq (fun m hm => (h m hm).symm) n hn⟩
/-- what is known of claims -/
abbrev KN := Str → Nat → Prop
/-- the sets of a derivation, after some of the claims it leans on -/
def jnF (K : KN) (p : Nat → Prop) (l : List Str) : Nat → Prop := l.foldl (fun p s => mn (jn p (K s))) p
def setsD (K : KN) (d : Drv) : Nat → Prop := jnF K (fun m => m = bm d.2.2) d.2.1
def nextK (K : KN) (d : Drv) : Nat → Prop := mn fun m => setsD K d m ∨ K d.1 m
theorem up_jnF {K : KN} {m : Nat} : ∀ {l : List Str} {p : Nat → Prop}, up (jnF K p l) m ↔ up p m ∧ ∀ s ∈ l, up (K s) m
  | [], p => by simp [jnF]
  | s :: l, p => by
    show up (jnF K (mn (jn p (K s))) l) m ↔ _
    rw [up_jnF, up_mn, up_jn, and_assoc]
    simp
theorem jnF_snoc (K : KN) (p : Nat → Prop) (l : List Str) (s : Str) : jnF K p (l ++ [s]) = mn (jn (jnF K p l) (K s)) := by
  unfold jnF; rw [List.foldl_append]; rfl
theorem up_one {b m : Nat} (h : b < 131072) : up (fun n => n = b) m ↔ sb b m :=
  ⟨fun ⟨_, _, e, h3⟩ => e ▸ h3, fun h3 => ⟨b, h, rfl, h3⟩⟩
/-- right so far: what is known is true, and least -/
structure KOK (D : List Drv) (K : KN) : Prop where
  tr : ∀ c m, m < 131072 → K c m → Dvd D (okM m) c
  an : ∀ c, anti (K c)
theorem KOK.up {D : List Drv} {K : KN} (h : KOK D K) {c : Str} {m : Nat} (k : up (K c) m) : Dvd D (okM m) c := by
  obtain ⟨t, h1, h2, h3⟩ := k
  exact dvM_mono h3 (h.tr c t h1 h2)
def KNupd (K : KN) (c : Str) (p : Nat → Prop) : KN := fun s => if s = c then p else K s
theorem up_sets {K : KN} {d : Drv} (hd : hok d.2.2) {m : Nat} : up (setsD K d) m ↔ okM m d = true ∧ ∀ s ∈ d.2.1, up (K s) m := by
  unfold setsD okM
  rw [up_jnF, up_one (bm_lt hd), decide_eq_true_iff]
theorem up_next {K : KN} {d : Drv} (hd : hok d.2.2) {m : Nat} : up (nextK K d) m ↔ (okM m d = true ∧ ∀ s ∈ d.2.1, up (K s) m) ∨ up (K d.1) m := by
  unfold nextK
  rw [up_mn, up_or, up_sets hd]
theorem KOK.next {D : List Drv} {K : KN} (h : KOK D K) {d : Drv} (hd : d ∈ D) (ho : hok d.2.2) : KOK D (KNupd K d.1 (nextK K d)) where
  tr c m hm k := by
    unfold KNupd at k
    split at k
    · next e =>
      subst e
      rcases (up_next ho).1 ⟨m, hm, k, sb_refl m⟩ with ⟨h1, h2⟩ | h1
      · exact .mk hd h1 fun s hs => h.up (h2 s hs)
      · exact h.up h1
    · exact h.tr c m hm k
  an c := by
    unfold KNupd
    split
    · exact mn_anti _
    · exact h.an c
/-- nothing more comes -/
def KFix (D : List Drv) (K : KN) : Prop := ∀ d ∈ D, eqM (nextK K d) (K d.1) = true
theorem KFix.all {D : List Drv} {K : KN} (h : KFix D K) (ho : ∀ d ∈ D, hok d.2.2) {m : Nat} {c : Str} (k : Dvd D (okM m) c) : up (K c) m := by
  induction k with
  | @mk d h1 h2 h3 ih =>
    obtain ⟨t, g1, g2, g3⟩ := (up_next (ho d h1)).2 (.inl ⟨h2, ih⟩)
    exact ⟨t, g1, (eqM_iff.1 (h d h1) t g1).1 g2, g3⟩
theorem K_min {D : List Drv} {K : KN} (h : KFix D K) (hk : KOK D K) (ho : ∀ d ∈ D, hok d.2.2) {c : Str} {m : Nat} (hm : m < 131072) : K c m ↔ isMin D c m := by
  constructor
  · intro k
    refine ⟨hk.tr c m hm k, fun t h1 h2 h3 => ?_⟩
    obtain ⟨u, g1, g2, g3⟩ := h.all ho h3
    have e := hk.an c m u hm g1 k g2 (sb_trans g3 h1)
    rw [e] at g3
    exact h2 (sb_antisymm h1 g3)
  · rintro ⟨h1, h2⟩
    obtain ⟨t, g1, g2, g3⟩ := h.all ho h1
    by_cases e : t = m
    · exact e ▸ g2
    · exact absurd (hk.tr c t g1 g2) (h2 t g3 e)
open Classical in
noncomputable def gapK (D : List Drv) (K : KN) : Nat := (D.map fun d => (lsM fun m => ¬ up (K d.1) m).length).sum
theorem lsM_le {p q : Nat → Prop} (h : ∀ n, n < 131072 → p n → q n) : (lsM p).length ≤ (lsM q).length :=
  nodup_le (lsM_nodup p) fun n hn => mem_lsM.2 ⟨(mem_lsM.1 hn).1, h n (mem_lsM.1 hn).1 (mem_lsM.1 hn).2⟩
theorem lsM_lt {p q : Nat → Prop} (h : ∀ n, n < 131072 → p n → q n) (k : ∃ n, n < 131072 ∧ q n ∧ ¬ p n) : (lsM p).length < (lsM q).length := by
  obtain ⟨n, h1, h2, h3⟩ := k
  have := nodup_le (A := n :: lsM p) (B := lsM q) (List.nodup_cons.2 ⟨fun e => h3 (mem_lsM.1 e).2, lsM_nodup p⟩) fun x hx => by
    rcases List.mem_cons.1 hx with rfl | hx
    · exact mem_lsM.2 ⟨h1, h2⟩
    · exact mem_lsM.2 ⟨(mem_lsM.1 hx).1, h x (mem_lsM.1 hx).1 (mem_lsM.1 hx).2⟩
  exact Nat.lt_of_succ_le (by rw [List.length_cons] at this; exact this)
theorem sum_lt {α : Type} {f g : α → Nat} : ∀ {l : List α}, (∀ x ∈ l, f x ≤ g x) → (∃ x ∈ l, f x < g x) → (l.map f).sum < (l.map g).sum
  | [], _, ⟨_, h, _⟩ => by cases h
  | x :: l, h, ⟨y, hy, hlt⟩ => by
    simp only [List.map_cons, List.sum_cons]
    have h0 := h x (by simp)
    have hle : (l.map f).sum ≤ (l.map g).sum := by
      clear hlt hy
      have h' : ∀ x ∈ l, f x ≤ g x := fun z hz => h z (by simp [hz])
      clear h h0
      induction l with
      | nil => simp
      | cons z l ih =>
        simp only [List.map_cons, List.sum_cons]
        have := h' z (by simp)
        have := ih fun w hw => h' w (by simp [hw])
        omega
    rcases List.mem_cons.1 hy with rfl | hy
    · omega
    · have := sum_lt (fun z hz => h z (by simp [hz])) ⟨y, hy, hlt⟩
      omega
theorem gapK_lt {D : List Drv} {K : KN} (hk : KOK D K) {d : Drv} (hd : d ∈ D) (ho : hok d.2.2) (h : eqM (nextK K d) (K d.1) = false) : gapK D (KNupd K d.1 (nextK K d)) < gapK D K := by
  have hup : ∀ c m, up (K c) m → up (KNupd K d.1 (nextK K d) c) m := fun c m k => by
    unfold KNupd
    split
    · next e => subst e; exact (up_next ho).2 (.inr k)
    · exact k
  unfold gapK
  refine sum_lt (fun x _ => lsM_le fun n _ k q => k (hup _ _ q)) ⟨d, hd, lsM_lt (fun n _ k q => k (hup _ _ q)) ?_⟩
  refine Classical.byContradiction fun hno => ?_
  have hh : ∀ m, m < 131072 → (up (nextK K d) m ↔ up (K d.1) m) := fun m hm => by
    constructor
    · intro k
      refine Classical.byContradiction fun q => hno ⟨m, hm, q, fun z => z ?_⟩
      unfold KNupd; rw [if_pos rfl]; exact k
    · exact fun k => (up_next ho).2 (.inr k)
  have := eqM_iff.2 (anti_ext (mn_anti _) (hk.an d.1) hh)
  unfold nextK at h
  rw [this] at h; cases h
end Go.AM
end
