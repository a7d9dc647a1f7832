import Derived.Test.YthaiejfjnllglaaGreatDoorOBC
import Derived.Lib.SliceRun
import Derived.ChangeKeysEq
import Derived.Laws.StructEq
import Derived.Shelf.SlSortCmp.NoneTotal
set_option maxRecDepth 100000
set_option maxHeartbeats 2000000
namespace Go.AM
section
open Go Go.RowKit
structure CallG (P : Program) (f : FuncId) (args : List AV) (gf : FuncId) (b : Blk) : Prop where
 fn : oe P f
 go : ∀ (h : Hp) (r : Nat → Value) (w : World) (cargs : Array Value), RepArgs h r args cargs.toList → Before h r O w →
  Calls P f cargs w fun e w' => ∃ v h' k0, e = .returned (.func (.func gf) #[] #[.pointer (some ⟨k0, 0, none⟩)]) ∧ v = .pointer (some ⟨k0, 0, none⟩) ∧ BlkRep h' w' v b ∧ (∀ k, bi v = some k → w.heap.size ≤ k ∧ h' k = none) ∧ After h r O w h' O w'
theorem Eff.callG {P : Program} {dst : Option Nat} {f : FuncId} {args : Array Operand} {tys : Array TypeId} {ty : TypeId} {pos : String} {af : Array Edge} {gd : Option (Nat × Bool)} {d : Nat} {ρ : Operand → AV} {own : Own} {gf : FuncId} {b : Blk}
  (hc : CallG P f (args.toList.map ρ) gf b) (hl0 : lnk b = [] := by rfl) : Eff P ⟨dst, .call ⟨.value (.func f), args, tys⟩, ty, pos, af, gd⟩ d ρ own (.fnl gf d) [] (some b) [] := by
 intro C h r own' a w K Q hrep hrd hw hnew hK
 unfold Oper.wp
 have hrun : (execOp a.eval ⟨dst, .call ⟨.value (.func f), args, tys⟩, ty, pos, af, gd⟩).run P w = .ok (.enter f (args.map a.eval)) w := by
  simp only [execOp, resolve, Sem.run_bind, Act.eval, Deferred.ofValue, Sem.run_pure, Result.andThen_ok, invoke, Array.empty_append, Array.append_empty]
  exact cK hc.fn _ w
 rw [hrun]
 refine Calls.mono (hc.go h r w (args.map a.eval) ?_ (hw.before fun m hm => absurd rfl hm)) ?_
 ·rw [Array.toList_map]
  exact dz _ fun x hx => hrep x (by simp only [Op.operands, Call.operands]; exact Array.mem_append.2 (.inr (Array.mem_toList_iff.1 hx)))
 rintro e w' ⟨v, h', k0, rfl, hv0, hv, hfr, hq⟩
 obtain ⟨hd, hp, hnl⟩ := hnew (by simp)
 have hw' : WOK C h' r own' w' := hw.after (fun m hm => absurd rfl hm) hq (fun m => by simp) (fun m b hm => absurd rfl hm)
 refine hK _ h' (upd r d v) w' hq.hg (fun m hm => aP _ _ _ _ (hm (by simp))) ⟨k0, by rw [upd_same, hv0]; rfl, rfl⟩ ?_
 show WOK C h' (upd r d v) (upd own' d (some b)) w'
 have live : ∀ m, m ≠ d → upd own' d (some b) m ≠ none → own' m ≠ none := fun m h1 hm => by rwa [aP _ _ _ _ h1] at hm
 have below : ∀ m k, own' m ≠ none → bi (r m) = some k → k < w.heap.size := fun m k hm hk => hw.lt hm hk
 refine ⟨?_, ?_, hw'.hi, ?_, hw'.os, hw'.tape, hw'.output, hw'.size, hw'.old, ?_, hw'.hg, hw'.hn, hw'.gl, ?_, ?_⟩
 ·intro m b' e
  by_cases h1 : m = d
  ·subst h1; rw [upd_same] at e ⊢; cases e; exact hv
  rw [aP _ _ _ _ h1] at e ⊢; exact hw'.ow m b' e
 ·intro m n k hm hn e f'
  by_cases h1 : m = d <;> by_cases h2 : n = d
  ·rw [h1, h2]
  ·subst h1; rw [upd_same] at e; rw [aP _ _ _ _ h2] at f'
   have := below n k (live n h2 hn) f'; have := (hfr k e).1; omega
  ·subst h2; rw [upd_same] at f'; rw [aP _ _ _ _ h1] at e
   have := below m k (live m h1 hm) e; have := (hfr k f').1; omega
  rw [aP _ _ _ _ h1] at e; rw [aP _ _ _ _ h2] at f'
  exact hw'.inj m n k (live m h1 hm) (live n h2 hn) e f'
 ·intro m k hm e
  by_cases h1 : m = d
  ·subst h1; rw [upd_same] at e; exact (hfr k e).2
  rw [aP _ _ _ _ h1] at e; exact hw'.ho m k (live m h1 hm) e
 ·intro m k hm e
  by_cases h1 : m = d
  ·subst h1; rw [upd_same] at e; exact .inl (Nat.le_trans hw.size (hfr k e).1)
  rw [aP _ _ _ _ h1] at e; exact hw'.fo m k (live m h1 hm) e
 ·intro m hm
  rw [aP _ _ _ _ (by omega)]; exact hw'.kp m hm
 intro m b' j e hj
 by_cases h1 : m = d
 ·subst h1; rw [upd_same] at e; cases e; rw [hl0] at hj; cases hj
 rw [aP _ _ _ _ h1] at e
 have hjd : j ≠ d := fun x => hnl m b' e (x ▸ hj)
 rw [aP _ _ _ _ h1, aP _ _ _ _ hjd]
 exact hw'.lk m b' j e hj
def Mg (fn : Func) (gf : FuncId) (b : Blk) (e : Exit) (s : St) : Prop := (e = .normal ∨ e = .ret) ∧ ∃ t m, fn.results = #[.tmp t] ∧ s.regs t = .fnl gf m ∧ s.own m = some b
theorem Ci {P : Program} {f : FuncId} {fn : Func} {c : Code} {N : Nat} {args : List AV} {gf : FuncId} {b : Blk} (hf : P.funcs[f]? = some fn) (hnm : (fn.name == "runtime.NumGoroutine") = false) (hb : fn.body = some c) (hN : fn.ntmps = N) (hna : args.length ≤ N)
  (h : AWp P false N 0 c (Mg fn gf b) ⟨fun t => args.getD t .junk, O⟩) (hbv : b.vec = false := by rfl) : CallG P f args gf b := by
 refine ⟨⟨fn, hf, hnm, by rw [hb]; rfl⟩, ?_⟩
 intro hh r w cargs hra hbf
 have hlen : cargs.size = args.length := by
  have : ∀ (as0 : List AV) (xs : List Value), RepArgs hh r as0 xs → xs.length = as0.length := by
   intro as0
   induction as0 with
   | nil => intro xs h; cases xs with
    | nil => rfl
    | cons _ _ => exact h.elim
   | cons p ps ih => intro xs h; cases xs with
    | nil => exact h.elim
    | cons x xs => simp [ih xs h.2]
  simpa using this _ _ hra
 have hget : ∀ (as0 : List AV) (xs : List Value), RepArgs hh r as0 xs → ∀ (t : Nat) (x : AV), as0[t]? = some x → ∃ y, xs[t]? = some y ∧ AVRep hh r x y := by
  intro as0
  induction as0 with
  | nil => intro xs _ t x h; simp at h
  | cons p ps ih => intro xs h t x hx; cases xs with
   | nil => exact h.elim
   | cons y ys => cases t with
    | zero => simp at hx; subst hx; exact ⟨y, rfl, h.1⟩
    | succ t => exact ih ys h.2 t x (by simpa using hx)
 refine nk (n := 0) (callsIn_of_wp_marks hf hb trivial ?_)
 let C : Ctx := ⟨w, hh, fun _ => False, r, 0, true⟩
 refine wpIn_mono (h none (fun _ => rfl) C hh r _ w ⟨rfl, rfl⟩ ⟨?_, trivial, ?_, ⟨hbf.ow, hbf.inj, hbf.hi, hbf.ho, rfl, rfl, .refl _, Nat.le_refl _, fun _ _ _ => rfl, fun m k hm => absurd rfl hm, .refl _, fun k hk => .inl hk, hbf.gl, fun _ _ => rfl, fun m b j hb => by cases hb⟩⟩) ?_
 ·simp [hN]; omega
 ·intro t
  show AVRep hh r (args.getD t .junk) _
  rw [List.getD_eq_getElem?_getD]
  cases ht : args[t]? with
  | none => exact trivial
  | some x =>
   obtain ⟨y, h1, h2⟩ := hget _ _ hra t x ht
   have h1' : cargs[t]? = some y := by rw [← Array.getElem?_toList]; exact h1
   have hlt : t < cargs.size := (Array.getElem?_eq_some_iff.1 h1').1
   simp only [Array.getD_eq_getD_getElem?, Array.getElem?_append_left hlt, h1', Option.getD_some]
   exact h2
 rintro e a' w' ⟨s', h', r', ⟨he, t, m, hres, hreg, hown⟩, hc⟩
 have fin : LeavesInM (Wd none) 0 P fn a'.tmps (fun e w' => ∃ v h' k0, e = .returned (.func (.func gf) #[] #[.pointer (some ⟨k0, 0, none⟩)]) ∧ v = .pointer (some ⟨k0, 0, none⟩) ∧ BlkRep h' w' v b ∧ (∀ k, bi v = some k → w.heap.size ≤ k ∧ h' k = none) ∧ After hh r O w h' O w') a'.defers .returning w' := by
  refine iY hc ?_
  intro h' w' hc
  have hx := hc.rg t
  rw [hreg] at hx
  obtain ⟨k0, hk0, hx⟩ := hx
  have hv1 : (results fn a'.tmps).run P w' = .ok (.func (.func gf) #[] #[.pointer (some ⟨k0, 0, none⟩)]) w' := by
   rw [fi, hres]
   have hx' : a'.tmps.getD t undef = .func (.func gf) #[] #[.pointer (some ⟨k0, 0, none⟩)] := hx
   simp [gM, hx']
  have hk := hc.wk
  have hlow : s'.own m ≠ none := by rw [hown]; simp
  have hrm : r' m = .pointer (some ⟨k0, 0, none⟩) := by
   have hb := hk.ow m b hown
   unfold BlkRep at hb
   rw [hbv] at hb
   obtain ⟨k, c, h1, _⟩ := hb
   rw [h1] at hk0 ⊢
   have : k = k0 := by simpa [bi] using hk0
   rw [this]
  refine ⟨_, hv1, r' m, h', k0, rfl, hrm, hk.ow m b hown, fun k e => ⟨?_, hk.ho m k hlow e⟩, ?_⟩
  ·rcases hk.fo m k hlow e with g | g
   ·exact g
   exact g.elim
  refine ⟨fun m b e => (by cases e), fun m hm => absurd rfl hm, hk.hi, fun m k hm => absurd rfl hm, hk.os, hk.tape, hk.output, hk.size, fun k h1 _ => hk.old k h1 (fun x => x), hk.hg, fun k e => ?_⟩
  rcases hk.hn k e with g | g | g
  ·exact .inl g
  ·exact .inr (.inl g)
  exact g.elim
 rcases he with rfl | rfl <;> exact fin
section
variable {P : Program} {dst : Option Nat} {ty : TypeId} {pos : String} {af : Array Edge} {gd : Option (Nat × Bool)} {d : Nat} {ρ : Operand → AV} {own : Own}
theorem tg {f : FuncId} {c : Operand} {m : Nat} (hx : ρ c = .loc m 0) : Eff P ⟨dst, .makeFunc (.func f) #[] #[c], ty, pos, af, gd⟩ d ρ own (.fnl f m) [] none [] :=
 bC fun C h r own' a w hrep hrd hw => by
  have e1 := hrep c (by simp [Op.operands])
  rw [hx] at e1
  obtain ⟨k, h1, h2⟩ := e1
  refine ⟨.func (.func f) #[] #[a.eval c], ?_, k, h1, by rw [h2]⟩
  simp [execOp, Instr.makeFunc]
end
end
section
open Go Go.RowKit
structure Iter3 (P : Program) (gf : FuncId) (b0 : Blk) (xs : List (List PV)) : Prop where
 fn : oe P gf
 go : ∀ (l k0 : Nat) (J : Nat → Hp → (Nat → Prop) → World → Prop) (h : Hp) (G : Nat → Prop) (W : World) (n0 : Nat), n0 ≤ W.heap.size → n0 ≤ k0 → ¬ G k0 → h k0 = none → BlkRep h W (.pointer (some ⟨k0, 0, none⟩)) b0 → GlOK h → Keeps2 P l xs n0 J → J 0 h G W →
  CallsIn (Wd none) 0 P gf #[.func (.yield l) #[] #[], .pointer (some ⟨k0, 0, none⟩)] W fun e W' => (∃ v, e = .returned v) ∧ ∃ kf h' G', xs.length ≤ kf ∧ J kf h' G' W'
theorem WOK.rest3 {C : Ctx} {h h' : Hp} {r : Nat → Value} {own : Own} {w w' : World} (k : WOK C h r own w) {n0 : Nat} {G : Nat → Prop} (q : Rest n0 G h w h' w') (hG : ∀ m i, own m ≠ none → bi (r m) = some i → G i) (hb : ∀ i, h i = none → ¬ G i → C.w0.heap.size ≤ i ∨ C.F i) : WOK C h' r own w' := by
 have same : ∀ m i, own m ≠ none → bi (r m) = some i → w'.heap[i]? = w.heap[i]? := fun m i hm e => by
  rcases q.old i (k.lt hm e) with g | ⟨_, g, _⟩
  ·exact g
  exact absurd (hG m i hm e) g
 refine ⟨fun m b e => ((k.ow m b e).mono q.hg).world fun i hi => same m i (by rw [e]; simp) hi, k.inj, q.hi, fun m i hm e => ?_, q.os.trans k.os, q.tape.trans k.tape, q.output.trans k.output, Nat.le_trans k.size q.size, fun i hi hf => ?_, k.fo, k.hg.trans q.hg, fun i hi => ?_, k.gl.mono q.hg, k.kp, fun m b j e hj => ?_⟩
 ·cases hh : h' i with
  | none => rfl
  | some o =>
   rcases q.hn i (by rw [hh]; simp) with g | g
   ·exact absurd (k.ho m i hm e) g
   exact absurd (hG m i hm e) g.2
 ·rcases q.old i (Nat.lt_of_lt_of_le hi k.size) with g | ⟨_, g1, g2⟩
  ·rw [g]; exact k.old i hi hf
  rcases hb i g2 g1 with x | x
  ·omega
  exact absurd x hf
 ·rcases q.hn i hi with g | g
  ·exact k.hn i g
  by_cases x : h i = none
  ·exact .inr (hb i x g.2)
  exact k.hn i x
 obtain ⟨q1, t, h1, h2⟩ := k.lk m b j e hj
 exact ⟨q1, t, h1, by rw [same m q1 (by rw [e]; simp) (by rw [h1]; rfl)]; exact h2⟩
theorem pg {P : Program} {N np : Nat} {Q : Exit → St → Prop} {l : List (Nat × AV)} {ps : Array Tmp} {assign body : Code} {gf : FuncId} {xs : List (List PV)} {t0 m0 : Nat} {o : Own} {b0 : Blk} (np' : Nat) (own : Nat → Own) (I : Nat → Prop)
  (hit : Iter3 P gf b0 xs) (hj : cg l t0 = .junk) (ho : o m0 = some b0) (hbv : b0.vec = false) (_hlk : lnk b0 = []) (h0 : ∀ m, own 0 m = (upd o m0 none) m) (hps : ∀ x ∈ xs, x.length = ps.toList.length)
  (hfix : pP np' l = true) (hnp : Nat.ble np np' = true) (hpN : (ps.toList.all fun p => Nat.blt p N) = true)
  (hI : I 0) (hround : ∀ (k : Nat) (x : List PV), xs[k]? = some x → I k → AWp P true N np' assign (kx (AWp P true N np' body (zX np' Q l (own (k + 1)) (I (k + 1)))) (fun _ _ => False)) ⟨jy (cg l) ps.toList x, own k⟩)
  (hdone : I xs.length → Q .normal ⟨cg l, own xs.length⟩) : AWp P false N np (.rangeFunc (.tmp t0) ps assign body) Q ⟨upd (cg l) t0 (.fnl gf m0), o⟩ := by
 intro ro hB C hh r a w hn hc
 have hro : ro = none := hB rfl
 subst hro
 have hnp' := bL0 hnp
 have hmar : C.mar = true := hn.2
 refine wpIn_rangeFunc ?_
 intro fn _
 have hgv : AVRep hh r (upd (cg l) t0 (.fnl gf m0) t0) (a.tmps.getD t0 undef) := hc.rg t0
 rw [show upd (cg l) t0 (.fnl gf m0) t0 = .fnl gf m0 from upd_same _ _ _] at hgv
 obtain ⟨bk, hbk, hval⟩ := hgv
 have hval : a.eval (.tmp t0) = .func (.func gf) #[] #[.pointer (some ⟨bk, 0, none⟩)] := hval
 have hone : (⟨upd (cg l) t0 (.fnl gf m0), o⟩ : St).own m0 ≠ none := by show o m0 ≠ none; rw [ho]; simp
 have hbr := hc.wk.ow m0 b0 ho
 have hrm : r m0 = .pointer (some ⟨bk, 0, none⟩) := by
  unfold BlkRep at hbr
  rw [hbv] at hbr
  obtain ⟨k, c, h1, _⟩ := hbr
  rw [h1] at hbk ⊢
  have : k = bk := by simpa [bi] using hbk
  rw [this]
 rw [hrm] at hbr
 have hbfo := hc.wk.fo m0 bk hone hbk
 have hbho := hc.wk.ho m0 bk hone hbk
 have hblt := hc.wk.lt (m := m0) hone hbk
 have hbne : ∀ m, own 0 m ≠ none → bi (r m) ≠ some bk := fun m hm e => by
  rw [h0 m] at hm
  by_cases x : m = m0
  ·subst x; rw [upd_same] at hm; exact hm rfl
  rw [aP _ _ _ _ x] at hm
  exact x (hc.wk.inj m m0 bk hm hone e hbk)
 have hrg0 : RegsOK hh r (cg l) a := fun t => by
  by_cases e : t = t0
  ·subst e; rw [hj]; exact trivial
  have : AVRep hh r (upd (cg l) t0 (.fnl gf m0) t) (a.tmps.getD t undef) := hc.rg t
  rwa [show upd (cg l) t0 (.fnl gf m0) t = cg l t from aP _ _ _ _ e] at this
 replace hc : Conc C N hh r ⟨cg l, own 0⟩ a w := ⟨hc.sz, hc.df, hrg0, hc.wk.forget fun m => by
  show own 0 m = o m ∨ own 0 m = none
  rw [h0 m]
  by_cases x : m = m0
  ·subst x; exact .inr (upd_same _ _ _)
  exact .inl (aP _ _ _ _ x)⟩
 obtain ⟨rec, hrec⟩ : ∃ rec : LoopState → Option Code → Loop, rec = fun st pe => { state := st, pending := pe, fn, tmps := a.tmps, params := ps, assign, body, defers := w.heap.size } := ⟨_, rfl⟩
 obtain ⟨W1, hW1⟩ : ∃ W1, (w.alloc (.deferred (some []))).alloc (.loop (rec .ready none)) = W1 := ⟨_, rfl⟩
 obtain ⟨hw1, hle1⟩ := hc.wk.imm (.deferred (some []))
 obtain ⟨h1, hh1⟩ : ∃ h1 : Hp, h1 = fun i => if i = w.heap.size then some (.deferred (some [])) else hh i := ⟨_, rfl⟩
 rw [← hh1] at hw1 hle1
 have hs1 : W1.heap.size = w.heap.size + 2 := by rw [← hW1]; simp
 have hold1 : ∀ i, i < (w.alloc (.deferred (some []))).heap.size → W1.heap[i]? = (w.alloc (.deferred (some []))).heap[i]? := fun i hi => by
  rw [← hW1, bP, if_neg (by omega)]
 have hw2 : WOK C h1 r (own 0) W1 := hw1.beside (by rw [← hW1]; rfl) (by rw [← hW1]; rfl) (by rw [← hW1]; exact ⟨rfl, Nat.le_refl _⟩) (by rw [hs1]; simp) hold1
 have hL1 : W1.heap[w.heap.size + 1]? = some (.loop (rec .ready none)) := by
  rw [← hW1, bP, if_pos (by simp)]
 have hD0 : hh w.heap.size = none := by
  cases e : hh w.heap.size with
  | none => rfl
  | some o => have := hc.wk.hlt e; omega
 have hhL : h1 (w.heap.size + 1) = none := by
  rw [hh1]
  show (if w.heap.size + 1 = w.heap.size then _ else hh (w.heap.size + 1)) = none
  rw [if_neg (by omega)]
  cases e : hh (w.heap.size + 1) with
  | none => rfl
  | some o => have := hc.wk.hlt e; omega
 have hnoL : ∀ m, own 0 m ≠ none → bi (r m) ≠ some (w.heap.size + 1) := fun m hm e => by
  have := hc.wk.lt hm e; omega
 have hD1 : h1 w.heap.size = some (.deferred (some [])) := by rw [hh1]; exact if_pos rfl
 generalize hLL : w.heap.size + 1 = L at *
 have hCL : C.w0.heap.size ≤ L := by have := hc.wk.size; omega
 refine ⟨L, [{ target := .collected w.heap.size, args := #[] }], W1, { target := .fn (.func gf) #[.pointer (some ⟨bk, 0, none⟩)], args := #[.func (.yield L) #[] #[]] }, W1, gf, #[.func (.yield L) #[] #[], .pointer (some ⟨bk, 0, none⟩)], W1, ?_, ?_, fun _ _ => trivial, ?_, fun e => by simp [Wd] at e, ?_⟩
 ·rw [← hW1, hrec, ← hLL]; exact run_enterLoop_outer _ _ _ _ _
 ·simp only [resolve, hval]
  simp [go_sem]
 ·have eg : ∀ args w, (callFunc gf args).run P w = .ok (.enter gf args) w := fun args w => cK hit.fn args w
  simp [invoke, go_sem, eg]
 have hmen := j6 hfix
 obtain ⟨J, hJ⟩ : ∃ J : Nat → Hp → (Nat → Prop) → World → Prop, J = fun k h G W => ∃ r' o st pe, (∀ m, m < np' → r' m = r m) ∧ WOK C h r' o W ∧ W.heap[L]? = some (.loop (rec st pe)) ∧ h L = none ∧ (∀ m, o m ≠ none → bi (r' m) ≠ some L) ∧ Hle h1 h ∧
   (G = fun i => (i = L ∨ ∃ m, o m ≠ none ∧ bi (r' m) = some i) ∨ (i < W1.heap.size ∧ h i = none ∧ i ≠ bk)) ∧ W1.heap.size ≤ W.heap.size ∧ xT xs.length own I Q l k o st pe := ⟨_, rfl⟩
 have hrg : ∀ h r', Hle h1 h → (∀ m, m < np' → r' m = r m) → RegsOK h r' (cg l) a := fun h r' hl hr t =>
  AVRep.rebind _ _ (fun m hm => hr m (hmen t m hm)) (AVRep.mono (hle1.trans hl) _ _ (hc.rg t))
 refine CallsIn.mono (hit.go L bk J h1 (fun i => (i = L ∨ ∃ m, own 0 m ≠ none ∧ bi (r m) = some i) ∨ (i < W1.heap.size ∧ h1 i = none ∧ i ≠ bk)) W1 0 (Nat.zero_le _) (Nat.zero_le _) ?_ ?_ ((hbr.mono hle1).world fun i hi => ?_) hw2.gl ⟨⟨?_, ?_, ?_⟩, ?_⟩ ?_) ?_
 ·rintro ((x | ⟨m, hm, e⟩) | x)
  ·omega
  ·exact hbne m hm e
  exact x.2.2 rfl
 ·rw [hh1]
  show (if bk = w.heap.size then _ else hh bk) = none
  rw [if_neg (by omega)]; exact hbho
 ·have : i = bk := by simpa [bi] using hi.symm
  subst this
  rw [← hW1, bP, if_neg (by simp; omega), bP, if_neg (by omega)]
 ·intro k h G W hk
  rw [hJ] at hk
  obtain ⟨r', o, st, pe, _, q, _⟩ := hk
  exact q.hi
 ·intro k h G W hk i hi
  rw [hJ] at hk
  obtain ⟨r', o, st, pe, e1, e2, e3, e4, e5, e6, rfl, e7, e8⟩ := hk
  rcases hi with (rfl | ⟨m, hm, e⟩) | ⟨h8, h9, _⟩
  ·exact ⟨(Array.getElem?_eq_some_iff.1 e3).1, e4⟩
  ·exact ⟨e2.lt hm e, e2.ho m i hm e⟩
  exact ⟨by omega, h9⟩
 ·intro k h G W h' W' hk q
  rw [hJ] at hk ⊢
  obtain ⟨r', o, st, pe, e1, e2, e3, e4, e5, e6, rfl, e7, e8⟩ := hk
  have hlt : L < W.heap.size := (Array.getElem?_eq_some_iff.1 e3).1
  refine ⟨r', o, st, pe, e1, e2.rest3 q (fun m i hm e => .inl (.inr ⟨m, hm, e⟩)) (fun i h9 hg => ?_), ?_, ?_, e5, e6.trans q.hg, ?_, Nat.le_trans e7 q.size, e8⟩
  ·by_cases y : C.F i
   ·exact .inr y
   by_cases x : i < C.w0.heap.size
   ·exfalso
    refine hg (.inr ⟨Nat.lt_of_lt_of_le x hw2.size, h9, fun z => ?_⟩)
    subst z
    rcases hbfo with z | z
    ·omega
    exact y z
   exact .inl (by omega)
  ·rcases q.old L hlt with g | ⟨_, g, _⟩
   ·rw [g]; exact e3
   exact absurd (.inl (.inl rfl)) g
  ·cases e : h' L with
   | none => rfl
   | some o' =>
    rcases q.hn L (by rw [e]; simp) with g | g
    ·exact absurd e4 g
    exact absurd (.inl (.inl rfl)) g.2
  funext i
  refine propext ⟨fun x => x.imp id fun ⟨a1, a2, a3⟩ => ⟨a1, ?_, a3⟩, fun x => x.imp id fun ⟨a1, a2, a3⟩ => ⟨a1, ?_, a3⟩⟩
  ·cases e : h' i with
   | none => rfl
   | some o' =>
    rcases q.hn i (by rw [e]; simp) with g | g
    ·exact absurd a2 g
    exact absurd (.inr ⟨a1, a2, a3⟩) g.2
  cases e : h i with
  | none => rfl
  | some o' => rw [q.hg i o' e] at a2; cases a2
 ·intro k h G W x vals hx hk hv
  rw [hJ] at hk
  obtain ⟨r', o, st, pe, e1, e2, e3, e4, e5, e6, rfl, e7, e8⟩ := hk
  have hkl : k < xs.length := (List.getElem?_eq_some_iff.1 hx).1
  obtain ⟨_, rfl, rfl, rfl, hIk⟩ : k ≤ xs.length ∧ o = own k ∧ st = .ready ∧ pe = none ∧ I k := by
   rcases e8 with e8 | e8
   ·exact e8
   omega
  have hlen : x.length = ps.toList.length := hps x (List.mem_of_getElem? hx)
  have hvl : vals.length = x.length := ko _ _ hv
  have hsz : vals.toArray.size = (rec .ready none).params.size := by
   rw [hrec]
   show vals.length = ps.size
   rw [hvl, hlen]; simp
  refine ⟨_, _, _, _, run_yield e3 hsz, roundIn_of_wpIn trivial ?_⟩
  rw [hrec]
  show assign.wpIn (Wd (some L)) 0 P _ { tmps := (ps.zip vals.toArray).foldl (fun t (p, v) => t.setIfInBounds p v) a.tmps, defers := [] } W
  have hzip : (ps.zip vals.toArray).foldl (fun t (p, v) => t.setIfInBounds p v) a.tmps = (ps.toList.zip vals).foldl (fun t (p, v) => t.setIfInBounds p v) a.tmps := by
   rw [← Array.foldl_toList, Array.toList_zip]
  rw [hzip]
  obtain ⟨f1, f2⟩ := fz (r := r') ps.toList x vals (cg l) a.tmps hv hlen (fun p hp => by
   have := List.all_eq_true.1 hpN p hp
   rw [hc.sz]; simpa using this) (fun t => hrg h r' e6 e1 t)
  refine wpIn_mono (hround k x hx hIk (some L) (fun e => by cases e) (Ctx.round h r' (own k) W np') h r' _ W ⟨rfl, rfl⟩ ⟨f2.trans hc.sz, trivial, f1, e2.enter⟩) ?_
  rintro e a1 w1 ⟨s1, h2, r2, q1, c1⟩
  cases e with
  | normal =>
   have hwk1 := e2.leave c1.wk (Nat.le_trans (Nat.le_of_eq hn.1) hnp')
   obtain ⟨g1, g2, g3⟩ := WOK.rec_left e5 c1.wk e3 e4
   have hd1 : a1.defers = [] := by
    have := c1.df
    cases hd : a1.defers with
    | nil => rfl
    | cons d ds => rw [hd] at this; cases this.1
   have hw3 := hwk1.putL (o := .loop { rec .ready none with state := .busy }) g3 g2 hCL
   have hLw : L < w1.heap.size := (Array.getElem?_eq_some_iff.1 g1).1
   have hLb : (w1.putObj L (.loop { rec .ready none with state := .busy })).heap[L]? = some (.loop { rec .ready none with state := .busy }) := World.putObj_heap_same hLw
   refine ⟨_, run_beginRound g1 (by rw [hrec]), ?_⟩
   refine wpIn_mono (q1 (some L) (fun e => by cases e) (Ctx.round h2 r2 s1.own _ np') h2 r2 a1 _ ⟨rfl, rfl⟩ ⟨c1.sz, by rw [hd1]; trivial, c1.rg, hw3.enter⟩) ?_
   rintro e a2 w2 ⟨s2, h3, r3, q2, c2⟩
   have fin : ∀ (jump : Option Code) (o2 : Own), GW np' s2.own o2 → xT xs.length own I Q l (nx xs.length k jump.isNone) o2 (if jump.isNone then .ready else .done) jump → ∃ v w', (Instr.endRound L jump).run P w2 = .ok v w' ∧ ∃ b, Ending.returned v = .returned (.bool b) ∧ ∃ h' G', J (nx xs.length k b) h' G' w' ∧ Gave (fun i => (i = L ∨ ∃ m, own k m ≠ none ∧ bi (r' m) = some i) ∨ (i < W1.heap.size ∧ h i = none ∧ i ≠ bk)) h W G' h' w' := by
    intro jump o2 q2 hleft
    have hwk2 := hw3.leave c2.wk (Nat.le_trans (Nat.le_of_eq hn.1) hnp')
    obtain ⟨k1, k2, k3⟩ := WOK.rec_left g3 c2.wk hLb g2
    obtain ⟨r4, q3, hwk3, q4⟩ := q2 C h3 r3 w2 (Nat.le_trans (Nat.le_of_eq hn.1) hnp') hwk2
    have k3' : ∀ m, o2 m ≠ none → bi (r4 m) ≠ some L := fun m hm e => by
     obtain ⟨m2, g1, g2⟩ := q4 m L hm e
     exact k3 m2 g1 g2
    have F2 : ∀ i, (Ctx.round h2 r2 s1.own (w1.putObj L (.loop { rec .ready none with state := .busy })) np').F i → W.heap.size ≤ i ∨ ∃ m, own k m ≠ none ∧ bi (r' m) = some i := by
     rintro i ⟨m, hm, e⟩; exact c1.wk.fo m i hm e
    have sz1 : W.heap.size ≤ w1.heap.size := c1.wk.size
    have sz2 : w1.heap.size ≤ w2.heap.size := by have : (w1.putObj L _).heap.size ≤ w2.heap.size := c2.wk.size; rwa [bL] at this
    refine ⟨_, _, run_endRound jump k1, _, rfl, h3, fun i => (i = L ∨ ∃ m, o2 m ≠ none ∧ bi (r4 m) = some i) ∨ (i < W1.heap.size ∧ h3 i = none ∧ i ≠ bk), ?_, ?_⟩
    ·rw [hJ]
     refine ⟨r4, o2, if jump.isNone then .ready else .done, jump, fun m hm => ?_, hwk3.putL k3' k2 hCL, ?_, k2, k3', e6.trans (c1.wk.hg.trans c2.wk.hg), rfl, by rw [bL]; omega, hleft⟩
     ·rw [q3 m hm, c2.wk.kp m hm]
      show r2 m = r m
      rw [c1.wk.kp m hm]
      exact e1 m hm
     rw [World.putObj_heap_same (Array.getElem?_eq_some_iff.1 k1).1, hrec]
    refine ⟨c2.wk.os.trans c1.wk.os, c2.wk.tape.trans c1.wk.tape, c2.wk.output.trans c1.wk.output, by rw [bL]; omega, fun i hi hg => ?_, c1.wk.hg.trans c2.wk.hg, fun i hi => ?_, fun i hi => ?_⟩
    ·have hiL : i ≠ L := fun x => hg (.inl (.inl x))
     rw [b7 hiL, c2.wk.old i (by rw [show (Ctx.round h2 r2 s1.own (w1.putObj L (.loop { rec .ready none with state := .busy })) np').w0.heap.size = w1.heap.size from bL _ _ _]; omega) (fun x => by
      rcases F2 i x with g | g
      ·omega
      exact hg (.inl (.inr g)))]
     show (w1.putObj L _).heap[i]? = _
     rw [b7 hiL]
     exact c1.wk.old i hi (fun x => hg (.inl (.inr x)))
    ·rcases c2.wk.hn i hi with g | g | g
     ·rcases c1.wk.hn i g with g | g | g
      ·exact .inl g
      ·exact .inr (.inl g)
      exact .inr (.inr (.inl (.inr g)))
     ·have g' : (w1.putObj L (.loop { rec .ready none with state := .busy })).heap.size ≤ i := g
      rw [bL] at g'
      exact .inr (.inl (by omega))
     rcases F2 i g with g | g
     ·exact .inr (.inl g)
     exact .inr (.inr (.inl (.inr g)))
    rcases hi with (rfl | ⟨m, hm, e⟩) | ⟨x1, x2, x3⟩
    ·exact .inl (.inl (.inl rfl))
    ·obtain ⟨m2, g1, g2⟩ := q4 m i hm e
     rcases c2.wk.fo m2 i g1 g2 with g | g
     ·have g' : (w1.putObj L (.loop { rec .ready none with state := .busy })).heap.size ≤ i := g
      rw [bL] at g'
      exact .inr (by omega)
     rcases F2 i g with g | g
     ·exact .inr g
     exact .inl (.inl (.inr g))
    refine .inl (.inr ⟨x1, ?_, x3⟩)
    cases e : h i with
    | none => rfl
    | some o' => rw [(c1.wk.hg.trans c2.wk.hg) i o' e] at x2; cases x2
   cases e with
   | normal => exact fin none _ q2.1 (.inl ⟨hkl, rfl, rfl, rfl, q2.2⟩)
   | ret =>
    obtain ⟨o2, g1, g2⟩ := q2
    exact fin (some .ret) o2 g1 (.inr ⟨(by show xs.length < xs.length + 1 + k; omega), rfl, .inl ⟨rfl, g2⟩⟩)
   | exit id =>
    obtain ⟨o2, g1, g2⟩ := q2
    exact fin (some (.exit id)) o2 g1 (.inr ⟨(by show xs.length < xs.length + 1 + k; omega), rfl, .inr ⟨id, rfl, g2⟩⟩)
   | _ => exact q2.elim
  | _ => exact q1.elim
 ·rw [hJ]
  exact ⟨r, own 0, .ready, none, fun _ _ => rfl, hw2, hL1, hhL, hnoL, .refl _, rfl, Nat.le_refl _, .inl ⟨Nat.zero_le _, rfl, rfl, rfl, hI⟩⟩
 rintro e W3 ⟨⟨v, rfl⟩, kf, h', G', hkf, hk⟩
 rw [hJ] at hk
 obtain ⟨r', o, st, pe, e1, e2, e3, e4, e5, e6, _, _, e8⟩ := hk
 have fin : ∀ (ob : Obj) (q : Exit), Q q ⟨cg l, o⟩ → ∃ s' h' r', Q q s' ∧ Conc C N h' r' s' { a with defers := [{ target := .collected w.heap.size, args := #[] }] ++ a.defers } (W3.putObj L ob) := fun ob q hq => by
  refine ⟨⟨cg l, o⟩, h', r', hq, hc.sz, ?_, fun t => hrg h' r' e6 e1 t, e2.putL e5 e4 hCL⟩
  refine ⟨hmar, ⟨w.heap.size, rfl, hc.wk.size, ?_, e6 _ _ hD1, lF hD0 hc.df⟩, hc.df.mono (hle1.trans e6)⟩
  cases e : C.h0 w.heap.size with
  | none => rfl
  | some o => have := hc.wk.hg _ _ e; rw [hD0] at this; cases this
 have hbusy : (rec st pe).state ≠ .busy := by
  rw [hrec]
  rcases e8 with ⟨_, _, h3, _⟩ | ⟨_, h3, _⟩ <;> (show st ≠ _; rw [h3]; simp)
 have hpe : (rec st pe).pending = pe := by rw [hrec]
 refine ⟨pe, _, by have := run_endLoop (P := P) e3 hbusy; rw [hpe] at this; exact this, ?_⟩
 rcases e8 with ⟨h1, rfl, _, rfl, hIk⟩ | ⟨_, _, ⟨rfl, h4⟩ | ⟨id, rfl, h4⟩⟩
 ·have : kf = xs.length := by omega
  subst this
  exact fin _ .normal (hdone hIk)
 ·exact wpIn_ret (fin _ .ret h4)
 exact wpIn_exit (fin _ (.exit id) h4)
end
section
open Go Go.RowKit
theorem BN {P : Program} {f : FuncId} {fn : Func} {c : Code} {N : Nat} {b0 : Blk} {xs : List (List PV)} (hf : P.funcs[f]? = some fn) (hnm : (fn.name == "runtime.NumGoroutine") = false) (hb : fn.body = some c) (hN : fn.ntmps = N) (hna : 2 ≤ N) (hres : fn.results = #[]) (hlk : lnk b0 = [])
  (h : ∀ l n0 J, Keeps2 P l xs n0 J → AE P xs n0 J N 2 c 0 ⟨fun t => ([.p (.c (.v (.func (.yield l) #[] #[]))), .loc 1 0] : List AV).getD t .junk, upd O 1 (some b0)⟩) : Iter3 P f b0 xs := by
 refine ⟨⟨fn, hf, hnm, by rw [hb]; rfl⟩, ?_⟩
 intro l k0 J hh G W n0 hn0 hk0 hG hhk hbr hgl hK h0
 refine callsIn_of_wp_marks hf hb trivial ?_
 have kA : ∀ m, (upd O 1 (some b0)) m ≠ none → m = 1 := fun m hm => by
  by_cases e : m = 1
  ·exact e
  rw [aP _ _ _ _ e] at hm; exact absurd rfl hm
 refine wpIn_mono (h l n0 J hK ⟨fun _ => .pointer (some ⟨k0, 0, none⟩), hh, W, fun i => G i ∨ i = k0⟩ hh (fun _ => .pointer (some ⟨k0, 0, none⟩)) _ W G ⟨?_, rfl, ?_, (⟨W, hh, fun i => i = k0, fun _ => .pointer (some ⟨k0, 0, none⟩), 2, false⟩ : Ctx), ?_, h0, hn0, fun i e => ?_, rfl, rfl, fun _ _ => rfl, ⟨rfl, rfl, .refl _, Nat.le_refl _, fun _ _ _ => rfl, .refl _, fun _ e => .inl e, fun _ e => .inl e⟩⟩) ?_
 ·simp [hN]; omega
 ·intro t
  show AVRep hh _ (([.p (.c (.v (.func (.yield l) #[] #[]))), .loc 1 0] : List AV).getD t .junk) _
  match t with
  | 0 =>
   show AVRep hh _ (.p (.c (.v (.func (.yield l) #[] #[])))) (Array.getD _ 0 undef)
   have e0 : (#[.func (.yield l) #[] #[], .pointer (some ⟨k0, 0, none⟩)] ++ Array.replicate (fn.ntmps - (#[.func (.yield l) #[] #[], .pointer (some ⟨k0, 0, none⟩)] : Array Value).size) undef : Array Value).getD 0 undef = .func (.yield l) #[] #[] := by
    rw [Array.getD_eq_getD_getElem?, Array.getElem?_append_left (by simp)]; rfl
   rw [e0]
   simp only [AVRep, PRep, DRep, true_and]; rfl
  | 1 =>
   show AVRep hh _ (.loc 1 0) (Array.getD _ 1 undef)
   have e0 : (#[.func (.yield l) #[] #[], .pointer (some ⟨k0, 0, none⟩)] ++ Array.replicate (fn.ntmps - (#[.func (.yield l) #[] #[], .pointer (some ⟨k0, 0, none⟩)] : Array Value).size) undef : Array Value).getD 1 undef = .pointer (some ⟨k0, 0, none⟩) := by
    rw [Array.getD_eq_getD_getElem?, Array.getElem?_append_left (by simp)]; rfl
   rw [e0]
   exact ⟨k0, rfl, rfl⟩
  | t + 2 => exact trivial
 ·show WOK _ hh _ (upd O 1 (some b0)) W
  refine ⟨fun m b e => ?_, fun m n k hm hn _ _ => (kA m hm).trans (kA n hn).symm, hK.hi _ _ _ _ h0, fun m k hm e => ?_, rfl, rfl, .refl _, Nat.le_refl _, fun _ _ _ => rfl, fun m k hm e => .inr ?_, Hle.refl _, fun k e => Or.inl e, hgl, fun _ _ => rfl, fun m b j e hj => ?_⟩
  ·have : m = 1 := kA m (by rw [e]; simp)
   subst this
   rw [upd_same] at e; cases e; exact hbr
  ·have : k = k0 := by simpa [bi] using e.symm
   rw [this]; exact hhk
  ·simpa [bi] using e.symm
  have : m = 1 := kA m (by rw [e]; simp)
  subst this
  rw [upd_same] at e; cases e; rw [hlk] at hj; cases hj
 ·have e : i = k0 := e
  subst e
  exact ⟨hk0, hG, hhk⟩
 rintro e a' w' ⟨he, kf, h', G', hk, hj, hd⟩
 have hr : ∀ W', (results fn a'.tmps).run P W' = .ok (.tuple #[]) W' := fun W' => by rw [fi, hres]; simp
 have fin : LeavesInM (Wd none) 0 P fn a'.tmps (fun e W' => (∃ v, e = .returned v) ∧ ∃ kf h' G', xs.length ≤ kf ∧ J kf h' G' W') a'.defers .returning w' := by
  rcases hd with hd | ⟨D, hd, d1, d2, d3, d4⟩
  ·rw [hd]
   exact ⟨_, hr _, ⟨_, rfl⟩, kf, h', G', hk, hj⟩
  rw [hd]
  refine ⟨by simp, .inl ⟨D, _, rfl, run_takeDeferred d1, ?_⟩⟩
  exact ⟨_, hr _, ⟨_, rfl⟩, kf, h', G', hk, hK.rest _ _ _ _ _ _ hj (iE (hK.hi _ _ _ _ hj) d2 d3 d4)⟩
 rcases he with rfl | rfl <;> exact fin
end
section
open Go Go.RowKit
theorem WOK.nilV {C : Ctx} {h : Hp} {r : Nat → Value} {own : Own} {w : World} (k : WOK C h r own w) {d sz : Nat} {e : TypeId} (hd : own d = none) (hp : C.np ≤ d) (hl : ∀ m b, own m = some b → d ∉ lnk b) :
  WOK C h (upd r d (.slice none 0 0)) (upd own d (some ⟨true, sz, e, []⟩)) w := by
 have live : ∀ n, n ≠ d → upd own d (some (⟨true, sz, e, []⟩ : Blk)) n = own n := fun n h1 => aP _ _ _ _ h1
 refine ⟨?_, ?_, k.hi, ?_, k.os, k.tape, k.output, k.size, k.old, ?_, k.hg, k.hn, k.gl, ?_, ?_⟩
 ·intro n b' hn
  by_cases h1 : n = d
  ·subst h1; rw [upd_same] at hn ⊢; cases hn
   exact ⟨none, 0, 0, rfl, by simp, Nat.le_refl _, by omega, .inl rfl⟩
  rw [live n h1] at hn
  rw [aP _ _ _ _ h1]; exact k.ow n b' hn
 ·intro n p i hn hpp e1 e2
  by_cases h1 : n = d
  ·subst h1; rw [upd_same] at e1; cases e1
  by_cases h2 : p = d
  ·subst h2; rw [upd_same] at e2; cases e2
  rw [aP _ _ _ _ h1] at e1; rw [aP _ _ _ _ h2] at e2
  rw [live n h1] at hn; rw [live p h2] at hpp
  exact k.inj n p i hn hpp e1 e2
 ·intro n i hn e1
  by_cases h1 : n = d
  ·subst h1; rw [upd_same] at e1; cases e1
  rw [aP _ _ _ _ h1] at e1; rw [live n h1] at hn; exact k.ho n i hn e1
 ·intro n i hn e1
  by_cases h1 : n = d
  ·subst h1; rw [upd_same] at e1; cases e1
  rw [aP _ _ _ _ h1] at e1; rw [live n h1] at hn; exact k.fo n i hn e1
 ·intro n hn
  rw [aP _ _ _ _ (by omega)]; exact k.kp n hn
 intro n b' j hn hj
 by_cases h1 : n = d
 ·subst h1; rw [upd_same] at hn; cases hn; cases hj
 rw [live n h1] at hn
 have hjd : j ≠ d := fun x => hl n b' hn (x ▸ hj)
 rw [aP _ _ _ _ h1, aP _ _ _ _ hjd]
 exact k.lk n b' j hn hj
theorem og {P : Program} {B : Bool} {N np : Nat} {Q : Exit → St → Prop} {s : St} {c : Code} (t d sz : Nat) (e : TypeId) (ht : s.regs t = .p (.c (.v (.slice none 0 0)))) (hp : Nat.ble np d = true)
  (h : AWp P B N np c Q ⟨upd (cV [d] s).regs t (.vec d), upd (cV [d] s).own d (some ⟨true, sz, e, []⟩)⟩) : AWp P B N np c Q s := by
 intro ro hB C hh r a w hn hc
 have hk := jh [d] hc
 have hown : (cV [d] s).own d = none := iL [d] s d (by simp)
 have hmen := j8 [d] s d (by simp)
 have hx := hc.rg t
 rw [ht] at hx
 have hv : a.tmps.getD t undef = .slice none 0 0 := by
  simp only [AVRep, PRep, DRep] at hx
  exact hx.1
 refine h ro hB C hh (upd r d (.slice none 0 0)) a w hn ⟨hk.sz, hk.df, fun t' => ?_, hk.wk.nilV hown (by rw [hn.1]; exact bL0 hp) (iM [d] s d (by simp))⟩
 show AVRep hh _ (upd (cV [d] s).regs t (.vec d) t') _
 by_cases e1 : t' = t
 ·subst e1
  rw [upd_same]
  show _ = upd r d _ d
  rw [upd_same, hv]
 rw [aP _ _ _ _ e1]
 have hr := hk.rg t'
 have hmt := hmen t'
 exact AVRep.rebind _ _ (fun m hm => aP _ _ _ _ (fun x => hmt (x ▸ hm))) hr
section ops
variable {P : Program}
variable {dst : Option Nat} {ty : TypeId} {pos : String} {af : Array Edge} {gd : Option (Nat × Bool)} {d : Nat} {ρ : Operand → AV} {own : Own}
theorem jY {f : FuncId} {c : Operand} {xs : List DV} (hx : ρ c = .ip xs) : Eff P ⟨dst, .makeFunc (.func f) #[] #[c], ty, pos, af, gd⟩ d ρ own (.p (.c (.fn f [.ip xs]))) [] none [] :=
 bC fun C h r own' a w hrep hrd hw => by
  have e1 := hrep c (by simp [Op.operands])
  rw [hx] at e1
  refine ⟨.func (.func f) #[] #[a.eval c], ?_, ?_⟩
  ·simp [execOp, Instr.makeFunc]
  simp only [AVRep, PRep, DRep]
  refine ⟨#[a.eval c], rfl, rfl, ?_⟩
  refine DReps.of_get fun i dv hi => ?_
  cases i with
  | zero =>
   simp only [List.getElem?_cons_zero, Option.some.injEq] at hi
   subst hi
   exact ⟨a.eval c, rfl, by simp only [DRep]; exact e1⟩
  | succ i => simp at hi
theorem o8 {h : Hp} {r : Nat → Value} : ∀ {cs : List (List DV)} {g : Nat → Option Value} {xs : List Value}, DReps h (cs.map .ip) g → xs.length = cs.length → (∀ i, g i = xs[i]?) → RepArgs h r (cs.map .ip) xs
 | [], _, [], _, _, _ => trivial
 | [], _, _ :: _, _, e, _ => by simp at e
 | _ :: _, _, [], _, e, _ => by simp at e
 | c :: cs, g, x :: xs, k, e, hg => by
  simp only [List.map_cons, DReps] at k
  obtain ⟨⟨y, e1, e2⟩, k⟩ := k
  rw [hg 0] at e1
  simp only [List.getElem?_cons_zero, Option.some.injEq] at e1
  subst e1
  refine ⟨?_, o8 k (by simpa using e) (fun i => by rw [hg (i + 1)]; simp)⟩
  simp only [DRep] at e2
  exact e2
theorem Eff.callD {f : FuncId} {caps : List (List DV)} {c : Operand} {args : Array Operand} {tys : Array TypeId} {res : AV} (hx : ρ c = .p (.c (.fn f (caps.map .ip)))) (hc : aI P f (args.toList.map ρ ++ caps.map .ip) res) :
  Eff P ⟨dst, .call ⟨.value c, args, tys⟩, ty, pos, af, gd⟩ d ρ own res [] none [] := by
 intro C h r own' a w K Q hrep hrd hw _ hK
 have e1 := hrep c (by simp [Op.operands, Call.operands])
 rw [hx] at e1
 simp only [AVRep, PRep, DRep] at e1
 obtain ⟨lb, e2, e3, e4⟩ := e1
 unfold Oper.wp
 have hrun : (execOp a.eval ⟨dst, .call ⟨.value c, args, tys⟩, ty, pos, af, gd⟩).run P w = .ok (.enter f (args.map a.eval ++ lb)) w := by
  simp only [execOp, resolve, Sem.run_bind, e2, Deferred.ofValue, Sem.run_pure, Result.andThen_ok, invoke, Array.empty_append]
  exact cK hc.fn _ w
 rw [hrun]
 refine Calls.mono (hc.go h r w (args.map a.eval ++ lb) ?_ (hw.before fun m hm => absurd rfl hm)) ?_
 ·rw [Array.toList_append, Array.toList_map]
  refine RepArgs.app (dz _ fun x hx => hrep x (by simp only [Op.operands, Call.operands]; exact Array.mem_append.2 (.inr (Array.mem_toList_iff.1 hx)))) ?_
  exact o8 e4 (by simpa using e3) (fun i => by simp)
 rintro e w' ⟨v, h', rfl, hv, hq⟩
 exact hK v h' r w' hq.hg (fun _ _ => rfl) hv (hw.after (fun m hm => absurd rfl hm) hq (fun m => by simp [gi, db]) (fun m b hm => absurd rfl hm))
end ops
def IC (z : Int) : DV := .v (.int .i64 z)
def IS (l : List Int) : DV := .sl l.length (l.map IC)
def IB (e : TypeId) (l : List Int) : Blk := ⟨true, 1, e, l.map IC⟩
def spR (c : Int) : List Int := if c = -4 then [1, 5] else if c = 8 then [1, 7] else [1, 3]
def chF (fo fs : FuncId) (c : Int) : DV := if c = -4 ∨ c = 8 ∨ c = -8 then .fn fs [.ip [IS (spR c)]] else .fn fo [.ip [IC c]]
def chC (fo fs : FuncId) (c : Int) : List DV := [IC c, chF fo fs c]
def CS (fo fs : FuncId) (l : List Int) : DV := .sl l.length (l.flatMap (chC fo fs))
def CB (fo fs : FuncId) (e : TypeId) (l : List Int) : Blk := ⟨true, 2, e, l.flatMap (chC fo fs)⟩
section
variable {fo fs : FuncId}
theorem pd (l : List Int) : (l.flatMap (chC fo fs)).length = l.length * 2 := by
 induction l with
 | nil => rfl
 | cons x l ih => rw [List.flatMap_cons, List.length_append, ih, List.length_cons]; show 2 + _ = _; omega
theorem wu : ∀ (l : List Int) (i : Nat) (h : i < l.length), (l.flatMap (chC fo fs)).drop (i * 2) = chC fo fs l[i] ++ (l.drop (i + 1)).flatMap (chC fo fs)
 | x :: l, 0, _ => by simp
 | x :: l, i + 1, h => by
  have ih := wu l i (by simpa using h)
  have e : (i + 1) * 2 = i * 2 + 2 := by omega
  rw [e, List.flatMap_cons]
  show (IC x :: chF fo fs x :: l.flatMap (chC fo fs)).drop (i * 2 + 2) = _
  rw [List.drop_succ_cons, List.drop_succ_cons, ih]
  simp
variable {P : Program} {tt : TT} (hT : dR P tt)
variable {dst : Option Nat} {ty : TypeId} {pos : String} {af : Array Edge} {gd : Option (Nat × Bool)} {d : Nat} {ρ : Operand → AV} {own : Own}
variable {T e : TypeId} {i j : TyI} {x y : Operand}
include hT
theorem je {k : IntKind} {n : Int} {l : List Int} (ht : tt T = some i) (hs : i.sh = .sl e) (he : tt e = some j) (hj : j.size = 1) (hx : ρ x = .p (.c (IS l))) (hy : ρ y = .p (.c (.v (.int k n)))) (hn : 0 ≤ n ∧ n < l.length) :
  Eff P ⟨dst, .indexAddr T x y, ty, pos, af, gd⟩ d ρ own (.ip (IC (l.getD n.toNat 0) :: (l.drop (n.toNat + 1)).map IC)) [] none [] := by
 have hi : n.toNat < l.length := by omega
 have h := b9 (dst := dst) (ty := ty) (pos := pos) (af := af) (gd := gd) (d := d) (own := own) hT ht hs he hx (l := l.length) (xs := l.map IC) (by rfl) hy hn (by
  intro h0
  have : (l.map IC).length = 0 := by rw [h0]; rfl
  rw [List.length_map] at this; omega)
 rw [hj, Nat.mul_one, List.drop_eq_getElem_cons (by rw [List.length_map]; exact hi), List.getElem_map, ← List.map_drop] at h
 have e1 : l.getD n.toNat 0 = l[n.toNat] := by simp [List.getD, hi]
 rw [e1]; exact h
theorem qC {k : IntKind} {n : Int} {l : List Int} (ht : tt T = some i) (hs : i.sh = .sl e) (he : tt e = some j) (hj : j.size = 2) (hx : ρ x = .p (.c (CS fo fs l))) (hy : ρ y = .p (.c (.v (.int k n)))) (hn : 0 ≤ n ∧ n < l.length) :
  Eff P ⟨dst, .indexAddr T x y, ty, pos, af, gd⟩ d ρ own (.ip (chC fo fs (l.getD n.toNat 0) ++ (l.drop (n.toNat + 1)).flatMap (chC fo fs))) [] none [] := by
 have hi : n.toNat < l.length := by omega
 have h := b9 (dst := dst) (ty := ty) (pos := pos) (af := af) (gd := gd) (d := d) (own := own) hT ht hs he hx (l := l.length) (xs := l.flatMap (chC fo fs)) (by rfl) hy hn (by
  intro h0
  have := pd (fo := fo) (fs := fs) l
  rw [h0] at this
  simp at this
  omega)
 rw [hj, wu l n.toNat hi] at h
 have e1 : l.getD n.toNat 0 = l[n.toNat] := by simp [List.getD, hi]
 rw [e1]; exact h
theorem oQ {m : Nat} {l : List Int} {z : Int} (ht : tt T = some i) (hs : i.sh = .sl e) (he : tt e = some j) (hj : j.size = 1) (hjb : Nat.ble j.bytes 32 = true) (hx : ρ x = .vec m) (hb : own m = some (IB e l)) (hy : ρ y = .p (.c (.sl 1 [IC z]))) (hfit : l.length ≤ 100000000) (hmd : m ≠ d) :
  Eff P ⟨dst, .call ⟨.builtin .append, #[x, y], #[T, T]⟩, ty, pos, af, gd⟩ d ρ own (.vec d) [(m, none)] (some (IB e (l ++ [z]))) [m] := by
 have hl : (IB e l).cs.length = l.length := by simp [IB]
 have h := fQ (dst := dst) (ty := ty) (pos := pos) (af := af) (gd := gd) hT ht hs he hx hb rfl hj.symm rfl hy (by rfl) (by rw [hj]; rfl) (by rw [hj]; exact hjb) (by rw [hl, hj]; omega) (by rw [hj]; rfl) hmd
 rw [hj] at h
 unfold IB
 rw [List.map_append]
 exact h
theorem fk {m k : Nat} {l c : List Int} (ht : tt T = some i) (hs : i.sh = .sl e) (he : tt e = some j) (hj : j.size = 2) (hjb : Nat.ble j.bytes 64 = true) (hx : ρ x = .vec m) (hb : own m = some (CB fo fs e l)) (hy : ρ y = .p (.c (.sl k (c.flatMap (chC fo fs))))) (hk : k = c.length) (hfit : l.length + c.length ≤ 100000000) (hmd : m ≠ d) :
  Eff P ⟨dst, .call ⟨.builtin .append, #[x, y], #[T, T]⟩, ty, pos, af, gd⟩ d ρ own (.vec d) [(m, none)] (some (CB fo fs e (l ++ c))) [m] := by
 subst hk
 have hl : (CB fo fs e l).cs.length = l.length * 2 := pd l
 have h := fQ (dst := dst) (ty := ty) (pos := pos) (af := af) (gd := gd) hT ht hs he hx hb rfl hj.symm rfl hy (by rfl) (by rw [hj]; exact pd c) (by rw [hj]; exact hjb) (by rw [hl, hj]; omega) (by rw [hj]; rfl) hmd
 rw [hj] at h
 unfold CB
 rw [List.flatMap_append]
 exact h
end
section
variable {P : Program} {B : Bool} {N np : Nat} {Q : Exit → St → Prop} {s : St} {c : Code}
theorem nJ {t m : Nat} {l : List Int} {e : TypeId} (ht : s.regs t = .vec m) (hb : s.own m = some (IB e l)) (h : AWp P B N np c Q ⟨upd s.regs t (.p (.c (IS l))), upd s.own m none⟩) : AWp P B N np c Q s := by
 refine gZ (n := l.length) ht hb rfl (by simp [IB]) (by show 0 < 1; omega) ?_
 exact h
theorem ei {fo fs : FuncId} {t m : Nat} {l : List Int} {e : TypeId} (ht : s.regs t = .vec m) (hb : s.own m = some (CB fo fs e l)) (h : AWp P B N np c Q ⟨upd s.regs t (.p (.c (CS fo fs l))), upd s.own m none⟩) : AWp P B N np c Q s := by
 refine gZ (n := l.length) ht hb rfl (pd l).symm (by show 0 < 2; omega) ?_
 exact h
end
end
section
open Go Go.RowKit
def rmv (p : Int) : Nat → Int → Int
 | 0, n => n
 | f + 1, n => if n % p = 0 then rmv p f (n / p) else n
def rmp (n p : Int) : Int := rmv p n.toNat n
theorem iR {n p : Int} (hn : 0 < n) (hp : 2 ≤ p) (h : n % p = 0) : 0 < n / p ∧ n / p < n := by
 have h1 := Int.mul_ediv_add_emod n p
 rw [h, Int.add_zero] at h1
 have h2 : 0 < n / p := by
  rcases Int.lt_or_le 0 (n / p) with g | g
  ·exact g
  have : p * (n / p) ≤ p * 0 := Int.mul_le_mul_of_nonneg_left g (by omega)
  omega
 refine ⟨h2, ?_⟩
 have h3 : 2 * (n / p) ≤ p * (n / p) := Int.mul_le_mul_of_nonneg_right hp (by omega)
 omega
theorem su {p : Int} (hp : 2 ≤ p) : ∀ (f g : Nat) (n : Int), 0 < n → n.toNat ≤ f → n.toNat ≤ g → rmv p f n = rmv p g n
 | 0, _, n, h, h1, _ => by omega
 | f + 1, 0, n, h, _, h2 => by omega
 | f + 1, g + 1, n, h, h1, h2 => by
  unfold rmv
  split
  ·next e =>
   have hd := iR h hp e
   exact su hp f g (n / p) hd.1 (by omega) (by omega)
  rfl
theorem jI {n p : Int} (hp : 2 ≤ p) (hn : 0 < n) (h : n % p = 0) : rmp (n / p) p = rmp n p := by
 have hd := iR hn hp h
 unfold rmp
 obtain ⟨k, hk⟩ : ∃ k, n.toNat = k + 1 := ⟨n.toNat - 1, by omega⟩
 rw [hk]
 show _ = (if n % p = 0 then rmv p k (n / p) else n)
 rw [if_pos h]
 exact su hp _ _ _ hd.1 (Nat.le_refl _) (by omega)
theorem kR {n p : Int} (h : n % p ≠ 0) : rmp n p = n := by
 unfold rmp
 cases n.toNat with
 | zero => rfl
 | succ k => unfold rmv; rw [if_neg h]
theorem gD {p : Int} (hp : 2 ≤ p) : ∀ (f : Nat) (n : Int), n.toNat ≤ f → 0 < n → 0 < rmp n p ∧ rmp n p ≤ n ∧ rmp n p % p ≠ 0 ∧ ∃ k : Nat, n = rmp n p * p ^ k
 | 0, n, h, h0 => by omega
 | f + 1, n, h, h0 => by
  by_cases e : n % p = 0
  ·have hd := iR h0 hp e
   obtain ⟨h1, h2, h3, k, h4⟩ := gD hp f (n / p) (by omega) hd.1
   rw [jI hp h0 e] at h1 h2 h3 h4
   refine ⟨h1, by omega, h3, k + 1, ?_⟩
   have h5 := Int.mul_ediv_add_emod n p
   rw [e, Int.add_zero, h4] at h5
   rw [← h5, Int.pow_succ]
   grind
  rw [kR e]
  exact ⟨h0, Int.le_refl _, e, 0, by simp⟩
def gGo : Nat → Int → Int → List Int
 | 0, _, _ => []
 | f + 1, p, n => if p * p ≤ n then (if n % p = 0 then p :: gGo f (p + 2) (rmp n p) else gGo f (p + 2) n) else if 1 < n then [n] else []
def kE (n : Int) : List Int := gGo 1200 3 n
def spC (d : Int) : List Int := if d % 4 ≠ 0 then [] else
 if (-d / 4) % 8 = 0 then [-4, 8] else if (-d / 4) % 8 = 1 ∨ (-d / 4) % 8 = 4 ∨ (-d / 4) % 8 = 5 then [-4] else if (-d / 4) % 8 = 2 then [-8] else if (-d / 4) % 8 = 6 then [8] else []
def chs (d : Int) : List Int := kE (rmp (-d) 2) ++ spC d
theorem zh {f : Nat} {p n : Int} (hn : n ≤ 1) (hp : 2 ≤ p) : gGo f p n = [] := by
 cases f with
 | zero => rfl
 | succ f =>
  unfold gGo
  have : ¬ p * p ≤ n := fun h => by
   have := Int.mul_le_mul hp hp (by omega) (by omega)
   omega
  rw [if_neg this, if_neg (by omega)]
structure OcI (n0 n p : Int) (out : List Int) : Prop where
 n1 : 1 ≤ n
 p3 : 3 ≤ p
 nb : n ≤ 4194304
 nn : n % 2 = 1
 po : p % 2 = 1
 pb : 1 < n → p ≤ 2051
 eq : ∃ f : Nat, (1 < n → (f : Int) = 1200 - (p - 3) / 2) ∧ out ++ gGo f p n = kE n0
 len : out.length ≤ 1200 ∧ (1 < n → (out.length : Int) ≤ (p - 3) / 2)
theorem OcI.start {n : Int} (h1 : 1 ≤ n) (hb : n ≤ 4194304) (ho : n % 2 = 1) : OcI n n 3 [] :=
 ⟨h1, by omega, hb, ho, by omega, fun _ => by omega, ⟨1200, fun _ => by omega, rfl⟩, by simp, fun _ => by simp⟩
section
variable {n0 n p : Int} {out : List Int}
theorem OcI.fin (i : OcI n0 n p out) (h : ¬ n > 1) : out = kE n0 := by
 obtain ⟨f, _, e⟩ := i.eq
 rw [zh (by omega) (by have := i.p3; omega), List.append_nil] at e
 exact e
theorem OcI.sq (i : OcI n0 n p out) (hn : n > 1) (h : p * p ≤ n) : p ≤ 2048 := by
 have := i.nb
 rcases Int.lt_or_le 2048 p with g | g
 ·have := Int.mul_le_mul g g (by omega) (by omega)
  omega
 exact g
theorem OcI.f1 (i : OcI n0 n p out) (hn : n > 1) : ∃ f : Nat, ((f : Int) + 1 = 1200 - (p - 3) / 2) ∧ out ++ gGo (f + 1) p n = kE n0 := by
 obtain ⟨f, h1, e⟩ := i.eq
 have h2 := h1 hn
 have hp := i.pb hn
 cases f with
 | zero => omega
 | succ f => exact ⟨f, by omega, e⟩
theorem OcI.next (i : OcI n0 n p out) (hn : n > 1) (h : ¬ p * p > n) (hd : n % p ≠ 0) : OcI n0 n (p + 2) out := by
 have h' : p * p ≤ n := by omega
 have hs := i.sq hn h'
 obtain ⟨f, h1, e⟩ := i.f1 hn
 unfold gGo at e
 rw [if_pos h', if_neg hd] at e
 have hl := i.len
 have p3 := i.p3
 have hl2 := hl.2 hn
 exact ⟨i.n1, by omega, i.nb, i.nn, by have := i.po; omega, fun _ => by omega, ⟨f, fun _ => by omega, e⟩, hl.1, fun _ => by omega⟩
theorem pz {n p : Int} (hp : 3 ≤ p) (hn : 0 < n) (ho : n % 2 = 1) : rmp n p % 2 = 1 := by
 obtain ⟨h1, h2, h3, k, h4⟩ := gD (p := p) (by omega) n.toNat n (Nat.le_refl _) hn
 rcases (show rmp n p % 2 = 0 ∨ rmp n p % 2 = 1 by omega) with g | g
 ·have : n % 2 = 0 := by rw [h4, Int.mul_emod, g]; simp
  omega
 exact g
theorem OcI.take (i : OcI n0 n p out) (hn : n > 1) (h : ¬ p * p > n) (hd : n % p = 0) : OcI n0 (rmp n p) (p + 2) (out ++ [p]) := by
 have h' : p * p ≤ n := by omega
 have hs := i.sq hn h'
 obtain ⟨f, h1, e⟩ := i.f1 hn
 unfold gGo at e
 rw [if_pos h', if_pos hd] at e
 have hl := i.len
 have p3 := i.p3
 have hl2 := hl.2 hn
 obtain ⟨r1, r2, r3, _⟩ := gD (p := p) (by omega) n.toNat n (Nat.le_refl _) (by omega)
 have nb := i.nb
 refine ⟨by omega, by omega, by omega, pz p3 (by omega) i.nn, by have := i.po; omega, fun _ => by omega, ⟨f, fun _ => by omega, ?_⟩, ?_, fun _ => ?_⟩
 ·rw [List.append_assoc]; exact e
 ·rw [List.length_append, List.length_singleton]; omega
 rw [List.length_append, List.length_singleton]; omega
theorem OcI.last (i : OcI n0 n p out) (hn : n > 1) (h : p * p > n) : OcI n0 1 (n + 2) (out ++ [n]) := by
 obtain ⟨f, h1, e⟩ := i.f1 hn
 unfold gGo at e
 rw [if_neg (by omega), if_pos hn] at e
 have hl := i.len
 have hl2 := hl.2 hn
 have hp := i.pb hn
 refine ⟨by omega, by omega, by omega, by omega, by have := i.nn; omega, fun x => by omega, ⟨0, fun x => by omega, ?_⟩, ?_, fun x => by omega⟩
 ·show out ++ [n] ++ [] = _
  rw [List.append_nil]; exact e
 rw [List.length_append, List.length_singleton]; omega
end
theorem AZ {n : Int} (hn : 1 < n) : rmp n n = 1 := by
 have e : n % n = 0 := Int.emod_self
 have h := jI (p := n) (by omega) (by omega) e
 rw [Int.ediv_self (by omega)] at h
 rw [← h]
 exact kR (by rw [Int.emod_eq_of_lt (by omega) hn]; omega)
end
section
open Go Go.RowKit
def sgB (b : Bool) : Int := if b then 1 else -1
def ixV (l : List Int) (x : Int) : Int := if l.findIdx (· == x) < l.length then (l.findIdx (· == x) : Nat) else -1
def pR (l : List Int) (x : Int) : Bool := decide (0 ≤ ixV l x)
theorem xC {l : List Int} {x : Int} {k : Nat} (h : k ≤ l.findIdx (· == x)) (hk : (k : Int) < l.length) (hne : x ≠ l.getD k 0) : k + 1 ≤ l.findIdx (· == x) := by
 rcases Nat.lt_or_eq_of_le h with g | g
 ·exact g
 exfalso
 have h1 : l.findIdx (· == x) < l.length := by omega
 have h2 := List.findIdx_getElem (w := h1)
 simp only [beq_iff_eq] at h2
 apply hne
 rw [← h2]
 simp [List.getD, ← g, show k < l.length by omega]
theorem Jj {l : List Int} {x : Int} {k : Nat} (h : k ≤ l.findIdx (· == x)) (hk : (k : Int) < l.length) (he : x = l.getD k 0) : ixV l x = (k : Int) := by
 have hk' : k < l.length := by omega
 have hp : l[k] = x := by rw [he]; simp [List.getD, hk']
 have h1 : l.findIdx (· == x) ≤ k := by
  rcases Nat.lt_or_ge k (l.findIdx (· == x)) with g | g
  ·have := List.not_of_lt_findIdx g
   simp [hp] at this
  exact g
 have e : l.findIdx (· == x) = k := by omega
 unfold ixV
 rw [e, if_pos hk']
theorem Jk {l : List Int} {x : Int} {k : Nat} (h : k ≤ l.findIdx (· == x)) (hk : ¬ (k : Int) < l.length) : ixV l x = -1 := by
 unfold ixV
 rw [if_neg (by omega)]
def cv (c n : Int) : Int := if c = -4 ∨ c = 8 ∨ c = -8 then sgB (pR (spR c) (n % 8)) else kr n c
theorem DC {c n : Int} (h : c = -4 ∨ c = 8 ∨ c = -8) : sgB (pR (spR c) (n % 8)) = cv c n := by unfold cv; rw [if_pos h]
theorem ue {c n : Int} (h : ¬ (c = -4 ∨ c = 8 ∨ c = -8)) : kr n c = cv c n := by unfold cv; rw [if_neg h]
theorem KC {b : Bool} (h : b = true) : (1 : Int) = sgB b := by rw [h]; rfl
theorem KD {b : Bool} (h : b = false) : (-1 : Int) = sgB b := by rw [h]; rfl
theorem FI {fo fs : FuncId} {p : Int} (h : 3 ≤ p) (ho : p % 2 = 1) : [IC p, DV.fn fo [.ip [IC p]]] = chC fo fs p := by
 unfold chC chF
 rw [if_neg (by omega)]
theorem M2 (a b : Int) : Int.gcd b (a.tmod b) = Int.gcd a b := by
 have h1 : (a.tmod b).natAbs = a.natAbs % b.natAbs := Int.natAbs_tmod a b
 unfold Int.gcd
 rw [h1, Nat.gcd_comm b.natAbs, ← Nat.gcd_rec, Nat.gcd_comm]
def ocM (n p : Int) : Nat := if 1 < n then (5000 - p).toNat else 0
def RI (n p q : Int) (out out' : List Int) : Prop := (q = n ∧ p * p > n ∧ out' = out ++ [n]) ∨ (q = p ∧ ¬ p * p > n ∧ n % p = 0 ∧ out' = out ++ [p]) ∨ (q = p ∧ ¬ p * p > n ∧ n % p ≠ 0 ∧ out' = out)
def QI (n p q : Int) : Prop := (q = n ∧ p * p > n) ∨ (q = p ∧ ¬ p * p > n)
section
variable {n0 n p q : Int} {out out' : List Int}
theorem OcI.q3 (i : OcI n0 n p out) (hn : n > 1) (h : QI n p q) : 3 ≤ q ∧ q % 2 = 1 ∧ q ≤ 4194304 := by
 have h1 := i.nn; have h2 := i.po; have h3 := i.p3; have h4 := i.nb; have h5 := i.pb hn
 rcases h with ⟨rfl, _⟩ | ⟨rfl, _⟩
 ·omega
 omega
theorem QI.yes (h : QI n p q) (hd : n % q = 0) : RI n p q out (out ++ [q]) := by
 rcases h with ⟨rfl, g⟩ | ⟨rfl, g⟩
 ·exact .inl ⟨rfl, g, rfl⟩
 exact .inr (.inl ⟨rfl, g, hd, rfl⟩)
theorem QI.no (h : QI n p q) (hn : n > 1) (hd : n % q ≠ 0) : RI n p q out out := by
 rcases h with ⟨rfl, g⟩ | ⟨rfl, g⟩
 ·exact absurd Int.emod_self hd
 exact .inr (.inr ⟨rfl, g, hd, rfl⟩)
theorem OcI.close (i : OcI n0 n p out) (hn : n > 1) (h : RI n p q out out') : OcI n0 (rmp n q) (q + 2) out' ∧ ocM (rmp n q) (q + 2) < ocM n p := by
 have hp := i.pb hn
 have e1 : ocM n p = (5000 - p).toNat := by unfold ocM; rw [if_pos (by omega)]
 rcases h with ⟨rfl, g, rfl⟩ | ⟨rfl, g, hd, rfl⟩ | ⟨rfl, g, hd, rfl⟩
 ·rw [AZ (by omega)]
  refine ⟨i.last hn g, ?_⟩
  rw [e1]; unfold ocM; rw [if_neg (by omega)]; omega
 ·refine ⟨i.take hn g hd, ?_⟩
  rw [e1]; unfold ocM; split <;> omega
 rw [kR hd]
 refine ⟨i.next hn g hd, ?_⟩
 rw [e1]; unfold ocM; rw [if_pos (by omega)]; omega
end
theorem Kt {d : Int} (h : d.tmod 4 ≠ 0) : spC d = [] := by
 unfold spC
 rw [if_pos]
 intro e
 exact h (by rw [Int.tmod_eq_emod]; split <;> omega)
theorem om {d : Int} (h : d.tmod 4 = 0) : ¬ d % 4 ≠ 0 := fun e => by
 have := Int.mul_tdiv_add_tmod d 4
 omega
theorem LY {d : Int} (h : d.tmod 4 ≠ 0) : kE (rmp (-d) 2) = chs d := by unfold chs; rw [Kt h, List.append_nil]
theorem ni {d : Int} {l : List Int} (_h : d.tmod 4 = 0) (e : l = spC d) : kE (rmp (-d) 2) ++ l = chs d := by unfold chs; rw [e]
section
variable {d : Int} (h : d.tmod 4 = 0)
include h
theorem Kx (h1 : -d / 4 % 8 = 0) : [-4, 8] = spC d := by unfold spC; rw [if_neg (om h), if_pos h1]
theorem wC (h0 : ¬ -d / 4 % 8 = 0) (h1 : -d / 4 % 8 = 1 ∨ -d / 4 % 8 = 4 ∨ -d / 4 % 8 = 5) : [-4] = spC d := by unfold spC; rw [if_neg (om h), if_neg h0, if_pos h1]
theorem Kw (h1 : -d / 4 % 8 = 2) : [-8] = spC d := by unfold spC; rw [if_neg (om h), if_neg (by omega), if_neg (by omega), if_pos h1]
theorem Kv (h1 : -d / 4 % 8 = 6) : [8] = spC d := by unfold spC; rw [if_neg (om h), if_neg (by omega), if_neg (by omega), if_neg (by omega), if_pos h1]
theorem Ku (h0 : ¬ -d / 4 % 8 = 0) (h1 : ¬ -d / 4 % 8 = 1) (h4 : ¬ -d / 4 % 8 = 4) (h5 : ¬ -d / 4 % 8 = 5) (h2 : ¬ -d / 4 % 8 = 2) (h6 : ¬ -d / 4 % 8 = 6) : kE (rmp (-d) 2) = chs d := by
 have : spC d = [] := by
  unfold spC; rw [if_neg (om h), if_neg h0, if_neg (by omega), if_neg h2, if_neg h6]
 unfold chs; rw [this, List.append_nil]
end
end
section
open Go Go.RowKit
theorem EP {n p : Int} (hp : 3 ≤ p) (hn : 0 < n) (h : n % p = 0) : 3 * rmp n p ≤ n := by
 have hd := iR hn (by omega) h
 obtain ⟨h1, h2, _, _⟩ := gD (p := p) (by omega) (n / p).toNat (n / p) (Nat.le_refl _) hd.1
 rw [jI (by omega) hn h] at h1 h2
 have h3 := Int.mul_ediv_add_emod n p
 rw [h, Int.add_zero] at h3
 have h4 : 3 * (n / p) ≤ p * (n / p) := Int.mul_le_mul_of_nonneg_right hp (by omega)
 omega
theorem xA : ∀ (f : Nat) (p n : Int), 3 ≤ p → 1 ≤ n → n % 2 = 1 → (3 : Int) ^ (gGo f p n).length ≤ n
 | 0, p, n, _, hn, _ => by simpa [gGo] using hn
 | f + 1, p, n, hp, hn, ho => by
  unfold gGo
  split
  ·split
   ·next h =>
    obtain ⟨r1, _, _, _⟩ := gD (p := p) (by omega) n.toNat n (Nat.le_refl _) (by omega)
    have ih := xA f (p + 2) (rmp n p) (by omega) (by omega) (pz hp (by omega) ho)
    have h3 := EP hp (by omega) h
    rw [List.length_cons, Int.pow_succ]
    omega
   exact xA f (p + 2) n (by omega) hn ho
  split
  ·show (3 : Int) ^ 1 ≤ n; omega
  show (3 : Int) ^ 0 ≤ n; omega
theorem Mv {n : Int} (h : 0 < n) : 0 < rmp n 2 ∧ rmp n 2 ≤ n ∧ rmp n 2 % 2 = 1 := by
 obtain ⟨h1, h2, h3, _⟩ := gD (p := 2) (by omega) n.toNat n (Nat.le_refl _) h
 exact ⟨h1, h2, by omega⟩
theorem nj {d : Int} (h0 : d < 0) (h1 : -4194304 ≤ d) : (chs d).length ≤ 16 := by
 obtain ⟨r1, r2, r3⟩ := Mv (n := -d) (by omega)
 have h3 := xA 1200 3 (rmp (-d) 2) (by omega) (by omega) r3
 have hl : (kE (rmp (-d) 2)).length ≤ 14 := by
  have e : (kE (rmp (-d) 2)) = gGo 1200 3 (rmp (-d) 2) := rfl
  rw [e]
  rcases Nat.lt_or_ge 14 (gGo 1200 3 (rmp (-d) 2)).length with g | g
  ·have h4 : (3 : Nat) ^ 15 ≤ 3 ^ (gGo 1200 3 (rmp (-d) 2)).length := Nat.pow_le_pow_right (by omega) g
   have h5 : ((3 ^ (gGo 1200 3 (rmp (-d) 2)).length : Nat) : Int) ≤ rmp (-d) 2 := by rw [Int.natCast_pow]; exact h3
   omega
  exact g
 have hs : (spC d).length ≤ 2 := by
  unfold spC
  split
  ·simp
  split
  ·simp
  split
  ·simp
  split
  ·simp
  split <;> simp
 unfold chs
 rw [List.length_append]; omega
def gnV (d : Int) : Int := if szE d = 0 then d else 0
theorem Jq {d : Int} (h : 0 ≤ d ∨ d % 4 > 1) : AV.t [PE 0, PE 5] = .t [PE (gnV d), PE (szE d)] := by
 have e : szE d = 5 := by unfold szE; rw [if_pos h]
 unfold gnV; rw [e]; rfl
theorem Jr {d : Int} (h : ¬ (0 ≤ d ∨ d % 4 > 1)) (h1 : -d > 4194304) : AV.t [PE 0, PE 2] = .t [PE (gnV d), PE (szE d)] := by
 have e : szE d = 2 := by unfold szE; rw [if_neg h, if_pos h1]
 unfold gnV; rw [e]; rfl
theorem MZ {d : Int} (h : ¬ (0 ≤ d ∨ d % 4 > 1)) (h1 : ¬ -d > 4194304) : AV.t [PE d, PE 0] = .t [PE (gnV d), PE (szE d)] := by
 have e : szE d = 0 := by unfold szE; rw [if_neg h, if_neg h1]
 unfold gnV; rw [e]; rfl
theorem rH {d : Int} (h : szE d = 0) : gnV d = d ∧ d < 0 ∧ -4194304 ≤ d := by
 have := wz h
 exact ⟨by unfold gnV; rw [if_pos h], by omega, by omega⟩
def chE (d : Int) : List Int := if szE d = 0 then chs d else []
theorem DF {d : Int} (h : szE d = 0) : chE d = chs d := by unfold chE; rw [if_pos h]
theorem L1 {d : Int} (h : ¬ szE d = 0) : chE d = [] := by unfold chE; rw [if_neg h]
theorem qb {l : List Int} {k : Nat} (h : (k : Int) < l.length) : l.take k ++ [l.getD k 0] = l.take (k + 1) := by
 have hk : k < l.length := by omega
 rw [List.take_add_one, List.getElem?_eq_getElem hk]
 simp [List.getD, hk]
theorem r6 {l : List Int} {k : Nat} (h : ¬ (k : Int) < l.length) : l.take k = l := List.take_of_length_le (by omega)
end
section
open Go Go.RowKit
def ggV : Nat → Int → Int → Int
 | 0, a, _ => a
 | f + 1, a, b => if b = 0 then a else ggV f b (a.tmod b)
def gg (a b : Int) : Int := ggV (b.natAbs + 1) a b
theorem vY : ∀ (f : Nat) (a b : Int), b.natAbs < f → (ggV f a b).natAbs = Int.gcd a b
 | 0, _, _, h => by omega
 | f + 1, a, b, h => by
  unfold ggV
  split
  ·next e => subst e; simp
  next e =>
  have h1 : (a.tmod b).natAbs = a.natAbs % b.natAbs := Int.natAbs_tmod a b
  have h2 : a.natAbs % b.natAbs < b.natAbs := Nat.mod_lt _ (by omega)
  rw [vY f b (a.tmod b) (by omega), M2]
theorem tQ : ∀ (f g : Nat) (a b : Int), b.natAbs < f → b.natAbs < g → ggV f a b = ggV g a b
 | 0, _, _, _, h, _ => by omega
 | _ + 1, 0, _, _, _, h => by omega
 | f + 1, g + 1, a, b, h, h' => by
  unfold ggV
  split
  ·rfl
  next e =>
  have h1 : (a.tmod b).natAbs = a.natAbs % b.natAbs := Int.natAbs_tmod a b
  have h2 : a.natAbs % b.natAbs < b.natAbs := Nat.mod_lt _ (by omega)
  exact tQ f g b (a.tmod b) (by omega) (by omega)
theorem oX (a b : Int) : (gg a b).natAbs = Int.gcd a b := vY _ a b (by omega)
theorem M1 {a b : Int} (h : b = 0) : gg a b = a := by unfold gg ggV; rw [if_pos h]
theorem Gq {a b : Int} (h : b ≠ 0) : gg b (a.tmod b) = gg a b := by
 have h1 : (a.tmod b).natAbs = a.natAbs % b.natAbs := Int.natAbs_tmod a b
 have h2 : a.natAbs % b.natAbs < b.natAbs := Nat.mod_lt _ (by omega)
 unfold gg
 rw [tQ _ b.natAbs b (a.tmod b) (by omega) (by omega)]
 show _ = (if b = 0 then a else ggV b.natAbs b (a.tmod b))
 rw [if_neg h]
theorem gg_one {a b : Int} : Int.gcd a b = 1 ↔ gg a b = 1 ∨ gg a b = -1 := by have := oX a b; omega
theorem HQ {a b : Int} (_ha : bp a) (hb : bp b) (h : b ≠ 0) : bp (a.tmod b) ∧ (a.tmod b).natAbs < b.natAbs := by
 have h1 : (a.tmod b).natAbs = a.natAbs % b.natAbs := Int.natAbs_tmod a b
 have h2 : a.natAbs % b.natAbs < b.natAbs := Nat.mod_lt _ (by omega)
 unfold bp at *
 omega
def gpE (f : Fm) : Int := if ck f.a f.b f.c ≠ 0 then ck f.a f.b f.c else if szE (dsc f.a f.b f.c) ≠ 0 then szE (dsc f.a f.b f.c) else if prim f.a f.b f.c = true then 0 else 80
theorem tO {f : Fm} (h : gpE f = 0) : Cl (dsc f.a f.b f.c) f ∧ szE (dsc f.a f.b f.c) = 0 := by
 unfold gpE at h
 split at h
 ·next g => exact absurd h g
 next g1 =>
 split at h
 ·next g => exact absurd h g
 next g2 =>
 split at h
 ·next g3 =>
  have e1 : ck f.a f.b f.c = 0 := Classical.not_not.1 g1
  have e2 : szE (dsc f.a f.b f.c) = 0 := Classical.not_not.1 g2
  refine ⟨H5 ?_, e2⟩
  unfold rfE
  have := (wz e2)
  rw [if_neg (fun x => x e1), if_neg (by omega), if_pos g3]
 cases h
def gpV (f : Fm) : Int := if gpE f = 0 then dsc f.a f.b f.c else 0
theorem ke {d : Int} {f : Fm} (h : Cl d f) (_hd : -4194304 ≤ d) (hE : szE d = 0) : gpE f = 0 := by
 have h1 := zC h
 unfold rfE at h1
 unfold gpE
 rw [h.disc, hE]
 split at h1
 ·next g => exact absurd h1 g
 next g => rw [if_neg g, if_neg (by simp), if_pos h.prim]
theorem gb {a b c x y : Int} (ha : 0 ≤ a ∧ a ≤ 2000) (hb : -2000 ≤ b ∧ b ≤ 2000) (hc : 0 ≤ c ∧ c ≤ 1400000) (hx : 0 ≤ x ∧ x ≤ 1400001) (hy : 0 ≤ y ∧ y ≤ 1400001) :
  (0 ≤ a * x ∧ a * x ≤ 2800002000) ∧ (0 ≤ a * x * x ∧ a * x * x ≤ 3920005600002000) ∧ (-2800002000 ≤ b * x ∧ b * x ≤ 2800002000) ∧ (-3920005600002000 ≤ b * x * y ∧ b * x * y ≤ 3920005600002000) ∧ (0 ≤ c * y ∧ c * y ≤ 1960001400000) ∧ (0 ≤ c * y * y ∧ c * y * y ≤ 2744003920001400000) := by
 have m1 : ∀ {u v A B : Int}, 0 ≤ u → u ≤ A → 0 ≤ v → v ≤ B → 0 ≤ u * v ∧ u * v ≤ A * B := fun h1 h2 h3 h4 => ⟨Int.mul_nonneg h1 h3, Int.mul_le_mul h2 h4 h3 (by omega)⟩
 have a1 := m1 ha.1 ha.2 hx.1 hx.2
 have a2 := m1 a1.1 a1.2 hx.1 hx.2
 have c1 := m1 hc.1 hc.2 hy.1 hy.2
 have c2 := m1 c1.1 c1.2 hy.1 hy.2
 have nb : ∀ {u v A B : Int}, -A ≤ u → u ≤ A → 0 ≤ v → v ≤ B → 0 ≤ A → -(A * B) ≤ u * v ∧ u * v ≤ A * B := fun {u v A B} h1 h2 h3 h4 h5 => by
  rcases Int.lt_or_le u 0 with g | g
  ·have := m1 (show 0 ≤ -u by omega) (show -u ≤ A by omega) h3 h4
   rw [Int.neg_mul] at this
   have := Int.mul_nonneg h5 (show 0 ≤ B by omega)
   omega
  have := m1 g h2 h3 h4
  have := Int.mul_nonneg h5 (show 0 ≤ B by omega)
  omega
 have b1 := nb (u := b) (v := x) (A := 2000) (B := 1400001) (by omega) hb.2 hx.1 hx.2 (by omega)
 have b2 := nb (u := b * x) (v := y) (A := 2800002000) (B := 1400001) (by omega) (by omega) hy.1 hy.2 (by omega)
 refine ⟨by omega, by omega, by omega, by omega, by omega, by omega⟩
theorem sE {d : Int} {g : Fm} (hg : Cl d g) (e : g.rd = g) (hd : -4194304 ≤ d) : (0 < g.a ∧ g.a ≤ 2000) ∧ (-2000 ≤ g.b ∧ g.b ≤ 2000) ∧ 0 < g.c ∧ g.c ≤ 1400000 := by
 have hr : Rd g := e ▸ hg.rd_Rd
 have h1 := hr.a; have h2 := hr.b; have h3 := hr.c
 have hdd : g.b * g.b - 4 * g.a * g.c = d := hg.disc
 rw [Int.mul_assoc] at hdd
 have hb : g.b * g.b ≤ g.a * g.a := fO (by omega)
 have hac : g.a * g.a ≤ g.a * g.c := Int.mul_le_mul_of_nonneg_left h3 (by omega)
 have ha : g.a ≤ 2000 := by
  rcases Int.lt_or_le 2000 g.a with g0 | g0
  ·have := Int.mul_le_mul g0 g0 (by omega) (by omega); omega
  exact g0
 have hc1 : 1 * g.c ≤ g.a * g.c := Int.mul_le_mul_of_nonneg_right (by omega) (by omega)
 exact ⟨⟨h1, ha⟩, by omega, by omega, by omega⟩
def NoP (g : Fm) (d : Int) (y : Int) : Prop := ∀ u v : Int, 0 ≤ u → 0 ≤ v → u < y → v < y → Int.gcd (vl g.a g.b g.c u v) (2 * d) ≠ 1
def NoX (g : Fm) (d : Int) (y x : Int) : Prop := ∀ u : Int, 0 ≤ u → u < x → Int.gcd (vl g.a g.b g.c u y) (2 * d) ≠ 1 ∧ Int.gcd (vl g.a g.b g.c y u) (2 * d) ≠ 1
def RpN (g : Fm) (N : Int) : Prop := ∃ u v : Int, N = vl g.a g.b g.c u v
theorem NoP.start {g : Fm} {d : Int} (hd : d < 0) : NoP g d 1 := fun u v h1 h2 h3 h4 => by
 have e1 : u = 0 := by omega
 have e2 : v = 0 := by omega
 subst e1 e2
 have : vl g.a g.b g.c 0 0 = 0 := by unfold vl; simp
 rw [this]
 show Nat.gcd 0 (2 * d).natAbs ≠ 1
 rw [Nat.gcd_zero_left]; omega
theorem NoX.start {g : Fm} {d y : Int} : NoX g d y 0 := fun u h1 h2 => by omega
theorem NoX.next {g : Fm} {d y x : Int} (h : NoX g d y x) (h1 : Int.gcd (vl g.a g.b g.c x y) (2 * d) ≠ 1) (h2 : Int.gcd (vl g.a g.b g.c y x) (2 * d) ≠ 1) : NoX g d y (x + 1) := fun u g1 g2 => by
 rcases Int.lt_or_eq_of_le (show u ≤ x by omega) with q | q
 ·exact h u g1 q
 rw [q]; exact ⟨h1, h2⟩
theorem NoP.next {g : Fm} {d y : Int} (h : NoP g d y) (h1 : NoX g d y (y + 1)) : NoP g d (y + 1) := fun u v g1 g2 g3 g4 => by
 rcases Int.lt_or_eq_of_le (show u ≤ y by omega) with q | q
 ·rcases Int.lt_or_eq_of_le (show v ≤ y by omega) with q2 | q2
  ·exact h u v g1 g2 q q2
  rw [q2]; exact (h1 u g1 (by omega)).1
 rw [q]; exact (h1 v g2 (by omega)).2
theorem NoP.le {g : Fm} {d y : Int} (h : NoP g d y) {B : Int} (hx : ∃ x y : Int, 0 ≤ x ∧ x ≤ B ∧ 0 ≤ y ∧ y ≤ B ∧ Int.gcd (vl g.a g.b g.c x y) (2 * d) = 1) : y ≤ B := by
 obtain ⟨u, v, h1, h2, h3, h4, h5⟩ := hx
 rcases Int.lt_or_le B y with q | q
 ·exact absurd h5 (h u v h1 h3 (by omega) (by omega))
 exact q
end
section
open Go Go.RowKit
section ops
end ops
end
section
open Go Go.RowKit
end
section
open Go Go.RowKit
section scope
end scope
end
section
open Go Go.RowKit
end
section
open Go Go.RowKit
end
section
open Go Go.RowKit
end
section
open Go Go.RowKit
theorem bm {x y : Int} {M N : Nat} (hx : x.natAbs ≤ M) (hy : y.natAbs ≤ N) : (x * y).natAbs ≤ M * N := by rw [Int.natAbs_mul]; exact Nat.mul_le_mul hx hy
theorem Ey : ∀ b : Fin 256, ((cX b.val).a.natAbs ≤ 17 ∧ (cX b.val).b.natAbs ≤ 17) ∧ (cX b.val).c.natAbs ≤ 17 ∧ (cX b.val).d.natAbs ≤ 17 := by decide +kernel
theorem rT {a b c x y : Int} (ha : a.natAbs ≤ 25) (hb : b.natAbs ≤ 25) (hc : c.natAbs ≤ 3000) (hx : x.natAbs ≤ 17) (hy : y.natAbs ≤ 17) : (vl a b c x y).natAbs ≤ 881450 := by
 unfold vl
 have h1 := bm (bm ha hx) hx
 have h2 := bm (bm hb hx) hy
 have h3 := bm (bm hc hy) hy
 omega
theorem zM {a b c p q r s : Int} (ha : a.natAbs ≤ 25) (hb : b.natAbs ≤ 25) (hc : c.natAbs ≤ 3000) (hp : p.natAbs ≤ 17) (hq : q.natAbs ≤ 17) (hr : r.natAbs ≤ 17) (hs : s.natAbs ≤ 17) : (apB a b c p q r s).natAbs ≤ 1763000 := by
 unfold apB
 have h1 := bm (bm ha hp) hq
 have h2 := bm (bm hc hr) hs
 have h3 := bm hp hs
 have h4 := bm hq hr
 have h5 := bm hb (show (p * s + q * r).natAbs ≤ 578 by omega)
 omega
theorem yS {D i m : Nat} (hm : m < 256) : (mkF D i m).a.natAbs ≤ 1763000 ∧ (mkF D i m).b.natAbs ≤ 1763000 ∧ (mkF D i m).c.natAbs ≤ 1763000 := by
 obtain ⟨h1, h2, h3, h4, _⟩ := gE D i
 have h5 := Do D i
 have ha : (pik D i).a.natAbs ≤ 25 := by omega
 have hb : (pik D i).b.natAbs ≤ 25 := by omega
 have hc : (pik D i).c.natAbs ≤ 3000 := by omega
 obtain ⟨⟨ta, tb⟩, tc, td⟩ := Ey ⟨m, hm⟩
 unfold mkF
 split
 ·exact ⟨by omega, by omega, by omega⟩
 exact ⟨Nat.le_trans (rT ha hb hc ta tc) (by decide), zM ha hb hc ta tb tc td, Nat.le_trans (rT ha hb hc tb td) (by decide)⟩
theorem IZ {D i m : Nat} (hm : m < 256) : L 5 (mkF D i m).a ∧ L 5 (mkF D i m).b ∧ L 5 (mkF D i m).c := by
 have h := yS (D := D) (i := i) hm
 exact ⟨by unfold L; omega, by unfold L; omega, by unfold L; omega⟩
theorem IY {D i m : Nat} (hm : m < 256) : L 6 (mkF D i m).a ∧ L 6 (mkF D i m).b ∧ L 6 (mkF D i m).c := by
 have h := IZ (D := D) (i := i) hm
 exact ⟨h.1.mono (by decide), h.2.1.mono (by decide), h.2.2.mono (by decide)⟩
end
section
open Go Go.RowKit
theorem IX (D i m : Nat) : Cl (-szz D) (mkF D i m) := by
 refine ⟨FT D i m, ?_, FU D i m⟩
 have h := (gE D i).2.2.2.2.2.2
 unfold mkF
 split
 ·exact h
 rw [← nR (pik D i) (m := cX m) (by rw [nZ]; rfl)]; exact h
theorem Dd (D : Nat) : -1000000000000000000 ≤ -szz D ∧ -szz D < 0 := by have := dU D; omega
end
section
open Go Go.RowKit
theorem pU {c : Int} : ∀ (f : Nat) (p n : Int), 3 ≤ p → p % 2 = 1 → 1 ≤ n → n % 2 = 1 → c ∈ gGo f p n → 3 ≤ c ∧ c % 2 = 1 ∧ c ∣ n
 | 0, _, _, _, _, _, _, h => by simp [gGo] at h
 | f + 1, p, n, hp, hpo, hn, ho, h => by
  unfold gGo at h
  split at h
  ·split at h
   ·next e =>
    obtain ⟨r1, r2, r3, k, r4⟩ := gD (p := p) (by omega) n.toNat n (Nat.le_refl _) (by omega)
    rcases List.mem_cons.1 h with h | h
    ·subst h; exact ⟨hp, hpo, Int.dvd_of_emod_eq_zero e⟩
    obtain ⟨g1, g2, g3⟩ := pU f (p + 2) (rmp n p) (by omega) (by omega) (by omega) (pz hp (by omega) ho) h
    exact ⟨g1, g2, Int.dvd_trans g3 ⟨_, r4⟩⟩
   exact pU f (p + 2) n (by omega) (by omega) hn ho h
  split at h
  ·next e =>
   rw [List.mem_singleton] at h; subst h
   exact ⟨by omega, ho, Int.dvd_refl _⟩
  simp at h
theorem to {d c : Int} (h0 : d < 0) (h : c ∈ kE (rmp (-d) 2)) : 3 ≤ c ∧ c % 2 = 1 ∧ c ∣ d := by
 obtain ⟨r1, r2, r3, k, r4⟩ := gD (p := 2) (by omega) (-d).toNat (-d) (Nat.le_refl _) (by omega)
 obtain ⟨g1, g2, g3⟩ := pU 1200 3 (rmp (-d) 2) (by omega) (by omega) (by omega) (by omega) h
 refine ⟨g1, g2, ?_⟩
 have : c ∣ -d := Int.dvd_trans g3 ⟨_, r4⟩
 exact Int.dvd_neg.1 this
theorem vi {d c : Int} (h : c ∈ spC d) : d % 4 = 0 ∧ ((c = -4 ∧ ((-d / 4) % 8 = 0 ∨ (-d / 4) % 8 = 1 ∨ (-d / 4) % 8 = 4 ∨ (-d / 4) % 8 = 5)) ∨ (c = 8 ∧ ((-d / 4) % 8 = 0 ∨ (-d / 4) % 8 = 6)) ∨ (c = -8 ∧ (-d / 4) % 8 = 2)) := by
 unfold spC at h
 split at h
 ·simp at h
 next h4 =>
 refine ⟨Classical.not_not.1 h4, ?_⟩
 split at h
 ·next e => simp only [List.mem_cons, List.not_mem_nil, or_false] at h; rcases h with rfl | rfl <;> simp [e]
 split at h
 ·next e => simp only [List.mem_cons, List.not_mem_nil, or_false] at h; subst h; left; exact ⟨rfl, .inr e⟩
 split at h
 ·next e => simp only [List.mem_cons, List.not_mem_nil, or_false] at h; subst h; right; right; exact ⟨rfl, e⟩
 split at h
 ·next e => simp only [List.mem_cons, List.not_mem_nil, or_false] at h; subst h; right; left; exact ⟨rfl, .inr e⟩
 simp at h
def spv (c r : Int) : Int := sgB (pR (spR c) r)
theorem jj {c n : Int} (h : c = -4 ∨ c = 8 ∨ c = -8) : cv c n = spv c (n % 8) := (DC h).symm
theorem ng (n : Int) : ∃ r : Fin 8, n % 8 = (r.val : Int) := ⟨⟨(n % 8).toNat, by omega⟩, by show n % 8 = (((n % 8).toNat : Nat) : Int); omega⟩
theorem G0 (a b c x1 y1 x2 y2 : Int) : 4 * (vl a b c x1 y1 * vl a b c x2 y2) = (2 * a * x1 * x2 + b * (x1 * y2 + x2 * y1) + 2 * c * y1 * y2) * (2 * a * x1 * x2 + b * (x1 * y2 + x2 * y1) + 2 * c * y1 * y2) - (b * b - 4 * a * c) * ((x1 * y2 - x2 * y1) * (x1 * y2 - x2 * y1)) := by
 unfold vl; grind
theorem vZ {N d : Int} (h : Int.gcd N (2 * d) = 1) : N % 2 = 1 := by
 have h1 : Cop N (2 * d) := h
 have h2 : Cop (2 * d) N := h1.symm
 have h3 : Cop 2 N := h2.left
 have h4 : Cop N 2 := h3.symm
 rcases (show N % 2 = 0 ∨ N % 2 = 1 by omega) with g | g
 ·exfalso
  have hd : (2 : Int) ∣ N := Int.dvd_of_emod_eq_zero g
  have h5 : Int.gcd N 2 = 1 := h4
  have h6 := Int.dvd_gcd hd (Int.dvd_refl 2)
  rw [h5] at h6
  exact absurd h6 (by decide)
 exact g
theorem v6 {N d c : Int} (h : Int.gcd N (2 * d) = 1) (hc : c ∣ d) : Cop N c := by
 obtain ⟨k, hk⟩ := hc
 have h1 : Cop N (2 * d) := h
 have h2 : Cop (2 * d) N := h1.symm
 have h3 : Cop d N := h2.right
 rw [hk] at h3
 exact h3.left.symm
theorem Du {N c : Int} (hc : 0 < c) (ho : c % 2 = 1) (h : Cop N c) : kr N c = 1 ∨ kr N c = -1 := by
 rw [iZ hc ho, if_pos h]; exact DL N
theorem HT : ∀ (r s u v m : Fin 8), r.val % 2 = 1 → s.val % 2 = 1 → (r.val * s.val % 8 = (u.val * u.val + m.val * (v.val * v.val)) % 8) →
  ((m.val = 0 ∨ m.val = 1 ∨ m.val = 4 ∨ m.val = 5) → spv (-4) r.val = spv (-4) s.val) ∧ ((m.val = 0 ∨ m.val = 6) → spv 8 r.val = spv 8 s.val) ∧ (m.val = 2 → spv (-8) r.val = spv (-8) s.val) := by decide +kernel
theorem JN {d : Int} {g : Fm} {c M N : Int} (hd : d < 0) (hg : dsc g.a g.b g.c = d) (hM : RpN g M) (hN : RpN g N) (cM : Int.gcd M (2 * d) = 1) (cN : Int.gcd N (2 * d) = 1) (hc : c ∈ chs d) : cv c M = cv c N := by
 obtain ⟨x1, y1, rfl⟩ := hM
 obtain ⟨x2, y2, rfl⟩ := hN
 have oM := vZ cM
 have oN := vZ cN
 have two := G0 g.a g.b g.c x1 y1 x2 y2
 have hdd : g.b * g.b - 4 * g.a * g.c = d := hg
 rw [hdd] at two
 unfold chs at hc
 rcases List.mem_append.1 hc with h | h
 ·obtain ⟨c3, co, cd⟩ := to hd h
  have cpM := v6 cM cd
  have cpN := v6 cN cd
  generalize vl g.a g.b g.c x1 y1 = M at *
  generalize vl g.a g.b g.c x2 y2 = N at *
  generalize (2 * g.a * x1 * x2 + g.b * (x1 * y2 + x2 * y1) + 2 * g.c * y1 * y2) = U at two
  generalize (x1 * y2 - x2 * y1) * (x1 * y2 - x2 * y1) = V at two
  have hUU : c ∣ U * U - 4 * (M * N) := by
   have e : U * U - 4 * (M * N) = d * V := by omega
   rw [e]; exact Int.dvd_trans cd ⟨V, rfl⟩
  have c2 : Cop 2 c := kZ co
  have c4 : Cop (2 * 2) c := c2.mul c2
  have c4MN : Cop (4 * (M * N)) c := c4.mul (cpM.mul cpN)
  have cUU : Cop (U * U) c := fT (n := c) (a := 4 * (M * N)) (b := U * U) (by
   have e : 4 * (M * N) - U * U = -(U * U - 4 * (M * N)) := by omega
   rw [e]; exact Int.dvd_neg.2 hUU) c4MN
  have k1 : kr (U * U) c = 1 := y5 (by omega) co cUU.left
  have k2 : kr (U * U) c = kr (4 * (M * N)) c := y6 (by omega) co hUU
  have k3 : kr (4 * (M * N)) c = kr (2 * 2) c * (kr M c * kr N c) := by
   rw [show 4 * (M * N) = 2 * 2 * (M * N) from rfl, da (a := 2 * 2) (b := M * N) (by omega) co, da (a := M) (b := N) (by omega) co]
  have k4 : kr (2 * 2) c = 1 := y5 (by omega) co c2
  rw [← ue (by omega), ← ue (by omega)]
  rw [k1, k3, k4, Int.one_mul] at k2
  rcases Du (by omega) co cpM with e1 | e1 <;> rcases Du (by omega) co cpN with e2 | e2 <;> rw [e1, e2] at k2 <;> rw [e1, e2] <;> omega
 obtain ⟨h4, hs⟩ := vi h
 have hb : g.b % 2 = 0 := by
  rcases (show g.b % 2 = 0 ∨ g.b % 2 = 1 by omega) with q | q
  ·exact q
  exfalso
  obtain ⟨t, ht⟩ : ∃ t, g.b = 2 * t + 1 := ⟨g.b / 2, by omega⟩
  have e1 : g.b * g.b = 4 * (t * t + t) + 1 := by rw [ht]; grind
  rw [Int.mul_assoc] at hdd
  omega
 obtain ⟨t, ht⟩ : ∃ t, g.b = 2 * t := ⟨g.b / 2, by omega⟩
 obtain ⟨m, hm⟩ : ∃ m, d = -(4 * m) := ⟨-d / 4, by omega⟩
 have em : -d / 4 = m := by omega
 rw [em] at hs
 have eU : 2 * g.a * x1 * x2 + g.b * (x1 * y2 + x2 * y1) + 2 * g.c * y1 * y2 = 2 * (g.a * x1 * x2 + t * (x1 * y2 + x2 * y1) + g.c * y1 * y2) := by rw [ht]; grind
 rw [eU] at two
 generalize vl g.a g.b g.c x1 y1 = M at *
 generalize vl g.a g.b g.c x2 y2 = N at *
 generalize g.a * x1 * x2 + t * (x1 * y2 + x2 * y1) + g.c * y1 * y2 = U at two
 generalize x1 * y2 - x2 * y1 = V at two
 have eMN : M * N = U * U + m * (V * V) := by
  have e1 : 2 * U * (2 * U) = 4 * (U * U) := by grind
  have e2 : d * (V * V) = -(4 * (m * (V * V))) := by rw [hm]; grind
  omega
 obtain ⟨r, er⟩ := ng M
 obtain ⟨s, es⟩ := ng N
 obtain ⟨u, eu⟩ := ng U
 obtain ⟨v, ev⟩ := ng V
 obtain ⟨q, eq⟩ := ng m
 have key : ((r.val * s.val : Nat) : Int) % 8 = ((u.val * u.val + q.val * (v.val * v.val) : Nat) : Int) % 8 := by
  have h1 : (M * N) % 8 = ((r.val * s.val : Nat) : Int) % 8 := by rw [Int.mul_emod, er, es, Int.natCast_mul]
  have h2 : (U * U + m * (V * V)) % 8 = ((u.val * u.val + q.val * (v.val * v.val) : Nat) : Int) % 8 := by
   obtain ⟨U', hU⟩ : ∃ k, U = 8 * k + (u.val : Int) := ⟨U / 8, by omega⟩
   obtain ⟨V', hV⟩ : ∃ k, V = 8 * k + (v.val : Int) := ⟨V / 8, by omega⟩
   obtain ⟨m', hm'⟩ : ∃ k, m = 8 * k + (q.val : Int) := ⟨m / 8, by omega⟩
   simp only [Int.natCast_add, Int.natCast_mul]
   generalize (u.val : Int) = u' at hU ⊢
   generalize (v.val : Int) = v' at hV ⊢
   generalize (q.val : Int) = q' at hm' ⊢
   have e : U * U + m * (V * V) = 8 * (8 * U' * U' + 2 * U' * u' + m' * (V * V) + q' * (8 * V' * V' + 2 * V' * v')) + (u' * u' + q' * (v' * v')) := by rw [hU, hm', hV]; grind
   rw [e]
   generalize 8 * U' * U' + 2 * U' * u' + m' * (V * V) + q' * (8 * V' * V' + 2 * V' * v') = K
   generalize u' * u' + q' * (v' * v') = R
   omega
  rw [← h1, eMN, h2]
 have key2 : r.val * s.val % 8 = (u.val * u.val + q.val * (v.val * v.val)) % 8 := by omega
 have k := HT r s u v q (by omega) (by omega) key2
 rw [eq] at hs
 rcases hs with ⟨rfl, h5⟩ | ⟨rfl, h5⟩ | ⟨rfl, h5⟩
 ·rw [jj (by simp), jj (by simp), er, es]; exact k.1 (by omega)
 ·rw [jj (by simp), jj (by simp), er, es]; exact k.2.1 (by omega)
 rw [jj (by simp), jj (by simp), er, es]; exact k.2.2 (by omega)
end
section
open Go Go.RowKit
section
variable {f : Fm}
theorem MY (h : ¬ ck f.a f.b f.c = 0) : AV.t [PE 0, PE (ck f.a f.b f.c)] = .t [PE (gpV f), PE (gpE f)] := by
 have e : gpE f = ck f.a f.b f.c := by unfold gpE; rw [if_pos h]
 unfold gpV; rw [e, if_neg h]
theorem MX (h : ck f.a f.b f.c = 0) (h1 : szE (dsc f.a f.b f.c) = 0) (h2 : prim f.a f.b f.c = false) : AV.t [PE 0, PE 80] = .t [PE (gpV f), PE (gpE f)] := by
 have e : gpE f = 80 := by unfold gpE; rw [if_neg (fun x => x h), if_neg (fun x => x h1), if_neg (by rw [h2]; decide)]
 unfold gpV; rw [e]; rfl
theorem MW (h : ck f.a f.b f.c = 0) (h1 : szE (dsc f.a f.b f.c) = 0) (h2 : prim f.a f.b f.c = true) : AV.t [PE (gnV (dsc f.a f.b f.c)), PE (szE (dsc f.a f.b f.c))] = .t [PE (gpV f), PE (gpE f)] := by
 have e : gpE f = 0 := by unfold gpE; rw [if_neg (fun x => x h), if_neg (fun x => x h1), if_pos h2]
 unfold gpV gnV; rw [e, h1]
theorem MV (h : ck f.a f.b f.c = 0) (h1 : ¬ szE (dsc f.a f.b f.c) = 0) : AV.t [PE (gnV (dsc f.a f.b f.c)), PE (szE (dsc f.a f.b f.c))] = .t [PE (gpV f), PE (gpE f)] := by
 have e : gpE f = szE (dsc f.a f.b f.c) := by unfold gpE; rw [if_neg (fun x => x h), if_pos h1]
 unfold gpV gnV; rw [e, if_neg h1]
end
def gN (f : Fm) (d : Int) : Int := (f.rd.app (cpM f.rd (2 * d))).a
theorem LI {d : Int} {f : Fm} (hf : Cl d f) (hd : -4194304 ≤ d) (h0 : d < 0) : RpN f.rd (gN f d) ∧ Int.gcd (gN f d) (2 * d) = 1 := by
 have hp := hf.rd.prim
 have h1 := (LV (f := f.rd) (a := 2 * d) hp (by omega) (by omega)).1
 exact ⟨⟨_, _, rfl⟩, (JO h1).2⟩
def gvL (f : Fm) : List Int := if gpE f = 0 then (chs (dsc f.a f.b f.c)).map (fun c => cv c (gN f (dsc f.a f.b f.c))) else []
theorem zf {d N : Int} {f : Fm} (hf : Cl d f) (hd : -4194304 ≤ d) (h0 : d < 0) (hE : szE d = 0) (hN : RpN f.rd N) (cN : Int.gcd N (2 * d) = 1) : (chs d).map (fun c => cv c N) = gvL f := by
 unfold gvL
 rw [if_pos (ke hf hd hE), hf.disc]
 have hg := LI hf hd h0
 exact List.map_congr_left fun c hc => JN h0 hf.rd.disc hN hg.1 cN hg.2 hc
theorem KK {d N : Int} {g : Fm} (hg : Cl d g) (hN : RpN g N) (h0 : d < 0) : 0 ≤ N := by
 obtain ⟨x, y, rfl⟩ := hN
 have ha := hg.pos.1
 have hd : g.b * g.b - 4 * g.a * g.c = d := hg.disc
 have e : 4 * g.a * vl g.a g.b g.c x y = (2 * g.a * x + g.b * y) * (2 * g.a * x + g.b * y) - d * (y * y) := by rw [← hd]; unfold vl; grind
 have h1 := cI (2 * g.a * x + g.b * y)
 have h2 := Int.mul_nonneg (show 0 ≤ -d by omega) (cI y)
 rw [Int.neg_mul] at h2
 rcases Int.lt_or_le (vl g.a g.b g.c x y) 0 with q | q
 ·have h3 : 4 * g.a * vl g.a g.b g.c x y < 0 := Int.mul_neg_of_pos_of_neg (by omega) q
  omega
 exact q
theorem xJ {d c : Int} (h0 : d < 0) (hd : -4194304 ≤ d) (h : c ∈ chs d) : -8 ≤ c ∧ c ≤ 4194304 := by
 unfold chs at h
 rcases List.mem_append.1 h with h | h
 ·obtain ⟨h1, h2, h3⟩ := to h0 h
  have h4 : c ∣ -d := Int.dvd_neg.2 h3
  have := Int.le_of_dvd (by omega) h4
  omega
 rcases (vi h).2 with ⟨rfl, _⟩ | ⟨rfl, _⟩ | ⟨rfl, _⟩ <;> omega
section
variable {P : Program}
variable {dst : Option Nat} {ty : TypeId} {pos : String} {af : Array Edge} {gd : Option (Nat × Bool)} {d : Nat} {ρ : Operand → AV} {own : Own}
theorem Eff.callCh {fo fs : FuncId} {c0 N : Int} {c x : Operand} {tys : Array TypeId} (hx : ρ c = .p (.c (chF fo fs c0))) (hN : ρ x = .p (.c (.v (.int .i64 N))))
  (h1 : aI P fs [.p (.c (.v (.int .i64 N))), .ip [IS (spR c0)]] (.p (.c (.v (.int .i64 (sgB (pR (spR c0) (N % 8)))))))) (h2 : aI P fo [.p (.c (.v (.int .i64 N))), .ip [IC c0]] (.p (.c (.v (.int .i64 (kr N c0)))))) :
  Eff P ⟨dst, .call ⟨.value c, #[x], tys⟩, ty, pos, af, gd⟩ d ρ own (.p (.c (.v (.int .i64 (cv c0 N))))) [] none [] := by
 by_cases h : c0 = -4 ∨ c0 = 8 ∨ c0 = -8
 ·rw [← DC h]
  have e : chF fo fs c0 = .fn fs ([[IS (spR c0)]].map .ip) := by unfold chF; rw [if_pos h]; rfl
  rw [e] at hx
  exact Eff.callD hx (by simpa [hN] using h1)
 rw [← ue h]
 have e : chF fo fs c0 = .fn fo ([[IC c0]].map .ip) := by unfold chF; rw [if_neg h]; rfl
 rw [e] at hx
 exact Eff.callD hx (by simpa [hN] using h2)
end
theorem Bw {l : List Int} {k : Nat} {N : Int} (h : (k : Int) < l.length) : (l.take k).map (fun c => cv c N) ++ [cv (l.getD k 0) N] = (l.take (k + 1)).map (fun c => cv c N) := by
 rw [← qb h, List.map_append]; rfl
theorem gg1 {n d : Int} (h : ((gg n (2 * d)).natAbs : Int) = 1) : Int.gcd n (2 * d) = 1 := by rw [← oX]; omega
theorem Jt {n d : Int} (h : ((gg n (2 * d)).natAbs : Int) ≠ 1) : Int.gcd n (2 * d) ≠ 1 := by rw [← oX]; omega
theorem Kl (a b c x y : Int) : a * y * y + b * x * y + c * x * x = vl a b c y x := by unfold vl; grind
theorem LG {f : Fm} (h : ¬ gpE f = 0) : gvL f = [] := by unfold gvL; rw [if_neg h]
theorem Js {n d : Int} (h0 : d < 0) (hd : -4194304 ≤ d) : -9223372036854775808 < gg n (2 * d) ∧ gg n (2 * d) ≤ 9223372036854775807 := by
 have h1 := oX n (2 * d)
 have h2 : Int.gcd n (2 * d) ≤ (2 * d).natAbs := Nat.le_of_dvd (by omega) (Nat.gcd_dvd_right _ _)
 omega
theorem qT {l : List Int} {k : Nat} (h : (k : Int) < l.length) : l.getD k 0 ∈ l := by
 have hk : k < l.length := by omega
 have e : l.getD k 0 = l[k] := by simp [List.getD, hk]
 rw [e]; exact List.getElem_mem hk
end
section
open Go Go.RowKit
structure EqI (l m : List Int) (k : Nat) : Prop where
 le : k ≤ l.length
 eq : ∀ j, j < k → l.getD j 0 = m.getD j 0
section
variable {l m : List Int} {k : Nat}
theorem EqI.start : EqI l m 0 := ⟨Nat.zero_le _, fun j h => by omega⟩
theorem EqI.next (h : EqI l m k) (hk : (k : Int) < l.length) (e : l.getD k 0 = m.getD k 0) : EqI l m (k + 1) :=
 ⟨by omega, fun j hj => by
  rcases Nat.lt_or_eq_of_le (show j ≤ k by omega) with g | g
  ·exact h.eq j g
  rw [g]; exact e⟩
theorem EqI.yes (h : EqI l m k) (hl : (l.length : Int) = m.length) (hk : ¬ (k : Int) < l.length) : true = decide (l = m) := by
 refine (decide_eq_true ?_).symm
 refine List.ext_getElem (by omega) fun j h1 h2 => ?_
 have := h.eq j (by omega)
 simpa [List.getD, h1, h2] using this
theorem EqI.no (e : ¬ l.getD k 0 = m.getD k 0) : false = decide (l = m) := (decide_eq_false (fun x => e (by rw [x]))).symm
theorem EqI.ln (e : ¬ (l.length : Int) = m.length) : false = decide (l = m) := (decide_eq_false (fun x => e (by rw [x]))).symm
end
def gsE (f g : Fm) : Int := if gpE f ≠ 0 then gpE f else if gpE g ≠ 0 then gpE g else if dsc f.a f.b f.c ≠ dsc g.a g.b g.c then 5 else 0
def gsB (f g : Fm) : Bool := if gsE f g = 0 then decide (gvL f = gvL g) else false
section
variable {f g : Fm}
theorem MU (h : ¬ gpE f = 0) : AV.t [PB false, PE (gpE f)] = .t [PB (gsB f g), PE (gsE f g)] := by
 have e : gsE f g = gpE f := by unfold gsE; rw [if_pos h]
 unfold gsB; rw [e, if_neg h]
theorem MT (h : gpE f = 0) (h1 : ¬ gpE g = 0) : AV.t [PB false, PE (gpE g)] = .t [PB (gsB f g), PE (gsE f g)] := by
 have e : gsE f g = gpE g := by unfold gsE; rw [if_neg (fun x => x h), if_pos h1]
 unfold gsB; rw [e, if_neg h1]
theorem MS (h : gpE f = 0) (h1 : gpE g = 0) (h2 : dsc f.a f.b f.c ≠ dsc g.a g.b g.c) : AV.t [PB false, PE 5] = .t [PB (gsB f g), PE (gsE f g)] := by
 have e : gsE f g = 5 := by unfold gsE; rw [if_neg (fun x => x h), if_neg (fun x => x h1), if_pos h2]
 unfold gsB; rw [e]; rfl
theorem MR (h : gpE f = 0) (h1 : gpE g = 0) (h2 : dsc f.a f.b f.c = dsc g.a g.b g.c) : AV.t [PB (decide (gvL f = gvL g)), PE 0] = .t [PB (gsB f g), PE (gsE f g)] := by
 have e : gsE f g = 0 := by unfold gsE; rw [if_neg (fun x => x h), if_neg (fun x => x h1), if_neg (fun x => x h2)]
 unfold gsB; rw [e, if_pos rfl]
end
theorem Gm (f : Fm) : ((gvL f).length : Int) ≤ 1000000 := by
 unfold gvL
 split
 ·next h =>
  obtain ⟨h1, h2⟩ := tO h
  obtain ⟨_, h3, h4⟩ := rH h2
  rw [List.length_map]
  have := nj h3 h4
  omega
 simp
end
section
open Go Go.RowKit
section
end
section
end
end
section
open Go Go.RowKit
section
end
section
end
end
section
open Go Go.RowKit
end
section
open Go Go.RowKit
theorem Ia {D : Int} {f : Fm} {N : Int} (hf : Cl D f) (h : RpN f N) : RpN f.rd N := by
 obtain ⟨u, v, hv⟩ := h
 obtain ⟨m, hm, em⟩ := mb hf.pos
 have e3 : f.rd.app m.adj = f := by rw [em, li hm]
 have e4 := G4 f.rd m.adj u v
 rw [e3] at e4
 exact ⟨_, _, hv.trans e4⟩
theorem pn (D : Nat) : szE (-szz D) = 0 := by
 have h := dU D
 unfold szE
 rw [if_neg (by omega), if_neg (by omega)]
end
section
open Go Go.RowKit
section
variable {D : Int} {f g h : Fm}
structure Whole (D : Int) (l : List Fm) : Prop where
 nd : l.Nodup
 mem : ∀ f, f ∈ l ↔ Cl D f ∧ f.rd = f
theorem Whole.rd {l : List Fm} (w : Whole D l) (hf : Cl D f) : f.rd ∈ l := (w.mem _).2 ⟨hf.rd, hf.rd_rd⟩
theorem tu {α : Type} [DecidableEq α] : ∀ {l m : List α}, l.Nodup → (∀ x ∈ l, x ∈ m) → l.length ≤ m.length
 | [], m, _, _ => Nat.zero_le _
 | x :: l, m, hn, hs => by
  rw [List.nodup_cons] at hn
  have hx := hs x (List.mem_cons_self ..)
  have h1 : l.length ≤ (m.erase x).length := tu hn.2 (fun y hy => by
   have hne : y ≠ x := fun e => hn.1 (e ▸ hy)
   exact (List.mem_erase_of_ne hne).2 (hs y (List.mem_cons_of_mem _ hy)))
  have h2 := List.length_erase_of_mem hx
  have h3 := List.length_pos_of_mem hx
  rw [List.length_cons]; omega
end
end
section
open Go Go.RowKit
theorem qJ {n a b : Int} : ∀ {k : Nat} {c : Int}, c ≤ b → b < c + k → okF n a b = true → (⟨a, b, (b * b + n) / (4 * a)⟩ : Fm) ∈ dS n a k c
 | 0, c, h1, h2, _ => by omega
 | k + 1, c, h1, h2, h3 => by
  unfold dS
  rw [List.mem_append]
  rcases Int.lt_or_eq_of_le h1 with g | g
  ·exact .inr (qJ (by omega) (by omega) h3)
  subst g
  rw [if_pos h3]
  exact .inl (List.mem_singleton.2 rfl)
theorem qK {n a b : Int} (hb : -a ≤ b ∧ b ≤ a) (hs : 3 * a * a ≤ n) (hk : okF n a b = true) : ∀ {k : Nat} {c : Int}, 1 ≤ c → c ≤ a → a < c + k → (⟨a, b, (b * b + n) / (4 * a)⟩ : Fm) ∈ dp n k c
 | 0, c, _, h1, h2 => by omega
 | k + 1, c, h0, h1, h2 => by
  have hc : 3 * c * c ≤ n := by
   have : c * c ≤ a * a := Int.mul_le_mul h1 h1 (by omega) (by omega)
   have e1 : 3 * c * c = 3 * (c * c) := Int.mul_assoc ..
   have e2 : 3 * a * a = 3 * (a * a) := Int.mul_assoc ..
   omega
  unfold dp
  rw [if_pos hc, List.mem_append]
  rcases Int.lt_or_eq_of_le h1 with g | g
  ·exact .inr (qK hb hs hk (by omega) (by omega) (by omega))
  subst g
  exact .inl (qJ hb.1 (by omega) hk)
theorem nC {n a : Int} : ∀ (k : Nat) (b : Int), (dS n a k b).Nodup
 | 0, _ => List.Pairwise.nil
 | k + 1, b => by
  unfold dS
  have ih := nC k (b + 1) (n := n) (a := a)
  split
  ·rw [List.singleton_append, List.nodup_cons]
   refine ⟨fun hm => ?_, ih⟩
   obtain ⟨b', h1, _, _, h4⟩ := jg hm
   have := congrArg Fm.b h4
   simp only at this
   omega
  exact ih
theorem nD {n : Int} : ∀ (k : Nat) (a : Int), 1 ≤ a → (dp n k a).Nodup
 | 0, _, _ => List.Pairwise.nil
 | k + 1, a, ha => by
  unfold dp
  split
  ·rw [List.nodup_append]
   refine ⟨nC _ _, nD k (a + 1) (by omega), fun x hx y hy e => ?_⟩
   subst e
   obtain ⟨b', _, _, _, h4⟩ := jg hx
   have h5 : ∀ {k : Nat} {c : Int}, 1 ≤ c → x ∈ dp n k c → c ≤ x.a := by
    intro k
    induction k with
    | zero => intro c _ h; simp [dp] at h
    | succ k ih =>
     intro c hc h
     unfold dp at h
     split at h
     ·rw [List.mem_append] at h
      rcases h with h | h
      ·obtain ⟨_, _, _, _, h6⟩ := jg h
       rw [h6]; exact Int.le_refl _
      have := ih (by omega) h; omega
     simp at h
   have h6 := h5 (by omega) hy
   rw [h4] at h6
   simp only at h6
   omega
  exact List.Pairwise.nil
theorem yY (n : Int) : (lst n).Nodup := nD 100 1 (by omega)
theorem LR {a b c n : Int} (ha : 0 < a) (h : dsc a b c = -n) : (b * b + n) % (4 * a) = 0 ∧ (b * b + n) / (4 * a) = c := by
 unfold dsc at h
 have e : b * b + n = 4 * a * c := by omega
 rw [e]
 exact ⟨Int.mul_emod_right .., Int.mul_ediv_cancel_left _ (by omega)⟩
theorem Rd.sq3 {f : Fm} {n : Int} (h : Rd f) (hd : dsc f.a f.b f.c = -n) : 3 * f.a * f.a ≤ n := by
 have h1 := h.a
 have h2 := h.b
 have h3 := h.c
 unfold dsc at hd
 have e1 : 4 * f.a * f.c = 4 * (f.a * f.c) := Int.mul_assoc ..
 have e2 : 3 * f.a * f.a = 3 * (f.a * f.a) := Int.mul_assoc ..
 have h4 : f.a * f.a ≤ f.a * f.c := Int.mul_le_mul_of_nonneg_left h3 (by omega)
 have h5 : f.b * f.b ≤ f.a * f.a := fO (by omega)
 omega
theorem yX {n : Int} (hn : n ≤ 20000) : Whole (-n) (lst n) := by
 refine ⟨yY n, fun f => ⟨fun hm => ?_, fun h => ?_⟩⟩
 ·obtain ⟨h1, h2, h3, h4, h5, h6, h7⟩ := vT hm
  have hp : f.pos := ⟨by omega, by show dsc _ _ _ < 0; have h8 : 1 * 1 ≤ f.a * f.a := Int.mul_le_mul h1 h1 (by omega) (by omega); have e : 3 * f.a * f.a = 3 * (f.a * f.a) := Int.mul_assoc ..; omega⟩
  exact ⟨⟨hp, h7, h5⟩, sF (Rd.of (by omega) h6) hp⟩
 have hr : Rd f := h.2 ▸ h.1.rd_Rd
 have hd := h.1.disc
 have ha := hr.a
 have hb := hr.b
 obtain ⟨e1, e2⟩ := LR ha hd
 have hs := hr.sq3 hd
 have hk : okF n f.a f.b = true := by
  rw [oS e1, e2, h.1.prim, Bool.and_true]
  exact (mP h.1.pos).2 ⟨hr.b, hr.c, hr.s⟩
 have ha2 : f.a ≤ 100 := by
  rcases Int.lt_or_le 100 f.a with g | g
  ·have h3 : (101 : Int) * 101 ≤ f.a * f.a := Int.mul_le_mul (by omega) (by omega) (by omega) (by omega)
   have e : 3 * f.a * f.a = 3 * (f.a * f.a) := Int.mul_assoc ..
   omega
  exact g
 have hm := qK (n := n) (a := f.a) (b := f.b) (by omega) hs hk (k := 100) (c := 1) (by omega) (by omega) (by omega)
 rw [e2] at hm
 exact hm
end
section
open Go Go.RowKit
section
variable {d : Int} {f g : Fm}
theorem Jo (hf : Cl d f) (hg : Cl d g) (hd : -4194304 ≤ d) (hE : szE d = 0) : gsB f g = decide (gvL f = gvL g) ∧ gsE f g = 0 := by
 have e : gsE f g = 0 := by
  unfold gsE
  rw [if_neg (fun x => x (ke hf hd hE)), if_neg (fun x => x (ke hg hd hE)), if_neg (fun x => x (hf.disc.trans hg.disc.symm))]
 exact ⟨by unfold gsB; rw [e, if_pos rfl], e⟩
end
end
section
open Go Go.RowKit
theorem I3 : ∀ k : Fin 50, (lst (4 * (0 + k.val) + 3)).length ≤ 199 ∧ (lst (4 * (0 + k.val) + 4)).length ≤ 199 := by decide +kernel
theorem FX : ∀ k : Fin 50, (lst (4 * (50 + k.val) + 3)).length ≤ 199 ∧ (lst (4 * (50 + k.val) + 4)).length ≤ 199 := by decide +kernel
theorem BF : ∀ k : Fin 50, (lst (4 * (100 + k.val) + 3)).length ≤ 199 ∧ (lst (4 * (100 + k.val) + 4)).length ≤ 199 := by decide +kernel
theorem BE : ∀ k : Fin 50, (lst (4 * (150 + k.val) + 3)).length ≤ 199 ∧ (lst (4 * (150 + k.val) + 4)).length ≤ 199 := by decide +kernel
theorem BD : ∀ k : Fin 50, (lst (4 * (200 + k.val) + 3)).length ≤ 199 ∧ (lst (4 * (200 + k.val) + 4)).length ≤ 199 := by decide +kernel
theorem BC : ∀ k : Fin 50, (lst (4 * (250 + k.val) + 3)).length ≤ 199 ∧ (lst (4 * (250 + k.val) + 4)).length ≤ 199 := by decide +kernel
theorem BB : ∀ k : Fin 50, (lst (4 * (300 + k.val) + 3)).length ≤ 199 ∧ (lst (4 * (300 + k.val) + 4)).length ≤ 199 := by decide +kernel
theorem BA : ∀ k : Fin 50, (lst (4 * (350 + k.val) + 3)).length ≤ 199 ∧ (lst (4 * (350 + k.val) + 4)).length ≤ 199 := by decide +kernel
theorem Bz : ∀ k : Fin 50, (lst (4 * (400 + k.val) + 3)).length ≤ 199 ∧ (lst (4 * (400 + k.val) + 4)).length ≤ 199 := by decide +kernel
theorem By : ∀ k : Fin 50, (lst (4 * (450 + k.val) + 3)).length ≤ 199 ∧ (lst (4 * (450 + k.val) + 4)).length ≤ 199 := by decide +kernel
theorem Bx : ∀ k : Fin 1, (lst (4 * (500 + k.val) + 3)).length ≤ 199 ∧ (lst (4 * (500 + k.val) + 4)).length ≤ 199 := by decide +kernel
theorem FY {n : Int} (h1 : 3 ≤ n) (h2 : n ≤ 2003) (h : n % 4 = 0 ∨ n % 4 = 3) : (lst n).length ≤ 199 := by
 have key : ∀ k : Nat, k < 501 → (lst (4 * (k : Int) + 3)).length ≤ 199 ∧ (lst (4 * (k : Int) + 4)).length ≤ 199 := by
  intro k hk
  by_cases c0 : k < 50
  ·have h := I3 ⟨k - 0, by omega⟩
   have e : (0 : Int) + ((k - 0 : Nat) : Int) = (k : Int) := by omega
   rw [e] at h; exact h
  by_cases c50 : k < 100
  ·have h := FX ⟨k - 50, by omega⟩
   have e : (50 : Int) + ((k - 50 : Nat) : Int) = (k : Int) := by omega
   rw [e] at h; exact h
  by_cases c100 : k < 150
  ·have h := BF ⟨k - 100, by omega⟩
   have e : (100 : Int) + ((k - 100 : Nat) : Int) = (k : Int) := by omega
   rw [e] at h; exact h
  by_cases c150 : k < 200
  ·have h := BE ⟨k - 150, by omega⟩
   have e : (150 : Int) + ((k - 150 : Nat) : Int) = (k : Int) := by omega
   rw [e] at h; exact h
  by_cases c200 : k < 250
  ·have h := BD ⟨k - 200, by omega⟩
   have e : (200 : Int) + ((k - 200 : Nat) : Int) = (k : Int) := by omega
   rw [e] at h; exact h
  by_cases c250 : k < 300
  ·have h := BC ⟨k - 250, by omega⟩
   have e : (250 : Int) + ((k - 250 : Nat) : Int) = (k : Int) := by omega
   rw [e] at h; exact h
  by_cases c300 : k < 350
  ·have h := BB ⟨k - 300, by omega⟩
   have e : (300 : Int) + ((k - 300 : Nat) : Int) = (k : Int) := by omega
   rw [e] at h; exact h
  by_cases c350 : k < 400
  ·have h := BA ⟨k - 350, by omega⟩
   have e : (350 : Int) + ((k - 350 : Nat) : Int) = (k : Int) := by omega
   rw [e] at h; exact h
  by_cases c400 : k < 450
  ·have h := Bz ⟨k - 400, by omega⟩
   have e : (400 : Int) + ((k - 400 : Nat) : Int) = (k : Int) := by omega
   rw [e] at h; exact h
  by_cases c450 : k < 500
  ·have h := By ⟨k - 450, by omega⟩
   have e : (450 : Int) + ((k - 450 : Nat) : Int) = (k : Int) := by omega
   rw [e] at h; exact h
  by_cases c500 : k < 501
  ·have h := Bx ⟨k - 500, by omega⟩
   have e : (500 : Int) + ((k - 500 : Nat) : Int) = (k : Int) := by omega
   rw [e] at h; exact h
  omega
 obtain ⟨k, hk⟩ : ∃ k : Nat, n = 4 * (k : Int) + 3 ∨ n = 4 * (k : Int) + 4 := ⟨((n - 3) / 4).toNat, by omega⟩
 rcases hk with e | e
 ·rw [e]; exact (key k (by omega)).1
 rw [e]; exact (key k (by omega)).2
end
section
open Go Go.RowKit
end
section
open Go Go.RowKit
section
end
end
section
open Go Go.RowKit
end
section
open Go Go.RowKit
theorem rS {D : Int} {l : List Fm} (w : Whole D l) (hD : -1000000000000000000 ≤ D) : ∀ g ∈ l, L 6 g.a ∧ L 6 g.b ∧ L 6 g.c := fun g hg => H6 ((w.mem g).1 hg).1 ((w.mem g).1 hg).2 hD
section
end
end
section
open Go Go.RowKit
end
section
open Go Go.RowKit
section
end
end
section
open Go Go.RowKit
def frq (D n b : Int) : Fm := ⟨n, b, (b * b - D) / (4 * n)⟩
def isR (D n b : Int) : Bool := decide (b * b % (4 * n) = D % (4 * n)) && prim n b ((b * b - D) / (4 * n))
def rbL (D n : Int) : List Int := ((List.range (2 * n).toNat).map fun (i : Nat) => (i : Int)).filter (isR D n)
theorem rbL_mem {D n b : Int} : b ∈ rbL D n ↔ (0 ≤ b ∧ b < 2 * n) ∧ isR D n b = true := by
 unfold rbL
 rw [List.mem_filter, List.mem_map]
 constructor
 ·rintro ⟨⟨i, h1, rfl⟩, h2⟩
  rw [List.mem_range] at h1
  exact ⟨by omega, h2⟩
 rintro ⟨⟨h1, h2⟩, h3⟩
 exact ⟨⟨b.toNat, by rw [List.mem_range]; omega, by omega⟩, h3⟩
theorem za {D n b : Int} (h : isR D n b = true) : b * b - D = 4 * n * ((b * b - D) / (4 * n)) := by
 unfold isR at h
 rw [Bool.and_eq_true, decide_eq_true_iff] at h
 have h1 : (4 * n) ∣ (b * b - D) := Int.dvd_of_emod_eq_zero (Int.emod_eq_emod_iff_emod_sub_eq_zero.1 h.1)
 exact (Int.mul_ediv_cancel' h1).symm
theorem o3 {D n b : Int} (hn : 0 < n) (hD : D < 0) (h : isR D n b = true) : Cl D (frq D n b) := by
 have e := za h
 unfold isR at h
 rw [Bool.and_eq_true] at h
 have hd : dsc n b ((b * b - D) / (4 * n)) = D := by
  unfold dsc
  generalize (b * b - D) / (4 * n) = c at *
  omega
 exact ⟨⟨hn, by show dsc _ _ _ < 0; rw [show dsc (frq D n b).a (frq D n b).b (frq D n b).c = D from hd]; exact hD⟩, h.2, hd⟩
theorem JT {D : Int} {f : Fm} (h : Cl D f) : isR D f.a f.b = true ∧ frq D f.a f.b = f := by
 have ha : 0 < f.a := h.pos.1
 have e : f.b * f.b - D = 4 * f.a * f.c := by have := h.disc; unfold dsc at this; omega
 have e2 : (f.b * f.b - D) / (4 * f.a) = f.c := by rw [e]; exact Int.mul_ediv_cancel_left _ (by omega)
 refine ⟨?_, ?_⟩
 ·unfold isR
  rw [Bool.and_eq_true, decide_eq_true_iff, e2]
  refine ⟨?_, h.prim⟩
  rw [Int.emod_eq_emod_iff_emod_sub_eq_zero, e]
  exact Int.mul_emod_right _ _
 unfold frq; rw [e2]
theorem A2 {D n x y : Int} {f : Fm} (h : Cl D f) (hg : Int.gcd x y = 1) (hv : vl f.a f.b f.c x y = n) :
  ∃ (b : Int) (M : Mt), b ∈ rbL D n ∧ M.det = 1 ∧ M.a = x ∧ M.c = y ∧ f.app M = frq D n b := by
 have hb : bzU x y * x + bzV x y * y = 1 := by
  have := rr y.natAbs x y (Nat.le_refl _)
  rw [hg] at this
  unfold bzV
  by_cases hy : y = 0
  ·subst hy
   rw [if_pos rfl]
   unfold bzU
   rw [if_pos rfl]
   have hx : x.natAbs = 1 := by simpa using hg
   unfold sgn
   rcases Int.natAbs_eq x with e | e <;> rw [hx] at e <;> subst e <;> decide
  rw [if_neg hy, hg]
  have hd : y ∣ (1 : Int) - bzU x y * x := by
   unfold bzU
   rw [if_neg hy, hg, show y / ((1 : Nat) : Int) = y from Int.ediv_one y]
   have h1 : (xg y.natAbs x y).1 % y = (xg y.natAbs x y).1 - y * ((xg y.natAbs x y).1 / y) := Int.emod_def _ _
   rw [h1]
   refine ⟨(xg y.natAbs x y).2 + ((xg y.natAbs x y).1 / y) * x, ?_⟩
   generalize (xg y.natAbs x y).1 / y = q at *
   generalize (xg y.natAbs x y).1 = u at *
   generalize (xg y.natAbs x y).2 = v at *
   have e : u * x + v * y = 1 := this
   grind
  have := Int.ediv_mul_cancel hd
  have e : ((1 : Nat) : Int) = 1 := rfl
  rw [e]; omega
 have hM : (⟨x, -bzV x y, y, bzU x y⟩ : Mt).det = 1 := by unfold Mt.det; grind
 have hc := h.app hM
 have ha : (f.app ⟨x, -bzV x y, y, bzU x y⟩).a = n := hv
 have hn : 0 < n := by rw [← ha]; exact hc.pos.1
 generalize hF : f.app ⟨x, -bzV x y, y, bzU x y⟩ = F at *
 generalize -bzV x y = p at *
 generalize bzU x y = q at *
 have hT : (Mt.T (-(F.b / (2 * n)))).det = 1 := by unfold Mt.T Mt.det; simp
 have hc2 := hc.app hT
 have e2 := xO F (-(F.b / (2 * n)))
 have eb : (F.app (.T (-(F.b / (2 * n))))).b = F.b % (2 * n) := by
  rw [e2, ha, Int.emod_def]
  show F.b + 2 * n * -(F.b / (2 * n)) = _
  grind
 have ea : (F.app (.T (-(F.b / (2 * n))))).a = n := by rw [e2]; exact ha
 obtain ⟨g1, g2⟩ := JT hc2
 rw [ea, eb] at g1 g2
 refine ⟨F.b % (2 * n), (⟨x, p, y, q⟩ : Mt).mul (.T (-(F.b / (2 * n)))), rbL_mem.2 ⟨⟨Int.emod_nonneg _ (by omega), Int.emod_lt_of_pos _ (by omega)⟩, g1⟩, by rw [fF, hM, hT]; rfl, ?_, ?_, ?_⟩
 ·simp [Mt.mul, Mt.T]
 ·simp [Mt.mul, Mt.T]
 rw [← fI, hF, g2]
theorem sB {D n b b' : Int} {f : Fm} {M N : Mt} (hn : 0 < n) (hb : 0 ≤ b ∧ b < 2 * n) (hb' : 0 ≤ b' ∧ b' < 2 * n) (hM : M.det = 1) (hN : N.det = 1) (ea : M.a = N.a) (ec : M.c = N.c)
  (eM : f.app M = frq D n b) (eN : f.app N = frq D n b') : M = N ∧ b = b' := by
 obtain ⟨a, p, c, q⟩ := M
 obtain ⟨a', p', c', q'⟩ := N
 simp only at ea ec
 subst ea; subst ec
 have h1 : a * q - p * c = 1 := hM
 have h2 : a * q' - p' * c = 1 := hN
 obtain ⟨k, hk⟩ : ∃ k, k = p' * q - p * q' := ⟨_, rfl⟩
 have hp : p' = p + a * k := by rw [hk]; grind
 have hq : q' = q + c * k := by rw [hk]; grind
 have eB : apB f.a f.b f.c a p c q = b := congrArg Fm.b eM
 have eB' : apB f.a f.b f.c a p' c q' = b' := congrArg Fm.b eN
 have eA : vl f.a f.b f.c a c = n := congrArg Fm.a eM
 have e3 : b' = b + 2 * n * k := by
  rw [← eB', ← eB, ← eA, hp, hq]; unfold apB vl; grind
 have hk0 : k = 0 := by
  have h5 : 2 * n * k < 2 * n := by omega
  have h6 : -(2 * n) < 2 * n * k := by omega
  rcases Int.lt_trichotomy k 0 with g | g | g
  ·have : 2 * n * k ≤ 2 * n * (-1) := Int.mul_le_mul_of_nonneg_left (by omega) (by omega)
   omega
  ·exact g
  have : 2 * n * 1 ≤ 2 * n * k := Int.mul_le_mul_of_nonneg_left (by omega) (by omega)
  omega
 rw [hk0] at hp hq e3
 refine ⟨?_, by omega⟩
 simp only [Mt.mk.injEq]
 exact ⟨trivial, by omega, trivial, by omega⟩
def auM (g : Fm) (t u : Int) : Mt := ⟨(t - g.b * u) / 2, -g.c * u, g.a * u, (t + g.b * u) / 2⟩
theorem J0 {D t u : Int} {g : Fm} (h : dsc g.a g.b g.c = D) (e : t * t - D * (u * u) = 4) : (t - g.b * u) % 2 = 0 := by
 have e1 : t * t - (g.b * u) * (g.b * u) = 4 - 4 * (g.a * g.c * (u * u)) := by
  have : D * (u * u) = (g.b * u) * (g.b * u) - 4 * (g.a * g.c * (u * u)) := by rw [← h]; unfold dsc; grind
  omega
 generalize g.b * u = s at *
 generalize g.a * g.c * (u * u) = r at *
 have ht : t % 2 = 0 ∨ t % 2 = 1 := by omega
 have hs : s % 2 = 0 ∨ s % 2 = 1 := by omega
 rcases ht with ht | ht <;> rcases hs with hs | hs
 ·omega
 ·obtain ⟨p, hp⟩ : ∃ p, t = 2 * p := ⟨t / 2, by omega⟩
  obtain ⟨q, hq⟩ : ∃ q, s = 2 * q + 1 := ⟨s / 2, by omega⟩
  have : t * t - s * s = 4 * (p * p) - 4 * (q * q + q) - 1 := by rw [hp, hq]; grind
  omega
 ·obtain ⟨p, hp⟩ : ∃ p, t = 2 * p + 1 := ⟨t / 2, by omega⟩
  obtain ⟨q, hq⟩ : ∃ q, s = 2 * q := ⟨s / 2, by omega⟩
  have : t * t - s * s = 4 * (p * p + p) + 1 - 4 * (q * q) := by rw [hp, hq]; grind
  omega
 omega
theorem nq {D t u : Int} {g : Fm} (h : dsc g.a g.b g.c = D) (e : t * t - D * (u * u) = 4) : ∃ p s, (auM g t u) = ⟨p, -g.c * u, g.a * u, s⟩ ∧ t = p + s ∧ g.b * u = s - p := by
 have h1 := J0 h e
 refine ⟨(t - g.b * u) / 2, (t + g.b * u) / 2, rfl, ?_, ?_⟩ <;> omega
theorem zL {D t u : Int} {g : Fm} (h : dsc g.a g.b g.c = D) (e : t * t - D * (u * u) = 4) : (auM g t u).det = 1 := by
 obtain ⟨p, s, e1, e2, e3⟩ := nq h e
 rw [e1]
 unfold dsc at h
 unfold Mt.det
 have e4 : (p + s) * (p + s) - (s - p) * (s - p) + 4 * (g.a * g.c) * (u * u) = 4 := by
  rw [← e2, ← e3]; grind
 have e5 : 4 * (p * s) + 4 * (g.a * g.c) * (u * u) = 4 := by grind
 show p * s - -g.c * u * (g.a * u) = 1
 have e6 : -g.c * u * (g.a * u) = -(g.a * g.c * (u * u)) := by grind
 rw [e6]
 have e7 : 4 * (g.a * g.c) * (u * u) = 4 * (g.a * g.c * (u * u)) := by grind
 omega
theorem J1 {D t u : Int} {g : Fm} (h : dsc g.a g.b g.c = D) (e : t * t - D * (u * u) = 4) : g.app (auM g t u) = g := by
 have hd := zL h e
 obtain ⟨p, s, e1, e2, e3⟩ := nq h e
 rw [e1] at hd ⊢
 have hd' : p * s + g.a * g.c * (u * u) = 1 := by unfold Mt.det at hd; grind
 obtain ⟨a, b, c⟩ := g
 simp only at *
 unfold Fm.app vl apB
 simp only [Fm.mk.injEq]
 have hb : s = p + b * u := by omega
 subst hb
 refine ⟨?_, ?_, ?_⟩ <;> grind
theorem J2 {D : Int} {g : Fm} {N : Mt} (h : Cl D g) (hN : N.det = 1) (e : g.app N = g) : ∃ t u, t * t - D * (u * u) = 4 ∧ N = auM g t u := by
 obtain ⟨p, q, r, s⟩ := N
 obtain ⟨a, b, c⟩ := g
 have h1 : p * s - q * r = 1 := hN
 have k1 : vl a b c p r = a := congrArg Fm.a e
 have k2 : apB a b c p q r s = b := congrArg Fm.b e
 have k3 : vl a b c q s = c := congrArg Fm.c e
 unfold vl at k1 k3
 unfold apB at k2
 have m1 : a * (s - p) = b * r := by
  have : s * (2 * (a * p * p + b * p * r + c * r * r)) - r * (2 * (a * p * q + c * r * s) + b * (p * s + q * r)) = (2 * a * p + b * r) * (p * s - q * r) := by grind
  rw [k1, k2, h1] at this
  grind
 have m2 : a * q = -(c * r) := by
  have : p * (2 * (a * p * q + c * r * s) + b * (p * s + q * r)) - q * (2 * (a * p * p + b * p * r + c * r * r)) = (b * p + 2 * c * r) * (p * s - q * r) := by grind
  rw [k1, k2, h1] at this
  grind
 have m3 : c * (p - s) = b * q := by
  have : p * (2 * (a * q * q + b * q * s + c * s * s)) - q * (2 * (a * p * q + c * r * s) + b * (p * s + q * r)) = (b * q + 2 * c * s) * (p * s - q * r) := by grind
  rw [k3, k2, h1] at this
  grind
 obtain ⟨x, y, z, hz⟩ := Bg h.prim
 simp only at hz
 obtain ⟨u, hu⟩ : ∃ u, u = r * x + (s - p) * y - q * z := ⟨_, rfl⟩
 have n1 : a * u = r := by
  have : a * u = r * (a * x + b * y + c * z) := by rw [hu]; grind
  rw [this, hz]; omega
 have n2 : b * u = s - p := by
  have : b * u = (s - p) * (a * x + b * y + c * z) := by rw [hu]; grind
  rw [this, hz]; omega
 have n3 : c * u = -q := by
  have : c * u = -q * (a * x + b * y + c * z) := by rw [hu]; grind
  rw [this, hz]; omega
 have hd : b * b - 4 * a * c = D := h.disc
 refine ⟨p + s, u, ?_, ?_⟩
 ·have : D * (u * u) = (b * u) * (b * u) - 4 * ((a * u) * (c * u)) := by rw [← hd]; grind
  rw [this, n1, n2, n3]
  have : (p + s) * (p + s) - ((s - p) * (s - p) - 4 * (r * -q)) = 4 * (p * s - q * r) := by grind
  rw [this, h1]; rfl
 unfold auM
 simp only [Mt.mk.injEq]
 refine ⟨?_, ?_, n1.symm, ?_⟩
 ·rw [n2]; omega
 ·have : -c * u = -(c * u) := by grind
  rw [this, n3]; omega
 rw [n2]; omega
def unL (D : Int) : List (Int × Int) := if D = -3 then [(2, 0), (-2, 0), (1, 1), (1, -1), (-1, 1), (-1, -1)] else if D = -4 then [(2, 0), (-2, 0), (0, 1), (0, -1)] else [(2, 0), (-2, 0)]
theorem yj {u : Int} (h : u * u ≤ 1) : u = 0 ∨ u = 1 ∨ u = -1 := by
 rcases Int.lt_or_le u (-1) with g | g
 ·have : 2 * 2 ≤ -u * -u := Int.mul_le_mul (by omega) (by omega) (by omega) (by omega)
  have e : -u * -u = u * u := by grind
  omega
 rcases Int.lt_or_le 1 u with g' | g'
 ·have : 2 * 2 ≤ u * u := Int.mul_le_mul (by omega) (by omega) (by omega) (by omega)
  omega
 omega
theorem sj {t : Int} (h : t * t ≤ 4) : -2 ≤ t ∧ t ≤ 2 := by
 constructor
 ·rcases Int.lt_or_le t (-2) with g | g
  ·have : 3 * 3 ≤ -t * -t := Int.mul_le_mul (by omega) (by omega) (by omega) (by omega)
   have e : -t * -t = t * t := by grind
   omega
  exact g
 rcases Int.lt_or_le 2 t with g | g
 ·have : 3 * 3 ≤ t * t := Int.mul_le_mul (by omega) (by omega) (by omega) (by omega)
  omega
 exact g
theorem Df (t : Int) : 0 ≤ t * t := by
 rcases Int.lt_or_le t 0 with g | g
 ·exact Int.mul_nonneg_of_nonpos_of_nonpos (by omega) (by omega)
 exact Int.mul_nonneg g g
theorem mO {D : Int} (hD : D < 0) (h4 : D % 4 = 0 ∨ D % 4 = 1) {t u : Int} : (t, u) ∈ unL D ↔ t * t - D * (u * u) = 4 := by
 have ht := Df t
 have hu := Df u
 have two : t * t = 4 → t = 2 ∨ t = -2 := fun h => by
  have := sj (t := t) (by omega)
  have : t = -2 ∨ t = -1 ∨ t = 0 ∨ t = 1 ∨ t = 2 := by omega
  rcases this with rfl | rfl | rfl | rfl | rfl <;> simp at h ⊢
 unfold unL
 by_cases h1 : D = -3
 ·subst h1
  rw [if_pos rfl]
  constructor
  ·intro h; simp at h
   rcases h with ⟨rfl, rfl⟩ | ⟨rfl, rfl⟩ | ⟨rfl, rfl⟩ | ⟨rfl, rfl⟩ | ⟨rfl, rfl⟩ | ⟨rfl, rfl⟩ <;> decide
  intro h
  have hu1 := yj (u := u) (by omega)
  have ht2 := sj (t := t) (by omega)
  have : t = -2 ∨ t = -1 ∨ t = 0 ∨ t = 1 ∨ t = 2 := by omega
  rcases hu1 with rfl | rfl | rfl <;> rcases this with rfl | rfl | rfl | rfl | rfl <;> simp at h ⊢
 rw [if_neg h1]
 by_cases h2 : D = -4
 ·subst h2
  rw [if_pos rfl]
  constructor
  ·intro h; simp at h
   rcases h with ⟨rfl, rfl⟩ | ⟨rfl, rfl⟩ | ⟨rfl, rfl⟩ | ⟨rfl, rfl⟩ <;> decide
  intro h
  have hu1 := yj (u := u) (by omega)
  have ht2 := sj (t := t) (by omega)
  have : t = -2 ∨ t = -1 ∨ t = 0 ∨ t = 1 ∨ t = 2 := by omega
  rcases hu1 with rfl | rfl | rfl <;> rcases this with rfl | rfl | rfl | rfl | rfl <;> simp at h ⊢
 rw [if_neg h2]
 constructor
 ·intro h; simp at h
  rcases h with ⟨rfl, rfl⟩ | ⟨rfl, rfl⟩ <;> simp
 intro h
 have hu0 : u * u = 0 := by
  rcases Int.lt_or_le 0 (u * u) with g | g
  ·have : -D * 1 ≤ -D * (u * u) := Int.mul_le_mul_of_nonneg_left (by omega) (by omega)
   have e : -D * (u * u) = -(D * (u * u)) := by grind
   omega
  omega
 have : u = 0 := by rcases Int.mul_eq_zero.1 hu0 with g | g <;> exact g
 subst this
 have := two (by omega)
 rcases this with rfl | rfl <;> simp
end
section
open Go Go.RowKit
def smf (f g : Fm) : Bool := smB f.a f.b f.c g.a g.b g.c
def smm (f g : Fm) : Mt := smM f.a f.b f.c g.a g.b g.c
def lL (f : Fm) (D n b : Int) (p : Int × Int) : Mt := (smm f (frq D n b)).mul (auM (frq D n b) p.1 p.2)
def col (f : Fm) (D n b : Int) (p : Int × Int) : Int × Int := ((lL f D n b p).a, (lL f D n b p).c)
def prL (D n : Int) (f : Fm) : List (Int × Int) := (rbL D n).flatMap fun b => if smf f (frq D n b) = true then (unL D).map (col f D n b) else []
section
variable {D n : Int} {f : Fm}
theorem lf {D : Int} {f : Fm} (h : Cl D f) : D % 4 = 0 ∨ D % 4 = 1 := by
 have := h.disc
 unfold dsc at this
 rw [Int.mul_assoc] at this
 generalize f.a * f.c = t at *
 have hb : f.b % 2 = 0 ∨ f.b % 2 = 1 := by omega
 rcases hb with g | g
 ·obtain ⟨q, hq⟩ : ∃ q, f.b = 2 * q := ⟨f.b / 2, by omega⟩
  have e : f.b * f.b = 4 * (q * q) := by rw [hq]; grind
  omega
 obtain ⟨q, hq⟩ : ∃ q, f.b = 2 * q + 1 := ⟨f.b / 2, by omega⟩
 have e : f.b * f.b = 4 * (q * q + q) + 1 := by rw [hq]; grind
 omega
theorem jk {D : Int} {f : Fm} (h : Cl D f) : D < 0 := by have h1 : dsc f.a f.b f.c < 0 := h.pos.2; rw [h.disc] at h1; exact h1
theorem vj {g : Fm} (hf : f.pos) (hg : g.pos) : smf f g = true ↔ f.rd = g.rd := by
 unfold smf smB
 rw [decide_eq_true_iff]
 exact ⟨fun h => h.2.2, fun h => ⟨jJ hf, jJ hg, h⟩⟩
theorem GA {m : Mt} (h : m.det = 1) : Int.gcd m.a m.c = 1 := by
 unfold Mt.det at h
 have h1 : ((Int.gcd m.a m.c : Nat) : Int) ∣ 1 := by
  rw [← h]
  exact Int.dvd_sub (Int.dvd_trans (Int.gcd_dvd_left ..) ⟨m.d, rfl⟩) (Int.dvd_trans (Int.gcd_dvd_right ..) ⟨m.b, Int.mul_comm _ _⟩)
 have h2 : Int.gcd m.a m.c ∣ 1 := by exact_mod_cast h1
 exact Nat.dvd_one.1 h2
theorem lc (h : Cl D f) (hn : 0 < n) {b : Int} (hb : b ∈ rbL D n) (hs : smf f (frq D n b) = true) {p : Int × Int} (hp : p ∈ unL D) : (lL f D n b p).det = 1 ∧ f.app (lL f D n b p) = frq D n b := by
 have hg := o3 hn (jk h) (rbL_mem.1 hb).2
 have hu := (mO (jk h) (lf h)).1 hp
 obtain ⟨s1, s2⟩ := sk h.pos hg.pos hs
 unfold lL
 refine ⟨by rw [fF, zL hg.disc hu]; rw [show (smm f (frq D n b)).det = 1 from s1]; rfl, ?_⟩
 rw [← fI, show f.app (smm f (frq D n b)) = frq D n b from s2]
 exact J1 hg.disc hu
theorem mT (h : Cl D f) (hn : 0 < n) {x y : Int} : (x, y) ∈ prL D n f ↔ Int.gcd x y = 1 ∧ vl f.a f.b f.c x y = n := by
 unfold prL
 rw [List.mem_flatMap]
 constructor
 ·rintro ⟨b, hb, hm⟩
  split at hm
  ·rename_i hs
   obtain ⟨p, hp, e⟩ := List.mem_map.1 hm
   obtain ⟨k1, k2⟩ := lc h hn hb hs hp
   have e1 : (lL f D n b p).a = x := congrArg Prod.fst e
   have e2 : (lL f D n b p).c = y := congrArg Prod.snd e
   rw [← e1, ← e2]
   exact ⟨GA k1, congrArg Fm.a k2⟩
  cases hm
 rintro ⟨hg, hv⟩
 obtain ⟨b, M, hb, hM, e1, e2, e3⟩ := A2 h hg hv
 have hc := o3 hn (jk h) (rbL_mem.1 hb).2
 have hs : smf f (frq D n b) = true := (vj h.pos hc.pos).2 (by rw [← e3]; exact (vu h.pos hM).symm)
 refine ⟨b, hb, ?_⟩
 rw [if_pos hs, List.mem_map]
 obtain ⟨s1, s2⟩ := sk h.pos hc.pos hs
 obtain ⟨S, hS⟩ : ∃ S, S = smm f (frq D n b) := ⟨_, rfl⟩
 have s1' : S.det = 1 := by rw [hS]; exact s1
 have s2' : f.app S = frq D n b := by rw [hS]; exact s2
 have hN : (S.adj.mul M).det = 1 := by rw [fF, nr, s1', hM]; rfl
 have hmul : S.mul (S.adj.mul M) = M := by
  have h1 : S.a * S.d - S.b * S.c = 1 := s1'
  unfold Mt.mul Mt.adj
  ext <;> simp only <;> grind
 have e : (frq D n b).app (S.adj.mul M) = frq D n b := by
  have : (f.app S).app (S.adj.mul M) = f.app M := by rw [fI, hmul]
  rw [← s2', this, e3, s2']
 obtain ⟨t, u, k1, k2⟩ := J2 hc hN e
 refine ⟨(t, u), (mO (jk h) (lf h)).2 k1, ?_⟩
 have : lL f D n b (t, u) = M := by
  unfold lL
  rw [← hS]
  show S.mul (auM (frq D n b) t u) = M
  rw [← k2, hmul]
 unfold col
 rw [this, e1, e2]
theorem yv : (rbL D n).Nodup := by
 unfold rbL
 refine List.Pairwise.filter _ ?_
 refine List.pairwise_map.2 ?_
 refine List.Pairwise.imp (fun h e => h (by omega)) List.nodup_range
theorem xZ : (unL D).Nodup := by
 unfold unL
 split
 ·decide
 split <;> decide
theorem yH (h : Cl D f) (hn : 0 < n) : (prL D n f).Nodup := by
 unfold prL
 refine List.pairwise_flatMap.2 ⟨fun b hb => ?_, ?_⟩
 ·split
  ·rename_i hs
   have hc := o3 hn (jk h) (rbL_mem.1 hb).2
   have hb' := (rbL_mem.1 hb).1
   refine List.pairwise_map.2 (List.Pairwise.imp_of_mem (fun {p q} hp hq hne e => hne ?_) xZ)
   obtain ⟨k1, k2⟩ := lc h hn hb hs hp
   obtain ⟨l1, l2⟩ := lc h hn hb hs hq
   have hm := (sB hn hb' hb' k1 l1 (congrArg Prod.fst e) (congrArg Prod.snd e) k2 l2).1
   obtain ⟨s1, s2⟩ := sk h.pos hc.pos hs
   have hA : auM (frq D n b) p.1 p.2 = auM (frq D n b) q.1 q.2 := by
    have inv : ∀ X : Mt, (smm f (frq D n b)).adj.mul ((smm f (frq D n b)).mul X) = X := fun X => by
     have h1 : (smm f (frq D n b)).a * (smm f (frq D n b)).d - (smm f (frq D n b)).b * (smm f (frq D n b)).c = 1 := s1
     generalize smm f (frq D n b) = S at h1
     unfold Mt.mul Mt.adj
     ext <;> simp only <;> grind
    rw [← inv (auM (frq D n b) p.1 p.2), ← inv (auM (frq D n b) q.1 q.2)]
    exact congrArg _ hm
   have hup := (mO (jk h) (lf h)).1 hp
   have huq := (mO (jk h) (lf h)).1 hq
   obtain ⟨p1, s1, e1, e2, e3⟩ := nq hc.disc hup
   obtain ⟨q1, s1', e1', e2', e3'⟩ := nq hc.disc huq
   rw [e1, e1'] at hA
   simp only [Mt.mk.injEq] at hA
   obtain ⟨g1, _, g3, g4⟩ := hA
   have hu : p.2 = q.2 := Int.eq_of_mul_eq_mul_left (show (frq D n b).a ≠ 0 by have := hc.pos.1; omega) g3
   exact Prod.ext (by omega) hu
  exact List.Pairwise.nil
 refine List.Pairwise.imp_of_mem (fun {b b'} hb hb' hne x hx y hy e => hne ?_) (yv (D := D) (n := n))
 subst e
 split at hx
 ·rename_i hs
  split at hy
  ·rename_i hs'
   obtain ⟨p, hp, e⟩ := List.mem_map.1 hx
   obtain ⟨q, hq, e'⟩ := List.mem_map.1 hy
   obtain ⟨k1, k2⟩ := lc h hn hb hs hp
   obtain ⟨l1, l2⟩ := lc h hn hb' hs' hq
   rw [← e'] at e
   exact (sB hn (rbL_mem.1 hb).1 (rbL_mem.1 hb').1 k1 l1 (congrArg Prod.fst e) (congrArg Prod.snd e) k2 l2).2
  cases hy
 cases hx
def unN (D : Int) : Nat := if D = -3 then 6 else if D = -4 then 4 else 2
theorem pk : (unL D).length = unN D := by
 unfold unL unN
 split
 ·rfl
 split <;> rfl
theorem wb {α β : Type} {w : Nat} (P : α → Bool) (L : α → List β) (hL : ∀ a, (L a).length = w) : ∀ l : List α, (l.flatMap fun a => if P a = true then L a else []).length = w * (l.filter P).length
 | [] => by simp
 | a :: l => by
  rw [List.flatMap_cons, List.length_append, wb P L hL l, List.filter_cons]
  by_cases h : P a = true
  ·rw [if_pos h, if_pos h, hL, List.length_cons, Nat.mul_succ, Nat.add_comm]
  rw [if_neg h, if_neg h, List.length_nil, Nat.zero_add]
theorem vF : (prL D n f).length = unN D * ((rbL D n).filter fun b => smf f (frq D n b)).length := by
 unfold prL
 exact wb (fun b => smf f (frq D n b)) (fun b => (unL D).map (col f D n b)) (fun b => by rw [List.length_map, pk]) _
theorem zy {l : List Fm} (P : Fm → Bool) {g : Fm} (hn : l.Nodup) (hg : g ∈ l) (hP : ∀ f ∈ l, P f = true ↔ f = g) : (l.filter P).length = 1 := by
 induction l with
 | nil => cases hg
 | cons x l ih =>
  rw [List.filter_cons]
  have hx := List.nodup_cons.1 hn
  by_cases e : x = g
  ·subst e
   rw [if_pos ((hP x (by simp)).2 rfl), List.length_cons]
   have : l.filter P = [] := List.filter_eq_nil_iff.2 fun f hf h => hx.1 (((hP f (by simp [hf])).1 h) ▸ hf)
   rw [this]; rfl
  rw [if_neg (fun h => e ((hP x (by simp)).1 h))]
  rcases List.mem_cons.1 hg with h | h
  ·exact absurd h.symm e
  exact ih hx.2 h fun f hf => hP f (by simp [hf])
def dJ : List Nat → Nat
 | [] => 0
 | x :: l => x + dJ l
theorem lT {α : Type} (a b : α → Nat) : ∀ l : List α, dJ (l.map fun x => a x + b x) = dJ (l.map a) + dJ (l.map b)
 | [] => rfl
 | x :: l => by simp only [List.map_cons, dJ, lT a b l]; omega
theorem qf {α : Type} : ∀ l : List α, dJ (l.map fun _ => 0) = 0
 | [] => rfl
 | x :: l => by simp only [List.map_cons, dJ, qf l]
theorem r7 {α : Type} (w : Nat) (a : α → Nat) : ∀ l : List α, dJ (l.map fun x => w * a x) = w * dJ (l.map a)
 | [] => rfl
 | x :: l => by simp only [List.map_cons, dJ, r7 w a l, Nat.mul_add]
theorem r8 {α : Type} (P : α → Bool) : ∀ l : List α, dJ (l.map fun x => if P x = true then 1 else 0) = (l.filter P).length
 | [] => rfl
 | x :: l => by
  simp only [List.map_cons, dJ, r8 P l, List.filter_cons]
  by_cases h : P x = true
  ·simp [h]; omega
  simp [h]
theorem qe {l : List Fm} (Q : Fm → Int → Bool) : ∀ bs : List Int, (∀ b ∈ bs, (l.filter fun f => Q f b).length = 1) → dJ (l.map fun f => (bs.filter (Q f)).length) = bs.length
 | [], _ => qf l
 | b :: bs, h => by
  have e : (fun f => ((b :: bs).filter (Q f)).length) = fun f => (if Q f b = true then 1 else 0) + (bs.filter (Q f)).length := by
   funext f
   rw [List.filter_cons]
   by_cases g : Q f b = true
   ·rw [if_pos g, if_pos g, List.length_cons]; omega
   rw [if_neg g, if_neg g]; omega
  rw [e, lT, r8 (fun f => Q f b), h b (by simp), qe Q bs (fun b' hb => h b' (by simp [hb])), List.length_cons]
  omega
theorem Fs {l : List Fm} (w : Whole D l) (hD : D < 0) (hn : 0 < n) : dJ (l.map fun f => (prL D n f).length) = unN D * (rbL D n).length := by
 have e : (fun f => (prL D n f).length) = fun f => unN D * ((rbL D n).filter fun b => smf f (frq D n b)).length := by funext f; exact vF
 rw [e, r7, qe (fun f b => smf f (frq D n b))]
 intro b hb
 have hc := o3 hn hD (rbL_mem.1 hb).2
 refine zy _ w.nd (w.rd hc) fun f hf => ?_
 have hf' := (w.mem f).1 hf
 rw [vj hf'.1.pos hc.pos, hf'.2]
end
end
section
open Go Go.RowKit
abbrev Pr2 := Int × Int
def lt2 (p q : Pr2) : Bool := decide (p.1 < q.1 ∨ (p.1 = q.1 ∧ p.2 < q.2))
theorem lt2_iff {p q : Pr2} : lt2 p q = true ↔ p.1 < q.1 ∨ (p.1 = q.1 ∧ p.2 < q.2) := decide_eq_true_iff
theorem yW {p q r : Pr2} (h : lt2 p q = true) (k : lt2 q r = true) : lt2 p r = true := by rw [lt2_iff] at *; omega
theorem FW {p q : Pr2} (h : p ≠ q) (k : lt2 p q = false) : lt2 q p = true := by
 rw [lt2_iff]
 have k' : ¬ (p.1 < q.1 ∨ (p.1 = q.1 ∧ p.2 < q.2)) := fun x => by rw [lt2_iff.2 x] at k; cases k
 have : ¬ (p.1 = q.1 ∧ p.2 = q.2) := fun x => h (Prod.ext x.1 x.2)
 omega
def jr (p : Pr2) : List Pr2 → List Pr2
 | [] => [p]
 | q :: l => if lt2 q p = true then q :: jr p l else p :: q :: l
theorem insP_mem {p x : Pr2} : ∀ {l : List Pr2}, x ∈ jr p l ↔ x = p ∨ x ∈ l
 | [] => by simp [jr]
 | q :: l => by
  unfold jr
  split
  ·rw [List.mem_cons, insP_mem, List.mem_cons]
   constructor
   ·rintro (h | h | h)
    ·exact .inr (.inl h)
    ·exact .inl h
    exact .inr (.inr h)
   rintro (h | h | h)
   ·exact .inr (.inl h)
   ·exact .inl h
   exact .inr (.inr h)
  rw [List.mem_cons]
theorem tN {p : Pr2} : ∀ {l : List Pr2}, (jr p l).length = l.length + 1
 | [] => rfl
 | q :: l => by
  unfold jr
  split
  ·rw [List.length_cons, tN, List.length_cons]
  rfl
abbrev kJ (l : List Pr2) : Prop := l.Pairwise fun x y => lt2 x y = true
theorem tM {p : Pr2} : ∀ {l : List Pr2}, kJ l → p ∉ l → kJ (jr p l)
 | [], _, _ => List.pairwise_singleton _ _
 | q :: l, h, hp => by
  have h' := List.pairwise_cons.1 h
  unfold jr
  split
  ·rename_i hq
   refine List.pairwise_cons.2 ⟨fun x hx => ?_, tM h'.2 fun e => hp (by simp [e])⟩
   rcases insP_mem.1 hx with rfl | hx
   ·exact hq
   exact h'.1 x hx
  rename_i hq
  have hpq : lt2 p q = true := FW (fun e => hp (by simp [e])) (by simpa using hq)
  refine List.pairwise_cons.2 ⟨fun x hx => ?_, h⟩
  rcases List.mem_cons.1 hx with rfl | hx
  ·exact hpq
  exact yW hpq (h'.1 x hx)
def srP : List Pr2 → List Pr2
 | [] => []
 | p :: l => jr p (srP l)
theorem srP_mem {x : Pr2} : ∀ {l : List Pr2}, x ∈ srP l ↔ x ∈ l
 | [] => Iff.rfl
 | p :: l => by show x ∈ jr p (srP l) ↔ _; rw [insP_mem, srP_mem, List.mem_cons]
theorem vg : ∀ {l : List Pr2}, (srP l).length = l.length
 | [] => rfl
 | _ :: _ => by unfold srP; rw [tN, vg, List.length_cons]
theorem vf : ∀ {l : List Pr2}, l.Nodup → kJ (srP l)
 | [], _ => List.Pairwise.nil
 | _ :: _, h => tM (vf (List.nodup_cons.1 h).2) fun e => (List.nodup_cons.1 h).1 (srP_mem.1 e)
def prS (D n : Int) (f : Fm) : List Pr2 := srP (prL D n f)
theorem Fq {D n : Int} {f : Fm} (h : Cl D f) (hn : 0 < n) : kJ (prS D n f) := vf (yH h hn)
def rA (g : Fm) (n : Int) (p : Pr2) : Bool := decide (Int.gcd p.1 p.2 = 1) && decide (vl g.a g.b g.c p.1 p.2 = n)
def okP (p : Pr2) : Bool := decide (0 < p.2 ∨ (p.2 = 0 ∧ 0 ≤ p.1))
def btr (p q : Pr2) : Bool := decide (p.2 < q.2 ∨ (p.2 = q.2 ∧ p.1 < q.1))
def dY (b : Option Pr2) (p : Pr2) : Option Pr2 := if okP p = true then (match b with | none => some p | some q => if btr p q = true then some p else some q) else b
def dx (l : List Pr2) : Option Pr2 := l.foldl dY none
structure IsBest (l : List Pr2) (b : Option Pr2) : Prop where
 no : b = none → ∀ p ∈ l, okP p = false
 so : ∀ q, b = some q → q ∈ l ∧ okP q = true ∧ ∀ p ∈ l, okP p = true → btr p q = false
theorem IsBest.step {l : List Pr2} {b : Option Pr2} (h : IsBest l b) (p : Pr2) : IsBest (l ++ [p]) (dY b p) := by
 unfold dY
 by_cases hp : okP p = true
 ·rw [if_pos hp]
  cases b with
  | none =>
   refine ⟨fun e => (by cases e), fun q e => ?_⟩
   cases e
   refine ⟨by simp, hp, fun x hx ho => ?_⟩
   rcases List.mem_append.1 hx with hx | hx
   ·rw [h.no rfl x hx] at ho; cases ho
   rw [List.mem_singleton] at hx; subst hx
   unfold btr; exact decide_eq_false (by omega)
  | some q =>
   obtain ⟨h1, h2, h3⟩ := h.so q rfl
   by_cases hq : btr p q = true
   ·simp only [hq, if_true]
    refine ⟨fun e => (by cases e), fun q' e => ?_⟩
    cases e
    refine ⟨by simp, hp, fun x hx ho => ?_⟩
    rcases List.mem_append.1 hx with hx | hx
    ·have := h3 x hx ho
     unfold btr at *
     have a1 := dF0 this
     have a2 := dT0 hq
     exact decide_eq_false (by omega)
    rw [List.mem_singleton] at hx; subst hx
    unfold btr; exact decide_eq_false (by omega)
   simp only [hq]
   refine ⟨fun e => (by cases e), fun q' e => ?_⟩
   have e' : q = q' := by simpa using e
   subst e'
   refine ⟨by simp [h1], h2, fun x hx ho => ?_⟩
   rcases List.mem_append.1 hx with hx | hx
   ·exact h3 x hx ho
   rw [List.mem_singleton] at hx; subst hx
   simpa using hq
 rw [if_neg hp]
 refine ⟨fun e x hx => ?_, fun q e => ?_⟩
 ·rcases List.mem_append.1 hx with hx | hx
  ·exact h.no e x hx
  rw [List.mem_singleton] at hx; subst hx; simpa using hp
 obtain ⟨h1, h2, h3⟩ := h.so q e
 refine ⟨by simp [h1], h2, fun x hx ho => ?_⟩
 rcases List.mem_append.1 hx with hx | hx
 ·exact h3 x hx ho
 rw [List.mem_singleton] at hx; subst hx; exact absurd ho hp
theorem nF : ∀ (l l0 : List Pr2) (b : Option Pr2), IsBest l0 b → IsBest (l0 ++ l) (l.foldl dY b)
 | [], l0, b, h => by simpa using h
 | p :: l, l0, b, h => by
  have := nF l (l0 ++ [p]) (dY b p) (h.step p)
  simpa using this
theorem Cq (l : List Pr2) : IsBest l (dx l) := by
 have := nF l [] none ⟨fun _ p hp => by simp at hp, fun q e => by cases e⟩
 rw [List.nil_append] at this
 exact this
theorem mG {D n : Int} {f : Fm} (h : Cl D f) (hn : 0 < n) : dx (prL D n f) = none ↔ prL D n f = [] := by
 constructor
 ·intro e
  have hb := (Cq (prL D n f)).no e
  rw [List.eq_nil_iff_forall_not_mem]
  rintro ⟨x, y⟩ hx
  have h1 := hb _ hx
  have hm := (mT h hn).1 hx
  have hx' : (-x, -y) ∈ prL D n f := (mT h hn).2 ⟨by rw [Int.gcd_neg, Int.neg_gcd]; exact hm.1, by rw [← hm.2]; unfold vl; grind⟩
  have h2 := hb _ hx'
  unfold okP at h1 h2
  have a1 := dF0 h1
  have a2 := dF0 h2
  simp only at a1 a2
  have : ¬ (x = 0 ∧ y = 0) := by rintro ⟨rfl, rfl⟩; have := hm.1; simp at this
  omega
 intro e; rw [e]; rfl
end
section
open Go Go.RowKit
theorem JZ (a b : Int) : ∃ u v : Int, u * a + v * b = (Int.gcd a b : Nat) := ⟨_, _, rr b.natAbs a b (Nat.le_refl _)⟩
theorem k9 {g x y : Int} (h : Int.gcd g x = 1) (k : g ∣ x * y) : g ∣ y := by
 obtain ⟨u, v, e⟩ := JZ g x
 rw [h] at e
 have e' : u * g + v * x = 1 := e
 obtain ⟨t, ht⟩ := k
 refine ⟨u * y + v * t, ?_⟩
 have : y = (u * g + v * x) * y := by rw [e']; omega
 grind
theorem uQ {g m b : Int} (h : g ∣ m) (k : Int.gcd m b = 1) : Int.gcd g b = 1 := by
 have h1 : ((Int.gcd g b : Nat) : Int) ∣ ((Int.gcd m b : Nat) : Int) := Int.dvd_coe_gcd (Int.dvd_trans (Int.gcd_dvd_left ..) h) (Int.gcd_dvd_right ..)
 rw [k] at h1
 exact Nat.dvd_one.1 (by exact_mod_cast h1)
theorem crt {m M b1 b2 : Int} (h : Int.gcd m M = 1) : ∃ b, m ∣ b - b1 ∧ M ∣ b - b2 := by
 obtain ⟨u, v, e⟩ := JZ m M
 rw [h] at e
 have e' : u * m + v * M = 1 := e
 refine ⟨b1 * (v * M) + b2 * (u * m), ⟨u * (b2 - b1), ?_⟩, ⟨v * (b1 - b2), ?_⟩⟩
 ·have : b1 = (u * m + v * M) * b1 := by rw [e']; omega
  grind
 have : b2 = (u * m + v * M) * b2 := by rw [e']; omega
 grind
structure Rt (D n b c : Int) : Prop where
 eq : b * b - D = 4 * n * c
 pr : prim n b c = true
theorem Jm {D n b : Int} (h : isR D n b = true) : Rt D n b ((b * b - D) / (4 * n)) := ⟨za h, by
 unfold isR at h
 rw [Bool.and_eq_true] at h
 exact h.2⟩
theorem Rt.isR {D n b c : Int} (hn : 0 < n) (h : Rt D n b c) : isR D n b = true := by
 have e : (b * b - D) / (4 * n) = c := by rw [h.eq]; exact Int.mul_ediv_cancel_left _ (by omega)
 unfold AM.isR
 rw [e, Bool.and_eq_true, decide_eq_true_iff]
 exact ⟨by rw [Int.emod_eq_emod_iff_emod_sub_eq_zero, h.eq]; exact Int.mul_emod_right _ _, h.pr⟩
theorem Rt.all {D n b c : Int} (h : Rt D n b c) {g : Int} (h1 : g ∣ n) (h2 : g ∣ b) (h3 : g ∣ c) : g ∣ 1 := by
 have := h.pr
 unfold prim at this
 rw [decide_eq_true_iff] at this
 have k : g ∣ ((Int.gcd n (Int.gcd b c : Int) : Nat) : Int) := Int.dvd_coe_gcd h1 (Int.dvd_coe_gcd h2 h3)
 rw [this] at k
 exact k
theorem Rt.mk' {D n b c : Int} (h : b * b - D = 4 * n * c) (k : ∀ g : Int, g ∣ n → g ∣ b → g ∣ c → g ∣ 1) : Rt D n b c := by
 refine ⟨h, ?_⟩
 unfold prim
 rw [decide_eq_true_iff]
 have := k ((Int.gcd n (Int.gcd b c : Int) : Nat) : Int) (Int.gcd_dvd_left ..) (Int.dvd_trans (Int.gcd_dvd_right ..) (Int.gcd_dvd_left ..)) (Int.dvd_trans (Int.gcd_dvd_right ..) (Int.gcd_dvd_right ..))
 exact Nat.dvd_one.1 (by exact_mod_cast this)
theorem oD {D n : Int} (hn : 0 < n) : rbL D n ≠ [] ↔ ∃ b c, Rt D n b c := by
 constructor
 ·intro h
  obtain ⟨b, hb⟩ := List.exists_mem_of_ne_nil _ h
  exact ⟨_, _, Jm (rbL_mem.1 hb).2⟩
 rintro ⟨b, c, h⟩ e
 have hm : b % (2 * n) ∈ rbL D n := by
  refine rbL_mem.2 ⟨⟨Int.emod_nonneg _ (by omega), Int.emod_lt_of_pos _ (by omega)⟩, ?_⟩
  obtain ⟨k, hk⟩ : ∃ k, k = b / (2 * n) := ⟨_, rfl⟩
  have hb : b % (2 * n) = b - 2 * n * k := by rw [hk]; exact Int.emod_def _ _
  rw [hb]
  refine (Rt.mk' (c := c - b * k + n * k * k) ?_ fun g h1 h2 h3 => ?_).isR hn
  ·have := h.eq; grind
  have g2 : g ∣ b := by
   have : b = (b - 2 * n * k) + n * (2 * k) := by grind
   rw [this]; exact Int.dvd_add h2 (fS h1 _)
  refine h.all h1 g2 ?_
  have : c = (c - b * k + n * k * k) + (b * k - n * (k * k)) := by grind
  rw [this]; exact Int.dvd_add h3 (Int.dvd_sub (fS g2 _) (fS h1 _))
 rw [e] at hm; cases hm
theorem tn {g c : Int} (hg : g % 2 = 1) (h : g ∣ 4 * c) : g ∣ c := by
 refine k9 (x := 4) ?_ h
 have h1 : ((Int.gcd g 4 : Nat) : Int) ∣ g := Int.gcd_dvd_left ..
 have h2 : Int.gcd g 4 ∣ 4 := by have : ((Int.gcd g 4 : Nat) : Int) ∣ 4 := Int.gcd_dvd_right ..; exact_mod_cast this
 have h3 : Int.gcd g 4 ≤ 4 := Nat.le_of_dvd (by decide) h2
 generalize Int.gcd g 4 = k at *
 have : k = 0 ∨ k = 1 ∨ k = 2 ∨ k = 3 ∨ k = 4 := by omega
 rcases this with rfl | rfl | rfl | rfl | rfl
 ·simp at h2
 ·rfl
 ·omega
 ·exact absurd h2 (by decide)
 omega
theorem we {g m : Int} (h : g ∣ m) (hm : m % 2 = 1) : g % 2 = 1 := by
 obtain ⟨t, ht⟩ := h
 rcases Int.emod_two_eq g with e | e
 ·exfalso
  have : g = 2 * (g / 2) := by omega
  rw [this] at ht
  have : m = 2 * (g / 2 * t) := by rw [ht]; grind
  omega
 exact e
theorem Rt.mul_odd {D m n b1 c1 b2 c2 : Int} (hm : m % 2 = 1) (hg : Int.gcd m n = 1) (h1 : Rt D m b1 c1) (h2 : Rt D n b2 c2) : ∃ b c, Rt D (m * n) b c := by
 have hg2 : Int.gcd m (2 * n) = 1 := by
  have k : ((Int.gcd m (2 * n) : Nat) : Int) ∣ n := k9 (x := 2) (by
   have := we (Int.gcd_dvd_left m (2 * n)) hm
   have k2 : Int.gcd ((Int.gcd m (2 * n) : Nat) : Int) 2 ∣ 2 := by have : ((Int.gcd ((Int.gcd m (2 * n) : Nat) : Int) 2 : Nat) : Int) ∣ 2 := Int.gcd_dvd_right ..; exact_mod_cast this
   have k3 : ((Int.gcd ((Int.gcd m (2 * n) : Nat) : Int) 2 : Nat) : Int) ∣ ((Int.gcd m (2 * n) : Nat) : Int) := Int.gcd_dvd_left ..
   have k4 := Nat.le_of_dvd (by decide) k2
   generalize Int.gcd ((Int.gcd m (2 * n) : Nat) : Int) 2 = r at *
   have : r = 0 ∨ r = 1 ∨ r = 2 := by omega
   rcases this with rfl | rfl | rfl
   ·simp at k2
   ·rfl
   omega) (Int.gcd_dvd_right ..)
  have k1 : ((Int.gcd m (2 * n) : Nat) : Int) ∣ ((Int.gcd m n : Nat) : Int) := Int.dvd_coe_gcd (Int.gcd_dvd_left ..) k
  rw [hg] at k1
  exact Nat.dvd_one.1 (by exact_mod_cast k1)
 obtain ⟨b, ⟨k, hk⟩, ⟨s, hs⟩⟩ := crt (b1 := b1) (b2 := b2) hg2
 have e1 := h1.eq
 have e2 := h2.eq
 have d1 : m ∣ b * b - D := ⟨4 * c1 + k * (b + b1), by
  have : b * b - D = (b1 * b1 - D) + (b - b1) * (b + b1) := by grind
  rw [this, e1, hk]; grind⟩
 have hb2 : b = b2 + 2 * n * s := by omega
 have d2 : b * b - D = n * (4 * (c2 + s * b2 + n * s * s)) := by
  have : b * b - D = (b2 * b2 - D) + (b - b2) * (b + b2) := by grind
  rw [this, e2, hs, hb2]; grind
 rw [d2] at d1
 have d3 : m ∣ c2 + s * b2 + n * s * s := tn hm (k9 hg d1)
 obtain ⟨c, hc⟩ := d3
 have e3 : b * b - D = 4 * (m * n) * c := by rw [d2, hc]; grind
 refine ⟨b, c, Rt.mk' e3 fun g g1 g2 g3 => ?_⟩
 have q1 : Int.gcd g m = 1 := by
  have u1 : ((Int.gcd g m : Nat) : Int) ∣ g := Int.gcd_dvd_left ..
  have u2 : ((Int.gcd g m : Nat) : Int) ∣ m := Int.gcd_dvd_right ..
  have u3 := Int.dvd_trans u1 g2
  have u4 : ((Int.gcd g m : Nat) : Int) ∣ b1 := by
   have : b1 = b - m * k := by omega
   rw [this]; exact Int.dvd_sub u3 (fS u2 _)
  have u5 : ((Int.gcd g m : Nat) : Int) ∣ c1 := by
   refine tn (we u2 hm) ?_
   have hm0 : m ≠ 0 := by omega
   have : m * (4 * c1) = m * (4 * (n * c) - k * (b + b1)) := by
    have h3 : b1 * b1 - D = (b * b - D) - (b - b1) * (b + b1) := by grind
    rw [e1, e3, hk] at h3
    grind
   rw [Int.eq_of_mul_eq_mul_left hm0 this]
   refine Int.dvd_sub ?_ ?_
   ·have : 4 * (n * c) = c * (4 * n) := by grind
    rw [this]; exact fS (Int.dvd_trans u1 g3) _
   rw [Int.mul_comm]; exact fS (Int.dvd_add u3 u4) _
  exact Nat.dvd_one.1 (by exact_mod_cast h1.all u2 u4 u5)
 have u1 : g ∣ n := k9 q1 g1
 have u4 : g ∣ b2 := by
  have : b2 = b - n * (2 * s) := by rw [hb2]; grind
  rw [this]; exact Int.dvd_sub g2 (fS u1 _)
 refine h2.all u1 u4 ?_
 have : c2 = c * m - (b2 * s + n * (s * s)) := by
  have : c * m = c2 + s * b2 + n * s * s := by rw [hc, Int.mul_comm]
  rw [this]; grind
 rw [this]
 exact Int.dvd_sub (fS g3 _) (Int.dvd_add (fS u4 _) (fS u1 _))
theorem Rt.left {D m n b c : Int} (hg : Int.gcd m n = 1) (h : Rt D (m * n) b c) : Rt D m b (n * c) := by
 refine Rt.mk' (by rw [h.eq]; grind) fun g g1 g2 g3 => ?_
 exact h.all (fS g1 _) g2 (k9 (uQ g1 hg) g3)
theorem EX {D m n : Int} (hm : 0 < m) (hn : 0 < n) (hg : Int.gcd m n = 1) : rbL D (m * n) ≠ [] ↔ rbL D m ≠ [] ∧ rbL D n ≠ [] := by
 rw [oD (Int.mul_pos hm hn), oD hm, oD hn]
 constructor
 ·rintro ⟨b, c, h⟩
  refine ⟨⟨b, _, h.left hg⟩, b, m * c, ?_⟩
  have h' : Rt D (n * m) b c := by rw [Int.mul_comm]; exact h
  exact h'.left (by rw [Int.gcd_comm]; exact hg)
 rintro ⟨⟨b1, c1, h1⟩, b2, c2, h2⟩
 by_cases ho : m % 2 = 1
 ·exact h1.mul_odd ho hg h2
 have : n % 2 = 1 := by
  rcases Int.emod_two_eq n with e | e
  ·exfalso
   have k : (2 : Int) ∣ ((Int.gcd m n : Nat) : Int) := Int.dvd_coe_gcd (by omega) (by omega)
   rw [hg] at k
   exact absurd k (by decide)
  exact e
 rw [Int.mul_comm]
 exact h2.mul_odd this (by rw [Int.gcd_comm]; exact hg) h1
end
section
open Go Go.RowKit
def fg (p : Nat) : Nat → Nat → Nat → Nat × Nat
 | 0, n, q => (n, q)
 | f + 1, n, q => if n % p = 0 then fg p f (n / p) (q * p) else (n, q)
def ptN (p n : Nat) : Nat × Nat := fg p n n 1
def ppL : Nat → Nat → Nat → List Nat
 | 0, _, _ => []
 | f + 1, n, p => if n ≤ 1 then [] else (if 1 < (ptN p n).2 then [(ptN p n).2] else []) ++ ppL f (ptN p n).1 (p + 1)
def parts (n : Nat) : List Nat := ppL n n 2
theorem sd {p : Nat} (hp : 2 ≤ p) : ∀ (f n q : Nat), 0 < n → n ≤ f → 0 < (fg p f n q).1 ∧ (fg p f n q).1 * (fg p f n q).2 = n * q ∧ (fg p f n q).1 % p ≠ 0 ∧ ∃ k, (fg p f n q).2 = q * p ^ k
 | 0, n, q, h0, hf => by omega
 | f + 1, n, q, h0, hf => by
  unfold fg
  by_cases h : n % p = 0
  ·rw [if_pos h]
   have hd : p ∣ n := Nat.dvd_of_mod_eq_zero h
   have hpn : p ≤ n := Nat.le_of_dvd h0 hd
   have h1 : 0 < n / p := Nat.div_pos hpn (by omega)
   have h2 : n / p < n := Nat.div_lt_self h0 (by omega)
   obtain ⟨k1, k2, k3, k, k4⟩ := sd hp f (n / p) (q * p) h1 (by omega)
   refine ⟨k1, ?_, k3, k + 1, ?_⟩
   ·rw [k2]
    have := Nat.div_mul_cancel hd
    calc n / p * (q * p) = n / p * p * q := by rw [Nat.mul_comm q p, Nat.mul_assoc]
     _ = n * q := by rw [this]
   rw [k4, Nat.pow_succ, Nat.mul_assoc, Nat.mul_comm p]
  rw [if_neg h]
  exact ⟨h0, rfl, h, 0, by simp⟩
theorem oK {p n : Nat} (hp : 2 ≤ p) (hn : 0 < n) : 0 < (ptN p n).1 ∧ (ptN p n).1 * (ptN p n).2 = n ∧ (ptN p n).1 % p ≠ 0 ∧ ∃ k, (ptN p n).2 = p ^ k := by
 obtain ⟨h1, h2, h3, k, h4⟩ := sd hp n n 1 hn (Nat.le_refl _)
 exact ⟨h1, by rw [Nat.mul_one] at h2; exact h2, h3, k, by rw [Nat.one_mul] at h4; exact h4⟩
theorem pY {a p : Nat} (h : Nat.gcd a p = 1) : ∀ k, Nat.gcd a (p ^ k) = 1
 | 0 => by simp
 | k + 1 => by
  rw [Nat.pow_succ]
  exact Nat.Coprime.mul_right (pY h k) h
theorem rD {p n : Nat} (hp : 2 ≤ p) (hn : 0 < n) (h : Nd n p) : Nat.gcd (ptN p n).1 (ptN p n).2 = 1 ∧ Nd (ptN p n).1 (p + 1) := by
 obtain ⟨h1, h2, h3, k, h4⟩ := oK hp hn
 have hd : (ptN p n).1 ∣ n := ⟨_, h2.symm⟩
 have hnd : Nd (ptN p n).1 p := fun e e2 e3 e4 => h e e2 e3 (Nat.dvd_trans e4 hd)
 refine ⟨?_, fun e e2 e3 e4 => ?_⟩
 ·rw [h4]
  refine pY ?_ k
  have g1 : Nat.gcd (ptN p n).1 p ∣ (ptN p n).1 := Nat.gcd_dvd_left ..
  have g2 : Nat.gcd (ptN p n).1 p ∣ p := Nat.gcd_dvd_right ..
  have g3 : Nat.gcd (ptN p n).1 p ≤ p := Nat.le_of_dvd (by omega) g2
  have g4 : 0 < Nat.gcd (ptN p n).1 p := Nat.gcd_pos_of_pos_left _ h1
  generalize Nat.gcd (ptN p n).1 p = g at *
  rcases Nat.lt_or_ge g 2 with x | x
  ·omega
  rcases Nat.lt_or_ge g p with y | y
  ·exact absurd g1 (hnd g x y)
  have : g = p := by omega
  subst this
  exact absurd (Nat.mod_eq_zero_of_dvd g1) h3
 rcases Nat.lt_or_ge e p with x | x
 ·exact hnd e e2 x e4
 have : e = p := by omega
 subst this
 exact h3 (Nat.mod_eq_zero_of_dvd e4)
theorem sG {D : Int} (h4 : D % 4 = 0 ∨ D % 4 = 1) : rbL D 1 ≠ [] := by
 refine (oD (by decide)).2 ⟨D % 2, (D % 2 * (D % 2) - D) / 4, Rt.mk' ?_ fun g h _ _ => h⟩
 have : D % 2 = 0 ∨ D % 2 = 1 := by omega
 rcases this with e | e <;> rw [e] <;> omega
theorem vG {D : Int} (h4 : D % 4 = 0 ∨ D % 4 = 1) : ∀ (f n p : Nat), 0 < n → 2 ≤ p → Nd n p → n + 2 ≤ f + p → (rbL D (n : Int) ≠ [] ↔ ∀ q ∈ ppL f n p, rbL D (q : Int) ≠ [])
 | 0, n, p, hn, hp, hd, hf => by
  have h1 : n = 1 := by
   rcases Nat.lt_or_ge n 2 with x | x
   ·omega
   exact absurd (Nat.dvd_refl n) (hd n x (by omega))
  subst h1
  exact ⟨fun _ q hq => (by cases hq), fun _ => sG h4⟩
 | f + 1, n, p, hn, hp, hd, hf => by
  unfold ppL
  by_cases h : n ≤ 1
  ·rw [if_pos h]
   have h1 : n = 1 := by omega
   subst h1
   exact ⟨fun _ q hq => (by cases hq), fun _ => sG h4⟩
  rw [if_neg h]
  obtain ⟨h1, h2, h3, k, h5⟩ := oK hp hn
  obtain ⟨g1, g2⟩ := rD hp hn hd
  have hle : (ptN p n).1 ≤ n := Nat.le_of_dvd hn ⟨_, h2.symm⟩
  have hq : 0 < (ptN p n).2 := by rw [h5]; exact Nat.pow_pos (by omega)
  have ih := vG h4 f (ptN p n).1 (p + 1) h1 (by omega) g2 (by omega)
  have hm : rbL D (n : Int) ≠ [] ↔ rbL D ((ptN p n).1 : Int) ≠ [] ∧ rbL D ((ptN p n).2 : Int) ≠ [] := by
   have := EX (D := D) (m := ((ptN p n).1 : Int)) (n := ((ptN p n).2 : Int)) (by omega) (by omega) (by rw [Int.gcd_natCast_natCast]; exact g1)
   rw [← this, ← Int.natCast_mul, h2]
  rw [hm, ih]
  generalize (ptN p n).2 = q at *
  constructor
  ·rintro ⟨a, b⟩ x hx
   rcases List.mem_append.1 hx with hx | hx
   ·split at hx
    ·rw [List.mem_singleton] at hx; subst hx; exact b
    cases hx
   exact a x hx
  intro a
  refine ⟨fun x hx => a x (List.mem_append.2 (.inr hx)), ?_⟩
  by_cases h1 : 1 < q
  ·exact a q (List.mem_append.2 (.inl (by rw [if_pos h1]; simp)))
  have : q = 1 := by omega
  subst this
  exact sG h4
theorem w4 {D : Int} (h4 : D % 4 = 0 ∨ D % 4 = 1) {n : Nat} (hn : 0 < n) : rbL D (n : Int) ≠ [] ↔ ∀ q ∈ parts n, rbL D (q : Int) ≠ [] :=
 vG h4 n n 2 hn (by decide) (fun e e1 e2 => by omega) (by omega)
def blk (D : Int) (n : Nat) : Option Nat := (parts n).find? fun q => (rbL D (q : Int)).isEmpty
theorem ur {D : Int} (h4 : D % 4 = 0 ∨ D % 4 = 1) {n : Nat} (hn : 0 < n) : blk D n = none ↔ rbL D (n : Int) ≠ [] := by
 unfold blk
 rw [List.find?_eq_none, w4 h4 hn]
 constructor
 ·intro h q hq e; exact h q hq (by rw [e]; rfl)
 intro h q hq e; exact h q hq (List.isEmpty_iff.1 e)
theorem yG {D : Int} {n : Int} {f : Fm} (hx : prL D n f ≠ []) : rbL D n ≠ [] := by
 intro e
 unfold prL at hx
 rw [e] at hx
 exact hx rfl
end
section
open Go Go.RowKit
end
section
open Go Go.RowKit
end
section
open Go Go.RowKit
end
section
open Go Go.RowKit
end
section
open Go Go.RowKit
section
end
end
section
open Go Go.RowKit
end
section
open Go Go.RowKit
section
variable {A B C : Int}
theorem gF {p : Nat} (hp : Pr p) (pf : prim A B C = true) {a m k : Nat} (e : a = p ^ k * m) (hm : ¬ p ∣ m) {b : Nat} (ih : ∃ x y : Nat, Nat.Coprime (vl A B C x y).natAbs m ∧ x ≤ b ∧ y ≤ b) :
  ∃ x y : Nat, Nat.Coprime (vl A B C x y).natAbs a ∧ x ≤ b + 2 * m ∧ y ≤ b + 2 * m := by
 obtain ⟨x, y, hc, hbx, hby⟩ := ih
 obtain ⟨i, j, hi, hj, hv⟩ := Jp hp pf hm (x : Int) (y : Int)
 have mi : m * i ≤ m * 2 := Nat.mul_le_mul_left m hi
 have mj : m * j ≤ m * 2 := Nat.mul_le_mul_left m hj
 refine ⟨x + m * i, y + m * j, ?_, by omega, by omega⟩
 have ex : ((x + m * i : Nat) : Int) = (x : Int) + m * i := by rw [Int.natCast_add, Int.natCast_mul]
 have ey : ((y + m * j : Nat) : Int) = (y : Int) + m * j := by rw [Int.natCast_add, Int.natCast_mul]
 rw [ex, ey]
 have c1 : Nat.Coprime (vl A B C ((x : Int) + m * i) (y + m * j)).natAbs m := by
  have hg := rU (A := A) (B := B) (C := C) (m := (m : Int)) (x : Int) (y : Int) i j
  generalize vl A B C ((x : Int) + m * i) (y + m * j) = V at *
  generalize vl A B C (x : Int) (y : Int) = W at *
  have d1 := Nat.gcd_dvd_left V.natAbs m
  have d2 := Nat.gcd_dvd_right V.natAbs m
  have d3 : ((Nat.gcd V.natAbs m : Nat) : Int) ∣ W := by
   have e1 : ((Nat.gcd V.natAbs m : Nat) : Int) ∣ V := Int.ofNat_dvd_left.2 d1
   have e2 : ((Nat.gcd V.natAbs m : Nat) : Int) ∣ (m : Int) := Int.natCast_dvd_natCast.2 d2
   have e3 := Int.dvd_sub e1 (Int.dvd_trans e2 hg)
   have : V - (V - W) = W := by omega
   rwa [this] at e3
  have d4 := Nat.dvd_gcd (Int.ofNat_dvd_left.1 d3) d2
  unfold Nat.Coprime at hc ⊢
  rw [hc] at d4
  exact Nat.eq_one_of_dvd_one d4
 have c2 : Nat.Coprime (vl A B C ((x : Int) + m * i) (y + m * j)).natAbs p := sP hp (fun h => hv (Int.ofNat_dvd_left.2 h))
 rw [e]
 exact Nat.Coprime.mul_right (Nat.Coprime.pow_right k c2) c1
theorem nh (pf : prim A B C = true) : ∀ (n a : Nat), a ≤ n → 1 ≤ a → ∃ x y : Nat, Nat.Coprime (vl A B C x y).natAbs a ∧ x ≤ 2 * a ∧ y ≤ 2 * a
 | 0, a, h, h1 => by omega
 | n + 1, a, h, h1 => by
  by_cases h2 : a = 1
  ·subst h2
   exact ⟨0, 0, Nat.coprime_one_right _, by omega, by omega⟩
  obtain ⟨p, hp, hpa⟩ := oW a a (Nat.le_refl a) (by omega)
  obtain ⟨k, m, e, hm, m1, hle⟩ := lu hp a a (Nat.le_refl a) h1
  have hle := hle hpa
  have h3 : 2 * m ≤ p * m := Nat.mul_le_mul_right m hp.1
  obtain ⟨x, y, hc, hx, hy⟩ := gF hp pf e hm (nh pf n m (by omega) m1)
  exact ⟨x, y, hc, by omega, by omega⟩
theorem Lh {q : Nat} (hq : Pr q) (h : q ≤ 23) : q ∣ 223092870 := by
 have h2 := hq.1
 rcases Nat.lt_or_ge 16 q with g | g
 ·rcases (show q = 17 ∨ q = 18 ∨ q = 19 ∨ q = 20 ∨ q = 21 ∨ q = 22 ∨ q = 23 by omega) with rfl | rfl | rfl | rfl | rfl | rfl | rfl
  ·decide
  ·rcases hq.2 2 9 (by decide) with g | g <;> revert g <;> decide
  ·decide
  ·rcases hq.2 4 5 (by decide) with g | g <;> revert g <;> decide
  ·rcases hq.2 3 7 (by decide) with g | g <;> revert g <;> decide
  ·rcases hq.2 2 11 (by decide) with g | g <;> revert g <;> decide
  decide
 exact Nat.dvd_trans (sN hq g) ⟨7429, by decide⟩
theorem mS : Pr 19 := ⟨by omega, fun x y h => by
 have e : (x * y) % 19 = ((x % 19) * (y % 19)) % 19 := Nat.mul_mod ..
 have h1 : (x * y) % 19 = 0 := Nat.mod_eq_zero_of_dvd h
 have key : ∀ u v : Fin 19, (u.val * v.val) % 19 = 0 → u.val = 0 ∨ v.val = 0 := by decide +kernel
 rcases key ⟨x % 19, Nat.mod_lt _ (by omega)⟩ ⟨y % 19, Nat.mod_lt _ (by omega)⟩ (by rw [← e]; exact h1) with g | g
 ·exact .inl (Nat.dvd_of_mod_eq_zero g)
 exact .inr (Nat.dvd_of_mod_eq_zero g)⟩
theorem pF : Pr 23 := ⟨by omega, fun x y h => by
 have e : (x * y) % 23 = ((x % 23) * (y % 23)) % 23 := Nat.mul_mod ..
 have h1 : (x * y) % 23 = 0 := Nat.mod_eq_zero_of_dvd h
 have key : ∀ u v : Fin 23, (u.val * v.val) % 23 = 0 → u.val = 0 ∨ v.val = 0 := by decide +kernel
 rcases key ⟨x % 23, Nat.mod_lt _ (by omega)⟩ ⟨y % 23, Nat.mod_lt _ (by omega)⟩ (by rw [← e]; exact h1) with g | g
 ·exact .inl (Nat.dvd_of_mod_eq_zero g)
 exact .inr (Nat.dvd_of_mod_eq_zero g)⟩
theorem pW {q n g : Nat} (hq : Pr q) (h : g ∣ q * n) (hg : ¬ q ∣ g) : g ∣ n :=
 Nat.Coprime.dvd_of_dvd_mul_left (sP hq hg) h
theorem wn {m : Nat} (h : m ∣ 510510) (h2 : m < 510510) : m ≤ 255255 := by
 obtain ⟨k, hk⟩ := h
 rcases (show k = 0 ∨ k = 1 ∨ 2 ≤ k by omega) with rfl | rfl | g
 ·omega
 ·omega
 have := Nat.mul_le_mul_left m g
 omega
theorem LX (pf : prim A B C = true) {g : Nat} (h1 : 1 ≤ g) (h2 : g ≤ 8388608) (hd : g ∣ 223092870) : ∃ x y : Nat, Nat.Coprime (vl A B C x y).natAbs g ∧ x ≤ 1400000 ∧ y ≤ 1400000 := by
 by_cases h23 : 23 ∣ g
 ·obtain ⟨m, rfl⟩ := h23
  have hm : m ∣ 9699690 := Nat.dvd_of_mul_dvd_mul_left (by omega : 0 < 23) (show 23 * m ∣ 23 * 9699690 from hd)
  have hn : ¬ 23 ∣ m := fun h => by have := Nat.dvd_trans h hm; revert this; decide
  rcases Nat.lt_or_ge 350000 m with q | q
  ·by_cases h19 : 19 ∣ m
   ·obtain ⟨t, rfl⟩ := h19
    have ht : t ∣ 510510 := Nat.dvd_of_mul_dvd_mul_left (by omega : 0 < 19) (show 19 * t ∣ 19 * 510510 from hm)
    have hn2 : ¬ 19 ∣ t := fun h => by have := Nat.dvd_trans h ht; revert this; decide
    have c1 := gF mS pf (a := 19 * t) (k := 1) (by omega) hn2 (nh pf t t (Nat.le_refl t) (by omega))
    obtain ⟨x, y, hc, hx, hy⟩ := gF pF pf (a := 23 * (19 * t)) (k := 1) (by omega) hn c1
    exact ⟨x, y, hc, by omega, by omega⟩
   have h5 : m ∣ 510510 := pW mS (show m ∣ 19 * 510510 from hm) h19
   have := wn h5 (by omega)
   omega
  obtain ⟨x, y, hc, hx, hy⟩ := gF pF pf (a := 23 * m) (k := 1) (by omega) hn (nh pf m m (Nat.le_refl m) (by omega))
  exact ⟨x, y, hc, by omega, by omega⟩
 have hm : g ∣ 9699690 := pW pF (show g ∣ 23 * 9699690 from hd) h23
 by_cases h19 : 19 ∣ g
 ·obtain ⟨t, rfl⟩ := h19
  have ht : t ∣ 510510 := Nat.dvd_of_mul_dvd_mul_left (by omega : 0 < 19) (show 19 * t ∣ 19 * 510510 from hm)
  have hn2 : ¬ 19 ∣ t := fun h => by have := Nat.dvd_trans h ht; revert this; decide
  have := wn ht (by omega)
  obtain ⟨x, y, hc, hx, hy⟩ := gF mS pf (a := 19 * t) (k := 1) (by omega) hn2 (nh pf t t (Nat.le_refl t) (by omega))
  exact ⟨x, y, hc, by omega, by omega⟩
 have h5 : g ∣ 510510 := pW mS (show g ∣ 19 * 510510 from hm) h19
 have := Nat.le_of_dvd (by omega) h5
 obtain ⟨x, y, hc, hx, hy⟩ := nh pf g g (Nat.le_refl g) h1
 exact ⟨x, y, hc, by omega, by omega⟩
theorem GB (pf : prim A B C = true) {a : Nat} (h1 : 1 ≤ a) (h2 : a ≤ 8388608) : ∃ x y : Nat, Nat.Coprime (vl A B C x y).natAbs a ∧ x ≤ 1400000 ∧ y ≤ 1400000 := by
 by_cases h : ∃ p, Pr p ∧ p ∣ a ∧ 24 ≤ p
 ·obtain ⟨p, hp, hpa, h24⟩ := h
  obtain ⟨k, m, e, hm, m1, hle⟩ := lu hp a a (Nat.le_refl a) h1
  have hle := hle hpa
  have h3 : 24 * m ≤ p * m := Nat.mul_le_mul_right m h24
  obtain ⟨x, y, hc, hx, hy⟩ := gF hp pf e hm (nh pf m m (Nat.le_refl m) m1)
  exact ⟨x, y, hc, by omega, by omega⟩
 have hg1 : 1 ≤ Nat.gcd a 223092870 := Nat.gcd_pos_of_pos_left _ (by omega)
 have hg2 := Nat.le_of_dvd (by omega) (Nat.gcd_dvd_left a 223092870)
 obtain ⟨x, y, hc, hx, hy⟩ := LX pf hg1 (by omega) (Nat.gcd_dvd_right a 223092870)
 refine ⟨x, y, ?_, hx, hy⟩
 by_cases g : Nat.Coprime (vl A B C x y).natAbs a
 ·exact g
 exfalso
 obtain ⟨q, hq, d1, d2⟩ := vO h1 g
 have h16 : q ≤ 23 := by
  rcases Nat.lt_or_ge 23 q with g | g
  ·exact absurd ⟨q, hq, d2, g⟩ h
  exact g
 have d3 := Nat.dvd_gcd d1 (Nat.dvd_gcd d2 (Lh hq h16))
 unfold Nat.Coprime at hc
 rw [hc] at d3
 have := Nat.le_of_dvd (by omega) d3
 have := hq.1
 omega
end
theorem GC {d : Int} {g : Fm} (hg : Cl d g) (h0 : d < 0) (hd : -4194304 ≤ d) : ∃ x y : Int, 0 ≤ x ∧ x ≤ 1400000 ∧ 0 ≤ y ∧ y ≤ 1400000 ∧ Int.gcd (vl g.a g.b g.c x y) (2 * d) = 1 := by
 obtain ⟨x, y, h1, h2, h3⟩ := GB hg.prim (a := (2 * d).natAbs) (by omega) (by omega)
 exact ⟨x, y, by omega, by omega, by omega, by omega, h1⟩
theorem xw {f : Fm} : gpE f = 0 → ∃ x y : Int, 0 ≤ x ∧ x ≤ 1400000 ∧ 0 ≤ y ∧ y ≤ 1400000 ∧ Int.gcd (vl f.rd.a f.rd.b f.rd.c x y) (2 * dsc f.a f.b f.c) = 1 := fun h => by
 obtain ⟨h1, h2⟩ := tO h
 obtain ⟨_, h3, h4⟩ := rH h2
 exact GC h1.rd h3 h4
end
section
open Go Go.RowKit
theorem Gn {w w' : World} (os : w'.os = w.os) (tp : w'.tape = w.tape) (out : OutD w' w) (sz : w.heap.size ≤ w'.heap.size) (old : ∀ k, k < w.heap.size → w'.heap[k]? = w.heap[k]?) :
  ∃ q os', w' = Sort.grow (w.drewN q) os' := by
 obtain ⟨o1, o2⟩ := out
 refine ⟨w'.drawn - w.drawn, w'.heap.extract w.heap.size w'.heap.size, ?_⟩
 have hh : w'.heap = w.heap ++ w'.heap.extract w.heap.size w'.heap.size := by
  apply Array.ext_getElem?
  intro k
  rw [Array.getElem?_append]
  by_cases hk : k < w.heap.size
  ·rw [if_pos hk, old k hk]
  rw [if_neg hk, Array.getElem?_extract]
  by_cases h2 : k < w'.heap.size
  ·rw [if_pos (by omega), show w.heap.size + (k - w.heap.size) = k by omega]
  rw [if_neg (by omega), Array.getElem?_eq_none (by omega)]
 have hd : w'.drawn = w.drawn + (w'.drawn - w.drawn) := by omega
 unfold Sort.grow World.drewN
 generalize w'.heap.extract w.heap.size w'.heap.size = x at hh
 generalize w'.drawn - w.drawn = y at hd
 cases w'
 simp only at os tp o1 hh hd
 subst os tp o1 hh hd
 rfl
section
variable {β : Type} {encD : β → List DV} {k : Nat}
theorem nY (hL : ∀ b, (encD b).length = k) : ∀ (l : List β) (t : Nat) (dv : DV), (l.flatMap encD)[t]? = some dv → ∃ b, l[t / k]? = some b ∧ (encD b)[t % k]? = some dv
 | [], t, dv, h => by simp at h
 | b :: l, t, dv, h => by
  rw [List.flatMap_cons, List.getElem?_append] at h
  rw [hL b] at h
  by_cases ht : t < k
  ·rw [if_pos ht] at h
   rw [Nat.div_eq_of_lt ht, Nat.mod_eq_of_lt ht]
   exact ⟨b, rfl, h⟩
  rw [if_neg ht] at h
  obtain ⟨b', h1, h2⟩ := nY hL l (t - k) dv h
  have hk : 0 < k := by
   rcases Nat.eq_zero_or_pos k with e | e
   ·subst e
    have := List.length_eq_zero_iff.1 (hL b')
    rw [this] at h2; simp at h2
   exact e
  have e1 : t / k = (t - k) / k + 1 := by
   rw [Nat.div_eq_sub_div hk (by omega)]
  have e2 : t % k = (t - k) % k := Nat.mod_eq_sub_mod (by omega)
  rw [e1, e2]
  exact ⟨b', by simpa using h1, h2⟩
theorem dL (hL : ∀ b, (encD b).length = k) (l : List β) : (l.flatMap encD).length = l.length * k := by
 induction l with
 | nil => simp
 | cons b l ih => rw [List.flatMap_cons, List.length_append, ih, hL, List.length_cons, Nat.add_mul]; omega
def ElS (h : Hp) (encD : β → List DV) (k : Nat) : Type := {x : List Value × β // x.1.length = k ∧ DReps h (encD x.2) fun i => x.1[i]?}
def ElS.enc {h : Hp} (x : ElS h encD k) : List Value := x.1.1
def ElS.ob {h : Hp} (x : ElS h encD k) : β := x.1.2
theorem ElS.one {h : Hp} (hL : ∀ b, (encD b).length = k) (x : ElS h encD k) : ∀ v ∈ x.enc, v.oneCell' = true := by
 intro v hv
 obtain ⟨i, hi⟩ := List.mem_iff_getElem?.1 hv
 have hlt := (List.getElem?_eq_some_iff.1 hi).1
 have e1 : x.enc.length = k := x.2.1
 obtain ⟨y, y1, y2⟩ := x.2.2.get i ((encD x.1.2)[i]'(by rw [hL]; omega)) (List.getElem?_eq_getElem _)
 have e2 : x.enc[i]? = some y := y1
 rw [hi] at e2; cases e2
 exact y2.one
end
theorem jD {α : Type} [Inhabited α] (enc : α → List Value) (k : Nat) (w : World) (blk off n : Nat) (d : Array α) (os : Array Obj) (i : Nat) (hi : i < w.heap.size) :
  (Proofs.sortWorldK enc k w blk off n d os).heap[i]? = if i = blk then (w.heap[i]?).map (Sort.onCells (Sort.putCells id off (Sort.flatK enc k d))) else w.heap[i]? := by
 unfold Proofs.sortWorldK
 rw [Sort.heap_grow_old _ _ (by show i < (Sort.putRow _ _ _ _ _).heap.size; rw [Sort.size_putRow]; exact hi)]
 show (w.heap.modify blk _)[i]? = _
 rw [Array.getElem?_modify]
 by_cases e : blk = i
 ·subst e; rw [if_pos rfl]
 rw [if_neg e, if_neg (fun x => e x.symm)]
open Go.Proofs in
theorem wD {P : Program} {ρ : Shelf.Ren} (L : SlLaysF0.n6 P ρ) {tt : TT} (hT : dR P tt) {j : TyI} (he : tt (ρ.t 24) = some j) (hag : j.sh.agg = true) {k : Nat} (hjs : j.size = k) (hk0 : 0 < k) {β : Type} {encD : β → List DV} (hL : ∀ b, (encD b).length = k)
  (cb : β → β → Int) (hO : Sort.SWO (ltOf cb)) {g : Nat} (hc : ∀ x y : β, aI P g [.p (.a (encD x)), .p (.a (encD y))] (.p (.c (.v (.int .i64 (cb x y)))))) {m : Nat} {e : TypeId} {l l' : List β} (hp : l'.Perm l) (hs : l'.Pairwise fun x y => ¬ cb y x < 0)
  (ha : ∀ x ∈ l, ∀ y ∈ l, ¬ cb x y < 0 → ¬ cb y x < 0 → x = y) :
  CallM P (ρ.f 6) [.vec m, .p (.c (.v (.func (.func g) #[] #[])))] (upd O m (some ⟨true, k, e, l.flatMap encD⟩)) (.t []) (upd O m (some ⟨true, k, e, l'.flatMap encD⟩)) where
 fn := by
  obtain ⟨nm, hn, hf⟩ := L.f6
  exact ⟨_, hf, hn, rfl⟩
 go h r w cargs hrep hbef := by
  obtain ⟨cl⟩ := cargs
  match cl, hrep with
  | [a, b], hrep =>
  obtain ⟨ha1, hb1, _⟩ := hrep
  simp only [AVRep] at ha1
  have hb2 : b = .func (.func g) #[] #[] := bX hb1
  subst ha1 hb2
  have hB := hbef.ow m _ (upd_same _ _ _)
  unfold BlkRep at hB
  obtain ⟨aa, n, cap, hr, hn, hcap, hn47, hmem⟩ := hB
  simp only at hn hmem
  rw [dL hL] at hn
  have hnl : n = l.length := Nat.eq_of_mul_eq_mul_right hk0 hn
  have hown : ∀ q, upd O m (some (⟨true, k, e, l.flatMap encD⟩ : Blk)) q ≠ none → q = m := fun q hq => by
   by_cases hqm : q = m
   ·exact hqm
   rw [aP _ _ _ _ hqm] at hq; exact absurd rfl hq
  have hown' : ∀ q b, upd O m (some (⟨true, k, e, l'.flatMap encD⟩ : Blk)) q = some b → q = m ∧ b = ⟨true, k, e, l'.flatMap encD⟩ := fun q b hq => by
   by_cases hqm : q = m
   ·subst hqm; rw [upd_same] at hq; cases hq; exact ⟨rfl, rfl⟩
   rw [aP _ _ _ _ hqm] at hq; cases hq
  have hself : upd O m (some (⟨true, k, e, l.flatMap encD⟩ : Blk)) m ≠ none := by rw [upd_same]; simp
  rcases List.eq_nil_or_concat l with hl | ⟨l0, b0, hl⟩
  ·subst hl
   have hl' : l' = [] := List.Perm.eq_nil hp
   subst hl'
   have hn0 : n = 0 := by simpa using hnl
   subst hn0
   rw [hr]
   refine (AnyF.slices_SortFunc_none L aa cap (.func (.func g) #[] #[]) w).mono ?_
   rintro e' w' ⟨rfl, rfl⟩
   refine ⟨_, h, rfl, ⟨[], rfl, trivial⟩, ⟨fun q b hq => ?_, fun q hq => ?_, hbef.hi, fun q i hq => hbef.ho q i ?_, rfl, rfl, .refl _, Nat.le_refl _, fun _ _ _ => rfl, .refl _, fun _ hq => .inl hq⟩⟩
   ·obtain ⟨rfl, rfl⟩ := hown' q b hq
    exact hbef.ow q _ (upd_same _ _ _)
   ·exact hq
   exact hq
  have hlen : 0 < l.length := by rw [hl]; simp
  have hcap0 : cap ≠ 0 := by omega
  rcases hmem with hmem | ⟨kk, c, haa, hheap, hcs, hrd⟩
  ·exact absurd hmem hcap0
  subst haa
  have hkk : kk < w.heap.size := (Array.getElem?_eq_some_iff.1 hheap).1
  have hrm : bi (r m) = some kk := by rw [hr]; simp [bi, hcap0]
  have hkn : h kk = none := hbef.ho m kk hself hrm
  have hel : ∀ i : Fin n, (((c.toList.drop (i.val * k)).take k).length = k ∧ DReps h (encD (l[i.val]'(by omega))) fun q => ((c.toList.drop (i.val * k)).take k)[q]?) := fun i => by
   have hik : i.val * k + k ≤ c.size := by
    rw [hcs]
    have := Nat.mul_le_mul_right k (show i.val + 1 ≤ cap by omega)
    rw [Nat.add_mul, Nat.one_mul] at this; exact this
   refine ⟨by rw [List.length_take, List.length_drop, Array.length_toList]; omega, ?_⟩
   rw [DReps.iff]
   intro q d hq
   have hqk : q < k := by have := (List.getElem?_eq_some_iff.1 hq).1; rwa [hL] at this
   have hfl : (l.flatMap encD)[i.val * k + q]? = some d := by
    have hlt : i.val * k + q < (l.flatMap encD).length := by
     rw [dL hL]
     have := Nat.mul_le_mul_right k (show i.val + 1 ≤ l.length by omega)
     rw [Nat.add_mul, Nat.one_mul] at this; omega
    obtain ⟨b', g1, g2⟩ := nY hL l (i.val * k + q) _ (List.getElem?_eq_getElem hlt)
    have e1 : (i.val * k + q) / k = i.val := by rw [Nat.mul_comm, Nat.mul_add_div hk0, Nat.div_eq_of_lt hqk]; rfl
    have e2 : (i.val * k + q) % k = q := by rw [Nat.mul_comm, Nat.mul_add_mod, Nat.mod_eq_of_lt hqk]
    rw [e1, List.getElem?_eq_getElem (by omega)] at g1
    rw [e2] at g2
    cases g1
    rw [hq] at g2
    rw [List.getElem?_eq_getElem hlt, ← g2]
   obtain ⟨y, y1, y2⟩ := hrd.get _ d hfl
   refine ⟨y, ?_, y2⟩
   rw [List.getElem?_take, if_pos hqk, List.getElem?_drop, Array.getElem?_toList]; exact y1
  let mk : Fin n → ElS h encD k := fun i => ⟨((c.toList.drop (i.val * k)).take k, l[i.val]'(by omega)), hel i⟩
  let D : Array (ElS h encD k) := Array.ofFn mk
  have hDs : D.size = n := by simp [D]
  haveI : Inhabited (ElS h encD k) := ⟨mk ⟨0, by omega⟩⟩
  have hDob : D.toList.map ElS.ob = l := by
   apply List.ext_getElem
   ·simp [hDs, hnl]
   intro i h1 h2
   rw [List.getElem_map, Array.getElem_toList]
   have e3 : D[i]'(by simpa using h1) = mk ⟨i, by simpa [hDs] using h1⟩ := by simp [D]
   rw [e3]; rfl
  have hDget : ∀ i, (hi : i < n) → D[i]! = mk ⟨i, hi⟩ := fun i hi => by
   rw [getElem!_pos D i (by omega)]
   simp [D]
  have hH : Sort.HoldsK ElS.enc k w kk 0 D := by
   intro q hq
   have hq' : q < n * k := by rw [Sort.size_flatK, hDs] at hq; exact hq
   have hqn : q / k < n := (Nat.div_lt_iff_lt_mul hk0).2 hq'
   rw [Sort.get_flatK _ _ _ _ (by rw [hDs]; exact hq'), hDget _ hqn, Nat.zero_add]
   have hqc : q < c.size := by
    rw [hcs]
    exact Nat.lt_of_lt_of_le hq' (Nat.mul_le_mul_right k hcap)
   have ev : ((mk ⟨q / k, hqn⟩).enc)[q % k]! = c[q] := by
    have hmod := Nat.mod_lt q hk0
    have edm : q / k * k + q % k = q := by rw [Nat.mul_comm]; exact Nat.div_add_mod q k
    show ((c.toList.drop (q / k * k)).take k)[q % k]! = c[q]
    rw [List.getElem!_eq_getElem?_getD, List.getElem?_take, if_pos hmod, List.getElem?_drop, edm, Array.getElem?_toList, Array.getElem?_eq_getElem hqc]
    rfl
   rw [ev]
   refine ⟨?_, ?_⟩
   ·simp [World.cell?, hheap, hqc]
   simp [World.frozen?, hheap]
  have hnot : ∀ i o, h i = some o → i ≠ kk := fun i o ho hik => by subst hik; rw [hkn] at ho; cases ho
  have hcmp : CmpLays P g #[] ElS.enc k (fun x y : ElS h encD k => cb x.ob y.ob) kk 0 D.size w := by
   intro m0 os0 dk hdk x y
   have hWi : ∀ i o, h i = some o → (sortWorldK ElS.enc k w kk 0 m0 dk os0).heap[i]? = some o := fun i o ho => by
    have hiw : i < w.heap.size := (Array.getElem?_eq_some_iff.1 (hbef.hi i o ho)).1
    rw [jD _ _ _ _ _ _ _ _ _ hiw, if_neg (hnot i o ho)]
    exact hbef.hi i o ho
   have hW : Before h r O (sortWorldK ElS.enc k w kk 0 m0 dk os0) := ⟨fun q b hq => (by cases hq), fun q _ _ hq => absurd rfl hq, hWi, fun q _ hq => absurd rfl hq, hbef.gl⟩
   have e0 : (#[Value.agg x.enc.toArray, Value.agg y.enc.toArray] ++ #[] : Array Value) = #[Value.agg x.enc.toArray, Value.agg y.enc.toArray] := by simp
   rw [e0]
   have rx : ∀ z : ElS h encD k, AVRep h r (.p (.a (encD z.ob))) (Value.agg z.enc.toArray) := fun z => by
    refine ⟨z.1.1.toArray, rfl, by rw [hL, List.size_toArray]; exact z.2.1, ?_⟩
    show DReps h (encD z.1.2) fun i => (z.1.1).toArray[i]?
    simp only [List.getElem?_toArray]
    exact z.2.2
   have hcx := (hc x.ob y.ob).go h r _ #[.agg x.enc.toArray, .agg y.enc.toArray] ⟨rx x, rx y, trivial⟩ hW
   refine hcx.mono ?_
   rintro e' w' ⟨v, h', rfl, hv, q⟩
   refine ⟨by rw [bX hv], Gn q.os q.tape q.output q.size fun i hi => q.old i hi ?_⟩
   rintro ⟨m1, hm1, _⟩
   exact hm1 rfl
  have hO' : Sort.SWO (ltOf fun x y : ElS h encD k => cb x.ob y.ob) := ⟨fun x => hO.irrefl x.ob, fun x y z => hO.trans x.ob y.ob z.ob, fun x y z => hO.ntrans x.ob y.ob z.ob⟩
  have eg : ∀ args w, (callFunc g args).run P w = .ok (.enter g args) w := fun args w => cK (hc (mk ⟨0, by omega⟩).ob (mk ⟨0, by omega⟩).ob).fn args w
  have hcon := AnyQ.slices_SortFunc L k (fun w => by rw [(hT _ _ he).isAgg w, hag]) (fun w => by rw [(hT _ _ he).size w, hjs]) ElS.enc (fun x => x.2.1) (fun x => x.one hL) (fun x y : ElS h encD k => cb x.ob y.ob) hO' g #[] kk 0 cap D w eg hcmp hH hkk (by omega)
  rw [hDs] at hcon
  rw [hr]
  refine hcon.mono ?_
  rintro e' w' ⟨rfl, d', n', os', hperm, hsort, rfl⟩
  obtain ⟨hsz, _, hpm⟩ := hperm
  have e1 : d'.extract 0 n = d' := by rw [← hDs, ← hsz]; exact Array.extract_size
  have e2 : D.extract 0 n = D := by rw [← hDs]; exact Array.extract_size
  rw [e1, e2] at hpm
  have hpl : (d'.toList.map ElS.ob).Perm l := by rw [← hDob]; exact hpm.map _
  have hds : d'.size = n := by rw [hsz, hDs]
  have hsl : (d'.toList.map ElS.ob).Pairwise fun x y => ¬ cb y x < 0 := by
   rw [List.pairwise_iff_getElem]
   intro i j hi hj hij
   simp only [List.length_map, Array.length_toList] at hi hj
   have := hsort i j (Nat.zero_le _) hij (by omega)
   unfold ltOf at this
   have := dF0 this
   rw [getElem!_pos d' j hj, getElem!_pos d' i hi] at this
   simpa using this
  have hll : d'.toList.map ElS.ob = l' := by
   refine List.Perm.eq_of_pairwise (le := fun x y => ¬ cb y x < 0) ?_ hsl hs (hpl.trans hp.symm)
   intro x y hx hy h1 h2
   exact ha x (hpl.mem_iff.1 hx) y (hp.mem_iff.1 hy) h2 h1
  refine ⟨_, h, rfl, ⟨[], rfl, trivial⟩, ⟨fun q b hq => ?_, fun q hq => ?_, fun i o ho => ?_, fun q i hq => ?_, rfl, rfl, ⟨rfl, Nat.le_add_right _ _⟩, ?_, fun i hi hno => ?_, .refl _, fun _ hq => .inl hq⟩⟩
  ·obtain ⟨rfl, rfl⟩ := hown' q b hq
   unfold BlkRep
   simp only
   refine ⟨_, n, cap, hr, by rw [dL hL, ← hll]; simp [hds], hcap, hn47, .inr ⟨kk, Sort.putCells id 0 (Sort.flatK ElS.enc k d') c, rfl, ?_, ?_, ?_⟩⟩
   ·rw [jD _ _ _ _ _ _ _ _ _ hkk, if_pos rfl, hheap]; rfl
   ·simp [Sort.putCells, hcs]
   rw [DReps.iff]
   intro t dv ht
   obtain ⟨b', g1, g2⟩ := nY hL l' t dv ht
   have hlt : t < l'.length * k := by have := (List.getElem?_eq_some_iff.1 ht).1; rwa [dL hL] at this
   have hl'n : l'.length = n := by rw [← hll]; simp [hds]
   rw [hl'n] at hlt
   have htn : t / k < n := (Nat.div_lt_iff_lt_mul hk0).2 hlt
   have htc : t < c.size := by rw [hcs]; exact Nat.lt_of_lt_of_le hlt (Nat.mul_le_mul_right k hcap)
   rw [← hll, List.getElem?_map, Array.getElem?_toList, Array.getElem?_eq_getElem (by omega)] at g1
   simp only [Option.map_some, Option.some.injEq] at g1
   subst g1
   obtain ⟨y, y1, y2⟩ := (d'[t / k]'(by omega)).2.2.get _ dv g2
   refine ⟨y, ?_, y2⟩
   simp only [Sort.putCells, Array.getElem?_mapIdx, Array.getElem?_eq_getElem htc, Option.map_some]
   rw [if_pos ⟨Nat.zero_le _, by rw [Sort.size_flatK, hds]; omega⟩, Nat.sub_zero, Sort.get_flatK _ _ _ _ (by rw [hds]; exact hlt), getElem!_pos d' (t / k) (by omega)]
   have y3 : ((d'[t / k]'(by omega)).enc)[t % k]? = some y := y1
   rw [List.getElem!_eq_getElem?_getD, y3]
   rfl
  ·have := hown' q
   cases hq2 : upd O m (some (⟨true, k, e, l'.flatMap encD⟩ : Blk)) q with
   | none => exact absurd hq2 hq
   | some b => obtain ⟨rfl, _⟩ := hown' q b hq2; exact hself
  ·have hiw : i < w.heap.size := (Array.getElem?_eq_some_iff.1 (hbef.hi i o ho)).1
   rw [jD _ _ _ _ _ _ _ _ _ hiw, if_neg (hnot i o ho)]; exact hbef.hi i o ho
  ·intro hqi
   cases hq2 : upd O m (some (⟨true, k, e, l'.flatMap encD⟩ : Blk)) q with
   | none => exact absurd hq2 hq
   | some b => obtain ⟨rfl, _⟩ := hown' q b hq2; exact hbef.ho q i hself hqi
  ·exact size_sortWorldK_c _ _ _ _ _ _ _ _
  rw [jD _ _ _ _ _ _ _ _ _ hi, if_neg]
  intro hik
  exact hno ⟨m, hself, by rw [hrm, hik]⟩
end
section
open Go Go.RowKit
end
section
open Go Go.RowKit
end
section
open Go Go.RowKit
section
variable {β : Type} {encD : β → List DV} {z : Nat}
abbrev SL (encD : β → List DV) (l : List β) : DV := .sl l.length (l.flatMap encD)
abbrev VB (z : Nat) (e : TypeId) (encD : β → List DV) (l : List β) : Blk := ⟨true, z, e, l.flatMap encD⟩
theorem qU (hL : ∀ b, (encD b).length = z) : ∀ (l : List β) (i : Nat) (h : i < l.length), (l.flatMap encD).drop (i * z) = encD l[i] ++ (l.drop (i + 1)).flatMap encD
 | x :: l, 0, _ => by simp
 | x :: l, i + 1, h => by
  have ih := qU hL l i (by simpa using h)
  have e : (i + 1) * z = (encD x).length + i * z := by rw [hL, Nat.add_mul, Nat.one_mul, Nat.add_comm]
  rw [e, List.flatMap_cons, List.drop_length_add_append, ih]
  simp
variable {P : Program} {tt : TT} (hT : dR P tt)
variable {dst : Option Nat} {ty : TypeId} {pos : String} {af : Array Edge} {gd : Option (Nat × Bool)} {d : Nat} {ρ : Operand → AV} {own : Own}
variable {T e : TypeId} {i j : TyI} {x y : Operand}
include hT
theorem dP (hL : ∀ b, (encD b).length = z) (hz : 0 < z) (b0 : β) {k : IntKind} {n : Int} {l : List β} (ht : tt T = some i) (hs : i.sh = .sl e) (he : tt e = some j) (hj : j.size = z) (hx : ρ x = .p (.c (SL encD l))) (hy : ρ y = .p (.c (.v (.int k n)))) (hn : 0 ≤ n ∧ n < l.length) :
  Eff P ⟨dst, .indexAddr T x y, ty, pos, af, gd⟩ d ρ own (.ip (encD (l.getD n.toNat b0) ++ (l.drop (n.toNat + 1)).flatMap encD)) [] none [] := by
 have hi : n.toNat < l.length := by omega
 have h := b9 (dst := dst) (ty := ty) (pos := pos) (af := af) (gd := gd) (d := d) (own := own) hT ht hs he hx (l := l.length) (xs := l.flatMap encD) (by rfl) hy hn (by
  intro h0
  have := dL hL l
  rw [h0] at this
  have h1 : 1 * 1 ≤ l.length * z := Nat.mul_le_mul (by omega) hz
  simp at this
  omega)
 rw [hj, qU hL l n.toNat hi] at h
 have e1 : l.getD n.toNat b0 = l[n.toNat] := by simp [List.getD, hi]
 rw [e1]; exact h
theorem oR (hL : ∀ b, (encD b).length = z) (hz : Nat.blt 0 z = true) {m : Nat} {l : List β} {b : β} (ht : tt T = some i) (hs : i.sh = .sl e) (he : tt e = some j) (hj : j.size = z) (hjb : Nat.ble j.bytes (32 * z) = true) (hx : ρ x = .vec m) (hb : own m = some (VB z e encD l)) (hy : ρ y = .p (.c (.sl 1 (encD b)))) (hfit : l.length ≤ 10000000) (hmd : m ≠ d) (hzb : Nat.ble z 96 = true) :
  Eff P ⟨dst, .call ⟨.builtin .append, #[x, y], #[T, T]⟩, ty, pos, af, gd⟩ d ρ own (.vec d) [(m, none)] (some (VB z e encD (l ++ [b]))) [m] := by
 have hl : (VB z e encD l).cs.length = l.length * z := dL hL l
 have hz2 := bL0 hzb
 have h1 : l.length * z ≤ 10000000 * 96 := Nat.mul_le_mul hfit hz2
 have h := fQ (dst := dst) (ty := ty) (pos := pos) (af := af) (gd := gd) hT ht hs he hx hb rfl hj.symm rfl hy (by rfl) (by rw [hj, Nat.one_mul]; exact hL b) (by rw [hj]; exact hjb) (by rw [hl, hj]; omega) (by rw [hj]; exact hz) hmd
 unfold VB
 rw [List.flatMap_append]
 rw [hj] at h
 simpa using h
end
section
variable {β : Type} {encD : β → List DV} {z : Nat}
theorem kK {P : Program} {B : Bool} {N np : Nat} {Q : Exit → St → Prop} {s : St} {c : Code} (hL : ∀ b, (encD b).length = z) (hz : Nat.blt 0 z = true) {t m : Nat} {l : List β} {e : TypeId} (ht : s.regs t = .vec m) (hb : s.own m = some (VB z e encD l)) (h : AWp P B N np c Q ⟨upd s.regs t (.p (.c (SL encD l))), upd s.own m none⟩) : AWp P B N np c Q s :=
 gZ (n := l.length) ht hb rfl (dL hL l).symm (show 0 < z by simpa using hz) h
end
section
end
end
section
open Go Go.RowKit
end
section
open Go Go.RowKit
end
section
open Go Go.RowKit
def ow (o s k : Int) : Int := if k % 2 = 1 then o * s else o
theorem rN {c n : Int} (hn : 0 < n) (ho : n % 2 = 1) (hc : c = -4 ∨ c = 8 ∨ c = -8) : kr c n = cv c n := by
 rw [jj hc]
 have h2 : kr 2 n = sg8 n := by
  have hcp := kZ (n := n) ho
  rw [iZ hn ho, if_pos hcp, uC hn ho]
 have hm1 : kr (-1) n = if n % 4 = 1 then 1 else -1 := kr_m1 hn ho
 have h4 : kr (-4) n = kr (-1) n * (kr 2 n * kr 2 n) := by rw [← da hn ho, ← da hn ho]; rfl
 have h8 : kr 8 n = kr 2 n * (kr 2 n * kr 2 n) := by rw [← da hn ho, ← da hn ho]; rfl
 have h8m : kr (-8) n = kr (-1) n * (kr 2 n * (kr 2 n * kr 2 n)) := by rw [← da hn ho, ← da hn ho, ← da hn ho]; rfl
 have hs : sg8 n * sg8 n = 1 := py ho
 rw [h2, hs] at h4 h8 h8m
 rw [hm1] at h4 h8m
 obtain ⟨r, hr⟩ := ng n
 have key : ∀ r : Fin 8, r.val % 2 = 1 → spv (-4) r.val = (if (r.val : Int) % 4 = 1 then 1 else -1) ∧ spv 8 r.val = sg8 r.val ∧ spv (-8) r.val = (if (r.val : Int) % 4 = 1 then 1 else -1) * sg8 r.val := by decide +kernel
 obtain ⟨k1, k2, k3⟩ := key r (by omega)
 have e4 : n % 4 = (r.val : Int) % 4 := by omega
 have e8 : sg8 n = sg8 r.val := by unfold sg8; rw [hr, show ((r.val : Int)) % 8 = (r.val : Int) by have := r.isLt; omega]
 rw [hr]
 rcases hc with rfl | rfl | rfl
 ·rw [h4, k1, e4, Int.mul_one]
 ·rw [h8, k2, e8, Int.mul_one]
 rw [h8m, k3, e4, e8, Int.mul_one]
where
 kr_m1 {n : Int} (hn : 0 < n) (ho : n % 2 = 1) : kr (-1) n = if n % 4 = 1 then 1 else -1 := by
  have hc : Cop (-1) n := Cop.of_inv (b := -1) ⟨0, by omega⟩
  rw [iZ hn ho, if_pos hc]
  exact SS_m1 hn ho
 SS_m1 {n : Int} (hn : 0 < n) (ho : n % 2 = 1) : SS (-1) n = if n % 4 = 1 then 1 else -1 := by
  have e : bJ ((rg n).map fun x => up n (-1 * x)) = n / 2 := by
   rw [← tB n hn]
   refine dw fun x hx => ?_
   have := (fx hn).1 hx
   have e1 : (-1 * x) % n = n - x := by
    rw [← Int.add_emod_right (-1 * x) n, Int.emod_eq_of_lt (by omega) (by omega)]; omega
   unfold up
   rw [e1, if_neg (by omega)]
  rw [uD, e]
  unfold par
  split <;> split <;> omega
end
section
open Go Go.RowKit
theorem zg {d : Int} {f : Fm} (hf : Cl d f) (hd : -4194304 ≤ d) (hE : szE d = 0) : (gvL f).length = (chs d).length := by
 unfold gvL
 rw [if_pos (ke hf hd hE), hf.disc, List.length_map]
end
section
open Go Go.RowKit
def agL (D n : Int) (f : Fm) : List Int := if Int.gcd (2 * D) n = 1 then (((chs D).zip (gvL f)).filter fun p => decide (cv p.1 n ≠ p.2)).map Prod.fst else []
structure Ans where
 kind : Int
 x : Int
 y : Int
 m : Int
 roots : List Int
 forms : List Fm
def fmL (D n : Int) : List Fm := (rbL D n).map fun b => (frq D n b).rd
def fnd (D : Int) (n : Nat) (f : Fm) : Ans :=
 match dx (prL D n f) with
 | some p => ⟨1, p.1, p.2, 0, [], []⟩
 | none => match blk D n with
  | some q => ⟨2, 0, 0, q, [], []⟩
  | none => match agL D n f with
   | c :: _ => ⟨2, 0, 0, c, [], []⟩
   | [] => ⟨3, 0, 0, 0, rbL D n, fmL D n⟩
section
variable {D : Int} {n : Nat} {f g : Fm}
theorem DN {l : List Int} (F : Int → Int) : ∀ p ∈ l.zip (l.map F), p.2 = F p.1 := by
 induction l with
 | nil => intro p hp; simp at hp
 | cons a l ih =>
  intro p hp
  rw [List.map_cons, List.zip_cons_cons] at hp
  rcases List.mem_cons.1 hp with rfl | hp
  ·rfl
  exact ih p hp
theorem uX {F : Int → Int} : ∀ {l v : List Int}, l.length = v.length → (∀ p ∈ l.zip v, p.2 = F p.1) → v = l.map F
 | [], [], _, _ => rfl
 | [], _ :: _, h, _ => by simp at h
 | _ :: _, [], h, _ => by simp at h
 | a :: l, b :: v, h, k => by
  rw [List.map_cons, ← uX (l := l) (v := v) (by simpa using h) fun p hp => k p (by simp [hp])]
  have : b = F a := k (a, b) (by simp)
  rw [this]
theorem GQ (hf : Cl D f) (hd : -4194304 ≤ D) (hE : szE D = 0) (hg : Int.gcd (2 * D) n = 1) : agL D n f = [] ↔ gvL f = (chs D).map fun c => cv c n := by
 unfold agL
 rw [if_pos hg, List.map_eq_nil_iff, List.filter_eq_nil_iff]
 constructor
 ·intro h
  exact uX (zg hf hd hE).symm fun p hp => by
   have := h p hp
   simp only [ne_eq, decide_not, Bool.not_eq_true', decide_eq_false_iff_not, Decidable.not_not] at this
   exact this.symm
 intro h p hp
 rw [h] at hp
 have := DN (fun c => cv c n) p hp
 simp [this]
theorem IH (hn : 0 < n) (hf : Cl D f) : prL D n f ≠ [] ↔ ∃ x y, Int.gcd x y = 1 ∧ vl f.a f.b f.c x y = n := by
 constructor
 ·intro h
  obtain ⟨p, hp⟩ := List.exists_mem_of_ne_nil _ h
  exact ⟨p.1, p.2, (mT hf (by omega)).1 hp⟩
 rintro ⟨x, y, h⟩ e
 have := (mT hf (n := (n : Int)) (by omega)).2 h
 rw [e] at this; cases this
theorem II (hn : 0 < n) (hf : Cl D f) (hd : -4194304 ≤ D) (hE : szE D = 0) (hg : Int.gcd (2 * D) n = 1) (h : prL D n f ≠ []) : gvL f = (chs D).map fun c => cv c n := by
 obtain ⟨x, y, h1, h2⟩ := (IH hn hf).1 h
 exact (zf hf hd (jk hf) hE (Ia hf ⟨x, y, h2.symm⟩) (by rw [Int.gcd_comm]; exact hg)).symm
theorem nX {p : Pr2} (h : dx (prL D n f) = some p) : fnd D n f = ⟨1, p.1, p.2, 0, [], []⟩ := by unfold fnd; rw [h]
theorem nf {q : Nat} (h : dx (prL D n f) = none) (k : blk D n = some q) : fnd D n f = ⟨2, 0, 0, q, [], []⟩ := by unfold fnd; rw [h, k]
theorem o6 {c : Int} {l : List Int} (h : dx (prL D n f) = none) (k : blk D n = none) (j : agL D n f = c :: l) : fnd D n f = ⟨2, 0, 0, c, [], []⟩ := by unfold fnd; rw [h, k]; simp only [j]
theorem nc (h : dx (prL D n f) = none) (k : blk D n = none) (j : agL D n f = []) : fnd D n f = ⟨3, 0, 0, 0, rbL D n, fmL D n⟩ := by unfold fnd; rw [h, k]; simp only [j]
theorem zj (hn : 0 < n) (hf : Cl D f) : (fnd D n f).kind = 1 ↔ prL D n f ≠ [] := by
 have hb := mG hf (n := (n : Int)) (by omega)
 cases h : dx (prL D n f) with
 | some p =>
  rw [nX h]
  exact ⟨fun _ e => (by rw [hb.2 e] at h; cases h), fun _ => rfl⟩
 | none =>
  refine ⟨fun e => ?_, fun e => absurd (hb.1 h) e⟩
  exfalso
  cases k : blk D n with
  | some q => rw [nf h k] at e; exact absurd (show (2 : Int) = 1 ∨ (3 : Int) = 1 ∨ (1 : Int) = 2 ∨ (3 : Int) = 2 from by first | exact .inl e | exact .inr (.inl e) | exact .inr (.inr (.inl e)) | exact .inr (.inr (.inr e))) (by decide)
  | none =>
   cases j : agL D n f with
   | cons c l => rw [o6 h k j] at e; exact absurd (show (2 : Int) = 1 ∨ (3 : Int) = 1 ∨ (1 : Int) = 2 ∨ (3 : Int) = 2 from by first | exact .inl e | exact .inr (.inl e) | exact .inr (.inr (.inl e)) | exact .inr (.inr (.inr e))) (by decide)
   | nil => rw [nc h k j] at e; exact absurd (show (2 : Int) = 1 ∨ (3 : Int) = 1 ∨ (1 : Int) = 2 ∨ (3 : Int) = 2 from by first | exact .inl e | exact .inr (.inl e) | exact .inr (.inr (.inl e)) | exact .inr (.inr (.inr e))) (by decide)
theorem JD (hn : 0 < n) (hf : Cl D f) : (fnd D n f).kind = 2 ↔ prL D n f = [] ∧ (rbL D n = [] ∨ agL D n f ≠ []) := by
 have hb := mG hf (n := (n : Int)) (by omega)
 have hk := ur (lf hf) hn
 cases h : dx (prL D n f) with
 | some p =>
  rw [nX h]
  refine ⟨fun e => absurd (show (2 : Int) = 1 ∨ (3 : Int) = 1 ∨ (1 : Int) = 2 ∨ (3 : Int) = 2 from by first | exact .inl e | exact .inr (.inl e) | exact .inr (.inr (.inl e)) | exact .inr (.inr (.inr e))) (by decide), fun e => ?_⟩
  rw [hb.2 e.1] at h; cases h
 | none =>
  have h0 := hb.1 h
  cases k : blk D n with
  | some q =>
   rw [nf h k]
   refine ⟨fun _ => ⟨h0, .inl ?_⟩, fun _ => rfl⟩
   cases e : rbL D n with
   | nil => rfl
   | cons b l => have := hk.2 (by rw [e]; simp); rw [k] at this; cases this
  | none =>
   have h1 := hk.1 k
   cases j : agL D n f with
   | cons c l => rw [o6 h k j]; exact ⟨fun _ => ⟨h0, .inr (by simp)⟩, fun _ => rfl⟩
   | nil =>
    rw [nc h k j]
    refine ⟨fun e => absurd (show (2 : Int) = 1 ∨ (3 : Int) = 1 ∨ (1 : Int) = 2 ∨ (3 : Int) = 2 from by first | exact .inl e | exact .inr (.inl e) | exact .inr (.inr (.inl e)) | exact .inr (.inr (.inr e))) (by decide), fun e => ?_⟩
    rcases e.2 with e | e
    ·exact absurd e h1
    exact absurd rfl e
theorem JC (hn : 0 < n) (hf : Cl D f) (h1 : (fnd D n f).kind ≠ 1) (h2 : (fnd D n f).kind ≠ 2) : prL D n f = [] ∧ rbL D n ≠ [] ∧ agL D n f = [] ∧ fnd D n f = ⟨3, 0, 0, 0, rbL D n, fmL D n⟩ := by
 have e1 : prL D n f = [] := by
  cases e : prL D n f with
  | nil => rfl
  | cons p l => exact absurd ((zj hn hf).2 (by rw [e]; simp)) h1
 have hk := ur (lf hf) hn
 have hb := (mG hf (n := (n : Int)) (by omega)).2 e1
 cases k : blk D n with
 | some q => rw [nf hb k] at h2; exact absurd rfl h2
 | none =>
  cases j : agL D n f with
  | cons c l => rw [o6 hb k j] at h2; exact absurd rfl h2
  | nil => exact ⟨e1, hk.1 k, rfl, nc hb k j⟩
theorem FJ (hn : 0 < n) (hf : Cl D f) (h : (fnd D n f).kind ≠ 2) : rbL D n ≠ [] := by
 by_cases h1 : (fnd D n f).kind = 1
 ·exact yG ((zj hn hf).1 h1)
 exact (JC hn hf h1 h).2.1
theorem Bs (hn : 0 < n) (hf : Cl D f) (hg : Cl D g) (hd : -4194304 ≤ D) (hE : szE D = 0) (h : (fnd D n f).kind = 2) (hp : prL D n g ≠ []) : rbL D n ≠ [] ∧ gsB f g = false := by
 have hr := yG hp
 refine ⟨hr, ?_⟩
 obtain ⟨_, h2⟩ := (JD hn hf).1 h
 have ha := h2.resolve_left hr
 have hc : Int.gcd (2 * D) n = 1 := by
  by_cases e : Int.gcd (2 * D) n = 1
  ·exact e
  exact absurd (by unfold agL; rw [if_neg e]) ha
 rw [(Jo hf hg hd hE).1]
 refine decide_eq_false fun e => ha ?_
 rw [GQ hf hd hE hc, e]
 exact II hn hg hd hE hc hp
end
end
section
open Go Go.RowKit
end
section
open Go Go.RowKit
def pp (b : Option Pr2) (p : Pr2) : Option Pr2 := if okP p = true then (match b with | none => some p | some q => if p.2 < q.2 then some p else some q) else b
theorem o4 : ∀ (l : List Pr2) (b : Option Pr2), kJ l → (∀ q, b = some q → ∀ p ∈ l, lt2 q p = true) → l.foldl pp b = l.foldl dY b
 | [], _, _, _ => rfl
 | p :: l, b, hs, hb => by
  have h' := List.pairwise_cons.1 hs
  have e : pp b p = dY b p := by
   unfold pp dY
   by_cases hp : okP p = true
   ·rw [if_pos hp, if_pos hp]
    cases b with
    | none => rfl
    | some q =>
     have h1 := lt2_iff.1 (hb q rfl p (by simp))
     simp only
     by_cases h2 : p.2 < q.2
     ·rw [if_pos h2, if_pos (show btr p q = true from decide_eq_true (.inl h2))]
     have h3 : ¬ btr p q = true := fun x => by
      have := dT0 x
      omega
     rw [if_neg h2, if_neg h3]
   rw [if_neg hp, if_neg hp]
  rw [List.foldl_cons, List.foldl_cons, e]
  refine o4 l _ h'.2 fun q hq x hx => ?_
  unfold dY at hq
  have hbx : ∀ q, b = some q → lt2 q x = true := fun q hq => hb q hq x (by simp [hx])
  have hpx := h'.1 x hx
  split at hq
  ·cases b with
   | none => cases hq; exact hpx
   | some r =>
    simp only at hq
    split at hq
    ·cases hq; exact hpx
    cases hq; exact hbx _ rfl
  exact hbx q hq
theorem xB {l : List Pr2} (hs : kJ l) : l.foldl pp none = dx l := o4 l none hs fun q e => by cases e
theorem qi {p r : Nat} (hp : 2 ≤ p) (hr : Nat.gcd p r = 1) (hr0 : 0 < r) : ∀ (f f' a q : Nat), 0 < a → a ≤ f' → a * r ≤ f → (fg p f (a * r) q).2 = (fg p f' a q).2
 | 0, f', a, q, h0, _, h => by have := Nat.mul_pos h0 hr0; omega
 | f + 1, 0, a, q, h0, h1, _ => by omega
 | f + 1, f' + 1, a, q, h0, h1, h2 => by
  unfold fg
  by_cases h : a % p = 0
  ·have hd : p ∣ a := Nat.dvd_of_mod_eq_zero h
   have hd2 : p ∣ a * r := Nat.dvd_trans hd ⟨r, rfl⟩
   rw [if_pos h, if_pos (Nat.mod_eq_zero_of_dvd hd2)]
   have e : a * r / p = a / p * r := by
    rw [Nat.mul_comm, Nat.mul_div_assoc _ hd, Nat.mul_comm]
   have hlt : a / p < a := Nat.div_lt_self h0 (by omega)
   have hpos : 0 < a / p := Nat.div_pos (Nat.le_of_dvd h0 hd) (by omega)
   rw [e]
   refine qi hp hr hr0 f f' (a / p) (q * p) hpos (by omega) ?_
   have : a / p * r < a * r := Nat.mul_lt_mul_of_pos_right hlt hr0
   omega
  have h3 : ¬ a * r % p = 0 := fun x => h (by
   have hd : p ∣ r * a := by rw [Nat.mul_comm]; exact Nat.dvd_of_mod_eq_zero x
   exact Nat.mod_eq_zero_of_dvd (Nat.Coprime.dvd_of_dvd_mul_left hr hd))
  rw [if_neg h, if_neg h3]
theorem Iy {p a r : Nat} (hp : 2 ≤ p) (h0 : 0 < a) (hr0 : 0 < r) (hr : Nat.gcd p r = 1) : (ptN p (a * r)).2 = (ptN p a).2 :=
 qi hp hr hr0 (a * r) a a 1 h0 (Nat.le_refl _) (Nat.le_refl _)
theorem Fi {p n : Nat} (h : n % p ≠ 0) (hn : 0 < n) : ptN p n = (n, 1) := by
 unfold ptN
 cases n with
 | zero => omega
 | succ n => unfold fg; rw [if_neg h]
structure BkI (D : Int) (n0 left p : Nat) : Prop where
 two : 2 ≤ p
 pos : 0 < left
 nd : Nd left p
 ex : ∃ r, n0 = left * r ∧ 0 < r ∧ Nat.gcd left r = 1
 fd : ∃ f, left + 2 ≤ f + p ∧ blk D n0 = (ppL f left p).find? fun (q : Nat) => (rbL D (q : Int)).isEmpty
section
variable {D : Int} {n0 left p : Nat}
theorem BkI.done (h : BkI D n0 left p) (hp : left < p) : blk D n0 = none := by
 obtain ⟨f, _, e⟩ := h.fd
 have h1 : left ≤ 1 := by
  rcases Nat.lt_or_ge left 2 with x | x
  ·omega
  exact absurd (Nat.dvd_refl left) (h.nd left x hp)
 rw [e]
 cases f with
 | zero => rfl
 | succ f => unfold ppL; rw [if_pos h1]; rfl
end
end
section
open Go Go.RowKit
def Prm (p : Nat) : Prop := 2 ≤ p ∧ ∀ k, 2 ≤ k → k * k ≤ p → ¬ k ∣ p
theorem Fj {p d : Nat} (h : Prm p) (hd : d ∣ p) : d = 1 ∨ d = p := by
 obtain ⟨h2, hk⟩ := h
 obtain ⟨e, he⟩ := hd
 have hd0 : d ≠ 0 := fun x => by rw [x, Nat.zero_mul] at he; omega
 have he0 : e ≠ 0 := fun x => by rw [x, Nat.mul_zero] at he; omega
 rcases Nat.lt_or_ge d 2 with x | x
 ·exact .inl (by omega)
 rcases Nat.lt_or_ge e 2 with y | y
 ·have : e = 1 := by omega
  exact .inr (by rw [he, this, Nat.mul_one])
 exfalso
 rcases Nat.le_total d e with z | z
 ·exact hk d x (by rw [he]; exact Nat.mul_le_mul_left d z) ⟨e, he⟩
 exact hk e y (by rw [he]; exact Nat.mul_le_mul_right e z) ⟨d, by rw [Nat.mul_comm]; exact he⟩
theorem IV {p left : Nat} (hp : 2 ≤ p) (h : Nd left p) (hd : p ∣ left) : Prm p := by
 refine ⟨hp, fun k hk hkk hkd => ?_⟩
 have hlt : k < p := by
  rcases Nat.lt_or_ge k p with x | x
  ·exact x
  have : p * 2 ≤ k * k := Nat.mul_le_mul x hk
  omega
 exact h k hk hlt (Nat.dvd_trans hkd hd)
theorem Fk {p p' : Nat} (h : Prm p') (hp : 2 ≤ p) (hlt : p < p') : Nat.gcd p' p = 1 := by
 have h1 : Nat.gcd p' p ∣ p' := Nat.gcd_dvd_left ..
 have h2 : Nat.gcd p' p ∣ p := Nat.gcd_dvd_right ..
 rcases Fj h h1 with e | e
 ·exact e
 rw [e] at h2
 have := Nat.le_of_dvd (by omega) h2
 omega
theorem pG {n0 : Nat} : ∀ (f left p : Nat), 2 ≤ p → 0 < left → Nd left p → (∃ r, n0 = left * r ∧ 0 < r ∧ Nat.gcd left r = 1) → left + 2 ≤ f + p →
  ∀ q, q ∈ ppL f left p ↔ ∃ p', p ≤ p' ∧ Prm p' ∧ p' ∣ left ∧ q = (ptN p' n0).2
 | 0, left, p, hp, hl, hd, hr, hf, q => by
  have h1 : left = 1 := by
   rcases Nat.lt_or_ge left 2 with x | x
   ·omega
   exact absurd (Nat.dvd_refl left) (hd left x (by omega))
  subst h1
  refine ⟨fun h => (by cases h), ?_⟩
  rintro ⟨p', h1, h2, h3, _⟩
  have := Nat.le_of_dvd (by decide) h3
  omega
 | f + 1, left, p, hp, hl, hd, hr, hf, q => by
  unfold ppL
  by_cases h : left ≤ 1
  ·rw [if_pos h]
   refine ⟨fun h => (by cases h), ?_⟩
   rintro ⟨p', h1, h2, h3, _⟩
   have := Nat.le_of_dvd hl h3
   omega
  rw [if_neg h]
  by_cases hm : left % p = 0
  ·have hB : BkI 0 left left 2 ∨ True := .inr trivial
   obtain ⟨h1, h2, h3, k, h5⟩ := oK hp hl
   obtain ⟨g1, g2⟩ := rD hp hl hd
   have hdv : p ∣ left := Nat.dvd_of_mod_eq_zero hm
   have hq1 : 1 < (ptN p left).2 := by
    rcases Nat.lt_or_ge 1 (ptN p left).2 with x | x
    ·exact x
    exfalso
    have : 0 < (ptN p left).2 := by rw [h5]; exact Nat.pow_pos (by omega)
    have e : (ptN p left).2 = 1 := by omega
    rw [e, Nat.mul_one] at h2
    rw [h2] at h3
    exact h3 hm
   have hle : (ptN p left).1 ≤ left := Nat.le_of_dvd hl ⟨_, h2.symm⟩
   obtain ⟨r, r1, r2, r3⟩ := hr
   have hpart : (ptN p n0).2 = (ptN p left).2 := by
    rw [r1]
    refine Iy hp hl r2 ?_
    have hx : Nat.gcd p r ∣ Nat.gcd left r := Nat.dvd_gcd (Nat.dvd_trans (Nat.gcd_dvd_left ..) hdv) (Nat.gcd_dvd_right ..)
    rw [r3] at hx
    exact Nat.dvd_one.1 hx
   have ih := pG (n0 := n0) f (ptN p left).1 (p + 1) (by omega) h1 g2 ⟨(ptN p left).2 * r, by rw [← Nat.mul_assoc, h2]; exact r1, Nat.mul_pos (by omega) r2, by
    refine Nat.Coprime.mul_right g1 ?_
    have hx : Nat.gcd (ptN p left).1 r ∣ Nat.gcd left r := Nat.dvd_gcd (Nat.dvd_trans (Nat.gcd_dvd_left ..) ⟨_, h2.symm⟩) (Nat.gcd_dvd_right ..)
    rw [r3] at hx
    exact Nat.dvd_one.1 hx⟩ (by omega) q
   rw [if_pos hq1, List.singleton_append, List.mem_cons, ih]
   constructor
   ·rintro (rfl | ⟨p', a1, a2, a3, a4⟩)
    ·exact ⟨p, Nat.le_refl _, IV hp hd hdv, hdv, hpart.symm⟩
    exact ⟨p', by omega, a2, Nat.dvd_trans a3 ⟨_, h2.symm⟩, a4⟩
   rintro ⟨p', a1, a2, a3, a4⟩
   rcases Nat.lt_or_ge p p' with x | x
   ·refine .inr ⟨p', x, a2, ?_, a4⟩
    have hc := pY (Fk a2 hp x) k
    rw [← h5] at hc
    rw [← h2] at a3
    exact Nat.Coprime.dvd_of_dvd_mul_right hc a3
   have : p' = p := by omega
   subst this
   exact .inl (by rw [a4, hpart])
  have e := Fi hm hl
  rw [e]
  have ih := pG (n0 := n0) f left (p + 1) (by omega) hl (fun e e1 e2 e3 => by
   rcases Nat.lt_or_ge e p with x | x
   ·exact hd e e1 x e3
   have : e = p := by omega
   subst this
   exact hm (Nat.mod_eq_zero_of_dvd e3)) hr (by omega) q
  simp only [Nat.lt_irrefl, if_false, List.nil_append]
  rw [ih]
  constructor
  ·rintro ⟨p', a1, a⟩; exact ⟨p', by omega, a⟩
  rintro ⟨p', a1, a2, a3, a4⟩
  rcases Nat.lt_or_ge p p' with x | x
  ·exact ⟨p', x, a2, a3, a4⟩
  have : p' = p := by omega
  subst this
  exact absurd (Nat.mod_eq_zero_of_dvd a3) hm
theorem qw {n q : Nat} (hn : 0 < n) : q ∈ parts n ↔ ∃ p, Prm p ∧ p ∣ n ∧ q = (ptN p n).2 := by
 unfold parts
 rw [pG (n0 := n) n n 2 (by decide) hn (fun e e1 e2 => by omega) ⟨1, by omega, by decide, by simp⟩ (by omega)]
 constructor
 ·rintro ⟨p, _, a⟩; exact ⟨p, a⟩
 rintro ⟨p, a⟩; exact ⟨p, a.1.1, a⟩
def jo (D : Int) (n : Nat) (f : Fm) (m : Int) : Bool := decide (m ∈ agL D n f) || (decide (m ∈ (parts n).map fun (q : Nat) => (q : Int)) && decide (rbL D m = []))
def jT (D : Int) (n : Nat) (f : Fm) (roots : List Int) (forms : List Fm) : Bool := decide (rbL D n ≠ []) && decide (roots = rbL D n) && decide (forms = fmL D n) && !decide (f.rd ∈ fmL D n)
def rgt (D : Int) (n : Nat) (f : Fm) (a : Ans) : Bool :=
 if a.kind = 1 then decide (a.m = 0) && decide (a.roots = [] ∧ a.forms = []) && rA f n (a.x, a.y)
 else if a.kind = 2 then decide (a.x = 0 ∧ a.y = 0) && decide (a.roots = [] ∧ a.forms = []) && jo D n f a.m
 else if a.kind = 3 then decide (a.x = 0 ∧ a.y = 0) && decide (a.m = 0) && jT D n f a.roots a.forms
 else false
end
section
open Go Go.RowKit
section
end
end
section
open Go Go.RowKit
section
end
section
end
end
section
open Go Go.RowKit
abbrev enI (z : Int) : List DV := [zn z, zm z]
theorem fE (z : Int) : (enI z).length = 2 := rfl
end
section
open Go Go.RowKit
section
variable {P : Program} {n0 : Nat} {J : Nat → Hp → (Nat → Prop) → World → Prop} {N np : Nat} {Q : Exit → Nat → St → Prop} {ops : Array Oper} {os : List Oper} {i k : Nat} {s : St}
theorem RY.split {t : Nat} {b : Bool} (_h : s.regs t = .p (.c (.v (.bool b)))) (h1 : b = true → RY P n0 J N np Q ops os i k s) (h2 : b = false → RY P n0 J N np Q ops os i k s) : RY P n0 J N np Q ops os i k s := by
 cases b
 ·exact h2 rfl
 exact h1 rfl
theorem xd {n k : Nat} {b : Bool} (h : b = true) : nx n k b = k + 1 := by rw [h]; rfl
theorem xe {n k : Nat} {b : Bool} (h : b = false) : n ≤ nx n k b := by rw [h]; show n ≤ n + 1 + k; omega
end
theorem GF (a b : Int) : (bu a b == 0) = decide (a = b) := by
 by_cases h : a = b
 ·rw [decide_eq_true h, cmpI_eq_zero.2 h]; rfl
 rw [decide_eq_false h]
 exact beq_eq_false_iff_ne.2 fun x => h (cmpI_eq_zero.1 x)
theorem EK (a : Int) : (sgn a == 0) = decide (a = 0) := by
 unfold sgn
 by_cases h : a = 0
 ·subst h; rfl
 rw [decide_eq_false h, if_neg h]
 split <;> rfl
def cmP (p q : Pr2) : Int := if bu p.1 q.1 ≠ 0 then bu p.1 q.1 else bu p.2 q.2
def rgE (n : Int) : Int := if n < 1 then 1 else if 65536 < n then 2 else 0
theorem KN {n : Int} (h : n < 1) : rgE n = 1 := by unfold rgE; rw [if_pos h]
theorem KM {n : Int} (h : 65536 < n) : rgE n = 2 := by unfold rgE; rw [if_neg (by omega), if_pos h]
theorem wL {n : Int} (h1 : ¬ n < 1) (h2 : ¬ 65536 < n) : rgE n = 0 := by unfold rgE; rw [if_neg h1, if_neg h2]
theorem oB {D : Int} {m : Nat} : ∀ x ∈ (rbL D m).map (fun b => ([PI b, PF (frq D m b)] : List PV)), x.length = 2 := by
 intro x hx
 obtain ⟨b, _, rfl⟩ := List.mem_map.1 hx
 rfl
theorem K5 {D : Int} {m k : Nat} {x : List PV} (h : ((rbL D m).map (fun b => ([PI b, PF (frq D m b)] : List PV)))[k]? = some x) : decide (rbL D m = []) = false :=
 decide_eq_false fun e => by rw [e] at h; cases h
theorem oC {D : Int} {m k : Nat} {x : List PV} (h : ((rbL D m).map (fun b => ([PI b, PF (frq D m b)] : List PV)))[k]? = some x) : ∃ b, (rbL D m)[k]? = some b ∧ x = [PI b, PF (frq D m b)] := by
 rw [List.getElem?_map] at h
 cases e : (rbL D (m : Int))[k]? with
 | none => rw [e] at h; cases h
 | some b => rw [e] at h; exact ⟨b, rfl, (Option.some.inj h).symm⟩
theorem mc (D : Int) (m : Nat) (hm : m ≤ 65536) : (rbL D m).length ≤ 131072 := by
 have : (rbL D m).length ≤ (2 * (m : Int)).toNat := by
  unfold rbL
  exact Nat.le_trans (List.length_filter_le _ _) (by rw [List.length_map, List.length_range]; exact Nat.le_refl _)
 omega
theorem Dh {D : Int} {m k : Nat} {b : Int} (h : (rbL D m)[k]? = some b) : (rbL D m).take (k + 1) = (rbL D m).take k ++ [b] := by
 obtain ⟨hk, e⟩ := List.getElem?_eq_some_iff.1 h
 rw [List.take_succ_eq_append_getElem hk, e]
theorem If {D : Int} {m : Nat} : (rbL D m).take ((rbL D m).map (fun b => ([PI b, PF (frq D m b)] : List PV))).length = rbL D m := by
 rw [List.length_map, List.take_length]
theorem zk (D : Int) (m : Nat) (hm : m ≤ 65536) : (fmL D m).length ≤ 131072 := by
 unfold fmL; rw [List.length_map]; exact mc D m hm
theorem LJ {D : Int} {m k : Nat} {b : Int} (h : (rbL D m)[k]? = some b) : (fmL D m).take (k + 1) = (fmL D m).take k ++ [(frq D m b).rd] := by
 unfold fmL
 rw [← List.map_take, ← List.map_take, Dh h, List.map_append]; rfl
theorem JF {D : Int} {m : Nat} : (fmL D m).take ((rbL D m).map (fun b => ([PI b, PF (frq D m b)] : List PV))).length = fmL D m := by
 rw [List.length_map]; unfold fmL; rw [← List.map_take, List.take_length]
theorem Ie {D : Int} {m : Nat} (h : ((rbL D m).map (fun b => ([PI b, PF (frq D m b)] : List PV))).length = 0) : decide (rbL D m = []) = true :=
 decide_eq_true (by simpa using h)
def rbT (D n : Int) (i : Nat) : List Int := ((List.range i).map fun (j : Nat) => (j : Int)).filter (isR D n)
theorem rz {D n : Int} {i : Nat} : rbT D n (i + 1) = rbT D n i ++ if isR D n i = true then [(i : Int)] else [] := by
 unfold rbT
 rw [List.range_succ, List.map_append, List.filter_append]
 congr 1
 simp only [List.map_cons, List.map_nil, List.filter_cons, List.filter_nil]
theorem yu {D n : Int} {i : Nat} (h : isR D n i = false) : (rbT D n (i + 1)).length = (rbT D n i).length := by
 rw [rz, h]; simp
theorem EU {D n : Int} {i : Nat} (h : isR D n i = true) : (rbT D n (i + 1)).length = (rbT D n i).length + 1 := by
 rw [rz, h]; simp
theorem vw {D n : Int} : rbT D n (2 * n).toNat = rbL D n := rfl
theorem EV {D n : Int} {i j : Nat} (h : i ≤ j) : ∃ l, rbT D n j = rbT D n i ++ l := by
 obtain ⟨d, rfl⟩ : ∃ d, j = i + d := ⟨j - i, by omega⟩
 clear h
 induction d with
 | zero => exact ⟨[], by simp⟩
 | succ d ih =>
  obtain ⟨l, hl⟩ := ih
  refine ⟨l ++ (if isR D n ((i + d : Nat) : Int) = true then [((i + d : Nat) : Int)] else []), ?_⟩
  rw [← Nat.add_assoc, rz, hl, List.append_assoc]
theorem EW {D n : Int} {i : Nat} (h : isR D n i = true) (hi : (i : Int) < 2 * n) : (rbL D n)[(rbT D n i).length]? = some (i : Int) := by
 obtain ⟨l, hl⟩ := EV (D := D) (n := n) (i := i + 1) (j := (2 * n).toNat) (by omega)
 rw [← vw, hl, rz, if_pos h, List.append_assoc, List.getElem?_append_right (Nat.le_refl _), Nat.sub_self]
 rfl
theorem Gg {D n : Int} {b : Int} (h : ¬ b * b % (4 * n) = D % (4 * n)) : isR D n b = false := by
 unfold isR; rw [decide_eq_false h]; rfl
theorem Gf {D n : Int} {b : Int} (h : prim n b ((b * b - D) / (4 * n)) = false) : isR D n b = false := by
 unfold isR; rw [h, Bool.and_false]
theorem Ge {D n : Int} {b : Int} (h1 : b * b % (4 * n) = D % (4 * n)) (h : prim n b ((b * b - D) / (4 * n)) = true) : isR D n b = true := by
 unfold isR; rw [h, decide_eq_true h1]; rfl
end
section
open Go Go.RowKit
section
variable {α β : Type}
theorem eW {l : List α} {k : Nat} {x : α} (h : l[k]? = some x) : l.take (k + 1) = l.take k ++ [x] := by
 rw [List.take_add_one, h]; rfl
theorem pS {l : List α} {k : Nat} {x : α} (h : l[k]? = some x) : ∃ r, l = l.take k ++ x :: r := by
 obtain ⟨hk, e⟩ := List.getElem?_eq_some_iff.1 h
 refine ⟨l.drop (k + 1), ?_⟩
 rw [← e, List.getElem_cons_drop, List.take_append_drop]
def fp (p : α → Bool) (l : List α) (k : Nat) : Nat := ((l.take k).filter p).length
theorem BX {p : α → Bool} {l : List α} {k : Nat} {x : α} (h : l[k]? = some x) (hp : p x = true) : fp p l (k + 1) = fp p l k + 1 := by
 unfold fp
 rw [eW h, List.filter_append, List.length_append, List.filter_cons, if_pos hp]
 rfl
theorem Gu {p : α → Bool} {l : List α} {k : Nat} {x : α} (h : l[k]? = some x) (hp : p x = false) : fp p l (k + 1) = fp p l k := by
 unfold fp
 rw [eW h, List.filter_append, List.length_append, List.filter_cons, if_neg (by rw [hp]; decide)]
 rfl
theorem BY {p : α → Bool} {l : List α} {k : Nat} {x : α} (h : l[k]? = some x) (hp : p x = true) : (l.filter p)[fp p l k]? = some x := by
 obtain ⟨r, e⟩ := pS h
 have : l.filter p = (l.take k).filter p ++ x :: r.filter p := by
  conv => lhs; rw [e]
  rw [List.filter_append, List.filter_cons, if_pos hp]
 rw [this]
 unfold fp
 rw [List.getElem?_append_right (Nat.le_refl _), Nat.sub_self]
 rfl
theorem BZ {p : α → Bool} {l : List α} {k : Nat} (h : l.length ≤ k) : fp p l k = (l.filter p).length := by
 unfold fp; rw [List.take_of_length_le h]
def fmN (G : α → List β) (l : List α) (k : Nat) : Nat := ((l.take k).flatMap G).length
theorem fmN_0 {G : α → List β} {l : List α} : fmN G l 0 = 0 := by unfold fmN; simp
theorem DA {G : α → List β} {l : List α} {k : Nat} {x : α} (h : l[k]? = some x) : fmN G l (k + 1) = fmN G l k + (G x).length := by
 unfold fmN
 rw [eW h, List.flatMap_append, List.length_append]
 simp
theorem Gs {G : α → List β} {l : List α} {k j : Nat} {x : α} {y : β} (h : l[k]? = some x) (hy : (G x)[j]? = some y) : (l.flatMap G)[fmN G l k + j]? = some y := by
 obtain ⟨r, e⟩ := pS h
 have : l.flatMap G = (l.take k).flatMap G ++ (G x ++ r.flatMap G) := by
  conv => lhs; rw [e]
  rw [List.flatMap_append, List.flatMap_cons]
 rw [this]
 unfold fmN
 rw [List.getElem?_append_right (Nat.le_add_right _ _), Nat.add_sub_cancel_left, List.getElem?_append_left (List.getElem?_eq_some_iff.1 hy).1, hy]
theorem Gt {G : α → List β} {l : List α} : fmN G l l.length = (l.flatMap G).length := by
 unfold fmN; rw [List.take_length]
end
def atV (m n : Int) : Int := if m = -4 then 2 - n % 4 else if m = 8 then kr 2 n else if m = -8 then kr (-2) n else kr n m
theorem L7 {m n : Int} (h : m = -4) : 2 - n % 4 = atV m n := by unfold atV; rw [if_pos h]
theorem L6 {m n : Int} (h : m = 8) : kr 2 n = atV m n := by unfold atV; rw [if_neg (by omega), if_pos h]
theorem L5 {m n : Int} (h : m = -8) : kr (-2) n = atV m n := by unfold atV; rw [if_neg (by omega), if_neg (by omega), if_pos h]
theorem L4 {m n : Int} (h1 : ¬ m = -4) (h2 : ¬ m = 8) (h3 : ¬ m = -8) : kr n m = atV m n := by unfold atV; rw [if_neg h1, if_neg h2, if_neg h3]
theorem J3 {m n : Int} (hn : 0 < n) (ho : n % 2 = 1) : atV m n = cv m n := by
 have h2 : kr 2 n = sg8 n := by
  have hcp := kZ (n := n) ho
  rw [iZ hn ho, if_pos hcp, uC hn ho]
 have hs : sg8 n * sg8 n = 1 := py ho
 have hm1 : kr (-1) n = if n % 4 = 1 then 1 else -1 := by
  have := rN hn ho (c := -4) (.inl rfl)
  have h4 : kr (-4) n = kr (-1) n * (kr 2 n * kr 2 n) := by rw [← da hn ho, ← da hn ho]; rfl
  rw [h2, hs, Int.mul_one] at h4
  rw [← h4, this, jj (.inl rfl)]
  have : n % 8 = 1 ∨ n % 8 = 3 ∨ n % 8 = 5 ∨ n % 8 = 7 := by omega
  rcases this with e | e | e | e
  ·rw [e, if_pos (by omega)]; decide
  ·rw [e, if_neg (by omega)]; decide
  ·rw [e, if_pos (by omega)]; decide
  rw [e, if_neg (by omega)]; decide
 unfold atV
 split
 ·next h =>
  subst h
  have h4 : kr (-4) n = kr (-1) n * (kr 2 n * kr 2 n) := by rw [← da hn ho, ← da hn ho]; rfl
  rw [h2, hs, Int.mul_one, rN hn ho (.inl rfl), hm1] at h4
  rw [h4]; split <;> omega
 split
 ·next h =>
  subst h
  have h8 : kr 8 n = kr 2 n * (kr 2 n * kr 2 n) := by rw [← da hn ho, ← da hn ho]; rfl
  rw [rN hn ho (.inr (.inl rfl)), h2, hs, Int.mul_one] at h8
  rw [h8, h2]
 split
 ·next h =>
  subst h
  have h8 : kr (-8) n = kr (-1) n * (kr 2 n * (kr 2 n * kr 2 n)) := by rw [← da hn ho, ← da hn ho, ← da hn ho]; rfl
  have hm2 : kr (-2) n = kr (-1) n * kr 2 n := by rw [← da hn ho]; rfl
  rw [rN hn ho (.inr (.inr rfl)), h2, hs, Int.mul_one] at h8
  rw [h8, hm2, h2]
 next h1 h2 h3 =>
 unfold cv
 rw [if_neg (by omega)]
abbrev enP (p : Pr2) : List DV := [zn p.1, zm p.1, zn p.2, zm p.2]
theorem iQ (p : Pr2) : (enP p).length = 4 := rfl
theorem gV {p q : Pr2} : cmP p q < 0 ↔ p.1 < q.1 ∨ (p.1 = q.1 ∧ p.2 < q.2) := by
 unfold cmP
 split
 ·next h =>
  rw [cmpI_lt_zero]
  have : p.1 ≠ q.1 := fun e => h (cmpI_eq_zero.2 e)
  constructor
  ·exact .inl
  rintro (h | h)
  ·exact h
  exact absurd h.1 this
 next h =>
 have e : p.1 = q.1 := cmpI_eq_zero.1 (Decidable.not_not.1 h)
 rw [cmpI_lt_zero]
 constructor
 ·exact fun h => .inr ⟨e, h⟩
 rintro (h | h)
 ·omega
 exact h.2
theorem GG : Sort.SWO (Proofs.ltOf cmP) where
 irrefl x := by unfold Proofs.ltOf; rw [decide_eq_false_iff_not, gV]; omega
 trans x y z := by unfold Proofs.ltOf; rw [decide_eq_true_iff, decide_eq_true_iff, decide_eq_true_iff, gV, gV, gV]; omega
 ntrans x y z := by unfold Proofs.ltOf; rw [decide_eq_false_iff_not, decide_eq_false_iff_not, decide_eq_false_iff_not, gV, gV, gV]; omega
theorem Cf {x y : Pr2} (h1 : ¬ cmP x y < 0) (h2 : ¬ cmP y x < 0) : x = y := by
 rw [gV] at h1 h2
 obtain ⟨a, b⟩ := x
 obtain ⟨c, d⟩ := y
 simp only at h1 h2
 have e1 : a = c := by omega
 have e2 : b = d := by omega
 subst e1 e2
 rfl
theorem ED {l : List Pr2} (h : kJ l) : l.Pairwise fun x y => ¬ cmP y x < 0 :=
 List.Pairwise.imp (fun {x y} k => by have := lt2_iff.1 k; rw [gV]; omega) h
theorem qS {p : Pr2} : ∀ l : List Pr2, (jr p l).Perm (p :: l)
 | [] => List.Perm.refl _
 | q :: l => by
  unfold jr
  split
  ·exact ((qS l).cons q).trans (List.Perm.swap p q l)
  exact List.Perm.refl _
theorem si : ∀ l : List Pr2, (srP l).Perm l
 | [] => List.Perm.refl _
 | p :: l => (qS _).trans ((si l).cons p)
end
section
open Go Go.RowKit
def PtI (p n m q : Nat) : Prop := 0 < m ∧ 0 < q ∧ m * q ≤ n ∧ ∃ f, m ≤ f ∧ fg p f m q = ptN p n
theorem PtI.start {p n : Nat} (hn : 0 < n) : PtI p n n 1 := ⟨hn, by decide, by omega, n, Nat.le_refl _, rfl⟩
theorem PtI.next {p n m q : Nat} (hp : 2 ≤ p) (h : PtI p n m q) (hm : m % p = 0) : PtI p n (m / p) (q * p) ∧ m / p < m ∧ q * p ≤ n := by
 obtain ⟨h1, h2, h3, f, h4, h5⟩ := h
 have hd : p ∣ m := Nat.dvd_of_mod_eq_zero hm
 have hpm : p ≤ m := Nat.le_of_dvd h1 hd
 have k1 : 0 < m / p := Nat.div_pos hpm (by omega)
 have k2 : m / p < m := Nat.div_lt_self h1 (by omega)
 have k3 := Nat.div_mul_cancel hd
 have e : m / p * (q * p) = m * q := by
  calc m / p * (q * p) = m / p * p * q := by rw [Nat.mul_comm q p, Nat.mul_assoc]
   _ = m * q := by rw [k3]
 have hq : q * p ≤ n := by
  have : 1 * (q * p) ≤ m / p * (q * p) := Nat.mul_le_mul_right _ k1
  omega
 refine ⟨⟨k1, Nat.mul_pos h2 (by omega), by omega, ?_⟩, k2, hq⟩
 cases f with
 | zero => omega
 | succ f =>
  refine ⟨f, by omega, ?_⟩
  rw [← h5]
  conv => rhs; unfold fg
  rw [if_pos hm]
theorem PtI.done {p n m q : Nat} (h : PtI p n m q) (hm : ¬ m % p = 0) : m = (ptN p n).1 ∧ q = (ptN p n).2 := by
 obtain ⟨h1, h2, h3, f, h4, h5⟩ := h
 cases f with
 | zero => omega
 | succ f =>
  rw [← h5]
  unfold fg
  rw [if_neg hm]
  exact ⟨rfl, rfl⟩
theorem PtI.b {p n m q : Nat} (h : PtI p n m q) : 0 < m ∧ m ≤ n ∧ 0 < q ∧ q ≤ n := by
 obtain ⟨h1, h2, h3, _⟩ := h
 have a1 : m * 1 ≤ m * q := Nat.mul_le_mul_left _ h2
 have a2 : 1 * q ≤ m * q := Nat.mul_le_mul_right _ h1
 omega
structure PaI (n0 m p d : Nat) : Prop where
 two : 2 ≤ p
 pos : 0 < m
 le : m ≤ n0
 nd : Nd m p
 ex : ∃ done f, parts n0 = done ++ ppL f m p ∧ done.length = d ∧ m + 2 ≤ f + p
theorem PaI.start {n : Nat} (hn : 0 < n) : PaI n n 2 0 := ⟨Nat.le_refl _, hn, Nat.le_refl _, fun e h1 h2 => by omega, [], n, rfl, rfl, Nat.le_refl _⟩
theorem PaI.ple {n0 m p d : Nat} (h : PaI n0 m p d) (hm : 1 < m) : p ≤ m := by
 rcases Nat.lt_or_ge m p with x | x
 ·exact absurd (Nat.dvd_refl m) (h.nd m hm x)
 exact x
theorem Dn {f m p : Nat} (h : 1 < m) : ppL (f + 1) m p = (if 1 < (ptN p m).2 then [(ptN p m).2] else []) ++ ppL f (ptN p m).1 (p + 1) := by
 conv => lhs; unfold ppL
 rw [if_neg (by omega)]
theorem Lj {f m p : Nat} (h : ¬ 1 < m) : ppL f m p = [] := by
 cases f with
 | zero => rfl
 | succ f => unfold ppL; rw [if_pos (by omega)]
theorem PaI.pt1 {n0 m p d : Nat} (h : PaI n0 m p d) : 0 < (ptN p m).1 ∧ (ptN p m).1 ≤ m := by
 obtain ⟨h1, h2, h3, k, h4⟩ := oK h.two h.pos
 exact ⟨h1, Nat.le_of_dvd h.pos ⟨_, h2.symm⟩⟩
theorem PaI.yes {n0 m p d : Nat} (h : PaI n0 m p d) (hm : 1 < m) (hq : 1 < (ptN p m).2) : (parts n0)[d]? = some (ptN p m).2 ∧ PaI n0 (ptN p m).1 (p + 1) (d + 1) := by
 have hp := h.ple hm
 obtain ⟨k1, k2⟩ := h.pt1
 obtain ⟨done, f, h1, h2, h3⟩ := h.ex
 cases f with
 | zero => omega
 | succ f =>
  rw [Dn hm, if_pos hq] at h1
  refine ⟨?_, ⟨by have := h.two; omega, k1, by have := h.le; omega, (rD h.two h.pos h.nd).2, done ++ [(ptN p m).2], f, ?_, by rw [List.length_append, h2]; rfl, by omega⟩⟩
  ·rw [h1, List.getElem?_append_right (by omega), h2, Nat.sub_self]; rfl
  rw [h1]; simp
theorem PaI.no {n0 m p d : Nat} (h : PaI n0 m p d) (hm : 1 < m) (hq : ¬ 1 < (ptN p m).2) : PaI n0 (ptN p m).1 (p + 1) d := by
 have hp := h.ple hm
 obtain ⟨k1, k2⟩ := h.pt1
 obtain ⟨done, f, h1, h2, h3⟩ := h.ex
 cases f with
 | zero => omega
 | succ f =>
  rw [Dn hm, if_neg hq] at h1
  exact ⟨by have := h.two; omega, k1, by have := h.le; omega, (rD h.two h.pos h.nd).2, done, f, by rw [h1]; simp, h2, by omega⟩
theorem PaI.done {n0 m p d : Nat} (h : PaI n0 m p d) (hm : ¬ 1 < m) : (parts n0).length = d := by
 obtain ⟨done, f, h1, h2, h3⟩ := h.ex
 rw [h1, Lj hm, List.append_nil, h2]
theorem Fw {n q : Nat} (hn : 0 < n) (h : q ∈ parts n) : 2 ≤ q ∧ q ≤ n := by
 obtain ⟨p, h1, h2, rfl⟩ := (qw hn).1 h
 obtain ⟨k1, k2, k3, k, k4⟩ := oK h1.1 hn
 have hd : (ptN p n).2 ∣ n := ⟨_, by rw [Nat.mul_comm]; exact k2.symm⟩
 refine ⟨?_, Nat.le_of_dvd hn hd⟩
 cases k with
 | zero =>
  rw [Nat.pow_zero] at k4
  rw [k4, Nat.mul_one] at k2
  rw [k2] at k3
  exact absurd (Nat.mod_eq_zero_of_dvd h2) k3
 | succ k =>
  rw [k4, Nat.pow_succ]
  have := h1.1
  have : 1 * p ≤ p ^ k * p := Nat.mul_le_mul_right _ (Nat.pow_pos (by omega))
  omega
end
section
open Go Go.RowKit
def bk : Option Pr2 → Int
 | none => 0
 | some _ => 1
def bx (b : Option Pr2) : Int := (b.getD (0, 0)).1
def by_ (b : Option Pr2) : Int := (b.getD (0, 0)).2
theorem Nc {b : Option Pr2} (h : bk b = 0) : b = none := by
 cases b
 ·rfl
 cases h
theorem Ck {b : Option Pr2} (h : ¬ bk b = 0) : b = some (bx b, by_ b) := by
 cases b
 ·exact absurd rfl h
 rfl
theorem sf {b : Option Pr2} {p : Pr2} (h : p.2 < 0 ∨ (p.2 = 0 ∧ p.1 < 0)) : dY b p = b := by
 unfold dY okP
 rw [if_neg (by simp only [decide_eq_true_eq]; omega)]
theorem yi {p : Pr2} (h : ¬ p.2 < 0) (h2 : ¬ (p.2 = 0 ∧ p.1 < 0)) : okP p = true := by
 unfold okP; rw [decide_eq_true_eq]; omega
theorem De {b : Option Pr2} {p : Pr2} (ho : okP p = true) (h : bk b = 0) : dY b p = some p := by
 rw [Nc h]; unfold dY; rw [if_pos ho]
theorem ru {b : Option Pr2} {p : Pr2} (ho : okP p = true) (h : ¬ bk b = 0) (hy : p.2 < by_ b ∨ (p.2 = by_ b ∧ p.1 < bx b)) : dY b p = some p := by
 rw [Ck h]; unfold dY; rw [if_pos ho]
 show (if btr p (bx b, by_ b) = true then some p else _) = some p
 rw [if_pos]
 unfold btr; rw [decide_eq_true_eq]; exact hy
theorem ry {b : Option Pr2} {p : Pr2} (ho : okP p = true) (h : ¬ bk b = 0) (hy : ¬ (p.2 < by_ b ∨ (p.2 = by_ b ∧ p.1 < bx b))) : dY b p = b := by
 rw [Ck h]; unfold dY; rw [if_pos ho]
 show (if btr p (bx b, by_ b) = true then some p else some (bx b, by_ b)) = _
 rw [if_neg]
 unfold btr; rw [decide_eq_true_eq]; exact hy
def dF (l : List Pr2) (k : Nat) : Option Pr2 := (l.take k).foldl dY none
theorem GL (l : List Pr2) : dF l 0 = none := by unfold dF; simp
theorem eF {l : List Pr2} {k : Nat} {p : Pr2} (h : l[k]? = some p) : dF l (k + 1) = dY (dF l k) p := by
 unfold dF; rw [eW h, List.foldl_append]; rfl
theorem zK {l : List Pr2} {k : Nat} (h : l.length ≤ k) : dF l k = dx l := by
 unfold dF; rw [List.take_of_length_le h]; rfl
def FsI (l : List Pr2) (k : Nat) (b : Int) : Prop := (b = -1 ∧ (l.take k).foldl pp none = none) ∨ ∃ i : Nat, b = i ∧ i < k ∧ ∃ q, l[i]? = some q ∧ (l.take k).foldl pp none = some q
theorem FsI.done {l : List Pr2} {b : Int} (i : FsI l l.length b) (hs : kJ l) {p : Pr2} (h : dx l = some p) : ¬ b < 0 ∧ l[b.toNat]? = some p := by
 have e := xB hs
 rw [h] at e
 rcases i with ⟨e', f⟩ | ⟨j, e', hj, q, h1, h2⟩
 ·rw [List.take_length] at f; rw [f] at e; cases e
 rw [List.take_length] at h2
 rw [h2] at e
 obtain rfl := Option.some.inj e
 subst e'
 exact ⟨by omega, h1⟩
def LcI (n : Nat) (m : Int) (p : Nat) : Prop := ∀ p', p' < p → Prm p' → p' ∣ n → m ≠ ((ptN p' n).2 : Int)
def PrI (n p k : Nat) (b : Bool) : Prop := b = true ↔ n % p = 0 ∧ ∀ j, 2 ≤ j → j < k → ¬ j ∣ p
theorem PrI.done {n p k : Nat} {b : Bool} (h : PrI n p k b) (hp : 2 ≤ p) (hk : p < k * k) (h2 : k = 2 ∨ (k - 1) * (k - 1) ≤ p) : b = true ↔ Prm p ∧ p ∣ n := by
 unfold PrI at h
 rw [h]
 constructor
 ·rintro ⟨h1, h2⟩
  refine ⟨⟨hp, fun j j1 j2 j3 => ?_⟩, Nat.dvd_of_mod_eq_zero h1⟩
  rcases Nat.lt_or_ge j k with x | x
  ·exact h2 j j1 x j3
  have := Nat.mul_le_mul x x; omega
 rintro ⟨⟨_, h1⟩, h3⟩
 refine ⟨Nat.mod_eq_zero_of_dvd h3, fun j j1 j2 j3 => ?_⟩
 have : j * j ≤ (k - 1) * (k - 1) := Nat.mul_le_mul (by omega) (by omega)
 exact h1 j j1 (by omega) j3
theorem LcI.done {D : Int} {n : Nat} {f : Fm} {m : Int} {p : Nat} (h : LcI n m p) (hn : 0 < n) (hp : n < p) (ha : m ∉ agL D n f) : jo D n f m = false := by
 unfold jo
 rw [decide_eq_false ha, Bool.false_or, Bool.and_eq_false_iff]
 left
 rw [decide_eq_false_iff_not]
 intro hm
 obtain ⟨q, hq, rfl⟩ := List.mem_map.1 hm
 obtain ⟨p', h1, h2, rfl⟩ := (qw hn).1 hq
 exact h p' (by have := Nat.le_of_dvd hn h2; omega) h1 h2 rfl
theorem EQ {D : Int} {n : Nat} {f : Fm} {m : Int} (ha : m ∈ agL D n f) : jo D n f m = true := by
 unfold jo; rw [decide_eq_true ha, Bool.true_or]
end
section
open Go Go.RowKit
def anS (a : Ans) : List DV := [.v (.int .i64 a.kind), zn a.x, zm a.x, zn a.y, zm a.y, zn a.m, zm a.m, SL enI a.roots, FS a.forms]
abbrev Rw := Bool × List Nat
abbrev rC (r : Rw) : List DV := [.v (.bool r.1), W r.2]
theorem oH (r : Rw) : (rC r).length = 2 := rfl
def rV (r : Rw) : Bool := if r.2 = [] then !r.1 else decide (r.2.getD (r.2.length - 1) 0 ≠ 0)
def rZ (r : Rw) : Int := sg r.1 (wv r.2)
theorem yz {r : Rw} (h : r.2 ≠ []) (hv : rV r = true) : 0 < wv r.2 := by
 unfold rV at hv
 rw [if_neg h, decide_eq_true_eq] at hv
 have hl : 0 < r.2.length := List.length_pos_iff.2 h
 rcases Nat.eq_zero_or_pos (wv r.2) with e | e
 ·exfalso
  have hs := el r.2 (r.2.length - 1) (by omega)
  have hd : r.2.drop (r.2.length - 1) = [r.2.getD (r.2.length - 1) 0] := by
   rw [List.drop_eq_getElem_cons (by omega), show r.2.length - 1 + 1 = r.2.length by omega, List.drop_length, List.getD_eq_getElem?_getD, List.getElem?_eq_getElem (by omega)]
   rfl
  rw [hd] at hs
  have : wv [r.2.getD (r.2.length - 1) 0] = r.2.getD (r.2.length - 1) 0 := by simp [wv]
  rw [this] at hs
  have hp : 0 < 4294967296 ^ (r.2.length - 1) * r.2.getD (r.2.length - 1) 0 := Nat.mul_pos (Nat.pow_pos (by decide)) (by omega)
  omega
 exact e
theorem nQ {r : Rw} (ho : okW r.2) (hv : rV r = true) : rC r = enI (rZ r) := by
 obtain ⟨neg, ws⟩ := r
 have e1 : (rZ (neg, ws)).natAbs = wv ws := by
  unfold rZ sg
  split <;> simp
 have e2 : wl (wv ws) = ws := by
  refine oi ho ?_
  by_cases h : ws = []
  ·left; rw [h]; rfl
  right
  unfold rV at hv
  rw [if_neg h, decide_eq_true_eq] at hv
  exact hv
 have e3 : decide (rZ (neg, ws) < 0) = neg := by
  by_cases h : ws = []
  ·subst h
   have : neg = false := by unfold rV at hv; simpa using hv
   subst this
   rfl
  have := yz (r := (neg, ws)) h hv
  simp only at this
  unfold rZ sg
  cases neg
  ·rw [if_neg (fun x => by cases x)]; exact decide_eq_false (by omega)
  rw [if_pos rfl]; exact decide_eq_true (by show -((wv ws : Nat) : Int) < 0; omega)
 show [DV.v (.bool neg), W ws] = [DV.v (.bool (decide (rZ (neg, ws) < 0))), W (wl (rZ (neg, ws)).natAbs)]
 rw [e3, e1, e2]
theorem Ba {r : Rw} (hv : rV r = true) : decide (r.2 = []) = decide (rZ r = 0) := by
 rw [decide_eq_decide]
 constructor
 ·intro h
  unfold rZ sg
  rw [h]
  split <;> simp [wv]
 intro h
 by_cases k : r.2 = []
 ·exact k
 have := yz k hv
 exfalso
 unfold rZ sg at h
 split at h <;> omega
def eC (z : Int) : Rw := (decide (z < 0), wl z.natAbs)
theorem wR (z : Int) : rZ (eC z) = z := by
 unfold rZ eC sg
 simp only [bD, decide_eq_true_eq]
 split <;> omega
theorem Lb (z : Int) : rV (eC z) = true := by
 unfold rV eC
 simp only
 split
 ·next h =>
  have : z.natAbs = 0 := mN (by rw [h]; rfl)
  rw [Bool.not_eq_true', decide_eq_false_iff_not]; omega
 next h =>
 rw [decide_eq_true_eq]
 have := ph h
 rw [List.getLast_eq_getElem] at this
 rw [List.getD_eq_getElem?_getD, List.getElem?_eq_getElem (by have := List.length_pos_iff.2 h; omega)]
 exact this
theorem IQ (z : Int) : okW (eC z).2 := bG _
abbrev RF := Rw × Rw × Rw
abbrev rfC (f : RF) : List DV := rC f.1 ++ (rC f.2.1 ++ rC f.2.2)
theorem ER (f : RF) : (rfC f).length = 6 := rfl
structure RA where
 kind : Int
 x : Rw
 y : Rw
 m : Rw
 roots : List Rw
 forms : List RF
def raS (a : RA) : List DV := [.v (.int .i64 a.kind), .v (.bool a.x.1), W a.x.2, .v (.bool a.y.1), W a.y.2, .v (.bool a.m.1), W a.m.2, SL rC a.roots, SL rfC a.forms]
def rfL (f : RF) : List Rw := [f.1, f.2.1, f.2.2]
def RA.nums (a : RA) : List Rw := [a.x, a.y, a.m] ++ a.roots ++ a.forms.flatMap rfL
def RA.ans (a : RA) : Ans := ⟨a.kind, rZ a.x, rZ a.y, rZ a.m, a.roots.map rZ, a.forms.map fun f => ⟨rZ f.1, rZ f.2.1, rZ f.2.2⟩⟩
theorem wa : ∀ {l : List Rw}, (∀ r ∈ l, okW r.2 ∧ rV r = true) → l.flatMap rC = (l.map rZ).flatMap enI
 | [], _ => rfl
 | r :: l, h => by
  rw [List.flatMap_cons, List.map_cons, List.flatMap_cons, wa fun r hr => h r (by simp [hr]), nQ (h r (by simp)).1 (h r (by simp)).2]
theorem tW : ∀ {l : List RF}, (∀ f ∈ l, ∀ r ∈ rfL f, okW r.2 ∧ rV r = true) → l.flatMap rfC = (l.map fun f => (⟨rZ f.1, rZ f.2.1, rZ f.2.2⟩ : Fm)).flatMap FC
 | [], _ => rfl
 | f :: l, h => by
  have h1 := h f (by simp)
  rw [List.flatMap_cons, List.map_cons, List.flatMap_cons, tW fun f hf => h f (by simp [hf])]
  show rC f.1 ++ (rC f.2.1 ++ rC f.2.2) ++ _ = _
  rw [nQ (h1 f.1 (by simp [rfL])).1 (h1 f.1 (by simp [rfL])).2, nQ (h1 f.2.1 (by simp [rfL])).1 (h1 f.2.1 (by simp [rfL])).2, nQ (h1 f.2.2 (by simp [rfL])).1 (h1 f.2.2 (by simp [rfL])).2]
  rfl
theorem vx {a : RA} (h : ∀ r ∈ a.nums, okW r.2 ∧ rV r = true) : raS a = anS a.ans := by
 have hm : ∀ r, r = a.x ∨ r = a.y ∨ r = a.m → okW r.2 ∧ rV r = true := fun r hr => h r (by
  unfold RA.nums; rcases hr with rfl | rfl | rfl <;> simp)
 have e1 := nQ (hm a.x (.inl rfl)).1 (hm a.x (.inl rfl)).2
 have e2 := nQ (hm a.y (.inr (.inl rfl))).1 (hm a.y (.inr (.inl rfl))).2
 have e3 := nQ (hm a.m (.inr (.inr rfl))).1 (hm a.m (.inr (.inr rfl))).2
 have e4 := wa (l := a.roots) fun r hr => h r (by unfold RA.nums; simp [hr])
 have e5 := tW (l := a.forms) fun f hf r hr => h r (by
  unfold RA.nums
  rw [List.mem_append]
  exact .inr (List.mem_flatMap.2 ⟨f, hf, hr⟩))
 simp only [List.cons.injEq, and_true] at e1 e2 e3
 unfold raS anS RA.ans SL FS
 rw [e1.1, e1.2, e2.1, e2.2, e3.1, e3.2, e4, e5]
 simp
def rgA (D : Int) (n : Nat) (f : Fm) (a : RA) : Bool := a.nums.all rV && rgt D n f a.ans
def jW (a : Ans) : RA := ⟨a.kind, eC a.x, eC a.y, eC a.m, a.roots.map eC, a.forms.map fun f => (eC f.a, eC f.b, eC f.c)⟩
theorem sH (a : Ans) : (jW a).ans = a := by
 unfold jW RA.ans
 simp only [wR, List.map_map]
 have e1 : a.roots.map (rZ ∘ eC) = a.roots := by
  rw [show (rZ ∘ eC) = id from funext wR, List.map_id]
 have e2 : a.forms.map ((fun f : RF => (⟨rZ f.1, rZ f.2.1, rZ f.2.2⟩ : Fm)) ∘ fun f : Fm => (eC f.a, eC f.b, eC f.c)) = a.forms := by
  have : ((fun f : RF => (⟨rZ f.1, rZ f.2.1, rZ f.2.2⟩ : Fm)) ∘ fun f : Fm => (eC f.a, eC f.b, eC f.c)) = id := by
   funext f; simp [wR]
  rw [this, List.map_id]
 rw [e1, e2]
theorem pB (a : Ans) : ∀ r ∈ (jW a).nums, okW r.2 ∧ rV r = true := by
 intro r hr
 have : ∃ z, r = eC z := by
  unfold RA.nums jW at hr
  simp only [List.mem_append, List.mem_cons, List.not_mem_nil, or_false, List.mem_map, List.mem_flatMap] at hr
  rcases hr with ((h | h | h) | ⟨z, _, h⟩) | ⟨f, ⟨g, _, rfl⟩, h⟩
  ·exact ⟨_, h⟩
  ·exact ⟨_, h⟩
  ·exact ⟨_, h⟩
  ·exact ⟨z, h.symm⟩
  simp only [rfL, List.mem_cons, List.not_mem_nil, or_false] at h
  rcases h with h | h | h <;> exact ⟨_, h⟩
 obtain ⟨z, rfl⟩ := this
 exact ⟨IQ z, Lb z⟩
theorem Ii (a : Ans) : raS (jW a) = anS a := by rw [vx (pB a), sH]
theorem H0 {D : Int} {n : Nat} {f : Fm} (a : Ans) : rgA D n f (jW a) = rgt D n f a := by
 unfold rgA
 rw [sH, List.all_eq_true.2 fun r hr => (pB a r hr).2, Bool.true_and]
end
section
open Go Go.RowKit
theorem B2 : fnd (-23) 3 ⟨2, 1, 3⟩ = ⟨1, 0, 1, 0, [], []⟩ := by kernel_rfl
theorem Gv : fnd (-23) 5 ⟨2, 1, 3⟩ = ⟨2, 0, 0, 5, [], []⟩ := by kernel_rfl
theorem JH : fnd (-23) 1 ⟨2, 1, 3⟩ = ⟨3, 0, 0, 0, [1], [⟨1, 1, 6⟩]⟩ := by kernel_rfl
theorem B4 : fnd (-20) 3 ⟨1, 0, 5⟩ = ⟨2, 0, 0, 5, [], []⟩ := by kernel_rfl
theorem JK : (prS (-4) 5 ⟨1, 0, 1⟩).length = 8 ∧ (prS (-4) 5 ⟨1, 0, 1⟩).getD 0 (0, 0) = (-2, -1) := by decide +kernel
theorem B3 : rbL (-23) 6 = [1, 5, 7, 11] := by decide +kernel
theorem JG : rgt (-23) 3 ⟨2, 1, 3⟩ ⟨1, 0, 1, 0, [], []⟩ = true := by kernel_rfl
theorem LO : rgt (-23) 3 ⟨2, 1, 3⟩ ⟨3, 0, 0, 0, [1], [⟨1, 1, 6⟩]⟩ = false := by kernel_rfl
end
end Go.AM
