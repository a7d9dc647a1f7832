import Derived.Test.YtpaifigafaijpaaGreatDoorWB
import Derived.RangeFuncSeq
import Derived.RangeFuncRecord
import Derived.RangeFuncIn
import Derived.Lib.SliceRun
import Derived.ChangeKeysEq
import Derived.Laws.StructEq
set_option maxRecDepth 100000
set_option maxHeartbeats 1000000
section
namespace Go.AM
open Go Go.RowKit
structure Rest (n0 : Nat) (G : Nat → Prop) (h : Hp) (W : World) (h' : Hp) (W' : World) : Prop where
 os : W'.os = W.os
 tape : W'.tape = W.tape
 output : OutD W' W
 size : W.heap.size ≤ W'.heap.size
 old : ∀ i, i < W.heap.size → W'.heap[i]? = W.heap[i]? ∨ (n0 ≤ i ∧ ¬ G i ∧ h i = none)
 hi : ∀ i o, h' i = some o → W'.heap[i]? = some o
 hg : Hle h h'
 hn : ∀ i, h' i ≠ none → h i ≠ none ∨ (n0 ≤ i ∧ ¬ G i)
structure Gave (G : Nat → Prop) (h : Hp) (W : World) (G' : Nat → Prop) (h' : Hp) (W' : World) : Prop where
 os : W'.os = W.os
 tape : W'.tape = W.tape
 output : OutD W' W
 size : W.heap.size ≤ W'.heap.size
 old : ∀ i, i < W.heap.size → ¬ G i → W'.heap[i]? = W.heap[i]?
 hg : Hle h h'
 hn : ∀ i, h' i ≠ none → h i ≠ none ∨ W.heap.size ≤ i ∨ G i
 gg : ∀ i, G' i → G i ∨ W.heap.size ≤ i
structure Keeps (P : Program) (l : Nat) (xs : List (List PV)) (n0 : Nat) (J : Nat → Hp → (Nat → Prop) → World → Prop) : Prop where
 hi : ∀ k h G W, J k h G W → ∀ i o, h i = some o → W.heap[i]? = some o
 g : ∀ k h G W, J k h G W → ∀ i, G i → i < W.heap.size ∧ h i = none
 rest : ∀ k h G W h' W', J k h G W → Rest n0 G h W h' W' → J k h' G W'
 give : ∀ k h G W x vals, xs[k]? = some x → J k h G W → PReps h x vals → YieldAt (Wd none) 0 P l vals.toArray W fun e W' => e = .returned (.bool true) ∧ ∃ h' G', J (k + 1) h' G' W' ∧ Gave G h W G' h' W'
structure Iter (P : Program) (gf : FuncId) (caps : List (List DV)) (xs : List (List PV)) : Prop where
 fn : FnOK P gf
 go : ∀ (l : Nat) (lb : Array Value) (J : Nat → Hp → (Nat → Prop) → World → Prop) (h : Hp) (G : Nat → Prop) (W : World), CapsRep h caps lb.toList → GlOK h → Keeps P l xs W.heap.size J → J 0 h G W →
  CallsIn (Wd none) 0 P gf (#[.func (.yield l) #[] #[]] ++ lb) W fun e W' => (∃ v, e = .returned v) ∧ ∃ h' G', J xs.length h' G' W'
def setPs : Regs → List Nat → List PV → Regs
 | regs, p :: ps, x :: xs => setPs (upd regs p (.p x)) ps xs
 | regs, _, _ => regs
theorem foldl_zip_set {h : Hp} {r : Nat → Value} : ∀ (ps : List Nat) (x : List PV) (vals : List Value) (regs : Regs) (t : Array Value), PReps h x vals → x.length = ps.length → (∀ p ∈ ps, p < t.size) →
  RegsOK h r regs { tmps := t, defers := [] } →
  RegsOK h r (setPs regs ps x) { tmps := (ps.zip vals).foldl (fun t (p, v) => t.setIfInBounds p v) t, defers := [] } ∧ ((ps.zip vals).foldl (fun t (p, v) => t.setIfInBounds p v) t).size = t.size
 | [], [], vals, regs, t, _, _, _, k => by simp [setPs]; exact k
 | p :: ps, [], _, _, _, _, hl, _, _ => by simp at hl
 | [], x :: xs, _, _, _, _, hl, _, _ => by simp at hl
 | p :: ps, x :: xs, [], _, _, hv, _, _, _ => hv.elim
 | p :: ps, x :: xs, v :: vals, regs, t, hv, hl, hp, k => by
  have k1 : RegsOK h r (upd regs p (.p x)) { tmps := t.setIfInBounds p v, defers := [] } := by
   intro u
   show AVRep h r (upd regs p (.p x) u) ((t.setIfInBounds p v).getD u undef)
   rw [getD_setIfInBounds _ _ _ _ (hp p (by simp)), upd_eq]
   by_cases e : u = p
   ·rw [if_pos e, if_pos e]; exact hv.1
   ·rw [if_neg e, if_neg e]; exact k u
  obtain ⟨g1, g2⟩ := foldl_zip_set ps xs vals (upd regs p (.p x)) (t.setIfInBounds p v) hv.2 (by simpa using hl) (fun q hq => by simpa using hp q (by simp [hq])) k1
  exact ⟨g1, by rw [List.zip_cons_cons, List.foldl_cons]; rw [g2]; simp⟩
section round
variable {C : Ctx} {h h' : Hp} {r r' : Nat → Value} {own own' : Own} {w w' : World} {L np' : Nat}
def Ctx.round (h : Hp) (r : Nat → Value) (own : Own) (w : World) (np' : Nat) : Ctx := ⟨w, h, fun i => ∃ m, own m ≠ none ∧ hblk (r m) = some i, r, np', false⟩
theorem WOK.enter (k : WOK C h r own w) : WOK (Ctx.round h r own w np') h r own w :=
 ⟨k.ow, k.inj, k.hi, k.ho, rfl, rfl, .refl _, Nat.le_refl _, fun _ _ _ => rfl, fun m _ hm e => .inr ⟨m, hm, e⟩, .refl _, fun _ e => .inl e, k.gl, fun _ _ => rfl, k.lk⟩
theorem WOK.leave (k : WOK C h r own w) (q : WOK (Ctx.round h r own w np') h' r' own' w') (hnp : C.np ≤ np') : WOK C h' r' own' w' := by
 have hF : ∀ i, (Ctx.round h r own w np').F i → C.w0.heap.size ≤ i ∨ C.F i := by
  rintro i ⟨m, hm, e⟩; exact k.fo m i hm e
 refine ⟨q.ow, q.inj, q.hi, q.ho, q.os.trans k.os, q.tape.trans k.tape, q.output.trans k.output, Nat.le_trans k.size q.size, fun i hi hf => ?_, fun m i hm e => ?_, k.hg.trans q.hg, fun i hi => ?_, q.gl, fun m hm => ?_, q.lk⟩
 ·have := q.old i (Nat.lt_of_lt_of_le hi k.size) (fun x => by
   rcases hF i x with g | g
   ·omega
   ·exact hf g)
  rw [this]; exact k.old i hi hf
 ·rcases q.fo m i hm e with g | g
  ·exact .inl (Nat.le_trans k.size g)
  ·exact hF i g
 ·rcases q.hn i hi with g | g | g
  ·exact k.hn i g
  ·exact .inr (.inl (Nat.le_trans k.size g))
  ·exact .inr (hF i g)
 ·rw [q.kp m (Nat.lt_of_lt_of_le hm hnp)]; exact k.kp m hm
theorem WOK.putL {o : Obj} (k : WOK C h r own w) (hL : ∀ m, own m ≠ none → hblk (r m) ≠ some L) (hh : h L = none) (hs : C.w0.heap.size ≤ L) : WOK C h r own (w.putObj L o) := by
 have old : ∀ i, i ≠ L → (w.putObj L o).heap[i]? = w.heap[i]? := fun i hi => putObj_other hi
 refine ⟨fun m b e => (k.ow m b e).world fun i hi => old i fun x => hL m (by rw [e]; simp) (by rw [hi, x]), k.inj, fun i o' e => ?_, k.ho, k.os, k.tape, k.output, by rw [size_putObj']; exact k.size, fun i hi hf => ?_, k.fo, k.hg, k.hn, k.gl, k.kp, fun m b j e hj => ?_⟩
 ·rw [old i fun x => by subst x; rw [hh] at e; cases e]; exact k.hi i o' e
 ·rw [old i (by omega)]; exact k.old i hi hf
 ·obtain ⟨q, t, h1, h2⟩ := k.lk m b j e hj
  refine ⟨q, t, h1, ?_⟩
  rw [old q fun x => hL m (by rw [e]; simp) (by rw [h1, x]; rfl)]; exact h2
theorem WOK.rec_left (hL0 : ∀ m, own m ≠ none → hblk (r m) ≠ some L) (q : WOK (Ctx.round h r own w np') h' r' own' w') {o : Obj} (hL : w.heap[L]? = some o) (hh : h L = none) : w'.heap[L]? = some o ∧ h' L = none ∧ ∀ m, own' m ≠ none → hblk (r' m) ≠ some L := by
 have hlt : L < w.heap.size := (Array.getElem?_eq_some_iff.1 hL).1
 have hF : ¬ (Ctx.round h r own w np').F L := by rintro ⟨m, hm, e⟩; exact hL0 m hm e
 refine ⟨?_, ?_, fun m hm e => ?_⟩
 ·rw [q.old L hlt hF]; exact hL
 ·cases e : h' L with
  | none => rfl
  | some o' =>
   rcases q.hn L (by rw [e]; simp) with g | g | g
   ·exact absurd hh g
   ·have : w.heap.size ≤ L := g; omega
   ·exact absurd g hF
 ·rcases q.fo m L hm e with g | g
  ·have : w.heap.size ≤ L := g; omega
  ·exact hF g
theorem WOK.rest (k : WOK C h r own w) {n0 : Nat} {G : Nat → Prop} (q : Rest n0 G h w h' w') (hG : ∀ m i, own m ≠ none → hblk (r m) = some i → G i) (h0 : C.w0.heap.size ≤ n0) : WOK C h' r own w' := by
 have same : ∀ m i, own m ≠ none → hblk (r m) = some i → w'.heap[i]? = w.heap[i]? := fun m i hm e => by
  rcases q.old i (k.lt hm e) with g | ⟨_, g, _⟩
  ·exact g
  ·exact absurd (hG m i hm e) g
 refine ⟨fun m b e => ((k.ow m b e).mono q.hg).world fun i hi => same m i (by rw [e]; simp) hi, k.inj, q.hi, fun m i hm e => ?_, q.os.trans k.os, q.tape.trans k.tape, q.output.trans k.output, Nat.le_trans k.size q.size, fun i hi hf => ?_, k.fo, k.hg.trans q.hg, fun i hi => ?_, k.gl.mono q.hg, k.kp, fun m b j e hj => ?_⟩
 ·cases hh : h' i with
  | none => rfl
  | some o =>
   rcases q.hn i (by rw [hh]; simp) with g | g
   ·exact absurd (k.ho m i hm e) g
   ·exact absurd (hG m i hm e) g.2
 ·rcases q.old i (Nat.lt_of_lt_of_le hi k.size) with g | ⟨g, _, _⟩
  ·rw [g]; exact k.old i hi hf
  ·omega
 ·rcases q.hn i hi with g | g
  ·exact k.hn i g
  ·exact .inr (.inl (Nat.le_trans h0 g.1))
 ·obtain ⟨q1, t, h1, h2⟩ := k.lk m b j e hj
  exact ⟨q1, t, h1, by rw [same m q1 (by rw [e]; simp) (by rw [h1]; rfl)]; exact h2⟩
end round
def GW (np' : Nat) (o o' : Own) : Prop := ∀ (C : Ctx) (h : Hp) (r : Nat → Value) (w : World), C.np ≤ np' → WOK C h r o w →
 ∃ r2, (∀ m, m < np' → r2 m = r m) ∧ WOK C h r2 o' w ∧ ∀ m i, o' m ≠ none → hblk (r2 m) = some i → ∃ m2, o m2 ≠ none ∧ hblk (r m2) = some i
theorem GW.forget {np' : Nat} {o o' : Own} (e : ∀ m, o' m = o m ∨ o' m = none) : GW np' o o' := fun C h r w _ k =>
 ⟨r, fun _ _ => rfl, k.forget e, fun m i hm hi => ⟨m, by
  rcases e m with g | g
  ·rw [← g]; exact hm
  ·exact absurd g hm, hi⟩⟩
def menB (np' : Nat) (l : List (Nat × AV)) : Bool := l.all fun p => (men p.2).all fun m => Nat.blt m np'
theorem look_men {np' : Nat} : ∀ {l : List (Nat × AV)}, menB np' l = true → ∀ t, ∀ m ∈ men (look l t), m < np'
 | [], _, t, m, hm => by simp [look, men] at hm
 | (k, v) :: l, h, t, m, hm => by
  unfold menB at h
  rw [List.all_cons, Bool.and_eq_true] at h
  simp only [look, upd_eq] at hm
  by_cases e : t = k
  ·rw [if_pos e] at hm
   have := List.all_eq_true.1 h.1 m hm
   simpa using this
  ·rw [if_neg e] at hm
   exact look_men (l := l) h.2 t m hm
theorem marks_ne {C : Ctx} {h : Hp} {D : Nat} (hD : h D = none) : ∀ {ds : List Deferred}, Marks C h ds → ∀ x ∈ ds, x.target ≠ .collected D
 | [], _, x, hx => by simp at hx
 | d :: ds, ⟨_, ⟨D', h1, _, _, h4, _⟩, k⟩, x, hx => by
  rcases List.mem_cons.1 hx with rfl | hx
  ·intro e
   rw [h1] at e
   have : D' = D := by simpa using e
   subst this; rw [hD] at h4; cases h4
  ·exact marks_ne hD k x hx
theorem AWp_range {P : Program} {N np : Nat} {Q : Exit → St → Prop} {l : List (Nat × AV)} {g : Operand} {ps : Array Tmp} {assign body : Code} {gf : FuncId} {caps : List (List DV)} {xs : List (List PV)} (np' : Nat) (own : Nat → Own)
  (hg : ev (look l) g = .fn gf caps) (hit : Iter P gf caps xs) (hps : ∀ x ∈ xs, x.length = ps.toList.length)
  (hfix : menB np' l = true) (hnp : Nat.ble np np' = true) (hpN : (ps.toList.all fun p => Nat.blt p N) = true)
  (hround : ∀ (k : Nat) (x : List PV), xs[k]? = some x → AWp P true N np' assign (AThen (AWp P true N np' body (fun e s' => e = .normal ∧ GW np' s'.own (own (k + 1)))) (fun _ _ => False)) ⟨setPs (look l) ps.toList x, own k⟩)
  (hdone : Q .normal ⟨look l, own xs.length⟩) : AWp P false N np (.rangeFunc g ps assign body) Q ⟨look l, own 0⟩ := by
 intro ro hB C hh r a w hn hc
 have hro : ro = none := hB rfl
 subst hro
 have hnp' := Nat.le_of_ble_eq_true hnp
 have hmar : C.mar = true := hn.2
 refine wpIn_rangeFunc ?_
 intro fn _
 have hgv := rep_ev hc.rg g
 rw [hg] at hgv
 obtain ⟨lb, hval, hcaps⟩ := hgv
 obtain ⟨rec, hrec⟩ : ∃ rec : LoopState → Option Code → Loop, rec = fun st pe => { state := st, pending := pe, fn, tmps := a.tmps, params := ps, assign, body, defers := w.heap.size } := ⟨_, rfl⟩
 obtain ⟨W1, hW1⟩ : ∃ W1, (w.alloc (.deferred (some []))).alloc (.loop (rec .ready none)) = W1 := ⟨_, rfl⟩
 obtain ⟨hw1, hle1⟩ := hc.wk.imm (.deferred (some []))
 obtain ⟨h1, hh1⟩ : ∃ h1 : Hp, h1 = fun i => if i = w.heap.size then some (.deferred (some [])) else hh i := ⟨_, rfl⟩
 rw [← hh1] at hw1 hle1
 have hs1 : W1.heap.size = w.heap.size + 2 := by rw [← hW1]; simp
 have hold1 : ∀ i, i < (w.alloc (.deferred (some []))).heap.size → W1.heap[i]? = (w.alloc (.deferred (some []))).heap[i]? := fun i hi => by
  rw [← hW1, heap_alloc, if_neg (by omega)]
 have hw2 : WOK C h1 r (own 0) W1 := hw1.beside (by rw [← hW1]; rfl) (by rw [← hW1]; rfl) (by rw [← hW1]; exact ⟨rfl, Nat.le_refl _⟩) (by rw [hs1]; simp) hold1
 have hL1 : W1.heap[w.heap.size + 1]? = some (.loop (rec .ready none)) := by
  rw [← hW1, heap_alloc, if_pos (by simp)]
 have hD0 : hh w.heap.size = none := by
  cases e : hh w.heap.size with
  | none => rfl
  | some o => have := hc.wk.hlt e; omega
 have hhL : h1 (w.heap.size + 1) = none := by
  rw [hh1]
  show (if w.heap.size + 1 = w.heap.size then _ else hh (w.heap.size + 1)) = none
  rw [if_neg (by omega)]
  cases e : hh (w.heap.size + 1) with
  | none => rfl
  | some o => have := hc.wk.hlt e; omega
 have hnoL : ∀ m, own 0 m ≠ none → hblk (r m) ≠ some (w.heap.size + 1) := fun m hm e => by
  have := hc.wk.lt hm e; omega
 have hD1 : h1 w.heap.size = some (.deferred (some [])) := by rw [hh1]; exact if_pos rfl
 generalize hLL : w.heap.size + 1 = L at *
 have hCL : C.w0.heap.size ≤ L := by have := hc.wk.size; omega
 refine ⟨L, [{ target := .collected w.heap.size, args := #[] }], W1, { target := .fn (.func gf) lb, args := #[.func (.yield L) #[] #[]] }, W1, gf, #[.func (.yield L) #[] #[]] ++ lb, W1, ?_, ?_, fun _ _ => trivial, ?_, fun e => by simp [Wd] at e, ?_⟩
 ·rw [← hW1, hrec, ← hLL]; exact run_enterLoop_outer _ _ _ _ _
 ·simp only [resolve, hval]
  simp [go_sem]
 ·have eg : ∀ args w, (callFunc gf args).run P w = .ok (.enter gf args) w := fun args w => run_callFunc hit.fn args w
  simp [invoke, go_sem, eg]
 ·have hmen := look_men hfix
  obtain ⟨J, hJ⟩ : ∃ J : Nat → Hp → (Nat → Prop) → World → Prop, J = fun k h G W => ∃ r', (∀ m, m < np' → r' m = r m) ∧ WOK C h r' (own k) W ∧ W.heap[L]? = some (.loop (rec .ready none)) ∧ h L = none ∧ (∀ m, own k m ≠ none → hblk (r' m) ≠ some L) ∧ Hle h1 h ∧
    G = fun i => i = L ∨ ∃ m, own k m ≠ none ∧ hblk (r' m) = some i := ⟨_, rfl⟩
  have hrg : ∀ h r', Hle h1 h → (∀ m, m < np' → r' m = r m) → RegsOK h r' (look l) a := fun h r' hl hr t =>
   AVRep.rebind _ _ (fun m hm => hr m (hmen t m hm)) (AVRep.mono (hle1.trans hl) _ _ (hc.rg t))
  refine CallsIn.mono (hit.go L lb J h1 (fun i => i = L ∨ ∃ m, own 0 m ≠ none ∧ hblk (r m) = some i) W1 (hcaps.mono hle1) hw2.gl ⟨?_, ?_, ?_, ?_⟩ ?_) ?_
  ·intro k h G W hk
   rw [hJ] at hk
   obtain ⟨r', _, q, _⟩ := hk
   exact q.hi
  ·intro k h G W hk i hi
   rw [hJ] at hk
   obtain ⟨r', e1, e2, e3, e4, e5, e6, rfl⟩ := hk
   rcases hi with rfl | ⟨m, hm, e⟩
   ·exact ⟨(Array.getElem?_eq_some_iff.1 e3).1, e4⟩
   ·exact ⟨e2.lt hm e, e2.ho m i hm e⟩
  ·intro k h G W h' W' hk q
   rw [hJ] at hk ⊢
   obtain ⟨r', e1, e2, e3, e4, e5, e6, rfl⟩ := hk
   have hlt : L < W.heap.size := (Array.getElem?_eq_some_iff.1 e3).1
   refine ⟨r', e1, e2.rest q (fun m i hm e => .inr ⟨m, hm, e⟩) (Nat.le_trans hw2.size (Nat.le_refl _)), ?_, ?_, e5, e6.trans q.hg, rfl⟩
   ·rcases q.old L hlt with g | ⟨_, g, _⟩
    ·rw [g]; exact e3
    ·exact absurd (.inl rfl) g
   ·cases e : h' L with
    | none => rfl
    | some o =>
     rcases q.hn L (by rw [e]; simp) with g | g
     ·exact absurd e4 g
     ·exact absurd (.inl rfl) g.2
  ·intro k h G W x vals hx hk hv
   rw [hJ] at hk
   obtain ⟨r', e1, e2, e3, e4, e5, e6, rfl⟩ := hk
   have hlen : x.length = ps.toList.length := hps x (List.mem_of_getElem? hx)
   have hvl : vals.length = x.length := by
    have : ∀ (ps : List PV) (vs : List Value), PReps h ps vs → vs.length = ps.length := by
     intro ps
     induction ps with
     | nil => intro vs k; cases vs with
      | nil => rfl
      | cons _ _ => exact k.elim
     | cons p ps ih => intro vs k; cases vs with
      | nil => exact k.elim
      | cons v vs => simp [ih vs k.2]
    exact this _ _ hv
   have hsz : vals.toArray.size = (rec .ready none).params.size := by
    rw [hrec]
    show vals.length = ps.size
    rw [hvl, hlen]; simp
   refine ⟨_, _, _, _, run_yield e3 hsz, roundIn_of_wpIn trivial ?_⟩
   rw [hrec]
   show assign.wpIn (Wd (some L)) 0 P _ { tmps := (ps.zip vals.toArray).foldl (fun t (p, v) => t.setIfInBounds p v) a.tmps, defers := [] } W
   have hzip : (ps.zip vals.toArray).foldl (fun t (p, v) => t.setIfInBounds p v) a.tmps = (ps.toList.zip vals).foldl (fun t (p, v) => t.setIfInBounds p v) a.tmps := by
    rw [← Array.foldl_toList, Array.toList_zip]
   rw [hzip]
   obtain ⟨f1, f2⟩ := foldl_zip_set (r := r') ps.toList x vals (look l) a.tmps hv hlen (fun p hp => by
    have := List.all_eq_true.1 hpN p hp
    rw [hc.sz]; simpa using this) (fun t => hrg h r' e6 e1 t)
   refine wpIn_mono (hround k x hx (some L) (fun e => by cases e) (Ctx.round h r' (own k) W np') h r' _ W ⟨rfl, rfl⟩ ⟨f2.trans hc.sz, trivial, f1, e2.enter⟩) ?_
   rintro e a1 w1 ⟨s1, h2, r2, q1, c1⟩
   cases e with
   | normal =>
    have hwk1 := e2.leave c1.wk (Nat.le_trans (Nat.le_of_eq hn.1) hnp')
    obtain ⟨g1, g2, g3⟩ := WOK.rec_left e5 c1.wk e3 e4
    have hd1 : a1.defers = [] := by
     have := c1.df
     cases hd : a1.defers with
     | nil => rfl
     | cons d ds => rw [hd] at this; cases this.1
    have hw3 := hwk1.putL (o := .loop { rec .ready none with state := .busy }) g3 g2 hCL
    have hLw : L < w1.heap.size := (Array.getElem?_eq_some_iff.1 g1).1
    have hLb : (w1.putObj L (.loop { rec .ready none with state := .busy })).heap[L]? = some (.loop { rec .ready none with state := .busy }) := World.putObj_heap_same hLw
    refine ⟨_, run_beginRound g1 (by rw [hrec]), ?_⟩
    refine wpIn_mono (q1 (some L) (fun e => by cases e) (Ctx.round h2 r2 s1.own _ np') h2 r2 a1 _ ⟨rfl, rfl⟩ ⟨c1.sz, by rw [hd1]; trivial, c1.rg, hw3.enter⟩) ?_
    rintro e a2 w2 ⟨s2, h3, r3, ⟨rfl, q2⟩, c2⟩
    have hwk2 := hw3.leave c2.wk (Nat.le_trans (Nat.le_of_eq hn.1) hnp')
    obtain ⟨k1, k2, k3⟩ := WOK.rec_left g3 c2.wk hLb g2
    obtain ⟨r4, q3, hwk3, q4⟩ := q2 C h3 r3 w2 (Nat.le_trans (Nat.le_of_eq hn.1) hnp') hwk2
    have k3' : ∀ m, own (k + 1) m ≠ none → hblk (r4 m) ≠ some L := fun m hm e => by
     obtain ⟨m2, g1, g2⟩ := q4 m L hm e
     exact k3 m2 g1 g2
    have F2 : ∀ i, (Ctx.round h2 r2 s1.own (w1.putObj L (.loop { rec .ready none with state := .busy })) np').F i → W.heap.size ≤ i ∨ ∃ m, own k m ≠ none ∧ hblk (r' m) = some i := by
     rintro i ⟨m, hm, e⟩; exact c1.wk.fo m i hm e
    have sz1 : W.heap.size ≤ w1.heap.size := c1.wk.size
    have sz2 : w1.heap.size ≤ w2.heap.size := by have : (w1.putObj L _).heap.size ≤ w2.heap.size := c2.wk.size; rwa [size_putObj'] at this
    refine ⟨_, _, run_endRound none k1, rfl, h3, fun i => i = L ∨ ∃ m, own (k + 1) m ≠ none ∧ hblk (r4 m) = some i, ?_, ?_⟩
    ·rw [hJ]
     refine ⟨r4, fun m hm => ?_, hwk3.putL k3' k2 hCL, ?_, k2, k3', e6.trans (c1.wk.hg.trans c2.wk.hg), rfl⟩
     ·rw [q3 m hm, c2.wk.kp m hm]
      show r2 m = r m
      rw [c1.wk.kp m hm]
      exact e1 m hm
     ·rw [World.putObj_heap_same (Array.getElem?_eq_some_iff.1 k1).1, hrec]; rfl
    ·refine ⟨c2.wk.os.trans c1.wk.os, c2.wk.tape.trans c1.wk.tape, c2.wk.output.trans c1.wk.output, by rw [size_putObj']; omega, fun i hi hg => ?_, c1.wk.hg.trans c2.wk.hg, fun i hi => ?_, fun i hi => ?_⟩
     ·have hiL : i ≠ L := fun x => hg (.inl x)
      rw [putObj_other hiL, c2.wk.old i (by rw [show (Ctx.round h2 r2 s1.own (w1.putObj L (.loop { rec .ready none with state := .busy })) np').w0.heap.size = w1.heap.size from size_putObj' _ _ _]; omega) (fun x => by
       rcases F2 i x with g | g
       ·omega
       ·exact hg (.inr g))]
      show (w1.putObj L _).heap[i]? = _
      rw [putObj_other hiL]
      exact c1.wk.old i hi (fun x => hg (.inr x))
     ·rcases c2.wk.hn i hi with g | g | g
      ·rcases c1.wk.hn i g with g | g | g
       ·exact .inl g
       ·exact .inr (.inl g)
       ·exact .inr (.inr (.inr g))
      ·have g' : (w1.putObj L (.loop { rec .ready none with state := .busy })).heap.size ≤ i := g
       rw [size_putObj'] at g'
       exact .inr (.inl (by omega))
      ·rcases F2 i g with g | g
       ·exact .inr (.inl g)
       ·exact .inr (.inr (.inr g))
     ·rcases hi with rfl | ⟨m, hm, e⟩
      ·exact .inl (.inl rfl)
      ·obtain ⟨m2, g1, g2⟩ := q4 m i hm e
       rcases c2.wk.fo m2 i g1 g2 with g | g
       ·have g' : (w1.putObj L (.loop { rec .ready none with state := .busy })).heap.size ≤ i := g
        rw [size_putObj'] at g'
        exact .inr (by omega)
       ·rcases F2 i g with g | g
        ·exact .inr g
        ·exact .inl (.inr g)
   | _ => exact q1.elim
  ·rw [hJ]
   exact ⟨r, fun _ _ => rfl, hw2, hL1, hhL, hnoL, .refl _, rfl⟩
  ·rintro e W3 ⟨⟨v, rfl⟩, h', G', hk⟩
   rw [hJ] at hk
   obtain ⟨r', e1, e2, e3, e4, e5, e6, _⟩ := hk
   refine ⟨none, _, by have := run_endLoop (P := P) e3 (by rw [hrec]; simp); rw [hrec] at this; exact this, ?_⟩
   refine ⟨⟨look l, own xs.length⟩, h', r', hdone, hc.sz, ?_, fun t => hrg h' r' e6 e1 t, e2.putL e5 e4 hCL⟩
   refine ⟨hmar, ⟨w.heap.size, rfl, hc.wk.size, ?_, e6 _ _ hD1, marks_ne hD0 hc.df⟩, hc.df.mono (hle1.trans e6)⟩
   cases e : C.h0 w.heap.size with
   | none => rfl
   | some o => have := hc.wk.hg _ _ e; rw [hD0] at this; cases this
end Go.AM
end
section
namespace Go.AM
open Go Go.RowKit
section ops
variable {P : Program} {tt : TT} (hT : TTok P tt)
variable {dst : Option Nat} {ty : TypeId} {pos : String} {af : Array Edge} {gd : Option (Nat × Bool)} {d : Nat} {ρ : Operand → AV} {own : Own}
variable {T : TypeId} {i : TyI} {x y : Operand}
theorem op_makeFunc {f : FuncId} {c : Operand} {xs : List DV} (hx : ρ c = .ip xs) : Eff P ⟨dst, .makeFunc (.func f) #[] #[c], ty, pos, af, gd⟩ d ρ own (.fn f [xs]) [] none [] :=
 Eff.value fun C h r own' a w hrep hrd hw => by
  have e1 := hrep c (by simp [Op.operands])
  rw [hx] at e1
  refine ⟨.func (.func f) #[] #[a.eval c], ?_, #[a.eval c], rfl, e1, trivial⟩
  simp [execOp, Instr.makeFunc]
theorem eval_func {h : Hp} {r : Nat → Value} {f : FuncId} {v : Value} (e : AVRep h r (.p (.c (.v (.func (.func f) #[] #[])))) v) : v = .func (.func f) #[] #[] := by
 simp only [AVRep, PRep, DRep] at e
 exact e.1
theorem Eff.callF {f : FuncId} {c : Operand} {args : Array Operand} {tys : Array TypeId} {res : AV} (hx : ρ c = .p (.c (.v (.func (.func f) #[] #[])))) (hc : Call0 P f (args.toList.map ρ) res) :
  Eff P ⟨dst, .call ⟨.value c, args, tys⟩, ty, pos, af, gd⟩ d ρ own res [] none [] := by
 intro C h r own' a w K Q hrep hrd hw _ hK
 have e1 := hrep c (by simp [Op.operands, Call.operands])
 rw [hx] at e1
 have e2 := eval_func e1
 unfold Oper.wp
 have hrun : (execOp a.eval ⟨dst, .call ⟨.value c, args, tys⟩, ty, pos, af, gd⟩).run P w = .ok (.enter f (args.map a.eval)) w := by
  simp only [execOp, resolve, Sem.run_bind, e2, Deferred.ofValue, Sem.run_pure, Result.andThen_ok, invoke, Array.empty_append, Array.append_empty]
  exact run_callFunc hc.fn _ w
 rw [hrun]
 refine Calls.mono (hc.go h r w (args.map a.eval) ?_ (hw.before fun m hm => absurd rfl hm)) ?_
 ·rw [Array.toList_map]
  exact repArgs_map _ fun x hx => hrep x (by simp only [Op.operands, Call.operands]; exact Array.mem_append.2 (.inr (Array.mem_toList_iff.1 hx)))
 ·rintro e w' ⟨v, h', rfl, hv, hq⟩
  exact hK v h' r w' hq.hg (fun _ _ => rfl) hv (hw.after (fun m hm => absurd rfl hm) hq (fun m => by simp [nown, applySt]) (fun m b hm => absurd rfl hm))
include hT in
theorem op_index_glob {g e l : Nat} {vs : List Value} {j : TyI} {k : IntKind} {n : Int} (ht : tt T = some i) (hs : i.sh = .ar l e) (he : tt e = some j) (hj : j.size = 1) (hgl : (g, vs) ∈ glist) (hone : (vs.all Value.oneCell') = true) (hy : ρ y = .p (.c (.v (.int k n)))) (hn : 0 ≤ n ∧ n < l) :
  Eff P ⟨dst, .indexAddr T (.global g) y, ty, pos, af, gd⟩ d ρ own (.ip ((vs.drop n.toNat).map .v)) [] none [] :=
 Eff.value fun C h r own' a w hrep hrd hw => by
  have e2 := hrep y (by simp [Op.operands])
  rw [hy] at e2
  obtain ⟨c, t, fr, h1, h2⟩ := hw.gl _ hgl
  refine ⟨.pointer (some ⟨g, 0 + n.toNat * j.size, none⟩), ?_, g, _, c, t, fr, rfl, h1, ?_⟩
  ·have hu := (hT T i ht).array hs
   have hgv : a.eval (.global g) = .pointer (some ⟨g, 0, none⟩) := rfl
   simp only [execOp, hgv, rep_val e2, Instr.indexAt, asIntOf, Sem.run_bind, Sem.run_pure, Result.andThen_ok, run_underlying hu, Instr.sureAddr, hn, and_self, if_true, (hT e j he).size, Addr.add_lit]
  ·rw [DReps.iff]
   intro p dv hp
   rw [List.getElem?_map, List.getElem?_drop] at hp
   cases hv : vs[n.toNat + p]? with
   | none => rw [hv] at hp; cases hp
   | some v =>
    rw [hv] at hp
    cases hp
    refine ⟨v, ?_, ?_⟩
    ·have e3 : 0 + n.toNat * j.size + p = n.toNat + p := by rw [hj]; omega
     show c[0 + n.toNat * j.size + p]? = some v
     rw [e3]; exact h2 _ _ hv
    ·simp only [DRep, true_and]
     exact List.all_eq_true.1 hone v (List.mem_of_getElem? hv)
end ops
section ghost
variable {P : Program} {B : Bool} {N np : Nat} {Q : Exit → St → Prop} {s : St} {c : Code}
theorem AWp_freezeBox {t m z : Nat} {e : TypeId} {cs : List DV} (ht : s.regs t = .loc m 0) (hb : s.own m = some ⟨false, z, e, cs⟩) (h : AWp P B N np c Q ⟨upd s.regs t (.ip cs), upd s.own m none⟩) : AWp P B N np c Q s := by
 intro ro hB C hh r a w hn hc
 have hold := hc.wk.ow m _ hb
 unfold BlkRep at hold
 simp only at hold
 obtain ⟨k, cc, q1, q2, q3, q4⟩ := hold
 obtain ⟨f1, f2⟩ := hc.wk.freeze (m := m) (i := k) (by rw [hb]; simp) (by rw [q1]; rfl) q2
 refine h ro hB C _ r a w hn ⟨hc.sz, hc.df.mono f2, fun t' => ?_, f1⟩
 show AVRep _ _ (upd s.regs t _ t') _
 by_cases e' : t' = t
 ·subst e'
  rw [upd_same]
  have hx := hc.rg t'
  rw [ht] at hx
  obtain ⟨k', g1, g2⟩ := hx
  rw [q1] at g1; simp only [hblk, Option.some.injEq] at g1; subst g1
  exact ⟨k, 0, cc, e, (0, 0), g2, if_pos rfl, by simpa using DReps.mono f2 _ _ q4⟩
 ·rw [upd_ne _ _ _ _ e']; exact AVRep.mono f2 _ _ (hc.rg t')
end ghost
end Go.AM
end
section
namespace Go.AM
open Go Go.RowKit
section
variable {P : Program} {ro : Option Nat} {ops : Array Oper} {Q : Exit → Act → World → Prop} {K : Act → World → Prop} {a : Act} {w w' : World} {i : Nat} {o : Oper}
theorem wpOpIn_val {x : Value} (ho : ops[i]? = some o) (hg : o.guard = none) (hd : noDefer o = true) (hrun : (execOp a.eval o).run P w = .ok (.value x) w') (hK : K (a.put o.dst x) w') : wpOpIn (Wd ro) 0 P ops Q i K a w := by
 unfold wpOpIn
 have hw : Region.wanted o (yielded ops a.tmps) = true := by unfold Region.wanted; rw [hg]
 simp only [ho]
 rw [if_pos hw]
 refine ⟨fun _ _ => trivial, ?_⟩
 rw [Oper.semAt_eq _ _ _ (noDefer_ne hd), hrun]
 exact hK
end
section
end
end Go.AM
end
section
namespace Go.AM
open Go Go.RowKit
section
variable (P : Program) (l : Nat) (xs : List (List PV)) (n0 : Nat) (J : Nat → Hp → (Nat → Prop) → World → Prop) (N : Nat)
structure CJ (k : Nat) (G : Nat → Prop) (h : Hp) (r : Nat → Value) (s : St) (a : Act) (w : World) : Prop where
 sz : a.tmps.size = N
 df : a.defers = []
 rg : RegsOK h r s.regs a
 kj : ∃ C : Ctx, WOK C h r s.own w ∧ J k C.h0 G C.w0 ∧ n0 ≤ C.w0.heap.size ∧ (∀ i, C.F i → n0 ≤ i ∧ ¬ G i ∧ C.h0 i = none) ∧ C.np = 0 ∧ C.mar = false
def AJ (c : Code) (Q : Exit → Nat → St → Prop) (k : Nat) (s : St) : Prop :=
 ∀ (h : Hp) (r : Nat → Value) (a : Act) (w : World) (G : Nat → Prop), CJ n0 J N k G h r s a w →
  c.wpIn (Wd none) 0 P (fun e a' w' => ∃ k' s' h' r' G', Q e k' s' ∧ CJ n0 J N k' G' h' r' s' a' w') a w
def RJ (Q : Exit → Nat → St → Prop) (ops : Array Oper) (os : List Oper) (i : Nat) (k : Nat) (s : St) : Prop := ops.toList.drop i = os →
 ∀ (h : Hp) (r : Nat → Value) (a : Act) (w : World) (G : Nat → Prop), CJ n0 J N k G h r s a w →
  wpOpsIn (Wd none) 0 P ops (fun e a' w' => ∃ k' s' h' r' G', Q e k' s' ∧ CJ n0 J N k' G' h' r' s' a' w') (List.range' i os.length) a w
end
def JThen (K : Nat → St → Prop) (Q : Exit → Nat → St → Prop) : Exit → Nat → St → Prop
 | .normal, k, s => K k s
 | e, k, s => Q e k s
def JIn (id : Nat) (Q : Exit → Nat → St → Prop) : Exit → Nat → St → Prop
 | .exit id', k, s => bif Nat.beq id' id then Q .normal k s else Q (.exit id') k s
 | e, k, s => Q e k s
section
variable {P : Program} {l : Nat} {xs : List (List PV)} {n0 : Nat} {J : Nat → Hp → (Nat → Prop) → World → Prop} {N : Nat} (hK : Keeps P l xs n0 J)
variable {Q : Exit → Nat → St → Prop} {k : Nat} {s : St}
include hK in
theorem CJ.now {G : Nat → Prop} {h : Hp} {r : Nat → Value} {a : Act} {w : World} (c : CJ n0 J N k G h r s a w) : J k h G w := by
 obtain ⟨C, hw, hj, hs, hF, _⟩ := c.kj
 have hg := hK.g _ _ _ _ hj
 refine hK.rest _ _ _ _ _ _ hj ⟨hw.os, hw.tape, hw.output, hw.size, fun i hi => ?_, hw.hi, hw.hg, fun i hi => ?_⟩
 ·by_cases e : C.F i
  ·exact .inr (hF i e)
  ·exact .inl (hw.old i hi e)
 ·rcases hw.hn i hi with g | g | g
  ·exact .inl g
  ·exact .inr ⟨Nat.le_trans hs g, fun x => by have := (hg i x).1; omega⟩
  ·exact .inr ⟨(hF i g).1, (hF i g).2.1⟩
include hK in
theorem CJ.notG {G : Nat → Prop} {h : Hp} {r : Nat → Value} {a : Act} {w : World} (c : CJ n0 J N k G h r s a w) {m i : Nat} (hm : s.own m ≠ none) (e : hblk (r m) = some i) : n0 ≤ i ∧ ¬ G i ∧ i < w.heap.size ∧ h i = none := by
 obtain ⟨C, hw, hj, hs, hF, _⟩ := c.kj
 refine ⟨?_, ?_, hw.lt hm e, hw.ho m i hm e⟩
 ·rcases hw.fo m i hm e with g | g
  ·exact Nat.le_trans hs g
  ·exact (hF i g).1
 ·rcases hw.fo m i hm e with g | g
  ·exact fun x => by have := (hK.g _ _ _ _ hj i x).1; omega
  ·exact (hF i g).2.1
theorem AJ_lift {c : Code} (h : AWp P true N 0 c (fun e s' => Q e k s') s) : AJ P n0 J N c Q k s := by
 intro hh r a w G hc
 obtain ⟨C, hw, hj, hs, hF, hn, hm⟩ := hc.kj
 refine wpIn_mono (h none (fun _ => rfl) C hh r a w ⟨hn, hm⟩ ⟨hc.sz, by rw [hc.df]; trivial, hc.rg, hw⟩) ?_
 rintro e a' w' ⟨s', h', r', q, c'⟩
 refine ⟨k, s', h', r', G, q, c'.sz, ?_, c'.rg, C, c'.wk, hj, hs, hF, hn, hm⟩
 have := c'.df
 cases hd : a'.defers with
 | nil => rfl
 | cons d ds => rw [hd] at this; have h1 := this.1; rw [hm] at h1; cases h1
theorem AJ_region (hP : P.follows .mixedOrders = true) {id : Nat} {ops : Array Oper} {draw : Bool} (h : RK P N 0 ops draw ops.toList (kill (allocs ops.toList) s) [] (Q .normal k)) : AJ P n0 J N (.region id ops draw) Q k s :=
 AJ_lift (AWp_region hP h)
theorem AJ_seq {x y : Code} (h : AJ P n0 J N x (JThen (AJ P n0 J N y Q) Q) k s) : AJ P n0 J N (.seq x y) Q k s := by
 intro hh r a w G hc
 refine wpIn_seq (wpIn_mono (h hh r a w G hc) ?_)
 rintro e a' w' ⟨k', s', h', r', G', q, c⟩
 cases e with
 | normal => exact q h' r' a' w' G' c
 | _ => exact ⟨k', s', h', r', G', q, c⟩
theorem AJ_skip (h : Q .normal k s) : AJ P n0 J N .skip Q k s := fun hh r _ _ G hc => wpIn_skip ⟨k, s, hh, r, G, h, hc⟩
theorem AJ_exit {id : Nat} (h : Q (.exit id) k s) : AJ P n0 J N (.exit id) Q k s := fun hh r _ _ G hc => wpIn_exit ⟨k, s, hh, r, G, h, hc⟩
theorem AJ_block {id : Nat} {c : Code} (h : AJ P n0 J N c (JIn id Q) k s) : AJ P n0 J N (.block id c) Q k s := by
 intro hh r a w G hc
 refine wpIn_block (wpIn_mono (h hh r a w G hc) ?_)
 rintro e a' w' ⟨k', s', h', r', G', q, c⟩
 cases e with
 | exit id' =>
  simp only [Exit.inBlock]
  simp only [JIn] at q
  by_cases hid : id' = id
  ·subst hid
   rw [if_pos rfl]
   have : Nat.beq id' id' = true := by simp
   rw [this] at q
   exact ⟨k', s', h', r', G', q, c⟩
  ·rw [if_neg hid]
   have : Nat.beq id' id = false := by
    cases e : Nat.beq id' id with
    | false => rfl
    | true => exact absurd (Nat.eq_of_beq_eq_true e) hid
   rw [this] at q
   exact ⟨k', s', h', r', G', q, c⟩
 | _ => exact ⟨k', s', h', r', G', q, c⟩
theorem CJ.bool {G : Nat → Prop} {h : Hp} {r : Nat → Value} {a : Act} {w : World} (hc : CJ n0 J N k G h r s a w) {c : Operand} {b : Bool} (he : ev s.regs c = .p (.c (.v (.bool b)))) : a.eval c = .bool b := by
 have := rep_ev hc.rg c
 rw [he] at this
 simp only [AVRep, PRep, DRep] at this
 exact this.1
theorem AJ_cond {c : Operand} {x y : Code} {b : Bool} (he : ev s.regs c = .p (.c (.v (.bool b)))) (ht : b = true → AJ P n0 J N x Q k s) (hf : b = false → AJ P n0 J N y Q k s) : AJ P n0 J N (.cond c x y) Q k s := by
 intro hh r a w G hc
 have hb := hc.bool he
 cases b with
 | true => exact wpIn_cond_true hb (ht rfl hh r a w G hc)
 | false => exact wpIn_cond_false hb (hf rfl hh r a w G hc)
theorem AJ_cond_false {c : Operand} {x y : Code} {b : Bool} (he : ev s.regs c = .p (.c (.v (.bool b)))) (hb : b = false) (hf : AJ P n0 J N y Q k s) : AJ P n0 J N (.cond c x y) Q k s :=
 AJ_cond he (fun h => by rw [hb] at h; cases h) (fun _ => hf)
theorem CJ.le {t : St} (q : Le s t) {G : Nat → Prop} {h : Hp} {r : Nat → Value} {a : Act} {w : World} (c : CJ n0 J N k G h r s a w) : CJ n0 J N k G h r t a w := by
 obtain ⟨C, hw, rest⟩ := c.kj
 exact ⟨c.sz, c.df, fun i => q.regs i h r _ (c.rg i), C, hw.forget q.own, rest⟩
theorem AJ_loop {ι : Type} {c : Code} (I : ι → St) (κ : ι → Nat) (F : ι → Prop) (μ : ι → Nat) (i₀ : ι) (h₀ : F i₀) (hk : κ i₀ = k) (hs : Le s (I i₀))
  (round : ∀ i, F i → AJ P n0 J N c (JThen (fun k' s' => ∃ j, F j ∧ μ j < μ i ∧ κ j = k' ∧ Le s' (I j)) Q) (κ i) (I i)) : AJ P n0 J N (.loop c) Q k s := by
 intro hh r a w G hc b kk cs hro hfn hroom
 have key : ∀ n i h r a w G, μ i = n → F i → CJ n0 J N (κ i) G h r (I i) a w →
   ∃ e a' w', (∃ k' s' h' r' G', Q e k' s' ∧ CJ n0 J N k' G' h' r' s' a' w') ∧ ArrivesIn (Machine.fenced P (Wd none)) P (lone (b.atR a (.code c :: .inLoop c :: kk)) cs w) b kk cs e a' w' := by
  intro n
  induction n using Nat.strongRecOn with
  | _ n ih =>
   intro i h r a w G hμ hF hc
   obtain ⟨e, a₁, w₁, ⟨k₁, s₁, h₁, r₁, G₁, hq, hc₁⟩, harr⟩ := round i hF h r a w G hc b (.inLoop c :: kk) cs hro hfn hroom
   cases e with
   | normal =>
    obtain ⟨j, hFj, hlt, hκ, hle⟩ := hq
    subst hκ
    obtain ⟨e₂, a₂, w₂, hq₂, harr₂⟩ := ih (μ j) (hμ ▸ hlt) j h₁ r₁ a₁ w₁ G₁ rfl hFj (hc₁.le hle)
    exact ⟨e₂, a₂, w₂, hq₂, .of_steps (StepsIn.trans harr (.one (fenced_calm hfn hroom rfl) stepR_inLoop)) harr₂⟩
   | exit id => exact ⟨_, a₁, w₁, ⟨k₁, s₁, h₁, r₁, G₁, hq, hc₁⟩, .pass (x := .inLoop c) rfl (fun _ _ => .inl (by simp)) harr⟩
   | goto l => exact ⟨_, a₁, w₁, ⟨k₁, s₁, h₁, r₁, G₁, hq, hc₁⟩, .pass (x := .inLoop c) rfl (fun _ _ => .inl (by simp)) harr⟩
   | ret => exact ⟨_, a₁, w₁, ⟨k₁, s₁, h₁, r₁, G₁, hq, hc₁⟩, .pass (x := .inLoop c) rfl (fun _ _ => .inl (by simp)) harr⟩
   | panic ch => exact ⟨_, a₁, w₁, ⟨k₁, s₁, h₁, r₁, G₁, hq, hc₁⟩, .pass (x := .inLoop c) rfl (fun _ _ => .inl (by simp)) harr⟩
   | outgrown => exact ⟨_, a₁, w₁, ⟨k₁, s₁, h₁, r₁, G₁, hq, hc₁⟩, .pass (x := .inLoop c) rfl (fun _ _ => .inl (by simp)) harr⟩
 subst hk
 obtain ⟨e, a', w', hq, harr⟩ := key _ i₀ hh r a w G rfl h₀ (hc.le hs)
 exact ⟨e, a', w', hq, .of_steps (.one (fenced_calm hfn hroom rfl) stepR_loop) harr⟩
section rj
variable {ops : Array Oper} {os : List Oper} {i : Nat} {op : Op} {ty : TypeId} {pos : String} {af : Array Edge} {gd : Option (Nat × Bool)} {t : Nat}
theorem AJ_regionY {id : Nat} (h : RJ P n0 J N Q ops ops.toList 0 k s) : AJ P n0 J N (.region id ops false) Q k s := by
 intro hh r a w G hc
 apply wpIn_region
 rw [List.range_eq_range']
 exact h rfl hh r a w G hc
theorem RJ.done (h : Q .normal k s) : RJ P n0 J N Q ops [] i k s := fun _ hh r _ _ G hc => ⟨k, s, hh, r, G, h, hc⟩
theorem drop_next {o : Oper} (h : ops.toList.drop i = o :: os) : ops[i]? = some o ∧ ops.toList.drop (i + 1) = os := by
 have h1 : (ops.toList.drop i)[0]? = some o := by rw [h]; rfl
 rw [List.getElem?_drop] at h1
 refine ⟨by rw [← Array.getElem?_toList]; simpa using h1, ?_⟩
 rw [← List.tail_drop, h]; rfl
theorem guards_wanted {o : Oper} {b : Bool} {h : Hp} {r : Nat → Value} {a : Act} (hc : RegsOK h r s.regs a) (hG : Guards ops o s.regs b) : Region.wanted o (yielded ops a.tmps) = b := by
 unfold Guards at hG
 cases hg : o.guard with
 | none =>
  rw [hg] at hG
  unfold Region.wanted
  rw [hg, hG]
 | some x =>
  obtain ⟨j, want⟩ := x
  rw [hg] at hG
  obtain ⟨t, g1, hG⟩ := hG
  rcases hG with ⟨c, g2, g3⟩ | ⟨g2, g3⟩
  ·have := yielded_of hc g1 g2
   unfold Region.wanted
   rw [hg]
   simp only [this]
   rw [← g3]
   cases c <;> cases want <;> rfl
  ·have := yielded_none hc g1 g2
   unfold Region.wanted
   rw [hg]
   simp only [this]
   rw [g3]
   cases want <;> rfl
theorem CJ.put {G : Nat → Prop} {h h' : Hp} {r r' : Nat → Value} {a : Act} {w w' : World} {C : Ctx} {v : AV} {x : Value} (hc : CJ n0 J N k G h r s a w) (hle : Hle h h') (hr : ∀ m, r' m = r m) (ht : t < N) (hv : AVRep h' r' v x)
  (q : WOK C h' r' s.own w') (hj : J k C.h0 G C.w0) (hs : n0 ≤ C.w0.heap.size) (hF : ∀ i, C.F i → n0 ≤ i ∧ ¬ G i ∧ C.h0 i = none) (hn : C.np = 0) (hm : C.mar = false) : CJ n0 J N k G h' r' ⟨upd s.regs t v, s.own⟩ (a.put (some t) x) w' :=
 ⟨by simp [Act.put, hc.sz], by simpa [Act.put] using hc.df, (show RegsOK h' r' s.regs a from fun u => AVRep.rebind _ _ (fun m _ => hr m) (AVRep.mono hle _ _ (hc.rg u))).put (dst := some t) (fun d e => by cases e; rw [hc.sz]; exact ht) hv, C, q, hj, hs, hF, hn, hm⟩
theorem RJ.val {v : AV} {rd : List Nat} (hg : Guards ops ⟨some t, op, ty, pos, af, gd⟩ s.regs true) (he : Eff P ⟨some t, op, ty, pos, af, gd⟩ t (ev s.regs) s.own v [] none rd)
  (hr : RJ P n0 J N Q ops os (i + 1) k ⟨upd s.regs t v, s.own⟩) (hN : (Nat.blt t N && noDefer ⟨some t, op, ty, pos, af, gd⟩) = true := by rfl) : RJ P n0 J N Q ops (⟨some t, op, ty, pos, af, gd⟩ :: os) i k s := by
 intro hd hh r a w G hc
 obtain ⟨h1, h2⟩ := drop_next hd
 rw [Bool.and_eq_true, Nat.blt_eq] at hN
 rw [List.length_cons, List.range'_succ, wpOpsIn_cons]
 unfold wpOpIn
 simp only [h1]
 rw [guards_wanted hc.rg hg, if_pos rfl]
 obtain ⟨C, hw, hj, hs, hF, hn, hm⟩ := hc.kj
 refine wpIn_of_wp (noDefer_ne hN.2) ?_
 refine he C hh r s.own a w _ _ (fun x _ => rep_ev hc.rg x) (fun _ _ => rfl) hw (fun e => absurd rfl e) ?_
 intro x h' r' w' hle hrr hv hw'
 exact ⟨hr h2 h' r' _ w' G (hc.put hle (fun m => hrr m (fun e => absurd rfl e)) hN.1 hv hw' hj hs hF hn hm), rfl⟩
theorem repArgs_ps {h : Hp} {r : Nat → Value} : ∀ {x : List PV} {vs : List Value}, RepArgs h r (x.map .p) vs → PReps h x vs
 | [], [], _ => trivial
 | _ :: _, _ :: _, k => ⟨k.1, repArgs_ps k.2⟩
 | [], _ :: _, k => k.elim
 | _ :: _, [], k => k.elim
theorem RJ.yield (hK : Keeps P l xs n0 J) {c : Operand} {args : Array Operand} {tys : Array TypeId} {x : List PV} (hg : Guards ops ⟨some t, .call ⟨.value c, args, tys⟩, ty, pos, af, gd⟩ s.regs true)
  (hy : ev s.regs c = .p (.c (.v (.func (.yield l) #[] #[])))) (ha : args.toList.map (ev s.regs) = x.map .p) (hx : xs[k]? = some x)
  (hr : RJ P n0 J N Q ops os (i + 1) (k + 1) ⟨upd s.regs t (.p (.c (.v (.bool true)))), s.own⟩) (hN : Nat.blt t N = true := by rfl) : RJ P n0 J N Q ops (⟨some t, .call ⟨.value c, args, tys⟩, ty, pos, af, gd⟩ :: os) i k s := by
 intro hd hh r a w G hc
 obtain ⟨h1, h2⟩ := drop_next hd
 rw [Nat.blt_eq] at hN
 rw [List.length_cons, List.range'_succ, wpOpsIn_cons]
 unfold wpOpIn
 simp only [h1]
 rw [guards_wanted hc.rg hg, if_pos rfl]
 have hyv : a.eval c = .func (.yield l) #[] #[] := by
  have := rep_ev hc.rg c
  rw [hy] at this
  simp only [AVRep, PRep, DRep] at this
  exact this.1
 have hra : RepArgs hh r (x.map .p) (args.map a.eval).toList := by
  rw [← ha, Array.toList_map]
  exact repArgs_map _ fun x _ => rep_ev hc.rg x
 obtain ⟨fn, tmps, assign, body, hrun, hR⟩ := hK.give k hh G w x _ hx (hc.now hK) (repArgs_ps hra)
 refine ⟨fun _ _ => trivial, ?_⟩
 rw [Oper.semAt_eq _ _ _ (fun c' e => by cases e)]
 have hex : (execOp a.eval ⟨some t, .call ⟨.value c, args, tys⟩, ty, pos, af, gd⟩).run P w = .ok (.round l fn tmps assign body) w := by
  simp only [execOp, resolve, Sem.run_bind, hyv, Deferred.ofValue, Sem.run_pure, Result.andThen_ok, invoke, Array.empty_append]
  have e : (args.map a.eval).toList.toArray = args.map a.eval := Array.toArray_toList
  rw [← e]; exact hrun
 rw [hex]
 refine ⟨fun e => by simp [Wd] at e, RoundIn.mono hR ?_⟩
 rintro e w' ⟨rfl, h', G', hj, q⟩
 have hC := hc.kj
 obtain ⟨C, hw, hj0, hs, hF, hn, hm⟩ := hC
 have same : ∀ m i, s.own m ≠ none → hblk (r m) = some i → w'.heap[i]? = w.heap[i]? := fun m i hm e => by
  have := hc.notG hK hm e
  exact q.old i this.2.2.1 this.2.1
 have hw' : WOK ⟨w', h', fun i => ∃ m, s.own m ≠ none ∧ hblk (r m) = some i, r, 0, false⟩ h' r s.own w' := by
  refine ⟨fun m b e => ((hw.ow m b e).mono q.hg).world fun i hi => same m i (by rw [e]; simp) hi, hw.inj, hK.hi _ _ _ _ hj, fun m i hm e => ?_, rfl, rfl, .refl _, Nat.le_refl _, fun _ _ _ => rfl, fun m i hm e => .inr ⟨m, hm, e⟩, .refl _, fun _ e => .inl e, hw.gl.mono q.hg, fun _ _ => rfl, fun m b j e hj' => ?_⟩
  ·have hg := hc.notG hK hm e
   cases hh' : h' i with
   | none => rfl
   | some o =>
    rcases q.hn i (by rw [hh']; simp) with g | g | g
    ·exact absurd hg.2.2.2 g
    ·omega
    ·exact absurd g hg.2.1
  ·obtain ⟨q1, t', e1, e2⟩ := hw.lk m b j e hj'
   exact ⟨q1, t', e1, by rw [same m q1 (by rw [e]; simp) (by rw [e1]; rfl)]; exact e2⟩
 have n1 : n0 ≤ w'.heap.size := Nat.le_trans (Nat.le_trans hs hw.size) q.size
 refine hr h2 h' r _ w' G' ⟨by simp [Act.put, hc.sz], by simpa [Act.put] using hc.df, (show RegsOK h' r s.regs a from fun u => AVRep.mono q.hg _ _ (hc.rg u)).put (dst := some t) (v := .p (.c (.v (.bool true)))) (x := .bool true) (fun d e => by cases e; rw [hc.sz]; exact hN) ⟨rfl, rfl⟩, _, hw', hj, n1, ?_, rfl, rfl⟩
 rintro i ⟨m, hm, e⟩
 have hg := hc.notG hK hm e
 refine ⟨hg.1, fun x => ?_, ?_⟩
 ·rcases q.gg i x with g | g
  ·exact hg.2.1 g
  ·omega
 ·exact hw'.ho m i hm e
end rj
end
theorem iter_of {P : Program} {f : FuncId} {fn : Func} {c : Code} {N : Nat} {caps : List (List DV)} {xs : List (List PV)} (hf : P.funcs[f]? = some fn) (hnm : (fn.name == "runtime.NumGoroutine") = false) (hb : fn.body = some c) (hN : fn.ntmps = N) (hna : caps.length + 1 ≤ N) (hres : fn.results = #[])
  (h : ∀ l n0 J, Keeps P l xs n0 J → AJ P n0 J N c (fun e k _ => (e = .normal ∨ e = .ret) ∧ k = xs.length) 0 ⟨fun t => ((.p (.c (.v (.func (.yield l) #[] #[]))) :: caps.map .ip : List AV)).getD t .junk, O⟩) : Iter P f caps xs := by
 refine ⟨⟨fn, hf, hnm, by rw [hb]; rfl⟩, ?_⟩
 intro l lb J hh G W hcaps hgl hK h0
 refine callsIn_of_wp hf hb trivial ?_
 have hcl : ∀ (cs : List (List DV)) (xs : List Value), CapsRep hh cs xs → xs.length = cs.length := by
  intro cs
  induction cs with
  | nil => intro xs k; cases xs with
   | nil => rfl
   | cons _ _ => exact k.elim
  | cons p ps ih => intro xs k; cases xs with
   | nil => exact k.elim
   | cons x xs => simp [ih xs k.2]
 have hlen : lb.size = caps.length := by simpa using hcl _ _ hcaps
 have hget : ∀ (cs : List (List DV)) (xs : List Value), CapsRep hh cs xs → ∀ (t : Nat) (x : List DV), cs[t]? = some x → ∃ y, xs[t]? = some y ∧ IpRep hh x y := by
  intro cs
  induction cs with
  | nil => intro xs _ t x h; simp at h
  | cons p ps ih => intro xs h t x hx; cases xs with
   | nil => exact h.elim
   | cons y ys => cases t with
    | zero => simp at hx; subst hx; exact ⟨y, rfl, h.1⟩
    | succ t => exact ih ys h.2 t x (by simpa using hx)
 refine wpIn_mono (h l W.heap.size J hK hh (fun _ => .bool false) _ W G ⟨?_, rfl, ?_, (⟨W, hh, fun _ => False, fun _ => .bool false, 0, false⟩ : Ctx), ?_, h0, Nat.le_refl _, fun _ e => e.elim, rfl, rfl⟩) ?_
 ·simp [hN, hlen]; omega
 ·intro t
  show AVRep hh _ (((.p (.c (.v (.func (.yield l) #[] #[]))) :: caps.map .ip : List AV)).getD t .junk) _
  rw [List.getD_eq_getElem?_getD]
  cases t with
  | zero =>
   simp only [List.getElem?_cons_zero, Option.getD_some]
   have e0 : (#[.func (.yield l) #[] #[]] ++ lb ++ Array.replicate (fn.ntmps - (#[.func (.yield l) #[] #[]] ++ lb : Array Value).size) undef : Array Value).getD 0 undef = .func (.yield l) #[] #[] := by
    rw [Array.getD_eq_getD_getElem?, Array.getElem?_append_left (by simp; omega), Array.getElem?_append_left (by simp)]; rfl
   show AVRep hh _ (.p (.c (.v (.func (.yield l) #[] #[])))) (Array.getD _ 0 undef)
   rw [e0]
   simp only [AVRep, PRep, DRep, true_and]; rfl
  | succ t =>
   rw [List.getElem?_cons_succ, List.getElem?_map]
   cases ht : caps[t]? with
   | none => exact trivial
   | some x =>
    obtain ⟨y, g1, g2⟩ := hget _ _ hcaps t x ht
    have g1' : lb[t]? = some y := by rw [← Array.getElem?_toList]; exact g1
    have hlt : t < lb.size := (Array.getElem?_eq_some_iff.1 g1').1
    simp only [Option.map_some, Option.getD_some, Array.getD_eq_getD_getElem?]
    rw [Array.getElem?_append_left (by simp; omega), Array.getElem?_append_right (by simp)]
    simp only [List.size_toArray, List.length_cons, List.length_nil, Nat.zero_add, Nat.add_sub_cancel, g1', Option.getD_some]
    exact g2
 ·exact ⟨fun m b e => (by cases e), fun m n k e => absurd rfl e, hK.hi _ _ _ _ h0, fun m k e => absurd rfl e, rfl, rfl, .refl _, Nat.le_refl _, fun _ _ _ => rfl, fun m k e => absurd rfl e, Hle.refl _, fun k e => Or.inl e, hgl, fun _ _ => rfl, fun m b j e => (by cases e)⟩
 ·rintro e a' w' ⟨k', s', h', r', G', ⟨he, rfl⟩, c'⟩
  have hr : (results fn a'.tmps).run P w' = .ok (.tuple #[]) w' := by rw [results_eq, hres]; simp
  have fin : ∀ e', (e' = Exit.normal ∨ e' = Exit.ret) → bodyPost P fn (fun e W' => (∃ v, e = .returned v) ∧ ∃ h' G', J xs.length h' G' W') e' a' w' := by
   rintro e' (rfl | rfl) <;> exact ⟨c'.df, _, hr, ⟨_, rfl⟩, h', G', c'.now hK⟩
  exact fin e he
end Go.AM
end
section
namespace Go.AM
open Go Go.RowKit
structure Tr where
 a : Int
 b : Int
 c : Int
 deriving DecidableEq
def okT (n a b : Int) : Bool := decide ((b * b + n) % (4 * a) = 0) && (decide (a ≤ (b * b + n) / (4 * a)) && !(decide (b < 0) && decide (a = (b * b + n) / (4 * a))))
def rowT (n a : Int) : Nat → Int → List Tr
 | 0, _ => []
 | k + 1, b => (if okT n a b then [⟨a, b, (b * b + n) / (4 * a)⟩] else []) ++ rowT n a k (b + 1)
def allT (n : Int) : Nat → Int → List Tr
 | 0, _ => []
 | k + 1, a => if 3 * a * a ≤ n then rowT n a (2 * a).toNat (1 - a) ++ allT n k (a + 1) else []
def trs (n : Int) : List Tr := allT n 2000 1
section
end
end Go.AM
end
section
namespace Go.AM
open Go Go.RowKit
theorem wl_zero_iff {x : Int} : ((wl x.natAbs).length : Int) = 0 ↔ x = 0 := wl_len_zero
theorem wl_get0 {m : Nat} (h : 0 < (wl m).length) : (wl m).getD 0 0 = m % 4294967296 := by
 have hm : 0 < m := by
  rcases Nat.eq_zero_or_pos m with e | e
  ·subst e; simp [wl_zero] at h
  ·exact e
 rw [wl_pos hm]; rfl
def oddB (x : Int) : Bool := decide (x % 2 = 1)
theorem odd_no {x : Int} (h : ¬ ((wl x.natAbs).length : Int) > 0) : false = oddB x := by
 have h1 : ((wl x.natAbs).length : Int) = 0 := by omega
 have h2 := wl_zero_iff.1 h1
 subst h2; rfl
theorem odd_yes {x : Int} (h : ((wl x.natAbs).length : Int) > 0) : ((((wl x.natAbs).getD 0 0 &&& 1 : Nat) : Int) == 1) = oddB x := by
 rw [wl_get0 (by omega), Nat.and_one_is_mod]
 unfold oddB
 rw [Bool.eq_iff_iff, beq_iff_eq, decide_eq_true_iff]
 omega
theorem low_zero {x m : Int} (h : ((wl x.natAbs).length : Int) = 0) : 0 = x % m := by rw [wl_zero_iff.1 h]; simp
theorem low_get {x m : Int} (hm : m = 4 ∨ m = 8) (h : ¬ ((wl x.natAbs).length : Int) = 0) : ((wl x.natAbs).getD 0 0 : Int) % m = (x.natAbs : Int) % m := by
 rw [wl_get0 (by omega)]
 rcases hm with rfl | rfl <;> omega
theorem low_neg {x m : Int} (hm : m = 4 ∨ m = 8) (h : x < 0) (h2 : (x.natAbs : Int) % m > 0) : m - (x.natAbs : Int) % m = x % m := by
 rcases hm with rfl | rfl <;> omega
theorem low_neg0 {x m : Int} (hm : m = 4 ∨ m = 8) (h : x < 0) (h2 : ¬ (x.natAbs : Int) % m > 0) : (x.natAbs : Int) % m = x % m := by
 rcases hm with rfl | rfl <;> omega
theorem low_pos {x m : Int} (h : ¬ x < 0) : (x.natAbs : Int) % m = x % m := by
 rw [show (x.natAbs : Int) = x by omega]
def twG : Nat → Int → Int × Int
 | 0, a => (a, 0)
 | f + 1, a => if oddB a then (a, 0) else ((twG f (a / 2)).1, (twG f (a / 2)).2 + 1)
def tw (a : Int) : Int × Int := twG a.natAbs a
theorem twG_more : ∀ (f : Nat) (a : Int), a ≠ 0 → a.natAbs ≤ f → twG (f + 1) a = twG f a
 | 0, a, h0, h => by omega
 | f + 1, a, h0, h => by
  have e1 : twG (f + 1 + 1) a = if oddB a then (a, 0) else ((twG (f + 1) (a / 2)).1, (twG (f + 1) (a / 2)).2 + 1) := rfl
  have e2 : twG (f + 1) a = if oddB a then (a, 0) else ((twG f (a / 2)).1, (twG f (a / 2)).2 + 1) := rfl
  rw [e1, e2]
  split
  ·rfl
  ·next hp =>
   have h2 : a % 2 = 0 := by
    have : ¬ a % 2 = 1 := fun e => hp (by unfold oddB; rw [e]; rfl)
    omega
   rw [twG_more f (a / 2) (by omega) (by omega)]
theorem twG_any {f : Nat} {a : Int} (h0 : a ≠ 0) (h : a.natAbs ≤ f) : twG f a = tw a := by
 unfold tw
 induction f with
 | zero => omega
 | succ f ih =>
  rcases Nat.lt_or_ge f a.natAbs with h1 | h1
  ·have : a.natAbs = f + 1 := by omega
   rw [this]
  ·rw [twG_more f a h0 h1]; exact ih h1
theorem tw_odd {a : Int} (h : oddB a = true) : tw a = (a, 0) := by
 unfold tw
 cases a.natAbs with
 | zero => rfl
 | succ n => rw [twG, if_pos h]
theorem tw_even {a : Int} (h0 : a ≠ 0) (h : oddB a = false) : tw a = ((tw (a / 2)).1, (tw (a / 2)).2 + 1) := by
 have h2 : a % 2 = 0 := by
  have : ¬ a % 2 = 1 := fun e => by unfold oddB at h; rw [e] at h; cases h
  omega
 have h3 : a.natAbs = (a.natAbs - 1) + 1 := by omega
 have h4 : tw a = twG ((a.natAbs - 1) + 1) a := by unfold tw; rw [← h3]
 rw [h4, twG, if_neg (by rw [h]; simp), twG_any (a := a / 2) (f := a.natAbs - 1) (by omega) (by omega)]
theorem tw_step {a0 b : Int} {k : Int} (h0 : b ≠ 0) (ho : oddB b = false) (h : tw a0 = ((tw b).1, (tw b).2 + k)) : tw a0 = ((tw (b / 2)).1, (tw (b / 2)).2 + (k + 1)) := by
 rw [h, tw_even h0 ho]
 simp only [Prod.mk.injEq, true_and]
 omega
theorem tw_stop {a0 b : Int} {k : Int} (ho : oddB b = true) (h : tw a0 = ((tw b).1, (tw b).2 + k)) : tw a0 = (b, k) := by
 rw [h, tw_odd ho]; simp
theorem tw_abs : ∀ (n : Nat) (a : Int), a.natAbs ≤ n → a ≠ 0 → (tw a).1.natAbs ≤ a.natAbs ∧ (tw a).1 ≠ 0 ∧ oddB (tw a).1 = true ∧ 0 ≤ (tw a).2 ∧ (tw a).2 ≤ a.natAbs ∧ (0 < a → 0 < (tw a).1)
 | 0, a, h, h0 => by omega
 | n + 1, a, h, h0 => by
  cases ho : oddB a with
  | true => rw [tw_odd ho]; exact ⟨Nat.le_refl _, h0, ho, by simp only; omega, by simp only; omega, fun h => h⟩
  | false =>
   have h2 : a % 2 = 0 := by
    have : ¬ a % 2 = 1 := fun e => by unfold oddB at ho; rw [e] at ho; cases ho
    omega
   obtain ⟨i1, i2, i3, i4, i5, i6⟩ := tw_abs n (a / 2) (by omega) (by omega)
   rw [tw_even h0 ho]
   exact ⟨by simp only; omega, i2, i3, by simp only; omega, by simp only; omega, fun hp => i6 (by omega)⟩
def sg8 (a : Int) : Int := if a % 8 = 1 then 1 else if a % 8 = 3 then -1 else if a % 8 = 5 then -1 else if a % 8 = 7 then 1 else 0
def krGo : Nat → Int → Int → Int → Int × Int
 | 0, k, _, n => (k, n)
 | f + 1, k, a, n => if 0 < a then
   let k1 := if (tw a).2 % 2 = 1 then k * sg8 n else k
   let k2 := if (tw a).1 % 4 = 3 ∧ n % 4 = 3 then -k1 else k1
   krGo f k2 (n % (tw a).1) (tw a).1
  else (k, n)
def kr (a n : Int) : Int :=
 if n = 0 then (if (a.natAbs : Int) = 1 then 1 else 0)
 else if oddB a = false ∧ oddB n = false then 0
 else
  let k0 : Int := if n < 0 ∧ a < 0 then -1 else 1
  let n1 : Int := n.natAbs
  let k1 := if (tw n1).2 % 2 = 1 then k0 * sg8 a else k0
  let r := krGo (a % (tw n1).1).natAbs.succ k1 (a % (tw n1).1) (tw n1).1
  if r.2 = 1 then r.1 else 0
end Go.AM
end
section
namespace Go.AM
open Go Go.RowKit
def isD (x : Int) : Bool := decide (0 < x) && (decide (x % 4 = 0) || decide (x % 4 = 3))
section
end
end Go.AM
end
section
namespace Go.AM
open Go Go.RowKit
theorem pow_lt_gen {k n : Nat} {x : Int} (hx : L n x) (h : 2 ^ k ≤ x.natAbs) : k < 2 ^ n := by
 unfold L at hx
 generalize 2 ^ n = e at hx ⊢
 exact (Nat.pow_lt_pow_iff_right (a := 2) (by omega)).1 (Nat.lt_of_le_of_lt h hx)
theorem pow_lt_of {k : Nat} {x : Int} (hx : L 40 x) (h : 2 ^ k ≤ x.natAbs) : k < 1099511627776 := Nat.lt_of_lt_of_eq (pow_lt_gen hx h) (by decide)
structure TwI (x b k : Int) : Prop where
 ne : b ≠ 0
 lb : L 40 b
 tw : tw x = ((AM.tw b).1, (AM.tw b).2 + k)
 k0 : 0 ≤ k
 le : b.natAbs * 2 ^ k.toNat ≤ x.natAbs
theorem TwI.start {x : Int} (hx : L 40 x) (h : x ≠ 0) : TwI x x 0 := ⟨h, hx, by simp, by omega, by simp⟩
theorem TwI.lt {x b k : Int} (hx : L 40 x) (h : TwI x b k) : k < 1099511627776 := by
 have h1 : 1 * 2 ^ k.toNat ≤ b.natAbs * 2 ^ k.toNat := Nat.mul_le_mul_right _ (by have := h.ne; omega)
 have := pow_lt_of (k := k.toNat) hx (by have := h.le; omega)
 have := h.k0
 omega
theorem TwI.next {x b k : Int} (h : TwI x b k) (ho : oddB b = false) : TwI x (b / 2) (k + 1) ∧ (b / 2).natAbs < b.natAbs := by
 have h2 : b % 2 = 0 := by
  have : ¬ b % 2 = 1 := fun e => by unfold oddB at ho; rw [e] at ho; cases ho
  omega
 have hne := h.ne
 have hb : b.natAbs = 2 * (b / 2).natAbs := by omega
 refine ⟨⟨by omega, L.of_le h.lb (by omega), tw_step hne ho h.tw, by have := h.k0; omega, ?_⟩, by omega⟩
 have e : (k + 1).toNat = k.toNat + 1 := by have := h.k0; omega
 have hl := h.le
 rw [hb] at hl
 rw [e, Nat.pow_succ]
 have e2 : (b / 2).natAbs * (2 ^ k.toNat * 2) = 2 * (b / 2).natAbs * 2 ^ k.toNat := by
  rw [Nat.mul_comm (2 ^ k.toNat) 2, ← Nat.mul_assoc, Nat.mul_comm _ 2]
 omega
theorem tw_L {x : Int} (hx : L 40 x) (h0 : x ≠ 0) : LB (tw x).1 40 := ⟨L.of_le hx (tw_abs _ x (Nat.le_refl _) h0).1⟩
theorem tw_c {x : Int} (hx : L 40 x) (h0 : x ≠ 0) : 0 ≤ (tw x).2 ∧ (tw x).2 < 1099511627776 := by
 have key : ∀ (n : Nat) (a : Int), a.natAbs ≤ n → a ≠ 0 → (tw a).1.natAbs * 2 ^ (tw a).2.toNat ≤ a.natAbs := by
  intro n
  induction n with
  | zero => intro a h h0; omega
  | succ n ih =>
   intro a h h0
   cases ho : oddB a with
   | true => rw [tw_odd ho]; simp
   | false =>
    have h2 : a % 2 = 0 := by
     have : ¬ a % 2 = 1 := fun e => by unfold oddB at ho; rw [e] at ho; cases ho
     omega
    have i1 := ih (a / 2) (by omega) (by omega)
    have i2 := (tw_abs _ (a / 2) (Nat.le_refl _) (by omega)).2.2.2.1
    rw [tw_even h0 ho]
    simp only
    have e : ((tw (a / 2)).2 + 1).toNat = (tw (a / 2)).2.toNat + 1 := by omega
    have hb : a.natAbs = 2 * (a / 2).natAbs := by omega
    rw [e, Nat.pow_succ]
    have e2 : (tw (a / 2)).1.natAbs * (2 ^ (tw (a / 2)).2.toNat * 2) = 2 * ((tw (a / 2)).1.natAbs * 2 ^ (tw (a / 2)).2.toNat) := by
     rw [← Nat.mul_assoc, Nat.mul_comm _ 2]
    omega
 have h1 := key _ x (Nat.le_refl _) h0
 have h2 := tw_abs _ x (Nat.le_refl _) h0
 have h3 : 1 * 2 ^ (tw x).2.toNat ≤ (tw x).1.natAbs * 2 ^ (tw x).2.toNat := Nat.mul_le_mul_right _ (by omega)
 have := pow_lt_of (k := (tw x).2.toNat) hx (by omega)
 omega
def sgL : List Value := [.int .i64 0, .int .i64 1, .int .i64 0, .int .i64 (-1), .int .i64 0, .int .i64 (-1), .int .i64 0, .int .i64 1]
theorem sg8_get (x : Int) : ((sgL.drop (x % 8).toNat).map DV.v)[0]? = some (.v (.int .i64 (sg8 x))) := by
 have h1 := Int.emod_nonneg x (show (8 : Int) ≠ 0 by omega)
 have h2 := Int.emod_lt_of_pos x (show (0 : Int) < 8 by omega)
 unfold sg8
 generalize x % 8 = r at *
 have : r = 0 ∨ r = 1 ∨ r = 2 ∨ r = 3 ∨ r = 4 ∨ r = 5 ∨ r = 6 ∨ r = 7 := by omega
 rcases this with rfl | rfl | rfl | rfl | rfl | rfl | rfl | rfl <;> rfl
theorem sg8_b (x : Int) : -1 ≤ sg8 x ∧ sg8 x ≤ 1 := by unfold sg8; repeat' split <;> omega
theorem k_sg {k x : Int} (h : -1 ≤ k ∧ k ≤ 1) : -1 ≤ k * sg8 x ∧ k * sg8 x ≤ 1 := by
 have h2 := sg8_b x
 generalize sg8 x = s at *
 have : k = -1 ∨ k = 0 ∨ k = 1 := by omega
 rcases this with rfl | rfl | rfl <;> omega
structure KrI (R : Int × Int) (f : Nat) (k a n : Int) : Prop where
 hk : -1 ≤ k ∧ k ≤ 1
 a0 : 0 ≤ a
 n0 : 0 < n
 la : L 40 a
 ln : L 40 n
 hf : a.natAbs < f
 go : krGo f k a n = R
def k1F (k a n : Int) : Int := if (tw a).2 % 2 = 1 then k * sg8 n else k
def k2F (k1 a n : Int) : Int := if (tw a).1 % 4 = 3 ∧ n % 4 = 3 then -k1 else k1
theorem KrI.next {R : Int × Int} {f : Nat} {k a n : Int} (h : KrI R f k a n) (ha : 0 < a) :
  KrI R (f - 1) (k2F (k1F k a n) a n) (n % (tw a).1) (tw a).1 ∧ (n % (tw a).1).natAbs < a.natAbs := by
 have h1 := tw_abs _ a (Nat.le_refl _) (by omega)
 have hp := h1.2.2.2.2.2 ha
 have h3 := Int.emod_nonneg n (show (tw a).1 ≠ 0 by omega)
 have h4 := Int.emod_lt_of_pos n hp
 have hk1 : -1 ≤ k1F k a n ∧ k1F k a n ≤ 1 := by
  unfold k1F; split
  ·exact k_sg h.hk
  ·exact h.hk
 have hla := h.la
 have hf := h.hf
 refine ⟨⟨?_, h3, hp, L.of_le hla (by omega), L.of_le hla h1.1, by omega, ?_⟩, by omega⟩
 ·unfold k2F; split <;> omega
 ·have e : f = (f - 1) + 1 := by omega
  have := h.go
  rw [e, krGo, if_pos ha] at this
  exact this
theorem KrI.stop {R : Int × Int} {f : Nat} {k a n : Int} (h : KrI R f k a n) (ha : ¬ 0 < a) : R = (k, n) := by
 have e : f = (f - 1) + 1 := by have := h.hf; omega
 have := h.go
 rw [e, krGo, if_neg ha] at this
 exact this.symm
def k0K (a n : Int) : Int := if n < 0 ∧ a < 0 then -1 else 1
def k1K (a n : Int) : Int := if (tw (n.natAbs : Int)).2 % 2 = 1 then k0K a n * sg8 a else k0K a n
def RK_ (a n : Int) : Int × Int := krGo (a % (tw (n.natAbs : Int)).1).natAbs.succ (k1K a n) (a % (tw (n.natAbs : Int)).1) (tw (n.natAbs : Int)).1
theorem k0K_b (a n : Int) : -1 ≤ k0K a n ∧ k0K a n ≤ 1 := by unfold k0K; split <;> omega
theorem k1K_b (a n : Int) : -1 ≤ k1K a n ∧ k1K a n ≤ 1 := by
 unfold k1K; split
 ·exact k_sg (k0K_b a n)
 ·exact k0K_b a n
theorem kr_0 {a n : Int} (h : n = 0) (h1 : (a.natAbs : Int) = 1) : 1 = kr a n := by unfold kr; rw [if_pos h, if_pos h1]
theorem kr_00 {a n : Int} (h : n = 0) (h1 : ¬ (a.natAbs : Int) = 1) : 0 = kr a n := by unfold kr; rw [if_pos h, if_neg h1]
theorem kr_even {a n : Int} (h : ¬ n = 0) (h1 : oddB a = false) (h2 : oddB n = false) : 0 = kr a n := by unfold kr; rw [if_neg h, if_pos ⟨h1, h2⟩]
theorem kr_go {a n : Int} (h : ¬ n = 0) (h1 : ¬ (oddB a = false ∧ oddB n = false)) : kr a n = if (RK_ a n).2 = 1 then (RK_ a n).1 else 0 := by unfold kr; rw [if_neg h, if_neg h1]; rfl
theorem KrI.start {a n : Int} (h : ¬ n = 0) (_ha : L 40 a) (hn : L 40 n) : KrI (RK_ a n) (a % (tw (n.natAbs : Int)).1).natAbs.succ (k1K a n) (a % (tw (n.natAbs : Int)).1) (tw (n.natAbs : Int)).1 := by
 have h1 := tw_abs _ (n.natAbs : Int) (Nat.le_refl _) (by omega)
 have hp := h1.2.2.2.2.2 (by omega)
 have h3 := Int.emod_nonneg a (show (tw (n.natAbs : Int)).1 ≠ 0 by omega)
 have h4 := Int.emod_lt_of_pos a hp
 exact ⟨k1K_b a n, h3, hp, L.of_le hn (by omega), L.of_le hn (by omega), Nat.lt_succ_self _, rfl⟩
end Go.AM
end
section
namespace Go.AM
open Go Go.RowKit
theorem neg_abs {m : Int} (h : m < 0) : ((m.natAbs : Nat) : Int) = -m := by omega
theorem pos_abs {m : Int} (h : ¬ m < 0) : ((m.natAbs : Nat) : Int) = m := by omega
theorem k1F_b {k a n : Int} (h : -1 ≤ k ∧ k ≤ 1) : -1 ≤ k1F k a n ∧ k1F k a n ≤ 1 := by
 unfold k1F; split
 ·exact k_sg h
 ·exact h
end Go.AM
end
section
namespace Go.AM
open Go Go.RowKit
def EndsA (fn : Func) (res : AV) (e : Exit) (s : St) : Prop := (e = .normal ∨ e = .ret) ∧ ∃ t, fn.results = #[.tmp t] ∧ s.regs t = res
theorem callA_of {P : Program} {f : FuncId} {fn : Func} {c : Code} {N : Nat} {args : List AV} {res : AV} (hf : P.funcs[f]? = some fn) (hnm : (fn.name == "runtime.NumGoroutine") = false) (hb : fn.body = some c) (hN : fn.ntmps = N) (hna : args.length ≤ N)
  (hres : men res = []) (h : AWp P false N 0 c (EndsA fn res) ⟨fun t => args.getD t .junk, O⟩) : Call0 P f args res := by
 refine ⟨⟨fn, hf, hnm, by rw [hb]; rfl⟩, ?_⟩
 intro hh r w cargs hra hbf
 have hlen : cargs.size = args.length := by
  have : ∀ (as0 : List AV) (xs : List Value), RepArgs hh r as0 xs → xs.length = as0.length := by
   intro as0
   induction as0 with
   | nil => intro xs h; cases xs with
    | nil => rfl
    | cons _ _ => exact h.elim
   | cons p ps ih => intro xs h; cases xs with
    | nil => exact h.elim
    | cons x xs => simp [ih xs h.2]
  simpa using this _ _ hra
 have hget : ∀ (as0 : List AV) (xs : List Value), RepArgs hh r as0 xs → ∀ (t : Nat) (x : AV), as0[t]? = some x → ∃ y, xs[t]? = some y ∧ AVRep hh r x y := by
  intro as0
  induction as0 with
  | nil => intro xs _ t x h; simp at h
  | cons p ps ih => intro xs h t x hx; cases xs with
   | nil => exact h.elim
   | cons y ys => cases t with
    | zero => simp at hx; subst hx; exact ⟨y, rfl, h.1⟩
    | succ t => exact ih ys h.2 t x (by simpa using hx)
 refine callsW' (n := 0) (callsIn_of_wp_marks hf hb trivial ?_)
 let C : Ctx := ⟨w, hh, fun _ => False, r, 0, true⟩
 refine wpIn_mono (h none (fun _ => rfl) C hh r _ w ⟨rfl, rfl⟩ ⟨?_, trivial, ?_, ⟨hbf.ow, hbf.inj, hbf.hi, hbf.ho, rfl, rfl, .refl _, Nat.le_refl _, fun _ _ _ => rfl, fun m k hm => absurd rfl hm, .refl _, fun k hk => .inl hk, hbf.gl, fun _ _ => rfl, fun m b j hb => by cases hb⟩⟩) ?_
 ·simp [hN]; omega
 ·intro t
  show AVRep hh r (args.getD t .junk) _
  rw [List.getD_eq_getElem?_getD]
  cases ht : args[t]? with
  | none => exact trivial
  | some x =>
   obtain ⟨y, h1, h2⟩ := hget _ _ hra t x ht
   have h1' : cargs[t]? = some y := by rw [← Array.getElem?_toList]; exact h1
   have hlt : t < cargs.size := (Array.getElem?_eq_some_iff.1 h1').1
   simp only [Array.getD_eq_getD_getElem?, Array.getElem?_append_left hlt, h1', Option.getD_some]
   exact h2
 ·rintro e a' w' ⟨s', h', r', ⟨he, t, hrs, hreg⟩, hc⟩
  have fin : LeavesInM (Wd none) 0 P fn a'.tmps (fun e w' => ∃ v h', e = .returned v ∧ AVRep h' r res v ∧ After hh r O w h' O w') a'.defers .returning w' := by
   refine leave_marks hc ?_
   intro h' w' hc
   have hx := hc.rg t
   rw [hreg] at hx
   have hv1 : (results fn a'.tmps).run P w' = .ok (a'.tmps.getD t undef) w' := by
    rw [results_eq, hrs]
    simp [resOne]
   have hk := hc.wk
   refine ⟨_, hv1, _, h', rfl, AVRep.rebind _ _ (fun m hm => by rw [hres] at hm; simp at hm) hx, ?_⟩
   refine ⟨fun m b e => (by cases e), fun m hm => absurd rfl hm, hk.hi, fun m k hm => absurd rfl hm, hk.os, hk.tape, hk.output, hk.size, fun k h1 _ => hk.old k h1 (fun x => x), hk.hg, fun k e => ?_⟩
   rcases hk.hn k e with g | g | g
   ·exact .inl g
   ·exact .inr (.inl g)
   ·exact g.elim
  rcases he with rfl | rfl <;> exact fin
def Tr.fm (t : Tr) : Fm := ⟨t.a, t.b, t.c⟩
def LW (n : Int) (p : Fm → Bool) : List Fm := ((trs n).map Tr.fm).filter p
def prT (t : Tr) : Bool := decide (Int.gcd (Int.gcd t.a t.b : Nat) t.c = 1)
def cls (n : Int) : Int := ((trs n).filter prT).length
def sumI : List Int → Int
 | [] => 0
 | x :: l => x + sumI l
theorem sumI_snoc (l : List Int) (x : Int) : sumI (l ++ [x]) = sumI l + x := by
 induction l with
 | nil => simp [sumI]
 | cons y l ih => simp only [List.cons_append, sumI, ih]; omega
def szE (d : Int) : Int := if 0 ≤ d ∨ d % 4 > 1 then 5 else if -d > 4194304 then 2 else 0
def szN (d : Int) : Int := if szE d = 0 then -d else 0
theorem szE_0 {d : Int} (h : szE d = 0) : szN d = -d ∧ 0 < -d ∧ -d ≤ 4194304 ∧ d % 4 ≤ 1 := by
 have e : szN d = -d := by unfold szN; rw [if_pos h]
 unfold szE at h
 split at h
 ·cases h
 ·split at h
  ·cases h
  ·exact ⟨e, by omega, by omega, by omega⟩
end Go.AM
end
section
namespace Go.AM
open Go Go.RowKit
section
end
theorem GW.forget_as {np' : Nat} {s o o' : Own} (h : o = o') (h2 : ∀ m, o m = s m ∨ o m = none) : GW np' s o' := GW.forget (by subst h; exact h2)
end Go.AM
end
section
namespace Go.AM
open Go Go.RowKit
def dvGo (p : Int) : Nat → Int → Int
 | 0, l => l
 | k + 1, l => if l % p = 0 then dvGo p k (l / p) else l
def dv (p l : Int) : Int := dvGo p l.toNat l
end Go.AM
end
section
namespace Go.AM
open Go Go.RowKit
def eqG (f g : Fm) : Bool := decide (g.a = f.a ∧ g.b = f.b ∧ g.c = f.c)
theorem eqG_iff {f g : Fm} : eqG f g = true ↔ g = f := by
 unfold eqG
 rw [decide_eq_true_iff]
 constructor
 ·rintro ⟨h1, h2, h3⟩; cases f; cases g; simp_all
 ·rintro rfl; exact ⟨rfl, rfl, rfl⟩
structure SmI (l m : List Fm) (k : Nat) : Prop where
 k1 : k ≤ l.length
 go : ∀ j, j < k → l.getD j ⟨0, 0, 0⟩ = m.getD j ⟨0, 0, 0⟩
theorem SmI.start (l m : List Fm) : SmI l m 0 := ⟨Nat.zero_le _, fun j h => absurd h (Nat.not_lt_zero j)⟩
theorem SmI.next {l m : List Fm} {k : Nat} (h : SmI l m k) (hk : (k : Int) < l.length) (e : eqG (m.getD k ⟨0, 0, 0⟩) (l.getD k ⟨0, 0, 0⟩) = true) : SmI l m (k + 1) :=
 ⟨by omega, fun j hj => by
  rcases Nat.lt_succ_iff_lt_or_eq.1 hj with h1 | rfl
  ·exact h.go j h1
  ·exact eqG_iff.1 e⟩
theorem SmI.no {l m : List Fm} {k : Nat} (e : eqG (m.getD k ⟨0, 0, 0⟩) (l.getD k ⟨0, 0, 0⟩) = false) : false = decide (l = m) := by
 symm; rw [decide_eq_false_iff_not]
 rintro rfl
 rw [eqG_iff.2 rfl] at e
 cases e
theorem SmI.yes {l m : List Fm} {k : Nat} (h : SmI l m k) (hl : (l.length : Int) = m.length) (hk : ¬ (k : Int) < l.length) : true = decide (l = m) := by
 symm; rw [decide_eq_true_iff]
 have h1 := h.k1
 refine List.ext_getElem (by omega) (fun i h2 h3 => ?_)
 have := h.go i (by omega)
 rw [List.getD_eq_getElem?_getD, List.getD_eq_getElem?_getD, List.getElem?_eq_getElem h2, List.getElem?_eq_getElem h3] at this
 exact this
theorem len_ne {l m : List Fm} (h : (l.length : Int) ≠ m.length) : false = decide (l = m) := by
 symm; rw [decide_eq_false_iff_not]; rintro rfl; exact h rfl
def lwO (a : Int) : Bool := decide (-9223372036854775808 ≤ a ∧ a < 9223372036854775808)
def lwV (a : Int) : Int := if lwO a = true then a else 0
def v0 (n : Nat) : Nat := wd (wl n) 0 + 4294967296 * wd (wl n) 1
theorem v0_or (n : Nat) : bits .or .u64 ((wd (wl n) 0 : Nat) : Int) ((wd (wl n) 1 * 2 ^ 32 % 2 ^ IntKind.u64.bits : Nat) : Int) = (v0 n : Nat) := bits_lohi (wd_lt (wl_ok n) 0) (wd_lt (wl_ok n) 1)
theorem v0_lt (n : Nat) : v0 n < 18446744073709551616 := by
 have h0 := wd_lt (wl_ok n) 0
 have h1 := wd_lt (wl_ok n) 1
 unfold v0; omega
theorem v0_eq {n : Nat} (h : (wl n).length ≤ 2) : v0 n = n := by
 have h0 := lohi h
 rw [v0_or] at h0
 omega
theorem not_two {n : Nat} (h : ¬ (wl n).length ≤ 2) : 18446744073709551616 ≤ n := by
 rcases Nat.lt_or_ge n 18446744073709551616 with g | g
 ·exact absurd (wl_len_le (k := 2) (by rw [show 4294967296 ^ 2 = 18446744073709551616 by decide]; exact g)) h
 ·exact g
theorem lw_no {a : Int} (h : a < -9223372036854775808 ∨ 9223372036854775808 ≤ a) : AV.t [.c (.v (.int .i64 0)), .c (.v (.bool false))] = AV.t [.c (.v (.int .i64 (lwV a))), .c (.v (.bool (lwO a)))] := by
 have e : lwO a = false := by unfold lwO; rw [decide_eq_false_iff_not]; omega
 unfold lwV; rw [e]; rfl
theorem lw_yes {a x : Int} (h : -9223372036854775808 ≤ a ∧ a < 9223372036854775808) (hx : x = a) : AV.t [.c (.v (.int .i64 x)), .c (.v (.bool true))] = AV.t [.c (.v (.int .i64 (lwV a))), .c (.v (.bool (lwO a)))] := by
 have e : lwO a = true := by unfold lwO; rw [decide_eq_true_iff]; exact h
 unfold lwV; rw [e, if_pos rfl, hx]
def w63 (v : Int) : Int := if v = 9223372036854775808 then -9223372036854775808 else v
theorem wrap_w63 {v : Int} (h : 0 ≤ v ∧ v ≤ 9223372036854775808) : IntKind.i64.wrap v = w63 v := by
 unfold w63; split
 ·rename_i g; subst g; decide
 ·exact IntWalk.i64_in _ (by omega)
theorem wrap_n63 {v : Int} (h : 0 ≤ v ∧ v ≤ 9223372036854775808) : IntKind.i64.wrap (0 - (w63 v)) = -v := by
 unfold w63; split
 ·rename_i g; subst g; decide
 ·rw [IntWalk.i64_in _ (by omega)]; omega
end Go.AM
end
section
namespace Go.AM
open Go Go.RowKit
end Go.AM
end
section
namespace Go.AM
open Go Go.RowKit
def asks (n m : Int) : Bool := decide (n % (m * m) = 0) && isD (n / (m * m))
theorem sumI_perm {l m : List Int} (h : l.Perm m) : sumI l = sumI m := by
 induction h with
 | nil => rfl
 | cons x _ ih => simp only [sumI, ih]
 | swap x y l => simp only [sumI]; omega
 | trans _ _ h1 h2 => exact h1.trans h2
def bigS (f : Nat → Int) : Nat → Int
 | 0 => 0
 | k + 1 => bigS f k + f (k + 1)
end Go.AM
end
section
namespace Go.AM
open Go Go.RowKit
def wN (n : Int) : Int := if n = 3 then 4 else if n = 4 then 6 else 12
def hTm (n m : Int) : Int := if asks n m = true then wN (n / (m * m)) * cls (n / (m * m)) else 0
def hS (n m : Int) : Int := bigS (fun i => hTm n (i : Int)) (m - 1).toNat
end Go.AM
end
section
namespace Go.AM
open Go Go.RowKit
def prG (f : Fm) : Bool := prim f.a f.b f.c
theorem getD_mem {l : List Fm} {k : Nat} (h : (k : Int) < l.length) : l.getD k ⟨0, 0, 0⟩ ∈ l := by
 rw [List.getD_eq_getElem?_getD, List.getElem?_eq_getElem (by omega), Option.getD_some]
 exact List.getElem_mem _
def cTm (n m : Int) : Int := if asks n m = true then ((LW (n / (m * m)) prG).length : Nat) else 0
def cS (n m : Int) : Int := bigS (fun i => cTm n (i : Int)) (m - 1).toNat
end Go.AM
end
section
namespace Go.AM
open Go Go.RowKit
section
end
end Go.AM
end
section
namespace Go.AM
open Go Go.RowKit
theorem lwO_yes {a : Int} (h : -9223372036854775808 ≤ a ∧ a < 9223372036854775808) : lwO a = true ∧ lwV a = a := by
 have e : lwO a = true := by unfold lwO; rw [decide_eq_true_iff]; exact h
 exact ⟨e, by unfold lwV; rw [if_pos e]⟩
theorem lwO_iff {a : Int} : lwO a = true ↔ -9223372036854775808 ≤ a ∧ a < 9223372036854775808 := by unfold lwO; rw [decide_eq_true_iff]
theorem lwO_f {a : Int} (h : lwO a = false) : ¬ (-9223372036854775808 ≤ a ∧ a < 9223372036854775808) := by unfold lwO at h; rwa [decide_eq_false_iff_not] at h
end Go.AM
end
section
namespace Go.AM
open Go Go.RowKit
end Go.AM
end
section
namespace Go.AM
open Go Go.RowKit
end Go.AM
end
section
namespace Go.AM
open Go Go.RowKit
structure El where
 x : Int
 y : Int
namespace El
def add (u v : El) : El := ⟨u.x + v.x, u.y + v.y⟩
def mul (s d : Int) (u v : El) : El := ⟨u.x * v.x + d * (u.y * v.y), u.x * v.y + u.y * v.x + s * (u.y * v.y)⟩
def nm (s d : Int) (u : El) : Int := u.x * u.x + s * (u.x * u.y) - d * (u.y * u.y)
end El
section
end
end Go.AM
end
section
namespace Go.AM
open Go Go.RowKit
section
end
end Go.AM
end
section
namespace Go.AM
open Go Go.RowKit
def kk (s : Int) (f : Fm) : Int := (f.b - s) / 2
section
variable {s d : Int}
theorem bez2 : ∀ (n : Nat) (a b : Int), b.natAbs ≤ n → ∃ x y : Int, a * x + b * y = (Int.gcd a b : Nat)
 | 0, a, b, h => by
  have hb : b = 0 := by omega
  subst hb
  rw [Int.gcd_zero_right]
  rcases Int.le_total 0 a with g | g
  ·exact ⟨1, 0, by omega⟩
  ·exact ⟨-1, 0, by omega⟩
 | n + 1, a, b, h => by
  by_cases hb : b = 0
  ·exact bez2 n a b (by omega)
  ·have h1 : (a % b).natAbs < b.natAbs := by
    have := Int.emod_nonneg a hb
    have := Int.emod_lt a hb
    omega
   obtain ⟨x, y, e⟩ := bez2 n b (a % b) (by omega)
   have eg : Int.gcd b (a % b) = Int.gcd a b := by
    refine Nat.dvd_antisymm ?_ ?_
    ·refine Int.dvd_gcd ?_ (Int.gcd_dvd_left ..)
     have h1 := Int.gcd_dvd_left (a := b) (b := a % b)
     have h2 := Int.gcd_dvd_right (a := b) (b := a % b)
     have h3 := Int.dvd_add (Int.dvd_trans h1 ⟨a / b, rfl⟩) h2
     rwa [Int.mul_ediv_add_emod a b] at h3
    ·refine Int.dvd_gcd (Int.gcd_dvd_right ..) ?_
     have h1 := Int.gcd_dvd_left (a := a) (b := b)
     have h2 := Int.gcd_dvd_right (a := a) (b := b)
     have e3 : a % b = a - b * (a / b) := by have := Int.mul_ediv_add_emod a b; omega
     rw [e3]
     exact Int.dvd_sub h1 (Int.dvd_trans h2 ⟨_, rfl⟩)
   have em := Int.mul_ediv_add_emod a b
   refine ⟨y, x - (a / b) * y, ?_⟩
   rw [← eg, ← e]
   generalize a / b = q at *
   generalize a % b = r at *
   subst em
   grind
theorem bez (a b : Int) : ∃ x y : Int, a * x + b * y = (Int.gcd a b : Nat) := bez2 _ a b (Nat.le_refl _)
end
end Go.AM
end
section
namespace Go.AM
open Go Go.RowKit
section
end
end Go.AM
end
section
namespace Go.AM
open Go Go.RowKit
theorem dvdl {a b : Int} (h : a ∣ b) (c : Int) : a ∣ b * c := Int.dvd_trans h ⟨c, rfl⟩
theorem pos_any' {f : Fm} (hf : f.pos) {m : Mt} (h : m.det = 1) : (f.app m).pos := by
 refine ⟨?_, by rw [disc_app, h]; have := hf.2; omega⟩
 show 0 < vl f.a f.b f.c m.a m.c
 have hd : f.b * f.b - 4 * f.a * f.c < 0 := hf.2
 have ha := hf.1
 have e : 4 * f.a * vl f.a f.b f.c m.a m.c = (2 * f.a * m.a + f.b * m.c) * (2 * f.a * m.a + f.b * m.c) + -(f.b * f.b - 4 * f.a * f.c) * (m.c * m.c) := by unfold vl; grind
 have s1 := sq_nonneg' (2 * f.a * m.a + f.b * m.c)
 have s2 := sq_nonneg' m.c
 rcases Int.lt_or_le 0 (vl f.a f.b f.c m.a m.c) with g | g
 ·exact g
 ·exfalso
  have l1 : 4 * f.a * vl f.a f.b f.c m.a m.c ≤ 0 := Int.mul_nonpos_of_nonneg_of_nonpos (by omega) g
  have l2 : 0 ≤ -(f.b * f.b - 4 * f.a * f.c) * (m.c * m.c) := Int.mul_nonneg (by omega) s2
  have l3 : -(f.b * f.b - 4 * f.a * f.c) * (m.c * m.c) = 0 := by omega
  have c0 : m.c = 0 := by
   rcases Int.mul_eq_zero.1 l3 with q | q
   ·omega
   ·rcases Int.mul_eq_zero.1 q with q | q <;> exact q
  rw [c0] at e
  have s3 : (2 * f.a * m.a) * (2 * f.a * m.a) = 0 := by
   have e2 : (2 * f.a * m.a + f.b * 0) * (2 * f.a * m.a + f.b * 0) = (2 * f.a * m.a) * (2 * f.a * m.a) := by simp
   rw [c0, e2] at s1
   rw [e2] at e
   have : -(f.b * f.b - 4 * f.a * f.c) * (0 * 0) = 0 := by simp
   rw [this] at e
   rw [c0] at l1
   omega
  have a0 : m.a = 0 := by
   have := Int.mul_eq_zero.1 s3
   have h4 : 2 * f.a * m.a = 0 := by rcases this with q | q <;> exact q
   rcases Int.mul_eq_zero.1 h4 with q | q
   ·omega
   ·exact q
  unfold Mt.det at h
  rw [c0, a0] at h
  simp at h
section
end
structure Cl (D : Int) (f : Fm) : Prop where
 pos : f.pos
 prim : AM.prim f.a f.b f.c = true
 disc : dsc f.a f.b f.c = D
section
variable {D : Int}
theorem Cl.app {f : Fm} {M : Mt} (h : Cl D f) (hM : M.det = 1) : Cl D (f.app M) := by
 refine ⟨pos_any' h.pos hM, ?_, ?_⟩
 ·rw [← prim_app f (by rw [hM]; rfl)]; exact h.prim
 ·have : (f.app M).disc = f.disc := disc_T hM
  exact this.trans h.disc
theorem Cl.rd {f : Fm} (h : Cl D f) : Cl D f.rd := by
 obtain ⟨m, h1, h2⟩ := rd_via h.pos
 rw [h2]; exact h.app h1
theorem Cl.rd_Rd {f : Fm} (h : Cl D f) : Rd f.rd := Rd.rdF h.pos
theorem Cl.rd_rd {f : Fm} (h : Cl D f) : f.rd.rd = f.rd := by
 obtain ⟨m, h1, h2⟩ := rd_via h.pos
 have := rd_app1 h.pos h1
 rwa [← h2] at this
end
end Go.AM
end
section
namespace Go.AM
open Go Go.RowKit
def xg : Nat → Int → Int → Int × Int
 | 0, a, _ => (if 0 ≤ a then 1 else -1, 0)
 | n + 1, a, b => if b = 0 then (if 0 ≤ a then 1 else -1, 0) else ((xg n b (a % b)).2, (xg n b (a % b)).1 - (a / b) * (xg n b (a % b)).2)
theorem gcd_stp2 (a b : Int) : Int.gcd b (a % b) = Int.gcd a b := by
 refine Nat.dvd_antisymm ?_ ?_
 ·refine Int.dvd_gcd ?_ (Int.gcd_dvd_left ..)
  have h1 := Int.gcd_dvd_left (a := b) (b := a % b)
  have h2 := Int.gcd_dvd_right (a := b) (b := a % b)
  have h3 := Int.dvd_add (Int.dvd_trans h1 ⟨a / b, rfl⟩) h2
  rwa [Int.mul_ediv_add_emod a b] at h3
 ·refine Int.dvd_gcd (Int.gcd_dvd_right ..) ?_
  have h1 := Int.gcd_dvd_left (a := a) (b := b)
  have h2 := Int.gcd_dvd_right (a := a) (b := b)
  have e3 : a % b = a - b * (a / b) := by have := Int.mul_ediv_add_emod a b; omega
  rw [e3]
  exact Int.dvd_sub h1 (Int.dvd_trans h2 ⟨_, rfl⟩)
theorem xg_eq : ∀ (n : Nat) (a b : Int), b.natAbs ≤ n → (xg n a b).1 * a + (xg n a b).2 * b = (Int.gcd a b : Nat)
 | 0, a, b, h => by
  have hb : b = 0 := by omega
  subst hb
  rw [Int.gcd_zero_right]
  unfold xg
  simp only
  split <;> omega
 | n + 1, a, b, h => by
  unfold xg
  by_cases hb : b = 0
  ·subst hb
   rw [if_pos rfl, Int.gcd_zero_right]
   simp only
   split <;> omega
  ·rw [if_neg hb]
   have h1 : (a % b).natAbs < b.natAbs := by
    have := Int.emod_nonneg a hb
    have := Int.emod_lt a hb
    omega
   have e := xg_eq n b (a % b) (by omega)
   rw [gcd_stp2] at e
   have em := Int.mul_ediv_add_emod a b
   rw [← e]
   simp only
   generalize xg n b (a % b) = p
   generalize a / b = q at *
   generalize a % b = r at *
   subst em
   grind
section
variable {D : Int}
theorem rd_of_Rd {f : Fm} (h : Rd f) (hp : f.pos) : f.rd = f := by
 obtain ⟨m, h1, h2⟩ := rd_via hp
 have hr : Rd f.rd := Rd.rdF hp
 rw [h2] at hr ⊢
 exact red_uniq h h1 hr
end
end Go.AM
end
section
namespace Go.AM
open Go Go.RowKit
def prodI : List Int → Int
 | [] => 1
 | x :: l => x * prodI l
theorem prodI_perm {l m : List Int} (h : l.Perm m) : prodI l = prodI m := by
 induction h with
 | nil => rfl
 | cons x _ ih => simp only [prodI, ih]
 | swap x y l => simp only [prodI]; grind
 | trans _ _ h1 h2 => exact h1.trans h2
theorem prodI_mul {α : Type} (f g : α → Int) : ∀ l : List α, prodI (l.map fun x => f x * g x) = prodI (l.map f) * prodI (l.map g)
 | [] => rfl
 | x :: l => by simp only [List.map_cons, prodI, prodI_mul f g l]; grind
theorem sumI_add2 {α : Type} (f g : α → Int) : ∀ l : List α, sumI (l.map fun x => f x + g x) = sumI (l.map f) + sumI (l.map g)
 | [] => rfl
 | x :: l => by simp only [List.map_cons, sumI, sumI_add2 f g l]; omega
theorem sumI_mulc {α : Type} (c : Int) (f : α → Int) : ∀ l : List α, sumI (l.map fun x => c * f x) = c * sumI (l.map f)
 | [] => by simp [sumI]
 | x :: l => by simp only [List.map_cons, sumI, sumI_mulc c f l]; grind
def rg (n : Int) : List Int := (List.range (n / 2).toNat).map fun (i : Nat) => (i : Int) + 1
theorem mem_rg {n x : Int} (_hn : 0 < n) : x ∈ rg n ↔ 1 ≤ x ∧ x ≤ n / 2 := by
 unfold rg
 rw [List.mem_map]
 constructor
 ·rintro ⟨i, hi, rfl⟩
  rw [List.mem_range] at hi
  omega
 ·rintro ⟨h1, h2⟩
  exact ⟨(x - 1).toNat, by rw [List.mem_range]; omega, by omega⟩
theorem rg_nodup (n : Int) : (rg n).Nodup := by
 unfold rg
 refine List.Pairwise.map (R := (· ≠ ·)) _ (fun a b h e => h ?_) (List.nodup_range)
 omega
def sgR (n r : Int) : Int := if r % n ≤ n / 2 then 1 else -1
def abR (n r : Int) : Int := if r % n ≤ n / 2 then r % n else n - r % n
def SS (a n : Int) : Int := prodI ((rg n).map fun x => sgR n (a * x))
section
variable {n : Int}
theorem sgR_mod (r : Int) : sgR n r = sgR n (r % n) := by unfold sgR; rw [Int.emod_emod]
theorem sgR_congr {r t : Int} (h : n ∣ r - t) : sgR n r = sgR n t := by
 rw [sgR_mod r, sgR_mod t, (Int.emod_eq_emod_iff_emod_sub_eq_zero).2 (Int.emod_eq_zero_of_dvd h)]
theorem abR_b (h0 : 0 < n) {r : Int} (hr : r % n ≠ 0) : 1 ≤ abR n r ∧ abR n r ≤ n / 2 := by
 have h1 := Int.emod_nonneg r (show n ≠ 0 by omega)
 have h2 := Int.emod_lt_of_pos r h0
 unfold abR
 split <;> omega
theorem sg_ab (r : Int) : n ∣ r - sgR n r * abR n r := by
 have e := Int.mul_ediv_add_emod r n
 unfold sgR abR
 split
 ·exact ⟨r / n, by omega⟩
 ·exact ⟨r / n + 1, by rw [Int.mul_add]; omega⟩
theorem sgR_neg (h0 : 0 < n) (ho : n % 2 = 1) {r : Int} (hr : r % n ≠ 0) : sgR n (-r) = -sgR n r := by
 have h1 := Int.emod_nonneg r (show n ≠ 0 by omega)
 have h2 := Int.emod_lt_of_pos r h0
 have e : (-r) % n = n - r % n := by
  have e1 := Int.mul_ediv_add_emod r n
  have e2 : -r = (n - r % n) + n * (-(r / n) - 1) := by rw [Int.mul_sub, Int.mul_neg]; omega
  rw [e2, Int.add_mul_emod_self_left, Int.emod_eq_of_lt (by omega) (by omega)]
 unfold sgR
 rw [e]
 by_cases g : r % n ≤ n / 2
 ·rw [if_pos g, if_neg (by omega)]
 ·rw [if_neg g, if_pos (by omega)]; rfl
theorem sgR_pm (r : Int) : sgR n r = 1 ∨ sgR n r = -1 := by unfold sgR; split; exact .inl rfl; exact .inr rfl
def Cop (a n : Int) : Prop := Int.gcd a n = 1
instance Cop.dec (a n : Int) : Decidable (Cop a n) := inferInstanceAs (Decidable (Int.gcd a n = 1))
theorem Cop.symm {a n : Int} (h : Cop a n) : Cop n a := by unfold Cop at h ⊢; rw [Int.gcd_comm]; exact h
theorem Cop.inv {a : Int} (h : Cop a n) : ∃ b, n ∣ a * b - 1 := by
 obtain ⟨x, y, e⟩ := bez a n
 rw [h] at e
 exact ⟨x, ⟨-y, by rw [Int.mul_neg]; omega⟩⟩
theorem Cop.of_inv {a b : Int} (h : n ∣ a * b - 1) : Cop a n := by
 obtain ⟨q, hq⟩ := h
 have h1 : ((Int.gcd a n : Nat) : Int) ∣ 1 := by
  have l := Int.gcd_dvd_left (a := a) (b := n)
  have r := Int.gcd_dvd_right (a := a) (b := n)
  have e : (1 : Int) = a * b - n * q := by omega
  rw [e]
  exact Int.dvd_sub (dvdl l _) (dvdl r _)
 have := Int.le_of_dvd (by omega) h1
 have h2 : Int.gcd a n ≠ 0 := fun e => by rw [e] at h1; have := Int.zero_dvd.1 h1; omega
 unfold Cop
 omega
theorem Cop.mul {a b : Int} (h : Cop a n) (h1 : Cop b n) : Cop (a * b) n := by
 obtain ⟨x, p, hp⟩ := h.inv
 obtain ⟨y, q, hq⟩ := h1.inv
 refine Cop.of_inv (b := x * y) ⟨p * (b * y) + q, ?_⟩
 have e : a * x = 1 + n * p := by omega
 have e2 : b * y = 1 + n * q := by omega
 have : a * b * (x * y) = (a * x) * (b * y) := by grind
 rw [this, e, e2]; grind
theorem Cop.left {a b : Int} (h : Cop (a * b) n) : Cop a n := by
 obtain ⟨x, q, hq⟩ := h.inv
 exact Cop.of_inv (b := b * x) ⟨q, by rw [← hq]; grind⟩
theorem Cop.right {a b : Int} (h : Cop (a * b) n) : Cop b n := Cop.left (a := b) (b := a) (by rw [Int.mul_comm]; exact h)
theorem Cop.nz {a x : Int} (_h0 : 0 < n) (h : Cop a n) (hx : 1 ≤ x ∧ x ≤ n / 2) : (a * x) % n ≠ 0 := by
 intro e
 obtain ⟨b, q, hq⟩ := h.inv
 obtain ⟨p, hp⟩ := Int.dvd_of_emod_eq_zero e
 have : n ∣ x := ⟨b * p - q * x, by
  have e1 : a * b * x - n * q * x = x := by (have : a * b = 1 + n * q := by omega); rw [this]; grind
  have e2 : a * b * x = b * (n * p) := by rw [← hp]; grind
  rw [← e1, e2]; grind⟩
 have := Int.le_of_dvd (by omega) this
 omega
theorem cop_congr {a b : Int} (h : n ∣ a - b) (hb : Cop a n) : Cop b n := by
 obtain ⟨x, q, hq⟩ := hb.inv
 obtain ⟨p, hp⟩ := h
 refine Cop.of_inv (b := x) ⟨q - p * x, ?_⟩
 have e : b = a - n * p := by omega
 rw [e]
 have e2 : a * x = 1 + n * q := by omega
 have : (a - n * p) * x = a * x - n * (p * x) := by grind
 rw [this, e2]; grind
theorem ab_perm (h0 : 0 < n) (ho : n % 2 = 1) {b : Int} (hb : Cop b n) : ((rg n).map fun x => abR n (b * x)).Perm (rg n) := by
 have inj : ∀ x y, 1 ≤ x ∧ x ≤ n / 2 → 1 ≤ y ∧ y ≤ n / 2 → abR n (b * x) = abR n (b * y) → x = y := by
  intro x y hx hy e
  obtain ⟨c, q, hq⟩ := hb.inv
  have h1 := sg_ab (n := n) (b * x)
  have h2 := sg_ab (n := n) (b * y)
  rw [← e] at h2
  generalize abR n (b * x) = w at h1 h2
  have h3 : n ∣ x - y ∨ n ∣ x + y := by
   have cx : ∀ z, n ∣ b * z → n ∣ z := fun z ⟨p, hp⟩ => ⟨c * p - q * z, by
    have e1 : b * c * z - n * q * z = z := by (have : b * c = 1 + n * q := by omega); rw [this]; grind
    have e2 : b * c * z = c * (n * p) := by rw [← hp]; grind
    rw [← e1, e2]; grind⟩
   rcases sgR_pm (n := n) (b * x) with s1 | s1 <;> rcases sgR_pm (n := n) (b * y) with s2 | s2 <;> rw [s1] at h1 <;> rw [s2] at h2
   ·left; refine cx _ ?_; have := Int.dvd_sub h1 h2; have e : b * x - 1 * w - (b * y - 1 * w) = b * (x - y) := by grind
    rwa [e] at this
   ·right; refine cx _ ?_; have := Int.dvd_add h1 h2; have e : b * x - 1 * w + (b * y - -1 * w) = b * (x + y) := by grind
    rwa [e] at this
   ·right; refine cx _ ?_; have := Int.dvd_add h1 h2; have e : b * x - -1 * w + (b * y - 1 * w) = b * (x + y) := by grind
    rwa [e] at this
   ·left; refine cx _ ?_; have := Int.dvd_sub h1 h2; have e : b * x - -1 * w - (b * y - -1 * w) = b * (x - y) := by grind
    rwa [e] at this
  rcases h3 with ⟨p, hp⟩ | ⟨p, hp⟩
  ·have : p = 0 := by
    rcases (show p ≤ -1 ∨ p = 0 ∨ 1 ≤ p by omega) with g | g | g
    ·have : n * p ≤ n * (-1) := Int.mul_le_mul_of_nonneg_left g (by omega)
     omega
    ·exact g
    ·have : n * 1 ≤ n * p := Int.mul_le_mul_of_nonneg_left g (by omega)
     omega
   subst this; omega
  ·exfalso
   rcases (show p ≤ 0 ∨ 1 ≤ p by omega) with g | g
   ·have : n * p ≤ n * 0 := Int.mul_le_mul_of_nonneg_left g (by omega)
    omega
   ·have : n * 1 ≤ n * p := Int.mul_le_mul_of_nonneg_left g (by omega)
    omega
 refine (List.perm_ext_iff_of_nodup ?_ (rg_nodup n)).2 (fun y => ?_)
 ·unfold List.Nodup
  rw [List.pairwise_map]
  refine List.Pairwise.imp_of_mem (R := (· ≠ ·)) (fun {x y} hx hy h e => h ?_) (rg_nodup n)
  exact inj x y ((mem_rg h0).1 hx) ((mem_rg h0).1 hy) e
 ·rw [List.mem_map, mem_rg h0]
  constructor
  ·rintro ⟨x, hx, rfl⟩
   exact abR_b h0 (hb.nz h0 ((mem_rg h0).1 hx))
  ·intro hy
   obtain ⟨c, hc⟩ := hb.inv
   have hcc : Cop c n := Cop.of_inv (b := b) (by rw [Int.mul_comm]; exact hc)
   have hz := hcc.nz h0 hy
   have hx := abR_b h0 hz
   refine ⟨abR n (c * y), (mem_rg h0).2 hx, ?_⟩
   have h1 := sg_ab (n := n) (c * y)
   have h2 := sg_ab (n := n) (b * abR n (c * y))
   have h3 := abR_b h0 (hb.nz h0 hx)
   generalize abR n (c * y) = x at *
   generalize abR n (b * x) = w at *
   have key : n ∣ y - w ∨ n ∣ y + w := by
    obtain ⟨p, hp⟩ := h1
    obtain ⟨q, hq⟩ := h2
    obtain ⟨r, hr⟩ := hc
    rcases sgR_pm (n := n) (c * y) with s1 | s1 <;> rcases sgR_pm (n := n) (b * x) with s2 | s2 <;> rw [s1] at hp <;> rw [s2] at hq
    ·left; refine ⟨b * p + q - r * y, ?_⟩
     have e : y = b * c * y - n * r * y := by (have : b * c = 1 + n * r := by omega); rw [this]; grind
     have e2 : b * c * y = b * (n * p + x) := by (have : c * y = n * p + x := by omega); rw [Int.mul_assoc, this]
     grind
    ·right; refine ⟨b * p + q - r * y, ?_⟩
     have e : y = b * c * y - n * r * y := by (have : b * c = 1 + n * r := by omega); rw [this]; grind
     have e2 : b * c * y = b * (n * p + x) := by (have : c * y = n * p + x := by omega); rw [Int.mul_assoc, this]
     grind
    ·right; refine ⟨b * p - q - r * y, ?_⟩
     have e : y = b * c * y - n * r * y := by (have : b * c = 1 + n * r := by omega); rw [this]; grind
     have e2 : b * c * y = b * (n * p - x) := by (have : c * y = n * p - x := by omega); rw [Int.mul_assoc, this]
     grind
    ·left; refine ⟨b * p - q - r * y, ?_⟩
     have e : y = b * c * y - n * r * y := by (have : b * c = 1 + n * r := by omega); rw [this]; grind
     have e2 : b * c * y = b * (n * p - x) := by (have : c * y = n * p - x := by omega); rw [Int.mul_assoc, this]
     grind
   rcases key with ⟨p, hp⟩ | ⟨p, hp⟩
   ·rcases (show p ≤ -1 ∨ p = 0 ∨ 1 ≤ p by omega) with g | g | g
    ·have : n * p ≤ n * (-1) := Int.mul_le_mul_of_nonneg_left g (by omega)
     omega
    ·subst g; omega
    ·have : n * 1 ≤ n * p := Int.mul_le_mul_of_nonneg_left g (by omega)
     omega
   ·exfalso
    rcases (show p ≤ 0 ∨ 1 ≤ p by omega) with g | g
    ·have : n * p ≤ n * 0 := Int.mul_le_mul_of_nonneg_left g (by omega)
     omega
    ·have : n * 1 ≤ n * p := Int.mul_le_mul_of_nonneg_left g (by omega)
     omega
theorem SS_mul (h0 : 0 < n) (ho : n % 2 = 1) {a b : Int} (ha : Cop a n) (hb : Cop b n) : SS (a * b) n = SS a n * SS b n := by
 have e : (rg n).map (fun x => sgR n (a * b * x)) = (rg n).map (fun x => sgR n (a * abR n (b * x)) * sgR n (b * x)) := by
  refine List.map_congr_left (fun x hx => ?_)
  have hx := (mem_rg h0).1 hx
  have h1 := sg_ab (n := n) (b * x)
  have h2 := abR_b h0 (hb.nz h0 hx)
  have h3 := ha.nz h0 h2
  obtain ⟨q, hq⟩ := h1
  rcases sgR_pm (n := n) (b * x) with s | s
  ·rw [s] at hq ⊢
   rw [Int.mul_one]
   refine sgR_congr ⟨a * q, ?_⟩
   have : b * x = n * q + abR n (b * x) := by omega
   rw [Int.mul_assoc, this]; grind
  ·rw [s] at hq ⊢
   rw [Int.mul_neg, Int.mul_one, ← sgR_neg h0 ho h3]
   refine sgR_congr ⟨a * q, ?_⟩
   have : b * x = n * q - abR n (b * x) := by omega
   rw [Int.mul_assoc, this]; grind
 unfold SS
 rw [e, prodI_mul]
 congr 1
 have hp := (ab_perm h0 ho hb).map (fun y => sgR n (a * y))
 rw [List.map_map] at hp
 exact prodI_perm hp
theorem SS_congr {a b : Int} (h : n ∣ a - b) : SS a n = SS b n := by
 unfold SS
 congr 1
 refine List.map_congr_left (fun x _ => sgR_congr ?_)
 have : a * x - b * x = (a - b) * x := by grind
 rw [this]
 exact dvdl h x
theorem SS_pm (a : Int) : SS a n = 1 ∨ SS a n = -1 := by
 unfold SS
 induction rg n with
 | nil => exact .inl rfl
 | cons x l ih =>
  simp only [List.map_cons, prodI]
  rcases sgR_pm (n := n) (a * x) with h | h <;> rcases ih with g | g <;> rw [h, g] <;> simp
end
end Go.AM
end
section
namespace Go.AM
open Go Go.RowKit
theorem sumI_congr {α : Type} {f g : α → Int} : ∀ {l : List α}, (∀ x ∈ l, f x = g x) → sumI (l.map f) = sumI (l.map g)
 | [], _ => rfl
 | x :: l, h => by
  simp only [List.map_cons, sumI]
  rw [h x List.mem_cons_self, sumI_congr (fun y hy => h y (List.mem_cons_of_mem _ hy))]
theorem sumI_zero {α : Type} : ∀ l : List α, sumI (l.map fun _ => (0 : Int)) = 0
 | [] => rfl
 | x :: l => by simp only [List.map_cons, sumI, sumI_zero l]; rfl
theorem sumI_swap {α β : Type} (f : α → β → Int) (m : List β) : ∀ l : List α, sumI (l.map fun x => sumI (m.map fun y => f x y)) = sumI (m.map fun y => sumI (l.map fun x => f x y))
 | [] => by simp only [List.map_nil, sumI]; exact (sumI_zero m).symm
 | x :: l => by
  simp only [List.map_cons, sumI]
  rw [sumI_swap f m l, ← sumI_add2]
theorem sumI_par {α : Type} {f g : α → Int} : ∀ {l : List α}, (∀ x ∈ l, (f x - g x) % 2 = 0) → (sumI (l.map f) - sumI (l.map g)) % 2 = 0
 | [], _ => rfl
 | x :: l, h => by
  simp only [List.map_cons, sumI]
  have h1 := h x List.mem_cons_self
  have h2 := sumI_par (fun y hy => h y (List.mem_cons_of_mem _ hy))
  omega
def par (k : Int) : Int := if k % 2 = 0 then 1 else -1
theorem par_add (a b : Int) : par (a + b) = par a * par b := by
 unfold par
 rcases (show a % 2 = 0 ∨ a % 2 = 1 by omega) with h | h <;> rcases (show b % 2 = 0 ∨ b % 2 = 1 by omega) with g | g
 ·rw [if_pos (by omega), if_pos h, if_pos g]; rfl
 ·rw [if_neg (by omega), if_pos h, if_neg (by omega)]; rfl
 ·rw [if_neg (by omega), if_neg (by omega), if_pos g]; rfl
 ·rw [if_pos (by omega), if_neg (by omega), if_neg (by omega)]; rfl
theorem par_congr {a b : Int} (h : (a - b) % 2 = 0) : par a = par b := by
 unfold par
 by_cases g : a % 2 = 0
 ·rw [if_pos g, if_pos (by omega)]
 ·rw [if_neg g, if_neg (by omega)]
def up (n r : Int) : Int := if r % n ≤ n / 2 then 0 else 1
theorem prod_par (n a : Int) : ∀ l : List Int, prodI (l.map fun x => sgR n (a * x)) = par (sumI (l.map fun x => up n (a * x)))
 | [] => rfl
 | x :: l => by
  simp only [List.map_cons, prodI, sumI]
  rw [par_add, prod_par n a l]
  congr 1
  unfold sgR up
  split <;> rfl
section
variable {n : Int}
theorem SS_par (a n : Int) : SS a n = par (sumI ((rg n).map fun x => up n (a * x))) := prod_par n a (rg n)
theorem gauss (h0 : 0 < n) (ho : n % 2 = 1) {a : Int} (ha : Cop a n) :
  (a * sumI (rg n) - (sumI ((rg n).map fun x => a * x / n) + sumI (rg n) + sumI ((rg n).map fun x => up n (a * x)))) % 2 = 0 := by
 have e1 : a * sumI (rg n) = sumI ((rg n).map fun x => a * x) := by
  rw [sumI_mulc]; simp
 have e2 : sumI ((rg n).map fun x => abR n (a * x)) = sumI (rg n) := sumI_perm (ab_perm h0 ho ha)
 rw [e1, ← e2, ← sumI_add2, ← sumI_add2]
 refine sumI_par (fun x hx => ?_)
 have e := Int.mul_ediv_add_emod (a * x) n
 obtain ⟨q, hq⟩ : ∃ q, n = 2 * q + 1 := ⟨n / 2, by omega⟩
 unfold abR up
 generalize a * x / n = w at *
 generalize (a * x) % n = r at *
 have e3 : n * w = 2 * (q * w) + w := by rw [hq]; grind
 split <;> omega
theorem SS_odd (h0 : 0 < n) (ho : n % 2 = 1) {a : Int} (ha : Cop a n) (hao : a % 2 = 1) : SS a n = par (sumI ((rg n).map fun x => a * x / n)) := by
 rw [SS_par]
 refine par_congr ?_
 have h := gauss h0 ho ha
 generalize sumI (rg n) = S at *
 generalize sumI ((rg n).map fun x => a * x / n) = F at *
 generalize sumI ((rg n).map fun x => up n (a * x)) = N at *
 obtain ⟨q, hq⟩ : ∃ q, a = 2 * q + 1 := ⟨a / 2, by omega⟩
 have e3 : a * S = 2 * (q * S) + S := by rw [hq]; grind
 omega
theorem sum_rg : ∀ k : Nat, 2 * sumI ((List.range k).map fun (i : Nat) => (i : Int) + 1) = k * (k + 1)
 | 0 => rfl
 | k + 1 => by
  rw [List.range_succ, List.map_append, List.map_cons, List.map_nil, sumI_snoc, Int.mul_add, sum_rg k]
  rw [show ((k + 1 : Nat) : Int) = (k : Int) + 1 by omega]
  grind
theorem SS_two (h0 : 0 < n) (ho : n % 2 = 1) : SS 2 n = sg8 n := by
 have hc : Cop 2 n := Cop.of_inv (b := (n + 1) / 2) ⟨1, by omega⟩
 rw [SS_par]
 have h := gauss h0 ho hc
 have z : sumI ((rg n).map fun x => 2 * x / n) = 0 := by
  rw [sumI_congr (g := fun _ => (0 : Int)) (fun x hx => ?_), sumI_zero]
  have hx := (mem_rg h0).1 hx
  exact Int.ediv_eq_zero_of_lt (by omega) (by omega)
 rw [z] at h
 have hs := sum_rg (n / 2).toNat
 have hs' : sumI ((List.range (n / 2).toNat).map fun (i : Nat) => (i : Int) + 1) = sumI (rg n) := rfl
 rw [hs'] at hs
 rw [Int.toNat_of_nonneg (by omega)] at hs
 generalize sumI ((rg n).map fun x => up n (2 * x)) = N at *
 generalize sumI (rg n) = S at *
 obtain ⟨q, r, hq, hr0, hr⟩ : ∃ q r, n / 2 = 4 * q + r ∧ 0 ≤ r ∧ r < 4 := ⟨n / 2 / 4, n / 2 % 4, by omega, by omega, by omega⟩
 rw [hq] at hs
 have e : (4 * q + r) * (4 * q + r + 1) = 8 * (2 * (q * q) + q * r) + 4 * q + r * (r + 1) := by grind
 rw [e] at hs
 have h8 : n % 8 = 2 * r + 1 := by omega
 unfold sg8 par
 rw [h8]
 generalize q * q = qq at hs
 generalize q * r = qr at hs
 rcases (show r = 0 ∨ r = 1 ∨ r = 2 ∨ r = 3 by omega) with rfl | rfl | rfl | rfl
 ·rw [if_pos (by omega), if_pos (by omega)]
 ·rw [if_neg (by omega), if_neg (by omega), if_pos (by omega)]
 ·rw [if_neg (by omega), if_neg (by omega), if_neg (by omega), if_pos (by omega)]
 ·rw [if_pos (by omega), if_neg (by omega), if_neg (by omega), if_neg (by omega), if_pos (by omega)]
theorem cnt_le : ∀ (k : Nat) (q : Int), 0 ≤ q → q ≤ k → sumI ((List.range k).map fun (i : Nat) => if (i : Int) + 1 ≤ q then (1 : Int) else 0) = q
 | 0, q, h, h1 => by simp [sumI]; omega
 | k + 1, q, h, h1 => by
  rw [List.range_succ, List.map_append, List.map_cons, List.map_nil, sumI_snoc]
  by_cases g : (k : Int) + 1 ≤ q
  ·have hq : q = (k : Int) + 1 := by omega
   rw [if_pos g]
   have := cnt_le k k (by omega) (by omega)
   have e : sumI ((List.range k).map fun (i : Nat) => if (i : Int) + 1 ≤ q then (1 : Int) else 0) = sumI ((List.range k).map fun (i : Nat) => if (i : Int) + 1 ≤ (k : Int) then (1 : Int) else 0) :=
    sumI_congr (fun x hx => by rw [List.mem_range] at hx; rw [if_pos (by omega), if_pos (by omega)])
   rw [e, this]; omega
  ·rw [if_neg g, cnt_le k q h (by omega)]; omega
theorem cnt_rg {m q : Int} (h0 : 0 < m) (h : 0 ≤ q) (h1 : q ≤ m / 2) : sumI ((rg m).map fun y => if y ≤ q then (1 : Int) else 0) = q := by
 have := cnt_le (m / 2).toNat q h (by omega)
 unfold rg
 rw [List.map_map]
 exact this
theorem len_rg (m : Int) (h0 : 0 < m) : sumI ((rg m).map fun _ => (1 : Int)) = m / 2 := by
 have := cnt_rg (m := m) (q := m / 2) h0 (by omega) (by omega)
 rw [← this]
 exact sumI_congr (fun y hy => by rw [if_pos ((mem_rg h0).1 hy).2])
theorem eisen {m : Int} (h0 : 0 < n) (ho : n % 2 = 1) (m0 : 0 < m) (mo : m % 2 = 1) (hc : Cop m n) :
  sumI ((rg n).map fun x => m * x / n) + sumI ((rg m).map fun y => n * y / m) = (m / 2) * (n / 2) := by
 have q1 : ∀ x ∈ rg n, m * x / n = sumI ((rg m).map fun y => if n * y ≤ m * x then (1 : Int) else 0) := fun x hx => by
  have hx := (mem_rg h0).1 hx
  have b0 : 0 ≤ m * x / n := Int.ediv_nonneg (Int.mul_nonneg (by omega) (by omega)) (by omega)
  have b1 : m * x / n ≤ m / 2 := by
   have h2 : m * x ≤ m * (n / 2) := Int.mul_le_mul_of_nonneg_left hx.2 (by omega)
   have h3 : m * x / n * n ≤ m * x := Int.ediv_mul_le _ (by omega)
   generalize m * x / n = w at *
   rcases Int.lt_or_le (m / 2) w with g | g
   ·exfalso
    have h4 : (m / 2 + 1) * n ≤ w * n := Int.mul_le_mul_of_nonneg_right g (by omega)
    obtain ⟨a, ha⟩ : ∃ a, m = 2 * a + 1 := ⟨m / 2, by omega⟩
    obtain ⟨b, hb⟩ : ∃ b, n = 2 * b + 1 := ⟨n / 2, by omega⟩
    rw [show m / 2 = a by omega] at h4
    rw [show n / 2 = b by omega] at h2
    have e1 : (a + 1) * n = a * n + n := by grind
    have e2 : m * b = 2 * (a * b) + b := by rw [ha]; grind
    have e3 : a * n = 2 * (a * b) + a := by rw [hb]; grind
    omega
   ·exact g
  rw [← cnt_rg m0 b0 b1]
  refine sumI_congr (fun y _ => ?_)
  have : y ≤ m * x / n ↔ n * y ≤ m * x := by rw [Int.le_ediv_iff_mul_le h0, Int.mul_comm]
  by_cases g : y ≤ m * x / n
  ·rw [if_pos g, if_pos (this.1 g)]
  ·rw [if_neg g, if_neg (fun h => g (this.2 h))]
 have q2 : ∀ y ∈ rg m, n * y / m = sumI ((rg n).map fun x => if m * x ≤ n * y then (1 : Int) else 0) := fun y hy => by
  have hy := (mem_rg m0).1 hy
  have b0 : 0 ≤ n * y / m := Int.ediv_nonneg (Int.mul_nonneg (by omega) (by omega)) (by omega)
  have b1 : n * y / m ≤ n / 2 := by
   have h2 : n * y ≤ n * (m / 2) := Int.mul_le_mul_of_nonneg_left hy.2 (by omega)
   have h3 : n * y / m * m ≤ n * y := Int.ediv_mul_le _ (by omega)
   generalize n * y / m = w at *
   rcases Int.lt_or_le (n / 2) w with g | g
   ·exfalso
    have h4 : (n / 2 + 1) * m ≤ w * m := Int.mul_le_mul_of_nonneg_right g (by omega)
    obtain ⟨a, ha⟩ : ∃ a, m = 2 * a + 1 := ⟨m / 2, by omega⟩
    obtain ⟨b, hb⟩ : ∃ b, n = 2 * b + 1 := ⟨n / 2, by omega⟩
    rw [show n / 2 = b by omega] at h4
    rw [show m / 2 = a by omega] at h2
    have e1 : (b + 1) * m = b * m + m := by grind
    have e2 : n * a = 2 * (a * b) + a := by rw [hb]; grind
    have e3 : b * m = 2 * (a * b) + b := by rw [ha]; grind
    omega
   ·exact g
  rw [← cnt_rg h0 b0 b1]
  refine sumI_congr (fun x _ => ?_)
  have : x ≤ n * y / m ↔ m * x ≤ n * y := by rw [Int.le_ediv_iff_mul_le m0, Int.mul_comm]
  by_cases g : x ≤ n * y / m
  ·rw [if_pos g, if_pos (this.1 g)]
  ·rw [if_neg g, if_neg (fun h => g (this.2 h))]
 have sw := sumI_swap (fun x y => if m * x ≤ n * y then (1 : Int) else 0) (rg m) (rg n)
 rw [sumI_congr q1, sumI_congr q2, ← sw, ← sumI_add2]
 have e : ∀ x ∈ rg n, (sumI ((rg m).map fun y => if n * y ≤ m * x then (1 : Int) else 0) + sumI ((rg m).map fun y => if m * x ≤ n * y then (1 : Int) else 0)) = m / 2 := fun x hx => by
  have hx := (mem_rg h0).1 hx
  rw [← sumI_add2, ← len_rg m m0]
  refine sumI_congr (fun y hy => ?_)
  have hne : m * x ≠ n * y := fun e => hc.nz h0 hx (by rw [e]; exact Int.mul_emod_right n y)
  by_cases g : n * y ≤ m * x
  ·rw [if_pos g, if_neg (by omega)]; rfl
  ·rw [if_neg g, if_pos (by omega)]; rfl
 rw [sumI_congr e]
 have : sumI ((rg n).map fun _ => m / 2) = sumI ((rg n).map fun x => m / 2 * (fun _ => (1 : Int)) x) := sumI_congr (fun _ _ => by simp)
 rw [this, sumI_mulc, len_rg n h0]
theorem SS_rec {m : Int} (h0 : 0 < n) (ho : n % 2 = 1) (m0 : 0 < m) (mo : m % 2 = 1) (hc : Cop m n) : SS m n = (if m % 4 = 3 ∧ n % 4 = 3 then -1 else 1) * SS n m := by
 have hc' : Cop n m := by unfold Cop at hc ⊢; rw [Int.gcd_comm]; exact hc
 rw [SS_odd h0 ho hc mo, SS_odd m0 mo hc' ho]
 have h := eisen h0 ho m0 mo hc
 generalize sumI ((rg n).map fun x => m * x / n) = A at *
 generalize sumI ((rg m).map fun y => n * y / m) = B at *
 have e : par A = par (m / 2 * (n / 2)) * par B := by
  rw [← par_add]
  refine par_congr ?_
  omega
 rw [e]
 congr 1
 obtain ⟨a, r, ha, hr0, hr⟩ : ∃ a r, m / 2 = 2 * a + r ∧ 0 ≤ r ∧ r < 2 := ⟨m / 2 / 2, m / 2 % 2, by omega, by omega, by omega⟩
 obtain ⟨b, t, hb, ht0, ht⟩ : ∃ b t, n / 2 = 2 * b + t ∧ 0 ≤ t ∧ t < 2 := ⟨n / 2 / 2, n / 2 % 2, by omega, by omega, by omega⟩
 have e2 : m / 2 * (n / 2) = 2 * (2 * (a * b) + a * t + r * b) + r * t := by rw [ha, hb]; grind
 rw [e2]
 unfold par
 rcases (show r = 0 ∨ r = 1 by omega) with rfl | rfl <;> rcases (show t = 0 ∨ t = 1 by omega) with rfl | rfl
 ·rw [if_pos (by omega), if_neg (by omega)]
 ·rw [if_pos (by omega), if_neg (by omega)]
 ·rw [if_pos (by omega), if_neg (by omega)]
 ·rw [if_neg (by omega), if_pos (by omega)]
theorem cop_two (ho : n % 2 = 1) : Cop 2 n := Cop.of_inv (b := (n + 1) / 2) ⟨1, by omega⟩
theorem even_of {a : Int} (h : oddB a = false) : a % 2 = 0 := by
 have : ¬ a % 2 = 1 := fun e => by unfold oddB at h; rw [e] at h; cases h
 omega
theorem tw_cop (_h0 : 0 < n) (ho : n % 2 = 1) : ∀ (B : Nat) (a : Int), a.natAbs ≤ B → 0 < a → (Cop a n ↔ Cop (tw a).1 n)
 | 0, a, h, h1 => by omega
 | B + 1, a, h, h1 => by
  cases g : oddB a
  ·have h2 := even_of g
   rw [tw_even (by omega) g]
   simp only
   rw [← tw_cop _h0 ho B (a / 2) (by omega) (by omega)]
   have e : a = 2 * (a / 2) := by omega
   constructor
   ·intro c
    rw [e] at c
    exact c.right
   ·intro c
    rw [e]
    exact (cop_two ho).mul c
  ·rw [tw_odd g]
theorem sg8_sq' {a : Int} (h : a % 2 = 1) : sg8 a * sg8 a = 1 := by
 unfold sg8
 rcases (show a % 8 = 1 ∨ a % 8 = 3 ∨ a % 8 = 5 ∨ a % 8 = 7 by omega) with e | e | e | e <;> rw [e] <;> decide
theorem tw_SS (h0 : 0 < n) (ho : n % 2 = 1) : ∀ (B : Nat) (a : Int), a.natAbs ≤ B → 0 < a → Cop (tw a).1 n → SS a n = (if (tw a).2 % 2 = 1 then sg8 n else 1) * SS (tw a).1 n
 | 0, a, h, h1, _ => by omega
 | B + 1, a, h, h1, c => by
  cases g : oddB a
  ·have h2 := even_of g
   rw [tw_even (by omega) g] at c ⊢
   simp only at c ⊢
   have ih := tw_SS h0 ho B (a / 2) (by omega) (by omega) c
   have hc := (tw_cop h0 ho _ (a / 2) (Nat.le_refl _) (by omega)).2 c
   have e : SS a n = SS 2 n * SS (a / 2) n := by
    rw [← SS_mul h0 ho (cop_two ho) hc, show 2 * (a / 2) = a by omega]
   rw [e, SS_two h0 ho, ih, ← Int.mul_assoc]
   congr 1
   have hs := sg8_sq' ho
   have hp := (tw_abs _ (a / 2) (Nat.le_refl _) (by omega)).2.2.2.1
   by_cases w : (tw (a / 2)).2 % 2 = 1
   ·rw [if_pos w, if_neg (by omega), hs]
   ·rw [if_neg w, if_pos (by omega)]; omega
  ·rw [tw_odd g, if_neg (by simp)]; simp
theorem krGo_SS : ∀ (F : Nat) (k a n : Int), a.natAbs < F → 0 ≤ a → 0 < n → n % 2 = 1 → (if (krGo F k a n).2 = 1 then (krGo F k a n).1 else 0) = if Cop a n then k * SS a n else 0
 | 0, k, a, n, h, _, _, _ => by omega
 | F + 1, k, a, n, h, ha, hn, ho => by
  rw [krGo]
  by_cases h0 : 0 < a
  ·rw [if_pos h0]
   simp only
   have ht := tw_abs _ a (Nat.le_refl _) (by omega)
   have hp := ht.2.2.2.2.2 h0
   have hodd : (tw a).1 % 2 = 1 := of_decide_eq_true ht.2.2.1
   have hm := Int.emod_nonneg n (show (tw a).1 ≠ 0 by omega)
   have hl := Int.emod_lt_of_pos n hp
   rw [krGo_SS F _ (n % (tw a).1) (tw a).1 (by omega) hm hp hodd]
   have hs := tw_SS hn ho (a.natAbs) a (Nat.le_refl _) h0
   have hcop : Cop a n ↔ Cop (tw a).1 n := tw_cop hn ho (a.natAbs) a (Nat.le_refl _) h0
   have hcc : Cop (n % (tw a).1) (tw a).1 ↔ Cop (tw a).1 n := by
    have e := Int.mul_ediv_add_emod n (tw a).1
    constructor
    ·intro g
     exact (cop_congr (n := (tw a).1) (a := n % (tw a).1) (b := n) ⟨-(n / (tw a).1), by rw [Int.mul_neg]; omega⟩ g).symm
    ·intro g
     exact cop_congr (n := (tw a).1) (a := n) (b := n % (tw a).1) ⟨n / (tw a).1, by omega⟩ g.symm
   by_cases c : Cop (tw a).1 n
   ·rw [if_pos (hcc.2 c), if_pos (hcop.2 c), hs c, SS_rec hn ho hp hodd c]
    have e : SS (n % (tw a).1) (tw a).1 = SS n (tw a).1 := SS_congr ⟨-(n / (tw a).1), by
     have := Int.mul_ediv_add_emod n (tw a).1
     rw [Int.mul_neg]; omega⟩
    rw [e]
    by_cases g : (tw a).1 % 4 = 3 ∧ n % 4 = 3 <;> by_cases w : (tw a).2 % 2 = 1 <;> simp only [g, w, if_true, if_false, and_self] <;> grind
   ·rw [if_neg (fun g => c (hcc.1 g)), if_neg (fun g => c (hcop.1 g))]
  ·rw [if_neg h0]
   have : a = 0 := by omega
   subst this
   simp only
   by_cases g : n = 1
   ·subst g
    rw [if_pos rfl, if_pos (by unfold Cop; decide)]
    have : SS 0 1 = 1 := by decide
    rw [this]; omega
   ·rw [if_neg g, if_neg (fun c => g (by unfold Cop at c; rw [Int.gcd_zero_left] at c; omega))]
theorem cop_mod (n a : Int) : Cop (a % n) n ↔ Cop a n := by
 have e := Int.mul_ediv_add_emod a n
 constructor
 ·intro g
  exact cop_congr (n := n) (a := a % n) (b := a) ⟨-(a / n), by rw [Int.mul_neg]; omega⟩ g
 ·intro g
  exact cop_congr (n := n) (a := a) (b := a % n) ⟨a / n, by omega⟩ g
theorem SS_mod (n a : Int) : SS (a % n) n = SS a n := SS_congr ⟨-(a / n), by
 have := Int.mul_ediv_add_emod a n
 rw [Int.mul_neg]; omega⟩
theorem kr_SS {a : Int} (hn : 0 < n) (ho : n % 2 = 1) : kr a n = if Cop a n then SS a n else 0 := by
 have hob : oddB n = true := decide_eq_true ho
 have ea : ((n.natAbs : Nat) : Int) = n := by omega
 have hk : k1K a n = 1 := by unfold k1K k0K; rw [ea, tw_odd hob, if_neg (by simp), if_neg (by omega)]
 rw [kr_go (by omega) (by rw [hob]; simp)]
 unfold RK_
 rw [ea, tw_odd hob, hk]
 have h := krGo_SS (a % n).natAbs.succ 1 (a % n) n (Nat.lt_succ_self _) (Int.emod_nonneg a (by omega)) hn ho
 rw [Int.one_mul, SS_mod] at h
 by_cases c : Cop a n
 ·rw [if_pos ((cop_mod n a).2 c)] at h
  rw [if_pos c]; exact h
 ·rw [if_neg (fun g => c ((cop_mod n a).1 g))] at h
  rw [if_neg c]; exact h
theorem kr_mulA {a b : Int} (hn : 0 < n) (ho : n % 2 = 1) : kr (a * b) n = kr a n * kr b n := by
 rw [kr_SS hn ho, kr_SS hn ho, kr_SS hn ho]
 by_cases ca : Cop a n
 ·by_cases cb : Cop b n
  ·rw [if_pos ca, if_pos cb, if_pos (ca.mul cb), SS_mul hn ho ca cb]
  ·rw [if_neg cb, if_neg (fun c => cb c.right), Int.mul_zero]
 ·rw [if_neg ca, if_neg (fun c => ca c.left), Int.zero_mul]
theorem kr_congrA {a b : Int} (hn : 0 < n) (ho : n % 2 = 1) (h : n ∣ a - b) : kr a n = kr b n := by
 have h' : n ∣ b - a := by obtain ⟨q, hq⟩ := h; exact ⟨-q, by rw [Int.mul_neg]; omega⟩
 rw [kr_SS hn ho, kr_SS hn ho, SS_congr h]
 by_cases c : Cop a n
 ·rw [if_pos c, if_pos (cop_congr h c)]
 ·rw [if_neg c, if_neg (fun g => c (cop_congr h' g))]
theorem kr_sqA {a : Int} (hn : 0 < n) (ho : n % 2 = 1) (c : Cop a n) : kr (a * a) n = 1 := by
 rw [kr_mulA hn ho, kr_SS hn ho, if_pos c]
 rcases SS_pm (n := n) a with h | h <;> rw [h] <;> rfl
end
end Go.AM
end
section
namespace Go.AM
open Go Go.RowKit
def Pr (p : Nat) : Prop := 2 ≤ p ∧ ∀ x y : Nat, p ∣ x * y → p ∣ x ∨ p ∣ y
theorem has_pr : ∀ (B n : Nat), n ≤ B → 2 ≤ n → ∃ p, Pr p ∧ p ∣ n
 | 0, n, h, h2 => by omega
 | B + 1, n, h, h2 => by
  by_cases hd : ∃ d, 2 ≤ d ∧ d < n ∧ d ∣ n
  ·obtain ⟨d, d2, dn, hdn⟩ := hd
   obtain ⟨p, hp, hpd⟩ := has_pr B d (by omega) d2
   exact ⟨p, hp, Nat.dvd_trans hpd hdn⟩
  ·refine ⟨n, ⟨h2, fun x y hxy => ?_⟩, Nat.dvd_refl n⟩
   have hg := Nat.gcd_dvd_left n x
   have hle := Nat.le_of_dvd (by omega) hg
   have h0 : Nat.gcd n x ≠ 0 := fun e => by rw [e] at hg; have := Nat.eq_zero_of_zero_dvd hg; omega
   rcases (show Nat.gcd n x = 1 ∨ Nat.gcd n x = n ∨ (2 ≤ Nat.gcd n x ∧ Nat.gcd n x < n) by omega) with e | e | e
   ·exact .inr (Nat.Coprime.dvd_of_dvd_mul_left e hxy)
   ·left; rw [← e]; exact Nat.gcd_dvd_right n x
   ·exact absurd ⟨_, e.1, e.2, hg⟩ hd
theorem pr_cop {p n : Nat} (hp : Pr p) (h : ¬ p ∣ n) : Nat.Coprime n p := by
 have hg := Nat.gcd_dvd_right n p
 obtain ⟨q, hq⟩ := hg
 rcases hp.2 (Nat.gcd n p) q ⟨1, by rw [← hq]; omega⟩ with g | g
 ·exact absurd (Nat.dvd_trans g (Nat.gcd_dvd_left n p)) h
 ·obtain ⟨w, hw⟩ := g
  have h1 : p * 1 = p * (Nat.gcd n p * w) := by
   have : Nat.gcd n p * q = p * (Nat.gcd n p * w) := by rw [hw]; grind
   omega
  have h2 := Nat.eq_of_mul_eq_mul_left (show 0 < p by have := hp.1; omega) h1
  exact Nat.eq_one_of_mul_eq_one_right h2.symm
theorem split_pr {p : Nat} (hp : Pr p) : ∀ (B a : Nat), a ≤ B → 1 ≤ a → ∃ k m, a = p ^ k * m ∧ ¬ p ∣ m ∧ 1 ≤ m ∧ (p ∣ a → p * m ≤ a)
 | 0, a, h, h1 => by omega
 | B + 1, a, h, h1 => by
  by_cases hd : p ∣ a
  ·obtain ⟨b, rfl⟩ := hd
   have hb : 1 ≤ b := by
    rcases Nat.eq_zero_or_pos b with e | e
    ·subst e; simp at h1
    ·exact e
   have h2 : 2 * b ≤ p * b := Nat.mul_le_mul_right b hp.1
   obtain ⟨k, m, e, hm, m1, _⟩ := split_pr hp B b (by omega) hb
   refine ⟨k + 1, m, by rw [e, Nat.pow_succ]; grind, hm, m1, fun _ => Nat.mul_le_mul_left p ?_⟩
   rw [e]
   have : 1 ≤ p ^ k := Nat.pow_pos (by have := hp.1; omega)
   have : 1 * m ≤ p ^ k * m := Nat.mul_le_mul_right m this
   omega
  ·exact ⟨0, a, by simp, hd, h1, fun x => absurd x hd⟩
section
variable {A B C : Int}
theorem grid {p : Nat} (hp : Pr p) (pf : prim A B C = true) {m : Nat} (hm : ¬ p ∣ m) (x y : Int) : ∃ i j : Nat, i ≤ 2 ∧ j ≤ 2 ∧ ¬ (p : Int) ∣ vl A B C (x + m * i) (y + m * j) := by
 by_cases h : ∃ i j : Nat, i ≤ 2 ∧ j ≤ 2 ∧ ¬ (p : Int) ∣ vl A B C (x + m * i) (y + m * j)
 ·exact h
 ·exfalso
  have all : ∀ i j : Nat, i ≤ 2 → j ≤ 2 → (p : Int) ∣ vl A B C (x + m * i) (y + m * j) := fun i j hi hj => by
   by_cases g : (p : Int) ∣ vl A B C (x + m * i) (y + m * j)
   ·exact g
   ·exact absurd ⟨i, j, hi, hj, g⟩ h
  have eu : ∀ u v : Int, (p : Int) ∣ u * v → (p : Int) ∣ u ∨ (p : Int) ∣ v := fun u v h => by
   have h1 := Int.natAbs_dvd_natAbs.2 h
   rw [Int.natAbs_mul, Int.natAbs_natCast] at h1
   rcases hp.2 _ _ h1 with g | g
   ·exact .inl (Int.ofNat_dvd_left.2 g)
   ·exact .inr (Int.ofNat_dvd_left.2 g)
  have nm : ¬ (p : Int) ∣ (m : Int) := fun h => hm (Int.natCast_dvd_natCast.1 h)
  have a00 := all 0 0 (by omega) (by omega)
  have a10 := all 1 0 (by omega) (by omega)
  have a20 := all 2 0 (by omega) (by omega)
  have a01 := all 0 1 (by omega) (by omega)
  have a02 := all 0 2 (by omega) (by omega)
  have a11 := all 1 1 (by omega) (by omega)
  have a21 := all 2 1 (by omega) (by omega)
  have a12 := all 1 2 (by omega) (by omega)
  have hB : (p : Int) ∣ B := by
   have h1 := Int.dvd_add (Int.dvd_sub (Int.dvd_sub a11 a10) a01) a00
   have e : vl A B C (x + m * (1 : Nat)) (y + m * (1 : Nat)) - vl A B C (x + m * (1 : Nat)) (y + m * (0 : Nat)) - vl A B C (x + m * (0 : Nat)) (y + m * (1 : Nat)) + vl A B C (x + m * (0 : Nat)) (y + m * (0 : Nat)) = B * (m * m) := by
    unfold vl; simp; grind
   rw [e] at h1
   rcases eu _ _ h1 with g | g
   ·exact g
   ·rcases eu _ _ g with g | g <;> exact absurd g nm
  have d1 : ∀ i j : Nat, i ≤ 1 → j ≤ 2 → (p : Int) ∣ A * (2 * (x + m * i) + m) := fun i j hi hj => by
   have h1 := Int.dvd_sub (all (i + 1) 0 (by omega) (by omega)) (all i 0 (by omega) (by omega))
   have e : vl A B C (x + m * ((i + 1 : Nat) : Int)) (y + m * (0 : Nat)) - vl A B C (x + m * (i : Int)) (y + m * (0 : Nat)) = m * (A * (2 * (x + m * i) + m)) + B * (m * y) := by
    unfold vl; simp; grind
   rw [e] at h1
   have h2 := Int.dvd_sub h1 (dvdl hB (m * y))
   rw [Int.add_sub_cancel] at h2
   rcases eu _ _ h2 with g | g
   ·exact absurd g nm
   ·exact g
  have d2 : ∀ j : Nat, j ≤ 1 → (p : Int) ∣ C * (2 * (y + m * j) + m) := fun j hj => by
   have h1 := Int.dvd_sub (all 0 (j + 1) (by omega) (by omega)) (all 0 j (by omega) (by omega))
   have e : vl A B C (x + m * (0 : Nat)) (y + m * ((j + 1 : Nat) : Int)) - vl A B C (x + m * (0 : Nat)) (y + m * (j : Int)) = m * (C * (2 * (y + m * j) + m)) + B * (m * x) := by
    unfold vl; simp; grind
   rw [e] at h1
   have h2 := Int.dvd_sub h1 (dvdl hB (m * x))
   rw [Int.add_sub_cancel] at h2
   rcases eu _ _ h2 with g | g
   ·exact absurd g nm
   ·exact g
  have fin : ∀ (T z : Int), (p : Int) ∣ T * (2 * (z + m * (0 : Nat)) + m) → (p : Int) ∣ T * (2 * (z + m * (1 : Nat)) + m) → (p : Int) ∣ T := fun T z h0 h1 => by
   by_cases hT : (p : Int) ∣ T
   ·exact hT
   ·exfalso
    have g0 := (eu _ _ h0).resolve_left hT
    have g1 := (eu _ _ h1).resolve_left hT
    have g2 := Int.dvd_sub g1 g0
    have e : 2 * (z + m * ((1 : Nat) : Int)) + m - (2 * (z + m * ((0 : Nat) : Int)) + m) = 2 * (m : Int) := by simp; omega
    rw [e] at g2
    have p2 := (eu _ _ g2).resolve_right nm
    have g3 := Int.dvd_sub g0 (dvdl p2 (z + m * (0 : Nat)))
    have e2 : 2 * (z + m * ((0 : Nat) : Int)) + m - 2 * (z + m * ((0 : Nat) : Int)) = (m : Int) := by omega
    rw [e2] at g3
    exact nm g3
  have hA := fin A x (d1 0 0 (by omega) (by omega)) (d1 1 0 (by omega) (by omega))
  have hC := fin C y (d2 0 (by omega)) (d2 1 (by omega))
  have h := Int.dvd_coe_gcd hA (Int.dvd_coe_gcd hB hC)
  unfold prim at pf
  rw [of_decide_eq_true pf] at h
  have := Int.le_of_dvd (by omega) h
  have := hp.1
  omega
theorem vl_congr {m : Int} (x y i j : Int) : m ∣ vl A B C (x + m * i) (y + m * j) - vl A B C x y :=
 ⟨A * (2 * x * i + m * i * i) + B * (x * j + i * y + m * i * j) + C * (2 * y * j + m * j * j), by unfold vl; grind⟩
theorem cop_step {p : Nat} (hp : Pr p) (pf : prim A B C = true) {a : Nat} (h1 : 1 ≤ a) (hpa : p ∣ a) (ih : ∀ m, 1 ≤ m → m < a → ∃ x y : Nat, Nat.Coprime (vl A B C x y).natAbs m ∧ x + y ≤ 4 * m) :
  ∃ x y : Nat, Nat.Coprime (vl A B C x y).natAbs a ∧ p * (x + y) ≤ 8 * a := by
 obtain ⟨k, m, e, hm, m1, hle⟩ := split_pr hp a a (Nat.le_refl a) h1
 have hle := hle hpa
 have hp2 := hp.1
 have hlt : m < a := by
  have : 2 * m ≤ p * m := Nat.mul_le_mul_right m hp2
  omega
 obtain ⟨x, y, hc, hb⟩ := ih m m1 hlt
 obtain ⟨i, j, hi, hj, hv⟩ := grid hp pf hm (x : Int) (y : Int)
 have mi : m * i ≤ m * 2 := Nat.mul_le_mul_left m hi
 have mj : m * j ≤ m * 2 := Nat.mul_le_mul_left m hj
 refine ⟨x + m * i, y + m * j, ?_, ?_⟩
 ·have ex : ((x + m * i : Nat) : Int) = (x : Int) + m * i := by rw [Int.natCast_add, Int.natCast_mul]
  have ey : ((y + m * j : Nat) : Int) = (y : Int) + m * j := by rw [Int.natCast_add, Int.natCast_mul]
  rw [ex, ey]
  have c1 : Nat.Coprime (vl A B C ((x : Int) + m * i) (y + m * j)).natAbs m := by
   have hg := vl_congr (A := A) (B := B) (C := C) (m := (m : Int)) (x : Int) (y : Int) i j
   generalize vl A B C ((x : Int) + m * i) (y + m * j) = V at *
   generalize vl A B C (x : Int) (y : Int) = W at *
   have d1 := Nat.gcd_dvd_left V.natAbs m
   have d2 := Nat.gcd_dvd_right V.natAbs m
   have d3 : ((Nat.gcd V.natAbs m : Nat) : Int) ∣ W := by
    have e1 : ((Nat.gcd V.natAbs m : Nat) : Int) ∣ V := Int.ofNat_dvd_left.2 d1
    have e2 : ((Nat.gcd V.natAbs m : Nat) : Int) ∣ (m : Int) := Int.natCast_dvd_natCast.2 d2
    have e3 := Int.dvd_sub e1 (Int.dvd_trans e2 hg)
    have : V - (V - W) = W := by omega
    rwa [this] at e3
   have d4 := Nat.dvd_gcd (Int.ofNat_dvd_left.1 d3) d2
   unfold Nat.Coprime at hc ⊢
   rw [hc] at d4
   exact Nat.eq_one_of_dvd_one d4
  have c2 : Nat.Coprime (vl A B C ((x : Int) + m * i) (y + m * j)).natAbs p := pr_cop hp (fun h => hv (Int.ofNat_dvd_left.2 h))
  rw [e]
  exact Nat.Coprime.mul_right (Nat.Coprime.pow_right k c2) c1
 ·have : p * (x + m * i + (y + m * j)) ≤ p * (8 * m) := Nat.mul_le_mul_left p (by omega)
  have e2 : p * (8 * m) = 8 * (p * m) := Nat.mul_left_comm ..
  omega
theorem cop_any (pf : prim A B C = true) : ∀ (n a : Nat), a ≤ n → 1 ≤ a → ∃ x y : Nat, Nat.Coprime (vl A B C x y).natAbs a ∧ x + y ≤ 4 * a
 | 0, a, h, h1 => by omega
 | n + 1, a, h, h1 => by
  by_cases h2 : a = 1
  ·subst h2
   exact ⟨0, 0, Nat.coprime_one_right _, by omega⟩
  ·obtain ⟨p, hp, hpa⟩ := has_pr a a (Nat.le_refl a) (by omega)
   obtain ⟨x, y, hc, hb⟩ := cop_step hp pf h1 hpa (fun m m1 hm => cop_any pf n m (by omega) m1)
   refine ⟨x, y, hc, ?_⟩
   have : 2 * (x + y) ≤ p * (x + y) := Nat.mul_le_mul_right _ hp.1
   omega
theorem pr_small {q : Nat} (hq : Pr q) (h : q ≤ 16) : q ∣ 30030 := by
 have h2 := hq.1
 rcases (show q = 2 ∨ q = 3 ∨ q = 4 ∨ q = 5 ∨ q = 6 ∨ q = 7 ∨ q = 8 ∨ q = 9 ∨ q = 10 ∨ q = 11 ∨ q = 12 ∨ q = 13 ∨ q = 14 ∨ q = 15 ∨ q = 16 by omega) with rfl | rfl | rfl | rfl | rfl | rfl | rfl | rfl | rfl | rfl | rfl | rfl | rfl | rfl | rfl
 ·decide
 ·decide
 ·rcases hq.2 2 2 (by decide) with g | g <;> revert g <;> decide
 ·decide
 ·rcases hq.2 2 3 (by decide) with g | g <;> revert g <;> decide
 ·decide
 ·rcases hq.2 2 4 (by decide) with g | g <;> revert g <;> decide
 ·rcases hq.2 3 3 (by decide) with g | g <;> revert g <;> decide
 ·rcases hq.2 2 5 (by decide) with g | g <;> revert g <;> decide
 ·decide
 ·rcases hq.2 3 4 (by decide) with g | g <;> revert g <;> decide
 ·decide
 ·rcases hq.2 2 7 (by decide) with g | g <;> revert g <;> decide
 ·rcases hq.2 3 5 (by decide) with g | g <;> revert g <;> decide
 ·rcases hq.2 4 4 (by decide) with g | g <;> revert g <;> decide
theorem not_cop {u v : Nat} (hv : 1 ≤ v) (h : ¬ Nat.Coprime u v) : ∃ q, Pr q ∧ q ∣ u ∧ q ∣ v := by
 have h0 : Nat.gcd u v ≠ 0 := fun e => by
  have hg := Nat.gcd_dvd_right u v
  rw [e] at hg
  have := Nat.eq_zero_of_zero_dvd hg
  omega
 obtain ⟨q, hq, hd⟩ := has_pr (Nat.gcd u v) (Nat.gcd u v) (Nat.le_refl _) (by unfold Nat.Coprime at h; omega)
 exact ⟨q, hq, Nat.dvd_trans hd (Nat.gcd_dvd_left u v), Nat.dvd_trans hd (Nat.gcd_dvd_right u v)⟩
theorem cop_64 (pf : prim A B C = true) {a : Nat} (h1 : 1 ≤ a) (h2 : a < 18446744073709551616) : ∃ x y : Nat, Nat.Coprime (vl A B C x y).natAbs a ∧ x + y ≤ 9000000000000000000 := by
 by_cases h : ∃ p, Pr p ∧ p ∣ a ∧ 17 ≤ p
 ·obtain ⟨p, hp, hpa, h17⟩ := h
  obtain ⟨x, y, hc, hb⟩ := cop_step hp pf h1 hpa (fun m m1 _ => cop_any pf m m (Nat.le_refl m) m1)
  refine ⟨x, y, hc, ?_⟩
  have : 17 * (x + y) ≤ p * (x + y) := Nat.mul_le_mul_right _ h17
  omega
 ·obtain ⟨x, y, hc, hb⟩ := cop_any pf 30030 30030 (by omega) (by omega)
  refine ⟨x, y, ?_, by omega⟩
  by_cases g : Nat.Coprime (vl A B C x y).natAbs a
  ·exact g
  ·exfalso
   obtain ⟨q, hq, d1, d2⟩ := not_cop h1 g
   have h16 : q ≤ 16 := by
    rcases Nat.lt_or_ge 16 q with g | g
    ·exact absurd ⟨q, hq, d2, g⟩ h
    ·exact g
   have d3 := Nat.dvd_gcd d1 (pr_small hq h16)
   rw [hc] at d3
   have := Nat.le_of_dvd (by omega) d3
   have := hq.1
   omega
theorem vl_scale (g x y : Int) : vl A B C (g * x) (g * y) = g * g * vl A B C x y := by unfold vl; grind
theorem cop_prim (pf : prim A B C = true) {a : Nat} (h1 : 1 ≤ a) (h2 : a < 18446744073709551616) : ∃ x y : Nat, Nat.gcd x y = 1 ∧ Nat.Coprime (vl A B C x y).natAbs a ∧ 1 ≤ x + y ∧ x + y ≤ 9000000000000000000 := by
 obtain ⟨x, y, hc, hb⟩ := cop_64 pf h1 h2
 by_cases h0 : x = 0 ∧ y = 0
 ·obtain ⟨rfl, rfl⟩ := h0
  have e : vl A B C ((0 : Nat) : Int) ((0 : Nat) : Int) = 0 := by unfold vl; simp
  rw [e] at hc
  have ha : a = 1 := by unfold Nat.Coprime at hc; simpa using hc
  subst ha
  exact ⟨1, 0, rfl, Nat.coprime_one_right _, by omega, by omega⟩
 ·obtain ⟨u, hu⟩ := Nat.gcd_dvd_left x y
  obtain ⟨v, hv⟩ := Nat.gcd_dvd_right x y
  have hg : 0 < Nat.gcd x y := by
   rcases Nat.eq_zero_or_pos (Nat.gcd x y) with e | e
   ·have := Nat.eq_zero_of_gcd_eq_zero_left e
    have := Nat.eq_zero_of_gcd_eq_zero_right e
    omega
   ·exact e
  have hcop : Nat.gcd u v = 1 := by
   have : Nat.gcd x y * Nat.gcd u v = Nat.gcd x y * 1 := by
    rw [← Nat.gcd_mul_left, ← hu, ← hv, Nat.mul_one]
   exact Nat.eq_of_mul_eq_mul_left hg this
  generalize Nat.gcd x y = g at *
  have l1 : 1 * u ≤ g * u := Nat.mul_le_mul_right u hg
  have l2 : 1 * v ≤ g * v := Nat.mul_le_mul_right v hg
  refine ⟨u, v, hcop, ?_, ?_, by omega⟩
  ·subst hu hv
   rw [Int.natCast_mul, Int.natCast_mul, vl_scale, Int.natAbs_mul] at hc
   exact Nat.Coprime.coprime_mul_left hc
  ·rcases Nat.eq_zero_or_pos (u + v) with e | e
   ·have : u = 0 := by omega
    have : v = 0 := by omega
    subst u v
    simp at hcop
   ·exact e
end
end Go.AM
end
section
namespace Go.AM
open Go Go.RowKit
def bzU (a b : Int) : Int := if b = 0 then sgn a else (xg b.natAbs a b).1 % (b / (Int.gcd a b : Nat))
def bzV (a b : Int) : Int := if b = 0 then 0 else ((Int.gcd a b : Nat) - bzU a b * a) / b
theorem gcd_pos' {a b : Int} (hb : b ≠ 0) : (0 : Int) < (Int.gcd a b : Nat) := by
 have h := Int.gcd_dvd_right (a := a) (b := b)
 rcases Nat.eq_zero_or_pos (Int.gcd a b) with e | e
 ·rw [e] at h
  exact absurd (Int.zero_dvd.1 h) hb
 ·omega
theorem bz_uniq {a b u v : Int} (hb : b ≠ 0) (h1 : b ∣ u * a - (Int.gcd a b : Nat)) (h2 : b ∣ v * a - (Int.gcd a b : Nat)) : u % (b / (Int.gcd a b : Nat)) = v % (b / (Int.gcd a b : Nat)) := by
 have g0 := gcd_pos' (a := a) hb
 obtain ⟨x, hx⟩ := Int.gcd_dvd_left (a := a) (b := b)
 obtain ⟨y, hy⟩ := Int.gcd_dvd_right (a := a) (b := b)
 have hxy : Int.gcd x y = 1 := by
  have h := Int.gcd_mul_left (Int.gcd a b : Nat) x y
  rw [← hx, ← hy, Int.natAbs_natCast] at h
  exact (Nat.eq_of_mul_eq_mul_left (show 0 < Int.gcd a b by omega) (by omega)).symm
 have hq : b / ((Int.gcd a b : Nat) : Int) = y := by
  have : b = ((Int.gcd a b : Nat) : Int) * y := hy
  generalize ((Int.gcd a b : Nat) : Int) = g at *
  rw [this, Int.mul_ediv_cancel_left _ (by omega)]
 rw [hq]
 have h3 := Int.dvd_sub h1 h2
 have e : u * a - (Int.gcd a b : Nat) - (v * a - (Int.gcd a b : Nat)) = (u - v) * a := by grind
 rw [e] at h3
 obtain ⟨k, hk⟩ := h3
 have h4 : y ∣ (u - v) * x := by
  refine ⟨k, ?_⟩
  have e1 : ((Int.gcd a b : Nat) : Int) * ((u - v) * x) = ((Int.gcd a b : Nat) : Int) * (y * k) := by
   have l : ((Int.gcd a b : Nat) : Int) * ((u - v) * x) = (u - v) * (((Int.gcd a b : Nat) : Int) * x) := by grind
   rw [l, ← hx, hk]
   rw [← Int.mul_assoc, ← hy]
  exact Int.eq_of_mul_eq_mul_left (by omega) e1
 have h5 : y ∣ u - v := by
  have h6 := Int.natAbs_dvd_natAbs.2 h4
  rw [Int.natAbs_mul] at h6
  have hc : Nat.Coprime y.natAbs x.natAbs := by
   unfold Nat.Coprime
   rw [Nat.gcd_comm]; exact hxy
  exact Int.natAbs_dvd_natAbs.1 (Nat.Coprime.dvd_of_dvd_mul_right hc h6)
 exact (Int.emod_eq_emod_iff_emod_sub_eq_zero).2 (Int.emod_eq_zero_of_dvd h5)
theorem xg_dvd (a b : Int) : b ∣ (xg b.natAbs a b).1 * a - (Int.gcd a b : Nat) :=
 ⟨-(xg b.natAbs a b).2, by rw [← xg_eq b.natAbs a b (Nat.le_refl _)]; grind⟩
theorem bzU_dvd {a b : Int} (hb : b ≠ 0) : b ∣ bzU a b * a - (Int.gcd a b : Nat) := by
 unfold bzU
 rw [if_neg hb]
 obtain ⟨k, hk⟩ := xg_dvd a b
 generalize (xg b.natAbs a b).1 = u at *
 obtain ⟨x, hx⟩ := Int.gcd_dvd_left (a := a) (b := b)
 obtain ⟨y, hy⟩ := Int.gcd_dvd_right (a := a) (b := b)
 have g0 := gcd_pos' (a := a) hb
 have hq : b / ((Int.gcd a b : Nat) : Int) = y := by
  have : b = ((Int.gcd a b : Nat) : Int) * y := hy
  generalize ((Int.gcd a b : Nat) : Int) = g at *
  rw [this, Int.mul_ediv_cancel_left _ (by omega)]
 rw [hq]
 have e := Int.mul_ediv_add_emod u y
 refine ⟨k - (u / y) * x, ?_⟩
 have e1 : u % y = u - y * (u / y) := by omega
 rw [e1]
 generalize u / y = w at *
 have e2 : y * a = b * x := by
  have l : y * a = ((Int.gcd a b : Nat) : Int) * (y * x) := by
   have : a = ((Int.gcd a b : Nat) : Int) * x := hx
   generalize ((Int.gcd a b : Nat) : Int) = g at *
   rw [this]; grind
  rw [l, ← Int.mul_assoc, ← hy]
 have e3 : (u - y * w) * a - (Int.gcd a b : Nat) = (u * a - (Int.gcd a b : Nat)) - w * (y * a) := by grind
 rw [e3, hk, e2]; grind
theorem bz_eq (a b : Int) : bzU a b * a + bzV a b * b = (Int.gcd a b : Nat) := by
 by_cases hb : b = 0
 ·subst hb
  unfold bzU bzV
  rw [if_pos rfl, Int.gcd_zero_right]
  unfold sgn
  split
  ·simp; omega
  ·split
   ·simp; omega
   ·simp; omega
 ·obtain ⟨k, hk⟩ := bzU_dvd (a := a) hb
  unfold bzV
  rw [if_neg hb]
  have : ((Int.gcd a b : Nat) : Int) - bzU a b * a = b * -k := by rw [Int.mul_neg, ← hk]; omega
  rw [this, Int.mul_ediv_cancel_left _ hb]
  rw [Int.mul_neg] at this
  grind
end Go.AM
end
section
namespace Go.AM
open Go Go.RowKit
section
end
def rfE (f : Fm) : Int := if ck f.a f.b f.c ≠ 0 then ck f.a f.b f.c else if 0 < dsc f.a f.b f.c then 5 else if prim f.a f.b f.c = true then 0 else 80
theorem rfE_cl {f : Fm} (h : rfE f = 0) : Cl (dsc f.a f.b f.c) f := by
 unfold rfE at h
 by_cases h1 : ck f.a f.b f.c ≠ 0
 ·rw [if_pos h1] at h; exact absurd h h1
 ·rw [if_neg h1] at h
  have h1 : ck f.a f.b f.c = 0 := by omega
  by_cases h2 : 0 < dsc f.a f.b f.c
  ·rw [if_pos h2] at h; cases h
  ·rw [if_neg h2] at h
   by_cases h3 : prim f.a f.b f.c = true
   ·have hd := ck_dsc h1
    refine ⟨⟨?_, by show dsc f.a f.b f.c < 0; omega⟩, h3, rfl⟩
    unfold ck at h1
    split at h1
    ·cases h1
    ·split at h1
     ·cases h1
     ·omega
   ·rw [if_neg h3] at h; cases h
theorem cl_rfE {D : Int} {f : Fm} (h : Cl D f) : rfE f = 0 := by
 unfold rfE
 have h1 : ck f.a f.b f.c = 0 := pos_ck h.pos
 have h2 : dsc f.a f.b f.c < 0 := h.pos.2
 rw [if_neg (by omega), if_neg (by omega), if_pos h.prim]
end Go.AM
end
section
namespace Go.AM
open Go Go.RowKit
def fst1 (P : Nat → Bool) : Nat → Nat → Nat
 | 0, n => n
 | f + 1, n => if P n = true then n else fst1 P f (n + 1)
theorem fst1_ge (P : Nat → Bool) : ∀ f n, n ≤ fst1 P f n
 | 0, n => Nat.le_refl n
 | f + 1, n => by
  unfold fst1
  split
  ·omega
  ·have := fst1_ge P f (n + 1); omega
theorem fst1_ok {P : Nat → Bool} : ∀ {f n m : Nat}, n ≤ m → m < n + f → P m = true → P (fst1 P f n) = true ∧ fst1 P f n ≤ m
 | 0, n, m, h, h1, _ => by omega
 | f + 1, n, m, h, h1, h2 => by
  unfold fst1
  by_cases g : P n = true
  ·rw [if_pos g]; exact ⟨g, h⟩
  ·rw [if_neg g]
   have : n ≠ m := fun e => g (by rw [e]; exact h2)
   exact fst1_ok (by omega) (by omega) h2
def cpG (f : Fm) (a : Int) (n x : Nat) : Bool := decide (Int.gcd (x : Int) ((n : Int) - x) = 1) && decide (Int.gcd (vl f.a f.b f.c x ((n : Int) - x)) a = 1)
def cpR (f : Fm) (a : Int) (n : Nat) : Bool := (List.range (n + 1)).any (cpG f a n)
def cpN (f : Fm) (a : Int) : Nat := fst1 (cpR f a) 9100000000000000000 1
def cpX (f : Fm) (a : Int) : Nat := fst1 (cpG f a (cpN f a)) (cpN f a + 1) 0
def cpM (f : Fm) (a : Int) : Mt := ⟨cpX f a, -bzV (cpX f a) ((cpN f a : Int) - cpX f a), (cpN f a : Int) - cpX f a, bzU (cpX f a) ((cpN f a : Int) - cpX f a)⟩
section
variable {f : Fm} {a : Int}
theorem cp_ex (pf : prim f.a f.b f.c = true) (h1 : a ≠ 0) (h2 : a.natAbs < 18446744073709551616) : cpR f a (cpN f a) = true ∧ 1 ≤ cpN f a ∧ cpN f a ≤ 9000000000000000000 := by
 obtain ⟨x, y, hg, hc, hb1, hb2⟩ := cop_prim pf (a := a.natAbs) (by omega) h2
 have hR : cpR f a (x + y) = true := by
  unfold cpR
  rw [List.any_eq_true]
  refine ⟨x, List.mem_range.2 (by omega), ?_⟩
  unfold cpG
  have e : ((x + y : Nat) : Int) - x = (y : Int) := by omega
  rw [e, Bool.and_eq_true, decide_eq_true_iff, decide_eq_true_iff]
  exact ⟨hg, hc⟩
 have := fst1_ok (P := cpR f a) (f := 9100000000000000000) (n := 1) (m := x + y) hb1 (by omega) hR
 have h3 := fst1_ge (cpR f a) 9100000000000000000 1
 unfold cpN
 exact ⟨this.1, h3, by omega⟩
theorem cp_x (h : cpR f a (cpN f a) = true) : cpG f a (cpN f a) (cpX f a) = true ∧ cpX f a ≤ cpN f a := by
 unfold cpR at h
 rw [List.any_eq_true] at h
 obtain ⟨m, hm, hg⟩ := h
 rw [List.mem_range] at hm
 have := fst1_ok (P := cpG f a (cpN f a)) (f := cpN f a + 1) (n := 0) (m := m) (by omega) (by omega) hg
 unfold cpX
 exact ⟨this.1, by omega⟩
theorem cp_det (h : cpR f a (cpN f a) = true) : (cpM f a).det = 1 ∧ Int.gcd (f.app (cpM f a)).a a = 1 := by
 have hx := (cp_x h).1
 unfold cpG at hx
 rw [Bool.and_eq_true, decide_eq_true_iff, decide_eq_true_iff] at hx
 refine ⟨?_, hx.2⟩
 have e := bz_eq (cpX f a : Int) ((cpN f a : Int) - cpX f a)
 rw [hx.1] at e
 unfold cpM Mt.det
 simp only
 rw [Int.neg_mul]
 grind
end
end Go.AM
end
section
namespace Go.AM
open Go Go.RowKit
section
end
end Go.AM
end
section
namespace Go.AM
open Go Go.RowKit
section ops
variable {P : Program}
variable {dst : Option Nat} {ty : TypeId} {pos : String} {af : Array Edge} {gd : Option (Nat × Bool)} {d : Nat} {ρ : Operand → AV} {own : Own}
theorem RepArgs.app {h : Hp} {r : Nat → Value} : ∀ {l : List AV} {xs : List Value} {m : List AV} {ys : List Value}, RepArgs h r l xs → RepArgs h r m ys → RepArgs h r (l ++ m) (xs ++ ys)
 | [], [], _, _, _, k => k
 | _ :: _, _ :: _, _, _, k1, k => ⟨k1.1, RepArgs.app k1.2 k⟩
 | [], _ :: _, _, _, k1, _ => k1.elim
 | _ :: _, [], _, _, k1, _ => k1.elim
end ops
section
end
end Go.AM
end
section
namespace Go.AM
open Go Go.RowKit
theorem WOK.nilV {C : Ctx} {h : Hp} {r : Nat → Value} {own : Own} {w : World} (k : WOK C h r own w) {d sz : Nat} {e : TypeId} (hd : own d = none) (hp : C.np ≤ d) (hl : ∀ m b, own m = some b → d ∉ lnk b) :
  WOK C h (upd r d (.slice none 0 0)) (upd own d (some ⟨true, sz, e, []⟩)) w := by
 have live : ∀ n, n ≠ d → upd own d (some (⟨true, sz, e, []⟩ : Blk)) n = own n := fun n h1 => upd_ne _ _ _ _ h1
 refine ⟨?_, ?_, k.hi, ?_, k.os, k.tape, k.output, k.size, k.old, ?_, k.hg, k.hn, k.gl, ?_, ?_⟩
 ·intro n b' hn
  by_cases h1 : n = d
  ·subst h1; rw [upd_same] at hn ⊢; cases hn
   exact ⟨none, 0, 0, rfl, by simp, Nat.le_refl _, by omega, .inl rfl⟩
  ·rw [live n h1] at hn
   rw [upd_ne _ _ _ _ h1]; exact k.ow n b' hn
 ·intro n p i hn hpp e1 e2
  by_cases h1 : n = d
  ·subst h1; rw [upd_same] at e1; cases e1
  ·by_cases h2 : p = d
   ·subst h2; rw [upd_same] at e2; cases e2
   ·rw [upd_ne _ _ _ _ h1] at e1; rw [upd_ne _ _ _ _ h2] at e2
    rw [live n h1] at hn; rw [live p h2] at hpp
    exact k.inj n p i hn hpp e1 e2
 ·intro n i hn e1
  by_cases h1 : n = d
  ·subst h1; rw [upd_same] at e1; cases e1
  ·rw [upd_ne _ _ _ _ h1] at e1; rw [live n h1] at hn; exact k.ho n i hn e1
 ·intro n i hn e1
  by_cases h1 : n = d
  ·subst h1; rw [upd_same] at e1; cases e1
  ·rw [upd_ne _ _ _ _ h1] at e1; rw [live n h1] at hn; exact k.fo n i hn e1
 ·intro n hn
  rw [upd_ne _ _ _ _ (by omega)]; exact k.kp n hn
 ·intro n b' j hn hj
  by_cases h1 : n = d
  ·subst h1; rw [upd_same] at hn; cases hn; cases hj
  ·rw [live n h1] at hn
   have hjd : j ≠ d := fun x => hl n b' hn (x ▸ hj)
   rw [upd_ne _ _ _ _ h1, upd_ne _ _ _ _ hjd]
   exact k.lk n b' j hn hj
theorem AWp_nilV {P : Program} {B : Bool} {N np : Nat} {Q : Exit → St → Prop} {s : St} {c : Code} (t d sz : Nat) (e : TypeId) (ht : s.regs t = .p (.c (.v (.slice none 0 0)))) (hp : Nat.ble np d = true)
  (h : AWp P B N np c Q ⟨upd (kill [d] s).regs t (.vec d), upd (kill [d] s).own d (some ⟨true, sz, e, []⟩)⟩) : AWp P B N np c Q s := by
 intro ro hB C hh r a w hn hc
 have hk := kill_conc [d] hc
 have hown : (kill [d] s).own d = none := kill_own [d] s d (by simp)
 have hmen := kill_men [d] s d (by simp)
 have hx := hc.rg t
 rw [ht] at hx
 have hv : a.tmps.getD t undef = .slice none 0 0 := by
  simp only [AVRep, PRep, DRep] at hx
  exact hx.1
 refine h ro hB C hh (upd r d (.slice none 0 0)) a w hn ⟨hk.sz, hk.df, fun t' => ?_, hk.wk.nilV hown (by rw [hn.1]; exact Nat.le_of_ble_eq_true hp) (kill_lnk [d] s d (by simp))⟩
 show AVRep hh _ (upd (kill [d] s).regs t (.vec d) t') _
 by_cases e1 : t' = t
 ·subst e1
  rw [upd_same]
  show _ = upd r d _ d
  rw [upd_same, hv]
 ·rw [upd_ne _ _ _ _ e1]
  have hr := hk.rg t'
  have hmt := hmen t'
  exact AVRep.rebind _ _ (fun m hm => upd_ne _ _ _ _ (fun x => hmt (x ▸ hm))) hr
section ops
variable {P : Program}
variable {dst : Option Nat} {ty : TypeId} {pos : String} {af : Array Edge} {gd : Option (Nat × Bool)} {d : Nat} {ρ : Operand → AV} {own : Own}
theorem op_makeFuncD {f : FuncId} {c : Operand} {xs : List DV} (hx : ρ c = .ip xs) : Eff P ⟨dst, .makeFunc (.func f) #[] #[c], ty, pos, af, gd⟩ d ρ own (.p (.c (.fn f [.ip xs]))) [] none [] :=
 Eff.value fun C h r own' a w hrep hrd hw => by
  have e1 := hrep c (by simp [Op.operands])
  rw [hx] at e1
  refine ⟨.func (.func f) #[] #[a.eval c], ?_, ?_⟩
  ·simp [execOp, Instr.makeFunc]
  ·simp only [AVRep, PRep, DRep]
   refine ⟨#[a.eval c], rfl, rfl, ?_⟩
   refine DReps.of_get fun i dv hi => ?_
   cases i with
   | zero =>
    simp only [List.getElem?_cons_zero, Option.some.injEq] at hi
    subst hi
    exact ⟨a.eval c, rfl, by simp only [DRep]; exact e1⟩
   | succ i => simp at hi
theorem dcaps_args {h : Hp} {r : Nat → Value} : ∀ {cs : List (List DV)} {g : Nat → Option Value} {xs : List Value}, DReps h (cs.map .ip) g → xs.length = cs.length → (∀ i, g i = xs[i]?) → RepArgs h r (cs.map .ip) xs
 | [], _, [], _, _, _ => trivial
 | [], _, _ :: _, _, e, _ => by simp at e
 | _ :: _, _, [], _, e, _ => by simp at e
 | c :: cs, g, x :: xs, k, e, hg => by
  simp only [List.map_cons, DReps] at k
  obtain ⟨⟨y, e1, e2⟩, k⟩ := k
  rw [hg 0] at e1
  simp only [List.getElem?_cons_zero, Option.some.injEq] at e1
  subst e1
  refine ⟨?_, dcaps_args k (by simpa using e) (fun i => by rw [hg (i + 1)]; simp)⟩
  simp only [DRep] at e2
  exact e2
theorem Eff.callD {f : FuncId} {caps : List (List DV)} {c : Operand} {args : Array Operand} {tys : Array TypeId} {res : AV} (hx : ρ c = .p (.c (.fn f (caps.map .ip)))) (hc : Call0 P f (args.toList.map ρ ++ caps.map .ip) res) :
  Eff P ⟨dst, .call ⟨.value c, args, tys⟩, ty, pos, af, gd⟩ d ρ own res [] none [] := by
 intro C h r own' a w K Q hrep hrd hw _ hK
 have e1 := hrep c (by simp [Op.operands, Call.operands])
 rw [hx] at e1
 simp only [AVRep, PRep, DRep] at e1
 obtain ⟨lb, e2, e3, e4⟩ := e1
 unfold Oper.wp
 have hrun : (execOp a.eval ⟨dst, .call ⟨.value c, args, tys⟩, ty, pos, af, gd⟩).run P w = .ok (.enter f (args.map a.eval ++ lb)) w := by
  simp only [execOp, resolve, Sem.run_bind, e2, Deferred.ofValue, Sem.run_pure, Result.andThen_ok, invoke, Array.empty_append]
  exact run_callFunc hc.fn _ w
 rw [hrun]
 refine Calls.mono (hc.go h r w (args.map a.eval ++ lb) ?_ (hw.before fun m hm => absurd rfl hm)) ?_
 ·rw [Array.toList_append, Array.toList_map]
  refine RepArgs.app (repArgs_map _ fun x hx => hrep x (by simp only [Op.operands, Call.operands]; exact Array.mem_append.2 (.inr (Array.mem_toList_iff.1 hx)))) ?_
  exact dcaps_args e4 (by simpa using e3) (fun i => by simp)
 ·rintro e w' ⟨v, h', rfl, hv, hq⟩
  exact hK v h' r w' hq.hg (fun _ _ => rfl) hv (hw.after (fun m hm => absurd rfl hm) hq (fun m => by simp [nown, applySt]) (fun m b hm => absurd rfl hm))
end ops
def IC (z : Int) : DV := .v (.int .i64 z)
def IS (l : List Int) : DV := .sl l.length (l.map IC)
def IB (e : TypeId) (l : List Int) : Blk := ⟨true, 1, e, l.map IC⟩
def spR (c : Int) : List Int := if c = -4 then [1, 5] else if c = 8 then [1, 7] else [1, 3]
def chF (fo fs : FuncId) (c : Int) : DV := if c = -4 ∨ c = 8 ∨ c = -8 then .fn fs [.ip [IS (spR c)]] else .fn fo [.ip [IC c]]
def chC (fo fs : FuncId) (c : Int) : List DV := [IC c, chF fo fs c]
def CS (fo fs : FuncId) (l : List Int) : DV := .sl l.length (l.flatMap (chC fo fs))
def CB (fo fs : FuncId) (e : TypeId) (l : List Int) : Blk := ⟨true, 2, e, l.flatMap (chC fo fs)⟩
section
variable {fo fs : FuncId}
theorem CS_len (l : List Int) : (l.flatMap (chC fo fs)).length = l.length * 2 := by
 induction l with
 | nil => rfl
 | cons x l ih => rw [List.flatMap_cons, List.length_append, ih, List.length_cons]; show 2 + _ = _; omega
theorem CS_drop : ∀ (l : List Int) (i : Nat) (h : i < l.length), (l.flatMap (chC fo fs)).drop (i * 2) = chC fo fs l[i] ++ (l.drop (i + 1)).flatMap (chC fo fs)
 | x :: l, 0, _ => by simp
 | x :: l, i + 1, h => by
  have ih := CS_drop l i (by simpa using h)
  have e : (i + 1) * 2 = i * 2 + 2 := by omega
  rw [e, List.flatMap_cons]
  show (IC x :: chF fo fs x :: l.flatMap (chC fo fs)).drop (i * 2 + 2) = _
  rw [List.drop_succ_cons, List.drop_succ_cons, ih]
  simp
variable {P : Program} {tt : TT} (hT : TTok P tt)
variable {dst : Option Nat} {ty : TypeId} {pos : String} {af : Array Edge} {gd : Option (Nat × Bool)} {d : Nat} {ρ : Operand → AV} {own : Own}
variable {T e : TypeId} {i j : TyI} {x y : Operand}
include hT
theorem op_indexI {k : IntKind} {n : Int} {l : List Int} (ht : tt T = some i) (hs : i.sh = .sl e) (he : tt e = some j) (hj : j.size = 1) (hx : ρ x = .p (.c (IS l))) (hy : ρ y = .p (.c (.v (.int k n)))) (hn : 0 ≤ n ∧ n < l.length) :
  Eff P ⟨dst, .indexAddr T x y, ty, pos, af, gd⟩ d ρ own (.ip (IC (l.getD n.toNat 0) :: (l.drop (n.toNat + 1)).map IC)) [] none [] := by
 have hi : n.toNat < l.length := by omega
 have h := op_index_sl (dst := dst) (ty := ty) (pos := pos) (af := af) (gd := gd) (d := d) (own := own) hT ht hs he hx (l := l.length) (xs := l.map IC) (by rfl) hy hn (by
  intro h0
  have : (l.map IC).length = 0 := by rw [h0]; rfl
  rw [List.length_map] at this; omega)
 rw [hj, Nat.mul_one, List.drop_eq_getElem_cons (by rw [List.length_map]; exact hi), List.getElem_map, ← List.map_drop] at h
 have e1 : l.getD n.toNat 0 = l[n.toNat] := by simp [List.getD, hi]
 rw [e1]; exact h
theorem op_indexC {k : IntKind} {n : Int} {l : List Int} (ht : tt T = some i) (hs : i.sh = .sl e) (he : tt e = some j) (hj : j.size = 2) (hx : ρ x = .p (.c (CS fo fs l))) (hy : ρ y = .p (.c (.v (.int k n)))) (hn : 0 ≤ n ∧ n < l.length) :
  Eff P ⟨dst, .indexAddr T x y, ty, pos, af, gd⟩ d ρ own (.ip (chC fo fs (l.getD n.toNat 0) ++ (l.drop (n.toNat + 1)).flatMap (chC fo fs))) [] none [] := by
 have hi : n.toNat < l.length := by omega
 have h := op_index_sl (dst := dst) (ty := ty) (pos := pos) (af := af) (gd := gd) (d := d) (own := own) hT ht hs he hx (l := l.length) (xs := l.flatMap (chC fo fs)) (by rfl) hy hn (by
  intro h0
  have := CS_len (fo := fo) (fs := fs) l
  rw [h0] at this
  simp at this
  omega)
 rw [hj, CS_drop l n.toNat hi] at h
 have e1 : l.getD n.toNat 0 = l[n.toNat] := by simp [List.getD, hi]
 rw [e1]; exact h
theorem op_appendI {m : Nat} {l : List Int} {z : Int} (ht : tt T = some i) (hs : i.sh = .sl e) (he : tt e = some j) (hj : j.size = 1) (hjb : Nat.ble j.bytes 32 = true) (hx : ρ x = .vec m) (hb : own m = some (IB e l)) (hy : ρ y = .p (.c (.sl 1 [IC z]))) (hfit : l.length ≤ 100000000) (hmd : m ≠ d) :
  Eff P ⟨dst, .call ⟨.builtin .append, #[x, y], #[T, T]⟩, ty, pos, af, gd⟩ d ρ own (.vec d) [(m, none)] (some (IB e (l ++ [z]))) [m] := by
 have hl : (IB e l).cs.length = l.length := by simp [IB]
 have h := op_append (dst := dst) (ty := ty) (pos := pos) (af := af) (gd := gd) hT ht hs he hx hb rfl hj.symm rfl hy (by rfl) (by rw [hj]; rfl) (by rw [hj]; exact hjb) (by rw [hl, hj]; omega) (by rw [hj]; rfl) hmd
 rw [hj] at h
 unfold IB
 rw [List.map_append]
 exact h
theorem op_appendC {m k : Nat} {l c : List Int} (ht : tt T = some i) (hs : i.sh = .sl e) (he : tt e = some j) (hj : j.size = 2) (hjb : Nat.ble j.bytes 64 = true) (hx : ρ x = .vec m) (hb : own m = some (CB fo fs e l)) (hy : ρ y = .p (.c (.sl k (c.flatMap (chC fo fs))))) (hk : k = c.length) (hfit : l.length + c.length ≤ 100000000) (hmd : m ≠ d) :
  Eff P ⟨dst, .call ⟨.builtin .append, #[x, y], #[T, T]⟩, ty, pos, af, gd⟩ d ρ own (.vec d) [(m, none)] (some (CB fo fs e (l ++ c))) [m] := by
 subst hk
 have hl : (CB fo fs e l).cs.length = l.length * 2 := CS_len l
 have h := op_append (dst := dst) (ty := ty) (pos := pos) (af := af) (gd := gd) hT ht hs he hx hb rfl hj.symm rfl hy (by rfl) (by rw [hj]; exact CS_len c) (by rw [hj]; exact hjb) (by rw [hl, hj]; omega) (by rw [hj]; rfl) hmd
 rw [hj] at h
 unfold CB
 rw [List.flatMap_append]
 exact h
end
section
variable {P : Program} {B : Bool} {N np : Nat} {Q : Exit → St → Prop} {s : St} {c : Code}
theorem AWp_freezeI {t m : Nat} {l : List Int} {e : TypeId} (ht : s.regs t = .vec m) (hb : s.own m = some (IB e l)) (h : AWp P B N np c Q ⟨upd s.regs t (.p (.c (IS l))), upd s.own m none⟩) : AWp P B N np c Q s := by
 refine AWp_freeze (n := l.length) ht hb rfl (by simp [IB]) (by show 0 < 1; omega) ?_
 exact h
theorem AWp_freezeC {fo fs : FuncId} {t m : Nat} {l : List Int} {e : TypeId} (ht : s.regs t = .vec m) (hb : s.own m = some (CB fo fs e l)) (h : AWp P B N np c Q ⟨upd s.regs t (.p (.c (CS fo fs l))), upd s.own m none⟩) : AWp P B N np c Q s := by
 refine AWp_freeze (n := l.length) ht hb rfl (CS_len l).symm (by show 0 < 2; omega) ?_
 exact h
end
end Go.AM
end
section
namespace Go.AM
open Go Go.RowKit
def rmv (p : Int) : Nat → Int → Int
 | 0, n => n
 | f + 1, n => if n % p = 0 then rmv p f (n / p) else n
def rmp (n p : Int) : Int := rmv p n.toNat n
theorem div_ltp {n p : Int} (hn : 0 < n) (hp : 2 ≤ p) (h : n % p = 0) : 0 < n / p ∧ n / p < n := by
 have h1 := Int.mul_ediv_add_emod n p
 rw [h, Int.add_zero] at h1
 have h2 : 0 < n / p := by
  rcases Int.lt_or_le 0 (n / p) with g | g
  ·exact g
  ·have : p * (n / p) ≤ p * 0 := Int.mul_le_mul_of_nonneg_left g (by omega)
   omega
 refine ⟨h2, ?_⟩
 have h3 : 2 * (n / p) ≤ p * (n / p) := Int.mul_le_mul_of_nonneg_right hp (by omega)
 omega
theorem rmv_fuel {p : Int} (hp : 2 ≤ p) : ∀ (f g : Nat) (n : Int), 0 < n → n.toNat ≤ f → n.toNat ≤ g → rmv p f n = rmv p g n
 | 0, _, n, h, h1, _ => by omega
 | f + 1, 0, n, h, _, h2 => by omega
 | f + 1, g + 1, n, h, h1, h2 => by
  unfold rmv
  split
  ·next e =>
   have hd := div_ltp h hp e
   exact rmv_fuel hp f g (n / p) hd.1 (by omega) (by omega)
  ·rfl
theorem rmp_yes {n p : Int} (hp : 2 ≤ p) (hn : 0 < n) (h : n % p = 0) : rmp (n / p) p = rmp n p := by
 have hd := div_ltp hn hp h
 unfold rmp
 obtain ⟨k, hk⟩ : ∃ k, n.toNat = k + 1 := ⟨n.toNat - 1, by omega⟩
 rw [hk]
 show _ = (if n % p = 0 then rmv p k (n / p) else n)
 rw [if_pos h]
 exact rmv_fuel hp _ _ _ hd.1 (Nat.le_refl _) (by omega)
theorem rmp_no {n p : Int} (h : n % p ≠ 0) : rmp n p = n := by
 unfold rmp
 cases n.toNat with
 | zero => rfl
 | succ k => unfold rmv; rw [if_neg h]
theorem rmp_pos {p : Int} (hp : 2 ≤ p) : ∀ (f : Nat) (n : Int), n.toNat ≤ f → 0 < n → 0 < rmp n p ∧ rmp n p ≤ n ∧ rmp n p % p ≠ 0 ∧ ∃ k : Nat, n = rmp n p * p ^ k
 | 0, n, h, h0 => by omega
 | f + 1, n, h, h0 => by
  by_cases e : n % p = 0
  ·have hd := div_ltp h0 hp e
   obtain ⟨h1, h2, h3, k, h4⟩ := rmp_pos hp f (n / p) (by omega) hd.1
   rw [rmp_yes hp h0 e] at h1 h2 h3 h4
   refine ⟨h1, by omega, h3, k + 1, ?_⟩
   have h5 := Int.mul_ediv_add_emod n p
   rw [e, Int.add_zero, h4] at h5
   rw [← h5, Int.pow_succ]
   grind
  ·rw [rmp_no e]
   exact ⟨h0, Int.le_refl _, e, 0, by simp⟩
def gGo : Nat → Int → Int → List Int
 | 0, _, _ => []
 | f + 1, p, n => if p * p ≤ n then (if n % p = 0 then p :: gGo f (p + 2) (rmp n p) else gGo f (p + 2) n) else if 1 < n then [n] else []
def oddC (n : Int) : List Int := gGo 1200 3 n
def spC (d : Int) : List Int := if d % 4 ≠ 0 then [] else
 if (-d / 4) % 8 = 0 then [-4, 8] else if (-d / 4) % 8 = 1 ∨ (-d / 4) % 8 = 4 ∨ (-d / 4) % 8 = 5 then [-4] else if (-d / 4) % 8 = 2 then [-8] else if (-d / 4) % 8 = 6 then [8] else []
def chs (d : Int) : List Int := oddC (rmp (-d) 2) ++ spC d
theorem gGo_small {f : Nat} {p n : Int} (hn : n ≤ 1) (hp : 2 ≤ p) : gGo f p n = [] := by
 cases f with
 | zero => rfl
 | succ f =>
  unfold gGo
  have : ¬ p * p ≤ n := fun h => by
   have := Int.mul_le_mul hp hp (by omega) (by omega)
   omega
  rw [if_neg this, if_neg (by omega)]
structure OcI (n0 n p : Int) (out : List Int) : Prop where
 n1 : 1 ≤ n
 p3 : 3 ≤ p
 nb : n ≤ 4194304
 nn : n % 2 = 1
 po : p % 2 = 1
 pb : 1 < n → p ≤ 2051
 eq : ∃ f : Nat, (1 < n → (f : Int) = 1200 - (p - 3) / 2) ∧ out ++ gGo f p n = oddC n0
 len : out.length ≤ 1200 ∧ (1 < n → (out.length : Int) ≤ (p - 3) / 2)
theorem OcI.start {n : Int} (h1 : 1 ≤ n) (hb : n ≤ 4194304) (ho : n % 2 = 1) : OcI n n 3 [] :=
 ⟨h1, by omega, hb, ho, by omega, fun _ => by omega, ⟨1200, fun _ => by omega, rfl⟩, by simp, fun _ => by simp⟩
section
variable {n0 n p : Int} {out : List Int}
theorem OcI.fin (i : OcI n0 n p out) (h : ¬ n > 1) : out = oddC n0 := by
 obtain ⟨f, _, e⟩ := i.eq
 rw [gGo_small (by omega) (by have := i.p3; omega), List.append_nil] at e
 exact e
theorem OcI.sq (i : OcI n0 n p out) (hn : n > 1) (h : p * p ≤ n) : p ≤ 2048 := by
 have := i.nb
 rcases Int.lt_or_le 2048 p with g | g
 ·have := Int.mul_le_mul g g (by omega) (by omega)
  omega
 ·exact g
theorem OcI.f1 (i : OcI n0 n p out) (hn : n > 1) : ∃ f : Nat, ((f : Int) + 1 = 1200 - (p - 3) / 2) ∧ out ++ gGo (f + 1) p n = oddC n0 := by
 obtain ⟨f, h1, e⟩ := i.eq
 have h2 := h1 hn
 have hp := i.pb hn
 cases f with
 | zero => omega
 | succ f => exact ⟨f, by omega, e⟩
theorem OcI.next (i : OcI n0 n p out) (hn : n > 1) (h : ¬ p * p > n) (hd : n % p ≠ 0) : OcI n0 n (p + 2) out := by
 have h' : p * p ≤ n := by omega
 have hs := i.sq hn h'
 obtain ⟨f, h1, e⟩ := i.f1 hn
 unfold gGo at e
 rw [if_pos h', if_neg hd] at e
 have hl := i.len
 have p3 := i.p3
 have hl2 := hl.2 hn
 exact ⟨i.n1, by omega, i.nb, i.nn, by have := i.po; omega, fun _ => by omega, ⟨f, fun _ => by omega, e⟩, hl.1, fun _ => by omega⟩
theorem rmp_odd {n p : Int} (hp : 3 ≤ p) (hn : 0 < n) (ho : n % 2 = 1) : rmp n p % 2 = 1 := by
 obtain ⟨h1, h2, h3, k, h4⟩ := rmp_pos (p := p) (by omega) n.toNat n (Nat.le_refl _) hn
 rcases (show rmp n p % 2 = 0 ∨ rmp n p % 2 = 1 by omega) with g | g
 ·have : n % 2 = 0 := by rw [h4, Int.mul_emod, g]; simp
  omega
 ·exact g
theorem OcI.take (i : OcI n0 n p out) (hn : n > 1) (h : ¬ p * p > n) (hd : n % p = 0) : OcI n0 (rmp n p) (p + 2) (out ++ [p]) := by
 have h' : p * p ≤ n := by omega
 have hs := i.sq hn h'
 obtain ⟨f, h1, e⟩ := i.f1 hn
 unfold gGo at e
 rw [if_pos h', if_pos hd] at e
 have hl := i.len
 have p3 := i.p3
 have hl2 := hl.2 hn
 obtain ⟨r1, r2, r3, _⟩ := rmp_pos (p := p) (by omega) n.toNat n (Nat.le_refl _) (by omega)
 have nb := i.nb
 refine ⟨by omega, by omega, by omega, rmp_odd p3 (by omega) i.nn, by have := i.po; omega, fun _ => by omega, ⟨f, fun _ => by omega, ?_⟩, ?_, fun _ => ?_⟩
 ·rw [List.append_assoc]; exact e
 ·rw [List.length_append, List.length_singleton]; omega
 ·rw [List.length_append, List.length_singleton]; omega
theorem OcI.last (i : OcI n0 n p out) (hn : n > 1) (h : p * p > n) : OcI n0 1 (n + 2) (out ++ [n]) := by
 obtain ⟨f, h1, e⟩ := i.f1 hn
 unfold gGo at e
 rw [if_neg (by omega), if_pos hn] at e
 have hl := i.len
 have hl2 := hl.2 hn
 have hp := i.pb hn
 refine ⟨by omega, by omega, by omega, by omega, by have := i.nn; omega, fun x => by omega, ⟨0, fun x => by omega, ?_⟩, ?_, fun x => by omega⟩
 ·show out ++ [n] ++ [] = _
  rw [List.append_nil]; exact e
 ·rw [List.length_append, List.length_singleton]; omega
end
theorem rmp_self {n : Int} (hn : 1 < n) : rmp n n = 1 := by
 have e : n % n = 0 := Int.emod_self
 have h := rmp_yes (p := n) (by omega) (by omega) e
 rw [Int.ediv_self (by omega)] at h
 rw [← h]
 exact rmp_no (by rw [Int.emod_eq_of_lt (by omega) hn]; omega)
theorem oddC_len (n : Int) : (oddC n).length ≤ 1200 := by
 have key : ∀ (f : Nat) (p n : Int), (gGo f p n).length ≤ f := by
  intro f
  induction f with
  | zero => intro p n; exact Nat.le_refl _
  | succ f ih =>
   intro p n
   unfold gGo
   split
   ·split
    ·rw [List.length_cons]; have := ih (p + 2) (rmp n p); omega
    ·have := ih (p + 2) n; omega
   ·split
    ·simp
    ·simp
 exact key _ _ _
end Go.AM
end
section
namespace Go.AM
open Go Go.RowKit
def sgB (b : Bool) : Int := if b then 1 else -1
def ixV (l : List Int) (x : Int) : Int := if l.findIdx (· == x) < l.length then (l.findIdx (· == x) : Nat) else -1
def hasI (l : List Int) (x : Int) : Bool := decide (0 ≤ ixV l x)
theorem findIdx_gt {l : List Int} {x : Int} {k : Nat} (h : k ≤ l.findIdx (· == x)) (hk : (k : Int) < l.length) (hne : x ≠ l.getD k 0) : k + 1 ≤ l.findIdx (· == x) := by
 rcases Nat.lt_or_eq_of_le h with g | g
 ·exact g
 ·exfalso
  have h1 : l.findIdx (· == x) < l.length := by omega
  have h2 := List.findIdx_getElem (w := h1)
  simp only [beq_iff_eq] at h2
  apply hne
  rw [← h2]
  simp [List.getD, ← g, show k < l.length by omega]
theorem ix_yes {l : List Int} {x : Int} {k : Nat} (h : k ≤ l.findIdx (· == x)) (hk : (k : Int) < l.length) (he : x = l.getD k 0) : ixV l x = (k : Int) := by
 have hk' : k < l.length := by omega
 have hp : l[k] = x := by rw [he]; simp [List.getD, hk']
 have h1 : l.findIdx (· == x) ≤ k := by
  rcases Nat.lt_or_ge k (l.findIdx (· == x)) with g | g
  ·have := List.not_of_lt_findIdx g
   simp [hp] at this
  ·exact g
 have e : l.findIdx (· == x) = k := by omega
 unfold ixV
 rw [e, if_pos hk']
theorem ix_end {l : List Int} {x : Int} {k : Nat} (h : k ≤ l.findIdx (· == x)) (hk : ¬ (k : Int) < l.length) : ixV l x = -1 := by
 unfold ixV
 rw [if_neg (by omega)]
theorem hasI_iff {l : List Int} {x : Int} : hasI l x = true ↔ x ∈ l := by
 unfold hasI ixV
 rw [decide_eq_true_iff]
 have := List.findIdx_lt_length (p := fun y => y == x) (xs := l)
 constructor
 ·intro h
  split at h
  ·next g =>
   obtain ⟨y, hy, e⟩ := this.1 g
   simp only [beq_iff_eq] at e
   exact e ▸ hy
  ·omega
 ·intro h
  rw [if_pos (this.2 ⟨x, h, by simp⟩)]
  omega
def cv (c n : Int) : Int := if c = -4 ∨ c = 8 ∨ c = -8 then sgB (hasI (spR c) (n % 8)) else kr n c
theorem cv_sp {c n : Int} (h : c = -4 ∨ c = 8 ∨ c = -8) : sgB (hasI (spR c) (n % 8)) = cv c n := by unfold cv; rw [if_pos h]
theorem cv_odd {c n : Int} (h : ¬ (c = -4 ∨ c = 8 ∨ c = -8)) : kr n c = cv c n := by unfold cv; rw [if_neg h]
theorem sgB_t {b : Bool} (h : b = true) : (1 : Int) = sgB b := by rw [h]; rfl
theorem sgB_f {b : Bool} (h : b = false) : (-1 : Int) = sgB b := by rw [h]; rfl
theorem odd_chC {fo fs : FuncId} {p : Int} (h : 3 ≤ p) (ho : p % 2 = 1) : [IC p, DV.fn fo [.ip [IC p]]] = chC fo fs p := by
 unfold chC chF
 rw [if_neg (by omega)]
theorem gcdT (a b : Int) : Int.gcd b (a.tmod b) = Int.gcd a b := by
 have h1 : (a.tmod b).natAbs = a.natAbs % b.natAbs := Int.natAbs_tmod a b
 unfold Int.gcd
 rw [h1, Nat.gcd_comm b.natAbs, ← Nat.gcd_rec, Nat.gcd_comm]
def ocM (n p : Int) : Nat := if 1 < n then (5000 - p).toNat else 0
def RI (n p q : Int) (out out' : List Int) : Prop := (q = n ∧ p * p > n ∧ out' = out ++ [n]) ∨ (q = p ∧ ¬ p * p > n ∧ n % p = 0 ∧ out' = out ++ [p]) ∨ (q = p ∧ ¬ p * p > n ∧ n % p ≠ 0 ∧ out' = out)
def QI (n p q : Int) : Prop := (q = n ∧ p * p > n) ∨ (q = p ∧ ¬ p * p > n)
section
variable {n0 n p q : Int} {out out' : List Int}
theorem OcI.q3 (i : OcI n0 n p out) (hn : n > 1) (h : QI n p q) : 3 ≤ q ∧ q % 2 = 1 ∧ q ≤ 4194304 := by
 have h1 := i.nn; have h2 := i.po; have h3 := i.p3; have h4 := i.nb; have h5 := i.pb hn
 rcases h with ⟨rfl, _⟩ | ⟨rfl, _⟩
 ·omega
 ·omega
theorem QI.yes (h : QI n p q) (hd : n % q = 0) : RI n p q out (out ++ [q]) := by
 rcases h with ⟨rfl, g⟩ | ⟨rfl, g⟩
 ·exact .inl ⟨rfl, g, rfl⟩
 ·exact .inr (.inl ⟨rfl, g, hd, rfl⟩)
theorem QI.no (h : QI n p q) (hn : n > 1) (hd : n % q ≠ 0) : RI n p q out out := by
 rcases h with ⟨rfl, g⟩ | ⟨rfl, g⟩
 ·exact absurd Int.emod_self hd
 ·exact .inr (.inr ⟨rfl, g, hd, rfl⟩)
theorem OcI.close (i : OcI n0 n p out) (hn : n > 1) (h : RI n p q out out') : OcI n0 (rmp n q) (q + 2) out' ∧ ocM (rmp n q) (q + 2) < ocM n p := by
 have hp := i.pb hn
 have e1 : ocM n p = (5000 - p).toNat := by unfold ocM; rw [if_pos (by omega)]
 rcases h with ⟨rfl, g, rfl⟩ | ⟨rfl, g, hd, rfl⟩ | ⟨rfl, g, hd, rfl⟩
 ·rw [rmp_self (by omega)]
  refine ⟨i.last hn g, ?_⟩
  rw [e1]; unfold ocM; rw [if_neg (by omega)]; omega
 ·refine ⟨i.take hn g hd, ?_⟩
  rw [e1]; unfold ocM; split <;> omega
 ·rw [rmp_no hd]
  refine ⟨i.next hn g hd, ?_⟩
  rw [e1]; unfold ocM; rw [if_pos (by omega)]; omega
end
theorem spC_n {d : Int} (h : d.tmod 4 ≠ 0) : spC d = [] := by
 unfold spC
 rw [if_pos]
 intro e
 exact h (by rw [Int.tmod_eq_emod]; split <;> omega)
theorem spC_z {d : Int} (h : d.tmod 4 = 0) : ¬ d % 4 ≠ 0 := fun e => by
 have := Int.mul_tdiv_add_tmod d 4
 omega
theorem chs_n {d : Int} (h : d.tmod 4 ≠ 0) : oddC (rmp (-d) 2) = chs d := by unfold chs; rw [spC_n h, List.append_nil]
theorem chs_y {d : Int} {l : List Int} (_h : d.tmod 4 = 0) (e : l = spC d) : oddC (rmp (-d) 2) ++ l = chs d := by unfold chs; rw [e]
section
variable {d : Int} (h : d.tmod 4 = 0)
include h
theorem spC_0 (h1 : -d / 4 % 8 = 0) : [-4, 8] = spC d := by unfold spC; rw [if_neg (spC_z h), if_pos h1]
theorem spC_1 (h0 : ¬ -d / 4 % 8 = 0) (h1 : -d / 4 % 8 = 1 ∨ -d / 4 % 8 = 4 ∨ -d / 4 % 8 = 5) : [-4] = spC d := by unfold spC; rw [if_neg (spC_z h), if_neg h0, if_pos h1]
theorem spC_2 (h1 : -d / 4 % 8 = 2) : [-8] = spC d := by unfold spC; rw [if_neg (spC_z h), if_neg (by omega), if_neg (by omega), if_pos h1]
theorem spC_6 (h1 : -d / 4 % 8 = 6) : [8] = spC d := by unfold spC; rw [if_neg (spC_z h), if_neg (by omega), if_neg (by omega), if_neg (by omega), if_pos h1]
theorem spC_e (h0 : ¬ -d / 4 % 8 = 0) (h1 : ¬ -d / 4 % 8 = 1) (h4 : ¬ -d / 4 % 8 = 4) (h5 : ¬ -d / 4 % 8 = 5) (h2 : ¬ -d / 4 % 8 = 2) (h6 : ¬ -d / 4 % 8 = 6) : oddC (rmp (-d) 2) = chs d := by
 have : spC d = [] := by
  unfold spC; rw [if_neg (spC_z h), if_neg h0, if_neg (by omega), if_neg h2, if_neg h6]
 unfold chs; rw [this, List.append_nil]
end
end Go.AM
end
section
namespace Go.AM
open Go Go.RowKit
theorem rmp_le3 {n p : Int} (hp : 3 ≤ p) (hn : 0 < n) (h : n % p = 0) : 3 * rmp n p ≤ n := by
 have hd := div_ltp hn (by omega) h
 obtain ⟨h1, h2, _, _⟩ := rmp_pos (p := p) (by omega) (n / p).toNat (n / p) (Nat.le_refl _) hd.1
 rw [rmp_yes (by omega) hn h] at h1 h2
 have h3 := Int.mul_ediv_add_emod n p
 rw [h, Int.add_zero] at h3
 have h4 : 3 * (n / p) ≤ p * (n / p) := Int.mul_le_mul_of_nonneg_right hp (by omega)
 omega
theorem gGo_3 : ∀ (f : Nat) (p n : Int), 3 ≤ p → 1 ≤ n → n % 2 = 1 → (3 : Int) ^ (gGo f p n).length ≤ n
 | 0, p, n, _, hn, _ => by simpa [gGo] using hn
 | f + 1, p, n, hp, hn, ho => by
  unfold gGo
  split
  ·split
   ·next h =>
    obtain ⟨r1, _, _, _⟩ := rmp_pos (p := p) (by omega) n.toNat n (Nat.le_refl _) (by omega)
    have ih := gGo_3 f (p + 2) (rmp n p) (by omega) (by omega) (rmp_odd hp (by omega) ho)
    have h3 := rmp_le3 hp (by omega) h
    rw [List.length_cons, Int.pow_succ]
    omega
   ·exact gGo_3 f (p + 2) n (by omega) hn ho
  ·split
   ·show (3 : Int) ^ 1 ≤ n; omega
   ·show (3 : Int) ^ 0 ≤ n; omega
theorem rmp2 {n : Int} (h : 0 < n) : 0 < rmp n 2 ∧ rmp n 2 ≤ n ∧ rmp n 2 % 2 = 1 := by
 obtain ⟨h1, h2, h3, _⟩ := rmp_pos (p := 2) (by omega) n.toNat n (Nat.le_refl _) h
 exact ⟨h1, h2, by omega⟩
theorem chs_len {d : Int} (h0 : d < 0) (h1 : -4194304 ≤ d) : (chs d).length ≤ 16 := by
 obtain ⟨r1, r2, r3⟩ := rmp2 (n := -d) (by omega)
 have h3 := gGo_3 1200 3 (rmp (-d) 2) (by omega) (by omega) r3
 have hl : (oddC (rmp (-d) 2)).length ≤ 14 := by
  have e : (oddC (rmp (-d) 2)) = gGo 1200 3 (rmp (-d) 2) := rfl
  rw [e]
  rcases Nat.lt_or_ge 14 (gGo 1200 3 (rmp (-d) 2)).length with g | g
  ·have h4 : (3 : Nat) ^ 15 ≤ 3 ^ (gGo 1200 3 (rmp (-d) 2)).length := Nat.pow_le_pow_right (by omega) g
   have h5 : ((3 ^ (gGo 1200 3 (rmp (-d) 2)).length : Nat) : Int) ≤ rmp (-d) 2 := by rw [Int.natCast_pow]; exact h3
   omega
  ·exact g
 have hs : (spC d).length ≤ 2 := by
  unfold spC
  split
  ·simp
  ·split
   ·simp
   ·split
    ·simp
    ·split
     ·simp
     ·split <;> simp
 unfold chs
 rw [List.length_append]; omega
def gnV (d : Int) : Int := if szE d = 0 then d else 0
theorem gn_5 {d : Int} (h : 0 ≤ d ∨ d % 4 > 1) : AV.t [PE 0, PE 5] = .t [PE (gnV d), PE (szE d)] := by
 have e : szE d = 5 := by unfold szE; rw [if_pos h]
 unfold gnV; rw [e]; rfl
theorem gn_2 {d : Int} (h : ¬ (0 ≤ d ∨ d % 4 > 1)) (h1 : -d > 4194304) : AV.t [PE 0, PE 2] = .t [PE (gnV d), PE (szE d)] := by
 have e : szE d = 2 := by unfold szE; rw [if_neg h, if_pos h1]
 unfold gnV; rw [e]; rfl
theorem gn_0 {d : Int} (h : ¬ (0 ≤ d ∨ d % 4 > 1)) (h1 : ¬ -d > 4194304) : AV.t [PE d, PE 0] = .t [PE (gnV d), PE (szE d)] := by
 have e : szE d = 0 := by unfold szE; rw [if_neg h, if_neg h1]
 unfold gnV; rw [e]; rfl
theorem gnV_0 {d : Int} (h : szE d = 0) : gnV d = d ∧ d < 0 ∧ -4194304 ≤ d := by
 have := szE_0 h
 exact ⟨by unfold gnV; rw [if_pos h], by omega, by omega⟩
def chE (d : Int) : List Int := if szE d = 0 then chs d else []
theorem chE_0 {d : Int} (h : szE d = 0) : chE d = chs d := by unfold chE; rw [if_pos h]
theorem chE_e {d : Int} (h : ¬ szE d = 0) : chE d = [] := by unfold chE; rw [if_neg h]
theorem take_snoc {l : List Int} {k : Nat} (h : (k : Int) < l.length) : l.take k ++ [l.getD k 0] = l.take (k + 1) := by
 have hk : k < l.length := by omega
 rw [List.take_add_one, List.getElem?_eq_getElem hk]
 simp [List.getD, hk]
theorem take_all {l : List Int} {k : Nat} (h : ¬ (k : Int) < l.length) : l.take k = l := List.take_of_length_le (by omega)
def gnN (d : Int) : Int := if szE d = 0 then 2 ^ ((chs d).length - 1) else 0
theorem gnN_e {d : Int} (h : ¬ szE d = 0) : AV.t [PE 0, PE (szE d)] = .t [PE (gnN d), PE (szE d)] := by unfold gnN; rw [if_neg h]
theorem gnN_0 {d : Int} (h : szE d = 0) : AV.t [PE (2 ^ ((chs d).length - 1)), PE 0] = .t [PE (gnN d), PE (szE d)] := by unfold gnN; rw [if_pos h, h]
theorem shl_1 {l : Nat} (h : l ≤ 16) : (.i64 : IntKind).wrap (1 * 2 ^ (min (if (l : Int) - 1 > 0 then (l : Int) - 1 else (0 : Int)).toNat (IntKind.i64.bits))) = 2 ^ (l - 1) := by
 have key : ∀ k : Fin 17, (.i64 : IntKind).wrap (1 * 2 ^ (min (if ((k.val : Nat) : Int) - 1 > 0 then ((k.val : Nat) : Int) - 1 else (0 : Int)).toNat (IntKind.i64.bits))) = 2 ^ (k.val - 1) := by decide +kernel
 exact key ⟨l, by omega⟩
end Go.AM
end
section
namespace Go.AM
open Go Go.RowKit
def ggV : Nat → Int → Int → Int
 | 0, a, _ => a
 | f + 1, a, b => if b = 0 then a else ggV f b (a.tmod b)
def gg (a b : Int) : Int := ggV (b.natAbs + 1) a b
theorem ggV_abs : ∀ (f : Nat) (a b : Int), b.natAbs < f → (ggV f a b).natAbs = Int.gcd a b
 | 0, _, _, h => by omega
 | f + 1, a, b, h => by
  unfold ggV
  split
  ·next e => subst e; simp
  ·next e =>
   have h1 : (a.tmod b).natAbs = a.natAbs % b.natAbs := Int.natAbs_tmod a b
   have h2 : a.natAbs % b.natAbs < b.natAbs := Nat.mod_lt _ (by omega)
   rw [ggV_abs f b (a.tmod b) (by omega), gcdT]
theorem ggV_fuel : ∀ (f g : Nat) (a b : Int), b.natAbs < f → b.natAbs < g → ggV f a b = ggV g a b
 | 0, _, _, _, h, _ => by omega
 | _ + 1, 0, _, _, _, h => by omega
 | f + 1, g + 1, a, b, h, h' => by
  unfold ggV
  split
  ·rfl
  ·next e =>
   have h1 : (a.tmod b).natAbs = a.natAbs % b.natAbs := Int.natAbs_tmod a b
   have h2 : a.natAbs % b.natAbs < b.natAbs := Nat.mod_lt _ (by omega)
   exact ggV_fuel f g b (a.tmod b) (by omega) (by omega)
theorem gg_abs (a b : Int) : (gg a b).natAbs = Int.gcd a b := ggV_abs _ a b (by omega)
theorem gg_z {a b : Int} (h : b = 0) : gg a b = a := by unfold gg ggV; rw [if_pos h]
theorem gg_step {a b : Int} (h : b ≠ 0) : gg b (a.tmod b) = gg a b := by
 have h1 : (a.tmod b).natAbs = a.natAbs % b.natAbs := Int.natAbs_tmod a b
 have h2 : a.natAbs % b.natAbs < b.natAbs := Nat.mod_lt _ (by omega)
 unfold gg
 rw [ggV_fuel _ b.natAbs b (a.tmod b) (by omega) (by omega)]
 show _ = (if b = 0 then a else ggV b.natAbs b (a.tmod b))
 rw [if_neg h]
theorem gg_one {a b : Int} : Int.gcd a b = 1 ↔ gg a b = 1 ∨ gg a b = -1 := by have := gg_abs a b; omega
theorem tmod_I {a b : Int} (_ha : InI64 a) (hb : InI64 b) (h : b ≠ 0) : InI64 (a.tmod b) ∧ (a.tmod b).natAbs < b.natAbs := by
 have h1 : (a.tmod b).natAbs = a.natAbs % b.natAbs := Int.natAbs_tmod a b
 have h2 : a.natAbs % b.natAbs < b.natAbs := Nat.mod_lt _ (by omega)
 unfold InI64 at *
 omega
def gpE (f : Fm) : Int := if ck f.a f.b f.c ≠ 0 then ck f.a f.b f.c else if szE (dsc f.a f.b f.c) ≠ 0 then szE (dsc f.a f.b f.c) else if prim f.a f.b f.c = true then 0 else 80
theorem gpE_cl {f : Fm} (h : gpE f = 0) : Cl (dsc f.a f.b f.c) f ∧ szE (dsc f.a f.b f.c) = 0 := by
 unfold gpE at h
 split at h
 ·next g => exact absurd h g
 ·next g1 =>
  split at h
  ·next g => exact absurd h g
  ·next g2 =>
   split at h
   ·next g3 =>
    have e1 : ck f.a f.b f.c = 0 := Classical.not_not.1 g1
    have e2 : szE (dsc f.a f.b f.c) = 0 := Classical.not_not.1 g2
    refine ⟨rfE_cl ?_, e2⟩
    unfold rfE
    have := (szE_0 e2)
    rw [if_neg (fun x => x e1), if_neg (by omega), if_pos g3]
   ·cases h
def gpV (f : Fm) : Int := if gpE f = 0 then dsc f.a f.b f.c else 0
theorem cl_gpE {d : Int} {f : Fm} (h : Cl d f) (_hd : -4194304 ≤ d) (hE : szE d = 0) : gpE f = 0 := by
 have h1 := cl_rfE h
 unfold rfE at h1
 unfold gpE
 rw [h.disc, hE]
 split at h1
 ·next g => exact absurd h1 g
 ·next g => rw [if_neg g, if_neg (by simp), if_pos h.prim]
theorem gb {a b c x y : Int} (ha : 0 ≤ a ∧ a ≤ 2000) (hb : -2000 ≤ b ∧ b ≤ 2000) (hc : 0 ≤ c ∧ c ≤ 1400000) (hx : 0 ≤ x ∧ x ≤ 1400001) (hy : 0 ≤ y ∧ y ≤ 1400001) :
  (0 ≤ a * x ∧ a * x ≤ 2800002000) ∧ (0 ≤ a * x * x ∧ a * x * x ≤ 3920005600002000) ∧ (-2800002000 ≤ b * x ∧ b * x ≤ 2800002000) ∧ (-3920005600002000 ≤ b * x * y ∧ b * x * y ≤ 3920005600002000) ∧ (0 ≤ c * y ∧ c * y ≤ 1960001400000) ∧ (0 ≤ c * y * y ∧ c * y * y ≤ 2744003920001400000) := by
 have m1 : ∀ {u v A B : Int}, 0 ≤ u → u ≤ A → 0 ≤ v → v ≤ B → 0 ≤ u * v ∧ u * v ≤ A * B := fun h1 h2 h3 h4 => ⟨Int.mul_nonneg h1 h3, Int.mul_le_mul h2 h4 h3 (by omega)⟩
 have a1 := m1 ha.1 ha.2 hx.1 hx.2
 have a2 := m1 a1.1 a1.2 hx.1 hx.2
 have c1 := m1 hc.1 hc.2 hy.1 hy.2
 have c2 := m1 c1.1 c1.2 hy.1 hy.2
 have nb : ∀ {u v A B : Int}, -A ≤ u → u ≤ A → 0 ≤ v → v ≤ B → 0 ≤ A → -(A * B) ≤ u * v ∧ u * v ≤ A * B := fun {u v A B} h1 h2 h3 h4 h5 => by
  rcases Int.lt_or_le u 0 with g | g
  ·have := m1 (show 0 ≤ -u by omega) (show -u ≤ A by omega) h3 h4
   rw [Int.neg_mul] at this
   have := Int.mul_nonneg h5 (show 0 ≤ B by omega)
   omega
  ·have := m1 g h2 h3 h4
   have := Int.mul_nonneg h5 (show 0 ≤ B by omega)
   omega
 have b1 := nb (u := b) (v := x) (A := 2000) (B := 1400001) (by omega) hb.2 hx.1 hx.2 (by omega)
 have b2 := nb (u := b * x) (v := y) (A := 2800002000) (B := 1400001) (by omega) (by omega) hy.1 hy.2 (by omega)
 refine ⟨by omega, by omega, by omega, by omega, by omega, by omega⟩
theorem rd_small {d : Int} {g : Fm} (hg : Cl d g) (e : g.rd = g) (hd : -4194304 ≤ d) : (0 < g.a ∧ g.a ≤ 2000) ∧ (-2000 ≤ g.b ∧ g.b ≤ 2000) ∧ 0 < g.c ∧ g.c ≤ 1400000 := by
 have hr : Rd g := e ▸ hg.rd_Rd
 have h1 := hr.a; have h2 := hr.b; have h3 := hr.c
 have hdd : g.b * g.b - 4 * g.a * g.c = d := hg.disc
 rw [Int.mul_assoc] at hdd
 have hb : g.b * g.b ≤ g.a * g.a := sq_le_of_abs (by omega)
 have hac : g.a * g.a ≤ g.a * g.c := Int.mul_le_mul_of_nonneg_left h3 (by omega)
 have ha : g.a ≤ 2000 := by
  rcases Int.lt_or_le 2000 g.a with g0 | g0
  ·have := Int.mul_le_mul g0 g0 (by omega) (by omega); omega
  ·exact g0
 have hc1 : 1 * g.c ≤ g.a * g.c := Int.mul_le_mul_of_nonneg_right (by omega) (by omega)
 exact ⟨⟨h1, ha⟩, by omega, by omega, by omega⟩
def NoP (g : Fm) (d : Int) (y : Int) : Prop := ∀ u v : Int, 0 ≤ u → 0 ≤ v → u < y → v < y → Int.gcd (vl g.a g.b g.c u v) (2 * d) ≠ 1
def NoX (g : Fm) (d : Int) (y x : Int) : Prop := ∀ u : Int, 0 ≤ u → u < x → Int.gcd (vl g.a g.b g.c u y) (2 * d) ≠ 1 ∧ Int.gcd (vl g.a g.b g.c y u) (2 * d) ≠ 1
def RpN (g : Fm) (N : Int) : Prop := ∃ u v : Int, N = vl g.a g.b g.c u v
theorem NoP.start {g : Fm} {d : Int} (hd : d < 0) : NoP g d 1 := fun u v h1 h2 h3 h4 => by
 have e1 : u = 0 := by omega
 have e2 : v = 0 := by omega
 subst e1 e2
 have : vl g.a g.b g.c 0 0 = 0 := by unfold vl; simp
 rw [this]
 show Nat.gcd 0 (2 * d).natAbs ≠ 1
 rw [Nat.gcd_zero_left]; omega
theorem NoX.start {g : Fm} {d y : Int} : NoX g d y 0 := fun u h1 h2 => by omega
theorem NoX.next {g : Fm} {d y x : Int} (h : NoX g d y x) (h1 : Int.gcd (vl g.a g.b g.c x y) (2 * d) ≠ 1) (h2 : Int.gcd (vl g.a g.b g.c y x) (2 * d) ≠ 1) : NoX g d y (x + 1) := fun u g1 g2 => by
 rcases Int.lt_or_eq_of_le (show u ≤ x by omega) with q | q
 ·exact h u g1 q
 ·rw [q]; exact ⟨h1, h2⟩
theorem NoP.next {g : Fm} {d y : Int} (h : NoP g d y) (h1 : NoX g d y (y + 1)) : NoP g d (y + 1) := fun u v g1 g2 g3 g4 => by
 rcases Int.lt_or_eq_of_le (show u ≤ y by omega) with q | q
 ·rcases Int.lt_or_eq_of_le (show v ≤ y by omega) with q2 | q2
  ·exact h u v g1 g2 q q2
  ·rw [q2]; exact (h1 u g1 (by omega)).1
 ·rw [q]; exact (h1 v g2 (by omega)).2
theorem NoP.le {g : Fm} {d y : Int} (h : NoP g d y) {B : Int} (hx : ∃ x y : Int, 0 ≤ x ∧ x ≤ B ∧ 0 ≤ y ∧ y ≤ B ∧ Int.gcd (vl g.a g.b g.c x y) (2 * d) = 1) : y ≤ B := by
 obtain ⟨u, v, h1, h2, h3, h4, h5⟩ := hx
 rcases Int.lt_or_le B y with q | q
 ·exact absurd h5 (h u v h1 h3 (by omega) (by omega))
 ·exact q
end Go.AM
end
section
namespace Go.AM
open Go Go.RowKit
section
end
end Go.AM
end
section
namespace Go.AM
open Go Go.RowKit
section
end
end Go.AM
end
section
namespace Go.AM
open Go Go.RowKit
end Go.AM
end
section
namespace Go.AM
open Go Go.RowKit
section ops
end ops
theorem zeroCells_get {z : Array Value} {n i : Nat} (h : i < n * z.size) : (Builtin.zeroCells z n)[i]? = z[i % z.size]? := by
 have hz : 0 < z.size := by
  rcases Nat.eq_zero_or_pos z.size with h0 | h0
  ·rw [h0] at h; omega
  ·exact h0
 have hm : i % z.size < z.size := Nat.mod_lt _ hz
 unfold Builtin.zeroCells
 rw [Array.getElem?_map, Array.getElem?_eq_getElem (by simpa using h), Array.getElem?_eq_getElem hm]
 simp [hm]
theorem run_clear {P : Program} {T e be ty : TypeId} {j : TyI} {w : World} {k off q cap : Nat} {c : Array Value} {h : Hp} (hu : P.underlying T = some (.slice e)) (hj : TyOK P e j) (hk : w.heap[k]? = some (.cells c be (0, 0))) (hb : off + (q + 1) * j.size ≤ c.size) :
  ∃ w' c', (Builtin.clear_ #[T] ty #[.slice (some ⟨k, off, none⟩) (q + 1) cap]).run P w = .ok (.tuple #[]) w' ∧ SameBut k w w' ∧ w'.heap[k]? = some (.cells c' be (0, 0)) ∧ c'.size = c.size ∧ (∀ p, p < off → c'[p]? = c[p]?) ∧
   ∀ p, p < (q + 1) * j.size → ∃ y, c'[off + p]? = some y ∧ DRep h (j.zero.getD (p % j.size) (.v (.bool false))) y := by
 obtain ⟨z, z1, z2, z3, z4⟩ := hj.zero w
 have zr := z4 h
 have hsz : (Builtin.zeroCells z.cells (q + 1)).toList.length = (q + 1) * j.size := by rw [Array.length_toList, size_zeroCells, z2]
 have hget : ∀ p, p < (q + 1) * j.size → ∃ y, (Builtin.zeroCells z.cells (q + 1)).toList[p]? = some y ∧ DRep h (j.zero.getD (p % j.size) (.v (.bool false))) y := fun p hp => by
  have hjz : 0 < j.size := by
   rcases Nat.eq_zero_or_pos j.size with h0 | h0
   ·rw [h0] at hp; omega
   ·exact h0
  have hm : p % j.size < j.zero.length := by rw [z3]; exact Nat.mod_lt _ hjz
  obtain ⟨y, y1, y2⟩ := zr.get (p % j.size) _ (List.getElem?_eq_getElem hm)
  refine ⟨y, ?_, ?_⟩
  ·rw [Array.getElem?_toList, zeroCells_get (by rw [z2]; exact hp), z2]; exact y1
  ·rw [List.getD, List.getElem?_eq_getElem hm]; exact y2
 obtain ⟨w', c', k1, k2, k3, k4, k5⟩ := run_storeCells_block P k be (Builtin.zeroCells z.cells (q + 1)).toList off 0 w c hk (by rw [hsz]; omega) (fun v hv => by
  obtain ⟨p, hp⟩ := List.mem_iff_getElem?.1 hv
  have hlt := (List.getElem?_eq_some_iff.1 hp).1
  rw [hsz] at hlt
  obtain ⟨y, y1, y2⟩ := hget p hlt
  rw [hp] at y1; cases y1
  exact y2.one)
 refine ⟨w', c', ?_, k2, k3, k4, fun p hp => ?_, fun p hp => ?_⟩
 ·simp [Builtin.clear_, run_underlying hu, z1, k1]
 ·rw [k5 p, if_neg (by omega)]
 ·obtain ⟨y, y1, y2⟩ := hget p hp
  refine ⟨y, ?_, y2⟩
  rw [k5, if_pos (by rw [hsz]; omega), ← y1]
  congr 1
  omega
end Go.AM
end
section
namespace Go.AM
open Go Go.RowKit
section ops
end ops
theorem CallM.ren1O {P : Program} {f : FuncId} {args args2 : List AV} {b : Blk} {res : AV} (m : Nat) (hc : CallM P f args (upd O 0 (some b)) res O) (hres : men res = []) (ha : args2 = args.map (renV fun _ => m)) :
  CallM P f args2 (upd O m (some b)) res O := by
 have z : ∀ (b : Blk) (k n : Nat), upd O k (some b) n ≠ none → n = k := fun b k n hn => by
  by_cases e : n = k
  ·exact e
  ·rw [upd_ne _ _ _ _ e] at hn; exact absurd rfl hn
 exact hc.ren (fun _ => m) hres ha (fun p q hp hq _ => by rw [z _ _ _ hp, z _ _ _ hq]) (fun p hp => by rw [z _ _ _ hp]; simp) (fun n hn => ⟨0, by simp, (z _ _ _ hn).symm⟩) (fun _ _ => rfl) (fun n hn => absurd rfl hn)
end Go.AM
end
section
namespace Go.AM
open Go Go.RowKit
end Go.AM
end
section
namespace Go.AM
open Go Go.RowKit
section scope
end scope
end Go.AM
end
section
namespace Go.AM
open Go Go.RowKit
end Go.AM
end
section
namespace Go.AM
open Go Go.RowKit
end Go.AM
end
section
namespace Go.AM
open Go Go.RowKit
end Go.AM
end
section
namespace Go.AM
open Go Go.RowKit
theorem bm {x y : Int} {M N : Nat} (hx : x.natAbs ≤ M) (hy : y.natAbs ≤ N) : (x * y).natAbs ≤ M * N := by rw [Int.natAbs_mul]; exact Nat.mul_le_mul hx hy
theorem turn_17 : ∀ b : Fin 256, ((turnM b.val).a.natAbs ≤ 17 ∧ (turnM b.val).b.natAbs ≤ 17) ∧ (turnM b.val).c.natAbs ≤ 17 ∧ (turnM b.val).d.natAbs ≤ 17 := by decide +kernel
theorem vl_small {a b c x y : Int} (ha : a.natAbs ≤ 25) (hb : b.natAbs ≤ 25) (hc : c.natAbs ≤ 3000) (hx : x.natAbs ≤ 17) (hy : y.natAbs ≤ 17) : (vl a b c x y).natAbs ≤ 881450 := by
 unfold vl
 have h1 := bm (bm ha hx) hx
 have h2 := bm (bm hb hx) hy
 have h3 := bm (bm hc hy) hy
 omega
theorem apB_small {a b c p q r s : Int} (ha : a.natAbs ≤ 25) (hb : b.natAbs ≤ 25) (hc : c.natAbs ≤ 3000) (hp : p.natAbs ≤ 17) (hq : q.natAbs ≤ 17) (hr : r.natAbs ≤ 17) (hs : s.natAbs ≤ 17) : (apB a b c p q r s).natAbs ≤ 1763000 := by
 unfold apB
 have h1 := bm (bm ha hp) hq
 have h2 := bm (bm hc hr) hs
 have h3 := bm hp hs
 have h4 := bm hq hr
 have h5 := bm hb (show (p * s + q * r).natAbs ≤ 578 by omega)
 omega
theorem mkF_small {D i m : Nat} (hm : m < 256) : (mkF D i m).a.natAbs ≤ 1763000 ∧ (mkF D i m).b.natAbs ≤ 1763000 ∧ (mkF D i m).c.natAbs ≤ 1763000 := by
 obtain ⟨h1, h2, h3, h4, _⟩ := pik_facts D i
 have h5 := pik_c D i
 have ha : (pik D i).a.natAbs ≤ 25 := by omega
 have hb : (pik D i).b.natAbs ≤ 25 := by omega
 have hc : (pik D i).c.natAbs ≤ 3000 := by omega
 obtain ⟨⟨ta, tb⟩, tc, td⟩ := turn_17 ⟨m, hm⟩
 unfold mkF
 split
 ·exact ⟨by omega, by omega, by omega⟩
 ·exact ⟨Nat.le_trans (vl_small ha hb hc ta tc) (by decide), apB_small ha hb hc ta tb tc td, Nat.le_trans (vl_small ha hb hc tb td) (by decide)⟩
theorem mkF_L5 {D i m : Nat} (hm : m < 256) : L 5 (mkF D i m).a ∧ L 5 (mkF D i m).b ∧ L 5 (mkF D i m).c := by
 have h := mkF_small (D := D) (i := i) hm
 exact ⟨by unfold L; omega, by unfold L; omega, by unfold L; omega⟩
theorem mkF_L6 {D i m : Nat} (hm : m < 256) : L 6 (mkF D i m).a ∧ L 6 (mkF D i m).b ∧ L 6 (mkF D i m).c := by
 have h := mkF_L5 (D := D) (i := i) hm
 exact ⟨h.1.mono (by decide), h.2.1.mono (by decide), h.2.2.mono (by decide)⟩
end Go.AM
end
section
namespace Go.AM
open Go Go.RowKit
theorem mkF_cl (D i m : Nat) : Cl (-szz D) (mkF D i m) := by
 refine ⟨mkF_pos D i m, ?_, mkF_dsc D i m⟩
 have h := (pik_facts D i).2.2.2.2.2.2
 unfold mkF
 split
 ·exact h
 ·rw [← prim_app (pik D i) (m := turnM m) (by rw [det_turn]; rfl)]; exact h
theorem szz_D (D : Nat) : -1000000000000000000 ≤ -szz D ∧ -szz D < 0 := by have := szz_spec D; omega
end Go.AM
end
section
namespace Go.AM
open Go Go.RowKit
theorem gGo_mem {c : Int} : ∀ (f : Nat) (p n : Int), 3 ≤ p → p % 2 = 1 → 1 ≤ n → n % 2 = 1 → c ∈ gGo f p n → 3 ≤ c ∧ c % 2 = 1 ∧ c ∣ n
 | 0, _, _, _, _, _, _, h => by simp [gGo] at h
 | f + 1, p, n, hp, hpo, hn, ho, h => by
  unfold gGo at h
  split at h
  ·split at h
   ·next e =>
    obtain ⟨r1, r2, r3, k, r4⟩ := rmp_pos (p := p) (by omega) n.toNat n (Nat.le_refl _) (by omega)
    rcases List.mem_cons.1 h with h | h
    ·subst h; exact ⟨hp, hpo, Int.dvd_of_emod_eq_zero e⟩
    ·obtain ⟨g1, g2, g3⟩ := gGo_mem f (p + 2) (rmp n p) (by omega) (by omega) (by omega) (rmp_odd hp (by omega) ho) h
     exact ⟨g1, g2, Int.dvd_trans g3 ⟨_, r4⟩⟩
   ·exact gGo_mem f (p + 2) n (by omega) (by omega) hn ho h
  ·split at h
   ·next e =>
    rw [List.mem_singleton] at h; subst h
    exact ⟨by omega, ho, Int.dvd_refl _⟩
   ·simp at h
theorem oddC_mem {d c : Int} (h0 : d < 0) (h : c ∈ oddC (rmp (-d) 2)) : 3 ≤ c ∧ c % 2 = 1 ∧ c ∣ d := by
 obtain ⟨r1, r2, r3, k, r4⟩ := rmp_pos (p := 2) (by omega) (-d).toNat (-d) (Nat.le_refl _) (by omega)
 obtain ⟨g1, g2, g3⟩ := gGo_mem 1200 3 (rmp (-d) 2) (by omega) (by omega) (by omega) (by omega) h
 refine ⟨g1, g2, ?_⟩
 have : c ∣ -d := Int.dvd_trans g3 ⟨_, r4⟩
 exact Int.dvd_neg.1 this
theorem spC_mem {d c : Int} (h : c ∈ spC d) : d % 4 = 0 ∧ ((c = -4 ∧ ((-d / 4) % 8 = 0 ∨ (-d / 4) % 8 = 1 ∨ (-d / 4) % 8 = 4 ∨ (-d / 4) % 8 = 5)) ∨ (c = 8 ∧ ((-d / 4) % 8 = 0 ∨ (-d / 4) % 8 = 6)) ∨ (c = -8 ∧ (-d / 4) % 8 = 2)) := by
 unfold spC at h
 split at h
 ·simp at h
 ·next h4 =>
  refine ⟨Classical.not_not.1 h4, ?_⟩
  split at h
  ·next e => simp only [List.mem_cons, List.not_mem_nil, or_false] at h; rcases h with rfl | rfl <;> simp [e]
  ·split at h
   ·next e => simp only [List.mem_cons, List.not_mem_nil, or_false] at h; subst h; left; exact ⟨rfl, .inr e⟩
   ·split at h
    ·next e => simp only [List.mem_cons, List.not_mem_nil, or_false] at h; subst h; right; right; exact ⟨rfl, e⟩
    ·split at h
     ·next e => simp only [List.mem_cons, List.not_mem_nil, or_false] at h; subst h; right; left; exact ⟨rfl, .inr e⟩
     ·simp at h
def spv (c r : Int) : Int := sgB (hasI (spR c) r)
theorem cv_spv {c n : Int} (h : c = -4 ∨ c = 8 ∨ c = -8) : cv c n = spv c (n % 8) := (cv_sp h).symm
theorem emod8 (n : Int) : ∃ r : Fin 8, n % 8 = (r.val : Int) := ⟨⟨(n % 8).toNat, by omega⟩, by show n % 8 = (((n % 8).toNat : Nat) : Int); omega⟩
theorem vl_two (a b c x1 y1 x2 y2 : Int) : 4 * (vl a b c x1 y1 * vl a b c x2 y2) = (2 * a * x1 * x2 + b * (x1 * y2 + x2 * y1) + 2 * c * y1 * y2) * (2 * a * x1 * x2 + b * (x1 * y2 + x2 * y1) + 2 * c * y1 * y2) - (b * b - 4 * a * c) * ((x1 * y2 - x2 * y1) * (x1 * y2 - x2 * y1)) := by
 unfold vl; grind
theorem gcd_odd {N d : Int} (h : Int.gcd N (2 * d) = 1) : N % 2 = 1 := by
 have h1 : Cop N (2 * d) := h
 have h2 : Cop (2 * d) N := h1.symm
 have h3 : Cop 2 N := h2.left
 have h4 : Cop N 2 := h3.symm
 rcases (show N % 2 = 0 ∨ N % 2 = 1 by omega) with g | g
 ·exfalso
  have hd : (2 : Int) ∣ N := Int.dvd_of_emod_eq_zero g
  have h5 : Int.gcd N 2 = 1 := h4
  have h6 := Int.dvd_gcd hd (Int.dvd_refl 2)
  rw [h5] at h6
  exact absurd h6 (by decide)
 ·exact g
theorem gcd_cop {N d c : Int} (h : Int.gcd N (2 * d) = 1) (hc : c ∣ d) : Cop N c := by
 obtain ⟨k, hk⟩ := hc
 have h1 : Cop N (2 * d) := h
 have h2 : Cop (2 * d) N := h1.symm
 have h3 : Cop d N := h2.right
 rw [hk] at h3
 exact h3.left.symm
theorem kr_pm {N c : Int} (hc : 0 < c) (ho : c % 2 = 1) (h : Cop N c) : kr N c = 1 ∨ kr N c = -1 := by
 rw [kr_SS hc ho, if_pos h]; exact SS_pm N
theorem sp_inv : ∀ (r s u v m : Fin 8), r.val % 2 = 1 → s.val % 2 = 1 → (r.val * s.val % 8 = (u.val * u.val + m.val * (v.val * v.val)) % 8) →
  ((m.val = 0 ∨ m.val = 1 ∨ m.val = 4 ∨ m.val = 5) → spv (-4) r.val = spv (-4) s.val) ∧ ((m.val = 0 ∨ m.val = 6) → spv 8 r.val = spv 8 s.val) ∧ (m.val = 2 → spv (-8) r.val = spv (-8) s.val) := by decide +kernel
theorem cv_inv {d : Int} {g : Fm} {c M N : Int} (hd : d < 0) (hg : dsc g.a g.b g.c = d) (hM : RpN g M) (hN : RpN g N) (cM : Int.gcd M (2 * d) = 1) (cN : Int.gcd N (2 * d) = 1) (hc : c ∈ chs d) : cv c M = cv c N := by
 obtain ⟨x1, y1, rfl⟩ := hM
 obtain ⟨x2, y2, rfl⟩ := hN
 have oM := gcd_odd cM
 have oN := gcd_odd cN
 have two := vl_two g.a g.b g.c x1 y1 x2 y2
 have hdd : g.b * g.b - 4 * g.a * g.c = d := hg
 rw [hdd] at two
 unfold chs at hc
 rcases List.mem_append.1 hc with h | h
 ·obtain ⟨c3, co, cd⟩ := oddC_mem hd h
  have cpM := gcd_cop cM cd
  have cpN := gcd_cop cN cd
  generalize vl g.a g.b g.c x1 y1 = M at *
  generalize vl g.a g.b g.c x2 y2 = N at *
  generalize (2 * g.a * x1 * x2 + g.b * (x1 * y2 + x2 * y1) + 2 * g.c * y1 * y2) = U at two
  generalize (x1 * y2 - x2 * y1) * (x1 * y2 - x2 * y1) = V at two
  have hUU : c ∣ U * U - 4 * (M * N) := by
   have e : U * U - 4 * (M * N) = d * V := by omega
   rw [e]; exact Int.dvd_trans cd ⟨V, rfl⟩
  have c2 : Cop 2 c := cop_two co
  have c4 : Cop (2 * 2) c := c2.mul c2
  have c4MN : Cop (4 * (M * N)) c := c4.mul (cpM.mul cpN)
  have cUU : Cop (U * U) c := cop_congr (n := c) (a := 4 * (M * N)) (b := U * U) (by
   have e : 4 * (M * N) - U * U = -(U * U - 4 * (M * N)) := by omega
   rw [e]; exact Int.dvd_neg.2 hUU) c4MN
  have k1 : kr (U * U) c = 1 := kr_sqA (by omega) co cUU.left
  have k2 : kr (U * U) c = kr (4 * (M * N)) c := kr_congrA (by omega) co hUU
  have k3 : kr (4 * (M * N)) c = kr (2 * 2) c * (kr M c * kr N c) := by
   rw [show 4 * (M * N) = 2 * 2 * (M * N) from rfl, kr_mulA (a := 2 * 2) (b := M * N) (by omega) co, kr_mulA (a := M) (b := N) (by omega) co]
  have k4 : kr (2 * 2) c = 1 := kr_sqA (by omega) co c2
  rw [← cv_odd (by omega), ← cv_odd (by omega)]
  rw [k1, k3, k4, Int.one_mul] at k2
  rcases kr_pm (by omega) co cpM with e1 | e1 <;> rcases kr_pm (by omega) co cpN with e2 | e2 <;> rw [e1, e2] at k2 <;> rw [e1, e2] <;> omega
 ·obtain ⟨h4, hs⟩ := spC_mem h
  have hb : g.b % 2 = 0 := by
   rcases (show g.b % 2 = 0 ∨ g.b % 2 = 1 by omega) with q | q
   ·exact q
   ·exfalso
    obtain ⟨t, ht⟩ : ∃ t, g.b = 2 * t + 1 := ⟨g.b / 2, by omega⟩
    have e1 : g.b * g.b = 4 * (t * t + t) + 1 := by rw [ht]; grind
    rw [Int.mul_assoc] at hdd
    omega
  obtain ⟨t, ht⟩ : ∃ t, g.b = 2 * t := ⟨g.b / 2, by omega⟩
  obtain ⟨m, hm⟩ : ∃ m, d = -(4 * m) := ⟨-d / 4, by omega⟩
  have em : -d / 4 = m := by omega
  rw [em] at hs
  have eU : 2 * g.a * x1 * x2 + g.b * (x1 * y2 + x2 * y1) + 2 * g.c * y1 * y2 = 2 * (g.a * x1 * x2 + t * (x1 * y2 + x2 * y1) + g.c * y1 * y2) := by rw [ht]; grind
  rw [eU] at two
  generalize vl g.a g.b g.c x1 y1 = M at *
  generalize vl g.a g.b g.c x2 y2 = N at *
  generalize g.a * x1 * x2 + t * (x1 * y2 + x2 * y1) + g.c * y1 * y2 = U at two
  generalize x1 * y2 - x2 * y1 = V at two
  have eMN : M * N = U * U + m * (V * V) := by
   have e1 : 2 * U * (2 * U) = 4 * (U * U) := by grind
   have e2 : d * (V * V) = -(4 * (m * (V * V))) := by rw [hm]; grind
   omega
  obtain ⟨r, er⟩ := emod8 M
  obtain ⟨s, es⟩ := emod8 N
  obtain ⟨u, eu⟩ := emod8 U
  obtain ⟨v, ev⟩ := emod8 V
  obtain ⟨q, eq⟩ := emod8 m
  have key : ((r.val * s.val : Nat) : Int) % 8 = ((u.val * u.val + q.val * (v.val * v.val) : Nat) : Int) % 8 := by
   have h1 : (M * N) % 8 = ((r.val * s.val : Nat) : Int) % 8 := by rw [Int.mul_emod, er, es, Int.natCast_mul]
   have h2 : (U * U + m * (V * V)) % 8 = ((u.val * u.val + q.val * (v.val * v.val) : Nat) : Int) % 8 := by
    obtain ⟨U', hU⟩ : ∃ k, U = 8 * k + (u.val : Int) := ⟨U / 8, by omega⟩
    obtain ⟨V', hV⟩ : ∃ k, V = 8 * k + (v.val : Int) := ⟨V / 8, by omega⟩
    obtain ⟨m', hm'⟩ : ∃ k, m = 8 * k + (q.val : Int) := ⟨m / 8, by omega⟩
    simp only [Int.natCast_add, Int.natCast_mul]
    generalize (u.val : Int) = u' at hU ⊢
    generalize (v.val : Int) = v' at hV ⊢
    generalize (q.val : Int) = q' at hm' ⊢
    have e : U * U + m * (V * V) = 8 * (8 * U' * U' + 2 * U' * u' + m' * (V * V) + q' * (8 * V' * V' + 2 * V' * v')) + (u' * u' + q' * (v' * v')) := by rw [hU, hm', hV]; grind
    rw [e]
    generalize 8 * U' * U' + 2 * U' * u' + m' * (V * V) + q' * (8 * V' * V' + 2 * V' * v') = K
    generalize u' * u' + q' * (v' * v') = R
    omega
   rw [← h1, eMN, h2]
  have key2 : r.val * s.val % 8 = (u.val * u.val + q.val * (v.val * v.val)) % 8 := by omega
  have k := sp_inv r s u v q (by omega) (by omega) key2
  rw [eq] at hs
  rcases hs with ⟨rfl, h5⟩ | ⟨rfl, h5⟩ | ⟨rfl, h5⟩
  ·rw [cv_spv (by simp), cv_spv (by simp), er, es]; exact k.1 (by omega)
  ·rw [cv_spv (by simp), cv_spv (by simp), er, es]; exact k.2.1 (by omega)
  ·rw [cv_spv (by simp), cv_spv (by simp), er, es]; exact k.2.2 (by omega)
end Go.AM
end
section
namespace Go.AM
open Go Go.RowKit
section
variable {f : Fm}
theorem gp_1 (h : ¬ ck f.a f.b f.c = 0) : AV.t [PE 0, PE (ck f.a f.b f.c)] = .t [PE (gpV f), PE (gpE f)] := by
 have e : gpE f = ck f.a f.b f.c := by unfold gpE; rw [if_pos h]
 unfold gpV; rw [e, if_neg h]
theorem gp_2 (h : ck f.a f.b f.c = 0) (h1 : szE (dsc f.a f.b f.c) = 0) (h2 : prim f.a f.b f.c = false) : AV.t [PE 0, PE 80] = .t [PE (gpV f), PE (gpE f)] := by
 have e : gpE f = 80 := by unfold gpE; rw [if_neg (fun x => x h), if_neg (fun x => x h1), if_neg (by rw [h2]; decide)]
 unfold gpV; rw [e]; rfl
theorem gp_3 (h : ck f.a f.b f.c = 0) (h1 : szE (dsc f.a f.b f.c) = 0) (h2 : prim f.a f.b f.c = true) : AV.t [PE (gnV (dsc f.a f.b f.c)), PE (szE (dsc f.a f.b f.c))] = .t [PE (gpV f), PE (gpE f)] := by
 have e : gpE f = 0 := by unfold gpE; rw [if_neg (fun x => x h), if_neg (fun x => x h1), if_pos h2]
 unfold gpV gnV; rw [e, h1]
theorem gp_4 (h : ck f.a f.b f.c = 0) (h1 : ¬ szE (dsc f.a f.b f.c) = 0) : AV.t [PE (gnV (dsc f.a f.b f.c)), PE (szE (dsc f.a f.b f.c))] = .t [PE (gpV f), PE (gpE f)] := by
 have e : gpE f = szE (dsc f.a f.b f.c) := by unfold gpE; rw [if_neg (fun x => x h), if_pos h1]
 unfold gpV gnV; rw [e, if_neg h1]
end
def gN (f : Fm) (d : Int) : Int := (f.rd.app (cpM f.rd (2 * d))).a
theorem gN_ok {d : Int} {f : Fm} (hf : Cl d f) (hd : -4194304 ≤ d) (h0 : d < 0) : RpN f.rd (gN f d) ∧ Int.gcd (gN f d) (2 * d) = 1 := by
 have hp := hf.rd.prim
 have h1 := (cp_ex (f := f.rd) (a := 2 * d) hp (by omega) (by omega)).1
 exact ⟨⟨_, _, rfl⟩, (cp_det h1).2⟩
def gvL (f : Fm) : List Int := if gpE f = 0 then (chs (dsc f.a f.b f.c)).map (fun c => cv c (gN f (dsc f.a f.b f.c))) else []
theorem gv_map {d N : Int} {f : Fm} (hf : Cl d f) (hd : -4194304 ≤ d) (h0 : d < 0) (hE : szE d = 0) (hN : RpN f.rd N) (cN : Int.gcd N (2 * d) = 1) : (chs d).map (fun c => cv c N) = gvL f := by
 unfold gvL
 rw [if_pos (cl_gpE hf hd hE), hf.disc]
 have hg := gN_ok hf hd h0
 exact List.map_congr_left fun c hc => cv_inv h0 hf.rd.disc hN hg.1 cN hg.2 hc
theorem rp_nn {d N : Int} {g : Fm} (hg : Cl d g) (hN : RpN g N) (h0 : d < 0) : 0 ≤ N := by
 obtain ⟨x, y, rfl⟩ := hN
 have ha := hg.pos.1
 have hd : g.b * g.b - 4 * g.a * g.c = d := hg.disc
 have e : 4 * g.a * vl g.a g.b g.c x y = (2 * g.a * x + g.b * y) * (2 * g.a * x + g.b * y) - d * (y * y) := by rw [← hd]; unfold vl; grind
 have h1 := sq_nonneg' (2 * g.a * x + g.b * y)
 have h2 := Int.mul_nonneg (show 0 ≤ -d by omega) (sq_nonneg' y)
 rw [Int.neg_mul] at h2
 rcases Int.lt_or_le (vl g.a g.b g.c x y) 0 with q | q
 ·have h3 : 4 * g.a * vl g.a g.b g.c x y < 0 := Int.mul_neg_of_pos_of_neg (by omega) q
  omega
 ·exact q
theorem chs_b {d c : Int} (h0 : d < 0) (hd : -4194304 ≤ d) (h : c ∈ chs d) : -8 ≤ c ∧ c ≤ 4194304 := by
 unfold chs at h
 rcases List.mem_append.1 h with h | h
 ·obtain ⟨h1, h2, h3⟩ := oddC_mem h0 h
  have h4 : c ∣ -d := Int.dvd_neg.2 h3
  have := Int.le_of_dvd (by omega) h4
  omega
 ·rcases (spC_mem h).2 with ⟨rfl, _⟩ | ⟨rfl, _⟩ | ⟨rfl, _⟩ <;> omega
section
variable {P : Program}
variable {dst : Option Nat} {ty : TypeId} {pos : String} {af : Array Edge} {gd : Option (Nat × Bool)} {d : Nat} {ρ : Operand → AV} {own : Own}
theorem Eff.callCh {fo fs : FuncId} {c0 N : Int} {c x : Operand} {tys : Array TypeId} (hx : ρ c = .p (.c (chF fo fs c0))) (hN : ρ x = .p (.c (.v (.int .i64 N))))
  (h1 : Call0 P fs [.p (.c (.v (.int .i64 N))), .ip [IS (spR c0)]] (.p (.c (.v (.int .i64 (sgB (hasI (spR c0) (N % 8)))))))) (h2 : Call0 P fo [.p (.c (.v (.int .i64 N))), .ip [IC c0]] (.p (.c (.v (.int .i64 (kr N c0)))))) :
  Eff P ⟨dst, .call ⟨.value c, #[x], tys⟩, ty, pos, af, gd⟩ d ρ own (.p (.c (.v (.int .i64 (cv c0 N))))) [] none [] := by
 by_cases h : c0 = -4 ∨ c0 = 8 ∨ c0 = -8
 ·rw [← cv_sp h]
  have e : chF fo fs c0 = .fn fs ([[IS (spR c0)]].map .ip) := by unfold chF; rw [if_pos h]; rfl
  rw [e] at hx
  exact Eff.callD hx (by simpa [hN] using h1)
 ·rw [← cv_odd h]
  have e : chF fo fs c0 = .fn fo ([[IC c0]].map .ip) := by unfold chF; rw [if_neg h]; rfl
  rw [e] at hx
  exact Eff.callD hx (by simpa [hN] using h2)
end
theorem map_snoc {l : List Int} {k : Nat} {N : Int} (h : (k : Int) < l.length) : (l.take k).map (fun c => cv c N) ++ [cv (l.getD k 0) N] = (l.take (k + 1)).map (fun c => cv c N) := by
 rw [← take_snoc h, List.map_append]; rfl
theorem gg1 {n d : Int} (h : ((gg n (2 * d)).natAbs : Int) = 1) : Int.gcd n (2 * d) = 1 := by rw [← gg_abs]; omega
theorem gg1n {n d : Int} (h : ((gg n (2 * d)).natAbs : Int) ≠ 1) : Int.gcd n (2 * d) ≠ 1 := by rw [← gg_abs]; omega
theorem vl_sw (a b c x y : Int) : a * y * y + b * x * y + c * x * x = vl a b c y x := by unfold vl; grind
theorem gvL_e {f : Fm} (h : ¬ gpE f = 0) : gvL f = [] := by unfold gvL; rw [if_neg h]
theorem gg_b {n d : Int} (h0 : d < 0) (hd : -4194304 ≤ d) : -9223372036854775808 < gg n (2 * d) ∧ gg n (2 * d) ≤ 9223372036854775807 := by
 have h1 := gg_abs n (2 * d)
 have h2 : Int.gcd n (2 * d) ≤ (2 * d).natAbs := Nat.le_of_dvd (by omega) (Nat.gcd_dvd_right _ _)
 omega
theorem getD_memI {l : List Int} {k : Nat} (h : (k : Int) < l.length) : l.getD k 0 ∈ l := by
 have hk : k < l.length := by omega
 have e : l.getD k 0 = l[k] := by simp [List.getD, hk]
 rw [e]; exact List.getElem_mem hk
end Go.AM
end
section
namespace Go.AM
open Go Go.RowKit
structure EqI (l m : List Int) (k : Nat) : Prop where
 le : k ≤ l.length
 eq : ∀ j, j < k → l.getD j 0 = m.getD j 0
section
variable {l m : List Int} {k : Nat}
theorem EqI.start : EqI l m 0 := ⟨Nat.zero_le _, fun j h => by omega⟩
theorem EqI.next (h : EqI l m k) (hk : (k : Int) < l.length) (e : l.getD k 0 = m.getD k 0) : EqI l m (k + 1) :=
 ⟨by omega, fun j hj => by
  rcases Nat.lt_or_eq_of_le (show j ≤ k by omega) with g | g
  ·exact h.eq j g
  ·rw [g]; exact e⟩
theorem EqI.yes (h : EqI l m k) (hl : (l.length : Int) = m.length) (hk : ¬ (k : Int) < l.length) : true = decide (l = m) := by
 refine (decide_eq_true ?_).symm
 refine List.ext_getElem (by omega) fun j h1 h2 => ?_
 have := h.eq j (by omega)
 simpa [List.getD, h1, h2] using this
theorem EqI.no (e : ¬ l.getD k 0 = m.getD k 0) : false = decide (l = m) := (decide_eq_false (fun x => e (by rw [x]))).symm
theorem EqI.ln (e : ¬ (l.length : Int) = m.length) : false = decide (l = m) := (decide_eq_false (fun x => e (by rw [x]))).symm
end
def gpr (f : Fm) : Bool := decide (gpE f = 0) && !hasI (gvL f) (-1)
def gsE (f g : Fm) : Int := if gpE f ≠ 0 then gpE f else if gpE g ≠ 0 then gpE g else if dsc f.a f.b f.c ≠ dsc g.a g.b g.c then 5 else 0
def gsB (f g : Fm) : Bool := if gsE f g = 0 then decide (gvL f = gvL g) else false
section
variable {f g : Fm}
theorem gs_1 (h : ¬ gpE f = 0) : AV.t [PB false, PE (gpE f)] = .t [PB (gsB f g), PE (gsE f g)] := by
 have e : gsE f g = gpE f := by unfold gsE; rw [if_pos h]
 unfold gsB; rw [e, if_neg h]
theorem gs_2 (h : gpE f = 0) (h1 : ¬ gpE g = 0) : AV.t [PB false, PE (gpE g)] = .t [PB (gsB f g), PE (gsE f g)] := by
 have e : gsE f g = gpE g := by unfold gsE; rw [if_neg (fun x => x h), if_pos h1]
 unfold gsB; rw [e, if_neg h1]
theorem gs_3 (h : gpE f = 0) (h1 : gpE g = 0) (h2 : dsc f.a f.b f.c ≠ dsc g.a g.b g.c) : AV.t [PB false, PE 5] = .t [PB (gsB f g), PE (gsE f g)] := by
 have e : gsE f g = 5 := by unfold gsE; rw [if_neg (fun x => x h), if_neg (fun x => x h1), if_pos h2]
 unfold gsB; rw [e]; rfl
theorem gs_4 (h : gpE f = 0) (h1 : gpE g = 0) (h2 : dsc f.a f.b f.c = dsc g.a g.b g.c) : AV.t [PB (decide (gvL f = gvL g)), PE 0] = .t [PB (gsB f g), PE (gsE f g)] := by
 have e : gsE f g = 0 := by unfold gsE; rw [if_neg (fun x => x h), if_neg (fun x => x h1), if_neg (fun x => x h2)]
 unfold gsB; rw [e, if_pos rfl]
end
theorem gvL_len (f : Fm) : ((gvL f).length : Int) ≤ 1000000 := by
 unfold gvL
 split
 ·next h =>
  obtain ⟨h1, h2⟩ := gpE_cl h
  obtain ⟨_, h3, h4⟩ := gnV_0 h2
  rw [List.length_map]
  have := chs_len h3 h4
  omega
 ·simp
end Go.AM
end
section
namespace Go.AM
open Go Go.RowKit
def TC (f : Fm) : List DV := [IC f.a, IC f.b, IC f.c]
def TS (l : List Fm) : DV := .sl l.length (l.flatMap TC)
def TB (e : TypeId) (l : List Fm) : Blk := ⟨true, 3, e, l.flatMap TC⟩
theorem TS_len (l : List Fm) : (l.flatMap TC).length = l.length * 3 := by
 induction l with
 | nil => rfl
 | cons x l ih => rw [List.flatMap_cons, List.length_append, ih, List.length_cons]; show 3 + _ = _; omega
theorem TS_drop : ∀ (l : List Fm) (i : Nat) (h : i < l.length), (l.flatMap TC).drop (i * 3) = TC l[i] ++ (l.drop (i + 1)).flatMap TC
 | x :: l, 0, _ => by simp
 | x :: l, i + 1, h => by
  have ih := TS_drop l i (by simpa using h)
  have e : (i + 1) * 3 = i * 3 + 3 := by omega
  rw [e, List.flatMap_cons]
  show (IC x.a :: IC x.b :: IC x.c :: l.flatMap TC).drop (i * 3 + 3) = _
  rw [List.drop_succ_cons, List.drop_succ_cons, List.drop_succ_cons, ih]
  simp
section
variable {P : Program} {tt : TT} (hT : TTok P tt)
variable {dst : Option Nat} {ty : TypeId} {pos : String} {af : Array Edge} {gd : Option (Nat × Bool)} {d : Nat} {ρ : Operand → AV} {own : Own}
variable {T e : TypeId} {i j : TyI} {x y : Operand}
include hT
theorem op_indexT {k : IntKind} {n : Int} {l : List Fm} (ht : tt T = some i) (hs : i.sh = .sl e) (he : tt e = some j) (hj : j.size = 3) (hx : ρ x = .p (.c (TS l))) (hy : ρ y = .p (.c (.v (.int k n)))) (hn : 0 ≤ n ∧ n < l.length) :
  Eff P ⟨dst, .indexAddr T x y, ty, pos, af, gd⟩ d ρ own (.ip (TC (l.getD n.toNat ⟨0, 0, 0⟩) ++ (l.drop (n.toNat + 1)).flatMap TC)) [] none [] := by
 have hi : n.toNat < l.length := by omega
 have h := op_index_sl (dst := dst) (ty := ty) (pos := pos) (af := af) (gd := gd) (d := d) (own := own) hT ht hs he hx (l := l.length) (xs := l.flatMap TC) (by rfl) hy hn (by
  intro h0
  have := TS_len l
  rw [h0] at this
  simp at this
  omega)
 rw [hj, TS_drop l n.toNat hi] at h
 have e1 : l.getD n.toNat ⟨0, 0, 0⟩ = l[n.toNat] := by simp [List.getD, hi]
 rw [e1]; exact h
theorem op_appendT {m : Nat} {l : List Fm} {z : Fm} (ht : tt T = some i) (hs : i.sh = .sl e) (he : tt e = some j) (hj : j.size = 3) (hjb : Nat.ble j.bytes 96 = true) (hx : ρ x = .vec m) (hb : own m = some (TB e l)) (hy : ρ y = .p (.c (.sl 1 (TC z)))) (hfit : l.length ≤ 100000000) (hmd : m ≠ d) :
  Eff P ⟨dst, .call ⟨.builtin .append, #[x, y], #[T, T]⟩, ty, pos, af, gd⟩ d ρ own (.vec d) [(m, none)] (some (TB e (l ++ [z]))) [m] := by
 have hl : (TB e l).cs.length = l.length * 3 := TS_len l
 have h := op_append (dst := dst) (ty := ty) (pos := pos) (af := af) (gd := gd) hT ht hs he hx hb rfl hj.symm rfl hy (by rfl) (by rw [hj]; rfl) (by rw [hj]; exact hjb) (by rw [hl, hj]; omega) (by rw [hj]; rfl) hmd
 rw [hj] at h
 unfold TB
 rw [List.flatMap_append]
 exact h
end
section
variable {P : Program} {B : Bool} {N np : Nat} {Q : Exit → St → Prop} {s : St} {c : Code}
theorem AWp_freezeT {t m : Nat} {l : List Fm} {e : TypeId} (ht : s.regs t = .vec m) (hb : s.own m = some (TB e l)) (h : AWp P B N np c Q ⟨upd s.regs t (.p (.c (TS l))), upd s.own m none⟩) : AWp P B N np c Q s := by
 refine AWp_freeze (n := l.length) ht hb rfl (TS_len l).symm (by show 0 < 3; omega) ?_
 exact h
end
def shp (m k : Int) : Nat → Fm
 | 0 => ⟨k, 0, m / 4 / k⟩
 | 1 => ⟨k, k, (m / k + k) / 4⟩
 | _ => ⟨(m / k + k) / 4, (m / k - k) / 2, (m / k + k) / 4⟩
def shF (f : FuncId) (m : Int) (j : Nat) : DV := .fn (f + j) [.ip [IC m]]
def okS (m : Int) (f : Fm) : Bool := decide (f.b * f.b - 4 * f.a * f.c = -m) && (decide (0 ≤ f.b) && (decide (f.b ≤ f.a) && (decide (f.a ≤ f.c) && decide (gg (gg f.a f.b) f.c = 1))))
def amR (m k : Int) (j : Nat) : List Fm := ((List.range j).map (shp m k)).filter (okS m)
def amG (m : Int) : Nat → List Fm
 | 0 => []
 | k + 1 => amG m k ++ amR m ((k : Int) + 1) 3
theorem amR_no {m k : Int} {j : Nat} (h : okS m (shp m k j) = false) : amR m k (j + 1) = amR m k j := by
 unfold amR; rw [List.range_succ, List.map_append, List.filter_append]; simp [h]
theorem amR_yes {m k : Int} {j : Nat} (h : okS m (shp m k j) = true) : amR m k (j + 1) = amR m k j ++ [shp m k j] := by
 unfold amR; rw [List.range_succ, List.map_append, List.filter_append]; simp [h]
def cm3 (f g : Fm) : Int := if cmpI f.a g.a ≠ 0 then cmpI f.a g.a else cmpI f.b g.b
def srt3 (l : List Fm) : Prop := ∀ i : Nat, i + 1 < l.length → ¬ cm3 (l.getD (i + 1) ⟨0, 0, 0⟩) (l.getD i ⟨0, 0, 0⟩) < 0 ∧ l.getD (i + 1) ⟨0, 0, 0⟩ ≠ l.getD i ⟨0, 0, 0⟩
theorem shp_b {m k : Int} (hm : 0 < m ∧ m ≤ 4194304) (hk : 1 ≤ k) (hkk : k * k ≤ m) : k ≤ m / k ∧ m / k ≤ 4194304 ∧ k ≤ 2048 ∧ 0 ≤ m / 4 / k ∧ m / 4 / k ≤ 4194304 := by
 have h1 : k ≤ m / k := (Int.le_ediv_iff_mul_le (by omega)).2 hkk
 have h2 : m / k ≤ m := Int.ediv_le_self _ (by omega)
 have h3 : k ≤ 2048 := by
  rcases Int.lt_or_le 2048 k with g | g
  ·have := Int.mul_le_mul g g (by omega) (by omega); omega
  ·exact g
 have h4 : m / 4 / k ≤ m / 4 := Int.ediv_le_self _ (by omega)
 have h5 : 0 ≤ m / 4 / k := Int.ediv_nonneg (by omega) (by omega)
 exact ⟨h1, by omega, h3, h5, by omega⟩
end Go.AM
end
section
namespace Go.AM
open Go Go.RowKit
section
variable {P : Program} {tt : TT} (hT : TTok P tt)
variable {dst : Option Nat} {ty : TypeId} {pos : String} {af : Array Edge} {gd : Option (Nat × Bool)} {d : Nat} {ρ : Operand → AV} {own : Own}
variable {T e yT : TypeId} {i j : TyI} {x y : Operand}
include hT
theorem run_eq3 {f g : Fm} (ht : tt T = some i) (hs : i.sh = .ar 3 e) (he : tt e = some j) (hj : j.sh = .int .i64) (hz : j.size = 1) {h : Hp} {w : World} {cs es : Array Value} (h1 : DReps h (TC f) fun i => cs[i]?) (h2 : DReps h (TC g) fun i => es[i]?) :
  (Op.equal T (.agg cs) (.agg es)).run P w = .ok (decide (f = g)) w := by
 have hu := (hT T i ht).array hs
 have hue := (hT e j he).int hj
 obtain ⟨ti, k1, k2, _⟩ := (hT e j he).info
 have hc : P.cellsOf e = 1 := by
  have : P.cellsOf e = ti.size := by unfold Program.cellsOf; rw [k1]; rfl
  rw [this, k2, hz]
 have p1 : ∀ {off : Nat} {z : Int}, (TC f)[off]? = some (IC z) → (part e cs off).run P w = .ok (.int .i64 z) w := fun {off z} hh => by
  obtain ⟨v, hv1, hv2⟩ := part_one (w := w) (hT e j he) (by rw [hj]; rfl) h1 hh
  simp only [IC] at hv2
  rw [hv1, hv2.1]
 have p2 : ∀ {off : Nat} {z : Int}, (TC g)[off]? = some (IC z) → (part e es off).run P w = .ok (.int .i64 z) w := fun {off z} hh => by
  obtain ⟨v, hv1, hv2⟩ := part_one (w := w) (hT e j he) (by rw [hj]; rfl) h2 hh
  simp only [IC] at hv2
  rw [hv1, hv2.1]
 unfold Op.equal
 have q := run_equalIn_array (P := P) (w := w) 9999 (t := T) (e := e) (n := 3) cs es hu k1
 refine Eq.trans q ?_
 rw [hc]
 have a0 := p1 (off := 0 * 1) (z := f.a) rfl
 have a1 := p1 (off := 1 * 1) (z := f.b) rfl
 have a2 := p1 (off := 2 * 1) (z := f.c) rfl
 have b0 := p2 (off := 0 * 1) (z := g.a) rfl
 have b1 := p2 (off := 1 * 1) (z := g.b) rfl
 have b2 := p2 (off := 2 * 1) (z := g.c) rfl
 have hr : List.range 3 = [0, 1, 2] := rfl
 have ee : ∀ u v : Int, (Op.equalIn 9999 e (.int .i64 u) (.int .i64 v)).run P w = .ok (u == v) w := fun u v => run_equalIn_int (w := w) 9998 e .i64 .i64 u v hue
 rw [hr]
 simp only [Op.eqItems, Sem.run_bind, a0, b0, Result.andThen_ok, ee]
 by_cases c0 : f.a = g.a
 ·by_cases c1 : f.b = g.b
  ·by_cases c2 : f.c = g.c
   ·rw [decide_eq_true (Fm.ext c0 c1 c2)]; simp [c0, c1, c2, Sem.run_bind, a1, a2, b1, b2, ee]
   ·rw [decide_eq_false (fun x => c2 (by rw [x]))]; simp [c0, c1, c2, Sem.run_bind, a1, a2, b1, b2, ee]
  ·rw [decide_eq_false (fun x => c1 (by rw [x]))]; simp [c0, c1, Sem.run_bind, a1, b1, ee]
 ·rw [decide_eq_false (fun x => c0 (by rw [x]))]; simp [c0]
theorem op_eqlT {f g : Fm} (ht : tt T = some i) (hs : i.sh = .ar 3 e) (he : tt e = some j) (hj : j.sh = .int .i64) (hz : j.size = 1) (hx : ρ x = .p (.a (TC f))) (hy : ρ y = .p (.a (TC g))) (hgt : P.eqGuardType P.depth T = false) :
  Eff P ⟨dst, .binOp .eql T x y yT, ty, pos, af, gd⟩ d ρ own (.p (.c (.v (.bool (decide (f = g)))))) [] none [] :=
 Eff.value fun C h r own' a w hrep _ _ => by
  have e1 := hrep x (by simp [Op.operands])
  have e2 := hrep y (by simp [Op.operands])
  rw [hx] at e1; rw [hy] at e2
  obtain ⟨cs, g1, _, g3⟩ := e1
  obtain ⟨es, k1, _, k3⟩ := e2
  refine ⟨_, ?_, mk_bool _ _ _⟩
  have hE := run_eq3 (w := w) hT ht hs he hj hz g3 k3
  simp [execOp, g1, k1, eqGuard, Sem.run_bind, Sem.run_pure, Result.andThen_ok, binOp, hE, hgt]
end
section
variable {P : Program}
variable {dst : Option Nat} {ty : TypeId} {pos : String} {af : Array Edge} {gd : Option (Nat × Bool)} {d : Nat} {ρ : Operand → AV} {own : Own}
theorem Eff.callSh {f : FuncId} {m k : Int} {j : Nat} {c x : Operand} {tys : Array TypeId} (hx : ρ c = .p (.c (shF f m j))) (hk : ρ x = .p (.c (.v (.int .i64 k))))
  (h : Call0 P (f + j) [.p (.c (.v (.int .i64 k))), .ip [IC m]] (.p (.a (TC (shp m k j))))) :
  Eff P ⟨dst, .call ⟨.value c, #[x], tys⟩, ty, pos, af, gd⟩ d ρ own (.p (.a (TC (shp m k j)))) [] none [] :=
 Eff.callD (caps := [[IC m]]) hx (by simpa [hk] using h)
end
theorem sh_get {f : FuncId} {m : Int} {j : Nat} (hj : (j : Int) < 3) : ([shF f m 0, shF f m 1, shF f m 2].drop ((j : Int).toNat * 1))[0]? = some (shF f m j) := by
 rcases (show j = 0 ∨ j = 1 ∨ j = 2 by omega) with rfl | rfl | rfl <;> rfl
theorem shp_bd {m k : Int} (hm : 0 < m ∧ m ≤ 4194304) (hk : 1 ≤ k) (hkk : k * k ≤ m) (j : Nat) : (0 ≤ (shp m k j).a ∧ (shp m k j).a ≤ 4200000) ∧ (0 ≤ (shp m k j).b ∧ (shp m k j).b ≤ 4200000) ∧ 0 ≤ (shp m k j).c ∧ (shp m k j).c ≤ 4200000 := by
 have h := shp_b hm hk hkk
 match j with
 | 0 => unfold shp; simp only; omega
 | 1 => unfold shp; simp only; omega
 | _ + 2 => unfold shp; simp only; omega
def amS (m : Int) : Nat := fst1 (fun k => decide (m < ((k : Int) + 1) * ((k : Int) + 1))) 3000 0
theorem amS_ok {m : Int} (hm : 0 < m ∧ m ≤ 4194304) : m < ((amS m : Int) + 1) * ((amS m : Int) + 1) ∧ ∀ k : Nat, k < amS m → ((k : Int) + 1) * ((k : Int) + 1) ≤ m := by
 have h := fst1_ok (P := fun k => decide (m < ((k : Int) + 1) * ((k : Int) + 1))) (f := 3000) (n := 0) (m := 2048) (by omega) (by omega) (decide_eq_true (by omega))
 refine ⟨of_decide_eq_true h.1, fun k hk => ?_⟩
 rcases Int.lt_or_le m (((k : Int) + 1) * ((k : Int) + 1)) with g | g
 ·have h2 := fst1_ok (P := fun k => decide (m < ((k : Int) + 1) * ((k : Int) + 1))) (f := 3000) (n := 0) (m := k) (by omega) (by have := h.2; unfold amS at hk; omega) (decide_eq_true g)
  unfold amS at hk
  omega
 ·exact g
def amL (m : Int) : List Fm := amG m (amS m)
theorem amS_next {m : Int} {k : Nat} (hm : 0 < m ∧ m ≤ 4194304) (hk : k ≤ amS m) (h : ((k : Int) + 1) * ((k : Int) + 1) ≤ m) : k + 1 ≤ amS m := by
 have := (amS_ok hm).1
 rcases Nat.lt_or_eq_of_le hk with g | g
 ·exact g
 ·rw [← g] at this; omega
theorem amS_end {m : Int} {k : Nat} (hm : 0 < m ∧ m ≤ 4194304) (hk : k ≤ amS m) (h : ¬ ((k : Int) + 1) * ((k : Int) + 1) ≤ m) : k = amS m := by
 rcases Nat.lt_or_eq_of_le hk with g | g
 ·exact absurd ((amS_ok hm).2 k g) h
 ·exact g
theorem amS_w {m : Int} {k : Nat} (hm : 0 < m ∧ m ≤ 4194304) (hk : k ≤ amS m) : IntKind.i64.wrap (((k : Int) + 1) * ((k : Int) + 1)) = ((k : Int) + 1) * ((k : Int) + 1) := by
 have h := fst1_ok (P := fun k => decide (m < ((k : Int) + 1) * ((k : Int) + 1))) (f := 3000) (n := 0) (m := 2048) (by omega) (by omega) (decide_eq_true (by omega))
 have h2 : k ≤ 2048 := by have := h.2; unfold amS at hk; omega
 have h3 : ((k : Int) + 1) * ((k : Int) + 1) ≤ 2049 * 2049 := Int.mul_le_mul (by omega) (by omega) (by omega) (by omega)
 have h4 : 0 ≤ ((k : Int) + 1) * ((k : Int) + 1) := Int.mul_nonneg (by omega) (by omega)
 rw [IntWalk.i64_in _ (by omega)]
theorem amL_bd {m : Int} (hm : 0 < m ∧ m ≤ 4194304) {f : Fm} (h : f ∈ amL m) : (0 ≤ f.a ∧ f.a ≤ 4200000) ∧ (0 ≤ f.b ∧ f.b ≤ 4200000) ∧ 0 ≤ f.c ∧ f.c ≤ 4200000 := by
 have key : ∀ n : Nat, n ≤ amS m → ∀ f ∈ amG m n, (0 ≤ f.a ∧ f.a ≤ 4200000) ∧ (0 ≤ f.b ∧ f.b ≤ 4200000) ∧ 0 ≤ f.c ∧ f.c ≤ 4200000 := by
  intro n
  induction n with
  | zero => intro _ f h; simp [amG] at h
  | succ n ih =>
   intro hn f h
   unfold amG at h
   rcases List.mem_append.1 h with h | h
   ·exact ih (by omega) f h
   ·unfold amR at h
    obtain ⟨j, _, rfl⟩ := List.mem_map.1 (List.mem_filter.1 h).1
    exact shp_bd hm (by omega) ((amS_ok hm).2 n (by omega)) j
 exact key _ (Nat.le_refl _) f h
theorem amG_len (m : Int) : ∀ n : Nat, (amG m n).length ≤ 3 * n
 | 0 => by simp [amG]
 | n + 1 => by
  unfold amG
  have h := amG_len m n
  have h2 : (amR m ((n : Int) + 1) 3).length ≤ 3 := by
   unfold amR
   refine Nat.le_trans (List.length_filter_le _ _) ?_
   rw [List.length_map, List.length_range]; exact Nat.le_refl _
  rw [List.length_append]; omega
theorem amR_len (m k : Int) (j : Nat) : (amR m k j).length ≤ j := by
 unfold amR
 refine Nat.le_trans (List.length_filter_le _ _) ?_
 rw [List.length_map, List.length_range]; exact Nat.le_refl _
def amE (d : Int) : List Fm := if szE d = 0 then amL (-d) else []
theorem amE_0 {m d : Int} (h : szE d = 0) (hd : d = -m) : amE d = amL m := by
 unfold amE; rw [if_pos h, hd, Int.neg_neg]
theorem amE_1 {d : Int} (h : ¬ szE d = 0) : amE d = [] := by
 unfold amE; rw [if_neg h]
theorem take_snocF {l : List Fm} {k : Nat} (h : (k : Int) < l.length) : l.take k ++ [l.getD k ⟨0, 0, 0⟩] = l.take (k + 1) := by
 have hk : k < l.length := by omega
 rw [List.take_add_one, List.getElem?_eq_getElem hk]
 simp [List.getD, hk]
theorem okS_y {m d : Int} {f : Fm} (hd : d = -m) (h1 : f.b * f.b - 4 * f.a * f.c = d) (h2 : 0 ≤ f.b) (h3 : f.b ≤ f.a) (h4 : f.a ≤ f.c) (h5 : gg (gg f.a f.b) f.c = 1) : okS m f = true := by
 unfold okS; rw [decide_eq_true (h1.trans hd), decide_eq_true h2, decide_eq_true h3, decide_eq_true h4, decide_eq_true h5]; rfl
theorem okS_1 {m d : Int} {f : Fm} (hd : d = -m) (h1 : ¬ f.b * f.b - 4 * f.a * f.c = d) : okS m f = false := by
 unfold okS; rw [decide_eq_false (fun x => h1 (x.trans hd.symm))]; rfl
theorem okS_2 {m : Int} {f : Fm} (h : ¬ 0 ≤ f.b) : okS m f = false := by unfold okS; rw [decide_eq_false h]; simp
theorem okS_3 {m : Int} {f : Fm} (h : ¬ f.b ≤ f.a) : okS m f = false := by unfold okS; rw [decide_eq_false h]; simp
theorem okS_4 {m : Int} {f : Fm} (h : ¬ f.a ≤ f.c) : okS m f = false := by unfold okS; rw [decide_eq_false h]; simp
theorem okS_5 {m : Int} {f : Fm} (h : ¬ gg (gg f.a f.b) f.c = 1) : okS m f = false := by unfold okS; rw [decide_eq_false h]; simp
end Go.AM
end
section
namespace Go.AM
open Go Go.RowKit
theorem fx_e4 : gpE ⟨2, 2, 2⟩ ≠ 0 := by decide +kernel
theorem fx_srt : srt3 (amL (- -20)) := by
 have e : amL (- -20) = [⟨1, 0, 5⟩, ⟨2, 2, 3⟩] := by decide +kernel
 rw [e]
 intro i hi
 have : i = 0 := by simp at hi; omega
 subst this
 decide +kernel
theorem fx_hA : szE (-20) = 0 → (amL (- -20)).length ≤ 12 ∧ srt3 (amL (- -20)) := fun _ => ⟨by decide +kernel, fx_srt⟩
theorem fx_x1 : gpE ⟨2, 2, 3⟩ = 0 → ∃ x y : Int, 0 ≤ x ∧ x ≤ 1400000 ∧ 0 ≤ y ∧ y ≤ 1400000 ∧ Int.gcd (vl (Fm.rd ⟨2, 2, 3⟩).a (Fm.rd ⟨2, 2, 3⟩).b (Fm.rd ⟨2, 2, 3⟩).c x y) (2 * dsc (Fm.mk 2 2 3).a (Fm.mk 2 2 3).b (Fm.mk 2 2 3).c) = 1 := fun _ => ⟨0, 1, by decide +kernel⟩
theorem fx_x2 : gpE ⟨1, 0, 5⟩ = 0 → ∃ x y : Int, 0 ≤ x ∧ x ≤ 1400000 ∧ 0 ≤ y ∧ y ≤ 1400000 ∧ Int.gcd (vl (Fm.rd ⟨1, 0, 5⟩).a (Fm.rd ⟨1, 0, 5⟩).b (Fm.rd ⟨1, 0, 5⟩).c x y) (2 * dsc (Fm.mk 1 0 5).a (Fm.mk 1 0 5).b (Fm.mk 1 0 5).c) = 1 := fun _ => ⟨1, 0, by decide +kernel⟩
theorem fx_x3 : gpE ⟨1, 1, 6⟩ = 0 → ∃ x y : Int, 0 ≤ x ∧ x ≤ 1400000 ∧ 0 ≤ y ∧ y ≤ 1400000 ∧ Int.gcd (vl (Fm.rd ⟨1, 1, 6⟩).a (Fm.rd ⟨1, 1, 6⟩).b (Fm.rd ⟨1, 1, 6⟩).c x y) (2 * dsc (Fm.mk 1 1 6).a (Fm.mk 1 1 6).b (Fm.mk 1 1 6).c) = 1 := fun _ => ⟨1, 0, by decide +kernel⟩
end Go.AM
end
section
namespace Go.AM
open Go Go.RowKit
theorem chs_kind {d c : Int} (h0 : d < 0) (h : c ∈ chs d) : (c = -4 ∨ c = 8 ∨ c = -8) ∨ (3 ≤ c ∧ c % 2 = 1) := by
 unfold chs at h
 rcases List.mem_append.1 h with h | h
 ·have := oddC_mem h0 h; exact .inr ⟨this.1, this.2.1⟩
 ·have := (spC_mem h).2; exact .inl (by omega)
theorem cv_pm {d c N : Int} (h0 : d < 0) (h : c ∈ chs d) (hN : Int.gcd N (2 * d) = 1) : cv c N = 1 ∨ cv c N = -1 := by
 unfold chs at h
 rcases List.mem_append.1 h with h | h
 ·have q := oddC_mem h0 h
  unfold cv
  rw [if_neg (by omega)]
  exact kr_pm (by omega) q.2.1 (gcd_cop hN q.2.2)
 ·have q := (spC_mem h).2
  unfold cv
  rw [if_pos (by omega)]
  unfold sgB
  split
  ·exact .inl rfl
  ·exact .inr rfl
theorem neI {x y : Int} (h : x = y) : (x != y) = false := by rw [h]; simp
end Go.AM
end
section
namespace Go.AM
open Go Go.RowKit
section
end
end Go.AM
end
section
namespace Go.AM
open Go Go.RowKit
end Go.AM
end
section
namespace Go.AM
open Go Go.RowKit
section
end
end Go.AM
end
section
namespace Go.AM
open Go Go.RowKit
end Go.AM
end
section
namespace Go.AM
open Go Go.RowKit
end Go.AM
end
section
namespace Go.AM
open Go Go.RowKit
section
end
end Go.AM
end
section
namespace Go.AM
open Go Go.RowKit
end Go.AM
end
section
namespace Go.AM
open Go Go.RowKit
section
end
end Go.AM
end
section
namespace Go.AM
open Go Go.RowKit
end Go.AM
end
section
namespace Go.AM
open Go Go.RowKit
section
end
end Go.AM
end
section
namespace Go.AM
open Go Go.RowKit
end Go.AM
end
section
namespace Go.AM
open Go Go.RowKit
def amb (f : Fm) : Bool := decide (f.b = 0) || (decide (f.a = f.b) || decide (f.a = f.c))
end Go.AM
end
section
namespace Go.AM
open Go Go.RowKit
end Go.AM
end
section
namespace Go.AM
open Go Go.RowKit
end Go.AM
end
section
namespace Go.AM
open Go Go.RowKit
section
end
end Go.AM
end
section
namespace Go.AM
open Go Go.RowKit
end Go.AM
end
section
namespace Go.AM
open Go Go.RowKit
section
variable {A B C : Int}
theorem cop_stepM {p : Nat} (hp : Pr p) (pf : prim A B C = true) {a m k : Nat} (e : a = p ^ k * m) (hm : ¬ p ∣ m) {b : Nat} (ih : ∃ x y : Nat, Nat.Coprime (vl A B C x y).natAbs m ∧ x ≤ b ∧ y ≤ b) :
  ∃ x y : Nat, Nat.Coprime (vl A B C x y).natAbs a ∧ x ≤ b + 2 * m ∧ y ≤ b + 2 * m := by
 obtain ⟨x, y, hc, hbx, hby⟩ := ih
 obtain ⟨i, j, hi, hj, hv⟩ := grid hp pf hm (x : Int) (y : Int)
 have mi : m * i ≤ m * 2 := Nat.mul_le_mul_left m hi
 have mj : m * j ≤ m * 2 := Nat.mul_le_mul_left m hj
 refine ⟨x + m * i, y + m * j, ?_, by omega, by omega⟩
 have ex : ((x + m * i : Nat) : Int) = (x : Int) + m * i := by rw [Int.natCast_add, Int.natCast_mul]
 have ey : ((y + m * j : Nat) : Int) = (y : Int) + m * j := by rw [Int.natCast_add, Int.natCast_mul]
 rw [ex, ey]
 have c1 : Nat.Coprime (vl A B C ((x : Int) + m * i) (y + m * j)).natAbs m := by
  have hg := vl_congr (A := A) (B := B) (C := C) (m := (m : Int)) (x : Int) (y : Int) i j
  generalize vl A B C ((x : Int) + m * i) (y + m * j) = V at *
  generalize vl A B C (x : Int) (y : Int) = W at *
  have d1 := Nat.gcd_dvd_left V.natAbs m
  have d2 := Nat.gcd_dvd_right V.natAbs m
  have d3 : ((Nat.gcd V.natAbs m : Nat) : Int) ∣ W := by
   have e1 : ((Nat.gcd V.natAbs m : Nat) : Int) ∣ V := Int.ofNat_dvd_left.2 d1
   have e2 : ((Nat.gcd V.natAbs m : Nat) : Int) ∣ (m : Int) := Int.natCast_dvd_natCast.2 d2
   have e3 := Int.dvd_sub e1 (Int.dvd_trans e2 hg)
   have : V - (V - W) = W := by omega
   rwa [this] at e3
  have d4 := Nat.dvd_gcd (Int.ofNat_dvd_left.1 d3) d2
  unfold Nat.Coprime at hc ⊢
  rw [hc] at d4
  exact Nat.eq_one_of_dvd_one d4
 have c2 : Nat.Coprime (vl A B C ((x : Int) + m * i) (y + m * j)).natAbs p := pr_cop hp (fun h => hv (Int.ofNat_dvd_left.2 h))
 rw [e]
 exact Nat.Coprime.mul_right (Nat.Coprime.pow_right k c2) c1
theorem cop_2 (pf : prim A B C = true) : ∀ (n a : Nat), a ≤ n → 1 ≤ a → ∃ x y : Nat, Nat.Coprime (vl A B C x y).natAbs a ∧ x ≤ 2 * a ∧ y ≤ 2 * a
 | 0, a, h, h1 => by omega
 | n + 1, a, h, h1 => by
  by_cases h2 : a = 1
  ·subst h2
   exact ⟨0, 0, Nat.coprime_one_right _, by omega, by omega⟩
  ·obtain ⟨p, hp, hpa⟩ := has_pr a a (Nat.le_refl a) (by omega)
   obtain ⟨k, m, e, hm, m1, hle⟩ := split_pr hp a a (Nat.le_refl a) h1
   have hle := hle hpa
   have h3 : 2 * m ≤ p * m := Nat.mul_le_mul_right m hp.1
   obtain ⟨x, y, hc, hx, hy⟩ := cop_stepM hp pf e hm (cop_2 pf n m (by omega) m1)
   exact ⟨x, y, hc, by omega, by omega⟩
theorem pr_23 {q : Nat} (hq : Pr q) (h : q ≤ 23) : q ∣ 223092870 := by
 have h2 := hq.1
 rcases Nat.lt_or_ge 16 q with g | g
 ·rcases (show q = 17 ∨ q = 18 ∨ q = 19 ∨ q = 20 ∨ q = 21 ∨ q = 22 ∨ q = 23 by omega) with rfl | rfl | rfl | rfl | rfl | rfl | rfl
  ·decide
  ·rcases hq.2 2 9 (by decide) with g | g <;> revert g <;> decide
  ·decide
  ·rcases hq.2 4 5 (by decide) with g | g <;> revert g <;> decide
  ·rcases hq.2 3 7 (by decide) with g | g <;> revert g <;> decide
  ·rcases hq.2 2 11 (by decide) with g | g <;> revert g <;> decide
  ·decide
 ·exact Nat.dvd_trans (pr_small hq g) ⟨7429, by decide⟩
theorem prime19 : Pr 19 := ⟨by omega, fun x y h => by
 have e : (x * y) % 19 = ((x % 19) * (y % 19)) % 19 := Nat.mul_mod ..
 have h1 : (x * y) % 19 = 0 := Nat.mod_eq_zero_of_dvd h
 have key : ∀ u v : Fin 19, (u.val * v.val) % 19 = 0 → u.val = 0 ∨ v.val = 0 := by decide +kernel
 rcases key ⟨x % 19, Nat.mod_lt _ (by omega)⟩ ⟨y % 19, Nat.mod_lt _ (by omega)⟩ (by rw [← e]; exact h1) with g | g
 ·exact .inl (Nat.dvd_of_mod_eq_zero g)
 ·exact .inr (Nat.dvd_of_mod_eq_zero g)⟩
theorem prime23 : Pr 23 := ⟨by omega, fun x y h => by
 have e : (x * y) % 23 = ((x % 23) * (y % 23)) % 23 := Nat.mul_mod ..
 have h1 : (x * y) % 23 = 0 := Nat.mod_eq_zero_of_dvd h
 have key : ∀ u v : Fin 23, (u.val * v.val) % 23 = 0 → u.val = 0 ∨ v.val = 0 := by decide +kernel
 rcases key ⟨x % 23, Nat.mod_lt _ (by omega)⟩ ⟨y % 23, Nat.mod_lt _ (by omega)⟩ (by rw [← e]; exact h1) with g | g
 ·exact .inl (Nat.dvd_of_mod_eq_zero g)
 ·exact .inr (Nat.dvd_of_mod_eq_zero g)⟩
theorem dvd_off {q n g : Nat} (hq : Pr q) (h : g ∣ q * n) (hg : ¬ q ∣ g) : g ∣ n :=
 Nat.Coprime.dvd_of_dvd_mul_left (pr_cop hq hg) h
theorem big_510 {m : Nat} (h : m ∣ 510510) (h2 : m < 510510) : m ≤ 255255 := by
 obtain ⟨k, hk⟩ := h
 rcases (show k = 0 ∨ k = 1 ∨ 2 ≤ k by omega) with rfl | rfl | g
 ·omega
 ·omega
 ·have := Nat.mul_le_mul_left m g
  omega
theorem cop_g (pf : prim A B C = true) {g : Nat} (h1 : 1 ≤ g) (h2 : g ≤ 8388608) (hd : g ∣ 223092870) : ∃ x y : Nat, Nat.Coprime (vl A B C x y).natAbs g ∧ x ≤ 1400000 ∧ y ≤ 1400000 := by
 by_cases h23 : 23 ∣ g
 ·obtain ⟨m, rfl⟩ := h23
  have hm : m ∣ 9699690 := Nat.dvd_of_mul_dvd_mul_left (by omega : 0 < 23) (show 23 * m ∣ 23 * 9699690 from hd)
  have hn : ¬ 23 ∣ m := fun h => by have := Nat.dvd_trans h hm; revert this; decide
  rcases Nat.lt_or_ge 350000 m with q | q
  ·by_cases h19 : 19 ∣ m
   ·obtain ⟨t, rfl⟩ := h19
    have ht : t ∣ 510510 := Nat.dvd_of_mul_dvd_mul_left (by omega : 0 < 19) (show 19 * t ∣ 19 * 510510 from hm)
    have hn2 : ¬ 19 ∣ t := fun h => by have := Nat.dvd_trans h ht; revert this; decide
    have c1 := cop_stepM prime19 pf (a := 19 * t) (k := 1) (by omega) hn2 (cop_2 pf t t (Nat.le_refl t) (by omega))
    obtain ⟨x, y, hc, hx, hy⟩ := cop_stepM prime23 pf (a := 23 * (19 * t)) (k := 1) (by omega) hn c1
    exact ⟨x, y, hc, by omega, by omega⟩
   ·have h5 : m ∣ 510510 := dvd_off prime19 (show m ∣ 19 * 510510 from hm) h19
    have := big_510 h5 (by omega)
    omega
  ·obtain ⟨x, y, hc, hx, hy⟩ := cop_stepM prime23 pf (a := 23 * m) (k := 1) (by omega) hn (cop_2 pf m m (Nat.le_refl m) (by omega))
   exact ⟨x, y, hc, by omega, by omega⟩
 ·have hm : g ∣ 9699690 := dvd_off prime23 (show g ∣ 23 * 9699690 from hd) h23
  by_cases h19 : 19 ∣ g
  ·obtain ⟨t, rfl⟩ := h19
   have ht : t ∣ 510510 := Nat.dvd_of_mul_dvd_mul_left (by omega : 0 < 19) (show 19 * t ∣ 19 * 510510 from hm)
   have hn2 : ¬ 19 ∣ t := fun h => by have := Nat.dvd_trans h ht; revert this; decide
   have := big_510 ht (by omega)
   obtain ⟨x, y, hc, hx, hy⟩ := cop_stepM prime19 pf (a := 19 * t) (k := 1) (by omega) hn2 (cop_2 pf t t (Nat.le_refl t) (by omega))
   exact ⟨x, y, hc, by omega, by omega⟩
  ·have h5 : g ∣ 510510 := dvd_off prime19 (show g ∣ 19 * 510510 from hm) h19
   have := Nat.le_of_dvd (by omega) h5
   obtain ⟨x, y, hc, hx, hy⟩ := cop_2 pf g g (Nat.le_refl g) h1
   exact ⟨x, y, hc, by omega, by omega⟩
theorem cop_lim (pf : prim A B C = true) {a : Nat} (h1 : 1 ≤ a) (h2 : a ≤ 8388608) : ∃ x y : Nat, Nat.Coprime (vl A B C x y).natAbs a ∧ x ≤ 1400000 ∧ y ≤ 1400000 := by
 by_cases h : ∃ p, Pr p ∧ p ∣ a ∧ 24 ≤ p
 ·obtain ⟨p, hp, hpa, h24⟩ := h
  obtain ⟨k, m, e, hm, m1, hle⟩ := split_pr hp a a (Nat.le_refl a) h1
  have hle := hle hpa
  have h3 : 24 * m ≤ p * m := Nat.mul_le_mul_right m h24
  obtain ⟨x, y, hc, hx, hy⟩ := cop_stepM hp pf e hm (cop_2 pf m m (Nat.le_refl m) m1)
  exact ⟨x, y, hc, by omega, by omega⟩
 ·have hg1 : 1 ≤ Nat.gcd a 223092870 := Nat.gcd_pos_of_pos_left _ (by omega)
  have hg2 := Nat.le_of_dvd (by omega) (Nat.gcd_dvd_left a 223092870)
  obtain ⟨x, y, hc, hx, hy⟩ := cop_g pf hg1 (by omega) (Nat.gcd_dvd_right a 223092870)
  refine ⟨x, y, ?_, hx, hy⟩
  by_cases g : Nat.Coprime (vl A B C x y).natAbs a
  ·exact g
  ·exfalso
   obtain ⟨q, hq, d1, d2⟩ := not_cop h1 g
   have h16 : q ≤ 23 := by
    rcases Nat.lt_or_ge 23 q with g | g
    ·exact absurd ⟨q, hq, d2, g⟩ h
    ·exact g
   have d3 := Nat.dvd_gcd d1 (Nat.dvd_gcd d2 (pr_23 hq h16))
   unfold Nat.Coprime at hc
   rw [hc] at d3
   have := Nat.le_of_dvd (by omega) d3
   have := hq.1
   omega
end
theorem cop_exA {d : Int} {g : Fm} (hg : Cl d g) (h0 : d < 0) (hd : -4194304 ≤ d) : ∃ x y : Int, 0 ≤ x ∧ x ≤ 1400000 ∧ 0 ≤ y ∧ y ≤ 1400000 ∧ Int.gcd (vl g.a g.b g.c x y) (2 * d) = 1 := by
 obtain ⟨x, y, h1, h2, h3⟩ := cop_lim hg.prim (a := (2 * d).natAbs) (by omega) (by omega)
 exact ⟨x, y, by omega, by omega, by omega, by omega, h1⟩
theorem gp_hx {f : Fm} : gpE f = 0 → ∃ x y : Int, 0 ≤ x ∧ x ≤ 1400000 ∧ 0 ≤ y ∧ y ≤ 1400000 ∧ Int.gcd (vl f.rd.a f.rd.b f.rd.c x y) (2 * dsc f.a f.b f.c) = 1 := fun h => by
 obtain ⟨h1, h2⟩ := gpE_cl h
 obtain ⟨_, h3, h4⟩ := gnV_0 h2
 exact cop_exA h1.rd h3 h4
end Go.AM
end
