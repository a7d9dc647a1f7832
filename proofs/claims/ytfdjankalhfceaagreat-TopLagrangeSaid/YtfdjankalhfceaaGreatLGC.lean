/- Loops over functions that may be left early; functions that are ranged over and hand over to the caller's loop out of a loop over a function of their own. -/
import Derived.Test.YtfdjankalhfceaaGreatLGB
import Derived.RangeFuncLeaves
import Derived.Laws.IdiomRangeMap
import Derived.Maps.RangeRun
import Derived.ChangeKeysEq
import Derived.Laws.StructEq
import Derived.Shelf.SlSortCmp.NoneTotal
import Derived.Laws.IdiomStrings
section
namespace Go.AM
open Go Go.RowKit
/-- the round's number after a round: k + 1 if yield says to go on, else a number past the list's length -/
def nx (n k : Nat) (b : Bool) : Nat := bif b then k + 1 else n + 1 + k
structure KeepsB (n0 : Nat) (J : Nat → Hp → (Nat → Prop) → World → Prop) : Prop where
  hi : ∀ k h G W, J k h G W → ∀ i o, h i = some o → W.heap[i]? = some o
  g : ∀ k h G W, J k h G W → ∀ i, G i → i < W.heap.size ∧ h i = none
  rest : ∀ k h G W h' W', J k h G W → Rest n0 G h W h' W' → J k h' G W'
/-- What the user of a loop over a function keeps; a round may say that the loop is to end. -/
structure Keeps2 (P : Program) (l : Nat) (xs : List (List PV)) (n0 : Nat) (J : Nat → Hp → (Nat → Prop) → World → Prop) : Prop extends KeepsB n0 J where
  give : ∀ k h G W x vals, xs[k]? = some x → J k h G W → PReps h x vals → YieldAt (Wd none) 0 P l vals.toArray W fun e W' => ∃ b, e = .returned (.bool b) ∧ ∃ h' G', J (nx xs.length k b) h' G' W' ∧ Gave G h W G' h' W'
/-- A function that is ranged over: it hands the elements of xs to yield, one after another, until yield says no; nothing else that was there changes. -/
structure Iter2 (P : Program) (gf : FuncId) (caps : List (List DV)) (xs : List (List PV)) : Prop where
  fn : FnOK P gf
  go : ∀ (l : Nat) (lb : Array Value) (J : Nat → Hp → (Nat → Prop) → World → Prop) (h : Hp) (G : Nat → Prop) (W : World) (n0 : Nat), n0 ≤ W.heap.size → CapsRep h caps lb.toList → GlOK h → Keeps2 P l xs n0 J → J 0 h G W →
    CallsIn (Wd none) 0 P gf (#[.func (.yield l) #[] #[]] ++ lb) W fun e W' => (∃ v, e = .returned v) ∧ ∃ kf h' G', xs.length ≤ kf ∧ J kf h' G' W'
/-- how a round may end: off its end; by a return or an exit that the statement then takes -/
def RoundQ (np' : Nat) (Q : Exit → St → Prop) (l : List (Nat × AV)) (o1 : Own) (I1 : Prop) : Exit → St → Prop
  | .normal, s' => GW np' s'.own o1 ∧ I1
  | .ret, s' => ∃ o, GW np' s'.own o ∧ Q .ret ⟨look l, o⟩
  | .exit id, s' => ∃ o, GW np' s'.own o ∧ Q (.exit id) ⟨look l, o⟩
  | _, _ => False
def Left (n : Nat) (own : Nat → Own) (I : Nat → Prop) (Q : Exit → St → Prop) (l : List (Nat × AV)) (k : Nat) (o : Own) (st : LoopState) (pe : Option Code) : Prop :=
  (k ≤ n ∧ o = own k ∧ st = .ready ∧ pe = none ∧ I k) ∨ (n < k ∧ st = .done ∧ ((pe = some .ret ∧ Q .ret ⟨look l, o⟩) ∨ ∃ id, pe = some (.exit id) ∧ Q (.exit id) ⟨look l, o⟩))
theorem preps_len {h : Hp} : ∀ (ps : List PV) (vs : List Value), PReps h ps vs → vs.length = ps.length
  | [], [], _ => rfl
  | [], _ :: _, k => k.elim
  | _ :: _, [], k => k.elim
  | _ :: ps, _ :: vs, k => by simp [preps_len ps vs k.2]
set_option maxHeartbeats 1000000 in
/-- A loop over a function. -/
theorem AWp_range2 {P : Program} {N np : Nat} {Q : Exit → St → Prop} {l : List (Nat × AV)} {g : Operand} {ps : Array Tmp} {assign body : Code} {gf : FuncId} {caps : List (List DV)} {xs : List (List PV)} (np' : Nat) (own : Nat → Own) (I : Nat → Prop)
    (hg : ev (look l) g = .fn gf caps) (hit : Iter2 P gf caps xs) (hps : ∀ x ∈ xs, x.length = ps.toList.length)
    (hfix : menB np' l = true) (hnp : Nat.ble np np' = true) (hpN : (ps.toList.all fun p => Nat.blt p N) = true)
    (hI : I 0) (hround : ∀ (k : Nat) (x : List PV), xs[k]? = some x → I k → AWp P true N np' assign (AThen (AWp P true N np' body (RoundQ np' Q l (own (k + 1)) (I (k + 1)))) (fun _ _ => False)) ⟨setPs (look l) ps.toList x, own k⟩)
    (hdone : I xs.length → Q .normal ⟨look l, own xs.length⟩) : AWp P false N np (.rangeFunc g ps assign body) Q ⟨look l, own 0⟩ := by
  intro ro hB C hh r a w hn hc
  have hro : ro = none := hB rfl
  subst hro
  have hnp' := Nat.le_of_ble_eq_true hnp
  have hmar : C.mar = true := hn.2
  refine wpIn_rangeFunc ?_
  intro fn _
  have hgv := rep_ev hc.rg g
  rw [hg] at hgv
  obtain ⟨lb, hval, hcaps⟩ := hgv
  obtain ⟨rec, hrec⟩ : ∃ rec : LoopState → Option Code → Loop, rec = fun st pe => { state := st, pending := pe, fn, tmps := a.tmps, params := ps, assign, body, defers := w.heap.size } := ⟨_, rfl⟩
  obtain ⟨W1, hW1⟩ : ∃ W1, (w.alloc (.deferred (some []))).alloc (.loop (rec .ready none)) = W1 := ⟨_, rfl⟩
  obtain ⟨hw1, hle1⟩ := hc.wk.imm (.deferred (some []))
  obtain ⟨h1, hh1⟩ : ∃ h1 : Hp, h1 = fun i => if i = w.heap.size then some (.deferred (some [])) else hh i := ⟨_, rfl⟩
  rw [← hh1] at hw1 hle1
  have hs1 : W1.heap.size = w.heap.size + 2 := by rw [← hW1]; simp
  have hold1 : ∀ i, i < (w.alloc (.deferred (some []))).heap.size → W1.heap[i]? = (w.alloc (.deferred (some []))).heap[i]? := fun i hi => by
    rw [← hW1, heap_alloc, if_neg (by omega)]
  have hw2 : WOK C h1 r (own 0) W1 := hw1.beside (by rw [← hW1]; rfl) (by rw [← hW1]; rfl) (by rw [← hW1]; exact ⟨rfl, Nat.le_refl _⟩) (by rw [hs1]; simp) hold1
  have hL1 : W1.heap[w.heap.size + 1]? = some (.loop (rec .ready none)) := by
    rw [← hW1, heap_alloc, if_pos (by simp)]
  have hD0 : hh w.heap.size = none := by
    cases e : hh w.heap.size with
    | none => rfl
    | some o => have := hc.wk.hlt e; omega
  have hhL : h1 (w.heap.size + 1) = none := by
    rw [hh1]
    show (if w.heap.size + 1 = w.heap.size then _ else hh (w.heap.size + 1)) = none
    rw [if_neg (by omega)]
    cases e : hh (w.heap.size + 1) with
    | none => rfl
    | some o => have := hc.wk.hlt e; omega
  have hnoL : ∀ m, own 0 m ≠ none → hblk (r m) ≠ some (w.heap.size + 1) := fun m hm e => by
    have := hc.wk.lt hm e; omega
  have hD1 : h1 w.heap.size = some (.deferred (some [])) := by rw [hh1]; exact if_pos rfl
  generalize hLL : w.heap.size + 1 = L at *
  have hCL : C.w0.heap.size ≤ L := by have := hc.wk.size; omega
  refine ⟨L, [{ target := .collected w.heap.size, args := #[] }], W1, { target := .fn (.func gf) lb, args := #[.func (.yield L) #[] #[]] }, W1, gf, #[.func (.yield L) #[] #[]] ++ lb, W1, ?_, ?_, fun _ _ => trivial, ?_, fun e => by simp [Wd] at e, ?_⟩
  · rw [← hW1, hrec, ← hLL]; exact run_enterLoop_outer _ _ _ _ _
  · simp only [resolve, hval]
    simp [go_sem]
  · have eg : ∀ args w, (callFunc gf args).run P w = .ok (.enter gf args) w := fun args w => run_callFunc hit.fn args w
    simp [invoke, go_sem, eg]
  · have hmen := look_men hfix
    obtain ⟨J, hJ⟩ : ∃ J : Nat → Hp → (Nat → Prop) → World → Prop, J = fun k h G W => ∃ r' o st pe, (∀ m, m < np' → r' m = r m) ∧ WOK C h r' o W ∧ W.heap[L]? = some (.loop (rec st pe)) ∧ h L = none ∧ (∀ m, o m ≠ none → hblk (r' m) ≠ some L) ∧ Hle h1 h ∧
        (G = fun i => i = L ∨ ∃ m, o m ≠ none ∧ hblk (r' m) = some i) ∧ Left xs.length own I Q l k o st pe := ⟨_, rfl⟩
    have hrg : ∀ h r', Hle h1 h → (∀ m, m < np' → r' m = r m) → RegsOK h r' (look l) a := fun h r' hl hr t =>
      AVRep.rebind _ _ (fun m hm => hr m (hmen t m hm)) (AVRep.mono (hle1.trans hl) _ _ (hc.rg t))
    refine CallsIn.mono (hit.go L lb J h1 (fun i => i = L ∨ ∃ m, own 0 m ≠ none ∧ hblk (r m) = some i) W1 C.w0.heap.size hw2.size (hcaps.mono hle1) hw2.gl ⟨⟨?_, ?_, ?_⟩, ?_⟩ ?_) ?_
    · intro k h G W hk
      rw [hJ] at hk
      obtain ⟨r', o, st, pe, _, q, _⟩ := hk
      exact q.hi
    · intro k h G W hk i hi
      rw [hJ] at hk
      obtain ⟨r', o, st, pe, e1, e2, e3, e4, e5, e6, rfl, e8⟩ := hk
      rcases hi with rfl | ⟨m, hm, e⟩
      · exact ⟨(Array.getElem?_eq_some_iff.1 e3).1, e4⟩
      · exact ⟨e2.lt hm e, e2.ho m i hm e⟩
    · intro k h G W h' W' hk q
      rw [hJ] at hk ⊢
      obtain ⟨r', o, st, pe, e1, e2, e3, e4, e5, e6, rfl, e8⟩ := hk
      have hlt : L < W.heap.size := (Array.getElem?_eq_some_iff.1 e3).1
      refine ⟨r', o, st, pe, e1, e2.rest q (fun m i hm e => .inr ⟨m, hm, e⟩) (Nat.le_refl _), ?_, ?_, e5, e6.trans q.hg, rfl, e8⟩
      · rcases q.old L hlt with g | ⟨_, g, _⟩
        · rw [g]; exact e3
        · exact absurd (.inl rfl) g
      · cases e : h' L with
        | none => rfl
        | some o' =>
          rcases q.hn L (by rw [e]; simp) with g | g
          · exact absurd e4 g
          · exact absurd (.inl rfl) g.2
    · intro k h G W x vals hx hk hv
      rw [hJ] at hk
      obtain ⟨r', o, st, pe, e1, e2, e3, e4, e5, e6, rfl, e8⟩ := hk
      have hkl : k < xs.length := (List.getElem?_eq_some_iff.1 hx).1
      obtain ⟨_, rfl, rfl, rfl, hIk⟩ : k ≤ xs.length ∧ o = own k ∧ st = .ready ∧ pe = none ∧ I k := by
        rcases e8 with e8 | e8
        · exact e8
        · omega
      have hlen : x.length = ps.toList.length := hps x (List.mem_of_getElem? hx)
      have hvl : vals.length = x.length := preps_len _ _ hv
      have hsz : vals.toArray.size = (rec .ready none).params.size := by
        rw [hrec]
        show vals.length = ps.size
        rw [hvl, hlen]; simp
      refine ⟨_, _, _, _, run_yield e3 hsz, roundIn_of_wpIn trivial ?_⟩
      rw [hrec]
      show assign.wpIn (Wd (some L)) 0 P _ { tmps := (ps.zip vals.toArray).foldl (fun t (p, v) => t.setIfInBounds p v) a.tmps, defers := [] } W
      have hzip : (ps.zip vals.toArray).foldl (fun t (p, v) => t.setIfInBounds p v) a.tmps = (ps.toList.zip vals).foldl (fun t (p, v) => t.setIfInBounds p v) a.tmps := by
        rw [← Array.foldl_toList, Array.toList_zip]
      rw [hzip]
      obtain ⟨f1, f2⟩ := foldl_zip_set (r := r') ps.toList x vals (look l) a.tmps hv hlen (fun p hp => by
        have := List.all_eq_true.1 hpN p hp
        rw [hc.sz]; simpa using this) (fun t => hrg h r' e6 e1 t)
      refine wpIn_mono (hround k x hx hIk (some L) (fun e => by cases e) (Ctx.round h r' (own k) W np') h r' _ W ⟨rfl, rfl⟩ ⟨f2.trans hc.sz, trivial, f1, e2.enter⟩) ?_
      rintro e a1 w1 ⟨s1, h2, r2, q1, c1⟩
      cases e with
      | normal =>
        have hwk1 := e2.leave c1.wk (Nat.le_trans (Nat.le_of_eq hn.1) hnp')
        obtain ⟨g1, g2, g3⟩ := WOK.rec_left e5 c1.wk e3 e4
        have hd1 : a1.defers = [] := by
          have := c1.df
          cases hd : a1.defers with
          | nil => rfl
          | cons d ds => rw [hd] at this; cases this.1
        have hw3 := hwk1.putL (o := .loop { rec .ready none with state := .busy }) g3 g2 hCL
        have hLw : L < w1.heap.size := (Array.getElem?_eq_some_iff.1 g1).1
        have hLb : (w1.putObj L (.loop { rec .ready none with state := .busy })).heap[L]? = some (.loop { rec .ready none with state := .busy }) := World.putObj_heap_same hLw
        refine ⟨_, run_beginRound g1 (by rw [hrec]), ?_⟩
        refine wpIn_mono (q1 (some L) (fun e => by cases e) (Ctx.round h2 r2 s1.own _ np') h2 r2 a1 _ ⟨rfl, rfl⟩ ⟨c1.sz, by rw [hd1]; trivial, c1.rg, hw3.enter⟩) ?_
        rintro e a2 w2 ⟨s2, h3, r3, q2, c2⟩
        have fin : ∀ (jump : Option Code) (o2 : Own), GW np' s2.own o2 → Left xs.length own I Q l (nx xs.length k jump.isNone) o2 (if jump.isNone then .ready else .done) jump → ∃ v w', (Instr.endRound L jump).run P w2 = .ok v w' ∧ ∃ b, Ending.returned v = .returned (.bool b) ∧ ∃ h' G', J (nx xs.length k b) h' G' w' ∧ Gave (fun i => i = L ∨ ∃ m, own k m ≠ none ∧ hblk (r' m) = some i) h W G' h' w' := by
          intro jump o2 q2 hleft
          have hwk2 := hw3.leave c2.wk (Nat.le_trans (Nat.le_of_eq hn.1) hnp')
          obtain ⟨k1, k2, k3⟩ := WOK.rec_left g3 c2.wk hLb g2
          obtain ⟨r4, q3, hwk3, q4⟩ := q2 C h3 r3 w2 (Nat.le_trans (Nat.le_of_eq hn.1) hnp') hwk2
          have k3' : ∀ m, o2 m ≠ none → hblk (r4 m) ≠ some L := fun m hm e => by
            obtain ⟨m2, g1, g2⟩ := q4 m L hm e
            exact k3 m2 g1 g2
          have F2 : ∀ i, (Ctx.round h2 r2 s1.own (w1.putObj L (.loop { rec .ready none with state := .busy })) np').F i → W.heap.size ≤ i ∨ ∃ m, own k m ≠ none ∧ hblk (r' m) = some i := by
            rintro i ⟨m, hm, e⟩; exact c1.wk.fo m i hm e
          have sz1 : W.heap.size ≤ w1.heap.size := c1.wk.size
          have sz2 : w1.heap.size ≤ w2.heap.size := by have : (w1.putObj L _).heap.size ≤ w2.heap.size := c2.wk.size; rwa [size_putObj'] at this
          refine ⟨_, _, run_endRound jump k1, _, rfl, h3, fun i => i = L ∨ ∃ m, o2 m ≠ none ∧ hblk (r4 m) = some i, ?_, ?_⟩
          · rw [hJ]
            refine ⟨r4, o2, if jump.isNone then .ready else .done, jump, fun m hm => ?_, hwk3.putL k3' k2 hCL, ?_, k2, k3', e6.trans (c1.wk.hg.trans c2.wk.hg), rfl, hleft⟩
            · rw [q3 m hm, c2.wk.kp m hm]
              show r2 m = r m
              rw [c1.wk.kp m hm]
              exact e1 m hm
            · rw [World.putObj_heap_same (Array.getElem?_eq_some_iff.1 k1).1, hrec]
          · refine ⟨c2.wk.os.trans c1.wk.os, c2.wk.tape.trans c1.wk.tape, c2.wk.output.trans c1.wk.output, by rw [size_putObj']; omega, fun i hi hg => ?_, c1.wk.hg.trans c2.wk.hg, fun i hi => ?_, fun i hi => ?_⟩
            · have hiL : i ≠ L := fun x => hg (.inl x)
              rw [putObj_other hiL, c2.wk.old i (by rw [show (Ctx.round h2 r2 s1.own (w1.putObj L (.loop { rec .ready none with state := .busy })) np').w0.heap.size = w1.heap.size from size_putObj' _ _ _]; omega) (fun x => by
                rcases F2 i x with g | g
                · omega
                · exact hg (.inr g))]
              show (w1.putObj L _).heap[i]? = _
              rw [putObj_other hiL]
              exact c1.wk.old i hi (fun x => hg (.inr x))
            · rcases c2.wk.hn i hi with g | g | g
              · rcases c1.wk.hn i g with g | g | g
                · exact .inl g
                · exact .inr (.inl g)
                · exact .inr (.inr (.inr g))
              · have g' : (w1.putObj L (.loop { rec .ready none with state := .busy })).heap.size ≤ i := g
                rw [size_putObj'] at g'
                exact .inr (.inl (by omega))
              · rcases F2 i g with g | g
                · exact .inr (.inl g)
                · exact .inr (.inr (.inr g))
            · rcases hi with rfl | ⟨m, hm, e⟩
              · exact .inl (.inl rfl)
              · obtain ⟨m2, g1, g2⟩ := q4 m i hm e
                rcases c2.wk.fo m2 i g1 g2 with g | g
                · have g' : (w1.putObj L (.loop { rec .ready none with state := .busy })).heap.size ≤ i := g
                  rw [size_putObj'] at g'
                  exact .inr (by omega)
                · rcases F2 i g with g | g
                  · exact .inr g
                  · exact .inl (.inr g)
        cases e with
        | normal => exact fin none _ q2.1 (.inl ⟨hkl, rfl, rfl, rfl, q2.2⟩)
        | ret =>
          obtain ⟨o2, g1, g2⟩ := q2
          exact fin (some .ret) o2 g1 (.inr ⟨(by show xs.length < xs.length + 1 + k; omega), rfl, .inl ⟨rfl, g2⟩⟩)
        | exit id =>
          obtain ⟨o2, g1, g2⟩ := q2
          exact fin (some (.exit id)) o2 g1 (.inr ⟨(by show xs.length < xs.length + 1 + k; omega), rfl, .inr ⟨id, rfl, g2⟩⟩)
        | _ => exact q2.elim
      | _ => exact q1.elim
    · rw [hJ]
      exact ⟨r, own 0, .ready, none, fun _ _ => rfl, hw2, hL1, hhL, hnoL, .refl _, rfl, .inl ⟨Nat.zero_le _, rfl, rfl, rfl, hI⟩⟩
    · rintro e W3 ⟨⟨v, rfl⟩, kf, h', G', hkf, hk⟩
      rw [hJ] at hk
      obtain ⟨r', o, st, pe, e1, e2, e3, e4, e5, e6, _, e8⟩ := hk
      have fin : ∀ (ob : Obj) (q : Exit), Q q ⟨look l, o⟩ → ∃ s' h' r', Q q s' ∧ Conc C N h' r' s' { a with defers := [{ target := .collected w.heap.size, args := #[] }] ++ a.defers } (W3.putObj L ob) := fun ob q hq => by
        refine ⟨⟨look l, o⟩, h', r', hq, hc.sz, ?_, fun t => hrg h' r' e6 e1 t, e2.putL e5 e4 hCL⟩
        refine ⟨hmar, ⟨w.heap.size, rfl, hc.wk.size, ?_, e6 _ _ hD1, marks_ne hD0 hc.df⟩, hc.df.mono (hle1.trans e6)⟩
        cases e : C.h0 w.heap.size with
        | none => rfl
        | some o => have := hc.wk.hg _ _ e; rw [hD0] at this; cases this
      have hbusy : (rec st pe).state ≠ .busy := by
        rw [hrec]
        rcases e8 with ⟨_, _, h3, _⟩ | ⟨_, h3, _⟩ <;> (show st ≠ _; rw [h3]; simp)
      have hpe : (rec st pe).pending = pe := by rw [hrec]
      refine ⟨pe, _, by have := run_endLoop (P := P) e3 hbusy; rw [hpe] at this; exact this, ?_⟩
      rcases e8 with ⟨h1, rfl, _, rfl, hIk⟩ | ⟨_, _, ⟨rfl, h4⟩ | ⟨id, rfl, h4⟩⟩
      · have : kf = xs.length := by omega
        subst this
        exact fin _ .normal (hdone hIk)
      · exact wpIn_ret (fin _ .ret h4)
      · exact wpIn_exit (fin _ (.exit id) h4)
end Go.AM
end

section
/- A function that is ranged over, walked: its rounds may be told to end; rounds of its own loops over functions too. -/
namespace Go.AM
open Go Go.RowKit
theorem roundW {ro : Option Nat} {P : Program} {l : Nat} {f : FuncId} {tmps : Array Value} {assign body : Code} {w : World} {R : Ending → World → Prop} (h : RoundIn (Wd none) 0 P l f tmps assign body w R) : RoundIn (Wd ro) 0 P l f tmps assign body w R := h
theorem Gave.start {h : Hp} {W : World} {G F : Nat → Prop} (hs : ∀ i, F i → False) : Gave G h W (fun i => G i ∨ F i) h W :=
  ⟨rfl, rfl, .refl _, Nat.le_refl _, fun _ _ _ => rfl, .refl _, fun _ e => .inl e, fun i e => e.elim .inl fun x => (hs i x).elim⟩
section
variable (P : Program) (l : Nat) (xs : List (List PV)) (n0 : Nat) (J : Nat → Hp → (Nat → Prop) → World → Prop) (N np : Nat)
/-- what a walk of an iterator begins with: the names that stay, the world, the blocks that may be written -/
structure SK where
  r0 : Nat → Value
  h : Hp
  W : World
  F : Nat → Prop
def ownB (s : St) (r : Nat → Value) (i : Nat) : Prop := ∃ m, s.own m ≠ none ∧ hblk (r m) = some i
structure CK (S : SK) (k : Nat) (G : Nat → Prop) (h : Hp) (r : Nat → Value) (s : St) (a : Act) (w : World) : Prop where
  sz : a.tmps.size = N
  df : a.defers = []
  rg : RegsOK h r s.regs a
  kj : ∃ C : Ctx, WOK C h r s.own w ∧ J k C.h0 G C.w0 ∧ n0 ≤ C.w0.heap.size ∧ (∀ i, C.F i → n0 ≤ i ∧ ¬ G i ∧ C.h0 i = none) ∧ C.np = np ∧ C.mar = false ∧ (∀ m, m < np → C.r0 m = S.r0 m) ∧ Gave S.F S.h S.W (fun i => G i ∨ C.F i) C.h0 C.w0
def AK (c : Code) (Q : Exit → Nat → St → Prop) (k : Nat) (s : St) : Prop :=
  ∀ (ro : Option Nat) (S : SK) (h : Hp) (r : Nat → Value) (a : Act) (w : World) (G : Nat → Prop), CK n0 J N np S k G h r s a w →
    c.wpIn (Wd ro) 0 P (fun e a' w' => ∃ k' s' h' r' G', Q e k' s' ∧ CK n0 J N np S k' G' h' r' s' a' w') a w
def RY (Q : Exit → Nat → St → Prop) (ops : Array Oper) (os : List Oper) (i : Nat) (k : Nat) (s : St) : Prop := ops.toList.drop i = os →
  ∀ (ro : Option Nat) (S : SK) (h : Hp) (r : Nat → Value) (a : Act) (w : World) (G : Nat → Prop), CK n0 J N np S k G h r s a w →
    wpOpsIn (Wd ro) 0 P ops (fun e a' w' => ∃ k' s' h' r' G', Q e k' s' ∧ CK n0 J N np S k' G' h' r' s' a' w') (List.range' i os.length) a w
end
section
variable {P : Program} {l : Nat} {xs : List (List PV)} {n0 : Nat} {J : Nat → Hp → (Nat → Prop) → World → Prop} {N np : Nat} 
variable {Q : Exit → Nat → St → Prop} {k : Nat} {s : St}
theorem CK.now {S : SK} (hK : KeepsB n0 J) {G : Nat → Prop} {h : Hp} {r : Nat → Value} {a : Act} {w : World} (c : CK n0 J N np S k G h r s a w) : J k h G w := by
  obtain ⟨C, hw, hj, hs, hF, _, _, _, _⟩ := c.kj
  have hg := hK.g _ _ _ _ hj
  refine hK.rest _ _ _ _ _ _ hj ⟨hw.os, hw.tape, hw.output, hw.size, fun i hi => ?_, hw.hi, hw.hg, fun i hi => ?_⟩
  · by_cases e : C.F i
    · exact .inr (hF i e)
    · exact .inl (hw.old i hi e)
  · rcases hw.hn i hi with g | g | g
    · exact .inl g
    · exact .inr ⟨Nat.le_trans hs g, fun x => by have := (hg i x).1; omega⟩
    · exact .inr ⟨(hF i g).1, (hF i g).2.1⟩
theorem CK.notG {S : SK} (hK : KeepsB n0 J) {G : Nat → Prop} {h : Hp} {r : Nat → Value} {a : Act} {w : World} (c : CK n0 J N np S k G h r s a w) {m i : Nat} (hm : s.own m ≠ none) (e : hblk (r m) = some i) : n0 ≤ i ∧ ¬ G i ∧ i < w.heap.size ∧ h i = none := by
  obtain ⟨C, hw, hj, hs, hF, _, _, _, _⟩ := c.kj
  refine ⟨?_, ?_, hw.lt hm e, hw.ho m i hm e⟩
  · rcases hw.fo m i hm e with g | g
    · exact Nat.le_trans hs g
    · exact (hF i g).1
  · rcases hw.fo m i hm e with g | g
    · exact fun x => by have := (hK.g _ _ _ _ hj i x).1; omega
    · exact (hF i g).2.1
theorem CK.bool {S : SK} {G : Nat → Prop} {h : Hp} {r : Nat → Value} {a : Act} {w : World} (hc : CK n0 J N np S k G h r s a w) {c : Operand} {b : Bool} (he : ev s.regs c = .p (.c (.v (.bool b)))) : a.eval c = .bool b := by
  have := rep_ev hc.rg c
  rw [he] at this
  simp only [AVRep, PRep, DRep] at this
  exact this.1
theorem CK.le {S : SK} {t : St} (q : Le s t) {G : Nat → Prop} {h : Hp} {r : Nat → Value} {a : Act} {w : World} (c : CK n0 J N np S k G h r s a w) : CK n0 J N np S k G h r t a w := by
  obtain ⟨C, hw, rest⟩ := c.kj
  exact ⟨c.sz, c.df, fun i => q.regs i h r _ (c.rg i), C, hw.forget q.own, rest⟩
/-- what has happened since the walk began -/
theorem CK.frame {S : SK} {G : Nat → Prop} {h : Hp} {r : Nat → Value} {a : Act} {w : World} (c : CK n0 J N np S k G h r s a w) : Gave S.F S.h S.W (fun i => G i ∨ ownB s r i) h w := by
  obtain ⟨C, hw, hj, hs, hF, hn, hm, hr0, hfr⟩ := c.kj
  refine ⟨hw.os.trans hfr.os, hw.tape.trans hfr.tape, hw.output.trans hfr.output, Nat.le_trans hfr.size hw.size, fun i hi hg => ?_, hfr.hg.trans hw.hg, fun i hi => ?_, fun i hi => ?_⟩
  · rw [hw.old i (Nat.lt_of_lt_of_le hi hfr.size) fun x => ?_]
    · exact hfr.old i hi hg
    · rcases hfr.gg i (.inr x) with g | g
      · exact hg g
      · omega
  · rcases hw.hn i hi with g | g | g
    · exact hfr.hn i g
    · exact .inr (.inl (Nat.le_trans hfr.size g))
    · rcases hfr.gg i (.inr g) with g | g
      · exact .inr (.inr g)
      · exact .inr (.inl g)
  · rcases hi with g | ⟨m, hm, e⟩
    · exact hfr.gg i (.inl g)
    · rcases hw.fo m i hm e with g | g
      · exact .inr (Nat.le_trans hfr.size g)
      · exact hfr.gg i (.inr g)
theorem Gave.trans {A B D : Nat → Prop} {h h' h'' : Hp} {W W' W'' : World} (p : Gave A h W B h' W') (q : Gave B h' W' D h'' W'') : Gave A h W D h'' W'' := by
  refine ⟨q.os.trans p.os, q.tape.trans p.tape, q.output.trans p.output, Nat.le_trans p.size q.size, fun i hi hg => ?_, p.hg.trans q.hg, fun i hi => ?_, fun i hi => ?_⟩
  · rw [q.old i (Nat.lt_of_lt_of_le hi p.size) fun x => ?_]
    · exact p.old i hi hg
    · rcases p.gg i x with g | g
      · exact hg g
      · omega
  · rcases q.hn i hi with g | g | g
    · exact p.hn i g
    · exact .inr (.inl (Nat.le_trans p.size g))
    · rcases p.gg i g with g | g
      · exact .inr (.inr g)
      · exact .inr (.inl g)
  · rcases q.gg i hi with g | g
    · exact p.gg i g
    · exact .inr (Nat.le_trans p.size g)
theorem Gave.plus {A B X : Nat → Prop} {h h' : Hp} {W W' : World} (p : Gave A h W B h' W') : Gave (fun i => A i ∨ X i) h W (fun i => B i ∨ X i) h' W' := by
  refine ⟨p.os, p.tape, p.output, p.size, fun i hi hg => p.old i hi fun x => hg (.inl x), p.hg, fun i hi => ?_, fun i hi => ?_⟩
  · rcases p.hn i hi with g | g | g
    · exact .inl g
    · exact .inr (.inl g)
    · exact .inr (.inr (.inl g))
  · rcases hi with g | g
    · rcases p.gg i g with g | g
      · exact .inl (.inl g)
      · exact .inr g
    · exact .inl (.inr g)
theorem AK_lift {c : Code} (h : AWp P true N np c (fun e s' => Q e k s') s) : AK P n0 J N np c Q k s := by
  intro ro S hh r a w G hc
  obtain ⟨C, hw, hj, hs, hF, hn, hm, hr0, hfr⟩ := hc.kj
  refine wpIn_mono (h ro (fun e => by cases e) C hh r a w ⟨hn, hm⟩ ⟨hc.sz, by rw [hc.df]; trivial, hc.rg, hw⟩) ?_
  rintro e a' w' ⟨s', h', r', q, c'⟩
  refine ⟨k, s', h', r', G, q, c'.sz, ?_, c'.rg, C, c'.wk, hj, hs, hF, hn, hm, hr0, hfr⟩
  have := c'.df
  cases hd : a'.defers with
  | nil => rfl
  | cons d ds => rw [hd] at this; have h1 := this.1; rw [hm] at h1; cases h1
theorem AK_region (hP : P.follows .mixedOrders = true) {id : Nat} {ops : Array Oper} {draw : Bool} (h : RK P N np ops draw ops.toList (kill (allocs ops.toList) s) [] (Q .normal k)) : AK P n0 J N np (.region id ops draw) Q k s :=
  AK_lift (AWp_region hP h)
theorem AK_seq {x y : Code} (h : AK P n0 J N np x (JThen (AK P n0 J N np y Q) Q) k s) : AK P n0 J N np (.seq x y) Q k s := by
  intro ro S hh r a w G hc
  refine wpIn_seq (wpIn_mono (h ro S hh r a w G hc) ?_)
  rintro e a' w' ⟨k', s', h', r', G', q, c⟩
  cases e with
  | normal => exact q ro S h' r' a' w' G' c
  | _ => exact ⟨k', s', h', r', G', q, c⟩
theorem AK_skip (h : Q .normal k s) : AK P n0 J N np .skip Q k s := fun _ _ hh r _ _ G hc => wpIn_skip ⟨k, s, hh, r, G, h, hc⟩
theorem AK_ret (h : Q .ret k s) : AK P n0 J N np .ret Q k s := fun _ _ hh r _ _ G hc => wpIn_ret ⟨k, s, hh, r, G, h, hc⟩
theorem AK_exit {id : Nat} (h : Q (.exit id) k s) : AK P n0 J N np (.exit id) Q k s := fun _ _ hh r _ _ G hc => wpIn_exit ⟨k, s, hh, r, G, h, hc⟩
theorem AK_block {id : Nat} {c : Code} (h : AK P n0 J N np c (JIn id Q) k s) : AK P n0 J N np (.block id c) Q k s := by
  intro ro S hh r a w G hc
  refine wpIn_block (wpIn_mono (h ro S hh r a w G hc) ?_)
  rintro e a' w' ⟨k', s', h', r', G', q, c⟩
  cases e with
  | exit id' =>
    simp only [Exit.inBlock]
    simp only [JIn] at q
    by_cases hid : id' = id
    · subst hid
      rw [if_pos rfl]
      have : Nat.beq id' id' = true := by simp
      rw [this] at q
      exact ⟨k', s', h', r', G', q, c⟩
    · rw [if_neg hid]
      have : Nat.beq id' id = false := by
        cases e : Nat.beq id' id with
        | false => rfl
        | true => exact absurd (Nat.eq_of_beq_eq_true e) hid
      rw [this] at q
      exact ⟨k', s', h', r', G', q, c⟩
  | _ => exact ⟨k', s', h', r', G', q, c⟩
theorem AK_cond {c : Operand} {x y : Code} {b : Bool} (he : ev s.regs c = .p (.c (.v (.bool b)))) (ht : b = true → AK P n0 J N np x Q k s) (hf : b = false → AK P n0 J N np y Q k s) : AK P n0 J N np (.cond c x y) Q k s := by
  intro ro S hh r a w G hc
  have hb := hc.bool he
  cases b with
  | true => exact wpIn_cond_true hb (ht rfl ro S hh r a w G hc)
  | false => exact wpIn_cond_false hb (hf rfl ro S hh r a w G hc)
theorem AK_loop {ι : Type} {c : Code} (I : ι → St) (κ : ι → Nat) (F : ι → Prop) (μ : ι → Nat) (i₀ : ι) (h₀ : F i₀) (hk : κ i₀ = k) (hs : Le s (I i₀))
    (round : ∀ i, F i → AK P n0 J N np c (JThen (fun k' s' => ∃ j, F j ∧ μ j < μ i ∧ κ j = k' ∧ Le s' (I j)) Q) (κ i) (I i)) : AK P n0 J N np (.loop c) Q k s := by
  intro ro S hh r a w G hc b kk cs hro hfn hroom
  have key : ∀ n i h r a w G, μ i = n → F i → CK n0 J N np S (κ i) G h r (I i) a w →
      ∃ e a' w', (∃ k' s' h' r' G', Q e k' s' ∧ CK n0 J N np S k' G' h' r' s' a' w') ∧ ArrivesIn (Machine.fenced P (Wd ro)) P (lone (b.atR a (.code c :: .inLoop c :: kk)) cs w) b kk cs e a' w' := by
    intro n
    induction n using Nat.strongRecOn with
    | _ n ih =>
      intro i h r a w G hμ hF hc
      obtain ⟨e, a₁, w₁, ⟨k₁, s₁, h₁, r₁, G₁, hq, hc₁⟩, harr⟩ := round i hF ro S h r a w G hc b (.inLoop c :: kk) cs hro hfn hroom
      cases e with
      | normal =>
        obtain ⟨j, hFj, hlt, hκ, hle⟩ := hq
        subst hκ
        obtain ⟨e₂, a₂, w₂, hq₂, harr₂⟩ := ih (μ j) (hμ ▸ hlt) j h₁ r₁ a₁ w₁ G₁ rfl hFj (hc₁.le hle)
        exact ⟨e₂, a₂, w₂, hq₂, .of_steps (StepsIn.trans harr (.one (fenced_calm hfn hroom rfl) stepR_inLoop)) harr₂⟩
      | exit id => exact ⟨_, a₁, w₁, ⟨k₁, s₁, h₁, r₁, G₁, hq, hc₁⟩, .pass (x := .inLoop c) rfl (fun _ _ => .inl (by simp)) harr⟩
      | goto l => exact ⟨_, a₁, w₁, ⟨k₁, s₁, h₁, r₁, G₁, hq, hc₁⟩, .pass (x := .inLoop c) rfl (fun _ _ => .inl (by simp)) harr⟩
      | ret => exact ⟨_, a₁, w₁, ⟨k₁, s₁, h₁, r₁, G₁, hq, hc₁⟩, .pass (x := .inLoop c) rfl (fun _ _ => .inl (by simp)) harr⟩
      | panic ch => exact ⟨_, a₁, w₁, ⟨k₁, s₁, h₁, r₁, G₁, hq, hc₁⟩, .pass (x := .inLoop c) rfl (fun _ _ => .inl (by simp)) harr⟩
      | outgrown => exact ⟨_, a₁, w₁, ⟨k₁, s₁, h₁, r₁, G₁, hq, hc₁⟩, .pass (x := .inLoop c) rfl (fun _ _ => .inl (by simp)) harr⟩
  subst hk
  obtain ⟨e, a', w', hq, harr⟩ := key _ i₀ hh r a w G rfl h₀ (hc.le hs)
  exact ⟨e, a', w', hq, .of_steps (.one (fenced_calm hfn hroom rfl) stepR_loop) harr⟩
section rj
variable {ops : Array Oper} {os : List Oper} {i : Nat} {op : Op} {ty : TypeId} {pos : String} {af : Array Edge} {gd : Option (Nat × Bool)} {t : Nat}
theorem AK_regionY {id : Nat} (h : RY P n0 J N np Q ops ops.toList 0 k s) : AK P n0 J N np (.region id ops false) Q k s := by
  intro ro S hh r a w G hc
  apply wpIn_region
  rw [List.range_eq_range']
  exact h rfl ro S hh r a w G hc
theorem RY.done (h : Q .normal k s) : RY P n0 J N np Q ops [] i k s := fun _ _ _ hh r _ _ G hc => ⟨k, s, hh, r, G, h, hc⟩
theorem CK.put {S : SK} {G : Nat → Prop} {h h' : Hp} {r r' : Nat → Value} {a : Act} {w w' : World} {C : Ctx} {v : AV} {x : Value} (hc : CK n0 J N np S k G h r s a w) (hle : Hle h h') (hr : ∀ m, r' m = r m) (ht : t < N) (hv : AVRep h' r' v x)
    (q : WOK C h' r' s.own w') (hj : J k C.h0 G C.w0) (hs : n0 ≤ C.w0.heap.size) (hF : ∀ i, C.F i → n0 ≤ i ∧ ¬ G i ∧ C.h0 i = none) (hn : C.np = np) (hm : C.mar = false) (hr0 : ∀ m, m < np → C.r0 m = S.r0 m) (hfr : Gave S.F S.h S.W (fun i => G i ∨ C.F i) C.h0 C.w0) : CK n0 J N np S k G h' r' ⟨upd s.regs t v, s.own⟩ (a.put (some t) x) w' :=
  ⟨by simp [Act.put, hc.sz], by simpa [Act.put] using hc.df, (show RegsOK h' r' s.regs a from fun u => AVRep.rebind _ _ (fun m _ => hr m) (AVRep.mono hle _ _ (hc.rg u))).put (dst := some t) (fun d e => by cases e; rw [hc.sz]; exact ht) hv, C, q, hj, hs, hF, hn, hm, hr0, hfr⟩
/-- an operation that yields a value -/
theorem RY.val {v : AV} {rd : List Nat} (hg : Guards ops ⟨some t, op, ty, pos, af, gd⟩ s.regs true) (he : Eff P ⟨some t, op, ty, pos, af, gd⟩ t (ev s.regs) s.own v [] none rd)
    (hr : RY P n0 J N np Q ops os (i + 1) k ⟨upd s.regs t v, s.own⟩) (hN : (Nat.blt t N && noDefer ⟨some t, op, ty, pos, af, gd⟩) = true := by rfl) : RY P n0 J N np Q ops (⟨some t, op, ty, pos, af, gd⟩ :: os) i k s := by
  intro hd ro S hh r a w G hc
  obtain ⟨h1, h2⟩ := drop_next hd
  rw [Bool.and_eq_true, Nat.blt_eq] at hN
  rw [List.length_cons, List.range'_succ, wpOpsIn_cons]
  unfold wpOpIn
  simp only [h1]
  rw [guards_wanted hc.rg hg, if_pos rfl]
  obtain ⟨C, hw, hj, hs, hF, hn, hm, hr0, hfr⟩ := hc.kj
  refine wpIn_of_wp (noDefer_ne hN.2) ?_
  refine he C hh r s.own a w _ _ (fun x _ => rep_ev hc.rg x) (fun _ _ => rfl) hw (fun e => absurd rfl e) ?_
  intro x h' r' w' hle hrr hv hw'
  exact ⟨hr h2 ro S h' r' _ w' G (hc.put hle (fun m => hrr m (fun e => absurd rfl e)) hN.1 hv hw' hj hs hF hn hm hr0 hfr), rfl⟩
/-- yield is called: a round -/
theorem RY.yield (hK : Keeps2 P l xs n0 J) {c : Operand} {args : Array Operand} {tys : Array TypeId} {x : List PV} (hg : Guards ops ⟨some t, .call ⟨.value c, args, tys⟩, ty, pos, af, gd⟩ s.regs true)
    (hy : ev s.regs c = .p (.c (.v (.func (.yield l) #[] #[])))) (ha : args.toList.map (ev s.regs) = x.map .p) (hx : xs[k]? = some x)
    (hr : ∀ b, RY P n0 J N np Q ops os (i + 1) (nx xs.length k b) ⟨upd s.regs t (.p (.c (.v (.bool b)))), s.own⟩) (hN : Nat.blt t N = true := by rfl) : RY P n0 J N np Q ops (⟨some t, .call ⟨.value c, args, tys⟩, ty, pos, af, gd⟩ :: os) i k s := by
  intro hd ro S hh r a w G hc
  obtain ⟨h1, h2⟩ := drop_next hd
  rw [Nat.blt_eq] at hN
  rw [List.length_cons, List.range'_succ, wpOpsIn_cons]
  unfold wpOpIn
  simp only [h1]
  rw [guards_wanted hc.rg hg, if_pos rfl]
  have hyv : a.eval c = .func (.yield l) #[] #[] := by
    have := rep_ev hc.rg c
    rw [hy] at this
    simp only [AVRep, PRep, DRep] at this
    exact this.1
  have hra : RepArgs hh r (x.map .p) (args.map a.eval).toList := by
    rw [← ha, Array.toList_map]
    exact repArgs_map _ fun x _ => rep_ev hc.rg x
  obtain ⟨fn, tmps, assign, body, hrun, hR⟩ := hK.give k hh G w x _ hx (hc.now hK.toKeepsB) (repArgs_ps hra)
  refine ⟨fun _ _ => trivial, ?_⟩
  rw [Oper.semAt_eq _ _ _ (fun c' e => by cases e)]
  have hex : (execOp a.eval ⟨some t, .call ⟨.value c, args, tys⟩, ty, pos, af, gd⟩).run P w = .ok (.round l fn tmps assign body) w := by
    simp only [execOp, resolve, Sem.run_bind, hyv, Deferred.ofValue, Sem.run_pure, Result.andThen_ok, invoke, Array.empty_append]
    have e : (args.map a.eval).toList.toArray = args.map a.eval := Array.toArray_toList
    rw [← e]; exact hrun
  rw [hex]
  refine ⟨fun e => by simp [Wd] at e, RoundIn.mono (roundW hR) ?_⟩
  rintro e w' ⟨b, rfl, h', G', hj, q⟩
  obtain ⟨C, hw, hj0, hs, hF, hn, hm, hr0, hfr⟩ := hc.kj
  have same : ∀ m i, s.own m ≠ none → hblk (r m) = some i → w'.heap[i]? = w.heap[i]? := fun m i hm e => by
    have := hc.notG hK.toKeepsB hm e
    exact q.old i this.2.2.1 this.2.1
  have hw' : WOK ⟨w', h', fun i => ∃ m, s.own m ≠ none ∧ hblk (r m) = some i, r, np, false⟩ h' r s.own w' := by
    refine ⟨fun m b e => ((hw.ow m b e).mono q.hg).world fun i hi => same m i (by rw [e]; simp) hi, hw.inj, hK.hi _ _ _ _ hj, fun m i hm e => ?_, rfl, rfl, .refl _, Nat.le_refl _, fun _ _ _ => rfl, fun m i hm e => .inr ⟨m, hm, e⟩, .refl _, fun _ e => .inl e, hw.gl.mono q.hg, fun _ _ => rfl, fun m b j e hj' => ?_⟩
    · have hg := hc.notG hK.toKeepsB hm e
      cases hh' : h' i with
      | none => rfl
      | some o =>
        rcases q.hn i (by rw [hh']; simp) with g | g | g
        · exact absurd hg.2.2.2 g
        · omega
        · exact absurd g hg.2.1
    · obtain ⟨q1, t', e1, e2⟩ := hw.lk m b j e hj'
      exact ⟨q1, t', e1, by rw [same m q1 (by rw [e]; simp) (by rw [e1]; rfl)]; exact e2⟩
  have n1 : n0 ≤ w'.heap.size := Nat.le_trans (Nat.le_trans hs hw.size) q.size
  refine hr b h2 ro S h' r _ w' G' ⟨by simp [Act.put, hc.sz], by simpa [Act.put] using hc.df, (show RegsOK h' r s.regs a from fun u => AVRep.mono q.hg _ _ (hc.rg u)).put (dst := some t) (v := .p (.c (.v (.bool b)))) (x := .bool b) (fun d e => by cases e; rw [hc.sz]; exact hN) ⟨rfl, rfl⟩, _, hw', hj, n1, ?_, rfl, rfl, fun m hm => ?_, hc.frame.trans q.plus⟩
  rotate_left
  · show r m = _
    rw [hw.kp m (by omega)]; exact hr0 m hm
  rintro i ⟨m, hm, e⟩
  have hg := hc.notG hK.toKeepsB hm e
  refine ⟨hg.1, fun x => ?_, ?_⟩
  · rcases q.gg i x with g | g
    · exact hg.2.1 g
    · omega
  · exact hw'.ho m i hm e
end rj
end
end Go.AM
end

section
/- A function that is ranged over, from its code; a loop over a function at its end, whose rounds hand over to the caller's loop. -/
namespace Go.AM
open Go Go.RowKit
section
variable (P : Program) (l : Nat) (xs : List (List PV)) (n0 : Nat) (J : Nat → Hp → (Nat → Prop) → World → Prop) (N np : Nat)
def markOf (D : Nat) : Deferred := { target := .collected D, args := #[] }
/-- what is asked at the end of a function that is ranged over -/
def EndsI (e : Exit) (a : Act) (w : World) : Prop := (e = .normal ∨ e = .ret) ∧ ∃ kf h G, xs.length ≤ kf ∧ J kf h G w ∧
  (a.defers = [] ∨ ∃ D, a.defers = [markOf D] ∧ w.heap[D]? = some (.deferred (some [])) ∧ n0 ≤ D ∧ ¬ G D ∧ h D = none)
def AE (c : Code) (k : Nat) (s : St) : Prop :=
  ∀ (S : SK) (h : Hp) (r : Nat → Value) (a : Act) (w : World) (G : Nat → Prop), CK n0 J N np S k G h r s a w → c.wpIn (Wd none) 0 P (EndsI xs n0 J) a w
end
section
variable {P : Program} {l : Nat} {xs : List (List PV)} {n0 : Nat} {J : Nat → Hp → (Nat → Prop) → World → Prop} {N np : Nat} {k : Nat} {s : St}
theorem AE_of {c : Code} (hK : KeepsB n0 J) (h : AK P n0 J N np c (fun e k' _ => (e = .normal ∨ e = .ret) ∧ xs.length ≤ k') k s) : AE P xs n0 J N np c k s := by
  intro S hh r a w G hc
  refine wpIn_mono (h none S hh r a w G hc) ?_
  rintro e a' w' ⟨k', s', h', r', G', ⟨q1, q2⟩, c⟩
  exact ⟨q1, k', h', G', q2, c.now hK, .inl c.df⟩
theorem rest_put {n : Nat} {G : Nat → Prop} {h : Hp} {w : World} {L : Nat} {ob : Obj} (hi : ∀ i o, h i = some o → w.heap[i]? = some o) (h1 : n ≤ L) (h2 : ¬ G L) (h3 : h L = none) : Rest n G h w h (w.putObj L ob) :=
  ⟨rfl, rfl, .refl _, by rw [size_putObj']; exact Nat.le_refl _, fun i _ => by
    by_cases e : i = L
    · subst e; exact .inr ⟨h1, h2, h3⟩
    · exact .inl (putObj_other e), fun i o e => by
    rw [putObj_other fun x => by subst x; rw [h3] at e; cases e]; exact hi i o e, .refl _, fun _ e => .inl e⟩
end
end Go.AM
end

section
/- A function that is ranged over and may be told to end, from its code. -/
namespace Go.AM
open Go Go.RowKit
/-- A function that is ranged over, from its code. -/
theorem iter2_of {P : Program} {f : FuncId} {fn : Func} {c : Code} {N : Nat} {caps : List (List DV)} {xs : List (List PV)} (hf : P.funcs[f]? = some fn) (hnm : (fn.name == "runtime.NumGoroutine") = false) (hb : fn.body = some c) (hN : fn.ntmps = N) (hna : caps.length + 1 ≤ N) (hres : fn.results = #[])
    (h : ∀ l n0 J, Keeps2 P l xs n0 J → AE P xs n0 J N 0 c 0 ⟨fun t => ((.p (.c (.v (.func (.yield l) #[] #[]))) :: caps.map .ip : List AV)).getD t .junk, O⟩) : Iter2 P f caps xs := by
  refine ⟨⟨fn, hf, hnm, by rw [hb]; rfl⟩, ?_⟩
  intro l lb J hh G W n0 hn0 hcaps hgl hK h0
  refine callsIn_of_wp_marks hf hb trivial ?_
  have hcl : ∀ (cs : List (List DV)) (xs : List Value), CapsRep hh cs xs → xs.length = cs.length := by
    intro cs
    induction cs with
    | nil => intro xs k; cases xs with
      | nil => rfl
      | cons _ _ => exact k.elim
    | cons p ps ih => intro xs k; cases xs with
      | nil => exact k.elim
      | cons x xs => simp [ih xs k.2]
  have hlen : lb.size = caps.length := by simpa using hcl _ _ hcaps
  have hget : ∀ (cs : List (List DV)) (xs : List Value), CapsRep hh cs xs → ∀ (t : Nat) (x : List DV), cs[t]? = some x → ∃ y, xs[t]? = some y ∧ IpRep hh x y := by
    intro cs
    induction cs with
    | nil => intro xs _ t x h; simp at h
    | cons p ps ih => intro xs h t x hx; cases xs with
      | nil => exact h.elim
      | cons y ys => cases t with
        | zero => simp at hx; subst hx; exact ⟨y, rfl, h.1⟩
        | succ t => exact ih ys h.2 t x (by simpa using hx)
  refine wpIn_mono (h l n0 J hK ⟨fun _ => .bool false, hh, W, G⟩ hh (fun _ => .bool false) _ W G ⟨?_, rfl, ?_, (⟨W, hh, fun _ => False, fun _ => .bool false, 0, false⟩ : Ctx), ?_, h0, hn0, fun _ e => e.elim, rfl, rfl, fun _ _ => rfl, Gave.start fun _ e => e⟩) ?_
  · simp [hN, hlen]; omega
  · intro t
    show AVRep hh _ (((.p (.c (.v (.func (.yield l) #[] #[]))) :: caps.map .ip : List AV)).getD t .junk) _
    rw [List.getD_eq_getElem?_getD]
    cases t with
    | zero =>
      simp only [List.getElem?_cons_zero, Option.getD_some]
      have e0 : (#[.func (.yield l) #[] #[]] ++ lb ++ Array.replicate (fn.ntmps - (#[.func (.yield l) #[] #[]] ++ lb : Array Value).size) undef : Array Value).getD 0 undef = .func (.yield l) #[] #[] := by
        rw [Array.getD_eq_getD_getElem?, Array.getElem?_append_left (by simp; omega), Array.getElem?_append_left (by simp)]; rfl
      show AVRep hh _ (.p (.c (.v (.func (.yield l) #[] #[])))) (Array.getD _ 0 undef)
      rw [e0]
      simp only [AVRep, PRep, DRep, true_and]; rfl
    | succ t =>
      rw [List.getElem?_cons_succ, List.getElem?_map]
      cases ht : caps[t]? with
      | none => exact trivial
      | some x =>
        obtain ⟨y, g1, g2⟩ := hget _ _ hcaps t x ht
        have g1' : lb[t]? = some y := by rw [← Array.getElem?_toList]; exact g1
        have hlt : t < lb.size := (Array.getElem?_eq_some_iff.1 g1').1
        simp only [Option.map_some, Option.getD_some, Array.getD_eq_getD_getElem?]
        rw [Array.getElem?_append_left (by simp; omega), Array.getElem?_append_right (by simp)]
        simp only [List.size_toArray, List.length_cons, List.length_nil, Nat.zero_add, Nat.add_sub_cancel, g1', Option.getD_some]
        exact g2
  · exact ⟨fun m b e => (by cases e), fun m n k e => absurd rfl e, hK.hi _ _ _ _ h0, fun m k e => absurd rfl e, rfl, rfl, .refl _, Nat.le_refl _, fun _ _ _ => rfl, fun m k e => absurd rfl e, Hle.refl _, fun k e => Or.inl e, hgl, fun _ _ => rfl, fun m b j e => (by cases e)⟩
  · rintro e a' w' ⟨he, kf, h', G', hk, hj, hd⟩
    have hr : ∀ W', (results fn a'.tmps).run P W' = .ok (.tuple #[]) W' := fun W' => by rw [results_eq, hres]; simp
    have fin : LeavesInM (Wd none) 0 P fn a'.tmps (fun e W' => (∃ v, e = .returned v) ∧ ∃ kf h' G', xs.length ≤ kf ∧ J kf h' G' W') a'.defers .returning w' := by
      rcases hd with hd | ⟨D, hd, d1, d2, d3, d4⟩
      · rw [hd]
        exact ⟨_, hr _, ⟨_, rfl⟩, kf, h', G', hk, hj⟩
      · rw [hd]
        refine ⟨by simp, .inl ⟨D, _, rfl, run_takeDeferred d1, ?_⟩⟩
        exact ⟨_, hr _, ⟨_, rfl⟩, kf, h', G', hk, hK.rest _ _ _ _ _ _ hj (rest_put (hK.hi _ _ _ _ hj) d2 d3 d4)⟩
    rcases he with rfl | rfl <;> exact fin
end Go.AM
end

section
/- Functions that own their one captured box: made, handed back, ranged over. -/
namespace Go.AM
open Go Go.RowKit
section
end
end Go.AM
end

section
/- A loop over a function that owns its captured box. -/
namespace Go.AM
open Go Go.RowKit
theorem WOK.rest3 {C : Ctx} {h h' : Hp} {r : Nat → Value} {own : Own} {w w' : World} (k : WOK C h r own w) {n0 : Nat} {G : Nat → Prop} (q : Rest n0 G h w h' w') (hG : ∀ m i, own m ≠ none → hblk (r m) = some i → G i) (hb : ∀ i, h i = none → ¬ G i → C.w0.heap.size ≤ i ∨ C.F i) : WOK C h' r own w' := by
  have same : ∀ m i, own m ≠ none → hblk (r m) = some i → w'.heap[i]? = w.heap[i]? := fun m i hm e => by
    rcases q.old i (k.lt hm e) with g | ⟨_, g, _⟩
    · exact g
    · exact absurd (hG m i hm e) g
  refine ⟨fun m b e => ((k.ow m b e).mono q.hg).world fun i hi => same m i (by rw [e]; simp) hi, k.inj, q.hi, fun m i hm e => ?_, q.os.trans k.os, q.tape.trans k.tape, q.output.trans k.output, Nat.le_trans k.size q.size, fun i hi hf => ?_, k.fo, k.hg.trans q.hg, fun i hi => ?_, k.gl.mono q.hg, k.kp, fun m b j e hj => ?_⟩
  · cases hh : h' i with
    | none => rfl
    | some o =>
      rcases q.hn i (by rw [hh]; simp) with g | g
      · exact absurd (k.ho m i hm e) g
      · exact absurd (hG m i hm e) g.2
  · rcases q.old i (Nat.lt_of_lt_of_le hi k.size) with g | ⟨_, g1, g2⟩
    · rw [g]; exact k.old i hi hf
    · rcases hb i g2 g1 with x | x
      · omega
      · exact absurd x hf
  · rcases q.hn i hi with g | g
    · exact k.hn i g
    · by_cases x : h i = none
      · exact .inr (hb i x g.2)
      · exact k.hn i x
  · obtain ⟨q1, t, h1, h2⟩ := k.lk m b j e hj
    exact ⟨q1, t, h1, by rw [same m q1 (by rw [e]; simp) (by rw [h1]; rfl)]; exact h2⟩
end Go.AM
end

section
/- A function that is ranged over and owns its captured box, from its code. -/
namespace Go.AM
open Go Go.RowKit
end Go.AM
end

section
/- What stays while memory grows and deferred calls change (of Am221, for seats without that text). -/
namespace Go.AM
open Go Go.RowKit
theorem hlf_cells {h h' : Hp} (q : Hlf h h') {b : Nat} {c : Array Value} {e : TypeId} {fr : Nat × Nat} (k : h b = some (.cells c e fr)) : h' b = some (.cells c e fr) := q _ _ (fun _ => by simp) k
theorem Hlf.refl (h : Hp) : Hlf h h := fun _ _ _ e => e
mutual
theorem DRep.hlf {h h' : Hp} (hh : Hlf h h') : ∀ (d : DV) (x : Value), DRep h d x → DRep h' d x
  | .v _, _, r => by simpa only [DRep] using r
  | .any, _, r => by simpa only [DRep] using r
  | .sl n xs, x, r => by
    simp only [DRep] at r ⊢
    obtain ⟨a, cap, h1, h2, h3, h4⟩ := r
    refine ⟨a, cap, h1, h2, h3, ?_⟩
    rcases h4 with h4 | ⟨b, off, c, e, fr, g1, g2, g3⟩
    · exact .inl h4
    · exact .inr ⟨b, off, c, e, fr, g1, hlf_cells hh g2, DReps.hlf hh xs _ g3⟩
  | .ip xs, x, r => by
    simp only [DRep] at r ⊢
    obtain ⟨b, off, c, e, fr, g1, g2, g3⟩ := r
    exact ⟨b, off, c, e, fr, g1, hlf_cells hh g2, DReps.hlf hh xs _ g3⟩
  | .fn f caps, x, r => by
    simp only [DRep] at r ⊢
    obtain ⟨lb, g1, g2, g3⟩ := r
    exact ⟨lb, g1, g2, DReps.hlf hh caps _ g3⟩
  | .mp a xs, x, r => by
    simp only [DRep] at r ⊢
    obtain ⟨k, es, clk, l, g1, g2, g3, g4, g5, g6⟩ := r
    exact ⟨k, es, clk, l, g1, hh _ _ (fun _ => by simp) g2, g3, g4, g5, DReps.hlf hh xs _ g6⟩
theorem DReps.hlf {h h' : Hp} (hh : Hlf h h') : ∀ (ds : List DV) (g : Nat → Option Value), DReps h ds g → DReps h' ds g
  | [], _, _ => by simp only [DReps]
  | x :: xs, g, r => by
    simp only [DReps] at r ⊢
    obtain ⟨⟨y, e, k⟩, r⟩ := r
    exact ⟨⟨y, e, DRep.hlf hh x y k⟩, DReps.hlf hh xs _ r⟩
end
theorem IpRep.stay {h h' : Hp} (q : Hlf h h') {xs : List DV} {x : Value} : IpRep h xs x → IpRep h' xs x
  | ⟨b, off, c, e, fr, h1, h2, h3⟩ => ⟨b, off, c, e, fr, h1, hlf_cells q h2, DReps.hlf q _ _ h3⟩
end Go.AM
end

section
/- Loops over functions that have no end of their own, and own the first of the boxes that they have captured: made, handed back, ranged over, walked. -/
namespace Go.AM
open Go Go.RowKit
/-- a function that owns the first box that it has captured; the others nobody writes any more -/
def FlP (f : FuncId) (caps : List (List DV)) (h : Hp) (v x : Value) : Prop := ∃ (k : Nat) (lb : Array Value), hblk v = some k ∧ x = .func (.func f) #[] (#[.pointer (some ⟨k, 0, none⟩)] ++ lb) ∧ CapsRep h caps lb.toList
theorem CapsRep.stay {h h' : Hp} (q : Hlf h h') : ∀ {cs : List (List DV)} {xs : List Value}, CapsRep h cs xs → CapsRep h' cs xs
  | [], [], _ => trivial
  | _ :: _, _ :: _, k => ⟨k.1.stay q, CapsRep.stay q k.2⟩
  | [], _ :: _, k => k.elim
  | _ :: _, [], k => k.elim
/-- A function that is ranged over by one who is sure to leave before the list ends; it owns the box k that it has captured first, and may write it. -/
structure IterF (P : Program) (gf : FuncId) (b0 : Blk) (caps : List (List DV)) (xs : List (List PV)) : Prop where
  fn : FnOK P gf
  go : ∀ (l k0 : Nat) (lb : Array Value) (J : Nat → Hp → (Nat → Prop) → World → Prop) (h : Hp) (G : Nat → Prop) (W : World) (n0 : Nat), n0 ≤ W.heap.size → n0 ≤ k0 → ¬ G k0 → h k0 = none → BlkRep h W (.pointer (some ⟨k0, 0, none⟩)) b0 → CapsRep h caps lb.toList → GlOK h → Keeps2 P l xs n0 J → (∀ h G W, ¬ J xs.length h G W) → J 0 h G W →
    CallsIn (Wd none) 0 P gf (#[.func (.yield l) #[] #[]] ++ (#[.pointer (some ⟨k0, 0, none⟩)] ++ lb)) W fun e W' => (∃ v, e = .returned v) ∧ ∃ kf h' G', xs.length ≤ kf ∧ J kf h' G' W'
set_option maxHeartbeats 1000000 in
/-- A loop over a function that owns the first of its captured boxes, and that is left before the list ends. -/
theorem AWp_rangeF {P : Program} {N np : Nat} {Q : Exit → St → Prop} {l : List (Nat × AV)} {ps : Array Tmp} {assign body : Code} {gf : FuncId} {caps : List (List DV)} {xs : List (List PV)} {t0 m0 : Nat} {o : Own} {b0 : Blk} (np' : Nat) (own : Nat → Own) (I : Nat → Prop)
    (hit : IterF P gf b0 caps xs) (hj : look l t0 = .junk) (ho : o m0 = some b0) (hbv : b0.vec = false) (_hlk : lnk b0 = []) (h0 : ∀ m, own 0 m = (upd o m0 none) m) (hps : ∀ x ∈ xs, x.length = ps.toList.length)
    (hfix : menB np' l = true) (hnp : Nat.ble np np' = true) (hpN : (ps.toList.all fun p => Nat.blt p N) = true)
    (hI : I 0) (hround : ∀ (k : Nat) (x : List PV), xs[k]? = some x → I k → AWp P true N np' assign (AThen (AWp P true N np' body (RoundQ np' Q l (own (k + 1)) (I (k + 1)))) (fun _ _ => False)) ⟨setPs (look l) ps.toList x, own k⟩)
    (hdone : ¬ I xs.length) : AWp P false N np (.rangeFunc (.tmp t0) ps assign body) Q ⟨upd (look l) t0 (.axm (FlP gf caps) m0), o⟩ := by
  intro ro hB C hh r a w hn hc
  have hro : ro = none := hB rfl
  subst hro
  have hnp' := Nat.le_of_ble_eq_true hnp
  have hmar : C.mar = true := hn.2
  refine wpIn_rangeFunc ?_
  intro fn _
  have hgv : AVRep hh r (upd (look l) t0 (.axm (FlP gf caps) m0) t0) (a.tmps.getD t0 undef) := hc.rg t0
  rw [show upd (look l) t0 (.axm (FlP gf caps) m0) t0 = .axm (FlP gf caps) m0 from upd_same _ _ _] at hgv
  obtain ⟨bk, lb, hbk, hval, hcaps⟩ := hgv hh (Hlf.refl hh)
  have hval : a.eval (.tmp t0) = .func (.func gf) #[] (#[.pointer (some ⟨bk, 0, none⟩)] ++ lb) := hval
  have hone : (⟨upd (look l) t0 (.axm (FlP gf caps) m0), o⟩ : St).own m0 ≠ none := by show o m0 ≠ none; rw [ho]; simp
  have hbr := hc.wk.ow m0 b0 ho
  have hrm : r m0 = .pointer (some ⟨bk, 0, none⟩) := by
    unfold BlkRep at hbr
    rw [hbv] at hbr
    obtain ⟨k, c, h1, _⟩ := hbr
    rw [h1] at hbk ⊢
    have : k = bk := by simpa [hblk] using hbk
    rw [this]
  rw [hrm] at hbr
  have hbfo := hc.wk.fo m0 bk hone hbk
  have hbho := hc.wk.ho m0 bk hone hbk
  have hblt := hc.wk.lt (m := m0) hone hbk
  have hbne : ∀ m, own 0 m ≠ none → hblk (r m) ≠ some bk := fun m hm e => by
    rw [h0 m] at hm
    by_cases x : m = m0
    · subst x; rw [upd_same] at hm; exact hm rfl
    · rw [upd_ne _ _ _ _ x] at hm
      exact x (hc.wk.inj m m0 bk hm hone e hbk)
  have hrg0 : RegsOK hh r (look l) a := fun t => by
    by_cases e : t = t0
    · subst e; rw [hj]; exact trivial
    · have : AVRep hh r (upd (look l) t0 (.axm (FlP gf caps) m0) t) (a.tmps.getD t undef) := hc.rg t
      rwa [show upd (look l) t0 (.axm (FlP gf caps) m0) t = look l t from upd_ne _ _ _ _ e] at this
  replace hc : Conc C N hh r ⟨look l, own 0⟩ a w := ⟨hc.sz, hc.df, hrg0, hc.wk.forget fun m => by
    show own 0 m = o m ∨ own 0 m = none
    rw [h0 m]
    by_cases x : m = m0
    · subst x; exact .inr (upd_same _ _ _)
    · exact .inl (upd_ne _ _ _ _ x)⟩
  obtain ⟨rec, hrec⟩ : ∃ rec : LoopState → Option Code → Loop, rec = fun st pe => { state := st, pending := pe, fn, tmps := a.tmps, params := ps, assign, body, defers := w.heap.size } := ⟨_, rfl⟩
  obtain ⟨W1, hW1⟩ : ∃ W1, (w.alloc (.deferred (some []))).alloc (.loop (rec .ready none)) = W1 := ⟨_, rfl⟩
  obtain ⟨hw1, hle1⟩ := hc.wk.imm (.deferred (some []))
  obtain ⟨h1, hh1⟩ : ∃ h1 : Hp, h1 = fun i => if i = w.heap.size then some (.deferred (some [])) else hh i := ⟨_, rfl⟩
  rw [← hh1] at hw1 hle1
  have hs1 : W1.heap.size = w.heap.size + 2 := by rw [← hW1]; simp
  have hold1 : ∀ i, i < (w.alloc (.deferred (some []))).heap.size → W1.heap[i]? = (w.alloc (.deferred (some []))).heap[i]? := fun i hi => by
    rw [← hW1, heap_alloc, if_neg (by omega)]
  have hw2 : WOK C h1 r (own 0) W1 := hw1.beside (by rw [← hW1]; rfl) (by rw [← hW1]; rfl) (by rw [← hW1]; exact ⟨rfl, Nat.le_refl _⟩) (by rw [hs1]; simp) hold1
  have hL1 : W1.heap[w.heap.size + 1]? = some (.loop (rec .ready none)) := by
    rw [← hW1, heap_alloc, if_pos (by simp)]
  have hD0 : hh w.heap.size = none := by
    cases e : hh w.heap.size with
    | none => rfl
    | some o => have := hc.wk.hlt e; omega
  have hhL : h1 (w.heap.size + 1) = none := by
    rw [hh1]
    show (if w.heap.size + 1 = w.heap.size then _ else hh (w.heap.size + 1)) = none
    rw [if_neg (by omega)]
    cases e : hh (w.heap.size + 1) with
    | none => rfl
    | some o => have := hc.wk.hlt e; omega
  have hnoL : ∀ m, own 0 m ≠ none → hblk (r m) ≠ some (w.heap.size + 1) := fun m hm e => by
    have := hc.wk.lt hm e; omega
  have hD1 : h1 w.heap.size = some (.deferred (some [])) := by rw [hh1]; exact if_pos rfl
  generalize hLL : w.heap.size + 1 = L at *
  have hCL : C.w0.heap.size ≤ L := by have := hc.wk.size; omega
  refine ⟨L, [{ target := .collected w.heap.size, args := #[] }], W1, { target := .fn (.func gf) (#[.pointer (some ⟨bk, 0, none⟩)] ++ lb), args := #[.func (.yield L) #[] #[]] }, W1, gf, #[.func (.yield L) #[] #[]] ++ (#[.pointer (some ⟨bk, 0, none⟩)] ++ lb), W1, ?_, ?_, fun _ _ => trivial, ?_, fun e => by simp [Wd] at e, ?_⟩
  · rw [← hW1, hrec, ← hLL]; exact run_enterLoop_outer _ _ _ _ _
  · simp only [resolve, hval]
    simp [go_sem]
  · have eg : ∀ args w, (callFunc gf args).run P w = .ok (.enter gf args) w := fun args w => run_callFunc hit.fn args w
    simp [invoke, go_sem, eg]
  · have hmen := look_men hfix
    obtain ⟨J, hJ⟩ : ∃ J : Nat → Hp → (Nat → Prop) → World → Prop, J = fun k h G W => ∃ r' o st pe, (∀ m, m < np' → r' m = r m) ∧ WOK C h r' o W ∧ W.heap[L]? = some (.loop (rec st pe)) ∧ h L = none ∧ (∀ m, o m ≠ none → hblk (r' m) ≠ some L) ∧ Hle h1 h ∧
        (G = fun i => (i = L ∨ ∃ m, o m ≠ none ∧ hblk (r' m) = some i) ∨ (i < W1.heap.size ∧ h i = none ∧ i ≠ bk)) ∧ W1.heap.size ≤ W.heap.size ∧ Left xs.length own I Q l k o st pe := ⟨_, rfl⟩
    have hrg : ∀ h r', Hle h1 h → (∀ m, m < np' → r' m = r m) → RegsOK h r' (look l) a := fun h r' hl hr t =>
      AVRep.rebind _ _ (fun m hm => hr m (hmen t m hm)) (AVRep.mono (hle1.trans hl) _ _ (hc.rg t))
    refine CallsIn.mono (hit.go L bk lb J h1 (fun i => (i = L ∨ ∃ m, own 0 m ≠ none ∧ hblk (r m) = some i) ∨ (i < W1.heap.size ∧ h1 i = none ∧ i ≠ bk)) W1 0 (Nat.zero_le _) (Nat.zero_le _) ?_ ?_ ((hbr.mono hle1).world fun i hi => ?_) (hcaps.mono hle1) hw2.gl ⟨⟨?_, ?_, ?_⟩, ?_⟩ ?_ ?_) ?_
    · rintro ((x | ⟨m, hm, e⟩) | x)
      · omega
      · exact hbne m hm e
      · exact x.2.2 rfl
    · rw [hh1]
      show (if bk = w.heap.size then _ else hh bk) = none
      rw [if_neg (by omega)]; exact hbho
    · have : i = bk := by simpa [hblk] using hi.symm
      subst this
      rw [← hW1, heap_alloc, if_neg (by simp; omega), heap_alloc, if_neg (by omega)]
    · intro k h G W hk
      rw [hJ] at hk
      obtain ⟨r', o, st, pe, _, q, _⟩ := hk
      exact q.hi
    · intro k h G W hk i hi
      rw [hJ] at hk
      obtain ⟨r', o, st, pe, e1, e2, e3, e4, e5, e6, rfl, e7, e8⟩ := hk
      rcases hi with (rfl | ⟨m, hm, e⟩) | ⟨h8, h9, _⟩
      · exact ⟨(Array.getElem?_eq_some_iff.1 e3).1, e4⟩
      · exact ⟨e2.lt hm e, e2.ho m i hm e⟩
      · exact ⟨by omega, h9⟩
    · intro k h G W h' W' hk q
      rw [hJ] at hk ⊢
      obtain ⟨r', o, st, pe, e1, e2, e3, e4, e5, e6, rfl, e7, e8⟩ := hk
      have hlt : L < W.heap.size := (Array.getElem?_eq_some_iff.1 e3).1
      refine ⟨r', o, st, pe, e1, e2.rest3 q (fun m i hm e => .inl (.inr ⟨m, hm, e⟩)) (fun i h9 hg => ?_), ?_, ?_, e5, e6.trans q.hg, ?_, Nat.le_trans e7 q.size, e8⟩
      · by_cases y : C.F i
        · exact .inr y
        · by_cases x : i < C.w0.heap.size
          · exfalso
            refine hg (.inr ⟨Nat.lt_of_lt_of_le x hw2.size, h9, fun z => ?_⟩)
            subst z
            rcases hbfo with z | z
            · omega
            · exact y z
          · exact .inl (by omega)
      · rcases q.old L hlt with g | ⟨_, g, _⟩
        · rw [g]; exact e3
        · exact absurd (.inl (.inl rfl)) g
      · cases e : h' L with
        | none => rfl
        | some o' =>
          rcases q.hn L (by rw [e]; simp) with g | g
          · exact absurd e4 g
          · exact absurd (.inl (.inl rfl)) g.2
      · funext i
        refine propext ⟨fun x => x.imp id fun ⟨a1, a2, a3⟩ => ⟨a1, ?_, a3⟩, fun x => x.imp id fun ⟨a1, a2, a3⟩ => ⟨a1, ?_, a3⟩⟩
        · cases e : h' i with
          | none => rfl
          | some o' =>
            rcases q.hn i (by rw [e]; simp) with g | g
            · exact absurd a2 g
            · exact absurd (.inr ⟨a1, a2, a3⟩) g.2
        · cases e : h i with
          | none => rfl
          | some o' => rw [q.hg i o' e] at a2; cases a2
    · intro k h G W x vals hx hk hv
      rw [hJ] at hk
      obtain ⟨r', o, st, pe, e1, e2, e3, e4, e5, e6, rfl, e7, e8⟩ := hk
      have hkl : k < xs.length := (List.getElem?_eq_some_iff.1 hx).1
      obtain ⟨_, rfl, rfl, rfl, hIk⟩ : k ≤ xs.length ∧ o = own k ∧ st = .ready ∧ pe = none ∧ I k := by
        rcases e8 with e8 | e8
        · exact e8
        · omega
      have hlen : x.length = ps.toList.length := hps x (List.mem_of_getElem? hx)
      have hvl : vals.length = x.length := preps_len _ _ hv
      have hsz : vals.toArray.size = (rec .ready none).params.size := by
        rw [hrec]
        show vals.length = ps.size
        rw [hvl, hlen]; simp
      refine ⟨_, _, _, _, run_yield e3 hsz, roundIn_of_wpIn trivial ?_⟩
      rw [hrec]
      show assign.wpIn (Wd (some L)) 0 P _ { tmps := (ps.zip vals.toArray).foldl (fun t (p, v) => t.setIfInBounds p v) a.tmps, defers := [] } W
      have hzip : (ps.zip vals.toArray).foldl (fun t (p, v) => t.setIfInBounds p v) a.tmps = (ps.toList.zip vals).foldl (fun t (p, v) => t.setIfInBounds p v) a.tmps := by
        rw [← Array.foldl_toList, Array.toList_zip]
      rw [hzip]
      obtain ⟨f1, f2⟩ := foldl_zip_set (r := r') ps.toList x vals (look l) a.tmps hv hlen (fun p hp => by
        have := List.all_eq_true.1 hpN p hp
        rw [hc.sz]; simpa using this) (fun t => hrg h r' e6 e1 t)
      refine wpIn_mono (hround k x hx hIk (some L) (fun e => by cases e) (Ctx.round h r' (own k) W np') h r' _ W ⟨rfl, rfl⟩ ⟨f2.trans hc.sz, trivial, f1, e2.enter⟩) ?_
      rintro e a1 w1 ⟨s1, h2, r2, q1, c1⟩
      cases e with
      | normal =>
        have hwk1 := e2.leave c1.wk (Nat.le_trans (Nat.le_of_eq hn.1) hnp')
        obtain ⟨g1, g2, g3⟩ := WOK.rec_left e5 c1.wk e3 e4
        have hd1 : a1.defers = [] := by
          have := c1.df
          cases hd : a1.defers with
          | nil => rfl
          | cons d ds => rw [hd] at this; cases this.1
        have hw3 := hwk1.putL (o := .loop { rec .ready none with state := .busy }) g3 g2 hCL
        have hLw : L < w1.heap.size := (Array.getElem?_eq_some_iff.1 g1).1
        have hLb : (w1.putObj L (.loop { rec .ready none with state := .busy })).heap[L]? = some (.loop { rec .ready none with state := .busy }) := World.putObj_heap_same hLw
        refine ⟨_, run_beginRound g1 (by rw [hrec]), ?_⟩
        refine wpIn_mono (q1 (some L) (fun e => by cases e) (Ctx.round h2 r2 s1.own _ np') h2 r2 a1 _ ⟨rfl, rfl⟩ ⟨c1.sz, by rw [hd1]; trivial, c1.rg, hw3.enter⟩) ?_
        rintro e a2 w2 ⟨s2, h3, r3, q2, c2⟩
        have fin : ∀ (jump : Option Code) (o2 : Own), GW np' s2.own o2 → Left xs.length own I Q l (nx xs.length k jump.isNone) o2 (if jump.isNone then .ready else .done) jump → ∃ v w', (Instr.endRound L jump).run P w2 = .ok v w' ∧ ∃ b, Ending.returned v = .returned (.bool b) ∧ ∃ h' G', J (nx xs.length k b) h' G' w' ∧ Gave (fun i => (i = L ∨ ∃ m, own k m ≠ none ∧ hblk (r' m) = some i) ∨ (i < W1.heap.size ∧ h i = none ∧ i ≠ bk)) h W G' h' w' := by
          intro jump o2 q2 hleft
          have hwk2 := hw3.leave c2.wk (Nat.le_trans (Nat.le_of_eq hn.1) hnp')
          obtain ⟨k1, k2, k3⟩ := WOK.rec_left g3 c2.wk hLb g2
          obtain ⟨r4, q3, hwk3, q4⟩ := q2 C h3 r3 w2 (Nat.le_trans (Nat.le_of_eq hn.1) hnp') hwk2
          have k3' : ∀ m, o2 m ≠ none → hblk (r4 m) ≠ some L := fun m hm e => by
            obtain ⟨m2, g1, g2⟩ := q4 m L hm e
            exact k3 m2 g1 g2
          have F2 : ∀ i, (Ctx.round h2 r2 s1.own (w1.putObj L (.loop { rec .ready none with state := .busy })) np').F i → W.heap.size ≤ i ∨ ∃ m, own k m ≠ none ∧ hblk (r' m) = some i := by
            rintro i ⟨m, hm, e⟩; exact c1.wk.fo m i hm e
          have sz1 : W.heap.size ≤ w1.heap.size := c1.wk.size
          have sz2 : w1.heap.size ≤ w2.heap.size := by have : (w1.putObj L _).heap.size ≤ w2.heap.size := c2.wk.size; rwa [size_putObj'] at this
          refine ⟨_, _, run_endRound jump k1, _, rfl, h3, fun i => (i = L ∨ ∃ m, o2 m ≠ none ∧ hblk (r4 m) = some i) ∨ (i < W1.heap.size ∧ h3 i = none ∧ i ≠ bk), ?_, ?_⟩
          · rw [hJ]
            refine ⟨r4, o2, if jump.isNone then .ready else .done, jump, fun m hm => ?_, hwk3.putL k3' k2 hCL, ?_, k2, k3', e6.trans (c1.wk.hg.trans c2.wk.hg), rfl, by rw [size_putObj']; omega, hleft⟩
            · rw [q3 m hm, c2.wk.kp m hm]
              show r2 m = r m
              rw [c1.wk.kp m hm]
              exact e1 m hm
            · rw [World.putObj_heap_same (Array.getElem?_eq_some_iff.1 k1).1, hrec]
          · refine ⟨c2.wk.os.trans c1.wk.os, c2.wk.tape.trans c1.wk.tape, c2.wk.output.trans c1.wk.output, by rw [size_putObj']; omega, fun i hi hg => ?_, c1.wk.hg.trans c2.wk.hg, fun i hi => ?_, fun i hi => ?_⟩
            · have hiL : i ≠ L := fun x => hg (.inl (.inl x))
              rw [putObj_other hiL, c2.wk.old i (by rw [show (Ctx.round h2 r2 s1.own (w1.putObj L (.loop { rec .ready none with state := .busy })) np').w0.heap.size = w1.heap.size from size_putObj' _ _ _]; omega) (fun x => by
                rcases F2 i x with g | g
                · omega
                · exact hg (.inl (.inr g)))]
              show (w1.putObj L _).heap[i]? = _
              rw [putObj_other hiL]
              exact c1.wk.old i hi (fun x => hg (.inl (.inr x)))
            · rcases c2.wk.hn i hi with g | g | g
              · rcases c1.wk.hn i g with g | g | g
                · exact .inl g
                · exact .inr (.inl g)
                · exact .inr (.inr (.inl (.inr g)))
              · have g' : (w1.putObj L (.loop { rec .ready none with state := .busy })).heap.size ≤ i := g
                rw [size_putObj'] at g'
                exact .inr (.inl (by omega))
              · rcases F2 i g with g | g
                · exact .inr (.inl g)
                · exact .inr (.inr (.inl (.inr g)))
            · rcases hi with (rfl | ⟨m, hm, e⟩) | ⟨x1, x2, x3⟩
              · exact .inl (.inl (.inl rfl))
              · obtain ⟨m2, g1, g2⟩ := q4 m i hm e
                rcases c2.wk.fo m2 i g1 g2 with g | g
                · have g' : (w1.putObj L (.loop { rec .ready none with state := .busy })).heap.size ≤ i := g
                  rw [size_putObj'] at g'
                  exact .inr (by omega)
                · rcases F2 i g with g | g
                  · exact .inr g
                  · exact .inl (.inl (.inr g))
              · refine .inl (.inr ⟨x1, ?_, x3⟩)
                cases e : h i with
                | none => rfl
                | some o' => rw [(c1.wk.hg.trans c2.wk.hg) i o' e] at x2; cases x2
        cases e with
        | normal => exact fin none _ q2.1 (.inl ⟨hkl, rfl, rfl, rfl, q2.2⟩)
        | ret =>
          obtain ⟨o2, g1, g2⟩ := q2
          exact fin (some .ret) o2 g1 (.inr ⟨(by show xs.length < xs.length + 1 + k; omega), rfl, .inl ⟨rfl, g2⟩⟩)
        | exit id =>
          obtain ⟨o2, g1, g2⟩ := q2
          exact fin (some (.exit id)) o2 g1 (.inr ⟨(by show xs.length < xs.length + 1 + k; omega), rfl, .inr ⟨id, rfl, g2⟩⟩)
        | _ => exact q2.elim
      | _ => exact q1.elim
    · intro h G W hk
      rw [hJ] at hk
      obtain ⟨r', o, st, pe, _, _, _, _, _, _, _, _, e8⟩ := hk
      rcases e8 with ⟨_, _, _, _, hIk⟩ | ⟨e, _⟩
      · exact hdone hIk
      · exact Nat.lt_irrefl _ e
    · rw [hJ]
      exact ⟨r, own 0, .ready, none, fun _ _ => rfl, hw2, hL1, hhL, hnoL, .refl _, rfl, Nat.le_refl _, .inl ⟨Nat.zero_le _, rfl, rfl, rfl, hI⟩⟩
    · rintro e W3 ⟨⟨v, rfl⟩, kf, h', G', hkf, hk⟩
      rw [hJ] at hk
      obtain ⟨r', o, st, pe, e1, e2, e3, e4, e5, e6, _, _, e8⟩ := hk
      have fin : ∀ (ob : Obj) (q : Exit), Q q ⟨look l, o⟩ → ∃ s' h' r', Q q s' ∧ Conc C N h' r' s' { a with defers := [{ target := .collected w.heap.size, args := #[] }] ++ a.defers } (W3.putObj L ob) := fun ob q hq => by
        refine ⟨⟨look l, o⟩, h', r', hq, hc.sz, ?_, fun t => hrg h' r' e6 e1 t, e2.putL e5 e4 hCL⟩
        refine ⟨hmar, ⟨w.heap.size, rfl, hc.wk.size, ?_, e6 _ _ hD1, marks_ne hD0 hc.df⟩, hc.df.mono (hle1.trans e6)⟩
        cases e : C.h0 w.heap.size with
        | none => rfl
        | some o => have := hc.wk.hg _ _ e; rw [hD0] at this; cases this
      have hbusy : (rec st pe).state ≠ .busy := by
        rw [hrec]
        rcases e8 with ⟨_, _, h3, _⟩ | ⟨_, h3, _⟩ <;> (show st ≠ _; rw [h3]; simp)
      have hpe : (rec st pe).pending = pe := by rw [hrec]
      refine ⟨pe, _, by have := run_endLoop (P := P) e3 hbusy; rw [hpe] at this; exact this, ?_⟩
      rcases e8 with ⟨h1, rfl, _, rfl, hIk⟩ | ⟨_, _, ⟨rfl, h4⟩ | ⟨id, rfl, h4⟩⟩
      · have : kf = xs.length := by omega
        subst this
        exact absurd hIk hdone
      · exact wpIn_ret (fin _ .ret h4)
      · exact wpIn_exit (fin _ (.exit id) h4)
theorem iterF_of {P : Program} {f : FuncId} {fn : Func} {c : Code} {N : Nat} {b0 : Blk} {caps : List (List DV)} {xs : List (List PV)} (hf : P.funcs[f]? = some fn) (hnm : (fn.name == "runtime.NumGoroutine") = false) (hb : fn.body = some c) (hN : fn.ntmps = N) (hna : caps.length + 2 ≤ N) (hres : fn.results = #[]) (hlk : lnk b0 = [])
    (h : ∀ l n0 J, Keeps2 P l xs n0 J → (∀ h G W, ¬ J xs.length h G W) → AE P xs n0 J N 2 c 0 ⟨fun t => (.p (.c (.v (.func (.yield l) #[] #[]))) :: .loc 1 0 :: caps.map .ip : List AV).getD t .junk, upd O 1 (some b0)⟩) : IterF P f b0 caps xs := by
  refine ⟨⟨fn, hf, hnm, by rw [hb]; rfl⟩, ?_⟩
  intro l k0 lb J hh G W n0 hn0 hk0 hG hhk hbr hcaps hgl hK hst h0
  refine callsIn_of_wp_marks hf hb trivial ?_
  have own1 : ∀ m, (upd O 1 (some b0)) m ≠ none → m = 1 := fun m hm => by
    by_cases e : m = 1
    · exact e
    · rw [upd_ne _ _ _ _ e] at hm; exact absurd rfl hm
  have hcl : ∀ (cs : List (List DV)) (xs : List Value), CapsRep hh cs xs → xs.length = cs.length := by
    intro cs
    induction cs with
    | nil => intro xs k; cases xs with
      | nil => rfl
      | cons _ _ => exact k.elim
    | cons p ps ih => intro xs k; cases xs with
      | nil => exact k.elim
      | cons x xs => simp [ih xs k.2]
  have hlen : lb.size = caps.length := by simpa using hcl _ _ hcaps
  have hget : ∀ (cs : List (List DV)) (xs : List Value), CapsRep hh cs xs → ∀ (t : Nat) (x : List DV), cs[t]? = some x → ∃ y, xs[t]? = some y ∧ IpRep hh x y := by
    intro cs
    induction cs with
    | nil => intro xs _ t x h; simp at h
    | cons p ps ih => intro xs h t x hx; cases xs with
      | nil => exact h.elim
      | cons y ys => cases t with
        | zero => simp at hx; subst hx; exact ⟨y, rfl, h.1⟩
        | succ t => exact ih ys h.2 t x (by simpa using hx)
  refine wpIn_mono (h l n0 J hK hst ⟨fun _ => .pointer (some ⟨k0, 0, none⟩), hh, W, fun i => G i ∨ i = k0⟩ hh (fun _ => .pointer (some ⟨k0, 0, none⟩)) _ W G ⟨?_, rfl, ?_, (⟨W, hh, fun i => i = k0, fun _ => .pointer (some ⟨k0, 0, none⟩), 2, false⟩ : Ctx), ?_, h0, hn0, fun i e => ?_, rfl, rfl, fun _ _ => rfl, ⟨rfl, rfl, .refl _, Nat.le_refl _, fun _ _ _ => rfl, .refl _, fun _ e => .inl e, fun _ e => .inl e⟩⟩) ?_
  · simp [hN, hlen]; omega
  · intro t
    show AVRep hh _ ((.p (.c (.v (.func (.yield l) #[] #[]))) :: .loc 1 0 :: caps.map .ip : List AV).getD t .junk) _
    rw [List.getD_eq_getElem?_getD]
    match t with
    | 0 =>
      simp only [List.getElem?_cons_zero, Option.getD_some]
      have e0 : (#[.func (.yield l) #[] #[]] ++ (#[.pointer (some ⟨k0, 0, none⟩)] ++ lb) ++ Array.replicate (fn.ntmps - (#[.func (.yield l) #[] #[]] ++ (#[.pointer (some ⟨k0, 0, none⟩)] ++ lb) : Array Value).size) undef : Array Value).getD 0 undef = .func (.yield l) #[] #[] := by
        rw [Array.getD_eq_getD_getElem?, Array.getElem?_append_left (by simp; omega), Array.getElem?_append_left (by simp)]; rfl
      show AVRep hh _ (.p (.c (.v (.func (.yield l) #[] #[])))) (Array.getD _ 0 undef)
      rw [e0]
      simp only [AVRep, PRep, DRep, true_and]; rfl
    | 1 =>
      simp only [List.getElem?_cons_succ, List.getElem?_cons_zero, Option.getD_some]
      have e0 : (#[.func (.yield l) #[] #[]] ++ (#[.pointer (some ⟨k0, 0, none⟩)] ++ lb) ++ Array.replicate (fn.ntmps - (#[.func (.yield l) #[] #[]] ++ (#[.pointer (some ⟨k0, 0, none⟩)] ++ lb) : Array Value).size) undef : Array Value).getD 1 undef = .pointer (some ⟨k0, 0, none⟩) := by
        rw [Array.getD_eq_getD_getElem?, Array.getElem?_append_left (by simp; omega), Array.getElem?_append_right (by simp)]
        simp only [List.size_toArray, List.length_cons, List.length_nil, Nat.zero_add, Nat.sub_self]
        rw [Array.getElem?_append_left (by simp)]; rfl
      show AVRep hh _ (.loc 1 0) (Array.getD _ 1 undef)
      rw [e0]
      exact ⟨k0, ⟨rfl, rfl⟩, rfl⟩
    | t + 2 =>
      rw [List.getElem?_cons_succ, List.getElem?_cons_succ, List.getElem?_map]
      cases ht : caps[t]? with
      | none => exact trivial
      | some x =>
        obtain ⟨y, g1, g2⟩ := hget _ _ hcaps t x ht
        have g1' : lb[t]? = some y := by rw [← Array.getElem?_toList]; exact g1
        have hlt : t < lb.size := (Array.getElem?_eq_some_iff.1 g1').1
        simp only [Option.map_some, Option.getD_some, Array.getD_eq_getD_getElem?]
        rw [Array.getElem?_append_left (by simp; omega), Array.getElem?_append_right (by simp), Array.getElem?_append_right (by simp)]
        simp only [List.size_toArray, List.length_cons, List.length_nil, Nat.zero_add, show t + 2 - 1 - 1 = t by omega, g1', Option.getD_some]
        exact g2
  · show WOK _ hh _ (upd O 1 (some b0)) W
    refine ⟨fun m b e => ?_, fun m n k hm hn _ _ => (own1 m hm).trans (own1 n hn).symm, hK.hi _ _ _ _ h0, fun m k hm e => ?_, rfl, rfl, .refl _, Nat.le_refl _, fun _ _ _ => rfl, fun m k hm e => .inr ?_, Hle.refl _, fun k e => Or.inl e, hgl, fun _ _ => rfl, fun m b j e hj => ?_⟩
    · have : m = 1 := own1 m (by rw [e]; simp)
      subst this
      rw [upd_same] at e; cases e; exact hbr
    · have : k = k0 := by simpa [hblk] using e.symm
      rw [this]; exact hhk
    · simpa [hblk] using e.symm
    · have : m = 1 := own1 m (by rw [e]; simp)
      subst this
      rw [upd_same] at e; cases e; rw [hlk] at hj; cases hj
  · have e : i = k0 := e
    subst e
    exact ⟨hk0, hG, hhk⟩
  · rintro e a' w' ⟨he, kf, h', G', hk, hj, hd⟩
    have hr : ∀ W', (results fn a'.tmps).run P W' = .ok (.tuple #[]) W' := fun W' => by rw [results_eq, hres]; simp
    have fin : LeavesInM (Wd none) 0 P fn a'.tmps (fun e W' => (∃ v, e = .returned v) ∧ ∃ kf h' G', xs.length ≤ kf ∧ J kf h' G' W') a'.defers .returning w' := by
      rcases hd with hd | ⟨D, hd, d1, d2, d3, d4⟩
      · rw [hd]
        exact ⟨_, hr _, ⟨_, rfl⟩, kf, h', G', hk, hj⟩
      · rw [hd]
        refine ⟨by simp, .inl ⟨D, _, rfl, run_takeDeferred d1, ?_⟩⟩
        exact ⟨_, hr _, ⟨_, rfl⟩, kf, h', G', hk, hK.rest _ _ _ _ _ _ hj (rest_put (hK.hi _ _ _ _ hj) d2 d3 d4)⟩
    rcases he with rfl | rfl <;> exact fin
/-- the contract of a function that hands back a function with a captured box of its own -/
structure CallH (P : Program) (f : FuncId) (args : List AV) (gf : FuncId) (caps : List (List DV)) (b : Blk) : Prop where
  fn : FnOK P f
  go : ∀ (h : Hp) (r : Nat → Value) (w : World) (cargs : Array Value), RepArgs h r args cargs.toList → Before h r O w →
    Calls P f cargs w fun e w' => ∃ v h' k0 lb, e = .returned (.func (.func gf) #[] (#[.pointer (some ⟨k0, 0, none⟩)] ++ lb)) ∧ CapsRep h' caps lb.toList ∧ v = .pointer (some ⟨k0, 0, none⟩) ∧ BlkRep h' w' v b ∧ (∀ k, hblk v = some k → w.heap.size ≤ k ∧ h' k = none) ∧ After h r O w h' O w'
theorem Eff.callH {P : Program} {dst : Option Nat} {f : FuncId} {args : Array Operand} {tys : Array TypeId} {ty : TypeId} {pos : String} {af : Array Edge} {gd : Option (Nat × Bool)} {d : Nat} {ρ : Operand → AV} {own : Own} {gf : FuncId} {caps : List (List DV)} {b : Blk}
    (hc : CallH P f (args.toList.map ρ) gf caps b) (hl0 : lnk b = [] := by rfl) : Eff P ⟨dst, .call ⟨.value (.func f), args, tys⟩, ty, pos, af, gd⟩ d ρ own (.axm (FlP gf caps) d) [] (some b) [] := by
  intro C h r own' a w K Q hrep hrd hw hnew hK
  unfold Oper.wp
  have hrun : (execOp a.eval ⟨dst, .call ⟨.value (.func f), args, tys⟩, ty, pos, af, gd⟩).run P w = .ok (.enter f (args.map a.eval)) w := by
    simp only [execOp, resolve, Sem.run_bind, Act.eval, Deferred.ofValue, Sem.run_pure, Result.andThen_ok, invoke, Array.empty_append, Array.append_empty]
    exact run_callFunc hc.fn _ w
  rw [hrun]
  refine Calls.mono (hc.go h r w (args.map a.eval) ?_ (hw.before fun m hm => absurd rfl hm)) ?_
  · rw [Array.toList_map]
    exact repArgs_map _ fun x hx => hrep x (by simp only [Op.operands, Call.operands]; exact Array.mem_append.2 (.inr (Array.mem_toList_iff.1 hx)))
  · rintro e w' ⟨v, h', k0, lb, rfl, hcp, hv0, hv, hfr, hq⟩
    obtain ⟨hd, hp, hnl⟩ := hnew (by simp)
    have hw' : WOK C h' r own' w' := hw.after (fun m hm => absurd rfl hm) hq (fun m => by simp) (fun m b hm => absurd rfl hm)
    refine hK _ h' (upd r d v) w' hq.hg (fun m hm => upd_ne _ _ _ _ (hm (by simp))) (fun h2 q2 => ⟨k0, lb, by rw [upd_same, hv0]; rfl, rfl, hcp.stay q2⟩) ?_
    show WOK C h' (upd r d v) (upd own' d (some b)) w'
    have live : ∀ m, m ≠ d → upd own' d (some b) m ≠ none → own' m ≠ none := fun m h1 hm => by rwa [upd_ne _ _ _ _ h1] at hm
    have below : ∀ m k, own' m ≠ none → hblk (r m) = some k → k < w.heap.size := fun m k hm hk => hw.lt hm hk
    refine ⟨?_, ?_, hw'.hi, ?_, hw'.os, hw'.tape, hw'.output, hw'.size, hw'.old, ?_, hw'.hg, hw'.hn, hw'.gl, ?_, ?_⟩
    · intro m b' e
      by_cases h1 : m = d
      · subst h1; rw [upd_same] at e ⊢; cases e; exact hv
      · rw [upd_ne _ _ _ _ h1] at e ⊢; exact hw'.ow m b' e
    · intro m n k hm hn e f'
      by_cases h1 : m = d <;> by_cases h2 : n = d
      · rw [h1, h2]
      · subst h1; rw [upd_same] at e; rw [upd_ne _ _ _ _ h2] at f'
        have := below n k (live n h2 hn) f'; have := (hfr k e).1; omega
      · subst h2; rw [upd_same] at f'; rw [upd_ne _ _ _ _ h1] at e
        have := below m k (live m h1 hm) e; have := (hfr k f').1; omega
      · rw [upd_ne _ _ _ _ h1] at e; rw [upd_ne _ _ _ _ h2] at f'
        exact hw'.inj m n k (live m h1 hm) (live n h2 hn) e f'
    · intro m k hm e
      by_cases h1 : m = d
      · subst h1; rw [upd_same] at e; exact (hfr k e).2
      · rw [upd_ne _ _ _ _ h1] at e; exact hw'.ho m k (live m h1 hm) e
    · intro m k hm e
      by_cases h1 : m = d
      · subst h1; rw [upd_same] at e; exact .inl (Nat.le_trans hw.size (hfr k e).1)
      · rw [upd_ne _ _ _ _ h1] at e; exact hw'.fo m k (live m h1 hm) e
    · intro m hm
      rw [upd_ne _ _ _ _ (by omega)]; exact hw'.kp m hm
    · intro m b' j e hj
      by_cases h1 : m = d
      · subst h1; rw [upd_same] at e; cases e; rw [hl0] at hj; cases hj
      · rw [upd_ne _ _ _ _ h1] at e
        have hjd : j ≠ d := fun x => hnl m b' e (x ▸ hj)
        rw [upd_ne _ _ _ _ h1, upd_ne _ _ _ _ hjd]
        exact hw'.lk m b' j e hj
def EndsH (fn : Func) (gf : FuncId) (caps : List (List DV)) (b : Blk) (e : Exit) (s : St) : Prop := (e = .normal ∨ e = .ret) ∧ ∃ t m, fn.results = #[.tmp t] ∧ s.regs t = .axm (FlP gf caps) m ∧ s.own m = some b
theorem callH_of {P : Program} {f : FuncId} {fn : Func} {c : Code} {N : Nat} {args : List AV} {gf : FuncId} {caps : List (List DV)} {b : Blk} (hf : P.funcs[f]? = some fn) (hnm : (fn.name == "runtime.NumGoroutine") = false) (hb : fn.body = some c) (hN : fn.ntmps = N) (hna : args.length ≤ N)
    (h : AWp P false N 0 c (EndsH fn gf caps b) ⟨fun t => args.getD t .junk, O⟩) (hbv : b.vec = false := by rfl) : CallH P f args gf caps b := by
  refine ⟨⟨fn, hf, hnm, by rw [hb]; rfl⟩, ?_⟩
  intro hh r w cargs hra hbf
  have hlen : cargs.size = args.length := by
    have : ∀ (as0 : List AV) (xs : List Value), RepArgs hh r as0 xs → xs.length = as0.length := by
      intro as0
      induction as0 with
      | nil => intro xs h; cases xs with
        | nil => rfl
        | cons _ _ => exact h.elim
      | cons p ps ih => intro xs h; cases xs with
        | nil => exact h.elim
        | cons x xs => simp [ih xs h.2]
    simpa using this _ _ hra
  have hget : ∀ (as0 : List AV) (xs : List Value), RepArgs hh r as0 xs → ∀ (t : Nat) (x : AV), as0[t]? = some x → ∃ y, xs[t]? = some y ∧ AVRep hh r x y := by
    intro as0
    induction as0 with
    | nil => intro xs _ t x h; simp at h
    | cons p ps ih => intro xs h t x hx; cases xs with
      | nil => exact h.elim
      | cons y ys => cases t with
        | zero => simp at hx; subst hx; exact ⟨y, rfl, h.1⟩
        | succ t => exact ih ys h.2 t x (by simpa using hx)
  refine callsW' (n := 0) (callsIn_of_wp_marks hf hb trivial ?_)
  let C : Ctx := ⟨w, hh, fun _ => False, r, 0, true⟩
  refine wpIn_mono (h none (fun _ => rfl) C hh r _ w ⟨rfl, rfl⟩ ⟨?_, trivial, ?_, ⟨hbf.ow, hbf.inj, hbf.hi, hbf.ho, rfl, rfl, .refl _, Nat.le_refl _, fun _ _ _ => rfl, fun m k hm => absurd rfl hm, .refl _, fun k hk => .inl hk, hbf.gl, fun _ _ => rfl, fun m b j hb => by cases hb⟩⟩) ?_
  · simp [hN]; omega
  · intro t
    show AVRep hh r (args.getD t .junk) _
    rw [List.getD_eq_getElem?_getD]
    cases ht : args[t]? with
    | none => exact trivial
    | some x =>
      obtain ⟨y, h1, h2⟩ := hget _ _ hra t x ht
      have h1' : cargs[t]? = some y := by rw [← Array.getElem?_toList]; exact h1
      have hlt : t < cargs.size := (Array.getElem?_eq_some_iff.1 h1').1
      simp only [Array.getD_eq_getD_getElem?, Array.getElem?_append_left hlt, h1', Option.getD_some]
      exact h2
  · rintro e a' w' ⟨s', h', r', ⟨he, t, m, hres, hreg, hown⟩, hc⟩
    have fin : LeavesInM (Wd none) 0 P fn a'.tmps (fun e w' => ∃ v h' k0 lb, e = .returned (.func (.func gf) #[] (#[.pointer (some ⟨k0, 0, none⟩)] ++ lb)) ∧ CapsRep h' caps lb.toList ∧ v = .pointer (some ⟨k0, 0, none⟩) ∧ BlkRep h' w' v b ∧ (∀ k, hblk v = some k → w.heap.size ≤ k ∧ h' k = none) ∧ After hh r O w h' O w') a'.defers .returning w' := by
      refine leave_marks hc ?_
      intro h' w' hc
      have hx := hc.rg t
      rw [hreg] at hx
      obtain ⟨k0, lb, hk0, hx, hcp⟩ := hx _ (Hlf.refl _)
      have hv1 : (results fn a'.tmps).run P w' = .ok (.func (.func gf) #[] (#[.pointer (some ⟨k0, 0, none⟩)] ++ lb)) w' := by
        rw [results_eq, hres]
        have hx' : a'.tmps.getD t undef = .func (.func gf) #[] (#[.pointer (some ⟨k0, 0, none⟩)] ++ lb) := hx
        simp [resOne, hx']
      have hk := hc.wk
      have hlow : s'.own m ≠ none := by rw [hown]; simp
      have hrm : r' m = .pointer (some ⟨k0, 0, none⟩) := by
        have hb := hk.ow m b hown
        unfold BlkRep at hb
        rw [hbv] at hb
        obtain ⟨k, c, h1, _⟩ := hb
        rw [h1] at hk0 ⊢
        have : k = k0 := by simpa [hblk] using hk0
        rw [this]
      refine ⟨_, hv1, r' m, h', k0, lb, rfl, hcp, hrm, hk.ow m b hown, fun k e => ⟨?_, hk.ho m k hlow e⟩, ?_⟩
      · rcases hk.fo m k hlow e with g | g
        · exact g
        · exact g.elim
      · refine ⟨fun m b e => (by cases e), fun m hm => absurd rfl hm, hk.hi, fun m k hm => absurd rfl hm, hk.os, hk.tape, hk.output, hk.size, fun k h1 _ => hk.old k h1 (fun x => x), hk.hg, fun k e => ?_⟩
        rcases hk.hn k e with g | g | g
        · exact .inl g
        · exact .inr (.inl g)
        · exact g.elim
    rcases he with rfl | rfl <;> exact fin
section
variable {P : Program} {dst : Option Nat} {ty : TypeId} {pos : String} {af : Array Edge} {gd : Option (Nat × Bool)} {d : Nat} {ρ : Operand → AV} {own : Own}
/-- a closure over a box of one's own and over boxes that nobody writes any more -/
theorem op_makeFuncF1 {f : FuncId} {c x : Operand} {m : Nat} {xs : List DV} (hx : ρ c = .loc m 0) (hy : ρ x = .ip xs) : Eff P ⟨dst, .makeFunc (.func f) #[] #[c, x], ty, pos, af, gd⟩ d ρ own (.axm (FlP f [xs]) m) [] none [] :=
  Eff.value fun C h r own' a w hrep hrd hw => by
    have e1 := hrep c (by simp [Op.operands])
    have e2 := hrep x (by simp [Op.operands])
    rw [hx] at e1; rw [hy] at e2
    obtain ⟨k, h1, h2⟩ := e1
    have e2 : IpRep h xs (a.eval x) := e2
    refine ⟨.func (.func f) #[] #[a.eval c, a.eval x], ?_, fun h' q => ⟨k, #[a.eval x], h1.1, by rw [h2]; rfl, ⟨e2.stay q, trivial⟩⟩⟩
    simp [execOp, Instr.makeFunc]
theorem op_makeFuncF2 {f : FuncId} {c x y : Operand} {m : Nat} {xs ys : List DV} (hx : ρ c = .loc m 0) (hy : ρ x = .ip xs) (hz : ρ y = .ip ys) : Eff P ⟨dst, .makeFunc (.func f) #[] #[c, x, y], ty, pos, af, gd⟩ d ρ own (.axm (FlP f [xs, ys]) m) [] none [] :=
  Eff.value fun C h r own' a w hrep hrd hw => by
    have e1 := hrep c (by simp [Op.operands])
    have e2 := hrep x (by simp [Op.operands])
    have e3 := hrep y (by simp [Op.operands])
    rw [hx] at e1; rw [hy] at e2; rw [hz] at e3
    obtain ⟨k, h1, h2⟩ := e1
    have e2 : IpRep h xs (a.eval x) := e2
    have e3 : IpRep h ys (a.eval y) := e3
    refine ⟨.func (.func f) #[] #[a.eval c, a.eval x, a.eval y], ?_, fun h' q => ⟨k, #[a.eval x, a.eval y], h1.1, by rw [h2]; rfl, ⟨e2.stay q, e3.stay q, trivial⟩⟩⟩
    simp [execOp, Instr.makeFunc]
end
section
variable {P : Program} {l : Nat} {xs : List (List PV)} {n0 : Nat} {J : Nat → Hp → (Nat → Prop) → World → Prop} {N np : Nat} {Q : Exit → Nat → St → Prop} {k : Nat} {s : St} {c : Code}
/-- where the list has come to its end the caller has left -/
theorem AK_dead (hK : KeepsB n0 J) (hst : ∀ h G W, ¬ J k h G W) : AK P n0 J N np c Q k s := by
  intro ro S hh r a w G hc
  exact absurd (hc.now hK) (hst _ _ _)
end
end Go.AM
end

section
/- Maps: entries as data; what a look-up, a store, a step of a loop over a map do to them. -/
namespace Go.AM
open Go Go.RowKit Go.MapKept
end Go.AM
end

section
/- Maps with typed keys: made, read, written, cleared of an entry, ranged over. -/
namespace Go.AM
open Go Go.RowKit Go.MapKept
section keys
end keys
end Go.AM
end

section
/- The operations on maps. -/
namespace Go.AM
open Go Go.RowKit Go.MapKept
theorem TyOK.map {P : Program} {T : TypeId} {i : TyI} (h : TyOK P T i) {k e : Nat} (hs : i.sh = .mp k e) : P.underlying T = some (.map k e) := by
  obtain ⟨d, h1, h2⟩ := h.und
  rw [hs] at h2; rw [h1]
  cases d <;> simp only [ShOK] at h2 <;> simp_all
section ops
variable {P : Program} {tt : TT} (hT : TTok P tt)
variable {dst : Option Nat} {ty : TypeId} {pos : String} {af : Array Edge} {gd : Option (Nat × Bool)} {d : Nat} {ρ : Operand → AV} {own : Own}
variable {T : TypeId} {i : TyI} {x y z : Operand}
section keyed
variable {κ : Type} [DecidableEq κ] {kv : κ → Value} {a : Option Nat}
theorem sameBut_set {w : World} {b : Nat} {o o' : Obj} (hb : w.heap[b]? = some o) : SameBut b w { w with heap := w.heap.setIfInBounds b o' } ∧ ({ w with heap := w.heap.setIfInBounds b o' } : World).heap[b]? = some o' :=
  ⟨⟨rfl, rfl, .refl _, by simp, fun k hk => (heap_set hb).2 k hk⟩, (heap_set hb).1⟩
end keyed
end ops
end Go.AM
end

section
/- Maps whose keys are arrays of two numbers or of two strings: what they hold is told entry by entry. -/
namespace Go.AM
open Go Go.RowKit
def rawL (l : List (Value × Value)) : List DV := l.flatMap fun p => [.v p.1, .v p.2]
theorem rawE_rawL : ∀ l : List (Value × Value), rawE (rawL l) = l
  | [] => rfl
  | p :: l => by
    show rawE (.v p.1 :: .v p.2 :: rawL l) = _
    unfold rawE
    rw [rawE_rawL l]
abbrev RB (l : List (Value × Value)) : Blk := ⟨true, 0, 0, [.fn 0 (rawL l)]⟩
theorem rb_rep {h : Hp} {w : World} {v : Value} {l : List (Value × Value)} : BlkRep h w v (RB l) ↔ ∃ k es clk, v = .map (some k) ∧ w.heap[k]? = some (.map es clk) ∧ es.toList.map (fun e => (e.key, e.val)) = l := by
  rw [BlkRep.mpE rfl rfl]
  show (∃ k es clk, v = .map (some k) ∧ w.heap[k]? = some (.map es clk) ∧ es.toList.map (fun e => (e.key, e.val)) = rawE (rawL l)) ↔ _
  rw [rawE_rawL]
section
variable {κ : Type} [DecidableEq κ]
abbrev kA (kc : κ → List Value) (k : κ) : Value := .agg (kc k).toArray
structure KeyA (P : Program) (kt : TypeId) (kc : κ → List Value) : Prop where
  und : ∃ n e, P.underlying kt = some (.array n e)
  eq : ∀ a b w, (Op.equal kt (kA kc a) (kA kc b)).run P w = .ok (decide (a = b)) w
  chk : ∀ a b w, (Instr.checkKey b 10000 kt (kA kc a)).run P w = .ok () w
def enR (kc : κ → List Value) (M : List (κ × Value)) : List (Value × Value) := M.map fun p => (kA kc p.1, p.2)
def getR (M : List (κ × Value)) (k : κ) : Option Value := (M.find? fun p => decide (k = p.1)).map (·.2)
variable {P : Program} {kt : TypeId} {kc : κ → List Value}
theorem run_askR (K : KeyA P kt kc) (w : World) (k : κ) : ∀ (es : List MapEntry) (M : List (κ × Value)) (i : Nat), es.map (fun e => (e.key, e.val)) = enR kc M →
    ∃ r, (Instr.findAsking kt (kA kc k) es i).run P w = .ok r w ∧ (getR M k = none → r = none) ∧ ∀ v, getR M k = some v → ∃ j, r = some (j, v)
  | [], M, i, h => by
    cases M with
    | nil => exact ⟨none, by simp [Instr.findAsking], fun _ => rfl, fun v e => by cases e⟩
    | cons p M => cases h
  | e :: es, M, i, h => by
    cases M with
    | nil => cases h
    | cons p M =>
      simp only [enR, List.map_cons, List.cons.injEq] at h
      obtain ⟨h1, h2⟩ := h
      rw [Prod.mk.injEq] at h1
      have he := K.eq k p.1 w
      rw [← h1.1] at he
      by_cases hk : k = p.1
      · rw [decide_eq_true hk] at he
        refine ⟨some (i, e.val), ?_, fun q => ?_, fun v q => ?_⟩
        · simp only [Instr.findAsking, Sem.run_bind, he, Result.andThen_ok, if_true, Sem.run_pure]
        · unfold getR at q
          rw [List.find?_cons_of_pos (by simpa using hk)] at q; cases q
        · unfold getR at q
          rw [List.find?_cons_of_pos (by simpa using hk)] at q
          cases q
          exact ⟨i, by rw [h1.2]⟩
      · rw [decide_eq_false hk] at he
        obtain ⟨r, r1, r2, r3⟩ := run_askR K w k es M (i + 1) h2
        have hg : getR (p :: M) k = getR M k := by unfold getR; rw [List.find?_cons_of_neg (by simpa using hk)]
        refine ⟨r, ?_, fun q => r2 (hg ▸ q), fun v q => r3 v (hg ▸ q)⟩
        simp only [Instr.findAsking, Sem.run_bind, he, Result.andThen_ok, Bool.false_eq_true, if_false]
        exact r1
theorem run_findR (K : KeyA P kt kc) (w : World) (k : κ) (es : List MapEntry) (M : List (κ × Value)) (h : es.map (fun e => (e.key, e.val)) = enR kc M) :
    ∃ r, (Instr.findKey kt (kA kc k) es).run P w = .ok r w ∧ (getR M k = none → r = none) ∧ ∀ v, getR M k = some v → ∃ j, r = some (j, v) := by
  obtain ⟨n, e0, hu⟩ := K.und
  cases es with
  | nil =>
    have hM : M = [] := by cases M with
      | nil => rfl
      | cons p M => cases h
    subst hM
    refine ⟨none, ?_, fun _ => rfl, fun v e => by cases e⟩
    simp [Instr.findKey, run_underlying hu, Instr.findNow, Result.andThen]
  | cons e es =>
    obtain ⟨r, r1, r2, r3⟩ := run_askR K w k (e :: es) M 0 h
    refine ⟨r, ?_, r2, r3⟩
    have hf : Instr.findNow (.array n e0) (kA kc k) (e :: es) 0 = none := by
      simp [Instr.findNow, Instr.sameNow]
    simp only [Instr.findKey, Sem.run_bind, run_underlying hu, Result.andThen_ok, hf]
    exact r1
end
theorem agg_vals {h : Hp} {vs : List Value} {x : Value} (k : PRep h (.a (vs.map .v)) x) : x = .agg vs.toArray := by
  obtain ⟨cs, rfl, hs, hd⟩ := k
  congr 1
  refine Array.ext (by rw [hs]; simp) fun i h1 h2 => ?_
  have hi : i < vs.length := by simpa using h2
  obtain ⟨y, g1, g2⟩ := hd.get i (.v vs[i]) (by rw [List.getElem?_map, List.getElem?_eq_getElem hi]; rfl)
  simp only [DRep] at g2
  rw [Array.getElem?_eq_getElem h1] at g1
  cases g1
  rw [g2.1]; simp
section ops
variable {P : Program} {tt : TT} (hT : TTok P tt)
variable {dst : Option Nat} {ty : TypeId} {pos : String} {af : Array Edge} {gd : Option (Nat × Bool)} {d : Nat} {ρ : Operand → AV} {own : Own}
variable {T : TypeId} {i : TyI} {x y z : Operand}
/-- a new map -/
theorem op_rawMake : Eff P ⟨dst, .makeMap T none, ty, pos, af, gd⟩ d ρ own (.vec d) [] (some (RB [])) [] := by
  intro C h r own' ac w K Q hrep _ hw hal hK
  obtain ⟨g1, g2, g3⟩ := hal (by simp)
  have hrun : (execOp ac.eval ⟨dst, .makeMap T none, ty, pos, af, gd⟩).run P w = .ok (.value (.map (some w.heap.size))) (w.alloc (.map #[] 0)) := by
    simp [execOp, Instr.makeMap]
  unfold Oper.wp
  rw [hrun]
  refine hK (.map (some w.heap.size)) h (upd r d (.map (some w.heap.size))) _ (.refl _) (fun m hm => upd_ne _ _ _ _ (hm (by simp))) (by show _ = upd r d _ d; simp) ?_
  refine hw.alloc g1 g2 (fun i hi => by cases hi; rfl) ?_ g3 rfl
  rw [rb_rep]
  exact ⟨w.heap.size, #[], 0, rfl, by rw [AM.heap_alloc, if_pos rfl], rfl⟩
variable {κ : Type} [DecidableEq κ] {kt et : TypeId} {kc : κ → List Value} {M : List (κ × Value)} {k : κ} {m : Nat}
def rlk (ok : Bool) (o : Option Value) (zv : Value) : AV := match ok with
  | true => .t [.c (.v (o.getD zv)), .c (.v (.bool o.isSome))]
  | false => .p (.c (.v (o.getD zv)))
include hT
/-- m[k], m of the call's own -/
theorem op_rawLook {zv : Value} {ok : Bool} {v : AV} (ht : tt T = some i) (hs : i.sh = .mp kt et) (K : KeyA P kt kc) (hz : ((P.info? et).bind fun x => x.zero) = some zv) (hz1 : zv.oneCell' = true) (hv1 : ∀ p ∈ M, p.2.oneCell' = true)
    (hx : ρ x = .vec m) (hb : own m = some (RB (enR kc M))) (hy : ρ y = .p (.a ((kc k).map .v))) (hv : rlk ok (getR M k) zv = v) :
    Eff P ⟨dst, .lookup T x y ok, ty, pos, af, gd⟩ d ρ own v [] none [m] :=
  Eff.value fun C h r own' ac w hrep hrd hw => by
    subst hv
    have e1 := hrep x (by simp [Op.operands])
    have e2 := hrep y (by simp [Op.operands])
    rw [hx] at e1; rw [hy] at e2
    have e1' : ac.eval x = r m := e1
    have e2' : ac.eval y = kA kc k := agg_vals e2
    obtain ⟨b, es, clk, q1, q2, q3⟩ := rb_rep.1 (hw.ow m _ ((hrd m (by simp)).trans hb))
    have hu := (hT T i ht).map hs
    have hzz : (zeroValue et).run P w = .ok zv w := by
      cases hi : P.info? et with
      | none => rw [hi] at hz; cases hz
      | some ti => rw [hi] at hz; simp [zeroValue, typeInfo, hi, show ti.zero = some zv from hz]
    obtain ⟨rr, r1, r2, r3⟩ := run_findR K w k es.toList M q3
    have hck : ∀ b, (Instr.checkKey b 10000 kt (kA kc k)).run P w = .ok () w := fun b => K.chk k b w
    have fin : ∀ (val : Value) (g : Bool), val.oneCell' = true → val = (getR M k).getD zv → g = (getR M k).isSome → AVRep h r (rlk ok (getR M k) zv) (if ok then .tuple #[val, .bool g] else val) := by
      intro val g h0 h1 h2
      subst h1 h2
      cases ok with
      | true => exact ⟨[_, .bool _], rfl, ⟨rfl, h0⟩, ⟨rfl, rfl⟩, trivial⟩
      | false => exact ⟨rfl, h0⟩
    cases hg : getR M k with
    | none =>
      have hr := r2 hg
      subst hr
      refine ⟨_, ?_, hg ▸ fin zv false hz1 (by rw [hg]; rfl) (by rw [hg]; rfl)⟩
      simp only [execOp, e1', q1, e2', Sem.run_bind, Instr.lookup, run_underlying hu, Result.andThen_ok, MapKept.run_getObj_map q2, hck, r1, hzz, Sem.run_pure]
    | some u =>
      obtain ⟨j, hr⟩ := r3 u hg
      subst hr
      have hu1 : u.oneCell' = true := by
        unfold getR at hg
        cases hf : M.find? fun p => decide (k = p.1) with
        | none => rw [hf] at hg; cases hg
        | some p => rw [hf] at hg; cases hg; exact hv1 p (List.mem_of_find?_eq_some hf)
      refine ⟨_, ?_, hg ▸ fin u true hu1 (by rw [hg]; rfl) (by rw [hg]; rfl)⟩
      simp only [execOp, e1', q1, e2', Sem.run_bind, Instr.lookup, run_underlying hu, Result.andThen_ok, MapKept.run_getObj_map q2, hck, r1, Sem.run_pure]
/-- m[k] = v, where m has no such key yet -/
theorem op_rawIns {v : Value} (ht : tt T = some i) (hs : i.sh = .mp kt et) (K : KeyA P kt kc) (hn : getR M k = none)
    (hx : ρ x = .vec m) (hb : own m = some (RB (enR kc M))) (hy : ρ y = .p (.a ((kc k).map .v))) (hz : ρ z = .p (.c (.v v))) :
    Eff P ⟨dst, .mapUpdate T x y z, ty, pos, af, gd⟩ d ρ own .junk [(m, some (RB (enR kc (M ++ [(k, v)]))))] none [m] := by
  intro C h r own' ac w KK Q hrep hrd hw _ hK
  have hb' := (hrd m (by simp)).trans hb
  have e1 := hrep x (by simp [Op.operands])
  have e2 := hrep y (by simp [Op.operands])
  have e3 := hrep z (by simp [Op.operands])
  rw [hx] at e1; rw [hy] at e2; rw [hz] at e3
  have e1' : ac.eval x = r m := e1
  have e2' : ac.eval y = kA kc k := agg_vals e2
  have e3' : ac.eval z = v := rep_val e3
  obtain ⟨b, es, clk, q1, q2, q3⟩ := rb_rep.1 (hw.ow m _ hb')
  have hu := (hT T i ht).map hs
  obtain ⟨rr, r1, r2, _⟩ := run_findR K w k es.toList M q3
  have hr := r2 hn
  subst hr
  obtain ⟨s1, s2⟩ := sameBut_set (o' := .map (es.push ⟨kA kc k, v, clk⟩) (clk + 1)) q2
  have hrun : (execOp ac.eval ⟨dst, .mapUpdate T x y z, ty, pos, af, gd⟩).run P w = .ok .skip { w with heap := w.heap.setIfInBounds b (.map (es.push ⟨kA kc k, v, clk⟩) (clk + 1)) } := by
    simp only [execOp, e1', q1, e2', e3', Sem.run_bind, Instr.mapUpdate, run_underlying hu, Result.andThen_ok, MapKept.run_getObj_map q2, K.chk, r1, MapKept.run_setObj_map _ q2, Sem.run_pure]
  unfold Oper.wp
  rw [hrun]
  refine hK undef h r _ (.refl _) (fun _ _ => rfl) trivial (hw.write (by rw [hb']; simp) (i := b) (by rw [q1]; rfl) s1 ?_ (fun j hj => by cases hj))
  rw [rb_rep]
  refine ⟨b, _, _, q1, s2, ?_⟩
  rw [Array.toList_push, List.map_append, q3]
  simp [enR]
end ops
section
variable {P : Program} {tt : TT} (hT : TTok P tt) {T e : TypeId} {i j : TyI}
include hT
theorem keyA2 {κ : Type} [DecidableEq κ] {kc : κ → List Value} {td : TypeDesc} {f g : κ → Value} (ht : tt T = some i) (hs : i.sh = .ar 2 e) (he : tt e = some j) (hag : j.sh.agg = false) (hz : j.size = 1) (hu : P.underlying e = some td)
    (hkc : ∀ k, kc k = [f k, g k]) (hf1 : ∀ k, (f k).oneCell' = true) (hg1 : ∀ k, (g k).oneCell' = true) (hkf : ∀ k, MapKept.IsKey td (f k)) (hkg : ∀ k, MapKept.IsKey td (g k))
    (hef : ∀ a b w, ∃ t : Bool, (Op.equalIn 9999 e (f a) (f b)).run P w = .ok t w ∧ (t = true ↔ f a = f b)) (heg : ∀ a b w, ∃ t : Bool, (Op.equalIn 9999 e (g a) (g b)).run P w = .ok t w ∧ (t = true ↔ g a = g b))
    (hinj : ∀ a b, f a = f b → g a = g b → a = b) : KeyA P T kc := by
  have hua := (hT T i ht).array hs
  obtain ⟨ti, k1, k2, _⟩ := (hT e j he).info
  have hc : P.cellsOf e = 1 := by
    have : P.cellsOf e = ti.size := by unfold Program.cellsOf; rw [k1]; rfl
    rw [this, k2, hz]
  have pt : ∀ (k : κ) (off : Nat) (v : Value) (w : World), [f k, g k][off]? = some v → (part e (#[f k, g k] : Array Value) off).run P w = .ok v w := fun k off v w hv => by
    have hd : DReps (fun _ => none) [.v (f k), .v (g k)] fun q => (#[f k, g k] : Array Value)[q]? := by
      rw [DReps.iff]
      intro q dv hq
      match q with
      | 0 => cases hq; exact ⟨f k, rfl, by simp only [DRep]; exact ⟨trivial, hf1 k⟩⟩
      | 1 => cases hq; exact ⟨g k, rfl, by simp only [DRep]; exact ⟨trivial, hg1 k⟩⟩
      | q + 2 => simp at hq
    obtain ⟨v', q1, q2⟩ := part_one (w := w) (hT e j he) hag hd (off := off) (dv := .v v) (by
      match off with
      | 0 => cases hv; rfl
      | 1 => cases hv; rfl
      | q + 2 => simp at hv)
    have q3 : v' = v := q2.1
    rw [q1, q3]
  refine ⟨⟨2, e, hua⟩, fun a b w => ?_, fun a em w => ?_⟩
  · rw [show kA kc a = .agg #[f a, g a] by unfold kA; rw [hkc], show kA kc b = .agg #[f b, g b] by unfold kA; rw [hkc]]
    unfold Op.equal
    have q := run_equalIn_array (P := P) (w := w) 9999 (t := T) (e := e) (n := 2) #[f a, g a] #[f b, g b] hua k1
    refine Eq.trans q ?_
    rw [hc]
    have hr : List.range 2 = [0, 1] := rfl
    have a0 := pt a (0 * 1) _ w rfl
    have a1 := pt a (1 * 1) _ w rfl
    have b0 := pt b (0 * 1) _ w rfl
    have b1 := pt b (1 * 1) _ w rfl
    rw [hr]
    obtain ⟨t0, q0, i0⟩ := hef a b w
    obtain ⟨t1, q1, i1⟩ := heg a b w
    simp only [Op.eqItems, Sem.run_bind, a0, b0, Result.andThen_ok, q0]
    cases t0 with
    | true =>
      cases t1 with
      | true => rw [decide_eq_true (hinj a b (i0.1 rfl) (i1.1 rfl))]; simp [Sem.run_bind, a1, b1, q1]
      | false => rw [decide_eq_false (fun x => by have := i1.2 (by rw [x]); cases this)]; simp [Sem.run_bind, a1, b1, q1]
    | false => rw [decide_eq_false (fun x => by have := i0.2 (by rw [x]); cases this)]; simp
  · rw [show kA kc a = .agg #[f a, g a] by unfold kA; rw [hkc]]
    have a0 := pt a (0 * 1) _ w rfl
    have a1 := pt a (1 * 1) _ w rfl
    have hsz : (sizeOf e).run P w = .ok 1 w := by rw [(hT e j he).size, hz]
    have key : ∀ n : Nat, (Instr.checkKey em (n + 1 + 1) T (.agg #[f a, g a])).run P w = .ok () w := fun n => by
      have c0 : (Instr.checkKey em (n + 1) e (f a)).run P w = .ok () w := MapKept.run_checkKey hu (hkf a) em n
      have c1 : (Instr.checkKey em (n + 1) e (g a)).run P w = .ok () w := MapKept.run_checkKey hu (hkg a) em n
      rw [Instr.checkKey]
      simp only [Sem.run_bind, run_underlying hua, Result.andThen_ok]
      simp only [Std.Legacy.Range.forIn_eq_forIn_range', Std.Legacy.Range.size, Nat.sub_zero, Nat.add_sub_cancel, Nat.div_one, List.range'_succ, List.range'_zero, List.forIn_cons, List.forIn_nil, Sem.run_bind, hsz, Result.andThen_ok, a0, a1, c0, c1, Sem.run_pure, Nat.zero_add]
    exact key 9998
end
end Go.AM
end

section
/- Indefinite forms: the step to the neighbor, the run of neighbors, cycles; and checks that the kernel may run. -/
namespace Go.AM
open Go Go.RowKit
structure DOK (d : Int) : Prop where
  lo : 5 ≤ d
  hi : d ≤ 4000
  m4 : d % 4 ≤ 1
  sq : isSq d = false
def stR (s : Int) (f : Fm) : Int :=
  if s < (f.c.natAbs : Int) then
    (if (f.c.natAbs : Int) < (-f.b) % (2 * (f.c.natAbs : Int)) then (-f.b) % (2 * (f.c.natAbs : Int)) - 2 * (f.c.natAbs : Int) else (-f.b) % (2 * (f.c.natAbs : Int)))
  else s - (s + f.b) % (2 * (f.c.natAbs : Int))
def stK (s : Int) (f : Fm) : Int := (stR s f + f.b) / (2 * f.c)
def stpM (s : Int) (f : Fm) : Mt := ⟨0, -1, 1, stK s f⟩
def rho (s : Int) (f : Fm) : Fm := f.app (stpM s f)
def rdI (s : Int) (f : Fm) : Bool := decide (0 < f.b) && decide (f.b ≤ s) && decide (s < 2 * (f.a.natAbs : Int) + f.b) && decide (2 * (f.a.natAbs : Int) - f.b ≤ s)
abbrev M1 : Mt := ⟨1, 0, 0, 1⟩
def nxS (s : Int) (x : Fm × Mt) : Fm × Mt := (rho s x.1, x.2.mul (stpM s x.1))
def nb (s : Int) (f : Fm) : Nat → Fm × Mt
  | 0 => (f, M1)
  | k + 1 => nxS s (nb s f k)
theorem stpM_det (s : Int) (f : Fm) : (stpM s f).det = 1 := by unfold stpM Mt.det; simp
theorem rho_disc (s : Int) (f : Fm) : (rho s f).disc = f.disc := disc_T (stpM_det s f)
theorem nb_disc (s : Int) (f : Fm) : ∀ k, (nb s f k).1.disc = f.disc
  | 0 => rfl
  | k + 1 => (rho_disc s _).trans (nb_disc s f k)
theorem sq_ac {f : Fm} (h : isSq f.disc = false) : f.a ≠ 0 ∧ f.c ≠ 0 := by
  constructor
  · intro e
    have : isSq f.disc = true := isSq_iff.2 ⟨f.b, by unfold Fm.disc dsc; rw [e]; omega⟩
    rw [h] at this; cases this
  · intro e
    have : isSq f.disc = true := isSq_iff.2 ⟨f.b, by unfold Fm.disc dsc; rw [e]; omega⟩
    rw [h] at this; cases this
theorem L_abs {n : Nat} {z : Int} (h : L n z) : L n (z.natAbs : Int) := by unfold L at *; rwa [Int.natAbs_natCast]
def okS (z : Int) : Bool := decide (z.natAbs < 4611686018427387904)
def okB (z : Int) : Bool := decide (z.natAbs < 2 ^ (2 ^ 10))
theorem okB_L {z : Int} (h : okB z = true) : L 10 z := by unfold okB at h; unfold L; exact of_decide_eq_true h
theorem okS_lt {z : Int} (h : okS z = true) : -4611686018427387904 < z ∧ z < 4611686018427387904 := by
  unfold okS at h; have := of_decide_eq_true h; omega
theorem okS_L {z : Int} (h : okS z = true) : L 6 z := by
  unfold okS at h; have := of_decide_eq_true h
  unfold L
  exact Nat.lt_of_lt_of_le this (by decide)
def okX (x : Fm × Mt) : Bool := okS x.1.a && okS x.1.b && okS x.1.c && okB x.2.a && okB x.2.b && okB x.2.c && okB x.2.d
structure OKX (x : Fm × Mt) : Prop where
  a : okS x.1.a = true
  b : okS x.1.b = true
  c : okS x.1.c = true
  p : okB x.2.a = true
  q : okB x.2.b = true
  r : okB x.2.c = true
  s : okB x.2.d = true
theorem okX_iff {x : Fm × Mt} : okX x = true ↔ OKX x := by
  unfold okX
  simp only [Bool.and_eq_true]
  exact ⟨fun ⟨⟨⟨⟨⟨⟨a, b⟩, c⟩, p⟩, q⟩, r⟩, s⟩ => ⟨a, b, c, p, q, r, s⟩, fun h => ⟨⟨⟨⟨⟨⟨h.a, h.b⟩, h.c⟩, h.p⟩, h.q⟩, h.r⟩, h.s⟩⟩
structure RdT (s : Int) (f : Fm) (n : Nat) (y : Fm × Mt) : Prop where
  ok : ∀ k, k ≤ n → OKX (nb s f k)
  no : ∀ k, k < n → rdI s (nb s f k).1 = false
  yes : rdI s y.1 = true
  eq : nb s f n = y
def redC (s : Int) : Nat → Fm × Mt → Option (Fm × Mt)
  | 0, _ => none
  | n + 1, x => bif okX x then (bif rdI s x.1 then some x else redC s n (nxS s x)) else none
theorem redC_run {s : Int} {f : Fm} {y : Fm × Mt} : ∀ {N k : Nat}, redC s N (nb s f k) = some y → ∃ n, k ≤ n ∧ (∀ j, k ≤ j → j ≤ n → OKX (nb s f j)) ∧ (∀ j, k ≤ j → j < n → rdI s (nb s f j).1 = false) ∧ rdI s y.1 = true ∧ nb s f n = y
  | 0, _, h => by cases h
  | N + 1, k, h => by
    unfold redC at h
    cases h1 : okX (nb s f k) with
    | false => rw [h1] at h; cases h
    | true =>
      rw [h1] at h
      cases h2 : rdI s (nb s f k).1 with
      | true =>
        rw [h2] at h
        have e : nb s f k = y := Option.some.inj h
        exact ⟨k, Nat.le_refl _, fun j g1 g2 => by rw [Nat.le_antisymm g2 g1]; exact okX_iff.1 h1, fun j g1 g2 => by omega, by rw [← e]; exact h2, e⟩
      | false =>
        rw [h2] at h
        obtain ⟨n, g1, g2, g3, g4, g5⟩ := redC_run (N := N) (k := k + 1) h
        refine ⟨n, by omega, fun j q1 q2 => ?_, fun j q1 q2 => ?_, g4, g5⟩
        · rcases Nat.lt_or_ge k j with q | q
          · exact g2 j q q2
          · rw [Nat.le_antisymm q q1]; exact okX_iff.1 h1
        · rcases Nat.lt_or_ge k j with q | q
          · exact g3 j q q2
          · rw [Nat.le_antisymm q q1]; exact h2
theorem redC_T {s : Int} {f : Fm} {N : Nat} {y : Fm × Mt} (h : redC s N (f, M1) = some y) : ∃ n, RdT s f n y := by
  obtain ⟨n, _, g2, g3, g4, g5⟩ := redC_run (s := s) (f := f) (k := 0) h
  exact ⟨n, ⟨fun k hk => g2 k (Nat.zero_le _) hk, fun k hk => g3 k (Nat.zero_le _) hk, g4, g5⟩⟩
theorem RdT.disc {s : Int} {f : Fm} {n : Nat} {y : Fm × Mt} (h : RdT s f n y) : y.1.disc = f.disc := by rw [← h.eq]; exact nb_disc s f n
structure ArT (s : Int) (f : Fm) (n : Nat) : Prop where
  pos : 0 < n
  le : n ≤ 1000
  ok : ∀ k, k ≤ n → OKX (nb s f k)
  no : ∀ k, 0 < k → k < n → (nb s f k).1 ≠ f
  yes : (nb s f n).1 = f
def arL (s : Int) (f : Fm) (n : Nat) : List (Fm × Mt) := (List.range n).map (nb s f)
def Fm.eqb (f g : Fm) : Bool := decide (f.a = g.a) && decide (f.b = g.b) && decide (f.c = g.c)
theorem Fm.eqb_iff {f g : Fm} : f.eqb g = true ↔ f = g := by
  unfold Fm.eqb
  simp only [Bool.and_eq_true, decide_eq_true_eq]
  exact ⟨fun ⟨⟨a, b⟩, c⟩ => Fm.ext a b c, fun e => by subst e; exact ⟨⟨rfl, rfl⟩, rfl⟩⟩
/-- the cycle behind x, in order -/
def arC (s : Int) (f : Fm) : Nat → Fm × Mt → Option (List (Fm × Mt))
  | 0, _ => none
  | n + 1, x => bif okX x then (bif x.1.eqb f then some [] else (arC s f n (nxS s x)).map (x :: ·)) else none
def arF (s : Int) (f : Fm) (N : Nat) : Option (List (Fm × Mt)) := bif okX (f, M1) then (arC s f N (nxS s (f, M1))).map ((f, M1) :: ·) else none
theorem arC_run {s : Int} {f : Fm} : ∀ {N k : Nat} {l : List (Fm × Mt)}, arC s f N (nb s f k) = some l → ∃ n, k ≤ n ∧ n < k + N ∧ (∀ j, k ≤ j → j ≤ n → OKX (nb s f j)) ∧ (∀ j, k ≤ j → j < n → (nb s f j).1 ≠ f) ∧ (nb s f n).1 = f ∧ l = (List.range' k (n - k)).map (nb s f)
  | 0, _, _, h => by cases h
  | N + 1, k, l, h => by
    unfold arC at h
    cases h1 : okX (nb s f k) with
    | false => rw [h1] at h; cases h
    | true =>
      rw [h1] at h
      cases h2 : (nb s f k).1.eqb f with
      | true =>
        rw [h2] at h
        have e : [] = l := Option.some.inj h
        refine ⟨k, Nat.le_refl _, by omega, fun j g1 g2 => by rw [Nat.le_antisymm g2 g1]; exact okX_iff.1 h1, fun j g1 g2 => by omega, Fm.eqb_iff.1 h2, by rw [← e, Nat.sub_self]; rfl⟩
      | false =>
        rw [h2] at h
        have h : (arC s f N (nb s f (k + 1))).map (nb s f k :: ·) = some l := h
        cases h3 : arC s f N (nb s f (k + 1)) with
        | none => rw [h3] at h; cases h
        | some l' =>
          rw [h3] at h
          have e : nb s f k :: l' = l := Option.some.inj h
          obtain ⟨n, g1, g0, g2, g3, g4, g5⟩ := arC_run h3
          refine ⟨n, by omega, by omega, fun j q1 q2 => ?_, fun j q1 q2 => ?_, g4, ?_⟩
          · rcases Nat.lt_or_ge k j with q | q
            · exact g2 j q q2
            · rw [Nat.le_antisymm q q1]; exact okX_iff.1 h1
          · rcases Nat.lt_or_ge k j with q | q
            · exact g3 j q q2
            · rw [Nat.le_antisymm q q1]
              intro e
              rw [Fm.eqb_iff.2 e] at h2; cases h2
          · rw [← e, g5, show n - k = (n - (k + 1)) + 1 by omega, List.range'_succ, List.map_cons]
theorem arF_T {s : Int} {f : Fm} {N : Nat} {l : List (Fm × Mt)} (hN : N < 1000) (h : arF s f N = some l) : ∃ n, ArT s f n ∧ l = arL s f n := by
  unfold arF at h
  cases h1 : okX (f, M1) with
  | false => rw [h1] at h; cases h
  | true =>
    rw [h1] at h
    have h : (arC s f N (nb s f 1)).map ((f, M1) :: ·) = some l := h
    cases h3 : arC s f N (nb s f 1) with
    | none => rw [h3] at h; cases h
    | some l' =>
      rw [h3] at h
      have e : (f, M1) :: l' = l := Option.some.inj h
      obtain ⟨n, g1, g0, g2, g3, g4, g5⟩ := arC_run h3
      refine ⟨n, ⟨by omega, by omega, fun k hk => ?_, fun k hk hk2 => g3 k hk hk2, g4⟩, ?_⟩
      · rcases Nat.eq_zero_or_pos k with q | q
        · subst q; exact okX_iff.1 h1
        · exact g2 k q hk
      · rw [← e, g5]
        unfold arL
        rw [List.range_eq_range', show n = (n - 1) + 1 by omega, List.range'_succ, List.map_cons, Nat.add_sub_cancel]
        rfl
end Go.AM
end

section
/- Facts for the walks of indefinite forms. -/
namespace Go.AM
open Go Go.RowKit
theorem DOK.L6 {d : Int} (h : DOK d) : L 6 d := by
  have := h.lo; have := h.hi
  unfold L
  exact Nat.lt_of_lt_of_le (show d.natAbs < 5000 by omega) (by decide)
theorem DOK.rt {d : Int} (h : DOK d) : 2 ≤ rootV d ∧ rootV d ≤ 64 ∧ rootV d * rootV d < d := by
  have h1 := h.lo; have h2 := h.hi
  have h3 := isSq_root (x := d)
  rw [h.sq, decide_eq_true (by omega), Bool.true_and] at h3
  have h4 := of_decide_eq_false h3.symm
  have h5 : rootV d = (isq d.toNat : Nat) := rootV_of (by omega)
  obtain ⟨r, hr⟩ : ∃ r, r = isq d.toNat := ⟨_, rfl⟩
  have h6 := isq_spec d.toNat
  rw [← hr] at h5 h6
  have h7 : r ≤ 64 := by
    rcases Nat.lt_or_ge 64 r with q | q
    · have : 65 * 65 ≤ r * r := Nat.mul_le_mul q q
      omega
    · exact q
  have h8 : 2 ≤ r := by
    rcases Nat.lt_or_ge r 2 with q | q
    · have : (r + 1) * (r + 1) ≤ 2 * 2 := Nat.mul_le_mul (by omega) (by omega)
      omega
    · exact q
  have h9 : (r : Int) * (r : Int) ≤ d := by
    have : ((r * r : Nat) : Int) ≤ d := by omega
    rwa [Int.natCast_mul] at this
  rw [h5] at h4 ⊢
  refine ⟨by omega, by omega, ?_⟩
  omega
theorem nx_t {n k : Nat} {b : Bool} (h : b = true) : nx n k b = k + 1 := by rw [h]; rfl
theorem nx_f {n k : Nat} {b : Bool} (h : b = false) : n ≤ nx n k b := by rw [h]; show n ≤ n + 1 + k; omega
theorem own_less {rest : List (Nat × Blk)} {m : Nat} {b : Blk} (h : lookO rest m = none) : ∀ x, lookO rest x = upd (lookO ((m, b) :: rest)) m none x := by
  intro x
  show _ = upd (upd (lookO rest) m (some b)) m none x
  by_cases e : x = m
  · subst e; rw [upd_same, h]
  · rw [upd_ne _ _ _ _ e, upd_ne _ _ _ _ e]
theorem rt_L {d : Int} (h : DOK d) : L 6 (rootV d) := by
  have := h.rt
  unfold L
  exact Nat.lt_of_lt_of_le (show (rootV d).natAbs < 5000 by omega) (by decide)
theorem kn_sg {d : Int} (h : DOK d) : (sgn (d - rootV d * rootV d) == 0) = false := by
  have := h.rt
  exact beq_false_of_ne fun e => by have := sgn_zero_iff.1 e; omega
theorem kn_m4 {d : Int} (h : DOK d) : decide (cmpI (d % 4) 1 > 0) = false := decide_eq_false fun e => by have := cmpI_gt_zero.1 e; have := h.m4; omega
theorem kn_hi {d : Int} (h : DOK d) : decide (cmpI d 65536 > 0) = false := decide_eq_false fun e => by have := cmpI_gt_zero.1 e; have := h.hi; omega
theorem rdI_iff {s : Int} {f : Fm} : rdI s f = true ↔ 0 < f.b ∧ f.b ≤ s ∧ s < 2 * (f.a.natAbs : Int) + f.b ∧ 2 * (f.a.natAbs : Int) - f.b ≤ s := by
  unfold rdI; simp only [Bool.and_eq_true, decide_eq_true_eq, and_assoc]
theorem rdI_no {s : Int} {f : Fm} (h : ¬ (0 < f.b ∧ f.b ≤ s ∧ s < 2 * (f.a.natAbs : Int) + f.b ∧ 2 * (f.a.natAbs : Int) - f.b ≤ s)) : false = rdI s f := by
  rw [← rdI_iff] at h; exact (Bool.eq_false_iff.2 h).symm
theorem rdI_dec {s : Int} {f : Fm} (h1 : 0 < f.b) (h2 : f.b ≤ s) (h3 : s < 2 * (f.a.natAbs : Int) + f.b) : decide (cmpI (2 * (f.a.natAbs : Int) - f.b) s ≤ 0) = rdI s f := by
  rw [Bool.eq_iff_iff, decide_eq_true_iff, cmpI_le_zero, rdI_iff]
  exact ⟨fun q => ⟨h1, h2, h3, q⟩, fun q => q.2.2.2⟩
structure OKF (f : Fm) : Prop where
  a : okS f.a = true
  b : okS f.b = true
  c : okS f.c = true
theorem OKX.f {x : Fm × Mt} (h : OKX x) : OKF x.1 := ⟨h.a, h.b, h.c⟩
theorem stR_1 {s : Int} {f : Fm} (h : ¬ s < (f.c.natAbs : Int)) : s - (s + f.b) % (2 * (f.c.natAbs : Int)) = stR s f := by unfold stR; rw [if_neg h]
theorem stR_2 {s : Int} {f : Fm} (h : s < (f.c.natAbs : Int)) (h2 : (f.c.natAbs : Int) < (-f.b) % (2 * (f.c.natAbs : Int))) : (-f.b) % (2 * (f.c.natAbs : Int)) - 2 * (f.c.natAbs : Int) = stR s f := by unfold stR; rw [if_pos h, if_pos h2]
theorem stR_3 {s : Int} {f : Fm} (h : s < (f.c.natAbs : Int)) (h2 : ¬ (f.c.natAbs : Int) < (-f.b) % (2 * (f.c.natAbs : Int))) : (-f.b) % (2 * (f.c.natAbs : Int)) = stR s f := by unfold stR; rw [if_pos h, if_neg h2]
theorem stR_abs {s : Int} {f : Fm} (hs : 0 ≤ s ∧ s ≤ 64) (hc : f.c ≠ 0) : (stR s f).natAbs ≤ 2 * f.c.natAbs + 64 := by
  have h0 : 2 * (f.c.natAbs : Int) ≠ 0 := by omega
  have h1 := Int.emod_nonneg (s + f.b) h0
  have h2 := Int.emod_lt_of_pos (s + f.b) (show 0 < 2 * (f.c.natAbs : Int) by omega)
  have h3 := Int.emod_nonneg (-f.b) h0
  have h4 := Int.emod_lt_of_pos (-f.b) (show 0 < 2 * (f.c.natAbs : Int) by omega)
  unfold stR
  split
  · split <;> omega
  · omega
end Go.AM
namespace Go.AM
open Go Go.RowKit
theorem stK_L {s : Int} {f : Fm} (hs : 0 ≤ s ∧ s ≤ 64) (hx : OKF f) (hc : f.c ≠ 0) : L 6 (stK s f) := by
  have h1 := stR_abs (f := f) hs hc
  have h2 := okS_lt hx.b
  have h3 := okS_lt hx.c
  have h4 : (stR s f + f.b).natAbs < 18446744073709551616 := by omega
  have h5 : L 6 (stR s f + f.b) := by
    unfold L
    exact Nat.lt_of_lt_of_le h4 (by decide)
  exact h5.ediv
theorem nb_get {s : Int} {f : Fm} {K i : Nat} (h : i < K) : ((List.range K).map fun k => ([PF (nb s f k).1, PM (nb s f k).2] : List PV))[i]? = some [PF (nb s f i).1, PM (nb s f i).2] := by
  rw [List.getElem?_map, List.getElem?_range h]; rfl
theorem nb_two {s : Int} {f : Fm} {K : Nat} : ∀ x ∈ (List.range K).map (fun k => ([PF (nb s f k).1, PM (nb s f k).2] : List PV)), x.length = 2 := fun x hx => by
  obtain ⟨k, _, rfl⟩ := List.mem_map.1 hx
  rfl
theorem nb_len {s : Int} {f : Fm} {K : Nat} : ((List.range K).map fun k => ([PF (nb s f k).1, PM (nb s f k).2] : List PV)).length = K := by rw [List.length_map, List.length_range]
theorem nb_at {s : Int} {f : Fm} {K k : Nat} {x : List PV} (h : ((List.range K).map fun k => ([PF (nb s f k).1, PM (nb s f k).2] : List PV))[k]? = some x) : k < K ∧ x = [PF (nb s f k).1, PM (nb s f k).2] := by
  have hl := (List.getElem?_eq_some_iff.1 h).1
  rw [nb_len] at hl
  rw [nb_get hl] at h
  exact ⟨hl, (Option.some.inj h).symm⟩
end Go.AM
end

section
/- slices.SortFunc by the kit's contract, for slices that the call owns: one sorted list. -/
namespace Go.AM
open Go Go.RowKit
theorem grow_of {w w' : World} (os : w'.os = w.os) (tp : w'.tape = w.tape) (out : OutD w' w) (sz : w.heap.size ≤ w'.heap.size) (old : ∀ k, k < w.heap.size → w'.heap[k]? = w.heap[k]?) :
    ∃ q os', w' = Sort.grow (w.drewN q) os' := by
  obtain ⟨o1, o2⟩ := out
  refine ⟨w'.drawn - w.drawn, w'.heap.extract w.heap.size w'.heap.size, ?_⟩
  have hh : w'.heap = w.heap ++ w'.heap.extract w.heap.size w'.heap.size := by
    apply Array.ext_getElem?
    intro k
    rw [Array.getElem?_append]
    by_cases hk : k < w.heap.size
    · rw [if_pos hk, old k hk]
    · rw [if_neg hk, Array.getElem?_extract]
      by_cases h2 : k < w'.heap.size
      · rw [if_pos (by omega), show w.heap.size + (k - w.heap.size) = k by omega]
      · rw [if_neg (by omega), Array.getElem?_eq_none (by omega)]
  have hd : w'.drawn = w.drawn + (w'.drawn - w.drawn) := by omega
  unfold Sort.grow World.drewN
  generalize w'.heap.extract w.heap.size w'.heap.size = x at hh
  generalize w'.drawn - w.drawn = y at hd
  cases w'
  simp only at os tp o1 hh hd
  subst os tp o1 hh hd
  rfl
section
variable {β : Type} {encD : β → List DV} {k : Nat}
theorem flat_get (hL : ∀ b, (encD b).length = k) : ∀ (l : List β) (t : Nat) (dv : DV), (l.flatMap encD)[t]? = some dv → ∃ b, l[t / k]? = some b ∧ (encD b)[t % k]? = some dv
  | [], t, dv, h => by simp at h
  | b :: l, t, dv, h => by
    rw [List.flatMap_cons, List.getElem?_append] at h
    rw [hL b] at h
    by_cases ht : t < k
    · rw [if_pos ht] at h
      rw [Nat.div_eq_of_lt ht, Nat.mod_eq_of_lt ht]
      exact ⟨b, rfl, h⟩
    · rw [if_neg ht] at h
      obtain ⟨b', h1, h2⟩ := flat_get hL l (t - k) dv h
      have hk : 0 < k := by
        rcases Nat.eq_zero_or_pos k with e | e
        · subst e
          have := List.length_eq_zero_iff.1 (hL b')
          rw [this] at h2; simp at h2
        · exact e
      have e1 : t / k = (t - k) / k + 1 := by
        rw [Nat.div_eq_sub_div hk (by omega)]
      have e2 : t % k = (t - k) % k := Nat.mod_eq_sub_mod (by omega)
      rw [e1, e2]
      exact ⟨b', by simpa using h1, h2⟩
theorem flat_len (hL : ∀ b, (encD b).length = k) (l : List β) : (l.flatMap encD).length = l.length * k := by
  induction l with
  | nil => simp
  | cons b l ih => rw [List.flatMap_cons, List.length_append, ih, hL, List.length_cons, Nat.add_mul]; omega
/-- an element with the cells that stand for it -/
def ElS (h : Hp) (encD : β → List DV) (k : Nat) : Type := {x : List Value × β // x.1.length = k ∧ DReps h (encD x.2) fun i => x.1[i]?}
def ElS.enc {h : Hp} (x : ElS h encD k) : List Value := x.1.1
def ElS.ob {h : Hp} (x : ElS h encD k) : β := x.1.2
theorem ElS.one {h : Hp} (hL : ∀ b, (encD b).length = k) (x : ElS h encD k) : ∀ v ∈ x.enc, v.oneCell' = true := by
  intro v hv
  obtain ⟨i, hi⟩ := List.mem_iff_getElem?.1 hv
  have hlt := (List.getElem?_eq_some_iff.1 hi).1
  have e1 : x.enc.length = k := x.2.1
  obtain ⟨y, y1, y2⟩ := x.2.2.get i ((encD x.1.2)[i]'(by rw [hL]; omega)) (List.getElem?_eq_getElem _)
  have e2 : x.enc[i]? = some y := y1
  rw [hi] at e2; cases e2
  exact y2.one
end
theorem heap_sortW {α : Type} [Inhabited α] (enc : α → List Value) (k : Nat) (w : World) (blk off n : Nat) (d : Array α) (os : Array Obj) (i : Nat) (hi : i < w.heap.size) :
    (Proofs.sortWorldK enc k w blk off n d os).heap[i]? = if i = blk then (w.heap[i]?).map (Sort.onCells (Sort.putCells id off (Sort.flatK enc k d))) else w.heap[i]? := by
  unfold Proofs.sortWorldK
  rw [Sort.heap_grow_old _ _ (by show i < (Sort.putRow _ _ _ _ _).heap.size; rw [Sort.size_putRow]; exact hi)]
  show (w.heap.modify blk _)[i]? = _
  rw [Array.getElem?_modify]
  by_cases e : blk = i
  · subst e; rw [if_pos rfl]
  · rw [if_neg e, if_neg (fun x => e x.symm)]
open Go.Proofs in
set_option maxHeartbeats 2000000 in
/-- slices.SortFunc: the slice of the call's own holds the sorted list. -/
theorem sort_callM {P : Program} {ρ : Shelf.Ren} (L : SlLaysF0.n6 P ρ) {tt : TT} (hT : TTok P tt) {j : TyI} (he : tt (ρ.t 24) = some j) (hag : j.sh.agg = true) {k : Nat} (hjs : j.size = k) (hk0 : 0 < k) {β : Type} {encD : β → List DV} (hL : ∀ b, (encD b).length = k)
    (cb : β → β → Int) (hO : Sort.SWO (ltOf cb)) {g : Nat} (hc : ∀ x y : β, Call0 P g [.p (.a (encD x)), .p (.a (encD y))] (.p (.c (.v (.int .i64 (cb x y)))))) {m : Nat} {e : TypeId} {l l' : List β} (hp : l'.Perm l) (hs : l'.Pairwise fun x y => ¬ cb y x < 0)
    (ha : ∀ x ∈ l, ∀ y ∈ l, ¬ cb x y < 0 → ¬ cb y x < 0 → x = y) :
    CallM P (ρ.f 6) [.vec m, .p (.c (.v (.func (.func g) #[] #[])))] (upd O m (some ⟨true, k, e, l.flatMap encD⟩)) (.t []) (upd O m (some ⟨true, k, e, l'.flatMap encD⟩)) where
  fn := by
    obtain ⟨nm, hn, hf⟩ := L.f6
    exact ⟨_, hf, hn, rfl⟩
  go h r w cargs hrep hbef := by
    obtain ⟨cl⟩ := cargs
    match cl, hrep with
    | [a, b], hrep =>
    obtain ⟨ha1, hb1, _⟩ := hrep
    simp only [AVRep] at ha1
    have hb2 : b = .func (.func g) #[] #[] := rep_val hb1
    subst ha1 hb2
    have hB := hbef.ow m _ (upd_same _ _ _)
    rw [BlkRep.slE rfl hk0] at hB
    obtain ⟨aa, n, cap, hr, hn, hcap, hn47, hmem⟩ := hB
    simp only at hn hmem
    rw [flat_len hL] at hn
    have hnl : n = l.length := Nat.eq_of_mul_eq_mul_right hk0 hn
    have hown : ∀ q, upd O m (some (⟨true, k, e, l.flatMap encD⟩ : Blk)) q ≠ none → q = m := fun q hq => by
      by_cases hqm : q = m
      · exact hqm
      · rw [upd_ne _ _ _ _ hqm] at hq; exact absurd rfl hq
    have hown' : ∀ q b, upd O m (some (⟨true, k, e, l'.flatMap encD⟩ : Blk)) q = some b → q = m ∧ b = ⟨true, k, e, l'.flatMap encD⟩ := fun q b hq => by
      by_cases hqm : q = m
      · subst hqm; rw [upd_same] at hq; cases hq; exact ⟨rfl, rfl⟩
      · rw [upd_ne _ _ _ _ hqm] at hq; cases hq
    have hself : upd O m (some (⟨true, k, e, l.flatMap encD⟩ : Blk)) m ≠ none := by rw [upd_same]; simp
    rcases List.eq_nil_or_concat l with hl | ⟨l0, b0, hl⟩
    · subst hl
      have hl' : l' = [] := List.Perm.eq_nil hp
      subst hl'
      have hn0 : n = 0 := by simpa using hnl
      subst hn0
      rw [hr]
      refine (AnyF.slices_SortFunc_none L aa cap (.func (.func g) #[] #[]) w).mono ?_
      rintro e' w' ⟨rfl, rfl⟩
      refine ⟨_, h, rfl, ⟨[], rfl, trivial⟩, ⟨fun q b hq => ?_, fun q hq => ?_, hbef.hi, fun q i hq => hbef.ho q i ?_, rfl, rfl, .refl _, Nat.le_refl _, fun _ _ _ => rfl, .refl _, fun _ hq => .inl hq⟩⟩
      · obtain ⟨rfl, rfl⟩ := hown' q b hq
        exact hbef.ow q _ (upd_same _ _ _)
      · exact hq
      · exact hq
    · have hlen : 0 < l.length := by rw [hl]; simp
      have hcap0 : cap ≠ 0 := by omega
      rcases hmem with hmem | ⟨kk, c, haa, hheap, hcs, hrd⟩
      · exact absurd hmem hcap0
      subst haa
      have hkk : kk < w.heap.size := (Array.getElem?_eq_some_iff.1 hheap).1
      have hrm : hblk (r m) = some kk := by rw [hr]; simp [hblk, hcap0]
      have hkn : h kk = none := hbef.ho m kk hself hrm
      -- the elements with their cells
      have hel : ∀ i : Fin n, (((c.toList.drop (i.val * k)).take k).length = k ∧ DReps h (encD (l[i.val]'(by omega))) fun q => ((c.toList.drop (i.val * k)).take k)[q]?) := fun i => by
        have hik : i.val * k + k ≤ c.size := by
          rw [hcs]
          have := Nat.mul_le_mul_right k (show i.val + 1 ≤ cap by omega)
          rw [Nat.add_mul, Nat.one_mul] at this; exact this
        refine ⟨by rw [List.length_take, List.length_drop, Array.length_toList]; omega, ?_⟩
        rw [DReps.iff]
        intro q d hq
        have hqk : q < k := by have := (List.getElem?_eq_some_iff.1 hq).1; rwa [hL] at this
        have hfl : (l.flatMap encD)[i.val * k + q]? = some d := by
          have hlt : i.val * k + q < (l.flatMap encD).length := by
            rw [flat_len hL]
            have := Nat.mul_le_mul_right k (show i.val + 1 ≤ l.length by omega)
            rw [Nat.add_mul, Nat.one_mul] at this; omega
          obtain ⟨b', g1, g2⟩ := flat_get hL l (i.val * k + q) _ (List.getElem?_eq_getElem hlt)
          have e1 : (i.val * k + q) / k = i.val := by rw [Nat.mul_comm, Nat.mul_add_div hk0, Nat.div_eq_of_lt hqk]; rfl
          have e2 : (i.val * k + q) % k = q := by rw [Nat.mul_comm, Nat.mul_add_mod, Nat.mod_eq_of_lt hqk]
          rw [e1, List.getElem?_eq_getElem (by omega)] at g1
          rw [e2] at g2
          cases g1
          rw [hq] at g2
          rw [List.getElem?_eq_getElem hlt, ← g2]
        obtain ⟨y, y1, y2⟩ := hrd.get _ d hfl
        refine ⟨y, ?_, y2⟩
        rw [List.getElem?_take, if_pos hqk, List.getElem?_drop, Array.getElem?_toList]; exact y1
      let mk : Fin n → ElS h encD k := fun i => ⟨((c.toList.drop (i.val * k)).take k, l[i.val]'(by omega)), hel i⟩
      let D : Array (ElS h encD k) := Array.ofFn mk
      have hDs : D.size = n := by simp [D]
      haveI : Inhabited (ElS h encD k) := ⟨mk ⟨0, by omega⟩⟩
      have hDob : D.toList.map ElS.ob = l := by
        apply List.ext_getElem
        · simp [hDs, hnl]
        · intro i h1 h2
          rw [List.getElem_map, Array.getElem_toList]
          have e3 : D[i]'(by simpa using h1) = mk ⟨i, by simpa [hDs] using h1⟩ := by simp [D]
          rw [e3]; rfl
      have hDget : ∀ i, (hi : i < n) → D[i]! = mk ⟨i, hi⟩ := fun i hi => by
        rw [getElem!_pos D i (by omega)]
        simp [D]
      have hH : Sort.HoldsK ElS.enc k w kk 0 D := by
        intro q hq
        have hq' : q < n * k := by rw [Sort.size_flatK, hDs] at hq; exact hq
        have hqn : q / k < n := (Nat.div_lt_iff_lt_mul hk0).2 hq'
        rw [Sort.get_flatK _ _ _ _ (by rw [hDs]; exact hq'), hDget _ hqn, Nat.zero_add]
        have hqc : q < c.size := by
          rw [hcs]
          exact Nat.lt_of_lt_of_le hq' (Nat.mul_le_mul_right k hcap)
        have ev : ((mk ⟨q / k, hqn⟩).enc)[q % k]! = c[q] := by
          have hmod := Nat.mod_lt q hk0
          have edm : q / k * k + q % k = q := by rw [Nat.mul_comm]; exact Nat.div_add_mod q k
          show ((c.toList.drop (q / k * k)).take k)[q % k]! = c[q]
          rw [List.getElem!_eq_getElem?_getD, List.getElem?_take, if_pos hmod, List.getElem?_drop, edm, Array.getElem?_toList, Array.getElem?_eq_getElem hqc]
          rfl
        rw [ev]
        refine ⟨?_, ?_⟩
        · simp [World.cell?, hheap, hqc]
        · simp [World.frozen?, hheap]
      have hnot : ∀ i o, h i = some o → i ≠ kk := fun i o ho hik => by subst hik; rw [hkn] at ho; cases ho
      have hcmp : CmpLays P g #[] ElS.enc k (fun x y : ElS h encD k => cb x.ob y.ob) kk 0 D.size w := by
        intro m0 os0 dk hdk x y
        have hWi : ∀ i o, h i = some o → (sortWorldK ElS.enc k w kk 0 m0 dk os0).heap[i]? = some o := fun i o ho => by
          have hiw : i < w.heap.size := (Array.getElem?_eq_some_iff.1 (hbef.hi i o ho)).1
          rw [heap_sortW _ _ _ _ _ _ _ _ _ hiw, if_neg (hnot i o ho)]
          exact hbef.hi i o ho
        have hW : Before h r O (sortWorldK ElS.enc k w kk 0 m0 dk os0) := ⟨fun q b hq => (by cases hq), fun q _ _ hq => absurd rfl hq, hWi, fun q _ hq => absurd rfl hq, hbef.gl⟩
        have e0 : (#[Value.agg x.enc.toArray, Value.agg y.enc.toArray] ++ #[] : Array Value) = #[Value.agg x.enc.toArray, Value.agg y.enc.toArray] := by simp
        rw [e0]
        have rx : ∀ z : ElS h encD k, AVRep h r (.p (.a (encD z.ob))) (Value.agg z.enc.toArray) := fun z => by
          refine ⟨z.1.1.toArray, rfl, by rw [hL, List.size_toArray]; exact z.2.1, ?_⟩
          show DReps h (encD z.1.2) fun i => (z.1.1).toArray[i]?
          simp only [List.getElem?_toArray]
          exact z.2.2
        have hcx := (hc x.ob y.ob).go h r _ #[.agg x.enc.toArray, .agg y.enc.toArray] ⟨rx x, rx y, trivial⟩ hW
        refine hcx.mono ?_
        rintro e' w' ⟨v, h', rfl, hv, q⟩
        refine ⟨by rw [rep_val hv], grow_of q.os q.tape q.output q.size fun i hi => q.old i hi ?_⟩
        rintro ⟨m1, hm1, _⟩
        exact hm1 rfl
      have hO' : Sort.SWO (ltOf fun x y : ElS h encD k => cb x.ob y.ob) := ⟨fun x => hO.irrefl x.ob, fun x y z => hO.trans x.ob y.ob z.ob, fun x y z => hO.ntrans x.ob y.ob z.ob⟩
      have eg : ∀ args w, (callFunc g args).run P w = .ok (.enter g args) w := fun args w => run_callFunc (hc (mk ⟨0, by omega⟩).ob (mk ⟨0, by omega⟩).ob).fn args w
      have hcon := AnyQ.slices_SortFunc L k (fun w => by rw [(hT _ _ he).isAgg w, hag]) (fun w => by rw [(hT _ _ he).size w, hjs]) ElS.enc (fun x => x.2.1) (fun x => x.one hL) (fun x y : ElS h encD k => cb x.ob y.ob) hO' g #[] kk 0 cap D w eg hcmp hH hkk (by omega)
      rw [hDs] at hcon
      rw [hr]
      refine hcon.mono ?_
      rintro e' w' ⟨rfl, d', n', os', hperm, hsort, rfl⟩
      obtain ⟨hsz, _, hpm⟩ := hperm
      have e1 : d'.extract 0 n = d' := by rw [← hDs, ← hsz]; exact Array.extract_size
      have e2 : D.extract 0 n = D := by rw [← hDs]; exact Array.extract_size
      rw [e1, e2] at hpm
      have hpl : (d'.toList.map ElS.ob).Perm l := by rw [← hDob]; exact hpm.map _
      have hds : d'.size = n := by rw [hsz, hDs]
      have hsl : (d'.toList.map ElS.ob).Pairwise fun x y => ¬ cb y x < 0 := by
        rw [List.pairwise_iff_getElem]
        intro i j hi hj hij
        simp only [List.length_map, Array.length_toList] at hi hj
        have := hsort i j (Nat.zero_le _) hij (by omega)
        unfold ltOf at this
        have := of_decide_eq_false this
        rw [getElem!_pos d' j hj, getElem!_pos d' i hi] at this
        simpa using this
      have hll : d'.toList.map ElS.ob = l' := by
        refine List.Perm.eq_of_pairwise (le := fun x y => ¬ cb y x < 0) ?_ hsl hs (hpl.trans hp.symm)
        intro x y hx hy h1 h2
        exact ha x (hpl.mem_iff.1 hx) y (hp.mem_iff.1 hy) h2 h1
      refine ⟨_, h, rfl, ⟨[], rfl, trivial⟩, ⟨fun q b hq => ?_, fun q hq => ?_, fun i o ho => ?_, fun q i hq => ?_, rfl, rfl, ⟨rfl, Nat.le_add_right _ _⟩, ?_, fun i hi hno => ?_, .refl _, fun _ hq => .inl hq⟩⟩
      · obtain ⟨rfl, rfl⟩ := hown' q b hq
        rw [BlkRep.slE (b := ⟨true, k, e, l'.flatMap encD⟩) rfl hk0]
        refine ⟨_, n, cap, hr, by rw [flat_len hL, ← hll]; simp [hds], hcap, hn47, .inr ⟨kk, Sort.putCells id 0 (Sort.flatK ElS.enc k d') c, rfl, ?_, ?_, ?_⟩⟩
        · rw [heap_sortW _ _ _ _ _ _ _ _ _ hkk, if_pos rfl, hheap]; rfl
        · simp [Sort.putCells, hcs]
        · rw [DReps.iff]
          intro t dv ht
          obtain ⟨b', g1, g2⟩ := flat_get hL l' t dv ht
          have hlt : t < l'.length * k := by have := (List.getElem?_eq_some_iff.1 ht).1; rwa [flat_len hL] at this
          have hl'n : l'.length = n := by rw [← hll]; simp [hds]
          rw [hl'n] at hlt
          have htn : t / k < n := (Nat.div_lt_iff_lt_mul hk0).2 hlt
          have htc : t < c.size := by rw [hcs]; exact Nat.lt_of_lt_of_le hlt (Nat.mul_le_mul_right k hcap)
          rw [← hll, List.getElem?_map, Array.getElem?_toList, Array.getElem?_eq_getElem (by omega)] at g1
          simp only [Option.map_some, Option.some.injEq] at g1
          subst g1
          obtain ⟨y, y1, y2⟩ := (d'[t / k]'(by omega)).2.2.get _ dv g2
          refine ⟨y, ?_, y2⟩
          simp only [Sort.putCells, Array.getElem?_mapIdx, Array.getElem?_eq_getElem htc, Option.map_some]
          rw [if_pos ⟨Nat.zero_le _, by rw [Sort.size_flatK, hds]; omega⟩, Nat.sub_zero, Sort.get_flatK _ _ _ _ (by rw [hds]; exact hlt), getElem!_pos d' (t / k) (by omega)]
          have y3 : ((d'[t / k]'(by omega)).enc)[t % k]? = some y := y1
          rw [List.getElem!_eq_getElem?_getD, y3]
          rfl
      · have := hown' q
        cases hq2 : upd O m (some (⟨true, k, e, l'.flatMap encD⟩ : Blk)) q with
        | none => exact absurd hq2 hq
        | some b => obtain ⟨rfl, _⟩ := hown' q b hq2; exact hself
      · have hiw : i < w.heap.size := (Array.getElem?_eq_some_iff.1 (hbef.hi i o ho)).1
        rw [heap_sortW _ _ _ _ _ _ _ _ _ hiw, if_neg (hnot i o ho)]; exact hbef.hi i o ho
      · intro hqi
        cases hq2 : upd O m (some (⟨true, k, e, l'.flatMap encD⟩ : Blk)) q with
        | none => exact absurd hq2 hq
        | some b => obtain ⟨rfl, _⟩ := hown' q b hq2; exact hbef.ho q i hself hqi
      · exact size_sortWorldK_c _ _ _ _ _ _ _ _
      · rw [heap_sortW _ _ _ _ _ _ _ _ _ hi, if_neg]
        intro hik
        exact hno ⟨m, hself, by rw [hrm, hik]⟩
end Go.AM
end

section
/- Slices of elements of z cells, in general: reading, growing, clearing the tail. -/
namespace Go.AM
open Go Go.RowKit
section
variable {β : Type} {encD : β → List DV} {z : Nat}
abbrev SL (encD : β → List DV) (l : List β) : DV := .sl l.length (l.flatMap encD)
abbrev VB (z : Nat) (e : TypeId) (encD : β → List DV) (l : List β) : Blk := ⟨true, z, e, l.flatMap encD⟩
theorem flat_drop (hL : ∀ b, (encD b).length = z) : ∀ (l : List β) (i : Nat) (h : i < l.length), (l.flatMap encD).drop (i * z) = encD l[i] ++ (l.drop (i + 1)).flatMap encD
  | x :: l, 0, _ => by simp
  | x :: l, i + 1, h => by
    have ih := flat_drop hL l i (by simpa using h)
    have e : (i + 1) * z = (encD x).length + i * z := by rw [hL, Nat.add_mul, Nat.one_mul, Nat.add_comm]
    rw [e, List.flatMap_cons, List.drop_length_add_append, ih]
    simp
variable {P : Program} {tt : TT} (hT : TTok P tt)
variable {dst : Option Nat} {ty : TypeId} {pos : String} {af : Array Edge} {gd : Option (Nat × Bool)} {d : Nat} {ρ : Operand → AV} {own : Own}
variable {T e : TypeId} {i j : TyI} {x y : Operand}
include hT
theorem op_indexG (hL : ∀ b, (encD b).length = z) (hz : 0 < z) (b0 : β) {k : IntKind} {n : Int} {l : List β} (ht : tt T = some i) (hs : i.sh = .sl e) (he : tt e = some j) (hj : j.size = z) (hx : ρ x = .p (.c (SL encD l))) (hy : ρ y = .p (.c (.v (.int k n)))) (hn : 0 ≤ n ∧ n < l.length) :
    Eff P ⟨dst, .indexAddr T x y, ty, pos, af, gd⟩ d ρ own (.ip (encD (l.getD n.toNat b0) ++ (l.drop (n.toNat + 1)).flatMap encD)) [] none [] := by
  have hi : n.toNat < l.length := by omega
  have h := op_index_sl (dst := dst) (ty := ty) (pos := pos) (af := af) (gd := gd) (d := d) (own := own) hT ht hs he hx (l := l.length) (xs := l.flatMap encD) (by rfl) hy hn (by
    intro h0
    have := flat_len hL l
    rw [h0] at this
    have h1 : 1 * 1 ≤ l.length * z := Nat.mul_le_mul (by omega) hz
    simp at this
    omega)
  rw [hj, flat_drop hL l n.toNat hi] at h
  have e1 : l.getD n.toNat b0 = l[n.toNat] := by simp [List.getD, hi]
  rw [e1]; exact h
theorem op_appendG (hL : ∀ b, (encD b).length = z) (hz : Nat.blt 0 z = true) {m : Nat} {l : List β} {b : β} (ht : tt T = some i) (hs : i.sh = .sl e) (he : tt e = some j) (hj : j.size = z) (hjb : Nat.ble j.bytes (32 * z) = true) (hx : ρ x = .vec m) (hb : own m = some (VB z e encD l)) (hy : ρ y = .p (.c (.sl 1 (encD b)))) (hfit : l.length ≤ 10000000) (hmd : m ≠ d) (hzb : Nat.ble z 96 = true) :
    Eff P ⟨dst, .call ⟨.builtin .append, #[x, y], #[T, T]⟩, ty, pos, af, gd⟩ d ρ own (.vec d) [(m, none)] (some (VB z e encD (l ++ [b]))) [m] := by
  have hl : (VB z e encD l).cs.length = l.length * z := flat_len hL l
  have hz2 := Nat.le_of_ble_eq_true hzb
  have h1 : l.length * z ≤ 10000000 * 96 := Nat.mul_le_mul hfit hz2
  have h := op_append (dst := dst) (ty := ty) (pos := pos) (af := af) (gd := gd) hT ht hs he hx hb rfl hj.symm rfl hy (by rfl) (by rw [hj, Nat.one_mul]; exact hL b) (by rw [hj]; exact hjb) (by rw [hl, hj]; omega) (by rw [hj]; exact hz) hmd
  unfold VB
  rw [List.flatMap_append]
  rw [hj] at h
  simpa using h
theorem op_len_vecG (hL : ∀ b, (encD b).length = z) (hz : Nat.blt 0 z = true) {m : Nat} {l : List β} {be : TypeId} (ht : tt T = some i) (hs : i.sh = .sl e) (hx : ρ x = .vec m) (hb : own m = some (VB z be encD l)) :
    Eff P ⟨dst, .call ⟨.builtin .len, #[x], #[T]⟩, ty, pos, af, gd⟩ d ρ own (.p (.c (.v (.int .i64 (l.length : Nat))))) [] none [m] :=
  op_len_vec hT ht hs hx hb rfl hz (flat_len hL l).symm
end
section
variable {β : Type} {encD : β → List DV} {z : Nat}
theorem AWp_freezeG {P : Program} {B : Bool} {N np : Nat} {Q : Exit → St → Prop} {s : St} {c : Code} (hL : ∀ b, (encD b).length = z) (hz : Nat.blt 0 z = true) {t m : Nat} {l : List β} {e : TypeId} (ht : s.regs t = .vec m) (hb : s.own m = some (VB z e encD l)) (h : AWp P B N np c Q ⟨upd s.regs t (.p (.c (SL encD l))), upd s.own m none⟩) : AWp P B N np c Q s :=
  AWp_freeze (n := l.length) ht hb rfl (flat_len hL l).symm (show 0 < z by simpa using hz) h
end
section
end
end Go.AM
end

section
/- Closures that are called; the first place where something holds; arrays of three numbers compared; the lists of a cycle. -/
namespace Go.AM
open Go Go.RowKit
section ops
variable {P : Program}
variable {dst : Option Nat} {ty : TypeId} {pos : String} {af : Array Edge} {gd : Option (Nat × Bool)} {d : Nat} {ρ : Operand → AV} {own : Own}
theorem op_makeFunc2 {f : FuncId} {c e : Operand} {xs ys : List DV} (hx : ρ c = .ip xs) (hy : ρ e = .ip ys) : Eff P ⟨dst, .makeFunc (.func f) #[] #[c, e], ty, pos, af, gd⟩ d ρ own (.fn f [xs, ys]) [] none [] :=
  Eff.value fun C h r own' a w hrep hrd hw => by
    have e1 := hrep c (by simp [Op.operands])
    have e2 := hrep e (by simp [Op.operands])
    rw [hx] at e1; rw [hy] at e2
    refine ⟨.func (.func f) #[] #[a.eval c, a.eval e], ?_, #[a.eval c, a.eval e], rfl, e1, e2, trivial⟩
    simp [execOp, Instr.makeFunc]
theorem RepArgs.app {h : Hp} {r : Nat → Value} : ∀ {l : List AV} {xs : List Value} {m : List AV} {ys : List Value}, RepArgs h r l xs → RepArgs h r m ys → RepArgs h r (l ++ m) (xs ++ ys)
  | [], [], _, _, _, k => k
  | _ :: _, _ :: _, _, _, k1, k => ⟨k1.1, RepArgs.app k1.2 k⟩
  | [], _ :: _, _, _, k1, _ => k1.elim
  | _ :: _, [], _, _, k1, _ => k1.elim
theorem caps_args {h : Hp} {r : Nat → Value} : ∀ {cs : List (List DV)} {xs : List Value}, CapsRep h cs xs → RepArgs h r (cs.map .ip) xs
  | [], [], _ => trivial
  | _ :: _, _ :: _, k => ⟨k.1, caps_args k.2⟩
  | [], _ :: _, k => k.elim
  | _ :: _, [], k => k.elim
/-- a call of a closure -/
theorem Eff.callC {f : FuncId} {caps : List (List DV)} {c : Operand} {args : Array Operand} {tys : Array TypeId} {res : AV} (hx : ρ c = .fn f caps) (hc : Call0 P f (args.toList.map ρ ++ caps.map .ip) res) :
    Eff P ⟨dst, .call ⟨.value c, args, tys⟩, ty, pos, af, gd⟩ d ρ own res [] none [] := by
  intro C h r own' a w K Q hrep hrd hw _ hK
  have e1 := hrep c (by simp [Op.operands, Call.operands])
  rw [hx] at e1
  obtain ⟨lb, e2, e3⟩ := e1
  unfold Oper.wp
  have hrun : (execOp a.eval ⟨dst, .call ⟨.value c, args, tys⟩, ty, pos, af, gd⟩).run P w = .ok (.enter f (args.map a.eval ++ lb)) w := by
    simp only [execOp, resolve, Sem.run_bind, e2, Deferred.ofValue, Sem.run_pure, Result.andThen_ok, invoke, Array.empty_append]
    exact run_callFunc hc.fn _ w
  rw [hrun]
  refine Calls.mono (hc.go h r w (args.map a.eval ++ lb) ?_ (hw.before fun m hm => absurd rfl hm)) ?_
  · rw [Array.toList_append, Array.toList_map]
    exact RepArgs.app (repArgs_map _ fun x hx => hrep x (by simp only [Op.operands, Call.operands]; exact Array.mem_append.2 (.inr (Array.mem_toList_iff.1 hx)))) (caps_args e3)
  · rintro e w' ⟨v, h', rfl, hv, hq⟩
    exact hK v h' r w' hq.hg (fun _ _ => rfl) hv (hw.after (fun m hm => absurd rfl hm) hq (fun m => by simp [nown, applySt]) (fun m b hm => absurd rfl hm))
end ops
section
variable {α : Type}
/-- the first place where p holds -/
def fixI (p : α → Bool) : List α → Nat → Int
  | [], _ => -1
  | x :: l, k => if p x = true then (k : Int) else fixI p l (k + 1)
theorem fixI_next {p : α → Bool} {l : List α} {k : Nat} {d : α} (h : k < l.length) (hp : p (l.getD k d) = false) : fixI p (l.drop k) k = fixI p (l.drop (k + 1)) (k + 1) := by
  rw [List.drop_eq_getElem_cons h]
  show (if p l[k] = true then (k : Int) else fixI p (l.drop (k + 1)) (k + 1)) = _
  rw [List.getD_eq_getElem?_getD, List.getElem?_eq_getElem h] at hp
  simp only [Option.getD_some] at hp
  rw [if_neg (by rw [hp]; decide)]
theorem fixI_hit {p : α → Bool} {l : List α} {k : Nat} {d : α} (h : k < l.length) (hp : p (l.getD k d) = true) : fixI p (l.drop k) k = k := by
  rw [List.drop_eq_getElem_cons h]
  show (if p l[k] = true then (k : Int) else fixI p (l.drop (k + 1)) (k + 1)) = _
  rw [List.getD_eq_getElem?_getD, List.getElem?_eq_getElem h] at hp
  simp only [Option.getD_some] at hp
  rw [if_pos hp]
theorem fixI_end {p : α → Bool} {l : List α} {k : Nat} (h : l.length ≤ k) : fixI p (l.drop k) k = -1 := by
  rw [List.drop_eq_nil_of_le h]; rfl
theorem fixI_any {p : α → Bool} : ∀ (l : List α) (k : Nat), decide (fixI p l k ≥ 0) = l.any p
  | [], _ => rfl
  | x :: l, k => by
    rw [List.any_cons]
    unfold fixI
    cases h : p x with
    | true => rw [if_pos rfl, Bool.true_or, decide_eq_true_eq]; omega
    | false => rw [if_neg (by decide), Bool.false_or]; exact fixI_any l (k + 1)
end
def TCl (f : Fm) : List DV := [.v (.int .i64 f.a), .v (.int .i64 f.b), .v (.int .i64 f.c)]
section
variable {P : Program} {tt : TT} (hT : TTok P tt)
variable {dst : Option Nat} {ty : TypeId} {pos : String} {af : Array Edge} {gd : Option (Nat × Bool)} {d : Nat} {ρ : Operand → AV} {own : Own}
variable {T e yT : TypeId} {i j : TyI} {x y : Operand}
include hT
theorem run_eqT3 {f g : Fm} (ht : tt T = some i) (hs : i.sh = .ar 3 e) (he : tt e = some j) (hj : j.sh = .int .i64) (hz : j.size = 1) {h : Hp} {w : World} {cs es : Array Value} (h1 : DReps h (TCl f) fun i => cs[i]?) (h2 : DReps h (TCl g) fun i => es[i]?) :
    (Op.equal T (.agg cs) (.agg es)).run P w = .ok (decide (f = g)) w := by
  have hu := (hT T i ht).array hs
  have hue := (hT e j he).int hj
  obtain ⟨ti, k1, k2, _⟩ := (hT e j he).info
  have hc : P.cellsOf e = 1 := by
    have : P.cellsOf e = ti.size := by unfold Program.cellsOf; rw [k1]; rfl
    rw [this, k2, hz]
  have p1 : ∀ {off : Nat} {z : Int}, (TCl f)[off]? = some (.v (.int .i64 z)) → (part e cs off).run P w = .ok (.int .i64 z) w := fun {off z} hh => by
    obtain ⟨v, hv1, hv2⟩ := part_one (w := w) (hT e j he) (by rw [hj]; rfl) h1 hh
    rw [hv1, show v = _ from hv2.1]
  have p2 : ∀ {off : Nat} {z : Int}, (TCl g)[off]? = some (.v (.int .i64 z)) → (part e es off).run P w = .ok (.int .i64 z) w := fun {off z} hh => by
    obtain ⟨v, hv1, hv2⟩ := part_one (w := w) (hT e j he) (by rw [hj]; rfl) h2 hh
    rw [hv1, show v = _ from hv2.1]
  unfold Op.equal
  have q := run_equalIn_array (P := P) (w := w) 9999 (t := T) (e := e) (n := 3) cs es hu k1
  refine Eq.trans q ?_
  rw [hc]
  have a0 := p1 (off := 0 * 1) (z := f.a) rfl
  have a1 := p1 (off := 1 * 1) (z := f.b) rfl
  have a2 := p1 (off := 2 * 1) (z := f.c) rfl
  have b0 := p2 (off := 0 * 1) (z := g.a) rfl
  have b1 := p2 (off := 1 * 1) (z := g.b) rfl
  have b2 := p2 (off := 2 * 1) (z := g.c) rfl
  have hr : List.range 3 = [0, 1, 2] := rfl
  have ee : ∀ u v : Int, (Op.equalIn 9999 e (.int .i64 u) (.int .i64 v)).run P w = .ok (u == v) w := fun u v => run_equalIn_int (w := w) 9998 e .i64 .i64 u v hue
  rw [hr]
  simp only [Op.eqItems, Sem.run_bind, a0, b0, Result.andThen_ok, ee]
  by_cases c0 : f.a = g.a
  · by_cases c1 : f.b = g.b
    · by_cases c2 : f.c = g.c
      · rw [decide_eq_true (Fm.ext c0 c1 c2)]; simp [c0, c1, c2, Sem.run_bind, a1, a2, b1, b2, ee]
      · rw [decide_eq_false (fun x => c2 (by rw [x]))]; simp [c0, c1, c2, Sem.run_bind, a1, a2, b1, b2, ee]
    · rw [decide_eq_false (fun x => c1 (by rw [x]))]; simp [c0, c1, Sem.run_bind, a1, b1, ee]
  · rw [decide_eq_false (fun x => c0 (by rw [x]))]; simp [c0]
theorem op_eqlT3 {f g : Fm} (ht : tt T = some i) (hs : i.sh = .ar 3 e) (he : tt e = some j) (hj : j.sh = .int .i64) (hz : j.size = 1) (hx : ρ x = .p (.a (TCl f))) (hy : ρ y = .p (.a (TCl g))) (hgt : P.eqGuardType P.depth T = false) :
    Eff P ⟨dst, .binOp .eql T x y yT, ty, pos, af, gd⟩ d ρ own (.p (.c (.v (.bool (decide (f = g)))))) [] none [] :=
  Eff.value fun C h r own' a w hrep _ _ => by
    have e1 := hrep x (by simp [Op.operands])
    have e2 := hrep y (by simp [Op.operands])
    rw [hx] at e1; rw [hy] at e2
    obtain ⟨cs, g1, _, g3⟩ := e1
    obtain ⟨es, k1, _, k3⟩ := e2
    refine ⟨_, ?_, mk_bool _ _ _⟩
    have hE := run_eqT3 (w := w) hT ht hs he hj hz g3 k3
    simp [execOp, g1, k1, eqGuard, Sem.run_bind, Sem.run_pure, Result.andThen_ok, binOp, hE, hgt]
end
theorem getD_mm {α : Type} {l : List α} {k : Nat} (d : α) (h : k < l.length) : l.getD k d ∈ l := by
  rw [List.getD_eq_getElem?_getD, List.getElem?_eq_getElem h]; exact List.getElem_mem h
abbrev enF (f : Fm) : List DV := FL f.a f.b f.c
theorem enF_len : ∀ f, (enF f).length = 6 := fun _ => rfl
abbrev enM (m : Mt) : List DV := ML m.a m.b m.c m.d
theorem enM_len : ∀ m, (enM m).length = 8 := fun _ => rfl
def cyF (s : Int) (f : Fm) (k : Nat) : List Fm := (List.range k).map fun i => (nb s f i).1
def cyM (s : Int) (f : Fm) (k : Nat) : List Mt := (List.range k).map fun i => (nb s f i).2
theorem cyF_len {s : Int} {f : Fm} {k : Nat} : (cyF s f k).length = k := by unfold cyF; simp
theorem cyM_len {s : Int} {f : Fm} {k : Nat} : (cyM s f k).length = k := by unfold cyM; simp
theorem cyF_s {s : Int} {f : Fm} {k : Nat} : cyF s f (k + 1) = cyF s f k ++ [(nb s f k).1] := by unfold cyF; rw [List.range_succ, List.map_append]; rfl
theorem cyM_s {s : Int} {f : Fm} {k : Nat} : cyM s f (k + 1) = cyM s f k ++ [(nb s f k).2] := by unfold cyM; rw [List.range_succ, List.map_append]; rfl
theorem cyM_get {s : Int} {f : Fm} {k i : Nat} (h : i < k) : (cyM s f k).getD i ⟨0, 0, 0, 0⟩ = (nb s f i).2 := by
  unfold cyM; rw [List.getD_eq_getElem?_getD, List.getElem?_map, List.getElem?_range h]; rfl
theorem fixI_lt {α : Type} {p : α → Bool} : ∀ (l : List α) (k : Nat), -1 ≤ fixI p l k ∧ fixI p l k < (k : Int) + l.length
  | [], k => by show (-1 : Int) ≤ -1 ∧ (-1 : Int) < (k : Int) + ((0 : Nat) : Int); omega
  | x :: l, k => by
    unfold fixI
    have := fixI_lt (p := p) l (k + 1)
    rw [List.length_cons]
    split
    · omega
    · push_cast at this ⊢; omega
end Go.AM
namespace Go.AM
open Go Go.RowKit
theorem cmp_dd (d : Int) : (cmpI d d != 0) = false := by
  have : cmpI d d = 0 := cmpI_eq_zero.2 rfl
  rw [this]; rfl
theorem cmp_dc (a b : Int) : (cmpI a b == 0) = decide (a = b) := by
  rw [Bool.eq_iff_iff, beq_iff_eq, decide_eq_true_iff]; exact cmpI_eq_zero
def smI (s : Int) (f : Fm) (n : Nat) (g : Fm) : Int := fixI (fun x => decide (x = g)) (cyF s f n) 0
def bkM (m : Mt) : Mt := ⟨m.d, -m.b, -m.c, m.a⟩
def smR (s : Int) (y z : Fm × Mt) (n : Nat) : Mt × Bool := if smI s y.1 n z.1 < 0 then (⟨0, 0, 0, 0⟩, false) else ((y.2.mul ((cyM s y.1 n).getD (smI s y.1 n z.1).toNat ⟨0, 0, 0, 0⟩)).mul (bkM z.2), true)
theorem sm_lt (s : Int) (f : Fm) (n : Nat) (g : Fm) : smI s f n g < n := by
  have := (fixI_lt (p := fun x => decide (x = g)) (cyF s f n) 0).2
  rw [cyF_len] at this
  unfold smI; omega
theorem sm_ok {s : Int} {f g : Fm} {n : Nat} (h : ArT s f n) (h0 : ¬ smI s f n g < 0) : OKX (nb s f (smI s f n g).toNat) ∧ (cyM s f n).getD (smI s f n g).toNat ⟨0, 0, 0, 0⟩ = (nb s f (smI s f n g).toNat).2 := by
  have h1 := sm_lt s f n g
  exact ⟨h.ok _ (by omega), cyM_get (by omega)⟩
def shI (l : List Fm) (m : Int) : Int := fixI (fun g : Fm => decide (g.a = m)) l 0
def shR (l : List Fm) (m : Int) : Fm × Int := if shI l m < 0 then (⟨0, 0, 0⟩, 6) else (l.getD (shI l m).toNat ⟨0, 0, 0⟩, 0)
theorem sh_lt (l : List Fm) (m : Int) : shI l m < l.length := by
  have := (fixI_lt (p := fun g : Fm => decide (g.a = m)) l 0).2
  unfold shI; omega
end Go.AM
end

section
/- Numbers of quadratic orders: fractions in least terms, products. -/
namespace Go.AM
open Go Go.RowKit
theorem WOK.nilV {C : Ctx} {h : Hp} {r : Nat → Value} {own : Own} {w : World} (k : WOK C h r own w) {d sz : Nat} {e : TypeId} (hd : own d = none) (hp : C.np ≤ d) (hl : ∀ m b, own m = some b → d ∉ lnk b) (hs0 : 0 < sz) :
    WOK C h (upd r d (.slice none 0 0)) (upd own d (some ⟨true, sz, e, []⟩)) w := by
  have live : ∀ n, n ≠ d → upd own d (some (⟨true, sz, e, []⟩ : Blk)) n = own n := fun n h1 => upd_ne _ _ _ _ h1
  refine ⟨?_, ?_, k.hi, ?_, k.os, k.tape, k.output, k.size, k.old, ?_, k.hg, k.hn, k.gl, ?_, ?_⟩
  · intro n b' hn
    by_cases h1 : n = d
    · subst h1; rw [upd_same] at hn ⊢; cases hn
      rw [BlkRep.slE rfl hs0]
      exact ⟨none, 0, 0, rfl, by simp, Nat.le_refl _, by omega, .inl rfl⟩
    · rw [live n h1] at hn
      rw [upd_ne _ _ _ _ h1]; exact k.ow n b' hn
  · intro n p i hn hpp e1 e2
    by_cases h1 : n = d
    · subst h1; rw [upd_same] at e1; cases e1
    · by_cases h2 : p = d
      · subst h2; rw [upd_same] at e2; cases e2
      · rw [upd_ne _ _ _ _ h1] at e1; rw [upd_ne _ _ _ _ h2] at e2
        rw [live n h1] at hn; rw [live p h2] at hpp
        exact k.inj n p i hn hpp e1 e2
  · intro n i hn e1
    by_cases h1 : n = d
    · subst h1; rw [upd_same] at e1; cases e1
    · rw [upd_ne _ _ _ _ h1] at e1; rw [live n h1] at hn; exact k.ho n i hn e1
  · intro n i hn e1
    by_cases h1 : n = d
    · subst h1; rw [upd_same] at e1; cases e1
    · rw [upd_ne _ _ _ _ h1] at e1; rw [live n h1] at hn; exact k.fo n i hn e1
  · intro n hn
    rw [upd_ne _ _ _ _ (by omega)]; exact k.kp n hn
  · intro n b' j hn hj
    by_cases h1 : n = d
    · subst h1; rw [upd_same] at hn; cases hn; cases hj
    · rw [live n h1] at hn
      have hjd : j ≠ d := fun x => hl n b' hn (x ▸ hj)
      rw [upd_ne _ _ _ _ h1, upd_ne _ _ _ _ hjd]
      exact k.lk n b' j hn hj
/-- a register that holds a nil slice holds an owned slice with no elements -/
theorem AWp_nilV {P : Program} {B : Bool} {N np : Nat} {Q : Exit → St → Prop} {s : St} {c : Code} (t d sz : Nat) (e : TypeId) (ht : s.regs t = .p (.c (.v (.slice none 0 0)))) (hp : Nat.ble np d = true)
    (h : AWp P B N np c Q ⟨upd (kill [d] s).regs t (.vec d), upd (kill [d] s).own d (some ⟨true, sz, e, []⟩)⟩) (hs0 : 0 < sz := by decide) : AWp P B N np c Q s := by
  intro ro hB C hh r a w hn hc
  have hk := kill_conc [d] hc
  have hown : (kill [d] s).own d = none := kill_own [d] s d (by simp)
  have hmen := kill_men [d] s d (by simp)
  have hx := hc.rg t
  rw [ht] at hx
  have hv : a.tmps.getD t undef = .slice none 0 0 := by
    simp only [AVRep, PRep, DRep] at hx
    exact hx.1
  refine h ro hB C hh (upd r d (.slice none 0 0)) a w hn ⟨hk.sz, hk.df, fun t' => ?_, hk.wk.nilV hown (by rw [hn.1]; exact Nat.le_of_ble_eq_true hp) (kill_lnk [d] s d (by simp)) hs0⟩
  show AVRep hh _ (upd (kill [d] s).regs t (.vec d) t') _
  by_cases e1 : t' = t
  · subst e1
    rw [upd_same]
    show _ = upd r d _ d
    rw [upd_same, hv]
  · rw [upd_ne _ _ _ _ e1]
    have hr := hk.rg t'
    have hmt := hmen t'
    exact AVRep.rebind _ _ (fun m hm => upd_ne _ _ _ _ (fun x => hmt (x ▸ hm))) hr
def lsg (x y z : Int) : Int := if z < 0 then -((Int.gcd (Int.gcd x y : Nat) z : Nat) : Int) else ((Int.gcd (Int.gcd x y : Nat) z : Nat) : Int)
theorem lsg_dvd (x y z : Int) : lsg x y z ∣ z := by
  unfold lsg
  split
  · exact Int.neg_dvd.2 (Int.gcd_dvd_right ..)
  · exact Int.gcd_dvd_right ..
theorem lsg_ne {x y z : Int} (h : z ≠ 0) : lsg x y z ≠ 0 := fun e => by
  obtain ⟨k, hk⟩ := lsg_dvd x y z
  rw [e, Int.zero_mul] at hk
  exact h hk
theorem lsg_L {x y z : Int} {n : Nat} (h : z ≠ 0) (hz : L n z) : L n (lsg x y z) := by
  have h1 : (lsg x y z).natAbs ≤ z.natAbs := Nat.le_of_dvd (Int.natAbs_pos.2 h) (Int.natAbs_dvd_natAbs.2 (lsg_dvd x y z))
  unfold L at *
  exact Nat.lt_of_le_of_lt h1 hz
def lsF (q : Mt) : Mt := ⟨q.a / lsg q.a q.b q.c, q.b / lsg q.a q.b q.c, q.c / lsg q.a q.b q.c, q.d⟩
theorem lsF_L {q : Mt} {n : Nat} (h : LM n q) : LM n (lsF q) := ⟨h.a.ediv, h.b.ediv, h.c.ediv, h.d⟩
theorem lsF_c {q : Mt} (h : q.c ≠ 0) : (lsF q).c ≠ 0 := fun e => by
  have e : q.c / lsg q.a q.b q.c = 0 := e
  have h2 := Int.ediv_mul_cancel (lsg_dvd q.a q.b q.c)
  rw [e, Int.zero_mul] at h2
  exact h h2.symm
def tmR (f g : Mt) : Mt := ⟨f.a * g.a + f.d * (f.b * g.b), f.a * g.b + f.b * g.a, f.c * g.c, f.d⟩
def tmF (f g : Mt) : Mt := lsF (tmR f g)
theorem LM.mono {m n : Nat} {q : Mt} (h : LM m q) (hm : m ≤ n) : LM n q := ⟨h.a.mono hm, h.b.mono hm, h.c.mono hm, h.d.mono hm⟩
theorem tmR_L {f g : Mt} {n : Nat} (hf : LM n f) (hg : LM n g) : LM (n + 3) (tmR f g) := by
  have i1 : LB f.a n := ⟨hf.a⟩
  have i2 : LB f.b n := ⟨hf.b⟩
  have i3 : LB f.c n := ⟨hf.c⟩
  have i4 : LB f.d n := ⟨hf.d⟩
  have j1 : LB g.a n := ⟨hg.a⟩
  have j2 : LB g.b n := ⟨hg.b⟩
  have j3 : LB g.c n := ⟨hg.c⟩
  refine ⟨(LB.le (z := f.a * g.a + f.d * (f.b * g.b))).mono ?_, (LB.le (z := f.a * g.b + f.b * g.a)).mono ?_, (LB.le (z := f.c * g.c)).mono ?_, hf.d.mono (by omega)⟩ <;> simp only [Nat.max_def] <;> (repeat' split) <;> omega
theorem tmR_c {f g : Mt} (hf : f.c ≠ 0) (hg : g.c ≠ 0) : (tmR f g).c ≠ 0 := Int.mul_ne_zero hf hg
abbrev Qd := Int × Int
abbrev QL (q : Qd) : List DV := [zn q.1, zm q.1, zn q.2, zm q.2]
abbrev PQ (q : Qd) : PV := .a (QL q)
abbrev QA (q : Qd) : AV := .p (PQ q)
def qdF (f : Mt) : Qd := (f.a * (2 / f.c), f.b * (2 / f.c))
def evB (q : Qd) (d : Int) : Bool := decide ((q.1 - d * q.2) % 2 = 0)
def mdF (q : Qd) (d : Int) : Mt := lsF ⟨q.1, q.2, 2, d⟩
def qmF (q r : Qd) (d : Int) : Qd := qdF (tmF (mdF q d) (mdF r d))
structure LQ (n : Nat) (q : Qd) : Prop where
  x : L n q.1
  y : L n q.2
theorem qdF_L {f : Mt} {n : Nat} (h : LM n f) : LQ (max n 1 + 1) (qdF f) := by
  have i1 : LB f.a n := ⟨h.a⟩
  have i2 : LB f.b n := ⟨h.b⟩
  exact ⟨LB.le (z := f.a * (2 / f.c)), LB.le (z := f.b * (2 / f.c))⟩
theorem mdF_L {q : Qd} {d : Int} {n : Nat} (h : LQ (n + 1) q) (hd : L (n + 1) d) : LM (n + 1) (mdF q d) := lsF_L ⟨h.x, h.y, (LB.le (z := 2)).mono (by omega), hd⟩
theorem mdF_c {q : Qd} {d : Int} : (mdF q d).c ≠ 0 := lsF_c (show (2 : Int) ≠ 0 by decide)
theorem ev_z {z : Int} (h : ((wl z.natAbs).length : Int) = 0) : true = decide (z % 2 = 0) := by
  have : z = 0 := wl_len_zero.1 h
  rw [this]; rfl
end Go.AM
namespace Go.AM
open Go Go.RowKit
theorem rf_ok {d : Int} (h : DOK d) : prE d = 0 ∧ prF d = ⟨1, d % 4, -(d / 4)⟩ := by
  have h1 : prE d = 0 := by
    unfold prE
    rw [if_neg]
    rintro (q | q)
    · have := h.m4; omega
    · rw [h.sq] at q; cases q
  exact ⟨h1, by unfold prF; rw [if_pos h1]⟩
theorem rf_hi {d : Int} (h : DOK d) : decide (cmpI d 65536 > 0) = false := kn_hi h
theorem sg_d {d : Int} (h : DOK d) : decide (sgn d < 0) = false := decide_eq_false fun e => by have := sgn_lt_iff.1 e; have := h.lo; omega
theorem ev_w {z : Int} (h : ¬ ((wl z.natAbs).length : Int) = 0) : (((((wl z.natAbs).getD 0 0 &&& 1 : Nat) : Int)) == 0) = decide (z % 2 = 0) := by
  have h0 : z ≠ 0 := fun e => h (by rw [e]; rfl)
  have h1 : (wl z.natAbs).getD 0 0 = z.natAbs % 4294967296 := by
    rw [wl_pos (by omega)]; rfl
  rw [h1, Nat.and_one_is_mod, Bool.eq_iff_iff, beq_iff_eq, decide_eq_true_iff]
  omega
theorem wl_pos0 {z : Int} (h : ¬ ((wl z.natAbs).length : Int) = 0) : 0 < (wl z.natAbs).length := by omega
theorem wl_lt0 (z : Int) : (wl z.natAbs).getD 0 0 < 4294967296 := by
  rcases Nat.eq_zero_or_pos z.natAbs with h | h
  · rw [h]; decide
  · rw [wl_pos h]; exact Nat.mod_lt _ (by decide)
end Go.AM
end

section
/- The fundamental unit as a product along the principal cycle. -/
namespace Go.AM
open Go Go.RowKit
abbrev kyI (f : Fm) : Int × Int := ((f.a.natAbs : Int), f.b)
def kcI (k : Int × Int) : List Value := [.int .i64 k.1, .int .i64 k.2]
def trm (f : Fm) : Mt := ⟨f.b, 1, 2 * (f.a.natAbs : Int), 1⟩
def prL (s : Int) (f : Fm) (k : Nat) : List Mt := (List.range k).map fun i => trm (nb s f i).1
def prM (s : Int) (f : Fm) (k : Nat) : List ((Int × Int) × Value) := (List.range k).map fun i : Nat => (kyI (nb s f i).1, .int .i64 (i : Int))
theorem prL_len {s : Int} {f : Fm} {k : Nat} : (prL s f k).length = k := by unfold prL; simp
theorem prL_s {s : Int} {f : Fm} {k : Nat} : prL s f (k + 1) = prL s f k ++ [trm (nb s f k).1] := by unfold prL; rw [List.range_succ, List.map_append]; rfl
theorem prM_s {s : Int} {f : Fm} {k : Nat} : prM s f (k + 1) = prM s f k ++ [(kyI (nb s f k).1, .int .i64 (k : Int))] := by unfold prM; rw [List.range_succ, List.map_append]; rfl
theorem prM_one {s : Int} {f : Fm} {k : Nat} : ∀ p ∈ prM s f k, p.2.oneCell' = true := fun p hp => by
  obtain ⟨i, _, rfl⟩ := List.mem_map.1 hp; rfl
theorem prL_get {s : Int} {f : Fm} {k i : Nat} (h : i < k) : (prL s f k).getD i ⟨0, 0, 0, 0⟩ = trm (nb s f i).1 := by
  unfold prL; rw [List.getD_eq_getElem?_getD, List.getElem?_map, List.getElem?_range h]; rfl
structure PrT (s : Int) (f : Fm) (m : Nat) : Prop where
  pos : 0 < m
  le : m ≤ 1000
  ok : ∀ k, k ≤ m → OKX (nb s f k)
  one : f.a = 1
  no : ∀ k, 0 < k → k < m → (nb s f k).1.a.natAbs ≠ 1
  yes : (nb s f m).1.a.natAbs = 1
  ne : ∀ i j, i < j → j < m → kyI (nb s f i).1 ≠ kyI (nb s f j).1
theorem prM_none {s : Int} {f : Fm} {m k : Nat} (h : PrT s f m) (hk : k < m) : getR (prM s f k) (kyI (nb s f k).1) = none := by
  unfold getR
  rw [Option.map_eq_none_iff, List.find?_eq_none]
  intro p hp q
  obtain ⟨i, hi, rfl⟩ := List.mem_map.1 hp
  have q := of_decide_eq_true q
  exact h.ne i k (List.mem_range.1 hi) hk q.symm
abbrev onF (d : Int) : Mt := ⟨1, 0, 1, d⟩
def fuT (d : Int) (f : Fm) : Mt := tmF (onF d) (lsF ⟨f.b, 1, 2 * (f.a.natAbs : Int), d⟩)
def fuK (s d : Int) (f : Fm) : Nat → Mt
  | 0 => onF d
  | k + 1 => tmF (fuK s d f k) (fuT d (nb s f k).1)
structure FuT (s d : Int) (f : Fm) (m : Nat) : Prop where
  pr : PrT s f m
  fu : ∀ k, k ≤ m → LM 10 (fuK s d f k)
theorem trm_L {f : Fm} {d : Int} (h : OKF f) (hd : L 6 d) : LM 8 ⟨f.b, 1, 2 * (f.a.natAbs : Int), d⟩ := by
  have i1 : LB f.a 6 := ⟨okS_L h.a⟩
  exact ⟨(okS_L h.b).mono (by decide), (LB.le (z := 1)).mono (by decide), (LB.le (z := 2 * (f.a.natAbs : Int))).mono (by decide), hd.mono (by decide)⟩
theorem onF_L {d : Int} (hd : L 6 d) : LM 8 (onF d) := ⟨(LB.le (z := 1)).mono (by decide), (LB.le (z := 0)).mono (by decide), (LB.le (z := 1)).mono (by decide), hd.mono (by decide)⟩
theorem fuT_L {f : Fm} {d : Int} (h : OKF f) (hd : L 6 d) : LM 11 (fuT d f) := lsF_L (tmR_L (onF_L hd) (lsF_L (trm_L h hd)))
theorem lsT_c {f : Fm} {d : Int} (h : f.a ≠ 0) : (lsF ⟨f.b, 1, 2 * (f.a.natAbs : Int), d⟩).c ≠ 0 := lsF_c (show 2 * (f.a.natAbs : Int) ≠ 0 by omega)
theorem fuT_c {f : Fm} {d : Int} (h : f.a ≠ 0) : (fuT d f).c ≠ 0 := lsF_c (tmR_c (show (1 : Int) ≠ 0 by decide) (lsT_c h))
theorem fuK_c {s d : Int} {f : Fm} (h : ∀ k, (nb s f k).1.a ≠ 0) : ∀ k, (fuK s d f k).c ≠ 0
  | 0 => (show (1 : Int) ≠ 0 by decide)
  | k + 1 => lsF_c (tmR_c (fuK_c h k) (fuT_c (h k)))
end Go.AM
namespace Go.AM
open Go Go.RowKit
def upQ (q : Qd) : Qd := if q.2 < 0 ∨ (q.2 = 0 ∧ q.1 < 0) then (-q.1, -q.2) else q
def cjQ (q : Qd) : Qd := (q.1, -q.2)
def cpQ (a b : Qd) : Int := if cmpI a.2 b.2 = 0 then cmpI b.1 a.1 else cmpI a.2 b.2
def nmQ (d : Int) (q : Qd) : Int := (q.1 * q.1 - d * (q.2 * q.2)) / 4
/-- the least unit of norm 1 -/
def etQ (d : Int) (u : Qd) : Qd := if nmQ d u < 0 then qmF u u d else u
theorem upQ_L {q : Qd} {n : Nat} (h : LQ n q) : LQ n (upQ q) := by
  unfold upQ; split
  · exact ⟨h.x.neg, h.y.neg⟩
  · exact h
theorem up_1 {q : Qd} (h : q.2 < 0) : (-q.1, -q.2) = upQ q := by unfold upQ; rw [if_pos (.inl h)]
theorem up_2 {q : Qd} (h1 : q.2 = 0) (h2 : q.1 < 0) : (-q.1, -q.2) = upQ q := by unfold upQ; rw [if_pos (.inr ⟨h1, h2⟩)]
theorem up_3 {q : Qd} (h1 : ¬ q.2 < 0) (h : ¬ (q.2 = 0 ∧ q.1 < 0)) : q = upQ q := by unfold upQ; rw [if_neg fun e => e.elim h1 h]
end Go.AM
namespace Go.AM
open Go Go.RowKit
theorem sg_dc (a : Int) : (sgn a == 0) = decide (a = 0) := by
  rw [Bool.eq_iff_iff, beq_iff_eq, decide_eq_true_iff]; exact sgn_zero_iff
end Go.AM
end

section
/- Orders and orbits. -/
namespace Go.AM
open Go Go.RowKit
abbrev prD (d : Int) : Fm := ⟨1, d % 4, -(d / 4)⟩
structure DD (d : Int) (n m c : Nat) (y : Fm × Mt) (u eta : Qd) : Prop where
  dok : DOK d
  pd : (prD d).disc = d
  rd : RdT (rootV d) (prD d) n y
  fu : FuT (rootV d) d y.1 m
  ar : ArT (rootV d) y.1 c
  uq : qdF (fuK (rootV d) d y.1 m) = u
  uL : LQ 12 u
  ue : evB u d = true
  et : etQ d u = eta
  eL : LQ 12 eta
  ee : evB eta d = true
abbrev flC (d : Int) (q : Qd) : List DV := [zn d, zm d, zn q.1, zm q.1, zn q.2, zm q.2]
theorem et_1 {d : Int} {u eta : Qd} (h : etQ d u = eta) (h1 : nmQ d u < 0) : qmF u u d = eta := by rw [← h]; unfold etQ; rw [if_pos h1]
theorem et_2 {d : Int} {u eta : Qd} (h : etQ d u = eta) (h1 : ¬ nmQ d u < 0) : u = eta := by rw [← h]; unfold etQ; rw [if_neg h1]
theorem LQ.mono {m n : Nat} {q : Qd} (h : LQ m q) (hm : m ≤ n) : LQ n q := ⟨h.x.mono hm, h.y.mono hm⟩
theorem ev_cj {q : Qd} {d : Int} (h : evB q d = true) : evB (cjQ q) d = true := by
  unfold evB cjQ at *
  have h := of_decide_eq_true h
  refine decide_eq_true ?_
  have e : q.1 - d * -q.2 = (q.1 - d * q.2) + 2 * (d * q.2) := by rw [Int.mul_neg]; omega
  show (q.1 - d * -q.2) % 2 = 0
  rw [e]; omega
def wk (d : Int) (b q : Qd) : Nat → Qd
  | 0 => q
  | k + 1 => qmF (wk d b q k) b d
def bst (d : Int) (b q : Qd) : Nat → Qd
  | 0 => q
  | k + 1 => upQ (wk d b q (k + 1))
structure LsT (d : Int) (b q : Qd) (n : Nat) (e : Qd) : Prop where
  ok : ∀ k, k ≤ n → LQ 12 (wk d b q k) ∧ evB (wk d b q k) d = true
  go : ∀ k, k < n → cpQ (upQ (wk d b q (k + 1))) (bst d b q k) < 0
  stop : ¬ cpQ (upQ (wk d b q (n + 1))) (bst d b q n) < 0
  eq : bst d b q n = e
theorem wk_get {d : Int} {b q : Qd} {K i : Nat} (h : i < K) : ((List.range K).map fun k => ([PQ (upQ (wk d b q (k + 1)))] : List PV))[i]? = some [PQ (upQ (wk d b q (i + 1)))] := by
  rw [List.getElem?_map, List.getElem?_range h]; rfl
theorem wk_one {d : Int} {b q : Qd} {K : Nat} : ∀ x ∈ (List.range K).map (fun k => ([PQ (upQ (wk d b q (k + 1)))] : List PV)), x.length = 1 := fun x hx => by
  obtain ⟨k, _, rfl⟩ := List.mem_map.1 hx
  rfl
theorem wk_len {d : Int} {b q : Qd} {K : Nat} : ((List.range K).map fun k => ([PQ (upQ (wk d b q (k + 1)))] : List PV)).length = K := by rw [List.length_map, List.length_range]
theorem wk_at {d : Int} {b q : Qd} {K k : Nat} {x : List PV} (h : ((List.range K).map fun k => ([PQ (upQ (wk d b q (k + 1)))] : List PV))[k]? = some x) : k < K ∧ x = [PQ (upQ (wk d b q (k + 1)))] := by
  have hl := (List.getElem?_eq_some_iff.1 h).1
  rw [wk_len] at hl
  rw [wk_get hl] at h
  exact ⟨hl, (Option.some.inj h).symm⟩
end Go.AM
end

section
/- The solutions that the forms of a number give. -/
namespace Go.AM
open Go Go.RowKit
def flT (p : Nat → Bool) (i : Nat) : Nat := ((List.range i).filter p).length
theorem flT_y {p : Nat → Bool} {i : Nat} (h : p i = true) : flT p (i + 1) = flT p i + 1 := by
  unfold flT; rw [List.range_succ, List.filter_append, List.filter_cons_of_pos h, List.length_append]; rfl
theorem flT_n {p : Nat → Bool} {i : Nat} (h : p i = false) : flT p (i + 1) = flT p i := by
  unfold flT; rw [List.range_succ, List.filter_append, List.filter_cons_of_neg (by rw [h]; decide)]; simp
theorem flT_get {p : Nat → Bool} {i n : Nat} (h : p i = true) (hi : i < n) : ((List.range n).filter p)[flT p i]? = some i := by
  obtain ⟨j, rfl⟩ : ∃ j, n = i + (j + 1) := ⟨n - (i + 1), by omega⟩
  have e : List.range (i + (j + 1)) = List.range i ++ i :: List.range' (i + 1) j := by
    rw [List.range_eq_range', List.range_eq_range', ← List.range'_append_1, Nat.zero_add, List.range'_succ]
  rw [e, List.filter_append, List.filter_cons_of_pos h]
  unfold flT
  rw [List.getElem?_append_right (Nat.le_refl _), Nat.sub_self]; rfl
def gB (d m b : Int) : Fm := ⟨m, b, (b * b - d) / (4 * m)⟩
theorem gB_disc {d m b : Int} (h : (b * b - d) % (4 * m) = 0) : (gB d m b).disc = d := by
  have h1 := Int.ediv_mul_cancel (Int.dvd_of_emod_eq_zero h)
  unfold gB Fm.disc dsc
  show b * b - 4 * m * ((b * b - d) / (4 * m)) = d
  rw [Int.mul_comm (4 * m)]; omega
def zB (d m b : Int) : Fm × Mt := (redC (rootV d) 60 (gB d m b, M1)).getD (⟨0, 0, 0⟩, M1)
def sB (d : Int) (y : Fm × Mt) (c : Nat) (m b : Int) : Mt × Bool := smR (rootV d) y (zB d m b) c
def okP (d : Int) (y : Fm × Mt) (c : Nat) (m : Int) (b : Nat) : Bool := decide (((b : Int) * (b : Int) - d) % (4 * m) = 0) && (sB d y c m b).2
def vP (d : Int) (y : Fm × Mt) (c : Nat) (m : Int) (b : Nat) : Qd := ((sB d y c m b).1.a + (sB d y c m b).1.a + (d % 4) * (sB d y c m b).1.c, (sB d y c m b).1.c)
def qsP (d : Int) (y : Fm × Mt) (c : Nat) (m : Int) : List Qd := ((List.range (2 * m.natAbs)).filter (okP d y c m)).map (vP d y c m)
abbrev xsP (d : Int) (y : Fm × Mt) (c : Nat) (m : Int) : List (List PV) := ((List.range (2 * m.natAbs)).filter (okP d y c m)).map fun b => [PQ (vP d y c m b)]
theorem xsP_len {d : Int} {y : Fm × Mt} {c : Nat} {m : Int} : (xsP d y c m).length = flT (okP d y c m) (2 * m.natAbs) := by unfold xsP flT; rw [List.length_map]
theorem xsP_get {d : Int} {y : Fm × Mt} {c : Nat} {m : Int} {i : Nat} (h : okP d y c m i = true) (hi : i < 2 * m.natAbs) : (xsP d y c m)[flT (okP d y c m) i]? = some [PQ (vP d y c m i)] := by
  unfold xsP; rw [List.getElem?_map, flT_get h hi]; rfl
theorem qsP_len {d : Int} {y : Fm × Mt} {c : Nat} {m : Int} : (qsP d y c m).length = (xsP d y c m).length := by unfold qsP xsP; rw [List.length_map, List.length_map]
theorem xsP_one {d : Int} {y : Fm × Mt} {c : Nat} {m : Int} : ∀ x ∈ xsP d y c m, x.length = 1 := fun x hx => by
  obtain ⟨k, _, rfl⟩ := List.mem_map.1 hx
  rfl
theorem xsP_at {d : Int} {y : Fm × Mt} {c : Nat} {m : Int} {k : Nat} {x : List PV} (h : (xsP d y c m)[k]? = some x) : ∃ q, (qsP d y c m)[k]? = some q ∧ x = [PQ q] := by
  unfold xsP at h
  rw [List.getElem?_map] at h
  unfold qsP
  rw [List.getElem?_map]
  cases e : ((List.range (2 * m.natAbs)).filter (okP d y c m))[k]? with
  | none => rw [e] at h; cases h
  | some b => rw [e] at h; exact ⟨_, rfl, (Option.some.inj h).symm⟩
theorem Mt.mul_L {a b : Mt} {n : Nat} (h : LM n a) (k : LM n b) : LM (n + 2) (a.mul b) := by
  have i1 : LB a.a n := ⟨h.a⟩
  have i2 : LB a.b n := ⟨h.b⟩
  have i3 : LB a.c n := ⟨h.c⟩
  have i4 : LB a.d n := ⟨h.d⟩
  have j1 : LB b.a n := ⟨k.a⟩
  have j2 : LB b.b n := ⟨k.b⟩
  have j3 : LB b.c n := ⟨k.c⟩
  have j4 : LB b.d n := ⟨k.d⟩
  refine ⟨(LB.le (z := a.a * b.a + a.b * b.c)).mono ?_, (LB.le (z := a.a * b.b + a.b * b.d)).mono ?_, (LB.le (z := a.c * b.a + a.d * b.c)).mono ?_, (LB.le (z := a.c * b.b + a.d * b.d)).mono ?_⟩ <;> simp only [Nat.max_def] <;> (repeat' split) <;> omega
theorem OKX.L {x : Fm × Mt} (h : OKX x) : LM 10 x.2 := ⟨okB_L h.p, okB_L h.q, okB_L h.r, okB_L h.s⟩
theorem smR_L {s : Int} {y z : Fm × Mt} {n : Nat} (h : ArT s y.1 n) (hy : OKX y) (hz : OKX z) : LM 14 (smR s y z n).1 := by
  unfold smR
  by_cases h0 : smI s y.1 n z.1 < 0
  · rw [if_pos h0]
    exact ⟨(LB.le (z := 0)).mono (by decide), (LB.le (z := 0)).mono (by decide), (LB.le (z := 0)).mono (by decide), (LB.le (z := 0)).mono (by decide)⟩
  · rw [if_neg h0]
    obtain ⟨h1, h2⟩ := sm_ok (g := z.1) h h0
    rw [h2]
    refine Mt.mul_L (n := 12) (Mt.mul_L (n := 10) hy.L h1.L) ?_
    have := hz.L
    exact ⟨this.d.mono (by decide), this.b.neg.mono (by decide), this.c.neg.mono (by decide), this.a.mono (by decide)⟩
theorem tm0 {a b : Int} : a.tmod b = 0 ↔ a % b = 0 := by
  rw [← Int.dvd_iff_tmod_eq_zero, Int.dvd_iff_emod_eq_zero]
end Go.AM
end

section
/- Bytes as strings, texts as keys, the list of solutions. -/
namespace Go.AM
open Go Go.RowKit
section
variable {P : Program} {tt : TT} (hT : TTok P tt)
variable {dst : Option Nat} {ty : TypeId} {pos : String} {af : Array Edge} {gd : Option (Nat × Bool)} {d : Nat} {ρ : Operand → AV} {own : Own}
variable {T : TypeId} {i : TyI} {x y : Operand} {m : Nat}
include hT
/-- a map of the call's own is put into a box -/
theorem op_storeMap {j z : Nat} {e : TypeId} {dv : DV} {b : Blk} (ht : tt T = some i) (hsz : i.size = 1) (hx : ρ x = .loc m 0) (hy : ρ y = .vec j) (hb : own m = some ⟨false, z, e, [dv]⟩) (hbj : own j = some b) (hbv : b.vec = true) (hs0 : b.sz = 0) :
    Eff P ⟨none, .store T x y, ty, pos, af, gd⟩ d ρ own .junk [(m, some ⟨false, j + 2, e, [.any]⟩)] none [m, j] := by
  intro C h r own' a w K Q hrep hrd hw _ hK
  have hb' := (hrd m (by simp)).trans hb
  have hj' := (hrd j (by simp)).trans hbj
  have e1 := hrep x (by simp [Op.operands])
  have e2 := hrep y (by simp [Op.operands])
  rw [hx] at e1; rw [hy] at e2
  obtain ⟨k, h1, h2, c, h3, h4, h5⟩ := own_reads hw hb' e1
  have e2' : a.eval y = r j := e2
  have hbr := hw.ow j b hj'
  rw [BlkRep.mpE hbv hs0] at hbr
  obtain ⟨q0, q1⟩ := hbr.isMap
  have hcells : (a.eval y).cells = #[r j] := by rw [e2', q1]; rfl
  have hone : (r j).oneCell' = true := by rw [q1]; rfl
  have hbx := hw.ow m _ hb'
  rw [BlkRep.boxE rfl] at hbx
  obtain ⟨k0, c0, p1, p2, p3, p4⟩ := hbx
  rw [p1] at h2; simp only [hblk, Option.some.injEq] at h2; subst h2
  rw [p2] at h3
  have hcc : c0 = c := by simpa using h3
  subst hcc
  have hsize : c0.size = 1 := p3
  obtain ⟨w', c', k1, k2, k3, k4, k5⟩ := run_storeCells_block P k0 e [r j] 0 0 w c0 p2 (by simp; omega) (by simpa using hone)
  have hc' : c' = #[r j] := by
    have h0 := k5 0
    simp at h0
    apply Array.ext (by simp; omega)
    intro q hq1 hq2
    have : q = 0 := by omega
    subst this
    rw [Array.getElem?_eq_getElem (by omega)] at h0
    simpa using h0
  have hrun : (execOp a.eval ⟨none, .store T x y, ty, pos, af, gd⟩).run P w = .ok .skip w' := by
    have hs : ¬ ((a.eval y).cells.size ≠ i.size) := by rw [hcells, hsz]; simp
    simp only [execOp, h1, Instr.storeAt, Instr.sureAddr, storeVar, Sem.run_bind, Sem.run_pure, (hT T i ht).size, Result.andThen_ok, hs, if_false]
    rw [hcells]
    simp only [Result.andThen_ok, k1]
  unfold Oper.wp
  rw [hrun]
  refine hK undef h r w' (.refl _) (fun _ _ => rfl) trivial (hw.write (by rw [hb']; simp) (by rw [p1]; rfl) k2 (b := ⟨false, j + 2, e, [.any]⟩) ?_ ?_)
  · rw [BlkRep.boxE rfl]
    refine ⟨k0, c', p1, k3, by rw [hc']; rfl, ?_⟩
    rw [hc']
    simp only [DReps, DRep]
    exact ⟨⟨r j, rfl, hone⟩, trivial⟩
  · intro j' hj
    have : j' = j := by simpa [lnk] using hj
    subst this
    exact ⟨k0, (e, #[]), p1, by rw [k3, hc']; rfl⟩
end
section
variable {β : Type} {encD : β → List DV} {z : Nat}
variable {P : Program} {tt : TT} (hT : TTok P tt)
variable {dst : Option Nat} {ty : TypeId} {pos : String} {af : Array Edge} {gd : Option (Nat × Bool)} {d : Nat} {ρ : Operand → AV} {own : Own}
variable {T e : TypeId} {i j : TyI} {x y : Operand}
include hT
theorem op_appendL (hL : ∀ b, (encD b).length = z) (hz : Nat.blt 0 z = true) {m : Nat} {l l' : List β} (ht : tt T = some i) (hs : i.sh = .sl e) (he : tt e = some j) (hj : j.size = z) (hjb : Nat.ble j.bytes (32 * z) = true) (hx : ρ x = .vec m) (hb : own m = some (VB z e encD l)) (hy : ρ y = .p (.c (SL encD l'))) (hfit : l.length + l'.length ≤ 10000000) (hmd : m ≠ d) (hzb : Nat.ble z 96 = true) :
    Eff P ⟨dst, .call ⟨.builtin .append, #[x, y], #[T, T]⟩, ty, pos, af, gd⟩ d ρ own (.vec d) [(m, none)] (some (VB z e encD (l ++ l'))) [m] := by
  have hz2 := Nat.le_of_ble_eq_true hzb
  have h1 : (l.length + l'.length) * z ≤ 10000000 * 96 := Nat.mul_le_mul hfit hz2
  rw [Nat.add_mul] at h1
  have h := op_append (dst := dst) (ty := ty) (pos := pos) (af := af) (gd := gd) (d := d) hT ht hs he hx hb rfl hj.symm rfl hy (by rfl) (by rw [hj]; exact flat_len hL l') (by rw [hj]; exact hjb) (by rw [hj, show (VB z e encD l).cs.length = l.length * z from flat_len hL l]; omega) (by rw [hj]; exact hz) hmd
  rw [show (VB z e encD (l ++ l')) = ⟨true, j.size, e, (VB z e encD l).cs ++ l'.flatMap encD⟩ by rw [hj, VB, List.flatMap_append]]
  exact h
end
abbrev enB (b : UInt8) : List DV := [.v (.int .u8 (b.toNat : Int))]
theorem enB_len : ∀ b, (enB b).length = 1 := fun _ => rfl
abbrev kB (l : List UInt8) : Value := .string ⟨l.toArray⟩
section
variable {P : Program} {tt : TT} (hT : TTok P tt)
variable {dst : Option Nat} {ty : TypeId} {pos : String} {af : Array Edge} {gd : Option (Nat × Bool)} {d : Nat} {ρ : Operand → AV} {own : Own}
variable {T S e : TypeId} {j s : TyI} {x y : Operand} {m : Nat}
include hT
theorem op_bstr {be : TypeId} {l : List UInt8} (hs : tt S = some s) (hss : s.sh = .sl e) (he : tt e = some j) (hj : j.sh = .int .u8) (hi : P.underlying T = some .string) (hx : ρ x = .vec m) (hb : own m = some (VB 1 be enB l)) :
    Eff P ⟨dst, .convert S T x, ty, pos, af, gd⟩ d ρ own (.p (.c (.v (kB l)))) [] none [m] :=
  Eff.value fun C h r own' a w hrep hrd hw => by
    have e1 := hrep x (by simp [Op.operands])
    rw [hx] at e1
    have e1' : a.eval x = r m := e1
    have hold := hw.ow m _ ((hrd m (by simp)).trans hb)
    rw [BlkRep.slE rfl Nat.one_pos] at hold
    obtain ⟨ba, n, cap, q1, q2, q3, q4, q5⟩ := hold
    have hn : n = l.length := by
      have := flat_len enB_len l
      have q2 : n * 1 = (l.flatMap enB).length := q2
      omega
    subst hn
    have hu := (hT S s hs).slice hss
    have hue := (hT e j he).int hj
    refine ⟨kB l, ?_, by simp only [AVRep, PRep, DRep]; exact ⟨trivial, rfl⟩⟩
    have hc : (convert S T (.slice ba l.length cap)).run P w = .ok (kB l) w := by
      rcases q5 with q5 | ⟨k, c, rfl, p2, p3, p4⟩
      · have hl : l = [] := List.eq_nil_of_length_eq_zero (by omega)
        subst hl
        cases ba with
        | none =>
          rw [run_convert_bytes_string w S T e none _ cap hu hue hi]
          simp [Conv.bytesToString]; rfl
        | some A => exact run_convert_bytes_back w S T e A cap [] hu hue hi (fun j hj => by simp at hj)
      · refine run_convert_bytes_back w S T e _ cap l hu hue hi fun q hq => ?_
        have hg : (l.flatMap enB)[q]? = some (.v (.int .u8 (l[q].toNat : Int))) := by
          have h9 := flat_drop enB_len l q hq
          have h8 : ((l.flatMap enB).drop (q * 1))[0]? = some (.v (.int .u8 (l[q].toNat : Int))) := by rw [h9]; rfl
          rw [List.getElem?_drop] at h8
          simpa using h8
        obtain ⟨v, v1, v2⟩ := p4.get q _ hg
        rw [Addr.add_lit, Nat.zero_add]
        simp only [World.cell?, p2]
        have v3 : v = .int .u8 (l[q].toNat : Int) := v2.1
        rw [← v3]; exact v1
    simp only [execOp, e1', q1, Sem.run_bind, hc, Result.andThen_ok, Sem.run_pure]
end
def by4 (w : Nat) : List UInt8 := [UInt8.ofNat w, UInt8.ofNat (w / 2 ^ 8), UInt8.ofNat (w / 2 ^ 16), UInt8.ofNat (w / 2 ^ 24)]
def szW (ws : List Nat) : List UInt8 := ws.flatMap by4
def szB (z : Int) : List UInt8 := szW (wl z.natAbs) ++ if z < 0 then [45] else []
theorem szW_len : ∀ ws : List Nat, (szW ws).length = ws.length * 4
  | [] => rfl
  | w :: ws => by
    unfold szW
    rw [List.flatMap_cons, List.length_append]
    have := szW_len ws
    unfold szW at this
    rw [this, List.length_cons]
    show 4 + _ = _
    omega
theorem szW_s {ws : List Nat} {k : Nat} (h : k < ws.length) : szW (ws.take (k + 1)) = szW (ws.take k) ++ by4 (ws.getD k 0) := by
  unfold szW
  rw [List.take_add_one, List.getElem?_eq_getElem h, List.flatMap_append, List.getD_eq_getElem?_getD, List.getElem?_eq_getElem h]
  simp
theorem wrap_b (m : Nat) : IntKind.u8.wrap (m : Int) = ((UInt8.ofNat m).toNat : Int) := by
  have : (UInt8.ofNat m).toNat = m % 256 := by simp
  rw [this]
  simp [IntKind.wrap, IntKind.signed, IntKind.bits]
abbrev Ky := List UInt8 × List UInt8
def kcB (k : Ky) : List Value := [kB k.1, kB k.2]
def tx (q : Qd) : Ky := (szB q.1, szB q.2)
theorem sz_neg {z : Int} (h : z < 0) : szW (wl z.natAbs) ++ [45] = szB z := by unfold szB; rw [if_pos h]
theorem sz_pos {z : Int} (h : ¬ z < 0) : szW (wl z.natAbs) = szB z := by unfold szB; rw [if_neg h, List.append_nil]
def okQ (q : Qd) : Bool := okB q.1 && okB q.2
theorem okQ_L {q : Qd} (h : okQ q = true) : LQ 12 q := by
  unfold okQ at h
  have h := Bool.and_eq_true_iff.1 h
  exact ⟨(okB_L h.1).mono (by decide), (okB_L h.2).mono (by decide)⟩
def lsR (d : Int) (b : Qd) : Nat → Qd → Qd → Option Qd
  | 0, _, _ => none
  | n + 1, w, e => bif okQ w && evB w d then (bif decide (cpQ (upQ (qmF w b d)) e < 0) then lsR d b n (qmF w b d) (upQ (qmF w b d)) else some e) else none
theorem lsR_1 {d : Int} {b w e e' : Qd} {n : Nat} (h : lsR d b (n + 1) w e = some e') : (LQ 12 w ∧ evB w d = true) ∧ ((¬ cpQ (upQ (qmF w b d)) e < 0 ∧ e = e') ∨ (cpQ (upQ (qmF w b d)) e < 0 ∧ lsR d b n (qmF w b d) (upQ (qmF w b d)) = some e')) := by
  unfold lsR at h
  generalize qmF w b d = w2 at h ⊢
  cases h1 : okQ w && evB w d with
  | false => rw [h1] at h; cases h
  | true =>
    rw [h1] at h
    have h1' := Bool.and_eq_true_iff.1 h1
    refine ⟨⟨okQ_L h1'.1, h1'.2⟩, ?_⟩
    cases h2 : decide (cpQ (upQ w2) e < 0) with
    | false => rw [h2] at h; exact .inl ⟨of_decide_eq_false h2, Option.some.inj h⟩
    | true => rw [h2] at h; exact .inr ⟨of_decide_eq_true h2, h⟩
theorem lsR_run {d : Int} {b q e : Qd} (N : Nat) : ∀ (k : Nat), lsR d b N (wk d b q k) (bst d b q k) = some e → ∃ n, k ≤ n ∧ (∀ j, k ≤ j → j ≤ n → LQ 12 (wk d b q j) ∧ evB (wk d b q j) d = true) ∧ (∀ j, k ≤ j → j < n → cpQ (upQ (wk d b q (j + 1))) (bst d b q j) < 0) ∧ ¬ cpQ (upQ (wk d b q (n + 1))) (bst d b q n) < 0 ∧ bst d b q n = e := by
  induction N with
  | zero => intro k h; cases h
  | succ N ih =>
    intro k h
    obtain ⟨hok, h⟩ := lsR_1 h
    have e1 : qmF (wk d b q k) b d = wk d b q (k + 1) := rfl
    have e2 : upQ (wk d b q (k + 1)) = bst d b q (k + 1) := rfl
    rw [e1] at h
    rcases h with ⟨h2, e0⟩ | ⟨h2, h⟩
    · exact ⟨k, Nat.le_refl _, fun j g1 g2 => by rw [Nat.le_antisymm g2 g1]; exact hok, fun j g1 g2 => by omega, h2, e0⟩
    · rw [e2] at h
      obtain ⟨n, g1, g2, g3, g4, g5⟩ := ih (k + 1) h
      refine ⟨n, by omega, fun j q1 q2 => ?_, fun j q1 q2 => ?_, g4, g5⟩
      · rcases Nat.lt_or_ge k j with p | p
        · exact g2 j p q2
        · rw [Nat.le_antisymm p q1]; exact hok
      · rcases Nat.lt_or_ge k j with p | p
        · exact g3 j p q2
        · rw [Nat.le_antisymm p q1]; exact h2
theorem lsR_T {d : Int} {b q e : Qd} {N : Nat} (h : lsR d b N q q = some e) : ∃ n, LsT d b q n e := by
  obtain ⟨n, _, g2, g3, g4, g5⟩ := lsR_run (d := d) (b := b) (q := q) N 0 h
  exact ⟨n, ⟨fun k hk => g2 k (Nat.zero_le _) hk, fun k hk => g3 k (Nat.zero_le _) hk, g4, g5⟩⟩
def leR (d : Int) (eta q : Qd) : Option Qd := (lsR d eta 60 (upQ q) (upQ q)).bind fun e1 => lsR d (cjQ eta) 60 e1 e1
def leV (d : Int) (eta q : Qd) : Qd := (leR d eta q).getD (0, 0)
theorem leR_T {d : Int} {eta q : Qd} (h : (leR d eta q).isSome = true) : ∃ n1 n2 e1, LsT d eta (upQ q) n1 e1 ∧ LsT d (cjQ eta) e1 n2 (leV d eta q) := by
  unfold leV
  cases h1 : leR d eta q with
  | none => rw [h1] at h; cases h
  | some e2 =>
    unfold leR at h1
    cases h2 : lsR d eta 60 (upQ q) (upQ q) with
    | none => rw [h2] at h1; cases h1
    | some e1 =>
      rw [h2, Option.bind_some] at h1
      obtain ⟨n1, g1⟩ := lsR_T h2
      obtain ⟨n2, g2⟩ := lsR_T h1
      exact ⟨n1, n2, e1, g1, g2⟩
abbrev SvT := List (Ky × Value) × List Qd
def svS (st : SvT) (r : Qd) : SvT := if (getR st.1 (tx r)).isSome = true then st else (st.1 ++ [(tx r, .bool true)], st.2 ++ [r])
def svL (l : List Qd) : SvT := l.foldl svS ([], [])
theorem svL_s {l : List Qd} {k : Nat} {r : Qd} (h : l[k]? = some r) : svL (l.take (k + 1)) = svS (svL (l.take k)) r := by
  unfold svL
  rw [List.take_add_one, h, List.foldl_append]; rfl
theorem svS_val {st : SvT} {r : Qd} (h : ∀ p ∈ st.1, p.2 = .bool true) : ∀ p ∈ (svS st r).1, p.2 = .bool true := by
  unfold svS
  split
  · exact h
  · intro p hp
    rcases List.mem_append.1 hp with hp | hp
    · exact h p hp
    · rw [List.mem_singleton.1 hp]
theorem foldl_inv {α β : Type} {f : α → β → α} {I : α → Prop} (hs : ∀ a b, I a → I (f a b)) : ∀ (l : List β) (a : α), I a → I (l.foldl f a)
  | [], _, h => h
  | b :: l, a, h => foldl_inv hs l (f a b) (hs a b h)
theorem svL_val (l : List Qd) : ∀ p ∈ (svL l).1, p.2 = .bool true := foldl_inv (I := fun st : SvT => ∀ p ∈ st.1, p.2 = .bool true) (fun _ _ h => svS_val h) l _ (by simp)
theorem svL_len (l : List Qd) : (svL l).2.length ≤ l.length := by
  have key : ∀ (l : List Qd) (st : SvT), (l.foldl svS st).2.length ≤ st.2.length + l.length := by
    intro l
    induction l with
    | nil => intro st; simp
    | cons r l ih =>
      intro st
      have h1 := ih (svS st r)
      have h2 : (svS st r).2.length ≤ st.2.length + 1 := by unfold svS; split <;> simp
      rw [List.foldl_cons, List.length_cons]; omega
  have := key l ([], [])
  simp only [List.length_nil, Nat.zero_add] at this
  exact this
theorem getR_b {M : List (Ky × Value)} (h : ∀ p ∈ M, p.2 = .bool true) (k : Ky) : (getR M k).getD (.bool false) = .bool (getR M k).isSome := by
  unfold getR
  cases e : M.find? fun p => decide (k = p.1) with
  | none => rfl
  | some p => simp [h p (List.mem_of_find?_eq_some e)]
theorem svS_y {st : SvT} {r : Qd} (h : (getR st.1 (tx r)).isSome = true) : svS st r = st := if_pos h
theorem svS_n {st : SvT} {r : Qd} (h : (getR st.1 (tx r)).isSome = false) : svS st r = (st.1 ++ [(tx r, .bool true)], st.2 ++ [r]) := if_neg (by rw [h]; decide)
def cbQ (x y : Qd) : Int := if cmpI x.2 y.2 = 0 then cmpI x.1 y.1 else cmpI x.2 y.2
theorem cbQ_lt {p q : Qd} : cbQ p q < 0 ↔ p.2 < q.2 ∨ (p.2 = q.2 ∧ p.1 < q.1) := by
  unfold cbQ
  split
  · next h => rw [cmpI_eq_zero] at h; rw [cmpI_lt_zero]; omega
  · next h => rw [cmpI_eq_zero] at h; rw [cmpI_lt_zero]; omega
theorem cbQ_swo : Sort.SWO (Proofs.ltOf cbQ) where
  irrefl x := by unfold Proofs.ltOf; rw [decide_eq_false_iff_not, cbQ_lt]; omega
  trans x y z := by unfold Proofs.ltOf; rw [decide_eq_true_iff, decide_eq_true_iff, decide_eq_true_iff, cbQ_lt, cbQ_lt, cbQ_lt]; omega
  ntrans x y z := by unfold Proofs.ltOf; rw [decide_eq_false_iff_not, decide_eq_false_iff_not, decide_eq_false_iff_not, cbQ_lt, cbQ_lt, cbQ_lt]; omega
theorem cbQ_anti {x y : Qd} (h1 : ¬ cbQ x y < 0) (h2 : ¬ cbQ y x < 0) : x = y := by
  rw [cbQ_lt] at h1 h2
  exact Prod.ext (by omega) (by omega)
def leQ (x y : Qd) : Bool := decide (¬ cbQ y x < 0)
def srtQ (l : List Qd) : List Qd := l.mergeSort leQ
theorem srtQ_perm (l : List Qd) : (srtQ l).Perm l := List.mergeSort_perm l leQ
theorem srtQ_srt (l : List Qd) : (srtQ l).Pairwise fun x y => ¬ cbQ y x < 0 := by
  have h1 : (srtQ l).Pairwise fun a b => leQ a b = true := List.pairwise_mergeSort (le := leQ)
    (fun a b c h k => by
      unfold leQ at *
      have h := of_decide_eq_true h
      have k := of_decide_eq_true k
      refine decide_eq_true ?_
      rw [cbQ_lt] at *; omega)
    (fun a b => by
      unfold leQ
      rw [Bool.or_eq_true, decide_eq_true_iff, decide_eq_true_iff, cbQ_lt, cbQ_lt]; omega) l
  exact h1.imp fun h => of_decide_eq_true h
end Go.AM
namespace Go.AM
open Go Go.RowKit
theorem kB_inj {a b : List UInt8} (h : kB a = kB b) : a = b := by
  have h : (⟨a.toArray⟩ : ByteArray) = ⟨b.toArray⟩ := Value.string.inj h
  have h : a.toArray = b.toArray := congrArg ByteArray.data h
  exact List.toArray_inj h
abbrev enQ (q : Qd) : List DV := QL q
theorem enQ_len : ∀ q, (enQ q).length = 4 := fun _ => rfl
end Go.AM
namespace Go.AM
open Go Go.RowKit
theorem wl_L12 {z : Int} (h : L 12 z) : (wl z.natAbs).length ≤ 1000000 := Nat.le_trans (wl_len_L (n := 7) h) (by decide)
/-- the representatives of the orbits -/
def rpL (d : Int) (eta : Qd) (y : Fm × Mt) (c : Nat) (m : Int) : List Qd := (qsP d y c m).map (leV d eta)
theorem rpL_get {d : Int} {eta : Qd} {y : Fm × Mt} {c : Nat} {m : Int} {k : Nat} {q : Qd} (h : (qsP d y c m)[k]? = some q) : (rpL d eta y c m)[k]? = some (leV d eta q) := by
  unfold rpL; rw [List.getElem?_map, h]; rfl
theorem rpL_len {d : Int} {eta : Qd} {y : Fm × Mt} {c : Nat} {m : Int} : (rpL d eta y c m).length = (xsP d y c m).length := by unfold rpL; rw [List.length_map, qsP_len]
theorem xsP_le {d : Int} {y : Fm × Mt} {c : Nat} {m : Int} : (xsP d y c m).length ≤ 2 * m.natAbs := by
  rw [xsP_len]; unfold flT
  exact Nat.le_trans (List.length_filter_le _ _) (by rw [List.length_range]; exact Nat.le_refl _)
theorem tm1 (k : Int) : k.tmod 1 = 0 := tm0.2 (Int.emod_one k)
theorem LsT.L {d : Int} {b q : Qd} {n : Nat} {e : Qd} (h : LsT d b q n e) (hq : LQ 12 q) : LQ 12 e := by
  rw [← h.eq]
  match n, h with
  | 0, _ => exact hq
  | n + 1, h => exact upQ_L (h.ok (n + 1) (Nat.le_refl _)).1
end Go.AM
end

section
/- The check that the kernel runs for each discriminant, and what it says. -/
namespace Go.AM
open Go Go.RowKit
def sqK (x : Nat) : Nat → Nat
  | 0 => 0
  | r + 1 => bif Nat.ble ((r + 1) * (r + 1)) x then r + 1 else sqK x r
theorem sqK_spec {x : Nat} : ∀ {n : Nat}, x < (n + 1) * (n + 1) → sqK x n * sqK x n ≤ x ∧ x < (sqK x n + 1) * (sqK x n + 1)
  | 0, h => ⟨Nat.zero_le _, h⟩
  | r + 1, h => by
    unfold sqK
    cases e : Nat.ble ((r + 1) * (r + 1)) x with
    | true => exact ⟨Nat.le_of_ble_eq_true e, h⟩
    | false =>
      refine sqK_spec ?_
      rcases Nat.lt_or_ge x ((r + 1) * (r + 1)) with q | q
      · exact q
      · rw [Nat.ble_eq_true_of_le q] at e; cases e
theorem sqK_rt {d : Int} (h : DOK d) : rootV d = (sqK d.toNat 64 : Nat) := by
  have h1 := h.lo; have h2 := h.hi
  rw [rootV_of (by omega)]
  have := sqK_spec (x := d.toNat) (n := 64) (by omega)
  rw [isq_uniq this.1 this.2]
def okD (d : Int) : Bool := decide (d % 4 ≤ 1) && !decide (((sqK d.toNat 64 : Nat) : Int) * ((sqK d.toNat 64 : Nat) : Int) = d)
theorem okD_iff {d : Int} (h1 : 5 ≤ d) (h2 : d ≤ 4000) : okD d = true ↔ DOK d := by
  have hs := sqK_spec (x := d.toNat) (n := 64) (by omega)
  unfold okD
  rw [Bool.and_eq_true, decide_eq_true_iff, Bool.not_eq_true', decide_eq_false_iff_not]
  have hsq : isSq d = true ↔ ((sqK d.toNat 64 : Nat) : Int) * ((sqK d.toNat 64 : Nat) : Int) = d := by
    unfold isSq
    rw [isq_uniq hs.1 hs.2, decide_eq_true (show 0 ≤ d by omega), Bool.true_and, decide_eq_true_iff]
    generalize sqK d.toNat 64 = r
    constructor
    · intro e
      have : ((r * r : Nat) : Int) = d := by omega
      rw [← this]; exact (Int.natCast_mul _ _).symm
    · intro e
      have : ((r * r : Nat) : Int) = d := by rw [← e]; exact Int.natCast_mul _ _
      omega
  constructor
  · rintro ⟨a, b⟩
    exact ⟨h1, h2, a, by rw [← Bool.not_eq_true, hsq]; exact b⟩
  · intro h
    refine ⟨h.m4, fun e => ?_⟩
    have := hsq.2 e
    rw [h.sq] at this; cases this
theorem prD_disc {d : Int} (h : DOK d) : (prD d).disc = d := by
  have h1 := h.m4; have h2 := h.lo
  unfold prD Fm.disc dsc
  have h4 : d % 4 = 0 ∨ d % 4 = 1 := by omega
  show d % 4 * (d % 4) - 4 * 1 * -(d / 4) = d
  rcases h4 with h4 | h4 <;> rw [h4] <;> omega
def okM (q : Mt) : Bool := okB q.a && okB q.b && okB q.c && okB q.d
theorem okM_L {q : Mt} (h : okM q = true) : LM 10 q := by
  unfold okM at h
  have h1 := Bool.and_eq_true_iff.1 h
  have h2 := Bool.and_eq_true_iff.1 h1.1
  have h3 := Bool.and_eq_true_iff.1 h2.1
  exact ⟨okB_L h3.1, okB_L h3.2, okB_L h2.2, okB_L h1.2⟩
def fuC (s d : Int) : Nat → Bool → Fm × Mt → Mt → List (Int × Int) → Option Mt
  | 0, _, _, _, _ => none
  | n + 1, first, x, acc, seen => bif okX x && okM acc then (bif !first && Nat.beq x.1.a.natAbs 1 then some acc else (bif seen.elem (kyI x.1) then none else fuC s d n false (nxS s x) (tmF acc (fuT d x.1)) (kyI x.1 :: seen))) else none
theorem fuC_run {s d : Int} {f : Fm} {w : Mt} (N : Nat) : ∀ (k : Nat) (seen : List (Int × Int)), (∀ i, i < k → kyI (nb s f i).1 ∈ seen) → fuC s d N (decide (k = 0)) (nb s f k) (fuK s d f k) seen = some w →
    ∃ m, k ≤ m ∧ m < k + N ∧ 0 < m ∧ (∀ j, k ≤ j → j ≤ m → OKX (nb s f j) ∧ LM 10 (fuK s d f j)) ∧ (∀ j, k ≤ j → 0 < j → j < m → (nb s f j).1.a.natAbs ≠ 1) ∧ (nb s f m).1.a.natAbs = 1 ∧ (∀ i j, i < j → k ≤ j → j < m → kyI (nb s f i).1 ≠ kyI (nb s f j).1) ∧ fuK s d f m = w := by
  induction N with
  | zero => intro k seen _ h; cases h
  | succ N ih =>
    intro k seen hs h
    unfold fuC at h
    cases h1 : okX (nb s f k) && okM (fuK s d f k) with
    | false => rw [h1] at h; cases h
    | true =>
      rw [h1] at h
      have h1' := Bool.and_eq_true_iff.1 h1
      have hok : OKX (nb s f k) ∧ LM 10 (fuK s d f k) := ⟨okX_iff.1 h1'.1, okM_L h1'.2⟩
      cases h2 : (!decide (k = 0)) && Nat.beq (nb s f k).1.a.natAbs 1 with
      | true =>
        rw [h2] at h
        have h2' := Bool.and_eq_true_iff.1 h2
        have hk0 : ¬ k = 0 := by have := h2'.1; rw [Bool.not_eq_true', decide_eq_false_iff_not] at this; exact this
        have e : fuK s d f k = w := Option.some.inj h
        exact ⟨k, Nat.le_refl _, by omega, by omega, fun j g1 g2 => by rw [Nat.le_antisymm g2 g1]; exact hok, fun j g1 _ g2 => by omega, Nat.eq_of_beq_eq_true h2'.2, fun i j _ g1 g2 => by omega, e⟩
      | false =>
        rw [h2] at h
        cases h3 : seen.elem (kyI (nb s f k).1) with
        | true => rw [h3] at h; cases h
        | false =>
          rw [h3] at h
          have e1 : nxS s (nb s f k) = nb s f (k + 1) := rfl
          have e2 : tmF (fuK s d f k) (fuT d (nb s f k).1) = fuK s d f (k + 1) := rfl
          have e3 : false = decide (k + 1 = 0) := (decide_eq_false (Nat.succ_ne_zero k)).symm
          have h : fuC s d N false (nxS s (nb s f k)) (tmF (fuK s d f k) (fuT d (nb s f k).1)) (kyI (nb s f k).1 :: seen) = some w := h
          rw [e1, e2, e3] at h
          have hns : kyI (nb s f k).1 ∉ seen := fun q => by rw [List.elem_eq_true_of_mem q] at h3; cases h3
          obtain ⟨m, g1, g2, g3, g4, g5, g6, g7, g8⟩ := ih (k + 1) _ (fun i hi => by
            rcases Nat.lt_or_ge i k with p | p
            · exact List.mem_cons_of_mem _ (hs i p)
            · rw [show i = k by omega]; exact List.mem_cons_self ..) h
          refine ⟨m, by omega, by omega, g3, fun j q1 q2 => ?_, fun j q1 q2 q3 => ?_, g6, fun i j q0 q1 q2 => ?_, g8⟩
          · rcases Nat.lt_or_ge k j with p | p
            · exact g4 j p q2
            · rw [Nat.le_antisymm p q1]; exact hok
          · rcases Nat.lt_or_ge k j with p | p
            · exact g5 j p q2 q3
            · rw [Nat.le_antisymm p q1] at q2 ⊢
              intro q
              rw [decide_eq_false (by omega), q] at h2; cases h2
          · rcases Nat.lt_or_ge k j with p | p
            · exact g7 i j q0 p q2
            · have ejk : j = k := by omega
              subst ejk
              intro q
              exact hns (q ▸ hs i q0)
theorem fuC_T {s d : Int} {f : Fm} {w : Mt} {N : Nat} (hN : N ≤ 1000) (ha : f.a = 1) (h : fuC s d N true (f, M1) (onF d) [] = some w) : ∃ m, FuT s d f m ∧ fuK s d f m = w := by
  obtain ⟨m, _, g2, g3, g4, g5, g6, g7, g8⟩ := fuC_run (s := s) (d := d) (f := f) N 0 [] (fun i hi => by omega) h
  exact ⟨m, ⟨⟨g3, by omega, fun k hk => (g4 k (Nat.zero_le _) hk).1, ha, fun k q1 q2 => g5 k (Nat.zero_le _) q1 q2, g6, fun i j q1 q2 => g7 i j q1 (Nat.zero_le _) q2⟩, fun k hk => (g4 k (Nat.zero_le _) hk).2⟩, g8⟩
end Go.AM
end

section
/- The check for one number; what the checks give the walk. -/
namespace Go.AM
open Go Go.RowKit
def fnd (l : List (Fm × Mt)) (g : Fm) : Option Mt := match l with
  | [] => none
  | x :: l => bif x.1.eqb g then some x.2 else fnd l g
def vQ (d : Int) (t : Mt) : Qd := (t.a + t.a + (d % 4) * t.c, t.c)
/-- none: out of bounds; some h: whether b gives a solution -/
def vbE (top : Int) : Option Qd → Option Bool
  | none => none
  | some e => bif decide (e.2 ≤ top) then some true else none
def vbQ (d : Int) (eta : Qd) (top : Int) (q : Qd) : Option Bool := bif okQ q then vbE top (leR d eta q) else none
def vbN (d : Int) (eta : Qd) (top : Int) (y z : Mt) : Option Mt → Option Bool
  | none => some false
  | some N => vbQ d eta top (vQ d ((y.mul N).mul (bkM z)))
def vbZ (d : Int) (y : Fm × Mt) (l : List (Fm × Mt)) (eta : Qd) (top : Int) : Option (Fm × Mt) → Option Bool
  | none => none
  | some z => vbN d eta top y.2 z.2 (fnd l z.1)
def vbK (s d : Int) (y : Fm × Mt) (l : List (Fm × Mt)) (eta : Qd) (top : Int) (k : Int) (b : Nat) : Option Bool :=
  bif decide (((b : Int) * (b : Int) - d) % (4 * k) = 0) then vbZ d y l eta top (redC s 60 (gB d k b, M1)) else some false
theorem vbZ_s {d : Int} {y z : Fm × Mt} {l : List (Fm × Mt)} {eta : Qd} {top : Int} : vbZ d y l eta top (some z) = vbN d eta top y.2 z.2 (fnd l z.1) := rfl
theorem vbN_s {d : Int} {eta : Qd} {top : Int} {y z N : Mt} : vbN d eta top y z (some N) = vbQ d eta top (vQ d ((y.mul N).mul (bkM z))) := rfl
theorem vbN_n {d : Int} {eta : Qd} {top : Int} {y z : Mt} : vbN d eta top y z none = some false := rfl
theorem vbE_s {top : Int} {e : Qd} : vbE top (some e) = bif decide (e.2 ≤ top) then some true else none := rfl
theorem vbE_n {top : Int} : vbE top none = none := rfl
def cmb (f : Nat → Option Bool) : Nat → Option Bool
  | 0 => some false
  | n + 1 => match f n with
    | none => none
    | some h => match cmb f n with
      | none => none
      | some a => some (h || a)
theorem cmb_some {f : Nat → Option Bool} : ∀ {n : Nat} {r : Bool}, cmb f n = some r → (∀ b, b < n → ∃ h, f b = some h) ∧ (r = true ↔ ∃ b, b < n ∧ f b = some true)
  | 0, r, h => ⟨fun b hb => by omega, by
    have : false = r := Option.some.inj h
    subst this
    exact ⟨fun q => (by cases q), fun ⟨b, hb, _⟩ => (by omega)⟩⟩
  | n + 1, r, h => by
    unfold cmb at h
    cases h1 : f n with
    | none => rw [h1] at h; cases h
    | some a =>
      rw [h1] at h
      cases h2 : cmb f n with
      | none => rw [h2] at h; cases h
      | some c =>
        rw [h2] at h
        have e : (a || c) = r := Option.some.inj h
        obtain ⟨i1, i2⟩ := cmb_some h2
        refine ⟨fun b hb => ?_, ?_⟩
        · rcases Nat.lt_or_ge b n with p | p
          · exact i1 b p
          · rw [show b = n by omega]; exact ⟨a, h1⟩
        · rw [← e, Bool.or_eq_true]
          constructor
          · rintro (q | q)
            · exact ⟨n, by omega, by rw [h1, q]⟩
            · obtain ⟨b, hb, hf⟩ := i2.1 q
              exact ⟨b, by omega, hf⟩
          · rintro ⟨b, hb, hf⟩
            rcases Nat.lt_or_ge b n with p | p
            · exact .inr (i2.2 ⟨b, p, hf⟩)
            · rw [show b = n by omega, h1] at hf
              exact .inl (Option.some.inj hf)
def kOK (d k : Int) : Bool := !decide (k = 0) && !decide (k % 4 = 0) && !decide (k % 9 = 0) && decide (4 * k * k < d)
def chK (s d : Int) (y : Fm × Mt) (l : List (Fm × Mt)) (eta : Qd) (top : Int) (k : Int) : Bool :=
  bif kOK d k then (match cmb (vbK s d y l eta top k) (2 * k.natAbs) with
    | none => false
    | some h => h == l.any fun x => decide (x.1.a = k)) else true
def chD (d : Int) : Bool :=
  match redC ((sqK d.toNat 64 : Nat) : Int) 60 (prD d, M1) with
  | none => false
  | some y => match arF ((sqK d.toNat 64 : Nat) : Int) y.1 400 with
    | none => false
    | some l => match fuC ((sqK d.toNat 64 : Nat) : Int) d 400 true (y.1, M1) (onF d) [] with
      | none => false
      | some w => decide (y.1.a = 1) && okQ (qdF w) && evB (qdF w) d && okQ (etQ d (qdF w)) && evB (etQ d (qdF w)) d &&
        (List.range 45).all fun i => chK ((sqK d.toNat 64 : Nat) : Int) d y l (etQ d (qdF w)) (qmF (qdF w) (qdF w) d).2 ((i : Int) - 22)
theorem fnd_ar {s : Int} {f g : Fm} : ∀ (L : List Nat), fnd (L.map (nb s f)) g = (L.find? fun i => (nb s f i).1.eqb g).map fun i => (nb s f i).2
  | [] => rfl
  | i :: L => by
    rw [List.map_cons]
    unfold fnd
    cases e : (nb s f i).1.eqb g with
    | true => simp only [List.find?_cons, e]; rfl
    | false => simp only [List.find?_cons, e]; exact fnd_ar L
theorem fixI_map {s : Int} {f g : Fm} : ∀ (L : List Nat) (k : Nat), fixI (fun x : Fm => decide (x = g)) (L.map fun i => (nb s f i).1) k = match L.findIdx? (fun i => (nb s f i).1.eqb g) with
    | none => -1
    | some j => ((k + j : Nat) : Int)
  | [], _ => rfl
  | i :: L, k => by
    rw [List.map_cons]
    unfold fixI
    rw [List.findIdx?_cons]
    by_cases e : (nb s f i).1 = g
    · rw [decide_eq_true e, if_pos rfl, Fm.eqb_iff.2 e]; rfl
    · have e2 : (nb s f i).1.eqb g = false := by rw [← Bool.not_eq_true, Fm.eqb_iff]; exact e
      rw [decide_eq_false e, if_neg (by decide), e2, fixI_map L (k + 1)]
      cases L.findIdx? (fun i => (nb s f i).1.eqb g) with
      | none => rfl
      | some j =>
        simp only [Option.map_some, Bool.false_eq_true, if_false]
        exact congrArg (fun n : Nat => (n : Int)) (show k + 1 + j = k + (j + 1) by omega)
theorem fnd_sm {s : Int} {f g : Fm} {c : Nat} : match fnd (arL s f c) g with
    | none => smI s f c g < 0
    | some N => ¬ smI s f c g < 0 ∧ (cyM s f c).getD (smI s f c g).toNat ⟨0, 0, 0, 0⟩ = N := by
  unfold arL smI cyF
  rw [fnd_ar, fixI_map]
  cases h : (List.range c).findIdx? (fun i => (nb s f i).1.eqb g) with
  | none =>
    have : (List.range c).find? (fun i => (nb s f i).1.eqb g) = none := by
      rw [List.find?_eq_none]; rw [List.findIdx?_eq_none_iff] at h
      intro x hx q; rw [h x hx] at q; cases q
    rw [this]
    show (-1 : Int) < 0
    decide
  | some j =>
    obtain ⟨hj, hj2, hj3⟩ := List.findIdx?_eq_some_iff_getElem.1 h
    rw [List.length_range] at hj
    have : (List.range c).find? (fun i => (nb s f i).1.eqb g) = some j := by
      rw [List.find?_eq_some_iff_getElem]
      refine ⟨by simpa using hj2, j, by simpa using hj, by simp, fun q hq => by have := hj3 q hq; simpa using this⟩
    rw [this]
    refine ⟨by show ¬ ((0 + j : Nat) : Int) < 0; omega, ?_⟩
    rw [show (((0 + j : Nat) : Int)).toNat = j by omega, cyM_get hj]
end Go.AM
namespace Go.AM
open Go Go.RowKit
/-- what is known of one number -/
structure TK (d : Int) (y : Fm × Mt) (c : Nat) (u eta : Qd) (k : Int) : Prop where
  hz : ∀ b : Nat, b < 2 * k.natAbs → ((b : Int) * (b : Int) - d) % (4 * k) = 0 → ∃ n, RdT (rootV d) (gB d k b) n (zB d k b)
  hqs : ∀ q ∈ qsP d y c k, LQ 12 q
  hle : ∀ q ∈ qsP d y c k, (leR d eta q).isSome = true
  top : ∀ q ∈ qsP d y c k, (leV d eta q).2 ≤ (qmF u u d).2
  law : qsP d y c k ≠ [] ↔ (shR (cyF (rootV d) y.1 c) k).2 = 0
theorem sh_any {l : List Fm} {k : Int} : (shR l k).2 = 0 ↔ l.any (fun g : Fm => decide (g.a = k)) = true := by
  have h := fixI_any (p := fun g : Fm => decide (g.a = k)) l 0
  rw [← h, decide_eq_true_iff]
  unfold shR shI
  split
  · next q => exact ⟨fun e => (by cases e), fun e => (by omega)⟩
  · next q => exact ⟨fun _ => (by omega), fun _ => rfl⟩
theorem vb_some {d : Int} {y : Fm × Mt} {c : Nat} {eta : Qd} {top k : Int} {b : Nat} {h : Bool} (e : vbK (rootV d) d y (arL (rootV d) y.1 c) eta top k b = some h) :
    (((b : Int) * (b : Int) - d) % (4 * k) = 0 → ∃ n, RdT (rootV d) (gB d k b) n (zB d k b)) ∧ okP d y c k b = h ∧ (h = true → LQ 12 (vP d y c k b) ∧ (leR d eta (vP d y c k b)).isSome = true ∧ (leV d eta (vP d y c k b)).2 ≤ top) := by
  unfold vbK at e
  by_cases hdv : ((b : Int) * (b : Int) - d) % (4 * k) = 0
  · rw [decide_eq_true hdv, cond_true] at e
    generalize h1 : redC (rootV d) 60 (gB d k b, M1) = o1 at e
    cases o1 with
    | none => cases e
    | some z =>
      rw [vbZ_s] at e
      have hzB : zB d k b = z := by unfold zB; rw [h1]; rfl
      have hR : ∃ n, RdT (rootV d) (gB d k b) n (zB d k b) := by rw [hzB]; exact redC_T h1
      have hf := fnd_sm (s := rootV d) (f := y.1) (g := z.1) (c := c)
      refine ⟨fun _ => hR, ?_⟩
      generalize h2 : fnd (arL (rootV d) y.1 c) z.1 = o2 at e hf
      cases o2 with
      | none =>
        rw [vbN_n] at e
        have e : false = h := Option.some.inj e
        have hs : (sB d y c k b).2 = false := by
          unfold sB smR; rw [hzB, if_pos hf]
        refine ⟨by unfold okP; rw [hs, Bool.and_false]; exact e, fun q => by rw [← e] at q; cases q⟩
      | some N =>
        rw [vbN_s] at e
        have hs : sB d y c k b = ((y.2.mul N).mul (bkM z.2), true) := by
          unfold sB smR; rw [hzB, if_neg hf.1, hf.2]
        have hv : vP d y c k b = vQ d ((y.2.mul N).mul (bkM z.2)) := by unfold vP; rw [hs]; rfl
        rw [← hv] at e
        unfold vbQ at e
        cases h3 : okQ (vP d y c k b) with
        | false => rw [h3] at e; cases e
        | true =>
          rw [h3, cond_true] at e
          unfold leV
          generalize h4 : leR d eta (vP d y c k b) = o4 at e
          cases o4 with
          | none => rw [vbE_n] at e; cases e
          | some e2 =>
            rw [vbE_s] at e
            cases h5 : decide (e2.2 ≤ top) with
            | false => rw [h5] at e; cases e
            | true =>
              rw [h5, cond_true] at e
              have e : true = h := Option.some.inj e
              exact ⟨by unfold okP; rw [decide_eq_true hdv, hs, ← e]; rfl, fun _ => ⟨okQ_L h3, rfl, of_decide_eq_true h5⟩⟩
  · rw [decide_eq_false hdv, cond_false] at e
    have e : false = h := Option.some.inj e
    exact ⟨fun q => absurd q hdv, by unfold okP; rw [decide_eq_false hdv, Bool.false_and]; exact e, fun q => by rw [← e] at q; cases q⟩
theorem chK_T {d : Int} {y : Fm × Mt} {c : Nat} {u eta : Qd} {k : Int} (hk : kOK d k = true) (h : chK (rootV d) d y (arL (rootV d) y.1 c) eta (qmF u u d).2 k = true) : TK d y c u eta k := by
  unfold chK at h
  rw [hk, cond_true] at h
  cases h1 : cmb (vbK (rootV d) d y (arL (rootV d) y.1 c) eta (qmF u u d).2 k) (2 * k.natAbs) with
  | none => rw [h1] at h; cases h
  | some r =>
    rw [h1] at h
    have h : (r == (arL (rootV d) y.1 c).any fun x => decide (x.1.a = k)) = true := h
    obtain ⟨i1, i2⟩ := cmb_some h1
    have hmem : ∀ q ∈ qsP d y c k, ∃ b, b < 2 * k.natAbs ∧ okP d y c k b = true ∧ vP d y c k b = q := fun q hq => by
      obtain ⟨b, hb, rfl⟩ := List.mem_map.1 hq
      have hb := List.mem_filter.1 hb
      exact ⟨b, List.mem_range.1 hb.1, hb.2, rfl⟩
    have hall : ∀ q ∈ qsP d y c k, LQ 12 q ∧ (leR d eta q).isSome = true ∧ (leV d eta q).2 ≤ (qmF u u d).2 := fun q hq => by
      obtain ⟨b, hb, ho, rfl⟩ := hmem q hq
      obtain ⟨hh, e⟩ := i1 b hb
      obtain ⟨_, g2, g3⟩ := vb_some e
      exact g3 (g2 ▸ ho)
    refine ⟨fun b hb => by
      obtain ⟨hh, e⟩ := i1 b hb
      exact (vb_some e).1, fun q hq => (hall q hq).1, fun q hq => (hall q hq).2.1, fun q hq => (hall q hq).2.2, ?_⟩
    have e1 : qsP d y c k ≠ [] ↔ r = true := by
      rw [i2]
      constructor
      · intro hn
        obtain ⟨q, hq⟩ := List.exists_mem_of_ne_nil _ hn
        obtain ⟨b, hb, ho, _⟩ := hmem q hq
        obtain ⟨hh, e⟩ := i1 b hb
        have := (vb_some e).2.1
        exact ⟨b, hb, by rw [e, ← this, ho]⟩
      · rintro ⟨b, hb, e⟩
        have ho := (vb_some e).2.1
        intro hn
        have : vP d y c k b ∈ qsP d y c k := List.mem_map.2 ⟨b, List.mem_filter.2 ⟨List.mem_range.2 hb, ho⟩, rfl⟩
        rw [hn] at this; cases this
    have e2 : ((arL (rootV d) y.1 c).any fun x => decide (x.1.a = k)) = (cyF (rootV d) y.1 c).any fun g : Fm => decide (g.a = k) := by
      unfold arL cyF; rw [List.any_map, List.any_map]; rfl
    rw [e1, sh_any, ← e2, beq_iff_eq.1 h]
structure TD (d : Int) (n m c : Nat) (y : Fm × Mt) (u eta : Qd) : Prop where
  dd : DD d n m c y u eta
  tk : ∀ i : Nat, i < 45 → kOK d ((i : Int) - 22) = true → TK d y c u eta ((i : Int) - 22)
theorem chD_T {d : Int} (hd : DOK d) (h : chD d = true) : ∃ n m c y u eta, TD d n m c y u eta := by
  unfold chD at h
  have hrt := sqK_rt hd
  rw [← hrt] at h
  cases h1 : redC (rootV d) 60 (prD d, M1) with
  | none => rw [h1] at h; cases h
  | some y =>
    rw [h1] at h
    simp only at h
    cases h2 : arF (rootV d) y.1 400 with
    | none => rw [h2] at h; cases h
    | some l =>
      rw [h2] at h
      simp only at h
      cases h3 : fuC (rootV d) d 400 true (y.1, M1) (onF d) [] with
      | none => rw [h3] at h; cases h
      | some w =>
        rw [h3] at h
        simp only at h
        obtain ⟨g0, g1⟩ := Bool.and_eq_true_iff.1 h
        obtain ⟨g0, g2⟩ := Bool.and_eq_true_iff.1 g0
        obtain ⟨g0, g3⟩ := Bool.and_eq_true_iff.1 g0
        obtain ⟨g0, g4⟩ := Bool.and_eq_true_iff.1 g0
        obtain ⟨g6, g5⟩ := Bool.and_eq_true_iff.1 g0
        obtain ⟨n, hR⟩ := redC_T h1
        obtain ⟨c, hA, hl⟩ := arF_T (by decide) h2
        obtain ⟨m, hF, hw⟩ := fuC_T (by decide) (of_decide_eq_true g6) h3
        refine ⟨n, m, c, y, qdF w, etQ d (qdF w), ⟨hd, prD_disc hd, hR, hF, hA, by rw [hw], okQ_L g5, g4, rfl, okQ_L g3, g2⟩, fun i hi hk => ?_⟩
        have := List.all_eq_true.1 g1 i (List.mem_range.2 hi)
        rw [hl] at this
        exact chK_T hk this
end Go.AM
end
