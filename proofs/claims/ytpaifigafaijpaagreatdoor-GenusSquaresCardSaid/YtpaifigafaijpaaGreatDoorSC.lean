/- Texts merged by program, in build order. -/
import Derived.Test.YtpaifigafaijpaaGreatDoorSB
import Derived.Lib.SliceRun
section
/- Operations with closures, boxes that hold a slice, a listed variable, a small map. -/
namespace Go.AM
open Go Go.RowKit
section ops
variable {P : Program} {tt : TT} (hT : TTok P tt)
variable {dst : Option Nat} {ty : TypeId} {pos : String} {af : Array Edge} {gd : Option (Nat × Bool)} {d : Nat} {ρ : Operand → AV} {own : Own}
variable {T : TypeId} {i : TyI} {x y : Operand}
/-- a closure over data that stays -/
theorem op_makeFunc {f : FuncId} {c : Operand} {xs : List DV} (hx : ρ c = .ip xs) : Eff P ⟨dst, .makeFunc (.func f) #[] #[c], ty, pos, af, gd⟩ d ρ own (.fn f [xs]) [] none [] :=
  Eff.value fun C h r own' a w hrep hrd hw => by
    have e1 := hrep c (by simp [Op.operands])
    rw [hx] at e1
    refine ⟨.func (.func f) #[] #[a.eval c], ?_, #[a.eval c], rfl, e1, trivial⟩
    simp [execOp, Instr.makeFunc]
theorem eval_func {h : Hp} {r : Nat → Value} {f : FuncId} {v : Value} (e : AVRep h r (.p (.c (.v (.func (.func f) #[] #[])))) v) : v = .func (.func f) #[] #[] := by
  simp only [AVRep, PRep, DRep] at e
  exact e.1
/-- a call of a function value that captures nothing -/
theorem Eff.callF {f : FuncId} {c : Operand} {args : Array Operand} {tys : Array TypeId} {res : AV} (hx : ρ c = .p (.c (.v (.func (.func f) #[] #[])))) (hc : Call0 P f (args.toList.map ρ) res) :
    Eff P ⟨dst, .call ⟨.value c, args, tys⟩, ty, pos, af, gd⟩ d ρ own res [] none [] := by
  intro C h r own' a w K Q hrep hrd hw _ hK
  have e1 := hrep c (by simp [Op.operands, Call.operands])
  rw [hx] at e1
  have e2 := eval_func e1
  unfold Oper.wp
  have hrun : (execOp a.eval ⟨dst, .call ⟨.value c, args, tys⟩, ty, pos, af, gd⟩).run P w = .ok (.enter f (args.map a.eval)) w := by
    simp only [execOp, resolve, Sem.run_bind, e2, Deferred.ofValue, Sem.run_pure, Result.andThen_ok, invoke, Array.empty_append, Array.append_empty]
    exact run_callFunc hc.fn _ w
  rw [hrun]
  refine Calls.mono (hc.go h r w (args.map a.eval) ?_ (hw.before fun m hm => absurd rfl hm)) ?_
  · rw [Array.toList_map]
    exact repArgs_map _ fun x hx => hrep x (by simp only [Op.operands, Call.operands]; exact Array.mem_append.2 (.inr (Array.mem_toList_iff.1 hx)))
  · rintro e w' ⟨v, h', rfl, hv, hq⟩
    exact hK v h' r w' hq.hg (fun _ _ => rfl) hv (hw.after (fun m hm => absurd rfl hm) hq (fun m => by simp [nown, applySt]) (fun m b hm => absurd rfl hm))
include hT in
theorem op_index_glob {g e l : Nat} {vs : List Value} {j : TyI} {k : IntKind} {n : Int} (ht : tt T = some i) (hs : i.sh = .ar l e) (he : tt e = some j) (hj : j.size = 1) (hgl : (g, vs) ∈ glist) (hone : (vs.all Value.oneCell') = true) (hy : ρ y = .p (.c (.v (.int k n)))) (hn : 0 ≤ n ∧ n < l) :
    Eff P ⟨dst, .indexAddr T (.global g) y, ty, pos, af, gd⟩ d ρ own (.ip ((vs.drop n.toNat).map .v)) [] none [] :=
  Eff.value fun C h r own' a w hrep hrd hw => by
    have e2 := hrep y (by simp [Op.operands])
    rw [hy] at e2
    obtain ⟨c, t, fr, h1, h2⟩ := hw.gl _ hgl
    refine ⟨.pointer (some ⟨g, 0 + n.toNat * j.size, none⟩), ?_, g, _, c, t, fr, rfl, h1, ?_⟩
    · have hu := (hT T i ht).array hs
      have hgv : a.eval (.global g) = .pointer (some ⟨g, 0, none⟩) := rfl
      simp only [execOp, hgv, rep_val e2, Instr.indexAt, asIntOf, Sem.run_bind, Sem.run_pure, Result.andThen_ok, run_underlying hu, Instr.sureAddr, hn, and_self, if_true, (hT e j he).size, Addr.add_lit]
    · rw [DReps.iff]
      intro p dv hp
      rw [List.getElem?_map, List.getElem?_drop] at hp
      cases hv : vs[n.toNat + p]? with
      | none => rw [hv] at hp; cases hp
      | some v =>
        rw [hv] at hp
        cases hp
        refine ⟨v, ?_, ?_⟩
        · have e3 : 0 + n.toNat * j.size + p = n.toNat + p := by rw [hj]; omega
          show c[0 + n.toNat * j.size + p]? = some v
          rw [e3]; exact h2 _ _ hv
        · simp only [DRep, true_and]
          exact List.all_eq_true.1 hone v (List.mem_of_getElem? hv)
end ops
section ghost
variable {P : Program} {B : Bool} {N np : Nat} {Q : Exit → St → Prop} {s : St} {c : Code}
/-- a box is not written any more -/
theorem AWp_freezeBox {t m z : Nat} {e : TypeId} {cs : List DV} (ht : s.regs t = .loc m 0) (hb : s.own m = some ⟨false, z, e, cs⟩) (h : AWp P B N np c Q ⟨upd s.regs t (.ip cs), upd s.own m none⟩) : AWp P B N np c Q s := by
  intro ro hB C hh r a w hn hc
  have hold := hc.wk.ow m _ hb
  unfold BlkRep at hold
  simp only at hold
  obtain ⟨k, cc, q1, q2, q3, q4⟩ := hold
  obtain ⟨f1, f2⟩ := hc.wk.freeze (m := m) (i := k) (by rw [hb]; simp) (by rw [q1]; rfl) q2
  refine h ro hB C _ r a w hn ⟨hc.sz, hc.df.mono f2, fun t' => ?_, f1⟩
  show AVRep _ _ (upd s.regs t _ t') _
  by_cases e' : t' = t
  · subst e'
    rw [upd_same]
    have hx := hc.rg t'
    rw [ht] at hx
    obtain ⟨k', g1, g2⟩ := hx
    rw [q1] at g1; simp only [hblk, Option.some.injEq] at g1; subst g1
    exact ⟨k, 0, cc, e, (0, 0), g2, if_pos rfl, by simpa using DReps.mono f2 _ _ q4⟩
  · rw [upd_ne _ _ _ _ e']; exact AVRep.mono f2 _ _ (hc.rg t')
end ghost
end Go.AM
end

section
/- A region that makes a map of two numbers. -/
namespace Go.AM
open Go Go.RowKit
section
end
section
end
end Go.AM
end

section
/- A function that is ranged over, walked: between the rounds it may own memory of its own. -/
namespace Go.AM
open Go Go.RowKit
section
variable (P : Program) (l : Nat) (xs : List (List PV)) (n0 : Nat) (J : Nat → Hp → (Nat → Prop) → World → Prop) (N : Nat)
structure CJ (k : Nat) (G : Nat → Prop) (h : Hp) (r : Nat → Value) (s : St) (a : Act) (w : World) : Prop where
  sz : a.tmps.size = N
  df : a.defers = []
  rg : RegsOK h r s.regs a
  kj : ∃ C : Ctx, WOK C h r s.own w ∧ J k C.h0 G C.w0 ∧ n0 ≤ C.w0.heap.size ∧ (∀ i, C.F i → n0 ≤ i ∧ ¬ G i ∧ C.h0 i = none) ∧ C.np = 0 ∧ C.mar = false
def AJ (c : Code) (Q : Exit → Nat → St → Prop) (k : Nat) (s : St) : Prop :=
  ∀ (h : Hp) (r : Nat → Value) (a : Act) (w : World) (G : Nat → Prop), CJ n0 J N k G h r s a w →
    c.wpIn (Wd none) 0 P (fun e a' w' => ∃ k' s' h' r' G', Q e k' s' ∧ CJ n0 J N k' G' h' r' s' a' w') a w
def RJ (Q : Exit → Nat → St → Prop) (ops : Array Oper) (os : List Oper) (i : Nat) (k : Nat) (s : St) : Prop := ops.toList.drop i = os →
  ∀ (h : Hp) (r : Nat → Value) (a : Act) (w : World) (G : Nat → Prop), CJ n0 J N k G h r s a w →
    wpOpsIn (Wd none) 0 P ops (fun e a' w' => ∃ k' s' h' r' G', Q e k' s' ∧ CJ n0 J N k' G' h' r' s' a' w') (List.range' i os.length) a w
end
def JThen (K : Nat → St → Prop) (Q : Exit → Nat → St → Prop) : Exit → Nat → St → Prop
  | .normal, k, s => K k s
  | e, k, s => Q e k s
def JIn (id : Nat) (Q : Exit → Nat → St → Prop) : Exit → Nat → St → Prop
  | .exit id', k, s => bif Nat.beq id' id then Q .normal k s else Q (.exit id') k s
  | e, k, s => Q e k s
section
variable {P : Program} {l : Nat} {xs : List (List PV)} {n0 : Nat} {J : Nat → Hp → (Nat → Prop) → World → Prop} {N : Nat} (hK : Keeps P l xs n0 J)
variable {Q : Exit → Nat → St → Prop} {k : Nat} {s : St}
include hK in
theorem CJ.now {G : Nat → Prop} {h : Hp} {r : Nat → Value} {a : Act} {w : World} (c : CJ n0 J N k G h r s a w) : J k h G w := by
  obtain ⟨C, hw, hj, hs, hF, _⟩ := c.kj
  have hg := hK.g _ _ _ _ hj
  refine hK.rest _ _ _ _ _ _ hj ⟨hw.os, hw.tape, hw.output, hw.size, fun i hi => ?_, hw.hi, hw.hg, fun i hi => ?_⟩
  · by_cases e : C.F i
    · exact .inr (hF i e)
    · exact .inl (hw.old i hi e)
  · rcases hw.hn i hi with g | g | g
    · exact .inl g
    · exact .inr ⟨Nat.le_trans hs g, fun x => by have := (hg i x).1; omega⟩
    · exact .inr ⟨(hF i g).1, (hF i g).2.1⟩
include hK in
theorem CJ.notG {G : Nat → Prop} {h : Hp} {r : Nat → Value} {a : Act} {w : World} (c : CJ n0 J N k G h r s a w) {m i : Nat} (hm : s.own m ≠ none) (e : hblk (r m) = some i) : n0 ≤ i ∧ ¬ G i ∧ i < w.heap.size ∧ h i = none := by
  obtain ⟨C, hw, hj, hs, hF, _⟩ := c.kj
  refine ⟨?_, ?_, hw.lt hm e, hw.ho m i hm e⟩
  · rcases hw.fo m i hm e with g | g
    · exact Nat.le_trans hs g
    · exact (hF i g).1
  · rcases hw.fo m i hm e with g | g
    · exact fun x => by have := (hK.g _ _ _ _ hj i x).1; omega
    · exact (hF i g).2.1
theorem AJ_lift {c : Code} (h : AWp P true N 0 c (fun e s' => Q e k s') s) : AJ P n0 J N c Q k s := by
  intro hh r a w G hc
  obtain ⟨C, hw, hj, hs, hF, hn, hm⟩ := hc.kj
  refine wpIn_mono (h none (fun _ => rfl) C hh r a w ⟨hn, hm⟩ ⟨hc.sz, by rw [hc.df]; trivial, hc.rg, hw⟩) ?_
  rintro e a' w' ⟨s', h', r', q, c'⟩
  refine ⟨k, s', h', r', G, q, c'.sz, ?_, c'.rg, C, c'.wk, hj, hs, hF, hn, hm⟩
  have := c'.df
  cases hd : a'.defers with
  | nil => rfl
  | cons d ds => rw [hd] at this; have h1 := this.1; rw [hm] at h1; cases h1
theorem AJ_region (hP : P.follows .mixedOrders = true) {id : Nat} {ops : Array Oper} {draw : Bool} (h : RK P N 0 ops draw ops.toList (kill (allocs ops.toList) s) [] (Q .normal k)) : AJ P n0 J N (.region id ops draw) Q k s :=
  AJ_lift (AWp_region hP h)
theorem AJ_seq {x y : Code} (h : AJ P n0 J N x (JThen (AJ P n0 J N y Q) Q) k s) : AJ P n0 J N (.seq x y) Q k s := by
  intro hh r a w G hc
  refine wpIn_seq (wpIn_mono (h hh r a w G hc) ?_)
  rintro e a' w' ⟨k', s', h', r', G', q, c⟩
  cases e with
  | normal => exact q h' r' a' w' G' c
  | _ => exact ⟨k', s', h', r', G', q, c⟩
theorem AJ_skip (h : Q .normal k s) : AJ P n0 J N .skip Q k s := fun hh r _ _ G hc => wpIn_skip ⟨k, s, hh, r, G, h, hc⟩
theorem AJ_exit {id : Nat} (h : Q (.exit id) k s) : AJ P n0 J N (.exit id) Q k s := fun hh r _ _ G hc => wpIn_exit ⟨k, s, hh, r, G, h, hc⟩
theorem AJ_block {id : Nat} {c : Code} (h : AJ P n0 J N c (JIn id Q) k s) : AJ P n0 J N (.block id c) Q k s := by
  intro hh r a w G hc
  refine wpIn_block (wpIn_mono (h hh r a w G hc) ?_)
  rintro e a' w' ⟨k', s', h', r', G', q, c⟩
  cases e with
  | exit id' =>
    simp only [Exit.inBlock]
    simp only [JIn] at q
    by_cases hid : id' = id
    · subst hid
      rw [if_pos rfl]
      have : Nat.beq id' id' = true := by simp
      rw [this] at q
      exact ⟨k', s', h', r', G', q, c⟩
    · rw [if_neg hid]
      have : Nat.beq id' id = false := by
        cases e : Nat.beq id' id with
        | false => rfl
        | true => exact absurd (Nat.eq_of_beq_eq_true e) hid
      rw [this] at q
      exact ⟨k', s', h', r', G', q, c⟩
  | _ => exact ⟨k', s', h', r', G', q, c⟩
theorem CJ.bool {G : Nat → Prop} {h : Hp} {r : Nat → Value} {a : Act} {w : World} (hc : CJ n0 J N k G h r s a w) {c : Operand} {b : Bool} (he : ev s.regs c = .p (.c (.v (.bool b)))) : a.eval c = .bool b := by
  have := rep_ev hc.rg c
  rw [he] at this
  simp only [AVRep, PRep, DRep] at this
  exact this.1
theorem AJ_cond {c : Operand} {x y : Code} {b : Bool} (he : ev s.regs c = .p (.c (.v (.bool b)))) (ht : b = true → AJ P n0 J N x Q k s) (hf : b = false → AJ P n0 J N y Q k s) : AJ P n0 J N (.cond c x y) Q k s := by
  intro hh r a w G hc
  have hb := hc.bool he
  cases b with
  | true => exact wpIn_cond_true hb (ht rfl hh r a w G hc)
  | false => exact wpIn_cond_false hb (hf rfl hh r a w G hc)
theorem AJ_cond_false {c : Operand} {x y : Code} {b : Bool} (he : ev s.regs c = .p (.c (.v (.bool b)))) (hb : b = false) (hf : AJ P n0 J N y Q k s) : AJ P n0 J N (.cond c x y) Q k s :=
  AJ_cond he (fun h => by rw [hb] at h; cases h) (fun _ => hf)
theorem CJ.le {t : St} (q : Le s t) {G : Nat → Prop} {h : Hp} {r : Nat → Value} {a : Act} {w : World} (c : CJ n0 J N k G h r s a w) : CJ n0 J N k G h r t a w := by
  obtain ⟨C, hw, rest⟩ := c.kj
  exact ⟨c.sz, c.df, fun i => q.regs i h r _ (c.rg i), C, hw.forget q.own, rest⟩
theorem AJ_loop {ι : Type} {c : Code} (I : ι → St) (κ : ι → Nat) (F : ι → Prop) (μ : ι → Nat) (i₀ : ι) (h₀ : F i₀) (hk : κ i₀ = k) (hs : Le s (I i₀))
    (round : ∀ i, F i → AJ P n0 J N c (JThen (fun k' s' => ∃ j, F j ∧ μ j < μ i ∧ κ j = k' ∧ Le s' (I j)) Q) (κ i) (I i)) : AJ P n0 J N (.loop c) Q k s := by
  intro hh r a w G hc b kk cs hro hfn hroom
  have key : ∀ n i h r a w G, μ i = n → F i → CJ n0 J N (κ i) G h r (I i) a w →
      ∃ e a' w', (∃ k' s' h' r' G', Q e k' s' ∧ CJ n0 J N k' G' h' r' s' a' w') ∧ ArrivesIn (Machine.fenced P (Wd none)) P (lone (b.atR a (.code c :: .inLoop c :: kk)) cs w) b kk cs e a' w' := by
    intro n
    induction n using Nat.strongRecOn with
    | _ n ih =>
      intro i h r a w G hμ hF hc
      obtain ⟨e, a₁, w₁, ⟨k₁, s₁, h₁, r₁, G₁, hq, hc₁⟩, harr⟩ := round i hF h r a w G hc b (.inLoop c :: kk) cs hro hfn hroom
      cases e with
      | normal =>
        obtain ⟨j, hFj, hlt, hκ, hle⟩ := hq
        subst hκ
        obtain ⟨e₂, a₂, w₂, hq₂, harr₂⟩ := ih (μ j) (hμ ▸ hlt) j h₁ r₁ a₁ w₁ G₁ rfl hFj (hc₁.le hle)
        exact ⟨e₂, a₂, w₂, hq₂, .of_steps (StepsIn.trans harr (.one (fenced_calm hfn hroom rfl) stepR_inLoop)) harr₂⟩
      | exit id => exact ⟨_, a₁, w₁, ⟨k₁, s₁, h₁, r₁, G₁, hq, hc₁⟩, .pass (x := .inLoop c) rfl (fun _ _ => .inl (by simp)) harr⟩
      | goto l => exact ⟨_, a₁, w₁, ⟨k₁, s₁, h₁, r₁, G₁, hq, hc₁⟩, .pass (x := .inLoop c) rfl (fun _ _ => .inl (by simp)) harr⟩
      | ret => exact ⟨_, a₁, w₁, ⟨k₁, s₁, h₁, r₁, G₁, hq, hc₁⟩, .pass (x := .inLoop c) rfl (fun _ _ => .inl (by simp)) harr⟩
      | panic ch => exact ⟨_, a₁, w₁, ⟨k₁, s₁, h₁, r₁, G₁, hq, hc₁⟩, .pass (x := .inLoop c) rfl (fun _ _ => .inl (by simp)) harr⟩
      | outgrown => exact ⟨_, a₁, w₁, ⟨k₁, s₁, h₁, r₁, G₁, hq, hc₁⟩, .pass (x := .inLoop c) rfl (fun _ _ => .inl (by simp)) harr⟩
  subst hk
  obtain ⟨e, a', w', hq, harr⟩ := key _ i₀ hh r a w G rfl h₀ (hc.le hs)
  exact ⟨e, a', w', hq, .of_steps (.one (fenced_calm hfn hroom rfl) stepR_loop) harr⟩
section rj
variable {ops : Array Oper} {os : List Oper} {i : Nat} {op : Op} {ty : TypeId} {pos : String} {af : Array Edge} {gd : Option (Nat × Bool)} {t : Nat}
theorem AJ_regionY {id : Nat} (h : RJ P n0 J N Q ops ops.toList 0 k s) : AJ P n0 J N (.region id ops false) Q k s := by
  intro hh r a w G hc
  apply wpIn_region
  rw [List.range_eq_range']
  exact h rfl hh r a w G hc
theorem RJ.done (h : Q .normal k s) : RJ P n0 J N Q ops [] i k s := fun _ hh r _ _ G hc => ⟨k, s, hh, r, G, h, hc⟩
theorem drop_next {o : Oper} (h : ops.toList.drop i = o :: os) : ops[i]? = some o ∧ ops.toList.drop (i + 1) = os := by
  have h1 : (ops.toList.drop i)[0]? = some o := by rw [h]; rfl
  rw [List.getElem?_drop] at h1
  refine ⟨by rw [← Array.getElem?_toList]; simpa using h1, ?_⟩
  rw [← List.tail_drop, h]; rfl
theorem guards_wanted {o : Oper} {b : Bool} {h : Hp} {r : Nat → Value} {a : Act} (hc : RegsOK h r s.regs a) (hG : Guards ops o s.regs b) : Region.wanted o (yielded ops a.tmps) = b := by
  unfold Guards at hG
  cases hg : o.guard with
  | none =>
    rw [hg] at hG
    unfold Region.wanted
    rw [hg, hG]
  | some x =>
    obtain ⟨j, want⟩ := x
    rw [hg] at hG
    obtain ⟨t, g1, hG⟩ := hG
    rcases hG with ⟨c, g2, g3⟩ | ⟨g2, g3⟩
    · have := yielded_of hc g1 g2
      unfold Region.wanted
      rw [hg]
      simp only [this]
      rw [← g3]
      cases c <;> cases want <;> rfl
    · have := yielded_none hc g1 g2
      unfold Region.wanted
      rw [hg]
      simp only [this]
      rw [g3]
      cases want <;> rfl
theorem CJ.put {G : Nat → Prop} {h h' : Hp} {r r' : Nat → Value} {a : Act} {w w' : World} {C : Ctx} {v : AV} {x : Value} (hc : CJ n0 J N k G h r s a w) (hle : Hle h h') (hr : ∀ m, r' m = r m) (ht : t < N) (hv : AVRep h' r' v x)
    (q : WOK C h' r' s.own w') (hj : J k C.h0 G C.w0) (hs : n0 ≤ C.w0.heap.size) (hF : ∀ i, C.F i → n0 ≤ i ∧ ¬ G i ∧ C.h0 i = none) (hn : C.np = 0) (hm : C.mar = false) : CJ n0 J N k G h' r' ⟨upd s.regs t v, s.own⟩ (a.put (some t) x) w' :=
  ⟨by simp [Act.put, hc.sz], by simpa [Act.put] using hc.df, (show RegsOK h' r' s.regs a from fun u => AVRep.rebind _ _ (fun m _ => hr m) (AVRep.mono hle _ _ (hc.rg u))).put (dst := some t) (fun d e => by cases e; rw [hc.sz]; exact ht) hv, C, q, hj, hs, hF, hn, hm⟩
/-- an operation that yields a value -/
theorem RJ.val {v : AV} {rd : List Nat} (hg : Guards ops ⟨some t, op, ty, pos, af, gd⟩ s.regs true) (he : Eff P ⟨some t, op, ty, pos, af, gd⟩ t (ev s.regs) s.own v [] none rd)
    (hr : RJ P n0 J N Q ops os (i + 1) k ⟨upd s.regs t v, s.own⟩) (hN : (Nat.blt t N && noDefer ⟨some t, op, ty, pos, af, gd⟩) = true := by rfl) : RJ P n0 J N Q ops (⟨some t, op, ty, pos, af, gd⟩ :: os) i k s := by
  intro hd hh r a w G hc
  obtain ⟨h1, h2⟩ := drop_next hd
  rw [Bool.and_eq_true, Nat.blt_eq] at hN
  rw [List.length_cons, List.range'_succ, wpOpsIn_cons]
  unfold wpOpIn
  simp only [h1]
  rw [guards_wanted hc.rg hg, if_pos rfl]
  obtain ⟨C, hw, hj, hs, hF, hn, hm⟩ := hc.kj
  refine wpIn_of_wp (noDefer_ne hN.2) ?_
  refine he C hh r s.own a w _ _ (fun x _ => rep_ev hc.rg x) (fun _ _ => rfl) hw (fun e => absurd rfl e) ?_
  intro x h' r' w' hle hrr hv hw'
  exact ⟨hr h2 h' r' _ w' G (hc.put hle (fun m => hrr m (fun e => absurd rfl e)) hN.1 hv hw' hj hs hF hn hm), rfl⟩
theorem repArgs_ps {h : Hp} {r : Nat → Value} : ∀ {x : List PV} {vs : List Value}, RepArgs h r (x.map .p) vs → PReps h x vs
  | [], [], _ => trivial
  | _ :: _, _ :: _, k => ⟨k.1, repArgs_ps k.2⟩
  | [], _ :: _, k => k.elim
  | _ :: _, [], k => k.elim
/-- yield is called: a round -/
theorem RJ.yield (hK : Keeps P l xs n0 J) {c : Operand} {args : Array Operand} {tys : Array TypeId} {x : List PV} (hg : Guards ops ⟨some t, .call ⟨.value c, args, tys⟩, ty, pos, af, gd⟩ s.regs true)
    (hy : ev s.regs c = .p (.c (.v (.func (.yield l) #[] #[])))) (ha : args.toList.map (ev s.regs) = x.map .p) (hx : xs[k]? = some x)
    (hr : RJ P n0 J N Q ops os (i + 1) (k + 1) ⟨upd s.regs t (.p (.c (.v (.bool true)))), s.own⟩) (hN : Nat.blt t N = true := by rfl) : RJ P n0 J N Q ops (⟨some t, .call ⟨.value c, args, tys⟩, ty, pos, af, gd⟩ :: os) i k s := by
  intro hd hh r a w G hc
  obtain ⟨h1, h2⟩ := drop_next hd
  rw [Nat.blt_eq] at hN
  rw [List.length_cons, List.range'_succ, wpOpsIn_cons]
  unfold wpOpIn
  simp only [h1]
  rw [guards_wanted hc.rg hg, if_pos rfl]
  have hyv : a.eval c = .func (.yield l) #[] #[] := by
    have := rep_ev hc.rg c
    rw [hy] at this
    simp only [AVRep, PRep, DRep] at this
    exact this.1
  have hra : RepArgs hh r (x.map .p) (args.map a.eval).toList := by
    rw [← ha, Array.toList_map]
    exact repArgs_map _ fun x _ => rep_ev hc.rg x
  obtain ⟨fn, tmps, assign, body, hrun, hR⟩ := hK.give k hh G w x _ hx (hc.now hK) (repArgs_ps hra)
  refine ⟨fun _ _ => trivial, ?_⟩
  rw [Oper.semAt_eq _ _ _ (fun c' e => by cases e)]
  have hex : (execOp a.eval ⟨some t, .call ⟨.value c, args, tys⟩, ty, pos, af, gd⟩).run P w = .ok (.round l fn tmps assign body) w := by
    simp only [execOp, resolve, Sem.run_bind, hyv, Deferred.ofValue, Sem.run_pure, Result.andThen_ok, invoke, Array.empty_append]
    have e : (args.map a.eval).toList.toArray = args.map a.eval := Array.toArray_toList
    rw [← e]; exact hrun
  rw [hex]
  refine ⟨fun e => by simp [Wd] at e, RoundIn.mono hR ?_⟩
  rintro e w' ⟨rfl, h', G', hj, q⟩
  have hC := hc.kj
  obtain ⟨C, hw, hj0, hs, hF, hn, hm⟩ := hC
  have same : ∀ m i, s.own m ≠ none → hblk (r m) = some i → w'.heap[i]? = w.heap[i]? := fun m i hm e => by
    have := hc.notG hK hm e
    exact q.old i this.2.2.1 this.2.1
  have hw' : WOK ⟨w', h', fun i => ∃ m, s.own m ≠ none ∧ hblk (r m) = some i, r, 0, false⟩ h' r s.own w' := by
    refine ⟨fun m b e => ((hw.ow m b e).mono q.hg).world fun i hi => same m i (by rw [e]; simp) hi, hw.inj, hK.hi _ _ _ _ hj, fun m i hm e => ?_, rfl, rfl, .refl _, Nat.le_refl _, fun _ _ _ => rfl, fun m i hm e => .inr ⟨m, hm, e⟩, .refl _, fun _ e => .inl e, hw.gl.mono q.hg, fun _ _ => rfl, fun m b j e hj' => ?_⟩
    · have hg := hc.notG hK hm e
      cases hh' : h' i with
      | none => rfl
      | some o =>
        rcases q.hn i (by rw [hh']; simp) with g | g | g
        · exact absurd hg.2.2.2 g
        · omega
        · exact absurd g hg.2.1
    · obtain ⟨q1, t', e1, e2⟩ := hw.lk m b j e hj'
      exact ⟨q1, t', e1, by rw [same m q1 (by rw [e]; simp) (by rw [e1]; rfl)]; exact e2⟩
  have n1 : n0 ≤ w'.heap.size := Nat.le_trans (Nat.le_trans hs hw.size) q.size
  refine hr h2 h' r _ w' G' ⟨by simp [Act.put, hc.sz], by simpa [Act.put] using hc.df, (show RegsOK h' r s.regs a from fun u => AVRep.mono q.hg _ _ (hc.rg u)).put (dst := some t) (v := .p (.c (.v (.bool true)))) (x := .bool true) (fun d e => by cases e; rw [hc.sz]; exact hN) ⟨rfl, rfl⟩, _, hw', hj, n1, ?_, rfl, rfl⟩
  rintro i ⟨m, hm, e⟩
  have hg := hc.notG hK hm e
  refine ⟨hg.1, fun x => ?_, ?_⟩
  · rcases q.gg i x with g | g
    · exact hg.2.1 g
    · omega
  · exact hw'.ho m i hm e
end rj
end
/-- A function that is ranged over, from its code. -/
theorem iter_of {P : Program} {f : FuncId} {fn : Func} {c : Code} {N : Nat} {caps : List (List DV)} {xs : List (List PV)} (hf : P.funcs[f]? = some fn) (hnm : (fn.name == "runtime.NumGoroutine") = false) (hb : fn.body = some c) (hN : fn.ntmps = N) (hna : caps.length + 1 ≤ N) (hres : fn.results = #[])
    (h : ∀ l n0 J, Keeps P l xs n0 J → AJ P n0 J N c (fun e k _ => (e = .normal ∨ e = .ret) ∧ k = xs.length) 0 ⟨fun t => ((.p (.c (.v (.func (.yield l) #[] #[]))) :: caps.map .ip : List AV)).getD t .junk, O⟩) : Iter P f caps xs := by
  refine ⟨⟨fn, hf, hnm, by rw [hb]; rfl⟩, ?_⟩
  intro l lb J hh G W hcaps hgl hK h0
  refine callsIn_of_wp hf hb trivial ?_
  have hcl : ∀ (cs : List (List DV)) (xs : List Value), CapsRep hh cs xs → xs.length = cs.length := by
    intro cs
    induction cs with
    | nil => intro xs k; cases xs with
      | nil => rfl
      | cons _ _ => exact k.elim
    | cons p ps ih => intro xs k; cases xs with
      | nil => exact k.elim
      | cons x xs => simp [ih xs k.2]
  have hlen : lb.size = caps.length := by simpa using hcl _ _ hcaps
  have hget : ∀ (cs : List (List DV)) (xs : List Value), CapsRep hh cs xs → ∀ (t : Nat) (x : List DV), cs[t]? = some x → ∃ y, xs[t]? = some y ∧ IpRep hh x y := by
    intro cs
    induction cs with
    | nil => intro xs _ t x h; simp at h
    | cons p ps ih => intro xs h t x hx; cases xs with
      | nil => exact h.elim
      | cons y ys => cases t with
        | zero => simp at hx; subst hx; exact ⟨y, rfl, h.1⟩
        | succ t => exact ih ys h.2 t x (by simpa using hx)
  refine wpIn_mono (h l W.heap.size J hK hh (fun _ => .bool false) _ W G ⟨?_, rfl, ?_, (⟨W, hh, fun _ => False, fun _ => .bool false, 0, false⟩ : Ctx), ?_, h0, Nat.le_refl _, fun _ e => e.elim, rfl, rfl⟩) ?_
  · simp [hN, hlen]; omega
  · intro t
    show AVRep hh _ (((.p (.c (.v (.func (.yield l) #[] #[]))) :: caps.map .ip : List AV)).getD t .junk) _
    rw [List.getD_eq_getElem?_getD]
    cases t with
    | zero =>
      simp only [List.getElem?_cons_zero, Option.getD_some]
      have e0 : (#[.func (.yield l) #[] #[]] ++ lb ++ Array.replicate (fn.ntmps - (#[.func (.yield l) #[] #[]] ++ lb : Array Value).size) undef : Array Value).getD 0 undef = .func (.yield l) #[] #[] := by
        rw [Array.getD_eq_getD_getElem?, Array.getElem?_append_left (by simp; omega), Array.getElem?_append_left (by simp)]; rfl
      show AVRep hh _ (.p (.c (.v (.func (.yield l) #[] #[])))) (Array.getD _ 0 undef)
      rw [e0]
      simp only [AVRep, PRep, DRep, true_and]; rfl
    | succ t =>
      rw [List.getElem?_cons_succ, List.getElem?_map]
      cases ht : caps[t]? with
      | none => exact trivial
      | some x =>
        obtain ⟨y, g1, g2⟩ := hget _ _ hcaps t x ht
        have g1' : lb[t]? = some y := by rw [← Array.getElem?_toList]; exact g1
        have hlt : t < lb.size := (Array.getElem?_eq_some_iff.1 g1').1
        simp only [Option.map_some, Option.getD_some, Array.getD_eq_getD_getElem?]
        rw [Array.getElem?_append_left (by simp; omega), Array.getElem?_append_right (by simp)]
        simp only [List.size_toArray, List.length_cons, List.length_nil, Nat.zero_add, Nat.add_sub_cancel, g1', Option.getD_some]
        exact g2
  · exact ⟨fun m b e => (by cases e), fun m n k e => absurd rfl e, hK.hi _ _ _ _ h0, fun m k e => absurd rfl e, rfl, rfl, .refl _, Nat.le_refl _, fun _ _ _ => rfl, fun m k e => absurd rfl e, Hle.refl _, fun k e => Or.inl e, hgl, fun _ _ => rfl, fun m b j e => (by cases e)⟩
  · rintro e a' w' ⟨k', s', h', r', G', ⟨he, rfl⟩, c'⟩
    have hr : (results fn a'.tmps).run P w' = .ok (.tuple #[]) w' := by rw [results_eq, hres]; simp
    have fin : ∀ e', (e' = Exit.normal ∨ e' = Exit.ret) → bodyPost P fn (fun e W' => (∃ v, e = .returned v) ∧ ∃ h' G', J xs.length h' G' W') e' a' w' := by
      rintro e' (rfl | rfl) <;> exact ⟨c'.df, _, hr, ⟨_, rfl⟩, h', G', c'.now hK⟩
    exact fin e he
end Go.AM
end

section
/- The reduced forms of a discriminant as triples of small numbers: the list, and the rounds that make it. -/
namespace Go.AM
open Go Go.RowKit
structure Tr where
  a : Int
  b : Int
  c : Int
  deriving DecidableEq
def okT (n a b : Int) : Bool := decide ((b * b + n) % (4 * a) = 0) && (decide (a ≤ (b * b + n) / (4 * a)) && !(decide (b < 0) && decide (a = (b * b + n) / (4 * a))))
def rowT (n a : Int) : Nat → Int → List Tr
  | 0, _ => []
  | k + 1, b => (if okT n a b then [⟨a, b, (b * b + n) / (4 * a)⟩] else []) ++ rowT n a k (b + 1)
def allT (n : Int) : Nat → Int → List Tr
  | 0, _ => []
  | k + 1, a => if 3 * a * a ≤ n then rowT n a (2 * a).toNat (1 - a) ++ allT n k (a + 1) else []
/-- for n to 2^22: a runs to 1182 at most -/
def trs (n : Int) : List Tr := allT n 2000 1
section
end
end Go.AM
end

section
/- Small numbers: parity, residues, powers of 2, greatest common divisors, the symbol. -/
namespace Go.AM
open Go Go.RowKit
theorem wl_zero_iff {x : Int} : ((wl x.natAbs).length : Int) = 0 ↔ x = 0 := wl_len_zero
theorem wl_get0 {m : Nat} (h : 0 < (wl m).length) : (wl m).getD 0 0 = m % 4294967296 := by
  have hm : 0 < m := by
    rcases Nat.eq_zero_or_pos m with e | e
    · subst e; simp [wl_zero] at h
    · exact e
  rw [wl_pos hm]; rfl
def oddB (x : Int) : Bool := decide (x % 2 = 1)
theorem odd_no {x : Int} (h : ¬ ((wl x.natAbs).length : Int) > 0) : false = oddB x := by
  have h1 : ((wl x.natAbs).length : Int) = 0 := by omega
  have h2 := wl_zero_iff.1 h1
  subst h2; rfl
theorem odd_yes {x : Int} (h : ((wl x.natAbs).length : Int) > 0) : ((((wl x.natAbs).getD 0 0 &&& 1 : Nat) : Int) == 1) = oddB x := by
  rw [wl_get0 (by omega), Nat.and_one_is_mod]
  unfold oddB
  rw [Bool.eq_iff_iff, beq_iff_eq, decide_eq_true_iff]
  omega
theorem low_zero {x m : Int} (h : ((wl x.natAbs).length : Int) = 0) : 0 = x % m := by rw [wl_zero_iff.1 h]; simp
theorem low_get {x m : Int} (hm : m = 4 ∨ m = 8) (h : ¬ ((wl x.natAbs).length : Int) = 0) : ((wl x.natAbs).getD 0 0 : Int) % m = (x.natAbs : Int) % m := by
  rw [wl_get0 (by omega)]
  rcases hm with rfl | rfl <;> omega
theorem low_neg {x m : Int} (hm : m = 4 ∨ m = 8) (h : x < 0) (h2 : (x.natAbs : Int) % m > 0) : m - (x.natAbs : Int) % m = x % m := by
  rcases hm with rfl | rfl <;> omega
theorem low_neg0 {x m : Int} (hm : m = 4 ∨ m = 8) (h : x < 0) (h2 : ¬ (x.natAbs : Int) % m > 0) : (x.natAbs : Int) % m = x % m := by
  rcases hm with rfl | rfl <;> omega
theorem low_pos {x m : Int} (h : ¬ x < 0) : (x.natAbs : Int) % m = x % m := by
  rw [show (x.natAbs : Int) = x by omega]
/-- a number without its factors 2, and how many these are -/
def twG : Nat → Int → Int × Int
  | 0, a => (a, 0)
  | f + 1, a => if oddB a then (a, 0) else ((twG f (a / 2)).1, (twG f (a / 2)).2 + 1)
def tw (a : Int) : Int × Int := twG a.natAbs a
theorem twG_more : ∀ (f : Nat) (a : Int), a ≠ 0 → a.natAbs ≤ f → twG (f + 1) a = twG f a
  | 0, a, h0, h => by omega
  | f + 1, a, h0, h => by
    have e1 : twG (f + 1 + 1) a = if oddB a then (a, 0) else ((twG (f + 1) (a / 2)).1, (twG (f + 1) (a / 2)).2 + 1) := rfl
    have e2 : twG (f + 1) a = if oddB a then (a, 0) else ((twG f (a / 2)).1, (twG f (a / 2)).2 + 1) := rfl
    rw [e1, e2]
    split
    · rfl
    · next hp =>
      have h2 : a % 2 = 0 := by
        have : ¬ a % 2 = 1 := fun e => hp (by unfold oddB; rw [e]; rfl)
        omega
      rw [twG_more f (a / 2) (by omega) (by omega)]
theorem twG_any {f : Nat} {a : Int} (h0 : a ≠ 0) (h : a.natAbs ≤ f) : twG f a = tw a := by
  unfold tw
  induction f with
  | zero => omega
  | succ f ih =>
    rcases Nat.lt_or_ge f a.natAbs with h1 | h1
    · have : a.natAbs = f + 1 := by omega
      rw [this]
    · rw [twG_more f a h0 h1]; exact ih h1
theorem tw_odd {a : Int} (h : oddB a = true) : tw a = (a, 0) := by
  unfold tw
  cases a.natAbs with
  | zero => rfl
  | succ n => rw [twG, if_pos h]
theorem tw_even {a : Int} (h0 : a ≠ 0) (h : oddB a = false) : tw a = ((tw (a / 2)).1, (tw (a / 2)).2 + 1) := by
  have h2 : a % 2 = 0 := by
    have : ¬ a % 2 = 1 := fun e => by unfold oddB at h; rw [e] at h; cases h
    omega
  have h3 : a.natAbs = (a.natAbs - 1) + 1 := by omega
  have h4 : tw a = twG ((a.natAbs - 1) + 1) a := by unfold tw; rw [← h3]
  rw [h4, twG, if_neg (by rw [h]; simp), twG_any (a := a / 2) (f := a.natAbs - 1) (by omega) (by omega)]
/-- a round of 'twos' -/
theorem tw_step {a0 b : Int} {k : Int} (h0 : b ≠ 0) (ho : oddB b = false) (h : tw a0 = ((tw b).1, (tw b).2 + k)) : tw a0 = ((tw (b / 2)).1, (tw (b / 2)).2 + (k + 1)) := by
  rw [h, tw_even h0 ho]
  simp only [Prod.mk.injEq, true_and]
  omega
theorem tw_stop {a0 b : Int} {k : Int} (ho : oddB b = true) (h : tw a0 = ((tw b).1, (tw b).2 + k)) : tw a0 = (b, k) := by
  rw [h, tw_odd ho]; simp
theorem tw_abs : ∀ (n : Nat) (a : Int), a.natAbs ≤ n → a ≠ 0 → (tw a).1.natAbs ≤ a.natAbs ∧ (tw a).1 ≠ 0 ∧ oddB (tw a).1 = true ∧ 0 ≤ (tw a).2 ∧ (tw a).2 ≤ a.natAbs ∧ (0 < a → 0 < (tw a).1)
  | 0, a, h, h0 => by omega
  | n + 1, a, h, h0 => by
    cases ho : oddB a with
    | true => rw [tw_odd ho]; exact ⟨Nat.le_refl _, h0, ho, by simp only; omega, by simp only; omega, fun h => h⟩
    | false =>
      have h2 : a % 2 = 0 := by
        have : ¬ a % 2 = 1 := fun e => by unfold oddB at ho; rw [e] at ho; cases ho
        omega
      obtain ⟨i1, i2, i3, i4, i5, i6⟩ := tw_abs n (a / 2) (by omega) (by omega)
      rw [tw_even h0 ho]
      exact ⟨by simp only; omega, i2, i3, by simp only; omega, by simp only; omega, fun hp => i6 (by omega)⟩
/-- (a/2) by the residue modulo 8 -/
def sg8 (a : Int) : Int := if a % 8 = 1 then 1 else if a % 8 = 3 then -1 else if a % 8 = 5 then -1 else if a % 8 = 7 then 1 else 0
/-- the rounds of the symbol: the sign, the two numbers -/
def krGo : Nat → Int → Int → Int → Int × Int
  | 0, k, _, n => (k, n)
  | f + 1, k, a, n => if 0 < a then
      let k1 := if (tw a).2 % 2 = 1 then k * sg8 n else k
      let k2 := if (tw a).1 % 4 = 3 ∧ n % 4 = 3 then -k1 else k1
      krGo f k2 (n % (tw a).1) (tw a).1
    else (k, n)
/-- the symbol -/
def kr (a n : Int) : Int :=
  if n = 0 then (if (a.natAbs : Int) = 1 then 1 else 0)
  else if oddB a = false ∧ oddB n = false then 0
  else
    let k0 : Int := if n < 0 ∧ a < 0 then -1 else 1
    let n1 : Int := n.natAbs
    let k1 := if (tw n1).2 % 2 = 1 then k0 * sg8 a else k0
    let r := krGo (a % (tw n1).1).natAbs.succ k1 (a % (tw n1).1) (tw n1).1
    if r.2 = 1 then r.1 else 0
end Go.AM
end

section
/- Small numbers, continued: what the loops find. -/
namespace Go.AM
open Go Go.RowKit
/-- whether -n is a discriminant -/
def isD (x : Int) : Bool := decide (0 < x) && (decide (x % 4 = 0) || decide (x % 4 = 3))
section
end
end Go.AM
end

section
/- The symbol: its rounds. -/
namespace Go.AM
open Go Go.RowKit
theorem pow_lt_gen {k n : Nat} {x : Int} (hx : L n x) (h : 2 ^ k ≤ x.natAbs) : k < 2 ^ n := by
  unfold L at hx
  generalize 2 ^ n = e at hx ⊢
  exact (Nat.pow_lt_pow_iff_right (a := 2) (by omega)).1 (Nat.lt_of_le_of_lt h hx)
theorem pow_lt_of {k : Nat} {x : Int} (hx : L 40 x) (h : 2 ^ k ≤ x.natAbs) : k < 1099511627776 := Nat.lt_of_lt_of_eq (pow_lt_gen hx h) (by decide)
structure TwI (x b k : Int) : Prop where
  ne : b ≠ 0
  lb : L 40 b
  tw : tw x = ((AM.tw b).1, (AM.tw b).2 + k)
  k0 : 0 ≤ k
  le : b.natAbs * 2 ^ k.toNat ≤ x.natAbs
theorem TwI.start {x : Int} (hx : L 40 x) (h : x ≠ 0) : TwI x x 0 := ⟨h, hx, by simp, by omega, by simp⟩
theorem TwI.lt {x b k : Int} (hx : L 40 x) (h : TwI x b k) : k < 1099511627776 := by
  have h1 : 1 * 2 ^ k.toNat ≤ b.natAbs * 2 ^ k.toNat := Nat.mul_le_mul_right _ (by have := h.ne; omega)
  have := pow_lt_of (k := k.toNat) hx (by have := h.le; omega)
  have := h.k0
  omega
theorem TwI.next {x b k : Int} (h : TwI x b k) (ho : oddB b = false) : TwI x (b / 2) (k + 1) ∧ (b / 2).natAbs < b.natAbs := by
  have h2 : b % 2 = 0 := by
    have : ¬ b % 2 = 1 := fun e => by unfold oddB at ho; rw [e] at ho; cases ho
    omega
  have hne := h.ne
  have hb : b.natAbs = 2 * (b / 2).natAbs := by omega
  refine ⟨⟨by omega, L.of_le h.lb (by omega), tw_step hne ho h.tw, by have := h.k0; omega, ?_⟩, by omega⟩
  have e : (k + 1).toNat = k.toNat + 1 := by have := h.k0; omega
  have hl := h.le
  rw [hb] at hl
  rw [e, Nat.pow_succ]
  have e2 : (b / 2).natAbs * (2 ^ k.toNat * 2) = 2 * (b / 2).natAbs * 2 ^ k.toNat := by
    rw [Nat.mul_comm (2 ^ k.toNat) 2, ← Nat.mul_assoc, Nat.mul_comm _ 2]
  omega
theorem tw_L {x : Int} (hx : L 40 x) (h0 : x ≠ 0) : LB (tw x).1 40 := ⟨L.of_le hx (tw_abs _ x (Nat.le_refl _) h0).1⟩
theorem tw_c {x : Int} (hx : L 40 x) (h0 : x ≠ 0) : 0 ≤ (tw x).2 ∧ (tw x).2 < 1099511627776 := by
  have key : ∀ (n : Nat) (a : Int), a.natAbs ≤ n → a ≠ 0 → (tw a).1.natAbs * 2 ^ (tw a).2.toNat ≤ a.natAbs := by
    intro n
    induction n with
    | zero => intro a h h0; omega
    | succ n ih =>
      intro a h h0
      cases ho : oddB a with
      | true => rw [tw_odd ho]; simp
      | false =>
        have h2 : a % 2 = 0 := by
          have : ¬ a % 2 = 1 := fun e => by unfold oddB at ho; rw [e] at ho; cases ho
          omega
        have i1 := ih (a / 2) (by omega) (by omega)
        have i2 := (tw_abs _ (a / 2) (Nat.le_refl _) (by omega)).2.2.2.1
        rw [tw_even h0 ho]
        simp only
        have e : ((tw (a / 2)).2 + 1).toNat = (tw (a / 2)).2.toNat + 1 := by omega
        have hb : a.natAbs = 2 * (a / 2).natAbs := by omega
        rw [e, Nat.pow_succ]
        have e2 : (tw (a / 2)).1.natAbs * (2 ^ (tw (a / 2)).2.toNat * 2) = 2 * ((tw (a / 2)).1.natAbs * 2 ^ (tw (a / 2)).2.toNat) := by
          rw [← Nat.mul_assoc, Nat.mul_comm _ 2]
        omega
  have h1 := key _ x (Nat.le_refl _) h0
  have h2 := tw_abs _ x (Nat.le_refl _) h0
  have h3 : 1 * 2 ^ (tw x).2.toNat ≤ (tw x).1.natAbs * 2 ^ (tw x).2.toNat := Nat.mul_le_mul_right _ (by omega)
  have := pow_lt_of (k := (tw x).2.toNat) hx (by omega)
  omega
def sgL : List Value := [.int .i64 0, .int .i64 1, .int .i64 0, .int .i64 (-1), .int .i64 0, .int .i64 (-1), .int .i64 0, .int .i64 1]
theorem sg8_get (x : Int) : ((sgL.drop (x % 8).toNat).map DV.v)[0]? = some (.v (.int .i64 (sg8 x))) := by
  have h1 := Int.emod_nonneg x (show (8 : Int) ≠ 0 by omega)
  have h2 := Int.emod_lt_of_pos x (show (0 : Int) < 8 by omega)
  unfold sg8
  generalize x % 8 = r at *
  have : r = 0 ∨ r = 1 ∨ r = 2 ∨ r = 3 ∨ r = 4 ∨ r = 5 ∨ r = 6 ∨ r = 7 := by omega
  rcases this with rfl | rfl | rfl | rfl | rfl | rfl | rfl | rfl <;> rfl
theorem sg8_b (x : Int) : -1 ≤ sg8 x ∧ sg8 x ≤ 1 := by unfold sg8; repeat' split <;> omega
theorem k_sg {k x : Int} (h : -1 ≤ k ∧ k ≤ 1) : -1 ≤ k * sg8 x ∧ k * sg8 x ≤ 1 := by
  have h2 := sg8_b x
  generalize sg8 x = s at *
  have : k = -1 ∨ k = 0 ∨ k = 1 := by omega
  rcases this with rfl | rfl | rfl <;> omega
/-- a round of the symbol -/
structure KrI (R : Int × Int) (f : Nat) (k a n : Int) : Prop where
  hk : -1 ≤ k ∧ k ≤ 1
  a0 : 0 ≤ a
  n0 : 0 < n
  la : L 40 a
  ln : L 40 n
  hf : a.natAbs < f
  go : krGo f k a n = R
def k1F (k a n : Int) : Int := if (tw a).2 % 2 = 1 then k * sg8 n else k
def k2F (k1 a n : Int) : Int := if (tw a).1 % 4 = 3 ∧ n % 4 = 3 then -k1 else k1
theorem KrI.next {R : Int × Int} {f : Nat} {k a n : Int} (h : KrI R f k a n) (ha : 0 < a) :
    KrI R (f - 1) (k2F (k1F k a n) a n) (n % (tw a).1) (tw a).1 ∧ (n % (tw a).1).natAbs < a.natAbs := by
  have h1 := tw_abs _ a (Nat.le_refl _) (by omega)
  have hp := h1.2.2.2.2.2 ha
  have h3 := Int.emod_nonneg n (show (tw a).1 ≠ 0 by omega)
  have h4 := Int.emod_lt_of_pos n hp
  have hk1 : -1 ≤ k1F k a n ∧ k1F k a n ≤ 1 := by
    unfold k1F; split
    · exact k_sg h.hk
    · exact h.hk
  have hla := h.la
  have hf := h.hf
  refine ⟨⟨?_, h3, hp, L.of_le hla (by omega), L.of_le hla h1.1, by omega, ?_⟩, by omega⟩
  · unfold k2F; split <;> omega
  · have e : f = (f - 1) + 1 := by omega
    have := h.go
    rw [e, krGo, if_pos ha] at this
    exact this
theorem KrI.stop {R : Int × Int} {f : Nat} {k a n : Int} (h : KrI R f k a n) (ha : ¬ 0 < a) : R = (k, n) := by
  have e : f = (f - 1) + 1 := by have := h.hf; omega
  have := h.go
  rw [e, krGo, if_neg ha] at this
  exact this.symm
def k0K (a n : Int) : Int := if n < 0 ∧ a < 0 then -1 else 1
def k1K (a n : Int) : Int := if (tw (n.natAbs : Int)).2 % 2 = 1 then k0K a n * sg8 a else k0K a n
def RK_ (a n : Int) : Int × Int := krGo (a % (tw (n.natAbs : Int)).1).natAbs.succ (k1K a n) (a % (tw (n.natAbs : Int)).1) (tw (n.natAbs : Int)).1
theorem k0K_b (a n : Int) : -1 ≤ k0K a n ∧ k0K a n ≤ 1 := by unfold k0K; split <;> omega
theorem k1K_b (a n : Int) : -1 ≤ k1K a n ∧ k1K a n ≤ 1 := by
  unfold k1K; split
  · exact k_sg (k0K_b a n)
  · exact k0K_b a n
theorem kr_0 {a n : Int} (h : n = 0) (h1 : (a.natAbs : Int) = 1) : 1 = kr a n := by unfold kr; rw [if_pos h, if_pos h1]
theorem kr_00 {a n : Int} (h : n = 0) (h1 : ¬ (a.natAbs : Int) = 1) : 0 = kr a n := by unfold kr; rw [if_pos h, if_neg h1]
theorem kr_even {a n : Int} (h : ¬ n = 0) (h1 : oddB a = false) (h2 : oddB n = false) : 0 = kr a n := by unfold kr; rw [if_neg h, if_pos ⟨h1, h2⟩]
theorem kr_go {a n : Int} (h : ¬ n = 0) (h1 : ¬ (oddB a = false ∧ oddB n = false)) : kr a n = if (RK_ a n).2 = 1 then (RK_ a n).1 else 0 := by unfold kr; rw [if_neg h, if_neg h1]; rfl
theorem KrI.start {a n : Int} (h : ¬ n = 0) (_ha : L 40 a) (hn : L 40 n) : KrI (RK_ a n) (a % (tw (n.natAbs : Int)).1).natAbs.succ (k1K a n) (a % (tw (n.natAbs : Int)).1) (tw (n.natAbs : Int)).1 := by
  have h1 := tw_abs _ (n.natAbs : Int) (Nat.le_refl _) (by omega)
  have hp := h1.2.2.2.2.2 (by omega)
  have h3 := Int.emod_nonneg a (show (tw (n.natAbs : Int)).1 ≠ 0 by omega)
  have h4 := Int.emod_lt_of_pos a hp
  exact ⟨k1K_b a n, h3, hp, L.of_le hn (by omega), L.of_le hn (by omega), Nat.lt_succ_self _, rfl⟩
end Go.AM
end

section
/- The symbol, as its walk asks. -/
namespace Go.AM
open Go Go.RowKit
theorem neg_abs {m : Int} (h : m < 0) : ((m.natAbs : Nat) : Int) = -m := by omega
theorem pos_abs {m : Int} (h : ¬ m < 0) : ((m.natAbs : Nat) : Int) = m := by omega
theorem k1F_b {k a n : Int} (h : -1 ≤ k ∧ k ≤ 1) : -1 ≤ k1F k a n ∧ k1F k a n ≤ 1 := by
  unfold k1F; split
  · exact k_sg h
  · exact h
end Go.AM
end

section
/- Lists of forms, class numbers, sums, as far as the rounds have come. -/
namespace Go.AM
open Go Go.RowKit
def EndsA (fn : Func) (res : AV) (e : Exit) (s : St) : Prop := (e = .normal ∨ e = .ret) ∧ ∃ t, fn.results = #[.tmp t] ∧ s.regs t = res
theorem callA_of {P : Program} {f : FuncId} {fn : Func} {c : Code} {N : Nat} {args : List AV} {res : AV} (hf : P.funcs[f]? = some fn) (hnm : (fn.name == "runtime.NumGoroutine") = false) (hb : fn.body = some c) (hN : fn.ntmps = N) (hna : args.length ≤ N)
    (hres : men res = []) (h : AWp P false N 0 c (EndsA fn res) ⟨fun t => args.getD t .junk, O⟩) : Call0 P f args res := by
  refine ⟨⟨fn, hf, hnm, by rw [hb]; rfl⟩, ?_⟩
  intro hh r w cargs hra hbf
  have hlen : cargs.size = args.length := by
    have : ∀ (as : List AV) (xs : List Value), RepArgs hh r as xs → xs.length = as.length := by
      intro as
      induction as with
      | nil => intro xs h; cases xs with
        | nil => rfl
        | cons _ _ => exact h.elim
      | cons p ps ih => intro xs h; cases xs with
        | nil => exact h.elim
        | cons x xs => simp [ih xs h.2]
    simpa using this _ _ hra
  have hget : ∀ (as : List AV) (xs : List Value), RepArgs hh r as xs → ∀ (t : Nat) (x : AV), as[t]? = some x → ∃ y, xs[t]? = some y ∧ AVRep hh r x y := by
    intro as
    induction as with
    | nil => intro xs _ t x h; simp at h
    | cons p ps ih => intro xs h t x hx; cases xs with
      | nil => exact h.elim
      | cons y ys => cases t with
        | zero => simp at hx; subst hx; exact ⟨y, rfl, h.1⟩
        | succ t => exact ih ys h.2 t x (by simpa using hx)
  refine callsW' (n := 0) (callsIn_of_wp_marks hf hb trivial ?_)
  let C : Ctx := ⟨w, hh, fun _ => False, r, 0, true⟩
  refine wpIn_mono (h none (fun _ => rfl) C hh r _ w ⟨rfl, rfl⟩ ⟨?_, trivial, ?_, ⟨hbf.ow, hbf.inj, hbf.hi, hbf.ho, rfl, rfl, .refl _, Nat.le_refl _, fun _ _ _ => rfl, fun m k hm => absurd rfl hm, .refl _, fun k hk => .inl hk, hbf.gl, fun _ _ => rfl, fun m b j hb => by cases hb⟩⟩) ?_
  · simp [hN]; omega
  · intro t
    show AVRep hh r (args.getD t .junk) _
    rw [List.getD_eq_getElem?_getD]
    cases ht : args[t]? with
    | none => exact trivial
    | some x =>
      obtain ⟨y, h1, h2⟩ := hget _ _ hra t x ht
      have h1' : cargs[t]? = some y := by rw [← Array.getElem?_toList]; exact h1
      have hlt : t < cargs.size := (Array.getElem?_eq_some_iff.1 h1').1
      simp only [Array.getD_eq_getD_getElem?, Array.getElem?_append_left hlt, h1', Option.getD_some]
      exact h2
  · rintro e a' w' ⟨s', h', r', ⟨he, t, hrs, hreg⟩, hc⟩
    have fin : LeavesInM (Wd none) 0 P fn a'.tmps (fun e w' => ∃ v h', e = .returned v ∧ AVRep h' r res v ∧ After hh r O w h' O w') a'.defers .returning w' := by
      refine leave_marks hc ?_
      intro h' w' hc
      have hx := hc.rg t
      rw [hreg] at hx
      have hv1 : (results fn a'.tmps).run P w' = .ok (a'.tmps.getD t undef) w' := by
        rw [results_eq, hrs]
        simp [resOne]
      have hk := hc.wk
      refine ⟨_, hv1, _, h', rfl, AVRep.rebind _ _ (fun m hm => by rw [hres] at hm; simp at hm) hx, ?_⟩
      refine ⟨fun m b e => (by cases e), fun m hm => absurd rfl hm, hk.hi, fun m k hm => absurd rfl hm, hk.os, hk.tape, hk.output, hk.size, fun k h1 _ => hk.old k h1 (fun x => x), hk.hg, fun k e => ?_⟩
      rcases hk.hn k e with g | g | g
      · exact .inl g
      · exact .inr (.inl g)
      · exact g.elim
    rcases he with rfl | rfl <;> exact fin
def Tr.fm (t : Tr) : Fm := ⟨t.a, t.b, t.c⟩
def LW (n : Int) (p : Fm → Bool) : List Fm := ((trs n).map Tr.fm).filter p
def prT (t : Tr) : Bool := decide (Int.gcd (Int.gcd t.a t.b : Nat) t.c = 1)
def cls (n : Int) : Int := ((trs n).filter prT).length
def sumI : List Int → Int
  | [] => 0
  | x :: l => x + sumI l
theorem sumI_snoc (l : List Int) (x : Int) : sumI (l ++ [x]) = sumI l + x := by
  induction l with
  | nil => simp [sumI]
  | cons y l ih => simp only [List.cons_append, sumI, ih]; omega
def szE (d : Int) : Int := if 0 ≤ d ∨ d % 4 > 1 then 5 else if -d > 4194304 then 2 else 0
def szN (d : Int) : Int := if szE d = 0 then -d else 0
theorem szE_0 {d : Int} (h : szE d = 0) : szN d = -d ∧ 0 < -d ∧ -d ≤ 4194304 ∧ d % 4 ≤ 1 := by
  have e : szN d = -d := by unfold szN; rw [if_pos h]
  unfold szE at h
  split at h
  · cases h
  · split at h
    · cases h
    · exact ⟨e, by omega, by omega, by omega⟩
end Go.AM
end

section
/- Class numbers, Hurwitz class numbers, conductors, as their walks ask. -/
namespace Go.AM
open Go Go.RowKit
section
end
theorem GW.forget_as {np' : Nat} {s o o' : Own} (h : o = o') (h2 : ∀ m, o m = s m ∨ o m = none) : GW np' s o' := GW.forget (by subst h; exact h2)
end Go.AM
end

section
/- The ratio of class numbers, plainly. -/
namespace Go.AM
open Go Go.RowKit
/-- a number without a divisor -/
def dvGo (p : Int) : Nat → Int → Int
  | 0, l => l
  | k + 1, l => if l % p = 0 then dvGo p k (l / p) else l
def dv (p l : Int) : Int := dvGo p l.toNat l
end Go.AM
end

section
/- Lists of forms asked; numbers read low. -/
namespace Go.AM
open Go Go.RowKit
/-- a number read low -/
def lwO (a : Int) : Bool := decide (-9223372036854775808 ≤ a ∧ a < 9223372036854775808)
def lwV (a : Int) : Int := if lwO a = true then a else 0
def v0 (n : Nat) : Nat := wd (wl n) 0 + 4294967296 * wd (wl n) 1
theorem lw_no {a : Int} (h : a < -9223372036854775808 ∨ 9223372036854775808 ≤ a) : AV.t [.c (.v (.int .i64 0)), .c (.v (.bool false))] = AV.t [.c (.v (.int .i64 (lwV a))), .c (.v (.bool (lwO a)))] := by
  have e : lwO a = false := by unfold lwO; rw [decide_eq_false_iff_not]; omega
  unfold lwV; rw [e]; rfl
end Go.AM
end

section
/- The examples; Hurwitz numbers, plainly. -/
namespace Go.AM
open Go Go.RowKit
end Go.AM
end

section
/- Reduced forms by their contents. -/
namespace Go.AM
open Go Go.RowKit
/-- whether m is asked -/
def asks (n m : Int) : Bool := decide (n % (m * m) = 0) && isD (n / (m * m))
theorem sumI_perm {l m : List Int} (h : l.Perm m) : sumI l = sumI m := by
  induction h with
  | nil => rfl
  | cons x _ ih => simp only [sumI, ih]
  | swap x y l => simp only [sumI]; omega
  | trans _ _ h1 h2 => exact h1.trans h2
/-- sums over 1 .. k -/
def bigS (f : Nat → Int) : Nat → Int
  | 0 => 0
  | k + 1 => bigS f k + f (k + 1)
end Go.AM
end

section
/- The sums over the quotients by squares. -/
namespace Go.AM
open Go Go.RowKit
def wN (n : Int) : Int := if n = 3 then 4 else if n = 4 then 6 else 12
/-- a term of the law -/
def hTm (n m : Int) : Int := if asks n m = true then wN (n / (m * m)) * cls (n / (m * m)) else 0
def hS (n m : Int) : Int := bigS (fun i => hTm n (i : Int)) (m - 1).toNat
end Go.AM
end

section
/- Contents, plainly. -/
namespace Go.AM
open Go Go.RowKit
def prG (f : Fm) : Bool := prim f.a f.b f.c
theorem getD_mem {l : List Fm} {k : Nat} (h : (k : Int) < l.length) : l.getD k ⟨0, 0, 0⟩ ∈ l := by
  rw [List.getD_eq_getElem?_getD, List.getElem?_eq_getElem (by omega), Option.getD_some]
  exact List.getElem_mem _
def cTm (n m : Int) : Int := if asks n m = true then ((LW (n / (m * m)) prG).length : Nat) else 0
def cS (n m : Int) : Int := bigS (fun i => cTm n (i : Int)) (m - 1).toNat
end Go.AM
end

section
/- Conductors, plainly. -/
namespace Go.AM
open Go Go.RowKit
section
end
end Go.AM
end

section
/- Numbers of any size: read low, refused. -/
namespace Go.AM
open Go Go.RowKit
theorem lwO_yes {a : Int} (h : -9223372036854775808 ≤ a ∧ a < 9223372036854775808) : lwO a = true ∧ lwV a = a := by
  have e : lwO a = true := by unfold lwO; rw [decide_eq_true_iff]; exact h
  exact ⟨e, by unfold lwV; rw [if_pos e]⟩
theorem lwO_iff {a : Int} : lwO a = true ↔ -9223372036854775808 ≤ a ∧ a < 9223372036854775808 := by unfold lwO; rw [decide_eq_true_iff]
theorem lwO_f {a : Int} (h : lwO a = false) : ¬ (-9223372036854775808 ≤ a ∧ a < 9223372036854775808) := by unfold lwO at h; rwa [decide_eq_false_iff_not] at h
end Go.AM
end

section
/- The lists of reduced forms: sorted, reduced, complete. -/
namespace Go.AM
open Go Go.RowKit
end Go.AM
end

section
/- For the walks over lists: sorted neighbours, filtered beginnings, multiples. -/
namespace Go.AM
open Go Go.RowKit
end Go.AM
end

section
/- Lattices in a quadratic order, by their generators; forms as lattices. -/
namespace Go.AM
open Go Go.RowKit
/-- x + y w, with w^2 = s w + d -/
structure El where
  x : Int
  y : Int
namespace El
def add (u v : El) : El := ⟨u.x + v.x, u.y + v.y⟩
def sm (k : Int) (u : El) : El := ⟨k * u.x, k * u.y⟩
def mul (s d : Int) (u v : El) : El := ⟨u.x * v.x + d * (u.y * v.y), u.x * v.y + u.y * v.x + s * (u.y * v.y)⟩
def cj (s : Int) (u : El) : El := ⟨u.x + s * u.y, -u.y⟩
def nm (s d : Int) (u : El) : Int := u.x * u.x + s * (u.x * u.y) - d * (u.y * u.y)
def dt (u v : El) : Int := u.x * v.y - u.y * v.x
theorem ext2 {u v : El} (h : u.x = v.x) (h1 : u.y = v.y) : u = v := by cases u; cases v; simp only at h h1; subst h h1; rfl
end El
/-- the sums of multiples of generators -/
def InS : List El → El → Prop
  | [], z => z = ⟨0, 0⟩
  | g :: l, z => ∃ k w, InS l w ∧ z = (El.sm k g).add w
theorem InS.zero : ∀ l, InS l ⟨0, 0⟩
  | [] => rfl
  | g :: l => ⟨0, _, InS.zero l, by unfold El.add El.sm; simp⟩
theorem InS.add : ∀ {l : List El} {u v : El}, InS l u → InS l v → InS l (u.add v)
  | [], u, v, h, h1 => by
    have h : u = ⟨0, 0⟩ := h
    have h1 : v = ⟨0, 0⟩ := h1
    subst h h1; rfl
  | g :: l, u, v, ⟨k, w, h, e⟩, ⟨k1, w1, h1, e1⟩ => by
    refine ⟨k + k1, w.add w1, h.add h1, ?_⟩
    subst e e1
    unfold El.add El.sm
    exact El.ext2 (by simp only; grind) (by simp only; grind)
theorem InS.sm (c : Int) : ∀ {l : List El} {u : El}, InS l u → InS l (El.sm c u)
  | [], u, h => by
    have h : u = ⟨0, 0⟩ := h
    subst h; unfold El.sm; simp [InS]
  | g :: l, u, ⟨k, w, h, e⟩ => by
    refine ⟨c * k, El.sm c w, h.sm c, ?_⟩
    subst e
    unfold El.add El.sm
    exact El.ext2 (by simp only; grind) (by simp only; grind)
theorem InS.gen : ∀ {l : List El} {g : El}, g ∈ l → InS l g
  | a :: l, g, h => by
    rcases List.mem_cons.1 h with rfl | h
    · exact ⟨1, ⟨0, 0⟩, InS.zero l, by unfold El.add El.sm; exact El.ext2 (by simp) (by simp)⟩
    · exact ⟨0, g, InS.gen h, by unfold El.add El.sm; exact El.ext2 (by simp) (by simp)⟩
theorem InS.of_gens : ∀ {l m : List El}, (∀ g ∈ l, InS m g) → ∀ {z : El}, InS l z → InS m z
  | [], m, _, z, h => by
    have h : z = ⟨0, 0⟩ := h
    subst h; exact InS.zero m
  | g :: l, m, hg, z, ⟨k, w, h, e⟩ => by
    subst e
    exact ((hg g List.mem_cons_self).sm k).add (InS.of_gens (fun x hx => hg x (List.mem_cons_of_mem _ hx)) h)
def Eqv (l m : List El) : Prop := ∀ z, InS l z ↔ InS m z
theorem Eqv.refl (l : List El) : Eqv l l := fun _ => Iff.rfl
theorem Eqv.symm {l m : List El} (h : Eqv l m) : Eqv m l := fun z => (h z).symm
theorem Eqv.trans {l m k : List El} (h : Eqv l m) (h1 : Eqv m k) : Eqv l k := fun z => (h z).trans (h1 z)
theorem Eqv.of {l m : List El} (h : ∀ g ∈ l, InS m g) (h1 : ∀ g ∈ m, InS l g) : Eqv l m := fun _ => ⟨InS.of_gens h, InS.of_gens h1⟩
section
variable {s d : Int}
theorem El.mul_comm (u v : El) : u.mul s d v = v.mul s d u := by
  unfold El.mul; exact El.ext2 (by simp only; grind) (by simp only; grind)
theorem El.mul_assoc (u v w : El) : (u.mul s d v).mul s d w = u.mul s d (v.mul s d w) := by
  unfold El.mul; exact El.ext2 (by simp only; grind) (by simp only; grind)
theorem El.mul_add (u v w : El) : u.mul s d (v.add w) = (u.mul s d v).add (u.mul s d w) := by
  unfold El.mul El.add; exact El.ext2 (by simp only; grind) (by simp only; grind)
theorem El.mul_sm (u v : El) (k : Int) : u.mul s d (v.sm k) = (u.mul s d v).sm k := by
  unfold El.mul El.sm; exact El.ext2 (by simp only; grind) (by simp only; grind)
theorem El.mul_zero (u : El) : u.mul s d ⟨0, 0⟩ = ⟨0, 0⟩ := by unfold El.mul; simp
theorem El.nm_mul (u v : El) : (u.mul s d v).nm s d = u.nm s d * v.nm s d := by unfold El.mul El.nm; grind
theorem El.dt_mul (e u v : El) : (e.mul s d u).dt (e.mul s d v) = e.nm s d * u.dt v := by unfold El.mul El.nm El.dt; grind
/-- the products of generators -/
def prd (s d : Int) (l m : List El) : List El := l.flatMap fun u => m.map fun v => u.mul s d v
theorem mem_prd {l m : List El} {z : El} : z ∈ prd s d l m ↔ ∃ u ∈ l, ∃ v ∈ m, z = u.mul s d v := by
  unfold prd
  rw [List.mem_flatMap]
  constructor
  · rintro ⟨u, hu, hz⟩
    obtain ⟨v, hv, rfl⟩ := List.mem_map.1 hz
    exact ⟨u, hu, v, hv, rfl⟩
  · rintro ⟨u, hu, v, hv, rfl⟩
    exact ⟨u, hu, List.mem_map.2 ⟨v, hv, rfl⟩⟩
theorem InS.mul_l {k : List El} (u : El) : ∀ {m : List El} {v : El}, InS m v → (∀ g ∈ m, InS k (u.mul s d g)) → InS k (u.mul s d v)
  | [], v, h, _ => by
    have h : v = ⟨0, 0⟩ := h
    subst h; rw [El.mul_zero]; exact InS.zero k
  | g :: m, v, ⟨c, w, h, e⟩, hg => by
    subst e
    rw [El.mul_add, El.mul_sm]
    exact ((hg g List.mem_cons_self).sm c).add (InS.mul_l u h (fun x hx => hg x (List.mem_cons_of_mem _ hx)))
theorem InS.mul {l m : List El} {u v : El} (h : InS l u) (h1 : InS m v) : InS (prd s d l m) (u.mul s d v) := by
  refine InS.mul_l u h1 (fun g hg => ?_)
  rw [El.mul_comm]
  refine InS.mul_l g h (fun x hx => ?_)
  rw [El.mul_comm]
  exact InS.gen (mem_prd.2 ⟨x, hx, g, hg, rfl⟩)
theorem prd_sub {l m k n : List El} (h : ∀ z, InS l z → InS k z) (h1 : ∀ z, InS m z → InS n z) : ∀ g ∈ prd s d l m, InS (prd s d k n) g := by
  intro g hg
  obtain ⟨u, hu, v, hv, rfl⟩ := mem_prd.1 hg
  exact (h _ (InS.gen hu)).mul (h1 _ (InS.gen hv))
theorem Eqv.prd {l m k n : List El} (h : Eqv l k) (h1 : Eqv m n) : Eqv (prd s d l m) (prd s d k n) :=
  Eqv.of (prd_sub (fun z => (h z).1) (fun z => (h1 z).1)) (prd_sub (fun z => (h z).2) (fun z => (h1 z).2))
theorem prd_comm (l m : List El) : Eqv (prd s d l m) (prd s d m l) := by
  have key : ∀ l m : List El, ∀ g ∈ AM.prd s d l m, InS (AM.prd s d m l) g := fun l m g hg => by
    obtain ⟨u, hu, v, hv, rfl⟩ := mem_prd.1 hg
    rw [El.mul_comm]
    exact (InS.gen hv).mul (InS.gen hu)
  exact Eqv.of (key l m) (key m l)
theorem prd_assoc (l m k : List El) : Eqv (prd s d (prd s d l m) k) (prd s d l (prd s d m k)) := by
  refine Eqv.of (fun g hg => ?_) (fun g hg => ?_)
  · obtain ⟨x, hx, w, hw, rfl⟩ := mem_prd.1 hg
    obtain ⟨u, hu, v, hv, rfl⟩ := mem_prd.1 hx
    rw [El.mul_assoc]
    exact (InS.gen hu).mul ((InS.gen hv).mul (InS.gen hw))
  · obtain ⟨u, hu, x, hx, rfl⟩ := mem_prd.1 hg
    obtain ⟨v, hv, w, hw, rfl⟩ := mem_prd.1 hx
    rw [← El.mul_assoc]
    exact ((InS.gen hu).mul (InS.gen hv)).mul (InS.gen hw)
theorem prd_one (u v : El) : Eqv (prd s d [u] [v]) [u.mul s d v] := by
  refine Eqv.of (fun g hg => ?_) (fun g hg => ?_)
  · obtain ⟨x, hx, w, hw, rfl⟩ := mem_prd.1 hg
    rw [List.mem_singleton] at hx hw
    subst hx hw
    exact InS.gen (List.mem_singleton.2 rfl)
  · rw [List.mem_singleton] at hg
    subst hg
    exact (InS.gen (List.mem_singleton.2 rfl)).mul (InS.gen (List.mem_singleton.2 rfl))
/-- a lattice with two generators -/
theorem in2 {u v z : El} : InS [u, v] z ↔ ∃ p q : Int, z = (El.sm p u).add (El.sm q v) := by
  constructor
  · rintro ⟨p, w, ⟨q, w2, h, rfl⟩, rfl⟩
    have h : w2 = ⟨0, 0⟩ := h
    subst h
    exact ⟨p, q, by unfold El.add El.sm; simp⟩
  · rintro ⟨p, q, rfl⟩
    exact ((InS.gen (by simp)).sm p).add ((InS.gen (by simp)).sm q)
/-- the lattice of the form (a, 2 k + s, c) -/
def LaF (a k : Int) : List El := [⟨a, 0⟩, ⟨k, 1⟩]
theorem inLaF {a k : Int} {z : El} : InS (LaF a k) z ↔ a ∣ z.x - k * z.y := by
  unfold LaF
  rw [in2]
  constructor
  · rintro ⟨p, q, rfl⟩
    unfold El.add El.sm
    exact ⟨p, by simp only; grind⟩
  · rintro ⟨p, hp⟩
    exact ⟨p, z.y, by unfold El.add El.sm; exact El.ext2 (by simp only; grind) (by simp only; grind)⟩
/-- scaled -/
theorem in_sc {e : El} {l : List El} {z : El} (h : InS l z) : InS (prd s d [e] l) (e.mul s d z) := (InS.gen (List.mem_singleton.2 rfl)).mul h
/-- the data of a form: a c = k^2 + s k - d -/
structure FK (s d : Int) (f : Fm) (k : Int) : Prop where
  b : f.b = 2 * k + s
  n : f.a * f.c = k * k + s * k - d
theorem FK.disc {f : Fm} {k : Int} (h : FK s d f k) : dsc f.a f.b f.c = s * s + 4 * d := by
  unfold dsc
  rw [h.b, Int.mul_assoc, h.n]; grind
theorem FK.of {f : Fm} (h : dsc f.a f.b f.c = s * s + 4 * d) (hs : (f.b - s) % 2 = 0) : FK s d f ((f.b - s) / 2) := by
  have e : f.b = 2 * ((f.b - s) / 2) + s := by omega
  generalize (f.b - s) / 2 = k at e
  refine ⟨e, ?_⟩
  unfold dsc at h
  rw [e, Int.mul_assoc] at h
  generalize f.a * f.c = t at *
  grind
theorem FK.nm {f : Fm} {k : Int} (h : FK s d f k) (x y : Int) : El.nm s d ((El.sm x ⟨f.a, 0⟩).add (El.sm y ⟨k, 1⟩)) = f.a * vl f.a f.b f.c x y := by
  have hn := h.n
  unfold El.nm El.add El.sm vl
  rw [h.b]
  simp only
  grind
end
end Go.AM
end

section
/- Composition of forms by lattices. -/
namespace Go.AM
open Go Go.RowKit
section
variable {s d : Int}
/-- one lattice, two bases of forms: equivalent forms -/
theorem eqv_equiv {f g : Fm} {k j : Int} {l m : El} (hf : FK s d f k) (hg : FK s d g j) (pf : f.pos) (pg : g.pos) (h : Eqv (prd s d [l] (LaF f.a k)) (prd s d [m] (LaF g.a j)))
    (hl : 0 < l.nm s d) (hm : 0 < m.nm s d) : ∃ M : Mt, M.det = 1 ∧ f.app M = g := by
  have e1 : prd s d [l] (LaF f.a k) = [l.mul s d ⟨f.a, 0⟩, l.mul s d ⟨k, 1⟩] := rfl
  have e2 : prd s d [m] (LaF g.a j) = [m.mul s d ⟨g.a, 0⟩, m.mul s d ⟨j, 1⟩] := rfl
  rw [e1, e2] at h
  obtain ⟨p, r, h1⟩ := in2.1 ((h _).2 (InS.gen (List.mem_cons_self)))
  obtain ⟨q, t, h2⟩ := in2.1 ((h (m.mul s d ⟨j, 1⟩)).2 (InS.gen (by simp)))
  obtain ⟨p', r', h3⟩ := in2.1 ((h _).1 (InS.gen (List.mem_cons_self)))
  obtain ⟨q', t', h4⟩ := in2.1 ((h (l.mul s d ⟨k, 1⟩)).1 (InS.gen (by simp)))
  have d1 := El.dt_mul (s := s) (d := d) l ⟨f.a, 0⟩ ⟨k, 1⟩
  have d2 := El.dt_mul (s := s) (d := d) m ⟨g.a, 0⟩ ⟨j, 1⟩
  have f1 : El.dt ⟨f.a, 0⟩ ⟨k, 1⟩ = f.a := by unfold El.dt; simp
  have f2 : El.dt ⟨g.a, 0⟩ ⟨j, 1⟩ = g.a := by unfold El.dt; simp
  rw [f1] at d1; rw [f2] at d2
  have lin : ∀ (u v : El) (p r q t : Int), El.dt ((El.sm p u).add (El.sm r v)) ((El.sm q u).add (El.sm t v)) = (p * t - q * r) * u.dt v := by
    intro u v p r q t; unfold El.dt El.add El.sm; simp only; grind
  have d3 := lin (l.mul s d ⟨f.a, 0⟩) (l.mul s d ⟨k, 1⟩) p r q t
  rw [← h1, ← h2, d1, d2] at d3
  have d4 := lin (m.mul s d ⟨g.a, 0⟩) (m.mul s d ⟨j, 1⟩) p' r' q' t'
  rw [← h3, ← h4, d1, d2] at d4
  have pA : 0 < l.nm s d * f.a := Int.mul_pos hl pf.1
  have pB : 0 < m.nm s d * g.a := Int.mul_pos hm pg.1
  have hdet : p * t - q * r = 1 := by
    generalize l.nm s d * f.a = A at *
    generalize m.nm s d * g.a = B at *
    generalize p * t - q * r = x at *
    generalize p' * t' - q' * r' = y at *
    have hx : 0 < x := by
      rcases Int.lt_or_le 0 x with h | h
      · exact h
      · have := Int.mul_nonpos_of_nonpos_of_nonneg h (show 0 ≤ A by omega); omega
    have hy : 0 < y := by
      rcases Int.lt_or_le 0 y with h | h
      · exact h
      · have := Int.mul_nonpos_of_nonpos_of_nonneg h (show 0 ≤ B by omega); omega
    have l1 : 1 * A ≤ x * A := Int.mul_le_mul_of_nonneg_right hx (by omega)
    have l2 : 1 * B ≤ y * B := Int.mul_le_mul_of_nonneg_right hy (by omega)
    have hAB : A = B := by omega
    subst hAB
    have : x * A = 1 * A := by omega
    exact Int.eq_of_mul_eq_mul_right (by omega) this
  rw [hdet, Int.one_mul] at d3
  refine ⟨⟨p, q, r, t⟩, by unfold Mt.det; simp only; exact hdet, ?_⟩
  have key : ∀ x y : Int, g.val x y = f.val (p * x + q * y) (r * x + t * y) := by
    intro x y
    have n1 := El.nm_mul (s := s) (d := d) l ((El.sm (p * x + q * y) ⟨f.a, 0⟩).add (El.sm (r * x + t * y) ⟨k, 1⟩))
    have n2 := El.nm_mul (s := s) (d := d) m ((El.sm x ⟨g.a, 0⟩).add (El.sm y ⟨j, 1⟩))
    rw [hf.nm] at n1; rw [hg.nm] at n2
    have e3 : m.mul s d ((El.sm x ⟨g.a, 0⟩).add (El.sm y ⟨j, 1⟩)) = l.mul s d ((El.sm (p * x + q * y) ⟨f.a, 0⟩).add (El.sm (r * x + t * y) ⟨k, 1⟩)) := by
      rw [El.mul_add, El.mul_sm, El.mul_sm, h1, h2, El.mul_add, El.mul_sm, El.mul_sm]
      generalize l.mul s d ⟨f.a, 0⟩ = u
      generalize l.mul s d ⟨k, 1⟩ = v
      unfold El.add El.sm
      exact El.ext2 (by simp only; grind) (by simp only; grind)
    rw [e3, n1] at n2
    rw [← Int.mul_assoc, ← Int.mul_assoc, d3] at n2
    exact (Int.eq_of_mul_eq_mul_left (by omega) n2).symm
  have k1 := key 1 0
  have k2 := key 0 1
  have k3 := key 1 1
  unfold Fm.val vl at k1 k2 k3
  unfold Fm.app vl apB
  refine Fm.ext ?_ ?_ ?_
  · simp only; grind
  · simp only; grind
  · simp only; grind
/-- equivalent forms have proportional lattices -/
theorem equiv_eqv {f : Fm} {k j : Int} {M : Mt} (hf : FK s d f k) (hM : M.det = 1) (hg : FK s d (f.app M) j) :
    Eqv (prd s d [⟨f.a, 0⟩] (LaF (f.app M).a j)) (prd s d [El.cj s ((El.sm M.a ⟨f.a, 0⟩).add (El.sm M.c ⟨k, 1⟩))] (LaF f.a k)) := by
  obtain ⟨p, q, r, t⟩ := M
  have hd : p * t - q * r = 1 := hM
  have eb := hg.b
  have ea : (f.app ⟨p, q, r, t⟩).a = f.a * p * p + f.b * p * r + f.c * r * r := rfl
  have eb' : (f.app ⟨p, q, r, t⟩).b = 2 * (f.a * p * q + f.c * r * t) + f.b * (p * t + q * r) := rfl
  rw [eb'] at eb
  rw [ea]
  have hb := hf.b
  have hn := hf.n
  have ej : j = k + f.a * p * q + f.b * q * r + f.c * r * t := by
    have : 2 * j = 2 * (k + f.a * p * q + f.b * q * r + f.c * r * t) := by grind
    omega
  obtain ⟨a, b, c⟩ := f
  simp only at *
  subst hb
  have c1 : (⟨a, 0⟩ : El).mul s d ⟨a * p * p + (2 * k + s) * p * r + c * r * r, 0⟩ = (El.cj s ((El.sm p ⟨a, 0⟩).add (El.sm r ⟨k, 1⟩))).mul s d ((El.sm p ⟨a, 0⟩).add (El.sm r ⟨k, 1⟩)) := by
    unfold El.mul El.cj El.add El.sm
    exact El.ext2 (by simp only; grind) (by simp only; grind)
  have c2 : (⟨a, 0⟩ : El).mul s d ⟨j, 1⟩ = (El.cj s ((El.sm p ⟨a, 0⟩).add (El.sm r ⟨k, 1⟩))).mul s d ((El.sm q ⟨a, 0⟩).add (El.sm t ⟨k, 1⟩)) := by
    subst ej
    unfold El.mul El.cj El.add El.sm
    exact El.ext2 (by simp only; grind) (by simp only; grind)
  generalize hu : El.cj s ((El.sm p ⟨a, 0⟩).add (El.sm r ⟨k, 1⟩)) = u at *
  refine Eqv.of (fun g hg => ?_) (fun g hg => ?_)
  · obtain ⟨x, hx, v, hv, rfl⟩ := mem_prd.1 hg
    rw [List.mem_singleton] at hx
    subst hx
    unfold LaF at hv
    simp only [List.mem_cons, List.not_mem_nil, or_false] at hv
    rcases hv with rfl | rfl
    · rw [c1]; exact in_sc (in2.2 ⟨_, _, rfl⟩)
    · rw [c2]; exact in_sc (in2.2 ⟨_, _, rfl⟩)
  · obtain ⟨x, hx, v, hv, rfl⟩ := mem_prd.1 hg
    rw [List.mem_singleton] at hx
    subst hx
    unfold LaF at hv
    simp only [List.mem_cons, List.not_mem_nil, or_false] at hv
    rcases hv with rfl | rfl
    · have e : x.mul s d ⟨a, 0⟩ = (El.sm t ((⟨a, 0⟩ : El).mul s d ⟨a * p * p + (2 * k + s) * p * r + c * r * r, 0⟩)).add (El.sm (-r) ((⟨a, 0⟩ : El).mul s d ⟨j, 1⟩)) := by
        rw [c1, c2, ← El.mul_sm, ← El.mul_sm, ← El.mul_add]
        congr 1
        unfold El.add El.sm
        exact El.ext2 (by simp only; grind) (by simp only; grind)
      rw [e]
      exact ((in_sc (InS.gen (by unfold LaF; simp))).sm t).add ((in_sc (InS.gen (by unfold LaF; simp))).sm (-r))
    · have e : x.mul s d ⟨k, 1⟩ = (El.sm (-q) ((⟨a, 0⟩ : El).mul s d ⟨a * p * p + (2 * k + s) * p * r + c * r * r, 0⟩)).add (El.sm p ((⟨a, 0⟩ : El).mul s d ⟨j, 1⟩)) := by
        rw [c1, c2, ← El.mul_sm, ← El.mul_sm, ← El.mul_add]
        congr 1
        unfold El.add El.sm
        exact El.ext2 (by simp only; grind) (by simp only; grind)
      rw [e]
      exact ((in_sc (InS.gen (by unfold LaF; simp))).sm (-q)).add ((in_sc (InS.gen (by unfold LaF; simp))).sm p)
end
end Go.AM
end

section
/- Composition of classes: unique, commutative, associative; it exists. -/
namespace Go.AM
open Go Go.RowKit
def kk (s : Int) (f : Fm) : Int := (f.b - s) / 2
def lat (s : Int) (f : Fm) : List El := LaF f.a (kk s f)
def Fo (s d : Int) (f : Fm) : Prop := FK s d f (kk s f)
/-- h is a composition of f and g -/
def Cm (s d : Int) (f g h : Fm) : Prop := ∃ e : Int, 0 < e ∧ f.a * g.a = e * e * h.a ∧ Eqv (prd s d (lat s f) (lat s g)) (prd s d [⟨e, 0⟩] (lat s h))
section
variable {s d : Int}
theorem FK.kk {f : Fm} {k : Int} (h : FK s d f k) : kk s f = k := by have := h.b; unfold AM.kk; omega
theorem Fo.app {f : Fm} {M : Mt} (h : Fo s d f) (hM : M.det = 1) : Fo s d (f.app M) := by
  refine FK.of ?_ ?_
  · have : (f.app M).disc = f.disc := disc_T hM
    exact this.trans h.disc
  · have hb := h.b
    have e : (f.app M).b = 2 * (f.a * M.a * M.b + f.c * M.c * M.d) + f.b * (M.a * M.d + M.b * M.c) := rfl
    have hd : M.a * M.d - M.b * M.c = 1 := hM
    rw [e, hb]
    have : 2 * (f.a * M.a * M.b + f.c * M.c * M.d) + (2 * AM.kk s f + s) * (M.a * M.d + M.b * M.c) - s = 2 * (f.a * M.a * M.b + f.c * M.c * M.d + AM.kk s f * (M.a * M.d + M.b * M.c) + s * (M.b * M.c)) := by grind
    rw [this]; omega
theorem nm_e (e : Int) : El.nm s d ⟨e, 0⟩ = e * e := by unfold El.nm; simp
theorem sq_pos {e : Int} (h : 0 < e) : 0 < e * e := Int.mul_pos h h
theorem sc_sc (u v : El) (L : List El) : Eqv (prd s d [u] (prd s d [v] L)) (prd s d [u.mul s d v] L) :=
  (prd_assoc [u] [v] L).symm.trans ((prd_one u v).prd (.refl L))
theorem sc_prd (u : El) (L M : List El) : Eqv (prd s d (prd s d [u] L) M) (prd s d [u] (prd s d L M)) := prd_assoc _ _ _
theorem prd_sc (u : El) (L M : List El) : Eqv (prd s d L (prd s d [u] M)) (prd s d [u] (prd s d L M)) :=
  ((prd_assoc L [u] M).symm.trans ((prd_comm L [u]).prd (.refl M))).trans (prd_assoc _ _ _)
theorem rd_eq_app {f g : Fm} (pf : f.pos) (pg : g.pos) (h : f.rd = g.rd) : ∃ M : Mt, M.det = 1 ∧ f.app M = g := by
  obtain ⟨m, h1, h2⟩ := rd_via pf
  obtain ⟨n, h3, h4⟩ := rd_via pg
  refine ⟨m.mul n.adj, by rw [det_mul, adj_det, h1, h3]; rfl, ?_⟩
  rw [← app_mul, ← h2, h, h4, adj_app h3]
/-- forms of one class: their lattices are proportional -/
theorem class_lat {f g : Fm} (pf : f.pos) (pg : g.pos) (hf : Fo s d f) (h : f.rd = g.rd) :
    ∃ u v : El, 0 < u.nm s d ∧ 0 < v.nm s d ∧ Eqv (prd s d [u] (lat s g)) (prd s d [v] (lat s f)) := by
  obtain ⟨M, hM, e⟩ := rd_eq_app pf pg h
  have hg : Fo s d (f.app M) := hf.app hM
  have h1 := equiv_eqv hf hM hg
  refine ⟨_, _, ?_, ?_, by rw [← e]; exact h1⟩
  · rw [nm_e]; exact sq_pos pf.1
  · have h2 := hf.nm M.a M.c
    have h3 : vl f.a f.b f.c M.a M.c = g.a := by rw [← e]; rfl
    rw [h3] at h2
    have h4 : ∀ z : El, El.nm s d (El.cj s z) = El.nm s d z := fun z => by unfold El.nm El.cj; simp only; grind
    rw [h4, h2]
    exact Int.mul_pos pf.1 pg.1
theorem lat_class {f g : Fm} {l m : El} (pf : f.pos) (pg : g.pos) (hf : Fo s d f) (hg : Fo s d g) (h : Eqv (prd s d [l] (lat s f)) (prd s d [m] (lat s g)))
    (hl : 0 < l.nm s d) (hm : 0 < m.nm s d) : f.rd = g.rd := by
  obtain ⟨M, h1, h2⟩ := eqv_equiv hf hg pf pg h hl hm
  rw [← h2, rd_app1 pf h1]
theorem cm_uniq {f g h f' g' h' : Fm} (pf : f.pos) (pg : g.pos) (ph : h.pos) (pf' : f'.pos) (pg' : g'.pos) (ph' : h'.pos) (hf : Fo s d f) (hg : Fo s d g) (hh : Fo s d h) (hh' : Fo s d h')
    (ef : f.rd = f'.rd) (eg : g.rd = g'.rd) (c : Cm s d f g h) (c' : Cm s d f' g' h') : h.rd = h'.rd := by
  obtain ⟨e, he, _, q⟩ := c
  obtain ⟨e', he', _, q'⟩ := c'
  obtain ⟨u, v, hu, hv, h1⟩ := class_lat pf pf' hf ef
  obtain ⟨x, y, hx, hy, h2⟩ := class_lat pg pg' hg eg
  have k1 : Eqv (prd s d (prd s d [u] (lat s f')) (prd s d [x] (lat s g'))) (prd s d [u.mul s d (x.mul s d ⟨e', 0⟩)] (lat s h')) :=
    (sc_prd u _ _).trans (((Eqv.refl [u]).prd ((prd_sc x _ _).trans (((Eqv.refl [x]).prd q').trans (sc_sc _ _ _)))).trans (sc_sc _ _ _))
  have k2 : Eqv (prd s d (prd s d [v] (lat s f)) (prd s d [y] (lat s g))) (prd s d [v.mul s d (y.mul s d ⟨e, 0⟩)] (lat s h)) :=
    (sc_prd v _ _).trans (((Eqv.refl [v]).prd ((prd_sc y _ _).trans (((Eqv.refl [y]).prd q).trans (sc_sc _ _ _)))).trans (sc_sc _ _ _))
  have k3 := k2.symm.trans ((h1.prd h2).symm.trans k1)
  refine lat_class ph ph' hh hh' k3 ?_ ?_
  · rw [El.nm_mul, El.nm_mul, nm_e]; exact Int.mul_pos hv (Int.mul_pos hy (sq_pos he))
  · rw [El.nm_mul, El.nm_mul, nm_e]; exact Int.mul_pos hu (Int.mul_pos hx (sq_pos he'))
theorem Cm.comm {f g h : Fm} (c : Cm s d f g h) : Cm s d g f h := by
  obtain ⟨e, he, ha, q⟩ := c
  exact ⟨e, he, by rw [Int.mul_comm]; exact ha, (prd_comm _ _).trans q⟩
theorem cm_assoc {f g k h m u v : Fm} (pm : m.pos) (pv : v.pos) (hm : Fo s d m) (hv : Fo s d v) (c1 : Cm s d f g h) (c2 : Cm s d h k m) (c3 : Cm s d g k u) (c4 : Cm s d f u v) : m.rd = v.rd := by
  obtain ⟨e1, p1, _, q1⟩ := c1
  obtain ⟨e2, p2, _, q2⟩ := c2
  obtain ⟨e3, p3, _, q3⟩ := c3
  obtain ⟨e4, p4, _, q4⟩ := c4
  have k1 : Eqv (prd s d (prd s d (lat s f) (lat s g)) (lat s k)) (prd s d [(⟨e1, 0⟩ : El).mul s d ⟨e2, 0⟩] (lat s m)) :=
    (q1.prd (.refl _)).trans ((sc_prd _ _ _).trans (((Eqv.refl _).prd q2).trans (sc_sc _ _ _)))
  have k2 : Eqv (prd s d (lat s f) (prd s d (lat s g) (lat s k))) (prd s d [(⟨e3, 0⟩ : El).mul s d ⟨e4, 0⟩] (lat s v)) :=
    ((Eqv.refl _).prd q3).trans ((prd_sc _ _ _).trans (((Eqv.refl _).prd q4).trans (sc_sc _ _ _)))
  refine lat_class pm pv hm hv (k1.symm.trans ((prd_assoc _ _ _).trans k2)) ?_ ?_
  · rw [El.nm_mul, nm_e, nm_e]; exact Int.mul_pos (sq_pos p1) (sq_pos p2)
  · rw [El.nm_mul, nm_e, nm_e]; exact Int.mul_pos (sq_pos p3) (sq_pos p4)
theorem in_e {e : Int} {L : List El} {z w : El} (h : InS L w) (hz : z = El.sm e w) : InS (prd s d [⟨e, 0⟩] L) z := by
  have : z = (⟨e, 0⟩ : El).mul s d w := by rw [hz]; unfold El.mul El.sm; exact El.ext2 (by simp) (by simp)
  rw [this]; exact in_sc h
theorem laF_shift {a k j : Int} (h : a ∣ k - j) : Eqv (LaF a k) (LaF a j) := by
  have key : ∀ k j : Int, a ∣ k - j → ∀ z, InS (LaF a k) z → InS (LaF a j) z := fun k j ⟨q, hq⟩ z hz => by
    obtain ⟨p, hp⟩ := inLaF.1 hz
    exact inLaF.2 ⟨p + q * z.y, by grind⟩
  intro z
  obtain ⟨q, hq⟩ := h
  exact ⟨key k j ⟨q, hq⟩ z, key j k ⟨-q, by rw [Int.mul_neg]; omega⟩ z⟩
theorem mem4 {u v x y g : El} (hg : g ∈ prd s d [u, v] [x, y]) : g = u.mul s d x ∨ g = u.mul s d y ∨ g = v.mul s d x ∨ g = v.mul s d y := by
  obtain ⟨a, ha, b, hb, rfl⟩ := mem_prd.1 hg
  simp only [List.mem_cons, List.not_mem_nil, or_false] at ha hb
  rcases ha with rfl | rfl <;> rcases hb with rfl | rfl <;> simp
/-- Bezout -/
theorem bez2 : ∀ (n : Nat) (a b : Int), b.natAbs ≤ n → ∃ x y : Int, a * x + b * y = (Int.gcd a b : Nat)
  | 0, a, b, h => by
    have hb : b = 0 := by omega
    subst hb
    rw [Int.gcd_zero_right]
    rcases Int.le_total 0 a with g | g
    · exact ⟨1, 0, by omega⟩
    · exact ⟨-1, 0, by omega⟩
  | n + 1, a, b, h => by
    by_cases hb : b = 0
    · exact bez2 n a b (by omega)
    · have h1 : (a % b).natAbs < b.natAbs := by
        have := Int.emod_nonneg a hb
        have := Int.emod_lt a hb
        omega
      obtain ⟨x, y, e⟩ := bez2 n b (a % b) (by omega)
      have eg : Int.gcd b (a % b) = Int.gcd a b := by
        refine Nat.dvd_antisymm ?_ ?_
        · refine Int.dvd_gcd ?_ (Int.gcd_dvd_left ..)
          have h1 := Int.gcd_dvd_left (a := b) (b := a % b)
          have h2 := Int.gcd_dvd_right (a := b) (b := a % b)
          have h3 := Int.dvd_add (Int.dvd_trans h1 ⟨a / b, rfl⟩) h2
          rwa [Int.mul_ediv_add_emod a b] at h3
        · refine Int.dvd_gcd (Int.gcd_dvd_right ..) ?_
          have h1 := Int.gcd_dvd_left (a := a) (b := b)
          have h2 := Int.gcd_dvd_right (a := a) (b := b)
          have e3 : a % b = a - b * (a / b) := by have := Int.mul_ediv_add_emod a b; omega
          rw [e3]
          exact Int.dvd_sub h1 (Int.dvd_trans h2 ⟨_, rfl⟩)
      have em := Int.mul_ediv_add_emod a b
      refine ⟨y, x - (a / b) * y, ?_⟩
      rw [← eg, ← e]
      generalize a / b = q at *
      generalize a % b = r at *
      subst em
      grind
theorem bez (a b : Int) : ∃ x y : Int, a * x + b * y = (Int.gcd a b : Nat) := bez2 _ a b (Nat.le_refl _)
end
end Go.AM
end

section
/- Composition of forms: the formula. -/
namespace Go.AM
open Go Go.RowKit
section
variable {s d : Int}
/-- numbers without a common divisor have 1 as a combination -/
theorem bez4 {a b c e : Int} (h : ∀ g : Nat, (g : Int) ∣ a → (g : Int) ∣ b → (g : Int) ∣ c → (g : Int) ∣ e → g = 1) : ∃ x y z w : Int, a * x + b * y + c * z + e * w = 1 := by
  obtain ⟨x, y, h1⟩ := bez a b
  obtain ⟨z, w, h2⟩ := bez c e
  obtain ⟨p, q, h3⟩ := bez (Int.gcd a b : Nat) (Int.gcd c e : Nat)
  have hg : Int.gcd ((Int.gcd a b : Nat) : Int) ((Int.gcd c e : Nat) : Int) = 1 := by
    have l := Int.gcd_dvd_left (a := ((Int.gcd a b : Nat) : Int)) (b := ((Int.gcd c e : Nat) : Int))
    have r := Int.gcd_dvd_right (a := ((Int.gcd a b : Nat) : Int)) (b := ((Int.gcd c e : Nat) : Int))
    exact h _ (Int.dvd_trans l (Int.gcd_dvd_left ..)) (Int.dvd_trans l (Int.gcd_dvd_right ..)) (Int.dvd_trans r (Int.gcd_dvd_left ..)) (Int.dvd_trans r (Int.gcd_dvd_right ..))
  rw [hg, ← h1, ← h2] at h3
  exact ⟨x * p, y * p, z * q, w * q, by grind⟩
theorem fm_dvd {f : Fm} {k : Int} (hf : FK s d f k) (pf : prim f.a f.b f.c = true) {g : Nat} (h1 : (g : Int) ∣ f.a) (h2 : (g : Int) ∣ 2 * k + s) (h3 : (g : Int) ∣ f.c) : g = 1 := by
  rw [← hf.b] at h2
  have h := Int.dvd_coe_gcd h1 (Int.dvd_coe_gcd h2 h3)
  unfold prim at pf
  rw [of_decide_eq_true pf] at h
  have := Int.le_of_dvd (by omega) h
  rcases (show g = 0 ∨ g = 1 by omega) with e | e
  · subst e
    have := Int.zero_dvd.1 h
    omega
  · exact e
/-- the data of a composition -/
structure CD (f g : Fm) (s d k1 k2 e X Y Z a1 a2 t q k A : Int) : Prop where
  f1 : f.a = e * a1
  g1 : g.a = e * a2
  s1 : k1 + k2 + s = e * t
  bz : X * f.a + Y * g.a + Z * (k1 + k2 + s) = e
  e0 : 0 < e
  hq : k1 * k2 + d = e * q
  hk : e * k = X * f.a * k2 + Y * g.a * k1 + Z * (k1 * k2 + d)
  hA : A = a1 * a2
theorem CD.k2 {f g : Fm} {k1 k2 e X Y Z a1 a2 t q k A : Int} (c : CD f g s d k1 k2 e X Y Z a1 a2 t q k A) (hg : FK s d g k2) : k2 - k = a2 * (Y * (k2 - k1) + Z * g.c) := by
  have h := hg.n
  have e1 : e * (k2 - k) = e * (a2 * (Y * (k2 - k1) + Z * g.c)) := by
    have := c.hk; have := c.bz; have := c.g1; have := c.hq
    grind
  exact Int.eq_of_mul_eq_mul_left (by have := c.e0; omega) e1
theorem CD.k1 {f g : Fm} {k1 k2 e X Y Z a1 a2 t q k A : Int} (c : CD f g s d k1 k2 e X Y Z a1 a2 t q k A) (hf : FK s d f k1) : k1 - k = a1 * (X * (k1 - k2) + Z * f.c) := by
  have h := hf.n
  have e1 : e * (k1 - k) = e * (a1 * (X * (k1 - k2) + Z * f.c)) := by
    have := c.hk; have := c.bz; have := c.f1; have := c.hq
    grind
  exact Int.eq_of_mul_eq_mul_left (by have := c.e0; omega) e1
theorem CD.qk {f g : Fm} {k1 k2 e X Y Z a1 a2 t q k A : Int} (c : CD f g s d k1 k2 e X Y Z a1 a2 t q k A) (hf : FK s d f k1) (hg : FK s d g k2) : q - k * t = -(A * (X * g.c + Y * f.c)) := by
  have h := hg.n; have h' := hf.n
  have hq := c.hq; have hk := c.hk; have bz := c.bz; have f1 := c.f1; have g1 := c.g1; have s1 := c.s1; have hA := c.hA
  have e1 : e * (e * (q - k * t)) = (X * f.a + Y * g.a + Z * (k1 + k2 + s)) * (k1 * k2 + d) - (k1 + k2 + s) * (X * f.a * k2 + Y * g.a * k1 + Z * (k1 * k2 + d)) := by
    rw [bz, ← hk, s1, hq]; grind
  have e2 : (X * f.a + Y * g.a + Z * (k1 + k2 + s)) * (k1 * k2 + d) - (k1 + k2 + s) * (X * f.a * k2 + Y * g.a * k1 + Z * (k1 * k2 + d)) = -(X * f.a * (k2 * k2 + s * k2 - d)) - Y * g.a * (k1 * k1 + s * k1 - d) := by grind
  have e3 : e * (e * (q - k * t)) = e * (e * -(A * (X * g.c + Y * f.c))) := by
    rw [e1, e2, ← h, ← h', f1, g1, hA]; grind
  have e0 := c.e0
  exact Int.eq_of_mul_eq_mul_left (by omega) (Int.eq_of_mul_eq_mul_left (by omega) e3)
theorem al2 {a b k k2 w : Int} (h : k2 - k = b * w) : a * k2 - k * a = a * b * w := by grind
theorem al3 {a b k k1 w : Int} (h : k1 - k = a * w) : b * k1 - k * b = a * b * w := by grind
/-- the composed lattice -/
theorem CD.eqv {f g : Fm} {k1 k2 e X Y Z a1 a2 t q k A : Int} (c : CD f g s d k1 k2 e X Y Z a1 a2 t q k A) (hf : FK s d f k1) (hg : FK s d g k2) (pf : prim f.a f.b f.c = true) :
    Eqv (prd s d (LaF f.a k1) (LaF g.a k2)) (prd s d [⟨e, 0⟩] (LaF A k)) := by
  have r2 := c.k2 hg
  have r1 := c.k1 hf
  have rq := c.qk hf hg
  have hfn := hf.n; have hgn := hg.n
  obtain ⟨f1, g1, s1, bz, e0, hq, hk, hA⟩ := c
  refine Eqv.of (fun z hz => ?_) (fun z hz => ?_)
  · unfold LaF at hz
    rcases mem4 hz with rfl | rfl | rfl | rfl
    · refine in_e (w := ⟨e * A, 0⟩) (inLaF.2 ⟨e, by simp only; grind⟩) ?_
      unfold El.mul El.sm; exact El.ext2 (by simp only; rw [f1, g1, hA]; grind) (by simp)
    · refine in_e (w := ⟨a1 * k2, a1⟩) (inLaF.2 ⟨Y * (k2 - k1) + Z * g.c, by simp only; rw [hA]; exact al2 r2⟩) ?_
      unfold El.mul El.sm; exact El.ext2 (by simp only; rw [f1]; grind) (by simp only; rw [f1]; grind)
    · refine in_e (w := ⟨a2 * k1, a2⟩) (inLaF.2 ⟨X * (k1 - k2) + Z * f.c, by simp only; rw [hA]; exact al3 r1⟩) ?_
      unfold El.mul El.sm; exact El.ext2 (by simp only; rw [g1]; grind) (by simp only; rw [g1]; grind)
    · refine in_e (w := ⟨q, t⟩) (inLaF.2 ⟨-(X * g.c + Y * f.c), by simp only; rw [rq, Int.mul_neg]⟩) ?_
      unfold El.mul El.sm; exact El.ext2 (by simp only; grind) (by simp only; grind)
  · obtain ⟨x, hx, v, hv, rfl⟩ := mem_prd.1 hz
    rw [List.mem_singleton] at hx
    subst hx
    have G : ∀ u w : El, u ∈ LaF f.a k1 → w ∈ LaF g.a k2 → InS (prd s d (LaF f.a k1) (LaF g.a k2)) (u.mul s d w) := fun u w hu hw => (InS.gen hu).mul (InS.gen hw)
    have m1 : ∀ a k : Int, (⟨a, 0⟩ : El) ∈ LaF a k := fun a k => by unfold LaF; simp
    have m2 : ∀ a k : Int, (⟨k, 1⟩ : El) ∈ LaF a k := fun a k => by unfold LaF; simp
    have g11 := G _ _ (m1 f.a k1) (m1 g.a k2)
    have g12 := G _ _ (m1 f.a k1) (m2 g.a k2)
    have g21 := G _ _ (m2 f.a k1) (m1 g.a k2)
    have g22 := G _ _ (m2 f.a k1) (m2 g.a k2)
    unfold LaF at hv
    simp only [List.mem_cons, List.not_mem_nil, or_false] at hv
    rcases hv with rfl | rfl
    · obtain ⟨x, y, z, w, hw⟩ := bez4 (a := e) (b := k2 - k1) (c := g.c) (e := f.c) (fun m h1 h2 h3 h4 => by
        refine fm_dvd hf pf (by rw [f1]; exact Int.dvd_trans h1 ⟨a1, rfl⟩) ?_ h4
        have : 2 * k1 + s = e * t - (k2 - k1) := by omega
        rw [this]
        exact Int.dvd_sub (Int.dvd_trans h1 ⟨t, rfl⟩) h2)
      have E : (⟨e, 0⟩ : El).mul s d ⟨A, 0⟩ = ((El.sm x ((⟨f.a, 0⟩ : El).mul s d ⟨g.a, 0⟩)).add (El.sm y ((El.sm a2 ((⟨f.a, 0⟩ : El).mul s d ⟨k2, 1⟩)).add (El.sm (-a1) ((⟨k1, 1⟩ : El).mul s d ⟨g.a, 0⟩))))).add
          ((El.sm z ((El.sm t ((⟨f.a, 0⟩ : El).mul s d ⟨k2, 1⟩)).add (El.sm (-a1) ((⟨k1, 1⟩ : El).mul s d ⟨k2, 1⟩)))).add (El.sm w ((El.sm t ((⟨k1, 1⟩ : El).mul s d ⟨g.a, 0⟩)).add (El.sm (-a2) ((⟨k1, 1⟩ : El).mul s d ⟨k2, 1⟩))))) := by
        have t1 : e * A * (e * x + (k2 - k1) * y + g.c * z + f.c * w) = e * A := by rw [hw]; omega
        have u3 : t * (f.a * k2) - a1 * (k1 * k2 + d) = e * A * g.c := by
          have : t * (f.a * k2) - a1 * (k1 * k2 + d) = a1 * ((k1 + k2 + s) * k2 - (k1 * k2 + d)) := by rw [f1, s1]; grind
          rw [this]
          have : (k1 + k2 + s) * k2 - (k1 * k2 + d) = g.a * g.c := by rw [hgn]; grind
          rw [this, g1, hA]; grind
        have u4 : t * (k1 * g.a) - a2 * (k1 * k2 + d) = e * A * f.c := by
          have : t * (k1 * g.a) - a2 * (k1 * k2 + d) = a2 * ((k1 + k2 + s) * k1 - (k1 * k2 + d)) := by rw [g1, s1]; grind
          rw [this]
          have : (k1 + k2 + s) * k1 - (k1 * k2 + d) = f.a * f.c := by rw [hfn]; grind
          rw [this, f1, hA]; grind
        have u1 : f.a * g.a = e * A * e := by rw [f1, g1, hA]; grind
        have u2 : a2 * (f.a * k2) - a1 * (k1 * g.a) = e * A * (k2 - k1) := by rw [f1, g1, hA]; grind
        unfold El.mul El.add El.sm
        refine El.ext2 ?_ ?_
        · simp only [Int.mul_zero, Int.mul_one, Int.add_zero]
          rw [← t1]
          have v2 : a2 * (f.a * k2) + -a1 * (k1 * g.a) = e * A * (k2 - k1) := by rw [← u2, Int.neg_mul]; rfl
          have v3 : t * (f.a * k2) + -a1 * (k1 * k2 + d) = e * A * g.c := by rw [← u3, Int.neg_mul]; rfl
          have v4 : t * (k1 * g.a) + -a2 * (k1 * k2 + d) = e * A * f.c := by rw [← u4, Int.neg_mul]; rfl
          rw [u1, v2, v3, v4]
          grind
        · simp only [Int.mul_zero, Int.zero_mul, Int.mul_one, Int.one_mul, Int.add_zero, Int.zero_add]
          have w2 : a2 * f.a + -a1 * g.a = 0 := by rw [f1, g1]; grind
          have w3 : t * f.a + -a1 * (k1 + k2 + s) = 0 := by rw [f1, s1]; grind
          have w4 : t * g.a + -a2 * (k1 + k2 + s) = 0 := by rw [g1, s1]; grind
          rw [w2, w3, w4]; simp
      rw [E]
      exact ((g11.sm x).add (((g12.sm a2).add (g21.sm (-a1))).sm y)).add ((((g12.sm t).add (g22.sm (-a1))).sm z).add (((g21.sm t).add (g22.sm (-a2))).sm w))
    · have E : (⟨e, 0⟩ : El).mul s d ⟨k, 1⟩ = ((El.sm X ((⟨f.a, 0⟩ : El).mul s d ⟨k2, 1⟩)).add (El.sm Y ((⟨k1, 1⟩ : El).mul s d ⟨g.a, 0⟩))).add (El.sm Z ((⟨k1, 1⟩ : El).mul s d ⟨k2, 1⟩)) := by
        unfold El.mul El.add El.sm
        refine El.ext2 ?_ ?_
        · simp only; grind
        · simp only; grind
      rw [E]
      exact ((g12.sm X).add (g21.sm Y)).add (g22.sm Z)
end
end Go.AM
end

section
/- Composition of forms of one discriminant: a group of classes. -/
namespace Go.AM
open Go Go.RowKit
theorem dvdl {a b : Int} (h : a ∣ b) (c : Int) : a ∣ b * c := Int.dvd_trans h ⟨c, rfl⟩
theorem prim_ofN {f : Fm} (h : ∀ g : Nat, (g : Int) ∣ f.a → (g : Int) ∣ f.b → (g : Int) ∣ f.c → g = 1) : prim f.a f.b f.c = true := by
  unfold prim
  refine decide_eq_true ?_
  have h1 : ((Int.gcd f.a (Int.gcd f.b f.c : Int) : Nat) : Int) ∣ f.a := Int.gcd_dvd_left ..
  have h2 : ((Int.gcd f.a (Int.gcd f.b f.c : Int) : Nat) : Int) ∣ ((Int.gcd f.b f.c : Nat) : Int) := Int.gcd_dvd_right ..
  exact h _ h1 (Int.dvd_trans h2 (Int.gcd_dvd_left ..)) (Int.dvd_trans h2 (Int.gcd_dvd_right ..))
theorem pos_any' {f : Fm} (hf : f.pos) {m : Mt} (h : m.det = 1) : (f.app m).pos := by
  refine ⟨?_, by rw [disc_app, h]; have := hf.2; omega⟩
  show 0 < vl f.a f.b f.c m.a m.c
  have hd : f.b * f.b - 4 * f.a * f.c < 0 := hf.2
  have ha := hf.1
  have e : 4 * f.a * vl f.a f.b f.c m.a m.c = (2 * f.a * m.a + f.b * m.c) * (2 * f.a * m.a + f.b * m.c) + -(f.b * f.b - 4 * f.a * f.c) * (m.c * m.c) := by unfold vl; grind
  have s1 := sq_nonneg' (2 * f.a * m.a + f.b * m.c)
  have s2 := sq_nonneg' m.c
  rcases Int.lt_or_le 0 (vl f.a f.b f.c m.a m.c) with g | g
  · exact g
  · exfalso
    have l1 : 4 * f.a * vl f.a f.b f.c m.a m.c ≤ 0 := Int.mul_nonpos_of_nonneg_of_nonpos (by omega) g
    have l2 : 0 ≤ -(f.b * f.b - 4 * f.a * f.c) * (m.c * m.c) := Int.mul_nonneg (by omega) s2
    have l3 : -(f.b * f.b - 4 * f.a * f.c) * (m.c * m.c) = 0 := by omega
    have c0 : m.c = 0 := by
      rcases Int.mul_eq_zero.1 l3 with q | q
      · omega
      · rcases Int.mul_eq_zero.1 q with q | q <;> exact q
    rw [c0] at e
    have s3 : (2 * f.a * m.a) * (2 * f.a * m.a) = 0 := by
      have e2 : (2 * f.a * m.a + f.b * 0) * (2 * f.a * m.a + f.b * 0) = (2 * f.a * m.a) * (2 * f.a * m.a) := by simp
      rw [c0, e2] at s1
      rw [e2] at e
      have : -(f.b * f.b - 4 * f.a * f.c) * (0 * 0) = 0 := by simp
      rw [this] at e
      rw [c0] at l1
      omega
    have a0 : m.a = 0 := by
      have := Int.mul_eq_zero.1 s3
      have h4 : 2 * f.a * m.a = 0 := by rcases this with q | q <;> exact q
      rcases Int.mul_eq_zero.1 h4 with q | q
      · omega
      · exact q
    unfold Mt.det at h
    rw [c0, a0] at h
    simp at h
section
variable {s d : Int}
theorem cd_norm {f g : Fm} {k1 k2 X Y Z e E : Int} (h1 : f.a * f.c = k1 * k1 + s * k1 - d) (h2 : g.a * g.c = k2 * k2 + s * k2 - d) (he : e = X * f.a + Y * g.a + Z * (k1 + k2 + s)) (hE : E = X * f.a * k2 + Y * g.a * k1 + Z * (k1 * k2 + d)) :
    E * E + s * (E * e) - d * (e * e) = f.a * g.a * (X * X * (f.a * g.c) + Y * Y * (g.a * f.c) + Z * Z * (f.c * g.c) + X * Y * (2 * (k1 * k2) + s * (k1 + k2) - 2 * d) + X * Z * (g.c * (2 * k1 + s)) + Y * Z * (f.c * (2 * k2 + s))) := by
  have n1 := El.nm_mul (s := s) (d := d) ⟨k1, 1⟩ ⟨k2, 1⟩
  unfold El.nm El.mul at n1
  simp only at n1
  have m1 : k1 * k1 + s * (k1 * 1) - d * (1 * 1) = f.a * f.c := by rw [h1]; grind
  have m2 : k2 * k2 + s * (k2 * 1) - d * (1 * 1) = g.a * g.c := by rw [h2]; grind
  rw [m1, m2] at n1
  have q1 : X * X * (f.a * f.a) * (k2 * k2 + s * k2 - d) = X * X * (f.a * f.a) * (g.a * g.c) := by rw [h2]
  have q2 : Y * Y * (g.a * g.a) * (k1 * k1 + s * k1 - d) = Y * Y * (g.a * g.a) * (f.a * f.c) := by rw [h1]
  have q3 : X * Z * f.a * (2 * k1 + s) * (k2 * k2 + s * k2 - d) = X * Z * f.a * (2 * k1 + s) * (g.a * g.c) := by rw [h2]
  have q4 : Y * Z * g.a * (2 * k2 + s) * (k1 * k1 + s * k1 - d) = Y * Z * g.a * (2 * k2 + s) * (f.a * f.c) := by rw [h1]
  have q5 : Z * Z * ((k1 * k2 + d) * (k1 * k2 + d) + s * ((k1 * k2 + d) * (k1 + k2 + s)) - d * ((k1 + k2 + s) * (k1 + k2 + s))) = Z * Z * (f.a * f.c * (g.a * g.c)) := by
    rw [← n1]; congr 1; grind
  subst he hE
  generalize f.a = a at *; generalize g.a = b at *; generalize f.c = c at *; generalize g.c = w at *
  clear h1 h2 m1 m2 n1
  grind
/-- the composed form -/
theorem CD.form {f g : Fm} {k1 k2 e X Y Z a1 a2 t q k A : Int} (c : CD f g s d k1 k2 e X Y Z a1 a2 t q k A) (hf : FK s d f k1) (hg : FK s d g k2) :
    ∃ C : Int, A * C = k * k + s * k - d := by
  have hn := cd_norm (X := X) (Y := Y) (Z := Z) hf.n hg.n c.bz.symm c.hk
  generalize (X * X * (f.a * g.c) + Y * Y * (g.a * f.c) + Z * Z * (f.c * g.c) + X * Y * (2 * (k1 * k2) + s * (k1 + k2) - 2 * d) + X * Z * (g.c * (2 * k1 + s)) + Y * Z * (f.c * (2 * k2 + s))) = Q at hn
  refine ⟨Q, ?_⟩
  rw [c.f1, c.g1] at hn
  have e1 : e * (e * (A * Q)) = e * (e * (k * k + s * k - d)) := by
    rw [c.hA]
    have l : e * (e * (a1 * a2 * Q)) = e * a1 * (e * a2) * Q := by grind
    rw [l, ← hn]; grind
  have e0 := c.e0
  exact Int.eq_of_mul_eq_mul_left (by omega) (Int.eq_of_mul_eq_mul_left (by omega) e1)
/-- products of values are values -/
theorem cm_vals {f g h : Fm} {k1 k2 k e : Int} (hf : FK s d f k1) (hg : FK s d g k2) (hh : FK s d h k) (ph : h.pos) (he : 0 < e) (ha : f.a * g.a = e * e * h.a)
    (q : Eqv (prd s d (LaF f.a k1) (LaF g.a k2)) (prd s d [⟨e, 0⟩] (LaF h.a k))) (x y z w : Int) : ∃ u v : Int, vl f.a f.b f.c x y * vl g.a g.b g.c z w = vl h.a h.b h.c u v := by
  have h1 : InS (prd s d (LaF f.a k1) (LaF g.a k2)) (((El.sm x ⟨f.a, 0⟩).add (El.sm y ⟨k1, 1⟩)).mul s d ((El.sm z ⟨g.a, 0⟩).add (El.sm w ⟨k2, 1⟩))) := (in2.2 ⟨x, y, rfl⟩).mul (in2.2 ⟨z, w, rfl⟩)
  have h2 := (q _).1 h1
  have e1 : prd s d [⟨e, 0⟩] (LaF h.a k) = [(⟨e, 0⟩ : El).mul s d ⟨h.a, 0⟩, (⟨e, 0⟩ : El).mul s d ⟨k, 1⟩] := rfl
  rw [e1] at h2
  obtain ⟨u, v, e2⟩ := in2.1 h2
  rw [← El.mul_sm, ← El.mul_sm, ← El.mul_add] at e2
  have n1 := El.nm_mul (s := s) (d := d) ((El.sm x ⟨f.a, 0⟩).add (El.sm y ⟨k1, 1⟩)) ((El.sm z ⟨g.a, 0⟩).add (El.sm w ⟨k2, 1⟩))
  rw [e2, El.nm_mul, hf.nm, hg.nm, hh.nm, nm_e] at n1
  refine ⟨u, v, ?_⟩
  have e3 : f.a * vl f.a f.b f.c x y * (g.a * vl g.a g.b g.c z w) = e * e * h.a * (vl f.a f.b f.c x y * vl g.a g.b g.c z w) := by rw [← ha]; grind
  rw [e3, ← Int.mul_assoc] at n1
  exact (Int.eq_of_mul_eq_mul_left (by have := Int.mul_pos (sq_pos he) ph.1; omega) n1).symm
theorem prim_bez {a b c : Int} (h : prim a b c = true) : ∃ x y z : Int, a * x + b * y + c * z = 1 := by
  obtain ⟨y, z, h1⟩ := bez b c
  obtain ⟨x, w, h2⟩ := bez a (Int.gcd b c : Nat)
  unfold prim at h
  rw [of_decide_eq_true h, ← h1] at h2
  exact ⟨x, y * w, z * w, by grind⟩
theorem vl_coef {t a b c : Int} (h : ∀ x y, t ∣ vl a b c x y) : t ∣ a ∧ t ∣ b ∧ t ∣ c := by
  have h1 := h 1 0
  have h2 := h 0 1
  have h3 := h 1 1
  unfold vl at h1 h2 h3
  have a1 : t ∣ a := by simpa using h1
  have a2 : t ∣ c := by simpa using h2
  refine ⟨a1, ?_, a2⟩
  have h4 := Int.dvd_sub (Int.dvd_sub h3 a1) a2
  have e : a * 1 * 1 + b * 1 * 1 + c * 1 * 1 - a - c = b := by omega
  rwa [e] at h4
theorem prim_vals {f g h : Fm} (pf : prim f.a f.b f.c = true) (pg : prim g.a g.b g.c = true) (hv : ∀ x y z w : Int, ∃ u v : Int, vl f.a f.b f.c x y * vl g.a g.b g.c z w = vl h.a h.b h.c u v) : prim h.a h.b h.c = true := by
  refine prim_ofN (fun m h1 h2 h3 => ?_)
  have hm : ∀ u v, (m : Int) ∣ vl h.a h.b h.c u v := fun u v => by
    unfold vl
    exact Int.dvd_add (Int.dvd_add (dvdl (dvdl h1 _) _) (dvdl (dvdl h2 _) _)) (dvdl (dvdl h3 _) _)
  have k1 : ∀ x y z w, (m : Int) ∣ vl f.a f.b f.c x y * vl g.a g.b g.c z w := fun x y z w => by
    obtain ⟨u, v, e⟩ := hv x y z w
    rw [e]; exact hm u v
  have k2 : ∀ x y, (m : Int) ∣ vl f.a f.b f.c x y := fun x y => by
    have c := vl_coef (t := m) (a := vl f.a f.b f.c x y * g.a) (b := vl f.a f.b f.c x y * g.b) (c := vl f.a f.b f.c x y * g.c) (fun z w => by
      have := k1 x y z w
      have e : vl (vl f.a f.b f.c x y * g.a) (vl f.a f.b f.c x y * g.b) (vl f.a f.b f.c x y * g.c) z w = vl f.a f.b f.c x y * vl g.a g.b g.c z w := by
        generalize vl f.a f.b f.c x y = V
        unfold vl; grind
      rw [e]; exact this)
    obtain ⟨p, q, r, e⟩ := prim_bez pg
    have h4 := Int.dvd_add (Int.dvd_add (dvdl c.1 p) (dvdl c.2.1 q)) (dvdl c.2.2 r)
    have e5 : vl f.a f.b f.c x y * g.a * p + vl f.a f.b f.c x y * g.b * q + vl f.a f.b f.c x y * g.c * r = vl f.a f.b f.c x y * (g.a * p + g.b * q + g.c * r) := by grind
    rw [e5, e, Int.mul_one] at h4
    exact h4
  have c := vl_coef k2
  obtain ⟨p, q, r, e⟩ := prim_bez pf
  have h4 := Int.dvd_add (Int.dvd_add (dvdl c.1 p) (dvdl c.2.1 q)) (dvdl c.2.2 r)
  rw [e] at h4
  have := Int.le_of_dvd (by omega) h4
  rcases (show m = 0 ∨ m = 1 by omega) with e | e
  · subst e
    have := Int.zero_dvd.1 h4
    omega
  · exact e
end
/-- forms of the discriminant D: positive, primitive -/
structure Cl (D : Int) (f : Fm) : Prop where
  pos : f.pos
  prim : AM.prim f.a f.b f.c = true
  disc : dsc f.a f.b f.c = D
abbrev sD (D : Int) : Int := D % 2
abbrev dD (D : Int) : Int := (D - D % 2) / 4
section
variable {D : Int}
theorem disc_par {a b c : Int} (h : dsc a b c = D) : (b - D % 2) % 2 = 0 ∧ D = sD D * sD D + 4 * dD D := by
  unfold dsc at h
  rw [Int.mul_assoc] at h
  generalize a * c = t at h
  have hb : b % 2 = 0 ∨ b % 2 = 1 := by omega
  have hD : D % 2 = 0 ∨ D % 2 = 1 := by omega
  rcases hb with g | g
  · obtain ⟨q, hq⟩ : ∃ q, b = 2 * q := ⟨b / 2, by omega⟩
    have e : b * b = 4 * (q * q) := by rw [hq]; grind
    have h0 : D % 2 = 0 := by omega
    unfold sD dD
    rw [h0]
    omega
  · obtain ⟨q, hq⟩ : ∃ q, b = 2 * q + 1 := ⟨b / 2, by omega⟩
    have e : b * b = 4 * (q * q + q) + 1 := by rw [hq]; grind
    have h0 : D % 2 = 1 := by omega
    unfold sD dD
    rw [h0]
    omega
theorem Cl.fo {f : Fm} (h : Cl D f) : Fo (sD D) (dD D) f := by
  obtain ⟨h1, h2⟩ := disc_par h.disc
  exact FK.of (h.disc.trans h2) h1
theorem Cl.app {f : Fm} {M : Mt} (h : Cl D f) (hM : M.det = 1) : Cl D (f.app M) := by
  refine ⟨pos_any' h.pos hM, ?_, ?_⟩
  · rw [← prim_app f (by rw [hM]; rfl)]; exact h.prim
  · have : (f.app M).disc = f.disc := disc_T hM
    exact this.trans h.disc
theorem Cl.rd {f : Fm} (h : Cl D f) : Cl D f.rd := by
  obtain ⟨m, h1, h2⟩ := rd_via h.pos
  rw [h2]; exact h.app h1
theorem Cl.rd_Rd {f : Fm} (h : Cl D f) : Rd f.rd := Rd.rdF h.pos
theorem Cl.rd_rd {f : Fm} (h : Cl D f) : f.rd.rd = f.rd := by
  obtain ⟨m, h1, h2⟩ := rd_via h.pos
  have := rd_app1 h.pos h1
  rwa [← h2] at this
/-- h is a composition of f and g -/
def IsC (D : Int) (f g h : Fm) : Prop := Cl D h ∧ Cm (sD D) (dD D) f g h
theorem isC_uniq {f g h f' g' h' : Fm} (hf : Cl D f) (hg : Cl D g) (hf' : Cl D f') (hg' : Cl D g') (ef : f.rd = f'.rd) (eg : g.rd = g'.rd) (c : IsC D f g h) (c' : IsC D f' g' h') : h.rd = h'.rd :=
  cm_uniq hf.pos hg.pos c.1.pos hf'.pos hg'.pos c'.1.pos hf.fo hg.fo c.1.fo c'.1.fo ef eg c.2 c'.2
theorem isC_comm {f g h : Fm} (c : IsC D f g h) : IsC D g f h := ⟨c.1, c.2.comm⟩
theorem isC_assoc {f g k h m u v : Fm} (c1 : IsC D f g h) (c2 : IsC D h k m) (c3 : IsC D g k u) (c4 : IsC D f u v) : m.rd = v.rd :=
  cm_assoc c2.1.pos c4.1.pos c2.1.fo c4.1.fo c1.2 c2.2 c3.2 c4.2
/-- a composition by its data; the middle coefficient may be moved -/
theorem isC_of {f g : Fm} {e X Y Z a1 a2 t q k A j C : Int} (hf : Cl D f) (hg : Cl D g) (c : CD f g (sD D) (dD D) (kk (sD D) f) (kk (sD D) g) e X Y Z a1 a2 t q k A) (hj : A ∣ k - j)
    (hC : (2 * j + sD D) * (2 * j + sD D) - 4 * A * C = D) : IsC D f g ⟨A, 2 * j + sD D, C⟩ := by
  have hfk : FK (sD D) (dD D) f (kk (sD D) f) := hf.fo
  have hgk : FK (sD D) (dD D) g (kk (sD D) g) := hg.fo
  have q0 := c.eqv hfk hgk hf.prim
  have hA : f.a * g.a = e * e * A := by rw [c.f1, c.g1, c.hA]; grind
  have pA : 0 < A := by
    have h1 : 0 < e * e * A := by rw [← hA]; exact Int.mul_pos hf.pos.1 hg.pos.1
    rcases Int.lt_or_le 0 A with h | h
    · exact h
    · have := Int.mul_nonpos_of_nonneg_of_nonpos (show 0 ≤ e * e from by have := sq_pos c.e0; omega) h
      omega
  have hD : dsc f.a f.b f.c < 0 := hf.pos.2
  rw [hf.disc] at hD
  have hh : FK (sD D) (dD D) ⟨A, 2 * j + sD D, C⟩ j := by
    refine ⟨rfl, ?_⟩
    have h2 := (disc_par hf.disc).2
    rw [Int.mul_assoc] at hC
    show A * C = _
    generalize A * C = T at hC
    generalize sD D = σ at *
    generalize dD D = δ at *
    grind
  have ph : (⟨A, 2 * j + sD D, C⟩ : Fm).pos := ⟨pA, by show dsc A (2 * j + sD D) C < 0; unfold dsc; rw [hC]; exact hD⟩
  have qj : Eqv (prd (sD D) (dD D) (LaF f.a (kk (sD D) f)) (LaF g.a (kk (sD D) g))) (prd (sD D) (dD D) [⟨e, 0⟩] (LaF A j)) := q0.trans ((Eqv.refl _).prd (laF_shift hj))
  have hv := cm_vals hfk hgk hh ph c.e0 hA qj
  refine ⟨⟨ph, prim_vals hf.prim hg.prim hv, hC⟩, e, c.e0, hA, ?_⟩
  show Eqv _ (prd _ _ _ (LaF A (kk (sD D) ⟨A, 2 * j + sD D, C⟩)))
  rw [hh.kk]
  exact qj
theorem isC_vals {f g h : Fm} (hf : Cl D f) (hg : Cl D g) (c : IsC D f g h) (x y z w : Int) : ∃ u v : Int, vl f.a f.b f.c x y * vl g.a g.b g.c z w = vl h.a h.b h.c u v := by
  obtain ⟨hh, e, he, ha, q⟩ := c
  exact cm_vals hf.fo hg.fo hh.fo hh.pos he ha q x y z w
end
end Go.AM
end

section
/- The product of classes: a formula; the laws of a group. -/
namespace Go.AM
open Go Go.RowKit
def xg : Nat → Int → Int → Int × Int
  | 0, a, _ => (if 0 ≤ a then 1 else -1, 0)
  | n + 1, a, b => if b = 0 then (if 0 ≤ a then 1 else -1, 0) else ((xg n b (a % b)).2, (xg n b (a % b)).1 - (a / b) * (xg n b (a % b)).2)
theorem gcd_stp2 (a b : Int) : Int.gcd b (a % b) = Int.gcd a b := by
  refine Nat.dvd_antisymm ?_ ?_
  · refine Int.dvd_gcd ?_ (Int.gcd_dvd_left ..)
    have h1 := Int.gcd_dvd_left (a := b) (b := a % b)
    have h2 := Int.gcd_dvd_right (a := b) (b := a % b)
    have h3 := Int.dvd_add (Int.dvd_trans h1 ⟨a / b, rfl⟩) h2
    rwa [Int.mul_ediv_add_emod a b] at h3
  · refine Int.dvd_gcd (Int.gcd_dvd_right ..) ?_
    have h1 := Int.gcd_dvd_left (a := a) (b := b)
    have h2 := Int.gcd_dvd_right (a := a) (b := b)
    have e3 : a % b = a - b * (a / b) := by have := Int.mul_ediv_add_emod a b; omega
    rw [e3]
    exact Int.dvd_sub h1 (Int.dvd_trans h2 ⟨_, rfl⟩)
theorem xg_eq : ∀ (n : Nat) (a b : Int), b.natAbs ≤ n → (xg n a b).1 * a + (xg n a b).2 * b = (Int.gcd a b : Nat)
  | 0, a, b, h => by
    have hb : b = 0 := by omega
    subst hb
    rw [Int.gcd_zero_right]
    unfold xg
    simp only
    split <;> omega
  | n + 1, a, b, h => by
    unfold xg
    by_cases hb : b = 0
    · subst hb
      rw [if_pos rfl, Int.gcd_zero_right]
      simp only
      split <;> omega
    · rw [if_neg hb]
      have h1 : (a % b).natAbs < b.natAbs := by
        have := Int.emod_nonneg a hb
        have := Int.emod_lt a hb
        omega
      have e := xg_eq n b (a % b) (by omega)
      rw [gcd_stp2] at e
      have em := Int.mul_ediv_add_emod a b
      rw [← e]
      simp only
      generalize xg n b (a % b) = p
      generalize a / b = q at *
      generalize a % b = r at *
      subst em
      grind
/-- a composition of two forms -/
def cmpF (f g : Fm) : Fm :=
  let x := xg g.a.natAbs f.a g.a
  let h : Int := (Int.gcd f.a g.a : Nat)
  let s0 := (f.b + g.b) / 2
  let u := xg s0.natAbs h s0
  let e : Int := (Int.gcd h s0 : Nat)
  let A := f.a * g.a / (e * e)
  let b := (u.1 * x.1 * f.a * g.b + u.1 * x.2 * g.a * f.b + u.2 * ((f.b * g.b + dsc f.a f.b f.c) / 2)) / e
  ⟨A, b, (b * b - dsc f.a f.b f.c) / (4 * A)⟩
def mlt (f g : Fm) : Fm := (cmpF f g).rd
section
variable {D : Int}
/-- composing by Bezout's numbers, whatever they are -/
theorem isC_bez {f g : Fm} {h x y e u z A B C : Int} (hf : Cl D f) (hg : Cl D g) (e0 : 0 < e) (d1 : e ∣ f.a) (d2 : e ∣ g.a) (d3 : e ∣ (f.b + g.b) / 2)
    (h1 : x * f.a + y * g.a = h) (h2 : u * h + z * ((f.b + g.b) / 2) = e) (hA : e * e * A = f.a * g.a)
    (hB : B = (u * x * f.a * g.b + u * y * g.a * f.b + z * ((f.b * g.b + D) / 2)) / e) (hC : C = (B * B - D) / (4 * A)) : IsC D f g ⟨A, B, C⟩ := by
  have hfk : FK (sD D) (dD D) f (kk (sD D) f) := hf.fo
  have hgk : FK (sD D) (dD D) g (kk (sD D) g) := hg.fo
  have hD := (disc_par hf.disc).2
  have bf := hfk.b
  have bg := hgk.b
  have nf := hfk.n
  generalize hk1 : kk (sD D) f = k1 at *
  generalize hk2 : kk (sD D) g = k2 at *
  have hs0 : (f.b + g.b) / 2 = k1 + k2 + sD D := by omega
  rw [hs0] at d3 h2
  obtain ⟨a1, ha1⟩ := d1
  obtain ⟨a2, ha2⟩ := d2
  obtain ⟨t, ht⟩ := d3
  have ee : e * e ≠ 0 := by have := sq_pos e0; omega
  have hA2 : A = a1 * a2 := by
    refine Int.eq_of_mul_eq_mul_left ee ?_
    rw [hA, ha1, ha2]; grind
  -- k1 k2 + d is a multiple of e
  have hq : ∃ q, k1 * k2 + dD D = e * q := ⟨k1 * t - a1 * f.c, by
    have e1 : k1 * k2 + dD D = k1 * (k1 + k2 + sD D) - f.a * f.c := by rw [nf]; grind
    rw [e1, ht, ha1]; grind⟩
  obtain ⟨q, hq⟩ := hq
  have hkx : ∃ k, e * k = u * x * f.a * k2 + u * y * g.a * k1 + z * (k1 * k2 + dD D) := ⟨u * x * a1 * k2 + u * y * a2 * k1 + z * q, by rw [hq, ha1, ha2]; grind⟩
  obtain ⟨k, hk⟩ := hkx
  have cd : CD f g (sD D) (dD D) k1 k2 e (u * x) (u * y) z a1 a2 t q k A := ⟨ha1, ha2, ht, by rw [← h2, ← h1]; grind, e0, hq, hk, hA2⟩
  have hmid : (f.b * g.b + D) / 2 = 2 * (k1 * k2 + dD D) + sD D * (k1 + k2 + sD D) := by
    have : f.b * g.b + D = 2 * (2 * (k1 * k2 + dD D) + sD D * (k1 + k2 + sD D)) := by rw [bf, bg, hD]; grind
    omega
  have hBk : B = 2 * k + sD D := by
    rw [hB, hmid, bf, bg]
    have : u * x * f.a * (2 * k2 + sD D) + u * y * g.a * (2 * k1 + sD D) + z * (2 * (k1 * k2 + dD D) + sD D * (k1 + k2 + sD D)) = e * (2 * k + sD D) := by
      have e3 : u * x * f.a + u * y * g.a + z * (k1 + k2 + sD D) = e := cd.bz
      have : e * (2 * k + sD D) = 2 * (e * k) + sD D * e := by grind
      rw [this, hk]
      have : sD D * e = sD D * (u * x * f.a + u * y * g.a + z * (k1 + k2 + sD D)) := by rw [e3]
      rw [this]; grind
    rw [this, Int.mul_ediv_cancel_left _ (by omega)]
  obtain ⟨C', hC'⟩ := cd.form hfk hgk
  have hA0 : A ≠ 0 := fun h0 => by
    rw [h0, Int.mul_zero] at hA
    have := Int.mul_pos hf.pos.1 hg.pos.1
    omega
  have hBD : B * B - D = 4 * A * C' := by
    rw [hBk]
    have : 4 * A * C' = 4 * (A * C') := Int.mul_assoc ..
    rw [this, hC']
    generalize sD D = σ at *
    generalize dD D = δ at *
    rw [hD]; grind
  have hCC : C = C' := by rw [hC, hBD]; exact Int.mul_ediv_cancel_left _ (by omega)
  subst hCC
  subst hk1 hk2
  rw [hBk]
  refine isC_of hf hg cd (j := k) ⟨0, by omega⟩ ?_
  rw [← hBk]; omega
theorem cmp_isC {f g : Fm} (hf : Cl D f) (hg : Cl D g) : IsC D f g (cmpF f g) := by
  have e1 := xg_eq g.a.natAbs f.a g.a (Nat.le_refl _)
  have e2 := xg_eq ((f.b + g.b) / 2).natAbs (Int.gcd f.a g.a : Nat) ((f.b + g.b) / 2) (Nat.le_refl _)
  have l := Int.gcd_dvd_left (a := ((Int.gcd f.a g.a : Nat) : Int)) (b := (f.b + g.b) / 2)
  have r := Int.gcd_dvd_right (a := ((Int.gcd f.a g.a : Nat) : Int)) (b := (f.b + g.b) / 2)
  have d1 := Int.dvd_trans l (Int.gcd_dvd_left (a := f.a) (b := g.a))
  have d2 := Int.dvd_trans l (Int.gcd_dvd_right (a := f.a) (b := g.a))
  have e0 : (0 : Int) < (Int.gcd ((Int.gcd f.a g.a : Nat) : Int) ((f.b + g.b) / 2) : Nat) := by
    rcases Nat.eq_zero_or_pos (Int.gcd ((Int.gcd f.a g.a : Nat) : Int) ((f.b + g.b) / 2)) with h | h
    · rw [h] at d1
      have := Int.zero_dvd.1 d1
      have := hf.pos.1
      omega
    · omega
  have hA : ((Int.gcd ((Int.gcd f.a g.a : Nat) : Int) ((f.b + g.b) / 2) : Nat) : Int) * (Int.gcd ((Int.gcd f.a g.a : Nat) : Int) ((f.b + g.b) / 2) : Nat) * (f.a * g.a / (((Int.gcd ((Int.gcd f.a g.a : Nat) : Int) ((f.b + g.b) / 2) : Nat) : Int) * (Int.gcd ((Int.gcd f.a g.a : Nat) : Int) ((f.b + g.b) / 2) : Nat))) = f.a * g.a :=
    Int.mul_ediv_cancel' (Int.mul_dvd_mul d1 d2)
  unfold cmpF
  simp only
  rw [hf.disc]
  exact isC_bez hf hg e0 d1 d2 r e1 e2 hA rfl rfl
/-- whatever is a composition has the product as its reduced form -/
theorem isC_mlt {f g h : Fm} (hf : Cl D f) (hg : Cl D g) (c : IsC D f g h) : h.rd = mlt f g := isC_uniq hf hg hf hg rfl rfl c (cmp_isC hf hg)
theorem mlt_cl {f g : Fm} (hf : Cl D f) (hg : Cl D g) : Cl D (mlt f g) := (cmp_isC hf hg).1.rd
theorem mlt_Rd {f g : Fm} (hf : Cl D f) (hg : Cl D g) : Rd (mlt f g) := (cmp_isC hf hg).1.rd_Rd
theorem mlt_rd {f g : Fm} (hf : Cl D f) (hg : Cl D g) : (mlt f g).rd = mlt f g := (cmp_isC hf hg).1.rd_rd
theorem mlt_comm {f g : Fm} (hf : Cl D f) (hg : Cl D g) : mlt f g = mlt g f := isC_mlt hg hf (isC_comm (cmp_isC hf hg))
theorem mlt_class {f g f' g' : Fm} (hf : Cl D f) (hg : Cl D g) (hf' : Cl D f') (hg' : Cl D g') (ef : f.rd = f'.rd) (eg : g.rd = g'.rd) : mlt f g = mlt f' g' :=
  isC_uniq hf hg hf' hg' ef eg (cmp_isC hf hg) (cmp_isC hf' hg')
theorem mlt_assoc {f g k : Fm} (hf : Cl D f) (hg : Cl D g) (hk : Cl D k) : mlt (mlt f g) k = mlt f (mlt g k) := by
  have c1 := cmp_isC hf hg
  have c3 := cmp_isC hg hk
  have c2 := cmp_isC c1.1 hk
  have c4 := cmp_isC hf c3.1
  have h1 : mlt (mlt f g) k = mlt (cmpF f g) k := mlt_class c1.1.rd hk c1.1 hk c1.1.rd_rd rfl
  have h2 : mlt f (mlt g k) = mlt f (cmpF g k) := mlt_class hf c3.1.rd hf c3.1 rfl c3.1.rd_rd
  rw [h1, h2]
  exact isC_assoc c1 c2 c3 c4
/-- the principal form, and the mirrored one -/
def prP (D : Int) : Fm := ⟨1, D % 4, -(D / 4)⟩
theorem prP_cl {f : Fm} (hf : Cl D f) : Cl D (prP D) := by
  have hneg : D < 0 := by have h : dsc f.a f.b f.c < 0 := hf.pos.2; rw [hf.disc] at h; exact h
  obtain ⟨h1, h2⟩ := disc_par hf.disc
  have h4 : D % 4 = D % 2 := by
    unfold sD dD at h2
    rcases (show D % 2 = 0 ∨ D % 2 = 1 by omega) with e | e <;> rw [e] at h2 ⊢ <;> omega
  have hd : dsc 1 (D % 4) (-(D / 4)) = D := by
    unfold dsc
    rcases (show D % 4 = 0 ∨ D % 4 = 1 by omega) with e | e <;> rw [e] <;> omega
  refine ⟨⟨by show (0 : Int) < 1; decide, by show dsc 1 (D % 4) (-(D / 4)) < 0; rw [hd]; exact hneg⟩, ?_, hd⟩
  refine prim_ofN (fun g h _ _ => ?_)
  have h' : (g : Int) ∣ 1 := h
  have := Int.le_of_dvd (by decide) h'
  rcases (show g = 0 ∨ g = 1 by omega) with e | e
  · subst e
    have := Int.zero_dvd.1 h'
    omega
  · exact e
theorem prP_Rd {f : Fm} (hf : Cl D f) : Rd (prP D) := by
  have c := prP_cl hf
  have hneg : D < 0 := by have h : dsc f.a f.b f.c < 0 := hf.pos.2; rw [hf.disc] at h; exact h
  have h4 : D % 4 = 0 ∨ D % 4 = 1 := by
    have := c.disc
    unfold prP dsc at this
    simp only at this
    have h0 := Int.emod_nonneg D (show (4 : Int) ≠ 0 by omega)
    have h1 := Int.emod_lt_of_pos D (show (0 : Int) < 4 by omega)
    rcases (show D % 4 = 0 ∨ D % 4 = 1 ∨ D % 4 = 2 ∨ D % 4 = 3 by omega) with e | e | e | e <;> rw [e] at this <;> omega
  unfold prP
  rcases h4 with e | e
  · rw [e]; exact ⟨by show (0 : Int) < 1; decide, by show (((0 : Int).natAbs : Nat) : Int) ≤ 1; decide, by show 1 ≤ -(D / 4); omega, .inr (by show (0 : Int) ≤ 0; decide)⟩
  · rw [e]; exact ⟨by show (0 : Int) < 1; decide, by show (((1 : Int).natAbs : Nat) : Int) ≤ 1; decide, by show 1 ≤ -(D / 4); omega, .inr (by show (0 : Int) ≤ 1; decide)⟩
theorem rd_of_Rd {f : Fm} (h : Rd f) (hp : f.pos) : f.rd = f := by
  obtain ⟨m, h1, h2⟩ := rd_via hp
  have hr : Rd f.rd := Rd.rdF hp
  rw [h2] at hr ⊢
  exact red_uniq h h1 hr
theorem isC_one {f : Fm} (hf : Cl D f) : IsC D f (prP D) f := by
  have hp := prP_cl hf
  have hfk : FK (sD D) (dD D) f (kk (sD D) f) := hf.fo
  have hpk : FK (sD D) (dD D) (prP D) (kk (sD D) (prP D)) := hp.fo
  have hk2 : kk (sD D) (prP D) = 0 := by
    have h4 : (prP D).b = D % 4 := rfl
    have := hpk.b
    rw [h4] at this
    have h2 := (disc_par hf.disc).2
    unfold sD dD at *
    rcases (show D % 2 = 0 ∨ D % 2 = 1 by omega) with e | e <;> rw [e] at h2 this ⊢ <;> omega
  have cd : CD f (prP D) (sD D) (dD D) (kk (sD D) f) (kk (sD D) (prP D)) 1 0 1 0 f.a 1 (kk (sD D) f + sD D) (dD D) (kk (sD D) f) f.a := by
    rw [hk2]
    refine ⟨by omega, rfl, by omega, by show 0 * f.a + 1 * 1 + 0 * _ = (1 : Int); omega, by decide, by omega, by show 1 * _ = 0 * f.a * 0 + 1 * 1 * _ + 0 * _; omega, by omega⟩
  have h1 := isC_of (j := kk (sD D) f) (C := f.c) hf hp cd ⟨0, by omega⟩ (by
    have := hf.disc
    unfold dsc at this
    rw [← hfk.b]; exact this)
  rw [← hfk.b] at h1
  exact h1
theorem mlt_one {f : Fm} (hf : Cl D f) : mlt f (prP D) = f.rd := (isC_mlt hf (prP_cl hf) (isC_one hf)).symm
theorem mi_cl {f : Fm} (hf : Cl D f) : Cl D f.mi := by
  refine ⟨mi_pos hf.pos, ?_, ?_⟩
  · have := hf.prim
    unfold AM.prim at this ⊢
    show decide (Int.gcd f.a (Int.gcd (-f.b) f.c : Int) = 1) = true
    rw [Int.neg_gcd]; exact this
  · show dsc f.a (-f.b) f.c = D
    rw [dsc_neg]; exact hf.disc
/-- forms with the first coefficient 1 are of the principal class -/
theorem one_class {f : Fm} (hf : Cl D f) (h1 : f.a = 1) : f.rd = prP D := by
  have hp := prP_cl hf
  have hE : Eqv (prd (sD D) (dD D) [⟨1, 0⟩] (lat (sD D) f)) (prd (sD D) (dD D) [⟨1, 0⟩] (lat (sD D) (prP D))) := by
    refine (Eqv.refl _).prd ?_
    unfold lat
    rw [h1]
    exact laF_shift ⟨_, (Int.one_mul _).symm⟩
  have := lat_class hf.pos hp.pos hf.fo hp.fo hE (by rw [nm_e]; decide) (by rw [nm_e]; decide)
  rw [this]
  exact rd_of_Rd (prP_Rd hf) hp.pos
theorem mlt_inv {f : Fm} (hf : Cl D f) : mlt f f.mi = prP D := by
  have hm := mi_cl hf
  have hfk : FK (sD D) (dD D) f (kk (sD D) f) := hf.fo
  have hmk : FK (sD D) (dD D) f.mi (kk (sD D) f.mi) := hm.fo
  have hk2 : kk (sD D) f.mi = -kk (sD D) f - sD D := by
    have e1 : f.mi.b = -f.b := rfl
    have := hmk.b
    have := hfk.b
    omega
  have cd : CD f f.mi (sD D) (dD D) (kk (sD D) f) (kk (sD D) f.mi) f.a 1 0 0 1 1 0 (-f.c) (kk (sD D) f.mi) 1 := by
    have hn := hfk.n
    rw [hk2]
    refine ⟨by omega, (Int.mul_one f.a).symm, by omega, by omega, hf.pos.1, ?_, by simp, by omega⟩
    rw [Int.mul_neg, hn]; grind
  obtain ⟨C, hC⟩ := cd.form hfk hmk
  have h1 := isC_of (j := kk (sD D) f.mi) (C := C) hf hm cd ⟨0, by omega⟩ (by
    have h2 := (disc_par hf.disc).2
    rw [Int.one_mul] at hC
    rw [hC]
    generalize kk (sD D) f.mi = k at *
    generalize sD D = σ at *
    generalize dD D = δ at *
    rw [h2]; grind)
  rw [← isC_mlt hf hm h1]
  exact one_class h1.1 rfl
end
end Go.AM
end

section
/- The symbol by counting signs: multiplicative, reciprocal. -/
namespace Go.AM
open Go Go.RowKit
def prodI : List Int → Int
  | [] => 1
  | x :: l => x * prodI l
theorem prodI_perm {l m : List Int} (h : l.Perm m) : prodI l = prodI m := by
  induction h with
  | nil => rfl
  | cons x _ ih => simp only [prodI, ih]
  | swap x y l => simp only [prodI]; grind
  | trans _ _ h1 h2 => exact h1.trans h2
theorem prodI_mul {α : Type} (f g : α → Int) : ∀ l : List α, prodI (l.map fun x => f x * g x) = prodI (l.map f) * prodI (l.map g)
  | [] => rfl
  | x :: l => by simp only [List.map_cons, prodI, prodI_mul f g l]; grind
theorem sumI_add2 {α : Type} (f g : α → Int) : ∀ l : List α, sumI (l.map fun x => f x + g x) = sumI (l.map f) + sumI (l.map g)
  | [] => rfl
  | x :: l => by simp only [List.map_cons, sumI, sumI_add2 f g l]; omega
theorem sumI_mulc {α : Type} (c : Int) (f : α → Int) : ∀ l : List α, sumI (l.map fun x => c * f x) = c * sumI (l.map f)
  | [] => by simp [sumI]
  | x :: l => by simp only [List.map_cons, sumI, sumI_mulc c f l]; grind
/-- 1 .. n/2 -/
def rg (n : Int) : List Int := (List.range (n / 2).toNat).map fun (i : Nat) => (i : Int) + 1
theorem mem_rg {n x : Int} (_hn : 0 < n) : x ∈ rg n ↔ 1 ≤ x ∧ x ≤ n / 2 := by
  unfold rg
  rw [List.mem_map]
  constructor
  · rintro ⟨i, hi, rfl⟩
    rw [List.mem_range] at hi
    omega
  · rintro ⟨h1, h2⟩
    exact ⟨(x - 1).toNat, by rw [List.mem_range]; omega, by omega⟩
theorem rg_nodup (n : Int) : (rg n).Nodup := by
  unfold rg
  refine List.Pairwise.map (R := (· ≠ ·)) _ (fun a b h e => h ?_) (List.nodup_range)
  omega
def sgR (n r : Int) : Int := if r % n ≤ n / 2 then 1 else -1
def abR (n r : Int) : Int := if r % n ≤ n / 2 then r % n else n - r % n
def SS (a n : Int) : Int := prodI ((rg n).map fun x => sgR n (a * x))
section
variable {n : Int}
theorem sgR_mod (r : Int) : sgR n r = sgR n (r % n) := by unfold sgR; rw [Int.emod_emod]
theorem sgR_congr {r t : Int} (h : n ∣ r - t) : sgR n r = sgR n t := by
  rw [sgR_mod r, sgR_mod t, (Int.emod_eq_emod_iff_emod_sub_eq_zero).2 (Int.emod_eq_zero_of_dvd h)]
theorem abR_b (h0 : 0 < n) {r : Int} (hr : r % n ≠ 0) : 1 ≤ abR n r ∧ abR n r ≤ n / 2 := by
  have h1 := Int.emod_nonneg r (show n ≠ 0 by omega)
  have h2 := Int.emod_lt_of_pos r h0
  unfold abR
  split <;> omega
/-- r is plus or minus its least size -/
theorem sg_ab (r : Int) : n ∣ r - sgR n r * abR n r := by
  have e := Int.mul_ediv_add_emod r n
  unfold sgR abR
  split
  · exact ⟨r / n, by omega⟩
  · exact ⟨r / n + 1, by rw [Int.mul_add]; omega⟩
theorem sgR_neg (h0 : 0 < n) (ho : n % 2 = 1) {r : Int} (hr : r % n ≠ 0) : sgR n (-r) = -sgR n r := by
  have h1 := Int.emod_nonneg r (show n ≠ 0 by omega)
  have h2 := Int.emod_lt_of_pos r h0
  have e : (-r) % n = n - r % n := by
    have e1 := Int.mul_ediv_add_emod r n
    have e2 : -r = (n - r % n) + n * (-(r / n) - 1) := by rw [Int.mul_sub, Int.mul_neg]; omega
    rw [e2, Int.add_mul_emod_self_left, Int.emod_eq_of_lt (by omega) (by omega)]
  unfold sgR
  rw [e]
  by_cases g : r % n ≤ n / 2
  · rw [if_pos g, if_neg (by omega)]
  · rw [if_neg g, if_pos (by omega)]; rfl
theorem sgR_pm (r : Int) : sgR n r = 1 ∨ sgR n r = -1 := by unfold sgR; split; exact .inl rfl; exact .inr rfl
/-- numbers without a common divisor with n -/
def Cop (a n : Int) : Prop := Int.gcd a n = 1
instance Cop.dec (a n : Int) : Decidable (Cop a n) := inferInstanceAs (Decidable (Int.gcd a n = 1))
theorem Cop.symm {a n : Int} (h : Cop a n) : Cop n a := by unfold Cop at h ⊢; rw [Int.gcd_comm]; exact h
theorem Cop.inv {a : Int} (h : Cop a n) : ∃ b, n ∣ a * b - 1 := by
  obtain ⟨x, y, e⟩ := bez a n
  rw [h] at e
  exact ⟨x, ⟨-y, by rw [Int.mul_neg]; omega⟩⟩
theorem Cop.of_inv {a b : Int} (h : n ∣ a * b - 1) : Cop a n := by
  obtain ⟨q, hq⟩ := h
  have h1 : ((Int.gcd a n : Nat) : Int) ∣ 1 := by
    have l := Int.gcd_dvd_left (a := a) (b := n)
    have r := Int.gcd_dvd_right (a := a) (b := n)
    have e : (1 : Int) = a * b - n * q := by omega
    rw [e]
    exact Int.dvd_sub (dvdl l _) (dvdl r _)
  have := Int.le_of_dvd (by omega) h1
  have h2 : Int.gcd a n ≠ 0 := fun e => by rw [e] at h1; have := Int.zero_dvd.1 h1; omega
  unfold Cop
  omega
theorem Cop.mul {a b : Int} (h : Cop a n) (h1 : Cop b n) : Cop (a * b) n := by
  obtain ⟨x, p, hp⟩ := h.inv
  obtain ⟨y, q, hq⟩ := h1.inv
  refine Cop.of_inv (b := x * y) ⟨p * (b * y) + q, ?_⟩
  have e : a * x = 1 + n * p := by omega
  have e2 : b * y = 1 + n * q := by omega
  have : a * b * (x * y) = (a * x) * (b * y) := by grind
  rw [this, e, e2]; grind
theorem Cop.left {a b : Int} (h : Cop (a * b) n) : Cop a n := by
  obtain ⟨x, q, hq⟩ := h.inv
  exact Cop.of_inv (b := b * x) ⟨q, by rw [← hq]; grind⟩
theorem Cop.right {a b : Int} (h : Cop (a * b) n) : Cop b n := Cop.left (a := b) (b := a) (by rw [Int.mul_comm]; exact h)
theorem Cop.nz {a x : Int} (_h0 : 0 < n) (h : Cop a n) (hx : 1 ≤ x ∧ x ≤ n / 2) : (a * x) % n ≠ 0 := by
  intro e
  obtain ⟨b, q, hq⟩ := h.inv
  obtain ⟨p, hp⟩ := Int.dvd_of_emod_eq_zero e
  have : n ∣ x := ⟨b * p - q * x, by
    have e1 : a * b * x - n * q * x = x := by have : a * b = 1 + n * q := by omega
                                              rw [this]; grind
    have e2 : a * b * x = b * (n * p) := by rw [← hp]; grind
    rw [← e1, e2]; grind⟩
  have := Int.le_of_dvd (by omega) this
  omega
theorem cop_congr {a b : Int} (h : n ∣ a - b) (hb : Cop a n) : Cop b n := by
  obtain ⟨x, q, hq⟩ := hb.inv
  obtain ⟨p, hp⟩ := h
  refine Cop.of_inv (b := x) ⟨q - p * x, ?_⟩
  have e : b = a - n * p := by omega
  rw [e]
  have e2 : a * x = 1 + n * q := by omega
  have : (a - n * p) * x = a * x - n * (p * x) := by grind
  rw [this, e2]; grind
/-- x -> |b x| is a permutation -/
theorem ab_perm (h0 : 0 < n) (ho : n % 2 = 1) {b : Int} (hb : Cop b n) : ((rg n).map fun x => abR n (b * x)).Perm (rg n) := by
  have inj : ∀ x y, 1 ≤ x ∧ x ≤ n / 2 → 1 ≤ y ∧ y ≤ n / 2 → abR n (b * x) = abR n (b * y) → x = y := by
    intro x y hx hy e
    obtain ⟨c, q, hq⟩ := hb.inv
    have h1 := sg_ab (n := n) (b * x)
    have h2 := sg_ab (n := n) (b * y)
    rw [← e] at h2
    generalize abR n (b * x) = w at h1 h2
    have h3 : n ∣ x - y ∨ n ∣ x + y := by
      have cx : ∀ z, n ∣ b * z → n ∣ z := fun z ⟨p, hp⟩ => ⟨c * p - q * z, by
        have e1 : b * c * z - n * q * z = z := by have : b * c = 1 + n * q := by omega
                                                  rw [this]; grind
        have e2 : b * c * z = c * (n * p) := by rw [← hp]; grind
        rw [← e1, e2]; grind⟩
      rcases sgR_pm (n := n) (b * x) with s1 | s1 <;> rcases sgR_pm (n := n) (b * y) with s2 | s2 <;> rw [s1] at h1 <;> rw [s2] at h2
      · left; refine cx _ ?_; have := Int.dvd_sub h1 h2; have e : b * x - 1 * w - (b * y - 1 * w) = b * (x - y) := by grind
        rwa [e] at this
      · right; refine cx _ ?_; have := Int.dvd_add h1 h2; have e : b * x - 1 * w + (b * y - -1 * w) = b * (x + y) := by grind
        rwa [e] at this
      · right; refine cx _ ?_; have := Int.dvd_add h1 h2; have e : b * x - -1 * w + (b * y - 1 * w) = b * (x + y) := by grind
        rwa [e] at this
      · left; refine cx _ ?_; have := Int.dvd_sub h1 h2; have e : b * x - -1 * w - (b * y - -1 * w) = b * (x - y) := by grind
        rwa [e] at this
    rcases h3 with ⟨p, hp⟩ | ⟨p, hp⟩
    · have : p = 0 := by
        rcases (show p ≤ -1 ∨ p = 0 ∨ 1 ≤ p by omega) with g | g | g
        · have : n * p ≤ n * (-1) := Int.mul_le_mul_of_nonneg_left g (by omega)
          omega
        · exact g
        · have : n * 1 ≤ n * p := Int.mul_le_mul_of_nonneg_left g (by omega)
          omega
      subst this; omega
    · exfalso
      rcases (show p ≤ 0 ∨ 1 ≤ p by omega) with g | g
      · have : n * p ≤ n * 0 := Int.mul_le_mul_of_nonneg_left g (by omega)
        omega
      · have : n * 1 ≤ n * p := Int.mul_le_mul_of_nonneg_left g (by omega)
        omega
  refine (List.perm_ext_iff_of_nodup ?_ (rg_nodup n)).2 (fun y => ?_)
  · unfold List.Nodup
    rw [List.pairwise_map]
    refine List.Pairwise.imp_of_mem (R := (· ≠ ·)) (fun {x y} hx hy h e => h ?_) (rg_nodup n)
    exact inj x y ((mem_rg h0).1 hx) ((mem_rg h0).1 hy) e
  · rw [List.mem_map, mem_rg h0]
    constructor
    · rintro ⟨x, hx, rfl⟩
      exact abR_b h0 (hb.nz h0 ((mem_rg h0).1 hx))
    · intro hy
      obtain ⟨c, hc⟩ := hb.inv
      have hcc : Cop c n := Cop.of_inv (b := b) (by rw [Int.mul_comm]; exact hc)
      have hz := hcc.nz h0 hy
      have hx := abR_b h0 hz
      refine ⟨abR n (c * y), (mem_rg h0).2 hx, ?_⟩
      -- |b |c y|| = y
      have h1 := sg_ab (n := n) (c * y)
      have h2 := sg_ab (n := n) (b * abR n (c * y))
      have h3 := abR_b h0 (hb.nz h0 hx)
      generalize abR n (c * y) = x at *
      generalize abR n (b * x) = w at *
      have key : n ∣ y - w ∨ n ∣ y + w := by
        obtain ⟨p, hp⟩ := h1
        obtain ⟨q, hq⟩ := h2
        obtain ⟨r, hr⟩ := hc
        rcases sgR_pm (n := n) (c * y) with s1 | s1 <;> rcases sgR_pm (n := n) (b * x) with s2 | s2 <;> rw [s1] at hp <;> rw [s2] at hq
        · left; refine ⟨b * p + q - r * y, ?_⟩
          have e : y = b * c * y - n * r * y := by have : b * c = 1 + n * r := by omega
                                                   rw [this]; grind
          have e2 : b * c * y = b * (n * p + x) := by have : c * y = n * p + x := by omega
                                                      rw [Int.mul_assoc, this]
          grind
        · right; refine ⟨b * p + q - r * y, ?_⟩
          have e : y = b * c * y - n * r * y := by have : b * c = 1 + n * r := by omega
                                                   rw [this]; grind
          have e2 : b * c * y = b * (n * p + x) := by have : c * y = n * p + x := by omega
                                                      rw [Int.mul_assoc, this]
          grind
        · right; refine ⟨b * p - q - r * y, ?_⟩
          have e : y = b * c * y - n * r * y := by have : b * c = 1 + n * r := by omega
                                                   rw [this]; grind
          have e2 : b * c * y = b * (n * p - x) := by have : c * y = n * p - x := by omega
                                                      rw [Int.mul_assoc, this]
          grind
        · left; refine ⟨b * p - q - r * y, ?_⟩
          have e : y = b * c * y - n * r * y := by have : b * c = 1 + n * r := by omega
                                                   rw [this]; grind
          have e2 : b * c * y = b * (n * p - x) := by have : c * y = n * p - x := by omega
                                                      rw [Int.mul_assoc, this]
          grind
      rcases key with ⟨p, hp⟩ | ⟨p, hp⟩
      · rcases (show p ≤ -1 ∨ p = 0 ∨ 1 ≤ p by omega) with g | g | g
        · have : n * p ≤ n * (-1) := Int.mul_le_mul_of_nonneg_left g (by omega)
          omega
        · subst g; omega
        · have : n * 1 ≤ n * p := Int.mul_le_mul_of_nonneg_left g (by omega)
          omega
      · exfalso
        rcases (show p ≤ 0 ∨ 1 ≤ p by omega) with g | g
        · have : n * p ≤ n * 0 := Int.mul_le_mul_of_nonneg_left g (by omega)
          omega
        · have : n * 1 ≤ n * p := Int.mul_le_mul_of_nonneg_left g (by omega)
          omega
theorem SS_mul (h0 : 0 < n) (ho : n % 2 = 1) {a b : Int} (ha : Cop a n) (hb : Cop b n) : SS (a * b) n = SS a n * SS b n := by
  have e : (rg n).map (fun x => sgR n (a * b * x)) = (rg n).map (fun x => sgR n (a * abR n (b * x)) * sgR n (b * x)) := by
    refine List.map_congr_left (fun x hx => ?_)
    have hx := (mem_rg h0).1 hx
    have h1 := sg_ab (n := n) (b * x)
    have h2 := abR_b h0 (hb.nz h0 hx)
    have h3 := ha.nz h0 h2
    obtain ⟨q, hq⟩ := h1
    rcases sgR_pm (n := n) (b * x) with s | s
    · rw [s] at hq ⊢
      rw [Int.mul_one]
      refine sgR_congr ⟨a * q, ?_⟩
      have : b * x = n * q + abR n (b * x) := by omega
      rw [Int.mul_assoc, this]; grind
    · rw [s] at hq ⊢
      rw [Int.mul_neg, Int.mul_one, ← sgR_neg h0 ho h3]
      refine sgR_congr ⟨a * q, ?_⟩
      have : b * x = n * q - abR n (b * x) := by omega
      rw [Int.mul_assoc, this]; grind
  unfold SS
  rw [e, prodI_mul]
  congr 1
  have hp := (ab_perm h0 ho hb).map (fun y => sgR n (a * y))
  rw [List.map_map] at hp
  exact prodI_perm hp
theorem SS_congr {a b : Int} (h : n ∣ a - b) : SS a n = SS b n := by
  unfold SS
  congr 1
  refine List.map_congr_left (fun x _ => sgR_congr ?_)
  have : a * x - b * x = (a - b) * x := by grind
  rw [this]
  exact dvdl h x
theorem SS_pm (a : Int) : SS a n = 1 ∨ SS a n = -1 := by
  unfold SS
  induction rg n with
  | nil => exact .inl rfl
  | cons x l ih =>
    simp only [List.map_cons, prodI]
    rcases sgR_pm (n := n) (a * x) with h | h <;> rcases ih with g | g <;> rw [h, g] <;> simp
end
end Go.AM
end

section
/- The symbol by counting signs: 2, -1, reciprocity. -/
namespace Go.AM
open Go Go.RowKit
theorem sumI_congr {α : Type} {f g : α → Int} : ∀ {l : List α}, (∀ x ∈ l, f x = g x) → sumI (l.map f) = sumI (l.map g)
  | [], _ => rfl
  | x :: l, h => by
    simp only [List.map_cons, sumI]
    rw [h x List.mem_cons_self, sumI_congr (fun y hy => h y (List.mem_cons_of_mem _ hy))]
theorem sumI_zero {α : Type} : ∀ l : List α, sumI (l.map fun _ => (0 : Int)) = 0
  | [] => rfl
  | x :: l => by simp only [List.map_cons, sumI, sumI_zero l]; rfl
/-- two sums change places -/
theorem sumI_swap {α β : Type} (f : α → β → Int) (m : List β) : ∀ l : List α, sumI (l.map fun x => sumI (m.map fun y => f x y)) = sumI (m.map fun y => sumI (l.map fun x => f x y))
  | [] => by simp only [List.map_nil, sumI]; exact (sumI_zero m).symm
  | x :: l => by
    simp only [List.map_cons, sumI]
    rw [sumI_swap f m l, ← sumI_add2]
/-- even or odd sums -/
theorem sumI_par {α : Type} {f g : α → Int} : ∀ {l : List α}, (∀ x ∈ l, (f x - g x) % 2 = 0) → (sumI (l.map f) - sumI (l.map g)) % 2 = 0
  | [], _ => rfl
  | x :: l, h => by
    simp only [List.map_cons, sumI]
    have h1 := h x List.mem_cons_self
    have h2 := sumI_par (fun y hy => h y (List.mem_cons_of_mem _ hy))
    omega
def par (k : Int) : Int := if k % 2 = 0 then 1 else -1
theorem par_add (a b : Int) : par (a + b) = par a * par b := by
  unfold par
  rcases (show a % 2 = 0 ∨ a % 2 = 1 by omega) with h | h <;> rcases (show b % 2 = 0 ∨ b % 2 = 1 by omega) with g | g
  · rw [if_pos (by omega), if_pos h, if_pos g]; rfl
  · rw [if_neg (by omega), if_pos h, if_neg (by omega)]; rfl
  · rw [if_neg (by omega), if_neg (by omega), if_pos g]; rfl
  · rw [if_pos (by omega), if_neg (by omega), if_neg (by omega)]; rfl
theorem par_congr {a b : Int} (h : (a - b) % 2 = 0) : par a = par b := by
  unfold par
  by_cases g : a % 2 = 0
  · rw [if_pos g, if_pos (by omega)]
  · rw [if_neg g, if_neg (by omega)]
/-- whether the residue is in the upper half -/
def up (n r : Int) : Int := if r % n ≤ n / 2 then 0 else 1
theorem prod_par (n a : Int) : ∀ l : List Int, prodI (l.map fun x => sgR n (a * x)) = par (sumI (l.map fun x => up n (a * x)))
  | [] => rfl
  | x :: l => by
    simp only [List.map_cons, prodI, sumI]
    rw [par_add, prod_par n a l]
    congr 1
    unfold sgR up
    split <;> rfl
section
variable {n : Int}
theorem SS_par (a n : Int) : SS a n = par (sumI ((rg n).map fun x => up n (a * x))) := prod_par n a (rg n)
/-- Gauss: the sum of the quotients -/
theorem gauss (h0 : 0 < n) (ho : n % 2 = 1) {a : Int} (ha : Cop a n) :
    (a * sumI (rg n) - (sumI ((rg n).map fun x => a * x / n) + sumI (rg n) + sumI ((rg n).map fun x => up n (a * x)))) % 2 = 0 := by
  have e1 : a * sumI (rg n) = sumI ((rg n).map fun x => a * x) := by
    rw [sumI_mulc]; simp
  have e2 : sumI ((rg n).map fun x => abR n (a * x)) = sumI (rg n) := sumI_perm (ab_perm h0 ho ha)
  rw [e1, ← e2, ← sumI_add2, ← sumI_add2]
  refine sumI_par (fun x hx => ?_)
  have e := Int.mul_ediv_add_emod (a * x) n
  obtain ⟨q, hq⟩ : ∃ q, n = 2 * q + 1 := ⟨n / 2, by omega⟩
  unfold abR up
  generalize a * x / n = w at *
  generalize (a * x) % n = r at *
  have e3 : n * w = 2 * (q * w) + w := by rw [hq]; grind
  split <;> omega
theorem SS_odd (h0 : 0 < n) (ho : n % 2 = 1) {a : Int} (ha : Cop a n) (hao : a % 2 = 1) : SS a n = par (sumI ((rg n).map fun x => a * x / n)) := by
  rw [SS_par]
  refine par_congr ?_
  have h := gauss h0 ho ha
  generalize sumI (rg n) = S at *
  generalize sumI ((rg n).map fun x => a * x / n) = F at *
  generalize sumI ((rg n).map fun x => up n (a * x)) = N at *
  obtain ⟨q, hq⟩ : ∃ q, a = 2 * q + 1 := ⟨a / 2, by omega⟩
  have e3 : a * S = 2 * (q * S) + S := by rw [hq]; grind
  omega
/-- the numbers 1 .. h -/
theorem sum_rg : ∀ k : Nat, 2 * sumI ((List.range k).map fun (i : Nat) => (i : Int) + 1) = k * (k + 1)
  | 0 => rfl
  | k + 1 => by
    rw [List.range_succ, List.map_append, List.map_cons, List.map_nil, sumI_snoc, Int.mul_add, sum_rg k]
    rw [show ((k + 1 : Nat) : Int) = (k : Int) + 1 by omega]
    grind
theorem SS_two (h0 : 0 < n) (ho : n % 2 = 1) : SS 2 n = sg8 n := by
  have hc : Cop 2 n := Cop.of_inv (b := (n + 1) / 2) ⟨1, by omega⟩
  rw [SS_par]
  have h := gauss h0 ho hc
  have z : sumI ((rg n).map fun x => 2 * x / n) = 0 := by
    rw [sumI_congr (g := fun _ => (0 : Int)) (fun x hx => ?_), sumI_zero]
    have hx := (mem_rg h0).1 hx
    exact Int.ediv_eq_zero_of_lt (by omega) (by omega)
  rw [z] at h
  have hs := sum_rg (n / 2).toNat
  have hs' : sumI ((List.range (n / 2).toNat).map fun (i : Nat) => (i : Int) + 1) = sumI (rg n) := rfl
  rw [hs'] at hs
  rw [Int.toNat_of_nonneg (by omega)] at hs
  generalize sumI ((rg n).map fun x => up n (2 * x)) = N at *
  generalize sumI (rg n) = S at *
  obtain ⟨q, r, hq, hr0, hr⟩ : ∃ q r, n / 2 = 4 * q + r ∧ 0 ≤ r ∧ r < 4 := ⟨n / 2 / 4, n / 2 % 4, by omega, by omega, by omega⟩
  rw [hq] at hs
  have e : (4 * q + r) * (4 * q + r + 1) = 8 * (2 * (q * q) + q * r) + 4 * q + r * (r + 1) := by grind
  rw [e] at hs
  have h8 : n % 8 = 2 * r + 1 := by omega
  unfold sg8 par
  rw [h8]
  generalize q * q = qq at hs
  generalize q * r = qr at hs
  rcases (show r = 0 ∨ r = 1 ∨ r = 2 ∨ r = 3 by omega) with rfl | rfl | rfl | rfl
  · rw [if_pos (by omega), if_pos (by omega)]
  · rw [if_neg (by omega), if_neg (by omega), if_pos (by omega)]
  · rw [if_neg (by omega), if_neg (by omega), if_neg (by omega), if_pos (by omega)]
  · rw [if_pos (by omega), if_neg (by omega), if_neg (by omega), if_neg (by omega), if_pos (by omega)]
/-- as many numbers of 1 .. h as q are at most q -/
theorem cnt_le : ∀ (k : Nat) (q : Int), 0 ≤ q → q ≤ k → sumI ((List.range k).map fun (i : Nat) => if (i : Int) + 1 ≤ q then (1 : Int) else 0) = q
  | 0, q, h, h1 => by simp [sumI]; omega
  | k + 1, q, h, h1 => by
    rw [List.range_succ, List.map_append, List.map_cons, List.map_nil, sumI_snoc]
    by_cases g : (k : Int) + 1 ≤ q
    · have hq : q = (k : Int) + 1 := by omega
      rw [if_pos g]
      have := cnt_le k k (by omega) (by omega)
      have e : sumI ((List.range k).map fun (i : Nat) => if (i : Int) + 1 ≤ q then (1 : Int) else 0) = sumI ((List.range k).map fun (i : Nat) => if (i : Int) + 1 ≤ (k : Int) then (1 : Int) else 0) :=
        sumI_congr (fun x hx => by rw [List.mem_range] at hx; rw [if_pos (by omega), if_pos (by omega)])
      rw [e, this]; omega
    · rw [if_neg g, cnt_le k q h (by omega)]; omega
theorem cnt_rg {m q : Int} (h0 : 0 < m) (h : 0 ≤ q) (h1 : q ≤ m / 2) : sumI ((rg m).map fun y => if y ≤ q then (1 : Int) else 0) = q := by
  have := cnt_le (m / 2).toNat q h (by omega)
  unfold rg
  rw [List.map_map]
  exact this
theorem len_rg (m : Int) (h0 : 0 < m) : sumI ((rg m).map fun _ => (1 : Int)) = m / 2 := by
  have := cnt_rg (m := m) (q := m / 2) h0 (by omega) (by omega)
  rw [← this]
  exact sumI_congr (fun y hy => by rw [if_pos ((mem_rg h0).1 hy).2])
/-- Eisenstein: the points below a diagonal -/
theorem eisen {m : Int} (h0 : 0 < n) (ho : n % 2 = 1) (m0 : 0 < m) (mo : m % 2 = 1) (hc : Cop m n) :
    sumI ((rg n).map fun x => m * x / n) + sumI ((rg m).map fun y => n * y / m) = (m / 2) * (n / 2) := by
  have q1 : ∀ x ∈ rg n, m * x / n = sumI ((rg m).map fun y => if n * y ≤ m * x then (1 : Int) else 0) := fun x hx => by
    have hx := (mem_rg h0).1 hx
    have b0 : 0 ≤ m * x / n := Int.ediv_nonneg (Int.mul_nonneg (by omega) (by omega)) (by omega)
    have b1 : m * x / n ≤ m / 2 := by
      have h2 : m * x ≤ m * (n / 2) := Int.mul_le_mul_of_nonneg_left hx.2 (by omega)
      have h3 : m * x / n * n ≤ m * x := Int.ediv_mul_le _ (by omega)
      generalize m * x / n = w at *
      rcases Int.lt_or_le (m / 2) w with g | g
      · exfalso
        have h4 : (m / 2 + 1) * n ≤ w * n := Int.mul_le_mul_of_nonneg_right g (by omega)
        obtain ⟨a, ha⟩ : ∃ a, m = 2 * a + 1 := ⟨m / 2, by omega⟩
        obtain ⟨b, hb⟩ : ∃ b, n = 2 * b + 1 := ⟨n / 2, by omega⟩
        rw [show m / 2 = a by omega] at h4
        rw [show n / 2 = b by omega] at h2
        have e1 : (a + 1) * n = a * n + n := by grind
        have e2 : m * b = 2 * (a * b) + b := by rw [ha]; grind
        have e3 : a * n = 2 * (a * b) + a := by rw [hb]; grind
        omega
      · exact g
    rw [← cnt_rg m0 b0 b1]
    refine sumI_congr (fun y _ => ?_)
    have : y ≤ m * x / n ↔ n * y ≤ m * x := by rw [Int.le_ediv_iff_mul_le h0, Int.mul_comm]
    by_cases g : y ≤ m * x / n
    · rw [if_pos g, if_pos (this.1 g)]
    · rw [if_neg g, if_neg (fun h => g (this.2 h))]
  have q2 : ∀ y ∈ rg m, n * y / m = sumI ((rg n).map fun x => if m * x ≤ n * y then (1 : Int) else 0) := fun y hy => by
    have hy := (mem_rg m0).1 hy
    have b0 : 0 ≤ n * y / m := Int.ediv_nonneg (Int.mul_nonneg (by omega) (by omega)) (by omega)
    have b1 : n * y / m ≤ n / 2 := by
      have h2 : n * y ≤ n * (m / 2) := Int.mul_le_mul_of_nonneg_left hy.2 (by omega)
      have h3 : n * y / m * m ≤ n * y := Int.ediv_mul_le _ (by omega)
      generalize n * y / m = w at *
      rcases Int.lt_or_le (n / 2) w with g | g
      · exfalso
        have h4 : (n / 2 + 1) * m ≤ w * m := Int.mul_le_mul_of_nonneg_right g (by omega)
        obtain ⟨a, ha⟩ : ∃ a, m = 2 * a + 1 := ⟨m / 2, by omega⟩
        obtain ⟨b, hb⟩ : ∃ b, n = 2 * b + 1 := ⟨n / 2, by omega⟩
        rw [show n / 2 = b by omega] at h4
        rw [show m / 2 = a by omega] at h2
        have e1 : (b + 1) * m = b * m + m := by grind
        have e2 : n * a = 2 * (a * b) + a := by rw [hb]; grind
        have e3 : b * m = 2 * (a * b) + b := by rw [ha]; grind
        omega
      · exact g
    rw [← cnt_rg h0 b0 b1]
    refine sumI_congr (fun x _ => ?_)
    have : x ≤ n * y / m ↔ m * x ≤ n * y := by rw [Int.le_ediv_iff_mul_le m0, Int.mul_comm]
    by_cases g : x ≤ n * y / m
    · rw [if_pos g, if_pos (this.1 g)]
    · rw [if_neg g, if_neg (fun h => g (this.2 h))]
  have sw := sumI_swap (fun x y => if m * x ≤ n * y then (1 : Int) else 0) (rg m) (rg n)
  rw [sumI_congr q1, sumI_congr q2, ← sw, ← sumI_add2]
  have e : ∀ x ∈ rg n, (sumI ((rg m).map fun y => if n * y ≤ m * x then (1 : Int) else 0) + sumI ((rg m).map fun y => if m * x ≤ n * y then (1 : Int) else 0)) = m / 2 := fun x hx => by
    have hx := (mem_rg h0).1 hx
    rw [← sumI_add2, ← len_rg m m0]
    refine sumI_congr (fun y hy => ?_)
    have hne : m * x ≠ n * y := fun e => hc.nz h0 hx (by rw [e]; exact Int.mul_emod_right n y)
    by_cases g : n * y ≤ m * x
    · rw [if_pos g, if_neg (by omega)]; rfl
    · rw [if_neg g, if_pos (by omega)]; rfl
  rw [sumI_congr e]
  have : sumI ((rg n).map fun _ => m / 2) = sumI ((rg n).map fun x => m / 2 * (fun _ => (1 : Int)) x) := sumI_congr (fun _ _ => by simp)
  rw [this, sumI_mulc, len_rg n h0]
theorem SS_rec {m : Int} (h0 : 0 < n) (ho : n % 2 = 1) (m0 : 0 < m) (mo : m % 2 = 1) (hc : Cop m n) : SS m n = (if m % 4 = 3 ∧ n % 4 = 3 then -1 else 1) * SS n m := by
  have hc' : Cop n m := by unfold Cop at hc ⊢; rw [Int.gcd_comm]; exact hc
  rw [SS_odd h0 ho hc mo, SS_odd m0 mo hc' ho]
  have h := eisen h0 ho m0 mo hc
  generalize sumI ((rg n).map fun x => m * x / n) = A at *
  generalize sumI ((rg m).map fun y => n * y / m) = B at *
  have e : par A = par (m / 2 * (n / 2)) * par B := by
    rw [← par_add]
    refine par_congr ?_
    omega
  rw [e]
  congr 1
  obtain ⟨a, r, ha, hr0, hr⟩ : ∃ a r, m / 2 = 2 * a + r ∧ 0 ≤ r ∧ r < 2 := ⟨m / 2 / 2, m / 2 % 2, by omega, by omega, by omega⟩
  obtain ⟨b, t, hb, ht0, ht⟩ : ∃ b t, n / 2 = 2 * b + t ∧ 0 ≤ t ∧ t < 2 := ⟨n / 2 / 2, n / 2 % 2, by omega, by omega, by omega⟩
  have e2 : m / 2 * (n / 2) = 2 * (2 * (a * b) + a * t + r * b) + r * t := by rw [ha, hb]; grind
  rw [e2]
  unfold par
  rcases (show r = 0 ∨ r = 1 by omega) with rfl | rfl <;> rcases (show t = 0 ∨ t = 1 by omega) with rfl | rfl
  · rw [if_pos (by omega), if_neg (by omega)]
  · rw [if_pos (by omega), if_neg (by omega)]
  · rw [if_pos (by omega), if_neg (by omega)]
  · rw [if_neg (by omega), if_pos (by omega)]
theorem cop_two (ho : n % 2 = 1) : Cop 2 n := Cop.of_inv (b := (n + 1) / 2) ⟨1, by omega⟩
theorem even_of {a : Int} (h : oddB a = false) : a % 2 = 0 := by
  have : ¬ a % 2 = 1 := fun e => by unfold oddB at h; rw [e] at h; cases h
  omega
theorem tw_cop (_h0 : 0 < n) (ho : n % 2 = 1) : ∀ (B : Nat) (a : Int), a.natAbs ≤ B → 0 < a → (Cop a n ↔ Cop (tw a).1 n)
  | 0, a, h, h1 => by omega
  | B + 1, a, h, h1 => by
    cases g : oddB a
    · have h2 := even_of g
      rw [tw_even (by omega) g]
      simp only
      rw [← tw_cop _h0 ho B (a / 2) (by omega) (by omega)]
      have e : a = 2 * (a / 2) := by omega
      constructor
      · intro c
        rw [e] at c
        exact c.right
      · intro c
        rw [e]
        exact (cop_two ho).mul c
    · rw [tw_odd g]
theorem sg8_sq' {a : Int} (h : a % 2 = 1) : sg8 a * sg8 a = 1 := by
  unfold sg8
  rcases (show a % 8 = 1 ∨ a % 8 = 3 ∨ a % 8 = 5 ∨ a % 8 = 7 by omega) with e | e | e | e <;> rw [e] <;> decide
theorem tw_SS (h0 : 0 < n) (ho : n % 2 = 1) : ∀ (B : Nat) (a : Int), a.natAbs ≤ B → 0 < a → Cop (tw a).1 n → SS a n = (if (tw a).2 % 2 = 1 then sg8 n else 1) * SS (tw a).1 n
  | 0, a, h, h1, _ => by omega
  | B + 1, a, h, h1, c => by
    cases g : oddB a
    · have h2 := even_of g
      rw [tw_even (by omega) g] at c ⊢
      simp only at c ⊢
      have ih := tw_SS h0 ho B (a / 2) (by omega) (by omega) c
      have hc := (tw_cop h0 ho _ (a / 2) (Nat.le_refl _) (by omega)).2 c
      have e : SS a n = SS 2 n * SS (a / 2) n := by
        rw [← SS_mul h0 ho (cop_two ho) hc, show 2 * (a / 2) = a by omega]
      rw [e, SS_two h0 ho, ih, ← Int.mul_assoc]
      congr 1
      have hs := sg8_sq' ho
      have hp := (tw_abs _ (a / 2) (Nat.le_refl _) (by omega)).2.2.2.1
      by_cases w : (tw (a / 2)).2 % 2 = 1
      · rw [if_pos w, if_neg (by omega), hs]
      · rw [if_neg w, if_pos (by omega)]; omega
    · rw [tw_odd g, if_neg (by simp)]; simp
/-- the rounds of the program compute it -/
theorem krGo_SS : ∀ (F : Nat) (k a n : Int), a.natAbs < F → 0 ≤ a → 0 < n → n % 2 = 1 → (if (krGo F k a n).2 = 1 then (krGo F k a n).1 else 0) = if Cop a n then k * SS a n else 0
  | 0, k, a, n, h, _, _, _ => by omega
  | F + 1, k, a, n, h, ha, hn, ho => by
    rw [krGo]
    by_cases h0 : 0 < a
    · rw [if_pos h0]
      simp only
      have ht := tw_abs _ a (Nat.le_refl _) (by omega)
      have hp := ht.2.2.2.2.2 h0
      have hodd : (tw a).1 % 2 = 1 := of_decide_eq_true ht.2.2.1
      have hm := Int.emod_nonneg n (show (tw a).1 ≠ 0 by omega)
      have hl := Int.emod_lt_of_pos n hp
      rw [krGo_SS F _ (n % (tw a).1) (tw a).1 (by omega) hm hp hodd]
      have hs := tw_SS hn ho (a.natAbs) a (Nat.le_refl _) h0
      have hcop : Cop a n ↔ Cop (tw a).1 n := tw_cop hn ho (a.natAbs) a (Nat.le_refl _) h0
      have hcc : Cop (n % (tw a).1) (tw a).1 ↔ Cop (tw a).1 n := by
        have e := Int.mul_ediv_add_emod n (tw a).1
        constructor
        · intro g
          exact (cop_congr (n := (tw a).1) (a := n % (tw a).1) (b := n) ⟨-(n / (tw a).1), by rw [Int.mul_neg]; omega⟩ g).symm
        · intro g
          exact cop_congr (n := (tw a).1) (a := n) (b := n % (tw a).1) ⟨n / (tw a).1, by omega⟩ g.symm
      by_cases c : Cop (tw a).1 n
      · rw [if_pos (hcc.2 c), if_pos (hcop.2 c), hs c, SS_rec hn ho hp hodd c]
        have e : SS (n % (tw a).1) (tw a).1 = SS n (tw a).1 := SS_congr ⟨-(n / (tw a).1), by
          have := Int.mul_ediv_add_emod n (tw a).1
          rw [Int.mul_neg]; omega⟩
        rw [e]
        by_cases g : (tw a).1 % 4 = 3 ∧ n % 4 = 3 <;> by_cases w : (tw a).2 % 2 = 1 <;> simp only [g, w, if_true, if_false, and_self] <;> grind
      · rw [if_neg (fun g => c (hcc.1 g)), if_neg (fun g => c (hcop.1 g))]
    · rw [if_neg h0]
      have : a = 0 := by omega
      subst this
      simp only
      by_cases g : n = 1
      · subst g
        rw [if_pos rfl, if_pos (by unfold Cop; decide)]
        have : SS 0 1 = 1 := by decide
        rw [this]; omega
      · rw [if_neg g, if_neg (fun c => g (by unfold Cop at c; rw [Int.gcd_zero_left] at c; omega))]
theorem cop_mod (n a : Int) : Cop (a % n) n ↔ Cop a n := by
  have e := Int.mul_ediv_add_emod a n
  constructor
  · intro g
    exact cop_congr (n := n) (a := a % n) (b := a) ⟨-(a / n), by rw [Int.mul_neg]; omega⟩ g
  · intro g
    exact cop_congr (n := n) (a := a) (b := a % n) ⟨a / n, by omega⟩ g
theorem SS_mod (n a : Int) : SS (a % n) n = SS a n := SS_congr ⟨-(a / n), by
  have := Int.mul_ediv_add_emod a n
  rw [Int.mul_neg]; omega⟩
theorem kr_SS {a : Int} (hn : 0 < n) (ho : n % 2 = 1) : kr a n = if Cop a n then SS a n else 0 := by
  have hob : oddB n = true := decide_eq_true ho
  have ea : ((n.natAbs : Nat) : Int) = n := by omega
  have hk : k1K a n = 1 := by unfold k1K k0K; rw [ea, tw_odd hob, if_neg (by simp), if_neg (by omega)]
  rw [kr_go (by omega) (by rw [hob]; simp)]
  unfold RK_
  rw [ea, tw_odd hob, hk]
  have h := krGo_SS (a % n).natAbs.succ 1 (a % n) n (Nat.lt_succ_self _) (Int.emod_nonneg a (by omega)) hn ho
  rw [Int.one_mul, SS_mod] at h
  by_cases c : Cop a n
  · rw [if_pos ((cop_mod n a).2 c)] at h
    rw [if_pos c]; exact h
  · rw [if_neg (fun g => c ((cop_mod n a).1 g))] at h
    rw [if_neg c]; exact h
/-- the symbol is multiplicative above -/
theorem kr_mulA {a b : Int} (hn : 0 < n) (ho : n % 2 = 1) : kr (a * b) n = kr a n * kr b n := by
  rw [kr_SS hn ho, kr_SS hn ho, kr_SS hn ho]
  by_cases ca : Cop a n
  · by_cases cb : Cop b n
    · rw [if_pos ca, if_pos cb, if_pos (ca.mul cb), SS_mul hn ho ca cb]
    · rw [if_neg cb, if_neg (fun c => cb c.right), Int.mul_zero]
  · rw [if_neg ca, if_neg (fun c => ca c.left), Int.zero_mul]
theorem kr_congrA {a b : Int} (hn : 0 < n) (ho : n % 2 = 1) (h : n ∣ a - b) : kr a n = kr b n := by
  have h' : n ∣ b - a := by obtain ⟨q, hq⟩ := h; exact ⟨-q, by rw [Int.mul_neg]; omega⟩
  rw [kr_SS hn ho, kr_SS hn ho, SS_congr h]
  by_cases c : Cop a n
  · rw [if_pos c, if_pos (cop_congr h c)]
  · rw [if_neg c, if_neg (fun g => c (cop_congr h' g))]
theorem kr_sqA {a : Int} (hn : 0 < n) (ho : n % 2 = 1) (c : Cop a n) : kr (a * a) n = 1 := by
  rw [kr_mulA hn ho, kr_SS hn ho, if_pos c]
  rcases SS_pm (n := n) a with h | h <;> rw [h] <;> rfl
end
end Go.AM
end

section
/- Values of a form that have no common divisor with a number. -/
namespace Go.AM
open Go Go.RowKit
def Pr (p : Nat) : Prop := 2 ≤ p ∧ ∀ x y : Nat, p ∣ x * y → p ∣ x ∨ p ∣ y
theorem has_pr : ∀ (B n : Nat), n ≤ B → 2 ≤ n → ∃ p, Pr p ∧ p ∣ n
  | 0, n, h, h2 => by omega
  | B + 1, n, h, h2 => by
    by_cases hd : ∃ d, 2 ≤ d ∧ d < n ∧ d ∣ n
    · obtain ⟨d, d2, dn, hdn⟩ := hd
      obtain ⟨p, hp, hpd⟩ := has_pr B d (by omega) d2
      exact ⟨p, hp, Nat.dvd_trans hpd hdn⟩
    · refine ⟨n, ⟨h2, fun x y hxy => ?_⟩, Nat.dvd_refl n⟩
      have hg := Nat.gcd_dvd_left n x
      have hle := Nat.le_of_dvd (by omega) hg
      have h0 : Nat.gcd n x ≠ 0 := fun e => by rw [e] at hg; have := Nat.eq_zero_of_zero_dvd hg; omega
      rcases (show Nat.gcd n x = 1 ∨ Nat.gcd n x = n ∨ (2 ≤ Nat.gcd n x ∧ Nat.gcd n x < n) by omega) with e | e | e
      · exact .inr (Nat.Coprime.dvd_of_dvd_mul_left e hxy)
      · left; rw [← e]; exact Nat.gcd_dvd_right n x
      · exact absurd ⟨_, e.1, e.2, hg⟩ hd
theorem pr_cop {p n : Nat} (hp : Pr p) (h : ¬ p ∣ n) : Nat.Coprime n p := by
  have hg := Nat.gcd_dvd_right n p
  obtain ⟨q, hq⟩ := hg
  rcases hp.2 (Nat.gcd n p) q ⟨1, by rw [← hq]; omega⟩ with g | g
  · exact absurd (Nat.dvd_trans g (Nat.gcd_dvd_left n p)) h
  · obtain ⟨w, hw⟩ := g
    have h1 : p * 1 = p * (Nat.gcd n p * w) := by
      have : Nat.gcd n p * q = p * (Nat.gcd n p * w) := by rw [hw]; grind
      omega
    have h2 := Nat.eq_of_mul_eq_mul_left (show 0 < p by have := hp.1; omega) h1
    exact Nat.eq_one_of_mul_eq_one_right h2.symm
/-- a number is a power of a prime times a number without it -/
theorem split_pr {p : Nat} (hp : Pr p) : ∀ (B a : Nat), a ≤ B → 1 ≤ a → ∃ k m, a = p ^ k * m ∧ ¬ p ∣ m ∧ 1 ≤ m ∧ (p ∣ a → p * m ≤ a)
  | 0, a, h, h1 => by omega
  | B + 1, a, h, h1 => by
    by_cases hd : p ∣ a
    · obtain ⟨b, rfl⟩ := hd
      have hb : 1 ≤ b := by
        rcases Nat.eq_zero_or_pos b with e | e
        · subst e; simp at h1
        · exact e
      have h2 : 2 * b ≤ p * b := Nat.mul_le_mul_right b hp.1
      obtain ⟨k, m, e, hm, m1, _⟩ := split_pr hp B b (by omega) hb
      refine ⟨k + 1, m, by rw [e, Nat.pow_succ]; grind, hm, m1, fun _ => Nat.mul_le_mul_left p ?_⟩
      rw [e]
      have : 1 ≤ p ^ k := Nat.pow_pos (by have := hp.1; omega)
      have : 1 * m ≤ p ^ k * m := Nat.mul_le_mul_right m this
      omega
    · exact ⟨0, a, by simp, hd, h1, fun x => absurd x hd⟩
section
variable {A B C : Int}
/-- some point of nine has a value without the prime -/
theorem grid {p : Nat} (hp : Pr p) (pf : prim A B C = true) {m : Nat} (hm : ¬ p ∣ m) (x y : Int) : ∃ i j : Nat, i ≤ 2 ∧ j ≤ 2 ∧ ¬ (p : Int) ∣ vl A B C (x + m * i) (y + m * j) := by
  by_cases h : ∃ i j : Nat, i ≤ 2 ∧ j ≤ 2 ∧ ¬ (p : Int) ∣ vl A B C (x + m * i) (y + m * j)
  · exact h
  · exfalso
    have all : ∀ i j : Nat, i ≤ 2 → j ≤ 2 → (p : Int) ∣ vl A B C (x + m * i) (y + m * j) := fun i j hi hj => by
      by_cases g : (p : Int) ∣ vl A B C (x + m * i) (y + m * j)
      · exact g
      · exact absurd ⟨i, j, hi, hj, g⟩ h
    have eu : ∀ u v : Int, (p : Int) ∣ u * v → (p : Int) ∣ u ∨ (p : Int) ∣ v := fun u v h => by
      have h1 := Int.natAbs_dvd_natAbs.2 h
      rw [Int.natAbs_mul, Int.natAbs_natCast] at h1
      rcases hp.2 _ _ h1 with g | g
      · exact .inl (Int.ofNat_dvd_left.2 g)
      · exact .inr (Int.ofNat_dvd_left.2 g)
    have nm : ¬ (p : Int) ∣ (m : Int) := fun h => hm (Int.natCast_dvd_natCast.1 h)
    have a00 := all 0 0 (by omega) (by omega)
    have a10 := all 1 0 (by omega) (by omega)
    have a20 := all 2 0 (by omega) (by omega)
    have a01 := all 0 1 (by omega) (by omega)
    have a02 := all 0 2 (by omega) (by omega)
    have a11 := all 1 1 (by omega) (by omega)
    have a21 := all 2 1 (by omega) (by omega)
    have a12 := all 1 2 (by omega) (by omega)
    have hB : (p : Int) ∣ B := by
      have h1 := Int.dvd_add (Int.dvd_sub (Int.dvd_sub a11 a10) a01) a00
      have e : vl A B C (x + m * (1 : Nat)) (y + m * (1 : Nat)) - vl A B C (x + m * (1 : Nat)) (y + m * (0 : Nat)) - vl A B C (x + m * (0 : Nat)) (y + m * (1 : Nat)) + vl A B C (x + m * (0 : Nat)) (y + m * (0 : Nat)) = B * (m * m) := by
        unfold vl; simp; grind
      rw [e] at h1
      rcases eu _ _ h1 with g | g
      · exact g
      · rcases eu _ _ g with g | g <;> exact absurd g nm
    have d1 : ∀ i j : Nat, i ≤ 1 → j ≤ 2 → (p : Int) ∣ A * (2 * (x + m * i) + m) := fun i j hi hj => by
      have h1 := Int.dvd_sub (all (i + 1) 0 (by omega) (by omega)) (all i 0 (by omega) (by omega))
      have e : vl A B C (x + m * ((i + 1 : Nat) : Int)) (y + m * (0 : Nat)) - vl A B C (x + m * (i : Int)) (y + m * (0 : Nat)) = m * (A * (2 * (x + m * i) + m)) + B * (m * y) := by
        unfold vl; simp; grind
      rw [e] at h1
      have h2 := Int.dvd_sub h1 (dvdl hB (m * y))
      rw [Int.add_sub_cancel] at h2
      rcases eu _ _ h2 with g | g
      · exact absurd g nm
      · exact g
    have d2 : ∀ j : Nat, j ≤ 1 → (p : Int) ∣ C * (2 * (y + m * j) + m) := fun j hj => by
      have h1 := Int.dvd_sub (all 0 (j + 1) (by omega) (by omega)) (all 0 j (by omega) (by omega))
      have e : vl A B C (x + m * (0 : Nat)) (y + m * ((j + 1 : Nat) : Int)) - vl A B C (x + m * (0 : Nat)) (y + m * (j : Int)) = m * (C * (2 * (y + m * j) + m)) + B * (m * x) := by
        unfold vl; simp; grind
      rw [e] at h1
      have h2 := Int.dvd_sub h1 (dvdl hB (m * x))
      rw [Int.add_sub_cancel] at h2
      rcases eu _ _ h2 with g | g
      · exact absurd g nm
      · exact g
    have fin : ∀ (T z : Int), (p : Int) ∣ T * (2 * (z + m * (0 : Nat)) + m) → (p : Int) ∣ T * (2 * (z + m * (1 : Nat)) + m) → (p : Int) ∣ T := fun T z h0 h1 => by
      by_cases hT : (p : Int) ∣ T
      · exact hT
      · exfalso
        have g0 := (eu _ _ h0).resolve_left hT
        have g1 := (eu _ _ h1).resolve_left hT
        have g2 := Int.dvd_sub g1 g0
        have e : 2 * (z + m * ((1 : Nat) : Int)) + m - (2 * (z + m * ((0 : Nat) : Int)) + m) = 2 * (m : Int) := by simp; omega
        rw [e] at g2
        have p2 := (eu _ _ g2).resolve_right nm
        have g3 := Int.dvd_sub g0 (dvdl p2 (z + m * (0 : Nat)))
        have e2 : 2 * (z + m * ((0 : Nat) : Int)) + m - 2 * (z + m * ((0 : Nat) : Int)) = (m : Int) := by omega
        rw [e2] at g3
        exact nm g3
    have hA := fin A x (d1 0 0 (by omega) (by omega)) (d1 1 0 (by omega) (by omega))
    have hC := fin C y (d2 0 (by omega)) (d2 1 (by omega))
    have h := Int.dvd_coe_gcd hA (Int.dvd_coe_gcd hB hC)
    unfold prim at pf
    rw [of_decide_eq_true pf] at h
    have := Int.le_of_dvd (by omega) h
    have := hp.1
    omega
theorem vl_congr {m : Int} (x y i j : Int) : m ∣ vl A B C (x + m * i) (y + m * j) - vl A B C x y :=
  ⟨A * (2 * x * i + m * i * i) + B * (x * j + i * y + m * i * j) + C * (2 * y * j + m * j * j), by unfold vl; grind⟩
theorem cop_step {p : Nat} (hp : Pr p) (pf : prim A B C = true) {a : Nat} (h1 : 1 ≤ a) (hpa : p ∣ a) (ih : ∀ m, 1 ≤ m → m < a → ∃ x y : Nat, Nat.Coprime (vl A B C x y).natAbs m ∧ x + y ≤ 4 * m) :
    ∃ x y : Nat, Nat.Coprime (vl A B C x y).natAbs a ∧ p * (x + y) ≤ 8 * a := by
  obtain ⟨k, m, e, hm, m1, hle⟩ := split_pr hp a a (Nat.le_refl a) h1
  have hle := hle hpa
  have hp2 := hp.1
  have hlt : m < a := by
    have : 2 * m ≤ p * m := Nat.mul_le_mul_right m hp2
    omega
  obtain ⟨x, y, hc, hb⟩ := ih m m1 hlt
  obtain ⟨i, j, hi, hj, hv⟩ := grid hp pf hm (x : Int) (y : Int)
  have mi : m * i ≤ m * 2 := Nat.mul_le_mul_left m hi
  have mj : m * j ≤ m * 2 := Nat.mul_le_mul_left m hj
  refine ⟨x + m * i, y + m * j, ?_, ?_⟩
  · have ex : ((x + m * i : Nat) : Int) = (x : Int) + m * i := by rw [Int.natCast_add, Int.natCast_mul]
    have ey : ((y + m * j : Nat) : Int) = (y : Int) + m * j := by rw [Int.natCast_add, Int.natCast_mul]
    rw [ex, ey]
    have c1 : Nat.Coprime (vl A B C ((x : Int) + m * i) (y + m * j)).natAbs m := by
      have hg := vl_congr (A := A) (B := B) (C := C) (m := (m : Int)) (x : Int) (y : Int) i j
      generalize vl A B C ((x : Int) + m * i) (y + m * j) = V at *
      generalize vl A B C (x : Int) (y : Int) = W at *
      have d1 := Nat.gcd_dvd_left V.natAbs m
      have d2 := Nat.gcd_dvd_right V.natAbs m
      have d3 : ((Nat.gcd V.natAbs m : Nat) : Int) ∣ W := by
        have e1 : ((Nat.gcd V.natAbs m : Nat) : Int) ∣ V := Int.ofNat_dvd_left.2 d1
        have e2 : ((Nat.gcd V.natAbs m : Nat) : Int) ∣ (m : Int) := Int.natCast_dvd_natCast.2 d2
        have e3 := Int.dvd_sub e1 (Int.dvd_trans e2 hg)
        have : V - (V - W) = W := by omega
        rwa [this] at e3
      have d4 := Nat.dvd_gcd (Int.ofNat_dvd_left.1 d3) d2
      unfold Nat.Coprime at hc ⊢
      rw [hc] at d4
      exact Nat.eq_one_of_dvd_one d4
    have c2 : Nat.Coprime (vl A B C ((x : Int) + m * i) (y + m * j)).natAbs p := pr_cop hp (fun h => hv (Int.ofNat_dvd_left.2 h))
    rw [e]
    exact Nat.Coprime.mul_right (Nat.Coprime.pow_right k c2) c1
  · have : p * (x + m * i + (y + m * j)) ≤ p * (8 * m) := Nat.mul_le_mul_left p (by omega)
    have e2 : p * (8 * m) = 8 * (p * m) := Nat.mul_left_comm ..
    omega
theorem cop_any (pf : prim A B C = true) : ∀ (n a : Nat), a ≤ n → 1 ≤ a → ∃ x y : Nat, Nat.Coprime (vl A B C x y).natAbs a ∧ x + y ≤ 4 * a
  | 0, a, h, h1 => by omega
  | n + 1, a, h, h1 => by
    by_cases h2 : a = 1
    · subst h2
      exact ⟨0, 0, Nat.coprime_one_right _, by omega⟩
    · obtain ⟨p, hp, hpa⟩ := has_pr a a (Nat.le_refl a) (by omega)
      obtain ⟨x, y, hc, hb⟩ := cop_step hp pf h1 hpa (fun m m1 hm => cop_any pf n m (by omega) m1)
      refine ⟨x, y, hc, ?_⟩
      have : 2 * (x + y) ≤ p * (x + y) := Nat.mul_le_mul_right _ hp.1
      omega
theorem pr_small {q : Nat} (hq : Pr q) (h : q ≤ 16) : q ∣ 30030 := by
  have h2 := hq.1
  rcases (show q = 2 ∨ q = 3 ∨ q = 4 ∨ q = 5 ∨ q = 6 ∨ q = 7 ∨ q = 8 ∨ q = 9 ∨ q = 10 ∨ q = 11 ∨ q = 12 ∨ q = 13 ∨ q = 14 ∨ q = 15 ∨ q = 16 by omega) with rfl | rfl | rfl | rfl | rfl | rfl | rfl | rfl | rfl | rfl | rfl | rfl | rfl | rfl | rfl
  · decide
  · decide
  · rcases hq.2 2 2 (by decide) with g | g <;> revert g <;> decide
  · decide
  · rcases hq.2 2 3 (by decide) with g | g <;> revert g <;> decide
  · decide
  · rcases hq.2 2 4 (by decide) with g | g <;> revert g <;> decide
  · rcases hq.2 3 3 (by decide) with g | g <;> revert g <;> decide
  · rcases hq.2 2 5 (by decide) with g | g <;> revert g <;> decide
  · decide
  · rcases hq.2 3 4 (by decide) with g | g <;> revert g <;> decide
  · decide
  · rcases hq.2 2 7 (by decide) with g | g <;> revert g <;> decide
  · rcases hq.2 3 5 (by decide) with g | g <;> revert g <;> decide
  · rcases hq.2 4 4 (by decide) with g | g <;> revert g <;> decide
theorem not_cop {u v : Nat} (hv : 1 ≤ v) (h : ¬ Nat.Coprime u v) : ∃ q, Pr q ∧ q ∣ u ∧ q ∣ v := by
  have h0 : Nat.gcd u v ≠ 0 := fun e => by
    have hg := Nat.gcd_dvd_right u v
    rw [e] at hg
    have := Nat.eq_zero_of_zero_dvd hg
    omega
  obtain ⟨q, hq, hd⟩ := has_pr (Nat.gcd u v) (Nat.gcd u v) (Nat.le_refl _) (by unfold Nat.Coprime at h; omega)
  exact ⟨q, hq, Nat.dvd_trans hd (Nat.gcd_dvd_left u v), Nat.dvd_trans hd (Nat.gcd_dvd_right u v)⟩
/-- the search ends within the numbers of 63 bits -/
theorem cop_64 (pf : prim A B C = true) {a : Nat} (h1 : 1 ≤ a) (h2 : a < 18446744073709551616) : ∃ x y : Nat, Nat.Coprime (vl A B C x y).natAbs a ∧ x + y ≤ 9000000000000000000 := by
  by_cases h : ∃ p, Pr p ∧ p ∣ a ∧ 17 ≤ p
  · obtain ⟨p, hp, hpa, h17⟩ := h
    obtain ⟨x, y, hc, hb⟩ := cop_step hp pf h1 hpa (fun m m1 _ => cop_any pf m m (Nat.le_refl m) m1)
    refine ⟨x, y, hc, ?_⟩
    have : 17 * (x + y) ≤ p * (x + y) := Nat.mul_le_mul_right _ h17
    omega
  · obtain ⟨x, y, hc, hb⟩ := cop_any pf 30030 30030 (by omega) (by omega)
    refine ⟨x, y, ?_, by omega⟩
    by_cases g : Nat.Coprime (vl A B C x y).natAbs a
    · exact g
    · exfalso
      obtain ⟨q, hq, d1, d2⟩ := not_cop h1 g
      have h16 : q ≤ 16 := by
        rcases Nat.lt_or_ge 16 q with g | g
        · exact absurd ⟨q, hq, d2, g⟩ h
        · exact g
      have d3 := Nat.dvd_gcd d1 (pr_small hq h16)
      rw [hc] at d3
      have := Nat.le_of_dvd (by omega) d3
      have := hq.1
      omega
theorem vl_scale (g x y : Int) : vl A B C (g * x) (g * y) = g * g * vl A B C x y := by unfold vl; grind
theorem cop_prim (pf : prim A B C = true) {a : Nat} (h1 : 1 ≤ a) (h2 : a < 18446744073709551616) : ∃ x y : Nat, Nat.gcd x y = 1 ∧ Nat.Coprime (vl A B C x y).natAbs a ∧ 1 ≤ x + y ∧ x + y ≤ 9000000000000000000 := by
  obtain ⟨x, y, hc, hb⟩ := cop_64 pf h1 h2
  by_cases h0 : x = 0 ∧ y = 0
  · obtain ⟨rfl, rfl⟩ := h0
    have e : vl A B C ((0 : Nat) : Int) ((0 : Nat) : Int) = 0 := by unfold vl; simp
    rw [e] at hc
    have ha : a = 1 := by unfold Nat.Coprime at hc; simpa using hc
    subst ha
    exact ⟨1, 0, rfl, Nat.coprime_one_right _, by omega, by omega⟩
  · obtain ⟨u, hu⟩ := Nat.gcd_dvd_left x y
    obtain ⟨v, hv⟩ := Nat.gcd_dvd_right x y
    have hg : 0 < Nat.gcd x y := by
      rcases Nat.eq_zero_or_pos (Nat.gcd x y) with e | e
      · have := Nat.eq_zero_of_gcd_eq_zero_left e
        have := Nat.eq_zero_of_gcd_eq_zero_right e
        omega
      · exact e
    have hcop : Nat.gcd u v = 1 := by
      have : Nat.gcd x y * Nat.gcd u v = Nat.gcd x y * 1 := by
        rw [← Nat.gcd_mul_left, ← hu, ← hv, Nat.mul_one]
      exact Nat.eq_of_mul_eq_mul_left hg this
    generalize Nat.gcd x y = g at *
    have l1 : 1 * u ≤ g * u := Nat.mul_le_mul_right u hg
    have l2 : 1 * v ≤ g * v := Nat.mul_le_mul_right v hg
    refine ⟨u, v, hcop, ?_, ?_, by omega⟩
    · subst hu hv
      rw [Int.natCast_mul, Int.natCast_mul, vl_scale, Int.natAbs_mul] at hc
      exact Nat.Coprime.coprime_mul_left hc
    · rcases Nat.eq_zero_or_pos (u + v) with e | e
      · have : u = 0 := by omega
        have : v = 0 := by omega
        subst u v
        simp at hcop
      · exact e
end
end Go.AM
end

section
/- Bezout's numbers, as the program and the reference find them. -/
namespace Go.AM
open Go Go.RowKit
def bzU (a b : Int) : Int := if b = 0 then sgn a else (xg b.natAbs a b).1 % (b / (Int.gcd a b : Nat))
def bzV (a b : Int) : Int := if b = 0 then 0 else ((Int.gcd a b : Nat) - bzU a b * a) / b
theorem gcd_pos' {a b : Int} (hb : b ≠ 0) : (0 : Int) < (Int.gcd a b : Nat) := by
  have h := Int.gcd_dvd_right (a := a) (b := b)
  rcases Nat.eq_zero_or_pos (Int.gcd a b) with e | e
  · rw [e] at h
    exact absurd (Int.zero_dvd.1 h) hb
  · omega
theorem bz_uniq {a b u v : Int} (hb : b ≠ 0) (h1 : b ∣ u * a - (Int.gcd a b : Nat)) (h2 : b ∣ v * a - (Int.gcd a b : Nat)) : u % (b / (Int.gcd a b : Nat)) = v % (b / (Int.gcd a b : Nat)) := by
  have g0 := gcd_pos' (a := a) hb
  obtain ⟨x, hx⟩ := Int.gcd_dvd_left (a := a) (b := b)
  obtain ⟨y, hy⟩ := Int.gcd_dvd_right (a := a) (b := b)
  have hxy : Int.gcd x y = 1 := by
    have h := Int.gcd_mul_left (Int.gcd a b : Nat) x y
    rw [← hx, ← hy, Int.natAbs_natCast] at h
    exact (Nat.eq_of_mul_eq_mul_left (show 0 < Int.gcd a b by omega) (by omega)).symm
  have hq : b / ((Int.gcd a b : Nat) : Int) = y := by
    have : b = ((Int.gcd a b : Nat) : Int) * y := hy
    generalize ((Int.gcd a b : Nat) : Int) = g at *
    rw [this, Int.mul_ediv_cancel_left _ (by omega)]
  rw [hq]
  have h3 := Int.dvd_sub h1 h2
  have e : u * a - (Int.gcd a b : Nat) - (v * a - (Int.gcd a b : Nat)) = (u - v) * a := by grind
  rw [e] at h3
  obtain ⟨k, hk⟩ := h3
  have h4 : y ∣ (u - v) * x := by
    refine ⟨k, ?_⟩
    have e1 : ((Int.gcd a b : Nat) : Int) * ((u - v) * x) = ((Int.gcd a b : Nat) : Int) * (y * k) := by
      have l : ((Int.gcd a b : Nat) : Int) * ((u - v) * x) = (u - v) * (((Int.gcd a b : Nat) : Int) * x) := by grind
      rw [l, ← hx, hk]
      rw [← Int.mul_assoc, ← hy]
    exact Int.eq_of_mul_eq_mul_left (by omega) e1
  have h5 : y ∣ u - v := by
    have h6 := Int.natAbs_dvd_natAbs.2 h4
    rw [Int.natAbs_mul] at h6
    have hc : Nat.Coprime y.natAbs x.natAbs := by
      unfold Nat.Coprime
      rw [Nat.gcd_comm]; exact hxy
    exact Int.natAbs_dvd_natAbs.1 (Nat.Coprime.dvd_of_dvd_mul_right hc h6)
  exact (Int.emod_eq_emod_iff_emod_sub_eq_zero).2 (Int.emod_eq_zero_of_dvd h5)
theorem xg_dvd (a b : Int) : b ∣ (xg b.natAbs a b).1 * a - (Int.gcd a b : Nat) :=
  ⟨-(xg b.natAbs a b).2, by rw [← xg_eq b.natAbs a b (Nat.le_refl _)]; grind⟩
theorem bzU_eq {a b u : Int} (hb : b ≠ 0) (h : b ∣ u * a - (Int.gcd a b : Nat)) : u % (b / (Int.gcd a b : Nat)) = bzU a b := by
  unfold bzU
  rw [if_neg hb]
  exact bz_uniq hb h (xg_dvd a b)
theorem bzU_dvd {a b : Int} (hb : b ≠ 0) : b ∣ bzU a b * a - (Int.gcd a b : Nat) := by
  unfold bzU
  rw [if_neg hb]
  obtain ⟨k, hk⟩ := xg_dvd a b
  generalize (xg b.natAbs a b).1 = u at *
  obtain ⟨x, hx⟩ := Int.gcd_dvd_left (a := a) (b := b)
  obtain ⟨y, hy⟩ := Int.gcd_dvd_right (a := a) (b := b)
  have g0 := gcd_pos' (a := a) hb
  have hq : b / ((Int.gcd a b : Nat) : Int) = y := by
    have : b = ((Int.gcd a b : Nat) : Int) * y := hy
    generalize ((Int.gcd a b : Nat) : Int) = g at *
    rw [this, Int.mul_ediv_cancel_left _ (by omega)]
  rw [hq]
  have e := Int.mul_ediv_add_emod u y
  refine ⟨k - (u / y) * x, ?_⟩
  have e1 : u % y = u - y * (u / y) := by omega
  rw [e1]
  generalize u / y = w at *
  have e2 : y * a = b * x := by
    have l : y * a = ((Int.gcd a b : Nat) : Int) * (y * x) := by
      have : a = ((Int.gcd a b : Nat) : Int) * x := hx
      generalize ((Int.gcd a b : Nat) : Int) = g at *
      rw [this]; grind
    rw [l, ← Int.mul_assoc, ← hy]
  have e3 : (u - y * w) * a - (Int.gcd a b : Nat) = (u * a - (Int.gcd a b : Nat)) - w * (y * a) := by grind
  rw [e3, hk, e2]; grind
theorem bz_eq (a b : Int) : bzU a b * a + bzV a b * b = (Int.gcd a b : Nat) := by
  by_cases hb : b = 0
  · subst hb
    unfold bzU bzV
    rw [if_pos rfl, Int.gcd_zero_right]
    unfold sgn
    split
    · simp; omega
    · split
      · simp; omega
      · simp; omega
  · obtain ⟨k, hk⟩ := bzU_dvd (a := a) hb
    unfold bzV
    rw [if_neg hb]
    have : ((Int.gcd a b : Nat) : Int) - bzU a b * a = b * -k := by rw [Int.mul_neg, ← hk]; omega
    rw [this, Int.mul_ediv_cancel_left _ hb]
    rw [Int.mul_neg] at this
    grind
theorem bzU_b {a b : Int} (hb : b ≠ 0) : 0 ≤ bzU a b ∧ bzU a b ≤ b.natAbs := by
  unfold bzU
  rw [if_neg hb]
  obtain ⟨y, hy⟩ := Int.gcd_dvd_right (a := a) (b := b)
  have g0 := gcd_pos' (a := a) hb
  have hq : b / ((Int.gcd a b : Nat) : Int) = y := by
    have : b = ((Int.gcd a b : Nat) : Int) * y := hy
    generalize ((Int.gcd a b : Nat) : Int) = g at *
    rw [this, Int.mul_ediv_cancel_left _ (by omega)]
  rw [hq]
  have hy0 : y ≠ 0 := fun e => by rw [e, Int.mul_zero] at hy; exact hb hy
  have h1 := Int.emod_nonneg ((xg b.natAbs a b).1) hy0
  have h2 := Int.emod_lt ((xg b.natAbs a b).1) hy0
  have h3 : y.natAbs ≤ b.natAbs := by
    have := congrArg Int.natAbs hy
    rw [Int.natAbs_mul, Int.natAbs_natCast] at this
    have h4 : 1 * y.natAbs ≤ Int.gcd a b * y.natAbs := Nat.mul_le_mul_right _ (by omega)
    omega
  omega
/-- the rounds: g and x are the numbers, u and v their multipliers of a, modulo b -/
structure BzI (a b g x u v : Int) : Prop where
  g0 : 0 < g
  x0 : 0 ≤ x
  gb : g ≤ b.natAbs
  xb : x ≤ b.natAbs
  cu : b ∣ u * a - g
  cv : b ∣ v * a - x
  gc : Int.gcd g x = Int.gcd a b
  sg : (u ≤ 0 ∧ 0 ≤ v) ∨ (0 ≤ u ∧ v ≤ 0)
  id : (u.natAbs : Int) * x + (v.natAbs : Int) * g = b.natAbs
  ub : (u.natAbs : Int) ≤ b.natAbs
theorem BzI.vb {a b g x u v : Int} (i : BzI a b g x u v) : (v.natAbs : Int) ≤ b.natAbs := by
  have h := i.id
  have h1 : (v.natAbs : Int) * 1 ≤ (v.natAbs : Int) * g := Int.mul_le_mul_of_nonneg_left i.g0 (by omega)
  have h2 : 0 ≤ (u.natAbs : Int) * x := Int.mul_nonneg (by omega) i.x0
  omega
theorem BzI.start {a b : Int} (hb : b ≠ 0) : BzI a b b.natAbs (a % b) 0 1 := by
  have h1 := Int.emod_nonneg a hb
  have h2 := Int.emod_lt a hb
  have e := Int.mul_ediv_add_emod a b
  refine ⟨by omega, h1, by omega, by omega, ?_, ⟨a / b, by omega⟩, ?_, .inl (by omega), by simp, by simp⟩
  · have : b ∣ (b.natAbs : Int) := Int.dvd_natAbs.2 (Int.dvd_refl b)
    obtain ⟨k, hk⟩ := this
    exact ⟨-k, by rw [Int.mul_neg, ← hk]; omega⟩
  · show Nat.gcd (((b.natAbs : Nat) : Int).natAbs) (a % b).natAbs = _
    rw [Int.natAbs_natCast]
    exact gcd_step a b
theorem BzI.next {a b g x u v : Int} (i : BzI a b g x u v) (hx : x ≠ 0) : BzI a b x (g % x) v (u - g / x * v) ∧ (g % x).natAbs < x.natAbs := by
  have vb := i.vb
  obtain ⟨g0, x0, gb, xb, cu, cv, gc, sg, id, ub⟩ := i
  have h1 := Int.emod_nonneg g hx
  have h2 := Int.emod_lt_of_pos g (show 0 < x by omega)
  have e := Int.mul_ediv_add_emod g x
  have q0 : 0 ≤ g / x := Int.ediv_nonneg (by omega) (by omega)
  refine ⟨⟨by omega, h1, xb, by omega, cv, ?_, ?_, ?_, ?_, vb⟩, by omega⟩
  · obtain ⟨k, hk⟩ := cu
    obtain ⟨l, hl⟩ := cv
    refine ⟨k - g / x * l, ?_⟩
    have e1 : g % x = g - x * (g / x) := by omega
    rw [e1]
    generalize g / x = q at *
    have : (u - q * v) * a - (g - x * q) = (u * a - g) - q * (v * a - x) := by grind
    rw [this, hk, hl]; grind
  · rw [← gc]; exact gcd_step g x
  · have hqv : 0 ≤ g / x * (v.natAbs : Int) := Int.mul_nonneg q0 (by omega)
    rcases sg with ⟨s1, s2⟩ | ⟨s1, s2⟩
    · right
      have : 0 ≤ g / x * v := Int.mul_nonneg q0 s2
      omega
    · left
      have : g / x * v ≤ 0 := Int.mul_nonpos_of_nonneg_of_nonpos q0 s2
      omega
  · have key : ((u - g / x * v).natAbs : Int) = u.natAbs + g / x * (v.natAbs : Int) := by
      rcases sg with ⟨s1, s2⟩ | ⟨s1, s2⟩
      · have h3 : 0 ≤ g / x * v := Int.mul_nonneg q0 s2
        have h4 : (v.natAbs : Int) = v := by omega
        rw [h4]; omega
      · have h3 : g / x * v ≤ 0 := Int.mul_nonpos_of_nonneg_of_nonpos q0 s2
        have h4 : (v.natAbs : Int) = -v := by omega
        rw [h4, Int.mul_neg]; omega
    rw [key, ← id]
    have e1 : g % x = g - x * (g / x) := by omega
    rw [e1]
    generalize g / x = q
    grind
theorem BzI.stop {a b g x u v : Int} (i : BzI a b g x u v) (hb : b ≠ 0) (hx : x = 0) : g = (Int.gcd a b : Nat) ∧ u % (b / g) = bzU a b := by
  have hg : g = (Int.gcd a b : Nat) := by
    have h := i.gc
    rw [hx, Int.gcd_zero_right] at h
    have := i.g0
    omega
  refine ⟨hg, ?_⟩
  have h := i.cu
  rw [hg] at h ⊢
  exact bzU_eq hb h
end Go.AM
end

section
/- Powers of classes; the errors of forms. -/
namespace Go.AM
open Go Go.RowKit
section
variable {D : Int} {f g : Fm}
theorem prP_rd (hf : Cl D f) : (prP D).rd = prP D := rd_of_Rd (prP_Rd hf) (prP_cl hf).pos
theorem one_mlt (hf : Cl D f) : mlt (prP D) f = f.rd := by rw [mlt_comm (prP_cl hf) hf, mlt_one hf]
theorem mlt_rdl (hf : Cl D f) (hg : Cl D g) : mlt f.rd g = mlt f g := mlt_class hf.rd hg hf hg hf.rd_rd rfl
theorem mlt_rdr (hf : Cl D f) (hg : Cl D g) : mlt f g.rd = mlt f g := mlt_class hf hg.rd hf hg rfl hg.rd_rd
end
def rfE (f : Fm) : Int := if ck f.a f.b f.c ≠ 0 then ck f.a f.b f.c else if 0 < dsc f.a f.b f.c then 5 else if prim f.a f.b f.c = true then 0 else 80
theorem rfE_cl {f : Fm} (h : rfE f = 0) : Cl (dsc f.a f.b f.c) f := by
  unfold rfE at h
  by_cases h1 : ck f.a f.b f.c ≠ 0
  · rw [if_pos h1] at h; exact absurd h h1
  · rw [if_neg h1] at h
    have h1 : ck f.a f.b f.c = 0 := by omega
    by_cases h2 : 0 < dsc f.a f.b f.c
    · rw [if_pos h2] at h; cases h
    · rw [if_neg h2] at h
      by_cases h3 : prim f.a f.b f.c = true
      · have hd := ck_dsc h1
        refine ⟨⟨?_, by show dsc f.a f.b f.c < 0; omega⟩, h3, rfl⟩
        unfold ck at h1
        split at h1
        · cases h1
        · split at h1
          · cases h1
          · omega
      · rw [if_neg h3] at h; cases h
theorem cl_rfE {D : Int} {f : Fm} (h : Cl D f) : rfE f = 0 := by
  unfold rfE
  have h1 : ck f.a f.b f.c = 0 := pos_ck h.pos
  have h2 : dsc f.a f.b f.c < 0 := h.pos.2
  rw [if_neg (by omega), if_neg (by omega), if_pos h.prim]
theorem rfE_1 {f : Fm} (h : (ck f.a f.b f.c == 0) = false) : ck f.a f.b f.c = rfE f := by
  have h1 : ck f.a f.b f.c ≠ 0 := bF h
  unfold rfE; rw [if_pos h1]
theorem rfE_2 {f : Fm} (h : (ck f.a f.b f.c == 0) = true) (h1 : sgn (dsc f.a f.b f.c) > 0) : 5 = rfE f := by
  have h2 : ck f.a f.b f.c = 0 := bT h
  unfold rfE; rw [if_neg (by omega), if_pos (sgn_gt_iff.1 h1)]
theorem rfE_3 {f : Fm} (h : (ck f.a f.b f.c == 0) = true) (h1 : ¬ sgn (dsc f.a f.b f.c) > 0) (h2 : prim f.a f.b f.c = false) : 80 = rfE f := by
  have h3 : ck f.a f.b f.c = 0 := bT h
  unfold rfE; rw [if_neg (by omega), if_neg (fun x => h1 (sgn_gt_iff.2 x)), h2]; rfl
theorem rfE_4 {f : Fm} (h : (ck f.a f.b f.c == 0) = true) (h1 : ¬ sgn (dsc f.a f.b f.c) > 0) (h2 : prim f.a f.b f.c = true) : 0 = rfE f := by
  have h3 : ck f.a f.b f.c = 0 := bT h
  unfold rfE; rw [if_neg (by omega), if_neg (fun x => h1 (sgn_gt_iff.2 x)), if_pos h2]
def cmE (f g : Fm) : Int := if rfE f ≠ 0 then rfE f else if rfE g ≠ 0 then rfE g else if dsc f.a f.b f.c ≠ dsc g.a g.b g.c then 5 else 0
def cmV (f g : Fm) : Fm := if cmE f g = 0 then mlt f g else ⟨0, 0, 0⟩
theorem cmE_cl {f g : Fm} (h : cmE f g = 0) : Cl (dsc f.a f.b f.c) f ∧ Cl (dsc f.a f.b f.c) g := by
  unfold cmE at h
  by_cases h1 : rfE f ≠ 0
  · rw [if_pos h1] at h; exact absurd h h1
  · rw [if_neg h1] at h
    by_cases h2 : rfE g ≠ 0
    · rw [if_pos h2] at h; exact absurd h h2
    · rw [if_neg h2] at h
      by_cases h3 : dsc f.a f.b f.c ≠ dsc g.a g.b g.c
      · rw [if_pos h3] at h; cases h
      · have e : dsc f.a f.b f.c = dsc g.a g.b g.c := by omega
        refine ⟨rfE_cl (by omega), ?_⟩
        rw [e]; exact rfE_cl (by omega)
end Go.AM
end

section
/- The program's product: the search for a coprime value, and the formula. -/
namespace Go.AM
open Go Go.RowKit
/-- the first number from n on, within f rounds -/
def fst1 (P : Nat → Bool) : Nat → Nat → Nat
  | 0, n => n
  | f + 1, n => if P n = true then n else fst1 P f (n + 1)
theorem fst1_ge (P : Nat → Bool) : ∀ f n, n ≤ fst1 P f n
  | 0, n => Nat.le_refl n
  | f + 1, n => by
    unfold fst1
    split
    · omega
    · have := fst1_ge P f (n + 1); omega
theorem fst1_ok {P : Nat → Bool} : ∀ {f n m : Nat}, n ≤ m → m < n + f → P m = true → P (fst1 P f n) = true ∧ fst1 P f n ≤ m
  | 0, n, m, h, h1, _ => by omega
  | f + 1, n, m, h, h1, h2 => by
    unfold fst1
    by_cases g : P n = true
    · rw [if_pos g]; exact ⟨g, h⟩
    · rw [if_neg g]
      have : n ≠ m := fun e => g (by rw [e]; exact h2)
      exact fst1_ok (by omega) (by omega) h2
theorem fst1_yes {P : Nat → Bool} {f n : Nat} (h : P n = true) : fst1 P (f + 1) n = n := by unfold fst1; rw [if_pos h]
theorem fst1_no {P : Nat → Bool} {f n : Nat} (h : P n = false) : fst1 P (f + 1) n = fst1 P f (n + 1) := by
  have : fst1 P (f + 1) n = if P n = true then n else fst1 P f (n + 1) := rfl
  rw [this, if_neg (by rw [h]; decide)]
/-- a good point -/
def cpG (f : Fm) (a : Int) (n x : Nat) : Bool := decide (Int.gcd (x : Int) ((n : Int) - x) = 1) && decide (Int.gcd (vl f.a f.b f.c x ((n : Int) - x)) a = 1)
def cpR (f : Fm) (a : Int) (n : Nat) : Bool := (List.range (n + 1)).any (cpG f a n)
def cpN (f : Fm) (a : Int) : Nat := fst1 (cpR f a) 9100000000000000000 1
def cpX (f : Fm) (a : Int) : Nat := fst1 (cpG f a (cpN f a)) (cpN f a + 1) 0
def cpM (f : Fm) (a : Int) : Mt := ⟨cpX f a, -bzV (cpX f a) ((cpN f a : Int) - cpX f a), (cpN f a : Int) - cpX f a, bzU (cpX f a) ((cpN f a : Int) - cpX f a)⟩
section
variable {f : Fm} {a : Int}
theorem cp_ex (pf : prim f.a f.b f.c = true) (h1 : a ≠ 0) (h2 : a.natAbs < 18446744073709551616) : cpR f a (cpN f a) = true ∧ 1 ≤ cpN f a ∧ cpN f a ≤ 9000000000000000000 := by
  obtain ⟨x, y, hg, hc, hb1, hb2⟩ := cop_prim pf (a := a.natAbs) (by omega) h2
  have hR : cpR f a (x + y) = true := by
    unfold cpR
    rw [List.any_eq_true]
    refine ⟨x, List.mem_range.2 (by omega), ?_⟩
    unfold cpG
    have e : ((x + y : Nat) : Int) - x = (y : Int) := by omega
    rw [e, Bool.and_eq_true, decide_eq_true_iff, decide_eq_true_iff]
    exact ⟨hg, hc⟩
  have := fst1_ok (P := cpR f a) (f := 9100000000000000000) (n := 1) (m := x + y) hb1 (by omega) hR
  have h3 := fst1_ge (cpR f a) 9100000000000000000 1
  unfold cpN
  exact ⟨this.1, h3, by omega⟩
theorem cp_x (h : cpR f a (cpN f a) = true) : cpG f a (cpN f a) (cpX f a) = true ∧ cpX f a ≤ cpN f a := by
  unfold cpR at h
  rw [List.any_eq_true] at h
  obtain ⟨m, hm, hg⟩ := h
  rw [List.mem_range] at hm
  have := fst1_ok (P := cpG f a (cpN f a)) (f := cpN f a + 1) (n := 0) (m := m) (by omega) (by omega) hg
  unfold cpX
  exact ⟨this.1, by omega⟩
theorem cp_det (h : cpR f a (cpN f a) = true) : (cpM f a).det = 1 ∧ Int.gcd (f.app (cpM f a)).a a = 1 := by
  have hx := (cp_x h).1
  unfold cpG at hx
  rw [Bool.and_eq_true, decide_eq_true_iff, decide_eq_true_iff] at hx
  refine ⟨?_, hx.2⟩
  have e := bz_eq (cpX f a : Int) ((cpN f a : Int) - cpX f a)
  rw [hx.1] at e
  unfold cpM Mt.det
  simp only
  rw [Int.neg_mul]
  grind
/-- the outer rounds -/
structure CpI (f : Fm) (a : Int) (n : Nat) : Prop where
  n1 : 1 ≤ n
  nb : n ≤ cpN f a
  go : fst1 (cpR f a) (9100000000000000001 - n) n = cpN f a
theorem CpI.start (h : 1 ≤ cpN f a) : CpI f a 1 := ⟨by omega, h, rfl⟩
theorem CpI.next {n : Nat} (i : CpI f a n) (h2 : cpN f a ≤ 9000000000000000000) (h : ∀ x, x < n + 1 → cpG f a n x = false) : CpI f a (n + 1) := by
  have hR : cpR f a n = false := by
    unfold cpR
    rw [List.any_eq_false]
    intro x hx
    rw [List.mem_range] at hx
    rw [h x hx]; decide
  have hg := i.go
  have hb := i.nb
  have e : 9100000000000000001 - n = (9100000000000000001 - (n + 1)) + 1 := by omega
  rw [e, fst1_no hR] at hg
  refine ⟨by omega, ?_, hg⟩
  have := fst1_ge (cpR f a) (9100000000000000001 - (n + 1)) (n + 1)
  omega
theorem CpI.found {n x : Nat} (i : CpI f a n) (h2 : cpN f a ≤ 9000000000000000000) (hx : x ≤ n) (h0 : ∀ y, y < x → cpG f a n y = false) (h : cpG f a n x = true) : cpN f a = n ∧ cpX f a = x := by
  have hR : cpR f a n = true := by
    unfold cpR
    rw [List.any_eq_true]
    exact ⟨x, List.mem_range.2 (by omega), h⟩
  have hg := i.go
  have hb := i.nb
  have e : 9100000000000000001 - n = (9100000000000000001 - (n + 1)) + 1 := by omega
  rw [e, fst1_yes hR] at hg
  refine ⟨hg.symm, ?_⟩
  have key : ∀ k y, y + k = x → fst1 (cpG f a n) (k + 1 + (n - x)) y = x := fun k => by
    induction k with
    | zero =>
      intro y hy
      have : y = x := by omega
      subst this
      rw [show 0 + 1 + (n - y) = (n - y) + 1 by omega, fst1_yes h]
    | succ k ih =>
      intro y hy
      rw [show k + 1 + 1 + (n - x) = (k + 1 + (n - x)) + 1 by omega, fst1_no (h0 y (by omega))]
      exact ih (y + 1) (by omega)
  unfold cpX
  rw [← hg]
  have := key x 0 (by omega)
  rw [show x + 1 + (n - x) = n + 1 by omega] at this
  exact this
end
/-- the program's formula, for forms with coprime first coefficients -/
theorem prog_isC {D : Int} {f g : Fm} {i h k C : Int} (hf : Cl D f) (hg : Cl D g) (hi : g.a ∣ i * f.a - 1) (hh : 2 * h = g.b - f.b) (hk : g.a ∣ h * i - k)
    (hC : C = ((f.b + 2 * (f.a * k)) * (f.b + 2 * (f.a * k)) - D) / (4 * (f.a * g.a))) : IsC D f g ⟨f.a * g.a, f.b + 2 * (f.a * k), C⟩ := by
  have hfk : FK (sD D) (dD D) f (kk (sD D) f) := hf.fo
  have hgk : FK (sD D) (dD D) g (kk (sD D) g) := hg.fo
  have hD := (disc_par hf.disc).2
  have bf := hfk.b
  have bg := hgk.b
  obtain ⟨y, hy⟩ := hi
  obtain ⟨w, hw⟩ := hk
  have cd : CD f g (sD D) (dD D) (kk (sD D) f) (kk (sD D) g) 1 i (-y) 0 f.a g.a (kk (sD D) f + kk (sD D) g + sD D) (kk (sD D) f * kk (sD D) g + dD D) (kk (sD D) f + i * f.a * (kk (sD D) g - kk (sD D) f)) (f.a * g.a) := by
    refine ⟨by omega, by omega, by omega, ?_, by decide, by omega, ?_, rfl⟩
    · rw [Int.neg_mul, Int.mul_comm y]; omega
    · have : i * f.a = 1 + g.a * y := by omega
      rw [Int.one_mul, this]; grind
  obtain ⟨C', hC'⟩ := cd.form hfk hgk
  have hs : kk (sD D) f + i * f.a * (kk (sD D) g - kk (sD D) f) - (kk (sD D) f + f.a * k) = f.a * g.a * w := by
    have e : kk (sD D) g - kk (sD D) f = h := by omega
    rw [e]
    have : i * f.a * h = f.a * (h * i) := by grind
    rw [this]
    have : h * i = g.a * w + k := by omega
    rw [this]; grind
  have hb : f.b + 2 * (f.a * k) = 2 * (kk (sD D) f + f.a * k) + sD D := by rw [bf]; grind
  have hA0 : f.a * g.a ≠ 0 := by have := Int.mul_pos hf.pos.1 hg.pos.1; omega
  generalize kk (sD D) f + i * f.a * (kk (sD D) g - kk (sD D) f) = kc at *
  generalize hj : kk (sD D) f + f.a * k = j at *
  generalize f.a * g.a = A at *
  have hBD : (2 * j + sD D) * (2 * j + sD D) - D = 4 * A * (C' - w * (2 * kc - A * w + sD D)) := by
    have ej : j = kc - A * w := by omega
    have e1 : 4 * A * (C' - w * (2 * kc - A * w + sD D)) = 4 * (A * C') - 4 * A * (w * (2 * kc - A * w + sD D)) := by grind
    rw [e1, hC', ej]
    generalize sD D = σ at *
    generalize dD D = δ at *
    rw [hD]; grind
  rw [hb] at hC ⊢
  rw [hBD, Int.mul_ediv_cancel_left _ (by omega)] at hC
  subst hC
  refine isC_of hf hg cd (j := j) ⟨w, hs⟩ ?_
  omega
/-- modular inverses -/
theorem inv_dvd {a m : Int} (hm : 0 < m) (h : Int.gcd a m = 1) : m ∣ (bzU (a % m) m % m) * a - 1 := by
  have hg : Int.gcd (a % m) m = 1 := by
    rw [Int.gcd_comm, gcd_step]; exact h
  obtain ⟨k, hk⟩ := bzU_dvd (a := a % m) (b := m) (by omega)
  rw [hg] at hk
  have e1 := Int.mul_ediv_add_emod a m
  have e2 := Int.mul_ediv_add_emod (bzU (a % m) m) m
  generalize bzU (a % m) m = u at *
  generalize a / m = p at *
  generalize a % m = r at *
  generalize u / m = q at *
  generalize u % m = v at *
  refine ⟨k + v * p - q * r, ?_⟩
  have : v = u - m * q := by omega
  subst this
  rw [← e1]
  have hk' : u * r = 1 + m * k := by have hk2 : u * r - 1 = m * k := hk; omega
  grind
theorem per_ne {a b : Int} (hb : b ≠ 0) : b / (Int.gcd a b : Nat) ≠ 0 := by
  obtain ⟨y, hy⟩ := Int.gcd_dvd_right (a := a) (b := b)
  have g0 := gcd_pos' (a := a) hb
  have hq : b / ((Int.gcd a b : Nat) : Int) = y := by
    have : b = ((Int.gcd a b : Nat) : Int) * y := hy
    generalize ((Int.gcd a b : Nat) : Int) = g at *
    rw [this, Int.mul_ediv_cancel_left _ (by omega)]
  rw [hq]
  intro e
  rw [e, Int.mul_zero] at hy
  exact hb hy
theorem bz_res {a b g x u v : Int} (i : BzI a b g x u v) (hb : b ≠ 0) (hx : x = 0) :
    AV.t [PI g, PI (u % (b / g)), PI ((g - u % (b / g) * a) / b)] = AV.t [PI ((Int.gcd a b : Nat) : Int), PI (bzU a b), PI (bzV a b)] := by
  obtain ⟨h1, h2⟩ := i.stop hb hx
  have e : bzV a b = ((Int.gcd a b : Nat) - bzU a b * a) / b := by unfold bzV; rw [if_neg hb]
  rw [h2, e, h1]
theorem bz_0 {a b : Int} (hb : b = 0) : AV.t [PI ((a.natAbs : Nat) : Int), PI (sgn a), PI 0] = AV.t [PI ((Int.gcd a b : Nat) : Int), PI (bzU a b), PI (bzV a b)] := by
  subst hb
  unfold bzU bzV
  rw [if_pos rfl, if_pos rfl, Int.gcd_zero_right]
theorem bzV_b {a b : Int} (hb : b ≠ 0) : ((bzV a b).natAbs : Int) ≤ a.natAbs + 1 := by
  have h := bz_eq a b
  have hu := bzU_b (a := a) hb
  have g0 := gcd_pos' (a := a) hb
  have gb : ((Int.gcd a b : Nat) : Int) ≤ b.natAbs := by
    have := Nat.le_of_dvd (by omega) (Int.natAbs_dvd_natAbs.2 (Int.gcd_dvd_right (a := a) (b := b)))
    rw [Int.natAbs_natCast] at this
    omega
  have h1 : bzV a b * b = (Int.gcd a b : Nat) - bzU a b * a := by omega
  have h2 := congrArg Int.natAbs h1
  rw [Int.natAbs_mul] at h2
  have h3 : ((Int.gcd a b : Nat) - bzU a b * a).natAbs ≤ b.natAbs + b.natAbs * a.natAbs := by
    have e1 := Int.natAbs_sub_le ((Int.gcd a b : Nat) : Int) (bzU a b * a)
    rw [Int.natAbs_mul] at e1
    have e2 : (bzU a b).natAbs * a.natAbs ≤ b.natAbs * a.natAbs := Nat.mul_le_mul_right _ (by omega)
    omega
  rw [← h2] at h3
  have hb0 : 0 < b.natAbs := by omega
  have h4 : (bzV a b).natAbs * b.natAbs ≤ (a.natAbs + 1) * b.natAbs := by
    have : (a.natAbs + 1) * b.natAbs = b.natAbs + b.natAbs * a.natAbs := by rw [Nat.add_mul, Nat.one_mul, Nat.mul_comm]; omega
    omega
  have := Nat.le_of_mul_le_mul_right h4 hb0
  omega
end Go.AM
end

section
/- The program's product: sizes; what its walk finds. -/
namespace Go.AM
open Go Go.RowKit
theorem bzU_le (a b : Int) : (bzU a b).natAbs ≤ b.natAbs + 1 := by
  by_cases h : b = 0
  · subst h
    unfold bzU
    rw [if_pos rfl]
    unfold sgn
    split <;> (try split) <;> decide
  · have := bzU_b (a := a) h; omega
theorem bzV_le (a b : Int) : (bzV a b).natAbs ≤ a.natAbs + 1 := by
  by_cases h : b = 0
  · subst h
    unfold bzV
    rw [if_pos rfl]; simp
  · have := bzV_b (a := a) h; omega
theorem L6_of {x : Int} (h : x.natAbs ≤ 9100000000000000000) : L 6 x := by unfold L; omega
theorem bz_L6 {x y : Int} (hx : x.natAbs ≤ 9000000000000000000) (hy : y.natAbs ≤ 9000000000000000000) : LB (bzU x y) 6 ∧ LB (bzV x y) 6 :=
  ⟨⟨L6_of (by have := bzU_le x y; omega)⟩, ⟨L6_of (by have := bzV_le x y; omega)⟩⟩
section
variable {f : Fm} {a : Int}
theorem cpG_yes {n x : Nat} (h : decide (((Int.gcd (x : Int) ((n : Int) - x) : Nat) : Int) = 1) = true) (h2 : decide (((Int.gcd (vl f.a f.b f.c x ((n : Int) - x)) a : Nat) : Int) = 1) = true) : cpG f a n x = true := by
  have h := of_decide_eq_true h
  have h2 := of_decide_eq_true h2
  unfold cpG
  rw [decide_eq_true (by omega), decide_eq_true (by omega)]; rfl
theorem cpG_no1 {n x : Nat} (h : decide (((Int.gcd (x : Int) ((n : Int) - x) : Nat) : Int) = 1) = false) : cpG f a n x = false := by
  have h := of_decide_eq_false h
  unfold cpG
  rw [decide_eq_false (by omega)]; rfl
theorem cpG_no2 {n x : Nat} (h2 : decide (((Int.gcd (vl f.a f.b f.c x ((n : Int) - x)) a : Nat) : Int) = 1) = false) : cpG f a n x = false := by
  have h2 := of_decide_eq_false h2
  unfold cpG
  rw [decide_eq_false (p := Int.gcd (vl f.a f.b f.c x ((n : Int) - x)) a = 1) (by omega), Bool.and_false]
theorem ext_no {P : Nat → Bool} {x : Nat} (h : ∀ y, y < x → P y = false) (h1 : P x = false) : ∀ y, y < x + 1 → P y = false := fun y hy => by
  rcases (show y < x ∨ y = x by omega) with g | g
  · exact h y g
  · subst g; exact h1
def cpF (f : Fm) (a : Int) : Fm := f.app (cpM f a)
theorem cp_found {n x : Nat} (hN : cpN f a = n) (hX : cpX f a = x) :
    FA (vl f.a f.b f.c x ((n : Int) - x)) (apB f.a f.b f.c x (-bzV x ((n : Int) - x)) ((n : Int) - x) (bzU x ((n : Int) - x))) (vl f.a f.b f.c (-bzV x ((n : Int) - x)) (bzU x ((n : Int) - x))) = FA (cpF f a).a (cpF f a).b (cpF f a).c := by
  subst hN hX; rfl
theorem cpF_cl {D : Int} (hf : Cl D f) (h0 : a ≠ 0) (h6 : L 6 a) : Cl D (cpF f a) ∧ (cpF f a).rd = f.rd ∧ Int.gcd (cpF f a).a a = 1 := by
  have hx := cp_ex hf.prim h0 (by unfold L at h6; exact h6)
  have hd := cp_det hx.1
  exact ⟨hf.app hd.1, rd_app1 hf.pos hd.1, hd.2⟩
theorem cpF_L (pf : prim f.a f.b f.c = true) (h0 : a ≠ 0) (h6 : L 6 a) (ha : L 6 f.a) (hb : L 6 f.b) (hc : L 6 f.c) : LB (cpF f a).a 14 ∧ LB (cpF f a).b 14 ∧ LB (cpF f a).c 14 := by
  have hx := cp_ex pf h0 (by unfold L at h6; exact h6)
  have hX := (cp_x hx.1).2
  have ia : LB f.a 6 := ⟨ha⟩
  have ib : LB f.b 6 := ⟨hb⟩
  have ic : LB f.c 6 := ⟨hc⟩
  have b2 := bz_L6 (x := (cpX f a : Int)) (y := (cpN f a : Int) - cpX f a) (by omega) (by omega)
  have j1 : LB ((cpX f a : Nat) : Int) 6 := ⟨L6_of (by omega)⟩
  have j2 : LB ((cpN f a : Int) - cpX f a) 6 := ⟨L6_of (by omega)⟩
  have j3 := b2.1
  have j4 := b2.2
  refine ⟨⟨?_⟩, ⟨?_⟩, ⟨?_⟩⟩
  · show L 14 (vl f.a f.b f.c (cpX f a) ((cpN f a : Int) - cpX f a))
    exact lz
  · show L 14 (apB f.a f.b f.c (cpX f a) (-bzV (cpX f a) ((cpN f a : Int) - cpX f a)) ((cpN f a : Int) - cpX f a) (bzU (cpX f a) ((cpN f a : Int) - cpX f a)))
    exact lz
  · show L 14 (vl f.a f.b f.c (-bzV (cpX f a) ((cpN f a : Int) - cpX f a)) (bzU (cpX f a) ((cpN f a : Int) - cpX f a)))
    exact lz
end
/-- the reduced form of what the program makes of two forms is their product -/
theorem prod_mlt {D : Int} {f g G : Fm} (hf : Cl D f) (hg : Cl D g) (hG : Cl D G) (eG : G.rd = g.rd) (hc : Int.gcd G.a f.a = 1) :
    rdF (f.a * G.a) (f.b + 2 * (f.a * ((G.b - f.b) / 2 * (bzU (f.a % G.a) G.a % G.a) % G.a)))
      (((f.b + 2 * (f.a * ((G.b - f.b) / 2 * (bzU (f.a % G.a) G.a % G.a) % G.a))) * (f.b + 2 * (f.a * ((G.b - f.b) / 2 * (bzU (f.a % G.a) G.a % G.a) % G.a))) - D) / (4 * (f.a * G.a))) = mlt f g := by
  have hi := inv_dvd (a := f.a) (m := G.a) hG.pos.1 (by rw [Int.gcd_comm]; exact hc)
  have pf := (disc_par hf.disc).1
  have pG := (disc_par hG.disc).1
  have hh : 2 * ((G.b - f.b) / 2) = G.b - f.b := by omega
  generalize (G.b - f.b) / 2 = h at *
  generalize bzU (f.a % G.a) G.a % G.a = i at *
  have hk : G.a ∣ h * i - h * i % G.a := ⟨h * i / G.a, by have := Int.mul_ediv_add_emod (h * i) G.a; omega⟩
  generalize h * i % G.a = k at *
  have c := prog_isC hf hG hi hh hk rfl
  have e := isC_mlt hf hG c
  rw [mlt_class hf hG hf hg rfl eG] at e
  exact e
theorem cm_e1 {f g : Fm} (h : rfE f ≠ 0) : cmE f g = rfE f := by unfold cmE; rw [if_pos h]
theorem cm_e2 {f g : Fm} (h : rfE f = 0) (h1 : rfE g ≠ 0) : cmE f g = rfE g := by unfold cmE; rw [if_neg (by omega), if_pos h1]
theorem cm_e3 {f g : Fm} (h : rfE f = 0) (h1 : rfE g = 0) (h2 : dsc f.a f.b f.c ≠ dsc g.a g.b g.c) : cmE f g = 5 := by unfold cmE; rw [if_neg (by omega), if_neg (by omega), if_pos h2]
theorem cm_e4 {f g : Fm} (h : rfE f = 0) (h1 : rfE g = 0) (h2 : dsc f.a f.b f.c = dsc g.a g.b g.c) : cmE f g = 0 := by unfold cmE; rw [if_neg (by omega), if_neg (by omega), if_neg (by omega)]
theorem cm_res {f g : Fm} {e : Int} (h : cmE f g = e) (h0 : e ≠ 0) : AV.t [PF ⟨0, 0, 0⟩, PE e] = AV.t [PF (cmV f g), PE (cmE f g)] := by
  subst h
  unfold cmV
  rw [if_neg h0]
theorem cm_ok {f g : Fm} (h : cmE f g = 0) : AV.t [PF (mlt f g), PE 0] = AV.t [PF (cmV f g), PE (cmE f g)] := by
  unfold cmV
  rw [if_pos h, h]
theorem bneq {x : Int} (h : (x != 0) = true) : (x == 0) = false := by
  have := bneT h
  cases g : x == 0
  · rfl
  · exact absurd (bT g) this
theorem bneqF {x : Int} (h : (x != 0) = false) : (x == 0) = true := by
  have : x = 0 := bneF h
  subst this; rfl
theorem two_get {f g : Fm} {k : Nat} (h : (k : Int) < 2) : (k = 0 ∧ [f, g].getD k ⟨0, 0, 0⟩ = f) ∨ (k = 1 ∧ [f, g].getD k ⟨0, 0, 0⟩ = g) := by
  rcases (show k = 0 ∨ k = 1 by omega) with rfl | rfl
  · exact .inl ⟨rfl, rfl⟩
  · exact .inr ⟨rfl, rfl⟩
theorem cm_loop {f g : Fm} {k : Nat} (h : (k : Int) < 2) (hno : ∀ j, j < k → rfE ([f, g].getD j ⟨0, 0, 0⟩) = 0) (hne : rfE ([f, g].getD k ⟨0, 0, 0⟩) ≠ 0) : cmE f g = rfE ([f, g].getD k ⟨0, 0, 0⟩) := by
  rcases two_get (f := f) (g := g) h with ⟨rfl, e⟩ | ⟨rfl, e⟩
  · rw [e] at hne ⊢; exact cm_e1 hne
  · have h0 : rfE f = 0 := hno 0 (by omega)
    rw [e] at hne ⊢; exact cm_e2 h0 hne
theorem ext_0 {P : Nat → Prop} {x : Nat} (h : ∀ y, y < x → P y) (h1 : P x) : ∀ y, y < x + 1 → P y := fun y hy => by
  rcases (show y < x ∨ y = x by omega) with g | g
  · exact h y g
  · subst g; exact h1
end Go.AM
end

section
/- Closures that are called; bits of numbers; powers by bits. -/
namespace Go.AM
open Go Go.RowKit
section ops
variable {P : Program}
variable {dst : Option Nat} {ty : TypeId} {pos : String} {af : Array Edge} {gd : Option (Nat × Bool)} {d : Nat} {ρ : Operand → AV} {own : Own}
theorem RepArgs.app {h : Hp} {r : Nat → Value} : ∀ {l : List AV} {xs : List Value} {m : List AV} {ys : List Value}, RepArgs h r l xs → RepArgs h r m ys → RepArgs h r (l ++ m) (xs ++ ys)
  | [], [], _, _, _, k => k
  | _ :: _, _ :: _, _, _, k1, k => ⟨k1.1, RepArgs.app k1.2 k⟩
  | [], _ :: _, _, _, k1, _ => k1.elim
  | _ :: _, [], _, _, k1, _ => k1.elim
end ops
section
end
end Go.AM
end

section
/- A slice that is nil as an owned empty one; functions as data; lists of numbers and of characters. -/
namespace Go.AM
open Go Go.RowKit
theorem WOK.nilV {C : Ctx} {h : Hp} {r : Nat → Value} {own : Own} {w : World} (k : WOK C h r own w) {d sz : Nat} {e : TypeId} (hd : own d = none) (hp : C.np ≤ d) (hl : ∀ m b, own m = some b → d ∉ lnk b) :
    WOK C h (upd r d (.slice none 0 0)) (upd own d (some ⟨true, sz, e, []⟩)) w := by
  have live : ∀ n, n ≠ d → upd own d (some (⟨true, sz, e, []⟩ : Blk)) n = own n := fun n h1 => upd_ne _ _ _ _ h1
  refine ⟨?_, ?_, k.hi, ?_, k.os, k.tape, k.output, k.size, k.old, ?_, k.hg, k.hn, k.gl, ?_, ?_⟩
  · intro n b' hn
    by_cases h1 : n = d
    · subst h1; rw [upd_same] at hn ⊢; cases hn
      exact ⟨none, 0, 0, rfl, by simp, Nat.le_refl _, by omega, .inl rfl⟩
    · rw [live n h1] at hn
      rw [upd_ne _ _ _ _ h1]; exact k.ow n b' hn
  · intro n p i hn hpp e1 e2
    by_cases h1 : n = d
    · subst h1; rw [upd_same] at e1; cases e1
    · by_cases h2 : p = d
      · subst h2; rw [upd_same] at e2; cases e2
      · rw [upd_ne _ _ _ _ h1] at e1; rw [upd_ne _ _ _ _ h2] at e2
        rw [live n h1] at hn; rw [live p h2] at hpp
        exact k.inj n p i hn hpp e1 e2
  · intro n i hn e1
    by_cases h1 : n = d
    · subst h1; rw [upd_same] at e1; cases e1
    · rw [upd_ne _ _ _ _ h1] at e1; rw [live n h1] at hn; exact k.ho n i hn e1
  · intro n i hn e1
    by_cases h1 : n = d
    · subst h1; rw [upd_same] at e1; cases e1
    · rw [upd_ne _ _ _ _ h1] at e1; rw [live n h1] at hn; exact k.fo n i hn e1
  · intro n hn
    rw [upd_ne _ _ _ _ (by omega)]; exact k.kp n hn
  · intro n b' j hn hj
    by_cases h1 : n = d
    · subst h1; rw [upd_same] at hn; cases hn; cases hj
    · rw [live n h1] at hn
      have hjd : j ≠ d := fun x => hl n b' hn (x ▸ hj)
      rw [upd_ne _ _ _ _ h1, upd_ne _ _ _ _ hjd]
      exact k.lk n b' j hn hj
/-- a register that holds a nil slice holds an owned slice with no elements -/
theorem AWp_nilV {P : Program} {B : Bool} {N np : Nat} {Q : Exit → St → Prop} {s : St} {c : Code} (t d sz : Nat) (e : TypeId) (ht : s.regs t = .p (.c (.v (.slice none 0 0)))) (hp : Nat.ble np d = true)
    (h : AWp P B N np c Q ⟨upd (kill [d] s).regs t (.vec d), upd (kill [d] s).own d (some ⟨true, sz, e, []⟩)⟩) : AWp P B N np c Q s := by
  intro ro hB C hh r a w hn hc
  have hk := kill_conc [d] hc
  have hown : (kill [d] s).own d = none := kill_own [d] s d (by simp)
  have hmen := kill_men [d] s d (by simp)
  have hx := hc.rg t
  rw [ht] at hx
  have hv : a.tmps.getD t undef = .slice none 0 0 := by
    simp only [AVRep, PRep, DRep] at hx
    exact hx.1
  refine h ro hB C hh (upd r d (.slice none 0 0)) a w hn ⟨hk.sz, hk.df, fun t' => ?_, hk.wk.nilV hown (by rw [hn.1]; exact Nat.le_of_ble_eq_true hp) (kill_lnk [d] s d (by simp))⟩
  show AVRep hh _ (upd (kill [d] s).regs t (.vec d) t') _
  by_cases e1 : t' = t
  · subst e1
    rw [upd_same]
    show _ = upd r d _ d
    rw [upd_same, hv]
  · rw [upd_ne _ _ _ _ e1]
    have hr := hk.rg t'
    have hmt := hmen t'
    exact AVRep.rebind _ _ (fun m hm => upd_ne _ _ _ _ (fun x => hmt (x ▸ hm))) hr
section ops
variable {P : Program}
variable {dst : Option Nat} {ty : TypeId} {pos : String} {af : Array Edge} {gd : Option (Nat × Bool)} {d : Nat} {ρ : Operand → AV} {own : Own}
/-- a function with one captured box, as data -/
theorem op_makeFuncD {f : FuncId} {c : Operand} {xs : List DV} (hx : ρ c = .ip xs) : Eff P ⟨dst, .makeFunc (.func f) #[] #[c], ty, pos, af, gd⟩ d ρ own (.p (.c (.fn f [.ip xs]))) [] none [] :=
  Eff.value fun C h r own' a w hrep hrd hw => by
    have e1 := hrep c (by simp [Op.operands])
    rw [hx] at e1
    refine ⟨.func (.func f) #[] #[a.eval c], ?_, ?_⟩
    · simp [execOp, Instr.makeFunc]
    · simp only [AVRep, PRep, DRep]
      refine ⟨#[a.eval c], rfl, rfl, ?_⟩
      refine DReps.of_get fun i dv hi => ?_
      cases i with
      | zero =>
        simp only [List.getElem?_cons_zero, Option.some.injEq] at hi
        subst hi
        exact ⟨a.eval c, rfl, by simp only [DRep]; exact e1⟩
      | succ i => simp at hi
theorem dcaps_args {h : Hp} {r : Nat → Value} : ∀ {cs : List (List DV)} {g : Nat → Option Value} {xs : List Value}, DReps h (cs.map .ip) g → xs.length = cs.length → (∀ i, g i = xs[i]?) → RepArgs h r (cs.map .ip) xs
  | [], _, [], _, _, _ => trivial
  | [], _, _ :: _, _, e, _ => by simp at e
  | _ :: _, _, [], _, e, _ => by simp at e
  | c :: cs, g, x :: xs, k, e, hg => by
    simp only [List.map_cons, DReps] at k
    obtain ⟨⟨y, e1, e2⟩, k⟩ := k
    rw [hg 0] at e1
    simp only [List.getElem?_cons_zero, Option.some.injEq] at e1
    subst e1
    refine ⟨?_, dcaps_args k (by simpa using e) (fun i => by rw [hg (i + 1)]; simp)⟩
    simp only [DRep] at e2
    exact e2
/-- a call of a function that is data -/
theorem Eff.callD {f : FuncId} {caps : List (List DV)} {c : Operand} {args : Array Operand} {tys : Array TypeId} {res : AV} (hx : ρ c = .p (.c (.fn f (caps.map .ip)))) (hc : Call0 P f (args.toList.map ρ ++ caps.map .ip) res) :
    Eff P ⟨dst, .call ⟨.value c, args, tys⟩, ty, pos, af, gd⟩ d ρ own res [] none [] := by
  intro C h r own' a w K Q hrep hrd hw _ hK
  have e1 := hrep c (by simp [Op.operands, Call.operands])
  rw [hx] at e1
  simp only [AVRep, PRep, DRep] at e1
  obtain ⟨lb, e2, e3, e4⟩ := e1
  unfold Oper.wp
  have hrun : (execOp a.eval ⟨dst, .call ⟨.value c, args, tys⟩, ty, pos, af, gd⟩).run P w = .ok (.enter f (args.map a.eval ++ lb)) w := by
    simp only [execOp, resolve, Sem.run_bind, e2, Deferred.ofValue, Sem.run_pure, Result.andThen_ok, invoke, Array.empty_append]
    exact run_callFunc hc.fn _ w
  rw [hrun]
  refine Calls.mono (hc.go h r w (args.map a.eval ++ lb) ?_ (hw.before fun m hm => absurd rfl hm)) ?_
  · rw [Array.toList_append, Array.toList_map]
    refine RepArgs.app (repArgs_map _ fun x hx => hrep x (by simp only [Op.operands, Call.operands]; exact Array.mem_append.2 (.inr (Array.mem_toList_iff.1 hx)))) ?_
    exact dcaps_args e4 (by simpa using e3) (fun i => by simp)
  · rintro e w' ⟨v, h', rfl, hv, hq⟩
    exact hK v h' r w' hq.hg (fun _ _ => rfl) hv (hw.after (fun m hm => absurd rfl hm) hq (fun m => by simp [nown, applySt]) (fun m b hm => absurd rfl hm))
end ops
def IC (z : Int) : DV := .v (.int .i64 z)
def IS (l : List Int) : DV := .sl l.length (l.map IC)
def IB (e : TypeId) (l : List Int) : Blk := ⟨true, 1, e, l.map IC⟩
/-- characters: their names, and their functions: 'fo' for a prime, 'fs' for the others -/
def spR (c : Int) : List Int := if c = -4 then [1, 5] else if c = 8 then [1, 7] else [1, 3]
def chF (fo fs : FuncId) (c : Int) : DV := if c = -4 ∨ c = 8 ∨ c = -8 then .fn fs [.ip [IS (spR c)]] else .fn fo [.ip [IC c]]
def chC (fo fs : FuncId) (c : Int) : List DV := [IC c, chF fo fs c]
def CS (fo fs : FuncId) (l : List Int) : DV := .sl l.length (l.flatMap (chC fo fs))
def CB (fo fs : FuncId) (e : TypeId) (l : List Int) : Blk := ⟨true, 2, e, l.flatMap (chC fo fs)⟩
section
variable {fo fs : FuncId}
theorem CS_len (l : List Int) : (l.flatMap (chC fo fs)).length = l.length * 2 := by
  induction l with
  | nil => rfl
  | cons x l ih => rw [List.flatMap_cons, List.length_append, ih, List.length_cons]; show 2 + _ = _; omega
theorem CS_drop : ∀ (l : List Int) (i : Nat) (h : i < l.length), (l.flatMap (chC fo fs)).drop (i * 2) = chC fo fs l[i] ++ (l.drop (i + 1)).flatMap (chC fo fs)
  | x :: l, 0, _ => by simp
  | x :: l, i + 1, h => by
    have ih := CS_drop l i (by simpa using h)
    have e : (i + 1) * 2 = i * 2 + 2 := by omega
    rw [e, List.flatMap_cons]
    show (IC x :: chF fo fs x :: l.flatMap (chC fo fs)).drop (i * 2 + 2) = _
    rw [List.drop_succ_cons, List.drop_succ_cons, ih]
    simp
variable {P : Program} {tt : TT} (hT : TTok P tt)
variable {dst : Option Nat} {ty : TypeId} {pos : String} {af : Array Edge} {gd : Option (Nat × Bool)} {d : Nat} {ρ : Operand → AV} {own : Own}
variable {T e : TypeId} {i j : TyI} {x y : Operand}
include hT
theorem op_indexI {k : IntKind} {n : Int} {l : List Int} (ht : tt T = some i) (hs : i.sh = .sl e) (he : tt e = some j) (hj : j.size = 1) (hx : ρ x = .p (.c (IS l))) (hy : ρ y = .p (.c (.v (.int k n)))) (hn : 0 ≤ n ∧ n < l.length) :
    Eff P ⟨dst, .indexAddr T x y, ty, pos, af, gd⟩ d ρ own (.ip (IC (l.getD n.toNat 0) :: (l.drop (n.toNat + 1)).map IC)) [] none [] := by
  have hi : n.toNat < l.length := by omega
  have h := op_index_sl (dst := dst) (ty := ty) (pos := pos) (af := af) (gd := gd) (d := d) (own := own) hT ht hs he hx (l := l.length) (xs := l.map IC) (by rfl) hy hn (by
    intro h0
    have : (l.map IC).length = 0 := by rw [h0]; rfl
    rw [List.length_map] at this; omega)
  rw [hj, Nat.mul_one, List.drop_eq_getElem_cons (by rw [List.length_map]; exact hi), List.getElem_map, ← List.map_drop] at h
  have e1 : l.getD n.toNat 0 = l[n.toNat] := by simp [List.getD, hi]
  rw [e1]; exact h
theorem op_indexC {k : IntKind} {n : Int} {l : List Int} (ht : tt T = some i) (hs : i.sh = .sl e) (he : tt e = some j) (hj : j.size = 2) (hx : ρ x = .p (.c (CS fo fs l))) (hy : ρ y = .p (.c (.v (.int k n)))) (hn : 0 ≤ n ∧ n < l.length) :
    Eff P ⟨dst, .indexAddr T x y, ty, pos, af, gd⟩ d ρ own (.ip (chC fo fs (l.getD n.toNat 0) ++ (l.drop (n.toNat + 1)).flatMap (chC fo fs))) [] none [] := by
  have hi : n.toNat < l.length := by omega
  have h := op_index_sl (dst := dst) (ty := ty) (pos := pos) (af := af) (gd := gd) (d := d) (own := own) hT ht hs he hx (l := l.length) (xs := l.flatMap (chC fo fs)) (by rfl) hy hn (by
    intro h0
    have := CS_len (fo := fo) (fs := fs) l
    rw [h0] at this
    simp at this
    omega)
  rw [hj, CS_drop l n.toNat hi] at h
  have e1 : l.getD n.toNat 0 = l[n.toNat] := by simp [List.getD, hi]
  rw [e1]; exact h
theorem op_appendI {m : Nat} {l : List Int} {z : Int} (ht : tt T = some i) (hs : i.sh = .sl e) (he : tt e = some j) (hj : j.size = 1) (hjb : Nat.ble j.bytes 32 = true) (hx : ρ x = .vec m) (hb : own m = some (IB e l)) (hy : ρ y = .p (.c (.sl 1 [IC z]))) (hfit : l.length ≤ 100000000) (hmd : m ≠ d) :
    Eff P ⟨dst, .call ⟨.builtin .append, #[x, y], #[T, T]⟩, ty, pos, af, gd⟩ d ρ own (.vec d) [(m, none)] (some (IB e (l ++ [z]))) [m] := by
  have hl : (IB e l).cs.length = l.length := by simp [IB]
  have h := op_append (dst := dst) (ty := ty) (pos := pos) (af := af) (gd := gd) hT ht hs he hx hb rfl hj.symm rfl hy (by rfl) (by rw [hj]; rfl) (by rw [hj]; exact hjb) (by rw [hl, hj]; omega) (by rw [hj]; rfl) hmd
  rw [hj] at h
  unfold IB
  rw [List.map_append]
  exact h
theorem op_appendC {m k : Nat} {l c : List Int} (ht : tt T = some i) (hs : i.sh = .sl e) (he : tt e = some j) (hj : j.size = 2) (hjb : Nat.ble j.bytes 64 = true) (hx : ρ x = .vec m) (hb : own m = some (CB fo fs e l)) (hy : ρ y = .p (.c (.sl k (c.flatMap (chC fo fs))))) (hk : k = c.length) (hfit : l.length + c.length ≤ 100000000) (hmd : m ≠ d) :
    Eff P ⟨dst, .call ⟨.builtin .append, #[x, y], #[T, T]⟩, ty, pos, af, gd⟩ d ρ own (.vec d) [(m, none)] (some (CB fo fs e (l ++ c))) [m] := by
  subst hk
  have hl : (CB fo fs e l).cs.length = l.length * 2 := CS_len l
  have h := op_append (dst := dst) (ty := ty) (pos := pos) (af := af) (gd := gd) hT ht hs he hx hb rfl hj.symm rfl hy (by rfl) (by rw [hj]; exact CS_len c) (by rw [hj]; exact hjb) (by rw [hl, hj]; omega) (by rw [hj]; rfl) hmd
  rw [hj] at h
  unfold CB
  rw [List.flatMap_append]
  exact h
end
section
variable {P : Program} {B : Bool} {N np : Nat} {Q : Exit → St → Prop} {s : St} {c : Code}
theorem AWp_freezeI {t m : Nat} {l : List Int} {e : TypeId} (ht : s.regs t = .vec m) (hb : s.own m = some (IB e l)) (h : AWp P B N np c Q ⟨upd s.regs t (.p (.c (IS l))), upd s.own m none⟩) : AWp P B N np c Q s := by
  refine AWp_freeze (n := l.length) ht hb rfl (by simp [IB]) (by show 0 < 1; omega) ?_
  exact h
theorem AWp_freezeC {fo fs : FuncId} {t m : Nat} {l : List Int} {e : TypeId} (ht : s.regs t = .vec m) (hb : s.own m = some (CB fo fs e l)) (h : AWp P B N np c Q ⟨upd s.regs t (.p (.c (CS fo fs l))), upd s.own m none⟩) : AWp P B N np c Q s := by
  refine AWp_freeze (n := l.length) ht hb rfl (CS_len l).symm (by show 0 < 2; omega) ?_
  exact h
end
end Go.AM
end

section
/- The characters of a discriminant, as both texts find them. -/
namespace Go.AM
open Go Go.RowKit
/-- a number without its factors p -/
def rmv (p : Int) : Nat → Int → Int
  | 0, n => n
  | f + 1, n => if n % p = 0 then rmv p f (n / p) else n
def rmp (n p : Int) : Int := rmv p n.toNat n
theorem div_ltp {n p : Int} (hn : 0 < n) (hp : 2 ≤ p) (h : n % p = 0) : 0 < n / p ∧ n / p < n := by
  have h1 := Int.mul_ediv_add_emod n p
  rw [h, Int.add_zero] at h1
  have h2 : 0 < n / p := by
    rcases Int.lt_or_le 0 (n / p) with g | g
    · exact g
    · have : p * (n / p) ≤ p * 0 := Int.mul_le_mul_of_nonneg_left g (by omega)
      omega
  refine ⟨h2, ?_⟩
  have h3 : 2 * (n / p) ≤ p * (n / p) := Int.mul_le_mul_of_nonneg_right hp (by omega)
  omega
theorem rmv_fuel {p : Int} (hp : 2 ≤ p) : ∀ (f g : Nat) (n : Int), 0 < n → n.toNat ≤ f → n.toNat ≤ g → rmv p f n = rmv p g n
  | 0, _, n, h, h1, _ => by omega
  | f + 1, 0, n, h, _, h2 => by omega
  | f + 1, g + 1, n, h, h1, h2 => by
    unfold rmv
    split
    · next e =>
      have hd := div_ltp h hp e
      exact rmv_fuel hp f g (n / p) hd.1 (by omega) (by omega)
    · rfl
theorem rmp_yes {n p : Int} (hp : 2 ≤ p) (hn : 0 < n) (h : n % p = 0) : rmp (n / p) p = rmp n p := by
  have hd := div_ltp hn hp h
  unfold rmp
  obtain ⟨k, hk⟩ : ∃ k, n.toNat = k + 1 := ⟨n.toNat - 1, by omega⟩
  rw [hk]
  show _ = (if n % p = 0 then rmv p k (n / p) else n)
  rw [if_pos h]
  exact rmv_fuel hp _ _ _ hd.1 (Nat.le_refl _) (by omega)
theorem rmp_no {n p : Int} (h : n % p ≠ 0) : rmp n p = n := by
  unfold rmp
  cases n.toNat with
  | zero => rfl
  | succ k => unfold rmv; rw [if_neg h]
theorem rmp_pos {p : Int} (hp : 2 ≤ p) : ∀ (f : Nat) (n : Int), n.toNat ≤ f → 0 < n → 0 < rmp n p ∧ rmp n p ≤ n ∧ rmp n p % p ≠ 0 ∧ ∃ k : Nat, n = rmp n p * p ^ k
  | 0, n, h, h0 => by omega
  | f + 1, n, h, h0 => by
    by_cases e : n % p = 0
    · have hd := div_ltp h0 hp e
      obtain ⟨h1, h2, h3, k, h4⟩ := rmp_pos hp f (n / p) (by omega) hd.1
      rw [rmp_yes hp h0 e] at h1 h2 h3 h4
      refine ⟨h1, by omega, h3, k + 1, ?_⟩
      have h5 := Int.mul_ediv_add_emod n p
      rw [e, Int.add_zero, h4] at h5
      rw [← h5, Int.pow_succ]
      grind
    · rw [rmp_no e]
      exact ⟨h0, Int.le_refl _, e, 0, by simp⟩
/-- the odd primes of an odd number, from p on -/
def gGo : Nat → Int → Int → List Int
  | 0, _, _ => []
  | f + 1, p, n => if p * p ≤ n then (if n % p = 0 then p :: gGo f (p + 2) (rmp n p) else gGo f (p + 2) n) else if 1 < n then [n] else []
def oddC (n : Int) : List Int := gGo 1200 3 n
def spC (d : Int) : List Int := if d % 4 ≠ 0 then [] else
  if (-d / 4) % 8 = 0 then [-4, 8] else if (-d / 4) % 8 = 1 ∨ (-d / 4) % 8 = 4 ∨ (-d / 4) % 8 = 5 then [-4] else if (-d / 4) % 8 = 2 then [-8] else if (-d / 4) % 8 = 6 then [8] else []
/-- the assigned characters of a discriminant -/
def chs (d : Int) : List Int := oddC (rmp (-d) 2) ++ spC d
theorem gGo_small {f : Nat} {p n : Int} (hn : n ≤ 1) (hp : 2 ≤ p) : gGo f p n = [] := by
  cases f with
  | zero => rfl
  | succ f =>
    unfold gGo
    have : ¬ p * p ≤ n := fun h => by
      have := Int.mul_le_mul hp hp (by omega) (by omega)
      omega
    rw [if_neg this, if_neg (by omega)]
/-- the program's rounds -/
structure OcI (n0 n p : Int) (out : List Int) : Prop where
  n1 : 1 ≤ n
  p3 : 3 ≤ p
  nb : n ≤ 4194304
  nn : n % 2 = 1
  po : p % 2 = 1
  pb : 1 < n → p ≤ 2051
  eq : ∃ f : Nat, (1 < n → (f : Int) = 1200 - (p - 3) / 2) ∧ out ++ gGo f p n = oddC n0
  len : out.length ≤ 1200 ∧ (1 < n → (out.length : Int) ≤ (p - 3) / 2)
theorem OcI.start {n : Int} (h1 : 1 ≤ n) (hb : n ≤ 4194304) (ho : n % 2 = 1) : OcI n n 3 [] :=
  ⟨h1, by omega, hb, ho, by omega, fun _ => by omega, ⟨1200, fun _ => by omega, rfl⟩, by simp, fun _ => by simp⟩
section
variable {n0 n p : Int} {out : List Int}
theorem OcI.fin (i : OcI n0 n p out) (h : ¬ n > 1) : out = oddC n0 := by
  obtain ⟨f, _, e⟩ := i.eq
  rw [gGo_small (by omega) (by have := i.p3; omega), List.append_nil] at e
  exact e
theorem OcI.sq (i : OcI n0 n p out) (hn : n > 1) (h : p * p ≤ n) : p ≤ 2048 := by
  have := i.nb
  rcases Int.lt_or_le 2048 p with g | g
  · have := Int.mul_le_mul g g (by omega) (by omega)
    omega
  · exact g
theorem OcI.f1 (i : OcI n0 n p out) (hn : n > 1) : ∃ f : Nat, ((f : Int) + 1 = 1200 - (p - 3) / 2) ∧ out ++ gGo (f + 1) p n = oddC n0 := by
  obtain ⟨f, h1, e⟩ := i.eq
  have h2 := h1 hn
  have hp := i.pb hn
  cases f with
  | zero => omega
  | succ f => exact ⟨f, by omega, e⟩
/-- no divisor: on -/
theorem OcI.next (i : OcI n0 n p out) (hn : n > 1) (h : ¬ p * p > n) (hd : n % p ≠ 0) : OcI n0 n (p + 2) out := by
  have h' : p * p ≤ n := by omega
  have hs := i.sq hn h'
  obtain ⟨f, h1, e⟩ := i.f1 hn
  unfold gGo at e
  rw [if_pos h', if_neg hd] at e
  have hl := i.len
  have p3 := i.p3
  have hl2 := hl.2 hn
  exact ⟨i.n1, by omega, i.nb, i.nn, by have := i.po; omega, fun _ => by omega, ⟨f, fun _ => by omega, e⟩, hl.1, fun _ => by omega⟩
theorem rmp_odd {n p : Int} (hp : 3 ≤ p) (hn : 0 < n) (ho : n % 2 = 1) : rmp n p % 2 = 1 := by
  obtain ⟨h1, h2, h3, k, h4⟩ := rmp_pos (p := p) (by omega) n.toNat n (Nat.le_refl _) hn
  rcases (show rmp n p % 2 = 0 ∨ rmp n p % 2 = 1 by omega) with g | g
  · have : n % 2 = 0 := by rw [h4, Int.mul_emod, g]; simp
    omega
  · exact g
/-- a divisor: it is taken, with all its powers -/
theorem OcI.take (i : OcI n0 n p out) (hn : n > 1) (h : ¬ p * p > n) (hd : n % p = 0) : OcI n0 (rmp n p) (p + 2) (out ++ [p]) := by
  have h' : p * p ≤ n := by omega
  have hs := i.sq hn h'
  obtain ⟨f, h1, e⟩ := i.f1 hn
  unfold gGo at e
  rw [if_pos h', if_pos hd] at e
  have hl := i.len
  have p3 := i.p3
  have hl2 := hl.2 hn
  obtain ⟨r1, r2, r3, _⟩ := rmp_pos (p := p) (by omega) n.toNat n (Nat.le_refl _) (by omega)
  have nb := i.nb
  refine ⟨by omega, by omega, by omega, rmp_odd p3 (by omega) i.nn, by have := i.po; omega, fun _ => by omega, ⟨f, fun _ => by omega, ?_⟩, ?_, fun _ => ?_⟩
  · rw [List.append_assoc]; exact e
  · rw [List.length_append, List.length_singleton]; omega
  · rw [List.length_append, List.length_singleton]; omega
/-- the last prime -/
theorem OcI.last (i : OcI n0 n p out) (hn : n > 1) (h : p * p > n) : OcI n0 1 (n + 2) (out ++ [n]) := by
  obtain ⟨f, h1, e⟩ := i.f1 hn
  unfold gGo at e
  rw [if_neg (by omega), if_pos hn] at e
  have hl := i.len
  have hl2 := hl.2 hn
  have hp := i.pb hn
  refine ⟨by omega, by omega, by omega, by omega, by have := i.nn; omega, fun x => by omega, ⟨0, fun x => by omega, ?_⟩, ?_, fun x => by omega⟩
  · show out ++ [n] ++ [] = _
    rw [List.append_nil]; exact e
  · rw [List.length_append, List.length_singleton]; omega
end
theorem rmp_self {n : Int} (hn : 1 < n) : rmp n n = 1 := by
  have e : n % n = 0 := Int.emod_self
  have h := rmp_yes (p := n) (by omega) (by omega) e
  rw [Int.ediv_self (by omega)] at h
  rw [← h]
  exact rmp_no (by rw [Int.emod_eq_of_lt (by omega) hn]; omega)
end Go.AM
end

section
/- Values of characters; where a number is in a list. -/
namespace Go.AM
open Go Go.RowKit
def sgB (b : Bool) : Int := if b then 1 else -1
/-- the place of a number in a list, or -1 -/
def ixV (l : List Int) (x : Int) : Int := if l.findIdx (· == x) < l.length then (l.findIdx (· == x) : Nat) else -1
def hasI (l : List Int) (x : Int) : Bool := decide (0 ≤ ixV l x)
theorem findIdx_gt {l : List Int} {x : Int} {k : Nat} (h : k ≤ l.findIdx (· == x)) (hk : (k : Int) < l.length) (hne : x ≠ l.getD k 0) : k + 1 ≤ l.findIdx (· == x) := by
  rcases Nat.lt_or_eq_of_le h with g | g
  · exact g
  · exfalso
    have h1 : l.findIdx (· == x) < l.length := by omega
    have h2 := List.findIdx_getElem (w := h1)
    simp only [beq_iff_eq] at h2
    apply hne
    rw [← h2]
    simp [List.getD, ← g, show k < l.length by omega]
theorem ix_yes {l : List Int} {x : Int} {k : Nat} (h : k ≤ l.findIdx (· == x)) (hk : (k : Int) < l.length) (he : x = l.getD k 0) : ixV l x = (k : Int) := by
  have hk' : k < l.length := by omega
  have hp : l[k] = x := by rw [he]; simp [List.getD, hk']
  have h1 : l.findIdx (· == x) ≤ k := by
    rcases Nat.lt_or_ge k (l.findIdx (· == x)) with g | g
    · have := List.not_of_lt_findIdx g
      simp [hp] at this
    · exact g
  have e : l.findIdx (· == x) = k := by omega
  unfold ixV
  rw [e, if_pos hk']
theorem ix_end {l : List Int} {x : Int} {k : Nat} (h : k ≤ l.findIdx (· == x)) (hk : ¬ (k : Int) < l.length) : ixV l x = -1 := by
  unfold ixV
  rw [if_neg (by omega)]
theorem hasI_iff {l : List Int} {x : Int} : hasI l x = true ↔ x ∈ l := by
  unfold hasI ixV
  rw [decide_eq_true_iff]
  have := List.findIdx_lt_length (p := fun y => y == x) (xs := l)
  constructor
  · intro h
    split at h
    · next g =>
      obtain ⟨y, hy, e⟩ := this.1 g
      simp only [beq_iff_eq] at e
      exact e ▸ hy
    · omega
  · intro h
    rw [if_pos (this.2 ⟨x, h, by simp⟩)]
    omega
/-- the value of a character at a number that is not negative -/
def cv (c n : Int) : Int := if c = -4 ∨ c = 8 ∨ c = -8 then sgB (hasI (spR c) (n % 8)) else kr n c
theorem cv_sp {c n : Int} (h : c = -4 ∨ c = 8 ∨ c = -8) : sgB (hasI (spR c) (n % 8)) = cv c n := by unfold cv; rw [if_pos h]
theorem cv_odd {c n : Int} (h : ¬ (c = -4 ∨ c = 8 ∨ c = -8)) : kr n c = cv c n := by unfold cv; rw [if_neg h]
theorem sgB_t {b : Bool} (h : b = true) : (1 : Int) = sgB b := by rw [h]; rfl
theorem sgB_f {b : Bool} (h : b = false) : (-1 : Int) = sgB b := by rw [h]; rfl
theorem odd_chC {fo fs : FuncId} {p : Int} (h : 3 ≤ p) (ho : p % 2 = 1) : [IC p, DV.fn fo [.ip [IC p]]] = chC fo fs p := by
  unfold chC chF
  rw [if_neg (by omega)]
theorem gcdT (a b : Int) : Int.gcd b (a.tmod b) = Int.gcd a b := by
  have h1 : (a.tmod b).natAbs = a.natAbs % b.natAbs := Int.natAbs_tmod a b
  unfold Int.gcd
  rw [h1, Nat.gcd_comm b.natAbs, ← Nat.gcd_rec, Nat.gcd_comm]
def ocM (n p : Int) : Nat := if 1 < n then (5000 - p).toNat else 0
/-- a round's choice: q is the divisor that is tried, out' the list after it -/
def RI (n p q : Int) (out out' : List Int) : Prop := (q = n ∧ p * p > n ∧ out' = out ++ [n]) ∨ (q = p ∧ ¬ p * p > n ∧ n % p = 0 ∧ out' = out ++ [p]) ∨ (q = p ∧ ¬ p * p > n ∧ n % p ≠ 0 ∧ out' = out)
def QI (n p q : Int) : Prop := (q = n ∧ p * p > n) ∨ (q = p ∧ ¬ p * p > n)
section
variable {n0 n p q : Int} {out out' : List Int}
theorem OcI.q3 (i : OcI n0 n p out) (hn : n > 1) (h : QI n p q) : 3 ≤ q ∧ q % 2 = 1 ∧ q ≤ 4194304 := by
  have h1 := i.nn; have h2 := i.po; have h3 := i.p3; have h4 := i.nb; have h5 := i.pb hn
  rcases h with ⟨rfl, _⟩ | ⟨rfl, _⟩
  · omega
  · omega
theorem QI.yes (h : QI n p q) (hd : n % q = 0) : RI n p q out (out ++ [q]) := by
  rcases h with ⟨rfl, g⟩ | ⟨rfl, g⟩
  · exact .inl ⟨rfl, g, rfl⟩
  · exact .inr (.inl ⟨rfl, g, hd, rfl⟩)
theorem QI.no (h : QI n p q) (hn : n > 1) (hd : n % q ≠ 0) : RI n p q out out := by
  rcases h with ⟨rfl, g⟩ | ⟨rfl, g⟩
  · exact absurd Int.emod_self hd
  · exact .inr (.inr ⟨rfl, g, hd, rfl⟩)
theorem OcI.close (i : OcI n0 n p out) (hn : n > 1) (h : RI n p q out out') : OcI n0 (rmp n q) (q + 2) out' ∧ ocM (rmp n q) (q + 2) < ocM n p := by
  have hp := i.pb hn
  have e1 : ocM n p = (5000 - p).toNat := by unfold ocM; rw [if_pos (by omega)]
  rcases h with ⟨rfl, g, rfl⟩ | ⟨rfl, g, hd, rfl⟩ | ⟨rfl, g, hd, rfl⟩
  · rw [rmp_self (by omega)]
    refine ⟨i.last hn g, ?_⟩
    rw [e1]; unfold ocM; rw [if_neg (by omega)]; omega
  · refine ⟨i.take hn g hd, ?_⟩
    rw [e1]; unfold ocM; split <;> omega
  · rw [rmp_no hd]
    refine ⟨i.next hn g hd, ?_⟩
    rw [e1]; unfold ocM; rw [if_pos (by omega)]; omega
end
theorem spC_n {d : Int} (h : d.tmod 4 ≠ 0) : spC d = [] := by
  unfold spC
  rw [if_pos]
  intro e
  exact h (by rw [Int.tmod_eq_emod]; split <;> omega)
theorem spC_z {d : Int} (h : d.tmod 4 = 0) : ¬ d % 4 ≠ 0 := fun e => by
  have := Int.mul_tdiv_add_tmod d 4
  omega
theorem chs_n {d : Int} (h : d.tmod 4 ≠ 0) : oddC (rmp (-d) 2) = chs d := by unfold chs; rw [spC_n h, List.append_nil]
theorem chs_y {d : Int} {l : List Int} (_h : d.tmod 4 = 0) (e : l = spC d) : oddC (rmp (-d) 2) ++ l = chs d := by unfold chs; rw [e]
section
variable {d : Int} (h : d.tmod 4 = 0)
include h
theorem spC_0 (h1 : -d / 4 % 8 = 0) : [-4, 8] = spC d := by unfold spC; rw [if_neg (spC_z h), if_pos h1]
theorem spC_1 (h0 : ¬ -d / 4 % 8 = 0) (h1 : -d / 4 % 8 = 1 ∨ -d / 4 % 8 = 4 ∨ -d / 4 % 8 = 5) : [-4] = spC d := by unfold spC; rw [if_neg (spC_z h), if_neg h0, if_pos h1]
theorem spC_2 (h1 : -d / 4 % 8 = 2) : [-8] = spC d := by unfold spC; rw [if_neg (spC_z h), if_neg (by omega), if_neg (by omega), if_pos h1]
theorem spC_6 (h1 : -d / 4 % 8 = 6) : [8] = spC d := by unfold spC; rw [if_neg (spC_z h), if_neg (by omega), if_neg (by omega), if_neg (by omega), if_pos h1]
theorem spC_e (h0 : ¬ -d / 4 % 8 = 0) (h1 : ¬ -d / 4 % 8 = 1) (h4 : ¬ -d / 4 % 8 = 4) (h5 : ¬ -d / 4 % 8 = 5) (h2 : ¬ -d / 4 % 8 = 2) (h6 : ¬ -d / 4 % 8 = 6) : oddC (rmp (-d) 2) = chs d := by
  have : spC d = [] := by
    unfold spC; rw [if_neg (spC_z h), if_neg h0, if_neg (by omega), if_neg h2, if_neg h6]
  unfold chs; rw [this, List.append_nil]
end
end Go.AM
end

section
/- How many characters there are; the errors of discriminants. -/
namespace Go.AM
open Go Go.RowKit
theorem rmp_le3 {n p : Int} (hp : 3 ≤ p) (hn : 0 < n) (h : n % p = 0) : 3 * rmp n p ≤ n := by
  have hd := div_ltp hn (by omega) h
  obtain ⟨h1, h2, _, _⟩ := rmp_pos (p := p) (by omega) (n / p).toNat (n / p) (Nat.le_refl _) hd.1
  rw [rmp_yes (by omega) hn h] at h1 h2
  have h3 := Int.mul_ediv_add_emod n p
  rw [h, Int.add_zero] at h3
  have h4 : 3 * (n / p) ≤ p * (n / p) := Int.mul_le_mul_of_nonneg_right hp (by omega)
  omega
theorem gGo_3 : ∀ (f : Nat) (p n : Int), 3 ≤ p → 1 ≤ n → n % 2 = 1 → (3 : Int) ^ (gGo f p n).length ≤ n
  | 0, p, n, _, hn, _ => by simpa [gGo] using hn
  | f + 1, p, n, hp, hn, ho => by
    unfold gGo
    split
    · split
      · next h =>
        obtain ⟨r1, _, _, _⟩ := rmp_pos (p := p) (by omega) n.toNat n (Nat.le_refl _) (by omega)
        have ih := gGo_3 f (p + 2) (rmp n p) (by omega) (by omega) (rmp_odd hp (by omega) ho)
        have h3 := rmp_le3 hp (by omega) h
        rw [List.length_cons, Int.pow_succ]
        omega
      · exact gGo_3 f (p + 2) n (by omega) hn ho
    · split
      · show (3 : Int) ^ 1 ≤ n; omega
      · show (3 : Int) ^ 0 ≤ n; omega
theorem rmp2 {n : Int} (h : 0 < n) : 0 < rmp n 2 ∧ rmp n 2 ≤ n ∧ rmp n 2 % 2 = 1 := by
  obtain ⟨h1, h2, h3, _⟩ := rmp_pos (p := 2) (by omega) n.toNat n (Nat.le_refl _) h
  exact ⟨h1, h2, by omega⟩
theorem chs_len {d : Int} (h0 : d < 0) (h1 : -4194304 ≤ d) : (chs d).length ≤ 16 := by
  obtain ⟨r1, r2, r3⟩ := rmp2 (n := -d) (by omega)
  have h3 := gGo_3 1200 3 (rmp (-d) 2) (by omega) (by omega) r3
  have hl : (oddC (rmp (-d) 2)).length ≤ 14 := by
    have e : (oddC (rmp (-d) 2)) = gGo 1200 3 (rmp (-d) 2) := rfl
    rw [e]
    rcases Nat.lt_or_ge 14 (gGo 1200 3 (rmp (-d) 2)).length with g | g
    · have h4 : (3 : Nat) ^ 15 ≤ 3 ^ (gGo 1200 3 (rmp (-d) 2)).length := Nat.pow_le_pow_right (by omega) g
      have h5 : ((3 ^ (gGo 1200 3 (rmp (-d) 2)).length : Nat) : Int) ≤ rmp (-d) 2 := by rw [Int.natCast_pow]; exact h3
      omega
    · exact g
  have hs : (spC d).length ≤ 2 := by
    unfold spC
    split
    · simp
    · split
      · simp
      · split
        · simp
        · split
          · simp
          · split <;> simp
  unfold chs
  rw [List.length_append]; omega
def gnV (d : Int) : Int := if szE d = 0 then d else 0
theorem gn_5 {d : Int} (h : 0 ≤ d ∨ d % 4 > 1) : AV.t [PE 0, PE 5] = .t [PE (gnV d), PE (szE d)] := by
  have e : szE d = 5 := by unfold szE; rw [if_pos h]
  unfold gnV; rw [e]; rfl
theorem gn_2 {d : Int} (h : ¬ (0 ≤ d ∨ d % 4 > 1)) (h1 : -d > 4194304) : AV.t [PE 0, PE 2] = .t [PE (gnV d), PE (szE d)] := by
  have e : szE d = 2 := by unfold szE; rw [if_neg h, if_pos h1]
  unfold gnV; rw [e]; rfl
theorem gn_0 {d : Int} (h : ¬ (0 ≤ d ∨ d % 4 > 1)) (h1 : ¬ -d > 4194304) : AV.t [PE d, PE 0] = .t [PE (gnV d), PE (szE d)] := by
  have e : szE d = 0 := by unfold szE; rw [if_neg h, if_neg h1]
  unfold gnV; rw [e]; rfl
theorem gnV_0 {d : Int} (h : szE d = 0) : gnV d = d ∧ d < 0 ∧ -4194304 ≤ d := by
  have := szE_0 h
  exact ⟨by unfold gnV; rw [if_pos h], by omega, by omega⟩
def chE (d : Int) : List Int := if szE d = 0 then chs d else []
theorem chE_0 {d : Int} (h : szE d = 0) : chE d = chs d := by unfold chE; rw [if_pos h]
theorem chE_e {d : Int} (h : ¬ szE d = 0) : chE d = [] := by unfold chE; rw [if_neg h]
theorem take_snoc {l : List Int} {k : Nat} (h : (k : Int) < l.length) : l.take k ++ [l.getD k 0] = l.take (k + 1) := by
  have hk : k < l.length := by omega
  rw [List.take_add_one, List.getElem?_eq_getElem hk]
  simp [List.getD, hk]
theorem take_all {l : List Int} {k : Nat} (h : ¬ (k : Int) < l.length) : l.take k = l := List.take_of_length_le (by omega)
def gnN (d : Int) : Int := if szE d = 0 then 2 ^ ((chs d).length - 1) else 0
theorem gnN_e {d : Int} (h : ¬ szE d = 0) : AV.t [PE 0, PE (szE d)] = .t [PE (gnN d), PE (szE d)] := by unfold gnN; rw [if_neg h]
theorem gnN_0 {d : Int} (h : szE d = 0) : AV.t [PE (2 ^ ((chs d).length - 1)), PE 0] = .t [PE (gnN d), PE (szE d)] := by unfold gnN; rw [if_pos h, h]
theorem shl_1 {l : Nat} (h : l ≤ 16) : (.i64 : IntKind).wrap (1 * 2 ^ (min (if (l : Int) - 1 > 0 then (l : Int) - 1 else (0 : Int)).toNat (IntKind.i64.bits))) = 2 ^ (l - 1) := by
  have key : ∀ k : Fin 17, (.i64 : IntKind).wrap (1 * 2 ^ (min (if ((k.val : Nat) : Int) - 1 > 0 then ((k.val : Nat) : Int) - 1 else (0 : Int)).toNat (IntKind.i64.bits))) = 2 ^ (k.val - 1) := by decide +kernel
  exact key ⟨l, by omega⟩
end Go.AM
end

section
/- The search for a number with a form's values. -/
namespace Go.AM
open Go Go.RowKit
/-- genus.gcd -/
def ggV : Nat → Int → Int → Int
  | 0, a, _ => a
  | f + 1, a, b => if b = 0 then a else ggV f b (a.tmod b)
def gg (a b : Int) : Int := ggV (b.natAbs + 1) a b
theorem ggV_abs : ∀ (f : Nat) (a b : Int), b.natAbs < f → (ggV f a b).natAbs = Int.gcd a b
  | 0, _, _, h => by omega
  | f + 1, a, b, h => by
    unfold ggV
    split
    · next e => subst e; simp
    · next e =>
      have h1 : (a.tmod b).natAbs = a.natAbs % b.natAbs := Int.natAbs_tmod a b
      have h2 : a.natAbs % b.natAbs < b.natAbs := Nat.mod_lt _ (by omega)
      rw [ggV_abs f b (a.tmod b) (by omega), gcdT]
theorem ggV_fuel : ∀ (f g : Nat) (a b : Int), b.natAbs < f → b.natAbs < g → ggV f a b = ggV g a b
  | 0, _, _, _, h, _ => by omega
  | _ + 1, 0, _, _, _, h => by omega
  | f + 1, g + 1, a, b, h, h' => by
    unfold ggV
    split
    · rfl
    · next e =>
      have h1 : (a.tmod b).natAbs = a.natAbs % b.natAbs := Int.natAbs_tmod a b
      have h2 : a.natAbs % b.natAbs < b.natAbs := Nat.mod_lt _ (by omega)
      exact ggV_fuel f g b (a.tmod b) (by omega) (by omega)
theorem gg_abs (a b : Int) : (gg a b).natAbs = Int.gcd a b := ggV_abs _ a b (by omega)
theorem gg_z {a b : Int} (h : b = 0) : gg a b = a := by unfold gg ggV; rw [if_pos h]
theorem gg_step {a b : Int} (h : b ≠ 0) : gg b (a.tmod b) = gg a b := by
  have h1 : (a.tmod b).natAbs = a.natAbs % b.natAbs := Int.natAbs_tmod a b
  have h2 : a.natAbs % b.natAbs < b.natAbs := Nat.mod_lt _ (by omega)
  unfold gg
  rw [ggV_fuel _ b.natAbs b (a.tmod b) (by omega) (by omega)]
  show _ = (if b = 0 then a else ggV b.natAbs b (a.tmod b))
  rw [if_neg h]
theorem gg_one {a b : Int} : Int.gcd a b = 1 ↔ gg a b = 1 ∨ gg a b = -1 := by have := gg_abs a b; omega
theorem tmod_I {a b : Int} (_ha : InI64 a) (hb : InI64 b) (h : b ≠ 0) : InI64 (a.tmod b) ∧ (a.tmod b).natAbs < b.natAbs := by
  have h1 : (a.tmod b).natAbs = a.natAbs % b.natAbs := Int.natAbs_tmod a b
  have h2 : a.natAbs % b.natAbs < b.natAbs := Nat.mod_lt _ (by omega)
  unfold InI64 at *
  omega
def gpE (f : Fm) : Int := if ck f.a f.b f.c ≠ 0 then ck f.a f.b f.c else if szE (dsc f.a f.b f.c) ≠ 0 then szE (dsc f.a f.b f.c) else if prim f.a f.b f.c = true then 0 else 80
theorem gpE_cl {f : Fm} (h : gpE f = 0) : Cl (dsc f.a f.b f.c) f ∧ szE (dsc f.a f.b f.c) = 0 := by
  unfold gpE at h
  split at h
  · next g => exact absurd h g
  · next g1 =>
    split at h
    · next g => exact absurd h g
    · next g2 =>
      split at h
      · next g3 =>
        have e1 : ck f.a f.b f.c = 0 := Classical.not_not.1 g1
        have e2 : szE (dsc f.a f.b f.c) = 0 := Classical.not_not.1 g2
        refine ⟨rfE_cl ?_, e2⟩
        unfold rfE
        have := (szE_0 e2)
        rw [if_neg (fun x => x e1), if_neg (by omega), if_pos g3]
      · cases h
def gpV (f : Fm) : Int := if gpE f = 0 then dsc f.a f.b f.c else 0
theorem cl_gpE {d : Int} {f : Fm} (h : Cl d f) (_hd : -4194304 ≤ d) (hE : szE d = 0) : gpE f = 0 := by
  have h1 := cl_rfE h
  unfold rfE at h1
  unfold gpE
  rw [h.disc, hE]
  split at h1
  · next g => exact absurd h1 g
  · next g => rw [if_neg g, if_neg (by simp), if_pos h.prim]
theorem gb {a b c x y : Int} (ha : 0 ≤ a ∧ a ≤ 2000) (hb : -2000 ≤ b ∧ b ≤ 2000) (hc : 0 ≤ c ∧ c ≤ 1400000) (hx : 0 ≤ x ∧ x ≤ 1400001) (hy : 0 ≤ y ∧ y ≤ 1400001) :
    (0 ≤ a * x ∧ a * x ≤ 2800002000) ∧ (0 ≤ a * x * x ∧ a * x * x ≤ 3920005600002000) ∧ (-2800002000 ≤ b * x ∧ b * x ≤ 2800002000) ∧ (-3920005600002000 ≤ b * x * y ∧ b * x * y ≤ 3920005600002000) ∧ (0 ≤ c * y ∧ c * y ≤ 1960001400000) ∧ (0 ≤ c * y * y ∧ c * y * y ≤ 2744003920001400000) := by
  have m1 : ∀ {u v A B : Int}, 0 ≤ u → u ≤ A → 0 ≤ v → v ≤ B → 0 ≤ u * v ∧ u * v ≤ A * B := fun h1 h2 h3 h4 => ⟨Int.mul_nonneg h1 h3, Int.mul_le_mul h2 h4 h3 (by omega)⟩
  have a1 := m1 ha.1 ha.2 hx.1 hx.2
  have a2 := m1 a1.1 a1.2 hx.1 hx.2
  have c1 := m1 hc.1 hc.2 hy.1 hy.2
  have c2 := m1 c1.1 c1.2 hy.1 hy.2
  have nb : ∀ {u v A B : Int}, -A ≤ u → u ≤ A → 0 ≤ v → v ≤ B → 0 ≤ A → -(A * B) ≤ u * v ∧ u * v ≤ A * B := fun {u v A B} h1 h2 h3 h4 h5 => by
    rcases Int.lt_or_le u 0 with g | g
    · have := m1 (show 0 ≤ -u by omega) (show -u ≤ A by omega) h3 h4
      rw [Int.neg_mul] at this
      have := Int.mul_nonneg h5 (show 0 ≤ B by omega)
      omega
    · have := m1 g h2 h3 h4
      have := Int.mul_nonneg h5 (show 0 ≤ B by omega)
      omega
  have b1 := nb (u := b) (v := x) (A := 2000) (B := 1400001) (by omega) hb.2 hx.1 hx.2 (by omega)
  have b2 := nb (u := b * x) (v := y) (A := 2800002000) (B := 1400001) (by omega) (by omega) hy.1 hy.2 (by omega)
  refine ⟨by omega, by omega, by omega, by omega, by omega, by omega⟩
/-- a reduced form of a small discriminant is small -/
theorem rd_small {d : Int} {g : Fm} (hg : Cl d g) (e : g.rd = g) (hd : -4194304 ≤ d) : (0 < g.a ∧ g.a ≤ 2000) ∧ (-2000 ≤ g.b ∧ g.b ≤ 2000) ∧ 0 < g.c ∧ g.c ≤ 1400000 := by
  have hr : Rd g := e ▸ hg.rd_Rd
  have h1 := hr.a; have h2 := hr.b; have h3 := hr.c
  have hdd : g.b * g.b - 4 * g.a * g.c = d := hg.disc
  rw [Int.mul_assoc] at hdd
  have hb : g.b * g.b ≤ g.a * g.a := sq_le_of_abs (by omega)
  have hac : g.a * g.a ≤ g.a * g.c := Int.mul_le_mul_of_nonneg_left h3 (by omega)
  have ha : g.a ≤ 2000 := by
    rcases Int.lt_or_le 2000 g.a with g0 | g0
    · have := Int.mul_le_mul g0 g0 (by omega) (by omega); omega
    · exact g0
  have hc1 : 1 * g.c ≤ g.a * g.c := Int.mul_le_mul_of_nonneg_right (by omega) (by omega)
  exact ⟨⟨h1, ha⟩, by omega, by omega, by omega⟩
/-- pairs that have been tried -/
def NoP (g : Fm) (d : Int) (y : Int) : Prop := ∀ u v : Int, 0 ≤ u → 0 ≤ v → u < y → v < y → Int.gcd (vl g.a g.b g.c u v) (2 * d) ≠ 1
def NoX (g : Fm) (d : Int) (y x : Int) : Prop := ∀ u : Int, 0 ≤ u → u < x → Int.gcd (vl g.a g.b g.c u y) (2 * d) ≠ 1 ∧ Int.gcd (vl g.a g.b g.c y u) (2 * d) ≠ 1
def RpN (g : Fm) (N : Int) : Prop := ∃ u v : Int, N = vl g.a g.b g.c u v
theorem NoP.start {g : Fm} {d : Int} (hd : d < 0) : NoP g d 1 := fun u v h1 h2 h3 h4 => by
  have e1 : u = 0 := by omega
  have e2 : v = 0 := by omega
  subst e1 e2
  have : vl g.a g.b g.c 0 0 = 0 := by unfold vl; simp
  rw [this]
  show Nat.gcd 0 (2 * d).natAbs ≠ 1
  rw [Nat.gcd_zero_left]; omega
theorem NoX.start {g : Fm} {d y : Int} : NoX g d y 0 := fun u h1 h2 => by omega
theorem NoX.next {g : Fm} {d y x : Int} (h : NoX g d y x) (h1 : Int.gcd (vl g.a g.b g.c x y) (2 * d) ≠ 1) (h2 : Int.gcd (vl g.a g.b g.c y x) (2 * d) ≠ 1) : NoX g d y (x + 1) := fun u g1 g2 => by
  rcases Int.lt_or_eq_of_le (show u ≤ x by omega) with q | q
  · exact h u g1 q
  · rw [q]; exact ⟨h1, h2⟩
theorem NoP.next {g : Fm} {d y : Int} (h : NoP g d y) (h1 : NoX g d y (y + 1)) : NoP g d (y + 1) := fun u v g1 g2 g3 g4 => by
  rcases Int.lt_or_eq_of_le (show u ≤ y by omega) with q | q
  · rcases Int.lt_or_eq_of_le (show v ≤ y by omega) with q2 | q2
    · exact h u v g1 g2 q q2
    · rw [q2]; exact (h1 u g1 (by omega)).1
  · rw [q]; exact (h1 v g2 (by omega)).2
theorem NoP.le {g : Fm} {d y : Int} (h : NoP g d y) {B : Int} (hx : ∃ x y : Int, 0 ≤ x ∧ x ≤ B ∧ 0 ≤ y ∧ y ≤ B ∧ Int.gcd (vl g.a g.b g.c x y) (2 * d) = 1) : y ≤ B := by
  obtain ⟨u, v, h1, h2, h3, h4, h5⟩ := hx
  rcases Int.lt_or_le B y with q | q
  · exact absurd h5 (h u v h1 h3 (by omega) (by omega))
  · exact q
end Go.AM
end

section
/- Powers, as their walks ask. -/
namespace Go.AM
open Go Go.RowKit
section
variable {D : Int} {f g : Fm}
theorem red_b (hg : Cl D g) (e : g.rd = g) : (0 < g.a ∧ g.a ≤ -D) ∧ (-(-D) ≤ g.b ∧ g.b ≤ -D) ∧ (0 < g.c ∧ g.c ≤ -D) := by
  have hr : Rd g := by rw [← e]; exact hg.rd_Rd
  have hd := hg.disc
  unfold dsc at hd
  rw [Int.mul_assoc] at hd
  have ha := hr.a; have hb := hr.b; have hc := hr.c
  have h1 : g.b * g.b ≤ g.a * g.a := sq_le_of_abs (by omega)
  have h2 : g.a * g.a ≤ g.a * g.c := Int.mul_le_mul_of_nonneg_left hc (by omega)
  have h3 : 1 * g.c ≤ g.a * g.c := Int.mul_le_mul_of_nonneg_right ha (by omega)
  omega
theorem red_L6 (hg : Cl D g) (e : g.rd = g) (hD : -1000000000000000000 ≤ D) : L 6 g.a ∧ L 6 g.b ∧ L 6 g.c := by
  have h := red_b hg e
  exact ⟨L6_of (by omega), L6_of (by omega), L6_of (by omega)⟩
end
end Go.AM
end

section
/- Orders of classes, as the program finds them. -/
namespace Go.AM
open Go Go.RowKit
section
end
theorem fm_eq {f g : Fm} : (f.a = g.a ∧ f.b = g.b ∧ f.c = g.c) ↔ f = g := ⟨fun h => Fm.ext h.1 h.2.1 h.2.2, fun h => by subst h; exact ⟨rfl, rfl, rfl⟩⟩
end Go.AM
end

section
/- Square roots of classes among forms. -/
namespace Go.AM
open Go Go.RowKit
end Go.AM
end

section
/- Slices of forms that the call owns: reading, writing, clearing the tail. -/
namespace Go.AM
open Go Go.RowKit
section ops
end ops
end Go.AM
end

section
/- The first place where a test says yes; what is left when a test deletes. -/
namespace Go.AM
open Go Go.RowKit
section ops
end ops
end Go.AM
end

section
/- Numbers with a square root added, as modular.half powers them. -/
namespace Go.AM
open Go Go.RowKit
end Go.AM
end

section
/- Scopes; the search of modular.Sqrt. -/
namespace Go.AM
open Go Go.RowKit
section scope
end scope
end Go.AM
end

section
/- The middle coefficient of a form over an odd prime. -/
namespace Go.AM
open Go Go.RowKit
end Go.AM
end

section
/- The form over an odd prime. -/
namespace Go.AM
open Go Go.RowKit
end Go.AM
end

section
/- Two ways to say that an answer is a form. -/
namespace Go.AM
open Go Go.RowKit
end Go.AM
end

section
/- Made forms are small. -/
namespace Go.AM
open Go Go.RowKit
theorem bm {x y : Int} {M N : Nat} (hx : x.natAbs ≤ M) (hy : y.natAbs ≤ N) : (x * y).natAbs ≤ M * N := by rw [Int.natAbs_mul]; exact Nat.mul_le_mul hx hy
theorem turn_17 : ∀ b : Fin 256, ((turnM b.val).a.natAbs ≤ 17 ∧ (turnM b.val).b.natAbs ≤ 17) ∧ (turnM b.val).c.natAbs ≤ 17 ∧ (turnM b.val).d.natAbs ≤ 17 := by decide +kernel
theorem vl_small {a b c x y : Int} (ha : a.natAbs ≤ 25) (hb : b.natAbs ≤ 25) (hc : c.natAbs ≤ 3000) (hx : x.natAbs ≤ 17) (hy : y.natAbs ≤ 17) : (vl a b c x y).natAbs ≤ 881450 := by
  unfold vl
  have h1 := bm (bm ha hx) hx
  have h2 := bm (bm hb hx) hy
  have h3 := bm (bm hc hy) hy
  omega
theorem apB_small {a b c p q r s : Int} (ha : a.natAbs ≤ 25) (hb : b.natAbs ≤ 25) (hc : c.natAbs ≤ 3000) (hp : p.natAbs ≤ 17) (hq : q.natAbs ≤ 17) (hr : r.natAbs ≤ 17) (hs : s.natAbs ≤ 17) : (apB a b c p q r s).natAbs ≤ 1763000 := by
  unfold apB
  have h1 := bm (bm ha hp) hq
  have h2 := bm (bm hc hr) hs
  have h3 := bm hp hs
  have h4 := bm hq hr
  have h5 := bm hb (show (p * s + q * r).natAbs ≤ 578 by omega)
  omega
theorem mkF_small {D i m : Nat} (hm : m < 256) : (mkF D i m).a.natAbs ≤ 1763000 ∧ (mkF D i m).b.natAbs ≤ 1763000 ∧ (mkF D i m).c.natAbs ≤ 1763000 := by
  obtain ⟨h1, h2, h3, h4, _⟩ := pik_facts D i
  have h5 := pik_c D i
  have ha : (pik D i).a.natAbs ≤ 25 := by omega
  have hb : (pik D i).b.natAbs ≤ 25 := by omega
  have hc : (pik D i).c.natAbs ≤ 3000 := by omega
  obtain ⟨⟨ta, tb⟩, tc, td⟩ := turn_17 ⟨m, hm⟩
  unfold mkF
  split
  · exact ⟨by omega, by omega, by omega⟩
  · exact ⟨Nat.le_trans (vl_small ha hb hc ta tc) (by decide), apB_small ha hb hc ta tb tc td, Nat.le_trans (vl_small ha hb hc tb td) (by decide)⟩
/-- a made form's numbers are below 2^32 -/
theorem mkF_L5 {D i m : Nat} (hm : m < 256) : L 5 (mkF D i m).a ∧ L 5 (mkF D i m).b ∧ L 5 (mkF D i m).c := by
  have h := mkF_small (D := D) (i := i) hm
  exact ⟨by unfold L; omega, by unfold L; omega, by unfold L; omega⟩
theorem mkF_L6 {D i m : Nat} (hm : m < 256) : L 6 (mkF D i m).a ∧ L 6 (mkF D i m).b ∧ L 6 (mkF D i m).c := by
  have h := mkF_L5 (D := D) (i := i) hm
  exact ⟨h.1.mono (by decide), h.2.1.mono (by decide), h.2.2.mono (by decide)⟩
end Go.AM
end

section
/- Made forms belong to the group of their discriminant. -/
namespace Go.AM
open Go Go.RowKit
theorem mkF_cl (D i m : Nat) : Cl (-szz D) (mkF D i m) := by
  refine ⟨mkF_pos D i m, ?_, mkF_dsc D i m⟩
  have h := (pik_facts D i).2.2.2.2.2.2
  unfold mkF
  split
  · exact h
  · rw [← prim_app (pik D i) (m := turnM m) (by rw [det_turn]; rfl)]; exact h
theorem cl_cm {D : Int} {f g : Fm} (hf : Cl D f) (hg : Cl D g) : cmE f g = 0 ∧ cmV f g = mlt f g := by
  have h : cmE f g = 0 := cm_e4 (cl_rfE hf) (cl_rfE hg) (by rw [hf.disc, hg.disc])
  exact ⟨h, by unfold cmV; rw [if_pos h]⟩
theorem szz_D (D : Nat) : -1000000000000000000 ≤ -szz D ∧ -szz D < 0 := by have := szz_spec D; omega
end Go.AM
end

section
/- The values of characters at numbers that a form represents. -/
namespace Go.AM
open Go Go.RowKit
theorem gGo_mem {c : Int} : ∀ (f : Nat) (p n : Int), 3 ≤ p → p % 2 = 1 → 1 ≤ n → n % 2 = 1 → c ∈ gGo f p n → 3 ≤ c ∧ c % 2 = 1 ∧ c ∣ n
  | 0, _, _, _, _, _, _, h => by simp [gGo] at h
  | f + 1, p, n, hp, hpo, hn, ho, h => by
    unfold gGo at h
    split at h
    · split at h
      · next e =>
        obtain ⟨r1, r2, r3, k, r4⟩ := rmp_pos (p := p) (by omega) n.toNat n (Nat.le_refl _) (by omega)
        rcases List.mem_cons.1 h with h | h
        · subst h; exact ⟨hp, hpo, Int.dvd_of_emod_eq_zero e⟩
        · obtain ⟨g1, g2, g3⟩ := gGo_mem f (p + 2) (rmp n p) (by omega) (by omega) (by omega) (rmp_odd hp (by omega) ho) h
          exact ⟨g1, g2, Int.dvd_trans g3 ⟨_, r4⟩⟩
      · exact gGo_mem f (p + 2) n (by omega) (by omega) hn ho h
    · split at h
      · next e =>
        rw [List.mem_singleton] at h; subst h
        exact ⟨by omega, ho, Int.dvd_refl _⟩
      · simp at h
theorem oddC_mem {d c : Int} (h0 : d < 0) (h : c ∈ oddC (rmp (-d) 2)) : 3 ≤ c ∧ c % 2 = 1 ∧ c ∣ d := by
  obtain ⟨r1, r2, r3, k, r4⟩ := rmp_pos (p := 2) (by omega) (-d).toNat (-d) (Nat.le_refl _) (by omega)
  obtain ⟨g1, g2, g3⟩ := gGo_mem 1200 3 (rmp (-d) 2) (by omega) (by omega) (by omega) (by omega) h
  refine ⟨g1, g2, ?_⟩
  have : c ∣ -d := Int.dvd_trans g3 ⟨_, r4⟩
  exact Int.dvd_neg.1 this
theorem spC_mem {d c : Int} (h : c ∈ spC d) : d % 4 = 0 ∧ ((c = -4 ∧ ((-d / 4) % 8 = 0 ∨ (-d / 4) % 8 = 1 ∨ (-d / 4) % 8 = 4 ∨ (-d / 4) % 8 = 5)) ∨ (c = 8 ∧ ((-d / 4) % 8 = 0 ∨ (-d / 4) % 8 = 6)) ∨ (c = -8 ∧ (-d / 4) % 8 = 2)) := by
  unfold spC at h
  split at h
  · simp at h
  · next h4 =>
    refine ⟨Classical.not_not.1 h4, ?_⟩
    split at h
    · next e => simp only [List.mem_cons, List.not_mem_nil, or_false] at h; rcases h with rfl | rfl <;> simp [e]
    · split at h
      · next e => simp only [List.mem_cons, List.not_mem_nil, or_false] at h; subst h; left; exact ⟨rfl, .inr e⟩
      · split at h
        · next e => simp only [List.mem_cons, List.not_mem_nil, or_false] at h; subst h; right; right; exact ⟨rfl, e⟩
        · split at h
          · next e => simp only [List.mem_cons, List.not_mem_nil, or_false] at h; subst h; right; left; exact ⟨rfl, .inr e⟩
          · simp at h
def spv (c r : Int) : Int := sgB (hasI (spR c) r)
theorem cv_spv {c n : Int} (h : c = -4 ∨ c = 8 ∨ c = -8) : cv c n = spv c (n % 8) := (cv_sp h).symm
theorem spv_mul : ∀ (r s : Fin 8), r.val % 2 = 1 → s.val % 2 = 1 →
    (spv (-4) (r.val * s.val % 8) = spv (-4) r.val * spv (-4) s.val) ∧ (spv 8 (r.val * s.val % 8) = spv 8 r.val * spv 8 s.val) ∧ (spv (-8) (r.val * s.val % 8) = spv (-8) r.val * spv (-8) s.val) := by decide +kernel
theorem emod8 (n : Int) : ∃ r : Fin 8, n % 8 = (r.val : Int) := ⟨⟨(n % 8).toNat, by omega⟩, by show n % 8 = (((n % 8).toNat : Nat) : Int); omega⟩
theorem cv_mul {c m n : Int} (hc : (c = -4 ∨ c = 8 ∨ c = -8) ∨ (3 ≤ c ∧ c % 2 = 1)) (hm : m % 2 = 1) (hn : n % 2 = 1) : cv c (m * n) = cv c m * cv c n := by
  rcases hc with h | ⟨h1, h2⟩
  · rw [cv_spv h, cv_spv h, cv_spv h]
    obtain ⟨r, er⟩ := emod8 m
    obtain ⟨s, es⟩ := emod8 n
    rw [Int.mul_emod, er, es]
    have k := spv_mul r s (by omega) (by omega)
    rcases h with rfl | rfl | rfl
    · exact k.1
    · exact k.2.1
    · exact k.2.2
  · rw [← cv_odd (by omega), ← cv_odd (by omega), ← cv_odd (by omega)]
    exact kr_mulA (by omega) h2
/-- the product of two values -/
theorem vl_two (a b c x1 y1 x2 y2 : Int) : 4 * (vl a b c x1 y1 * vl a b c x2 y2) = (2 * a * x1 * x2 + b * (x1 * y2 + x2 * y1) + 2 * c * y1 * y2) * (2 * a * x1 * x2 + b * (x1 * y2 + x2 * y1) + 2 * c * y1 * y2) - (b * b - 4 * a * c) * ((x1 * y2 - x2 * y1) * (x1 * y2 - x2 * y1)) := by
  unfold vl; grind
theorem gcd_odd {N d : Int} (h : Int.gcd N (2 * d) = 1) : N % 2 = 1 := by
  have h1 : Cop N (2 * d) := h
  have h2 : Cop (2 * d) N := h1.symm
  have h3 : Cop 2 N := h2.left
  have h4 : Cop N 2 := h3.symm
  rcases (show N % 2 = 0 ∨ N % 2 = 1 by omega) with g | g
  · exfalso
    have hd : (2 : Int) ∣ N := Int.dvd_of_emod_eq_zero g
    have h5 : Int.gcd N 2 = 1 := h4
    have h6 := Int.dvd_gcd hd (Int.dvd_refl 2)
    rw [h5] at h6
    exact absurd h6 (by decide)
  · exact g
theorem gcd_cop {N d c : Int} (h : Int.gcd N (2 * d) = 1) (hc : c ∣ d) : Cop N c := by
  obtain ⟨k, hk⟩ := hc
  have h1 : Cop N (2 * d) := h
  have h2 : Cop (2 * d) N := h1.symm
  have h3 : Cop d N := h2.right
  rw [hk] at h3
  exact h3.left.symm
theorem kr_pm {N c : Int} (hc : 0 < c) (ho : c % 2 = 1) (h : Cop N c) : kr N c = 1 ∨ kr N c = -1 := by
  rw [kr_SS hc ho, if_pos h]; exact SS_pm N
theorem sp_inv : ∀ (r s u v m : Fin 8), r.val % 2 = 1 → s.val % 2 = 1 → (r.val * s.val % 8 = (u.val * u.val + m.val * (v.val * v.val)) % 8) →
    ((m.val = 0 ∨ m.val = 1 ∨ m.val = 4 ∨ m.val = 5) → spv (-4) r.val = spv (-4) s.val) ∧ ((m.val = 0 ∨ m.val = 6) → spv 8 r.val = spv 8 s.val) ∧ (m.val = 2 → spv (-8) r.val = spv (-8) s.val) := by decide +kernel
theorem cv_inv {d : Int} {g : Fm} {c M N : Int} (hd : d < 0) (hg : dsc g.a g.b g.c = d) (hM : RpN g M) (hN : RpN g N) (cM : Int.gcd M (2 * d) = 1) (cN : Int.gcd N (2 * d) = 1) (hc : c ∈ chs d) : cv c M = cv c N := by
  obtain ⟨x1, y1, rfl⟩ := hM
  obtain ⟨x2, y2, rfl⟩ := hN
  have oM := gcd_odd cM
  have oN := gcd_odd cN
  have two := vl_two g.a g.b g.c x1 y1 x2 y2
  have hdd : g.b * g.b - 4 * g.a * g.c = d := hg
  rw [hdd] at two
  unfold chs at hc
  rcases List.mem_append.1 hc with h | h
  · obtain ⟨c3, co, cd⟩ := oddC_mem hd h
    have cpM := gcd_cop cM cd
    have cpN := gcd_cop cN cd
    generalize vl g.a g.b g.c x1 y1 = M at *
    generalize vl g.a g.b g.c x2 y2 = N at *
    generalize (2 * g.a * x1 * x2 + g.b * (x1 * y2 + x2 * y1) + 2 * g.c * y1 * y2) = U at two
    generalize (x1 * y2 - x2 * y1) * (x1 * y2 - x2 * y1) = V at two
    have hUU : c ∣ U * U - 4 * (M * N) := by
      have e : U * U - 4 * (M * N) = d * V := by omega
      rw [e]; exact Int.dvd_trans cd ⟨V, rfl⟩
    have c2 : Cop 2 c := cop_two co
    have c4 : Cop (2 * 2) c := c2.mul c2
    have c4MN : Cop (4 * (M * N)) c := c4.mul (cpM.mul cpN)
    have cUU : Cop (U * U) c := cop_congr (n := c) (a := 4 * (M * N)) (b := U * U) (by
      have e : 4 * (M * N) - U * U = -(U * U - 4 * (M * N)) := by omega
      rw [e]; exact Int.dvd_neg.2 hUU) c4MN
    have k1 : kr (U * U) c = 1 := kr_sqA (by omega) co cUU.left
    have k2 : kr (U * U) c = kr (4 * (M * N)) c := kr_congrA (by omega) co hUU
    have k3 : kr (4 * (M * N)) c = kr (2 * 2) c * (kr M c * kr N c) := by
      rw [show 4 * (M * N) = 2 * 2 * (M * N) from rfl, kr_mulA (a := 2 * 2) (b := M * N) (by omega) co, kr_mulA (a := M) (b := N) (by omega) co]
    have k4 : kr (2 * 2) c = 1 := kr_sqA (by omega) co c2
    rw [← cv_odd (by omega), ← cv_odd (by omega)]
    rw [k1, k3, k4, Int.one_mul] at k2
    rcases kr_pm (by omega) co cpM with e1 | e1 <;> rcases kr_pm (by omega) co cpN with e2 | e2 <;> rw [e1, e2] at k2 <;> rw [e1, e2] <;> omega
  · obtain ⟨h4, hs⟩ := spC_mem h
    have hb : g.b % 2 = 0 := by
      rcases (show g.b % 2 = 0 ∨ g.b % 2 = 1 by omega) with q | q
      · exact q
      · exfalso
        obtain ⟨t, ht⟩ : ∃ t, g.b = 2 * t + 1 := ⟨g.b / 2, by omega⟩
        have e1 : g.b * g.b = 4 * (t * t + t) + 1 := by rw [ht]; grind
        rw [Int.mul_assoc] at hdd
        omega
    obtain ⟨t, ht⟩ : ∃ t, g.b = 2 * t := ⟨g.b / 2, by omega⟩
    obtain ⟨m, hm⟩ : ∃ m, d = -(4 * m) := ⟨-d / 4, by omega⟩
    have em : -d / 4 = m := by omega
    rw [em] at hs
    have eU : 2 * g.a * x1 * x2 + g.b * (x1 * y2 + x2 * y1) + 2 * g.c * y1 * y2 = 2 * (g.a * x1 * x2 + t * (x1 * y2 + x2 * y1) + g.c * y1 * y2) := by rw [ht]; grind
    rw [eU] at two
    generalize vl g.a g.b g.c x1 y1 = M at *
    generalize vl g.a g.b g.c x2 y2 = N at *
    generalize g.a * x1 * x2 + t * (x1 * y2 + x2 * y1) + g.c * y1 * y2 = U at two
    generalize x1 * y2 - x2 * y1 = V at two
    have eMN : M * N = U * U + m * (V * V) := by
      have e1 : 2 * U * (2 * U) = 4 * (U * U) := by grind
      have e2 : d * (V * V) = -(4 * (m * (V * V))) := by rw [hm]; grind
      omega
    obtain ⟨r, er⟩ := emod8 M
    obtain ⟨s, es⟩ := emod8 N
    obtain ⟨u, eu⟩ := emod8 U
    obtain ⟨v, ev⟩ := emod8 V
    obtain ⟨q, eq⟩ := emod8 m
    have key : ((r.val * s.val : Nat) : Int) % 8 = ((u.val * u.val + q.val * (v.val * v.val) : Nat) : Int) % 8 := by
      have h1 : (M * N) % 8 = ((r.val * s.val : Nat) : Int) % 8 := by rw [Int.mul_emod, er, es, Int.natCast_mul]
      have h2 : (U * U + m * (V * V)) % 8 = ((u.val * u.val + q.val * (v.val * v.val) : Nat) : Int) % 8 := by
        obtain ⟨U', hU⟩ : ∃ k, U = 8 * k + (u.val : Int) := ⟨U / 8, by omega⟩
        obtain ⟨V', hV⟩ : ∃ k, V = 8 * k + (v.val : Int) := ⟨V / 8, by omega⟩
        obtain ⟨m', hm'⟩ : ∃ k, m = 8 * k + (q.val : Int) := ⟨m / 8, by omega⟩
        simp only [Int.natCast_add, Int.natCast_mul]
        generalize (u.val : Int) = u' at hU ⊢
        generalize (v.val : Int) = v' at hV ⊢
        generalize (q.val : Int) = q' at hm' ⊢
        have e : U * U + m * (V * V) = 8 * (8 * U' * U' + 2 * U' * u' + m' * (V * V) + q' * (8 * V' * V' + 2 * V' * v')) + (u' * u' + q' * (v' * v')) := by rw [hU, hm', hV]; grind
        rw [e]
        generalize 8 * U' * U' + 2 * U' * u' + m' * (V * V) + q' * (8 * V' * V' + 2 * V' * v') = K
        generalize u' * u' + q' * (v' * v') = R
        omega
      rw [← h1, eMN, h2]
    have key2 : r.val * s.val % 8 = (u.val * u.val + q.val * (v.val * v.val)) % 8 := by omega
    have k := sp_inv r s u v q (by omega) (by omega) key2
    rw [eq] at hs
    rcases hs with ⟨rfl, h5⟩ | ⟨rfl, h5⟩ | ⟨rfl, h5⟩
    · rw [cv_spv (by simp), cv_spv (by simp), er, es]; exact k.1 (by omega)
    · rw [cv_spv (by simp), cv_spv (by simp), er, es]; exact k.2.1 (by omega)
    · rw [cv_spv (by simp), cv_spv (by simp), er, es]; exact k.2.2 (by omega)
end Go.AM
end
