/- Arguments that read as data. -/
import Derived.Test.YtfdjankalhfceaaGreatLGB
import Derived.OpenShut
import Derived.ProofKit
import Derived.SizedLaws
import Derived.JoinedOf
import Derived.Carry
import Derived.ChangeSame
import Derived.WideKeyArgs
import Derived.LaidMore
import Derived.Stop.Joined
section
namespace Go.AM
open Go Go.RowKit
inductive Leaf where
  | b | i (k : IntKind) | s
def Leaf.ok (h : Hp) : Leaf → Value → Prop
  | .b, v => ∃ x, v = .bool x
  | .i k, v => ∃ n, v = .int k n ∧ (Lit.int k n).wf = true
  | .s, v => ∃ ws, okW ws ∧ DRep h (W ws) v
def Leaves (h : Hp) : List Leaf → List Value → Prop
  | [], [] => True
  | l :: ls, v :: vs => l.ok h v ∧ Leaves h ls vs
  | _, _ => False
section
variable {H : Type} (enc : TypeId × Value → H) (P : Program) (w : World)
/-- whatever reads at type t has these leaves -/
def Opens (t : TypeId) (l : List Leaf) : Prop := ∀ (fuel : Nat) (cs : List Value) (x : DataW H × List MemPlace), DataW.trod enc P w 0 (fun _ => true) true fuel t cs = some x → (∀ n ∈ x.1.weights P t, n ≤ reachBytes) → Leaves (fun k => w.heap[k]?) l cs
variable {enc P w}
theorem opens_int {t : TypeId} {k : IntKind} (ht : P.underlying t = some (.int k)) : Opens enc P w t [.i k] := fun fuel cs x h _ => by
  obtain ⟨n, rfl, _, hw⟩ := DataW.trod_int ht h
  exact ⟨⟨n, rfl, hw⟩, trivial⟩
end
end Go.AM
end

section
/- A row: every argument is data, the answer is true. -/
namespace Go.AM
open Go Go.RowKit Go.WideShapes Go.ChangeShapes
section
variable {H : Type} {enc : TypeId × Value → H} {P : Program}
theorem post_of_below {f : Func} {s : ChangeSpec} {apart fresh handsOn again : Bool} {W W' : World} {args : Array Value} {v : Value} {ds gs : List (DataW H)} {before pa pv : List MemPlace}
    (hW : DataW.Whole enc P f.params.toList s.vars apart W args.toList ds gs before)
    (hres : ∀ (b : Nat) (sp : Nat → Bool) (hd : Bool), DataW.TrodAll enc P W' b sp hd f.resultTypes.toList (v.resultList f.resultTypes.size) (s.fn H (ds ++ gs)).results [])
    (hargs : ∀ sp : Nat → Bool, (∀ p ∈ before, sp p.block = true) → DataW.TrodAll enc P W' 0 sp true f.params.toList args.toList (s.fn H (ds ++ gs)).args pa)
    (hvars : ∀ sp : Nat → Bool, (∀ p ∈ before, sp p.block = true) → DataW.TrodVars enc P W' sp s.vars (s.fn H (ds ++ gs)).vars pv)
    (hps : before = pa ++ pv) (hb : Below W.heap.size W W')
    (hok : ∀ (j : Nat) (t : TypeId) (r : Value), f.resultTypes[j]? = some t → (v.resultList f.resultTypes.size)[j]? = some r → Value.okWide P W' .any 0 t r) :
    s.post enc P f apart fresh handsOn again W args v W' := by
  have hlt : ∀ p ∈ before, p.block < W.heap.size := fun p hp => hW.lt p hp
  have hold : ∀ p ∈ before, (fun b => decide (b < W.heap.size)) p.block = true := fun p hp => by simpa using hlt p hp
  refine ⟨ds, gs, before, [], pa, pv, hW, hres _ _ _, hargs _ hold, hvars _ hold, World.keptBut_mono (fun p hp => ⟨hp, ?_⟩) (hb.frame (· ∈ before)), fun _ => ?_⟩
  · rw [hps, List.mem_append] at hp
    exact Or.inr hp
  · obtain ⟨_, _, _, _, _, hz, hn⟩ := hW
    refine ⟨hok, _, _, ([] ++ pa) ++ pv, ⟨[] ++ pa, pv, trodAll_append (hargs _ (fun _ _ => rfl)) (hres _ _ _), hvars _ (fun _ _ => rfl), rfl, ?_, ?_⟩, ?_⟩
    · intro b off hp
      have hin : MemPlace.cell b off ∈ before := by rw [hps]; simpa using hp
      rw [hb.frozen (hlt _ hin)]
      exact hz b off hin
    · intro ha
      have := hn ha
      rw [hps] at this
      simpa using this
    · intro p hp _
      rw [hps]
      simpa using hp
theorem trodAll_stays {W W' : World} (hl : laidOutB P = true) : ∀ {ts : List TypeId} {vs : List Value} {ds : List (DataW H)} {ps : List MemPlace} {sp' : Nat → Bool}, (∀ t ∈ ts, P.readableRec t = true ∧ t < P.types.size) →
    DataW.TrodAll enc P W 0 (fun _ => true) true ts vs ds ps → (∀ p ∈ ps, W.sameAt W' p) → (∀ p ∈ ps, sp' p.block = true) → DataW.TrodAll enc P W' 0 sp' true ts vs ds ps
  | [], vs, ds, ps, _, _, h, _, _ => by
    obtain ⟨rfl, rfl, rfl⟩ := trodAll_nil h
    exact rfl
  | t :: ts, vs, ds, ps, sp', hr, h, hs, hp => by
    obtain ⟨v, vs', d, ds', p, q, rfl, rfl, rfl, h1, h2⟩ := trodAll_cons h
    have k := hr t (by simp)
    exact ⟨p, q, WideElems.Trod_stays hl k.1 k.2 h1 (fun x hx => hs x (by simp [hx])) (fun x hx => hp x (by simp [hx])),
      trodAll_stays hl (fun u hu => hr u (by simp [hu])) h2 (fun x hx => hs x (by simp [hx])) (fun x hx => hp x (by simp [hx])), rfl⟩
/-- the heap of a world, all of it frozen -/
def wh (W : World) : Hp := fun k => W.heap[k]?
/-- how the arguments of a law are data -/
def ArgsData (enc : TypeId × Value → H) (P : Program) (W : World) (f : Func) (g : FuncId) : Prop := ∀ (args : Array Value) (ds : List (DataW H)) (ps : List MemPlace) (base : Nat),
  (∀ (j : Nat) t v, f.params[j]? = some t → args[j]? = some v → Value.okWide P W .any base t v) →
  DataW.TrodAll enc P W 0 (fun _ => true) true f.params.toList args.toList ds ps → (∀ n ∈ DataW.weightsEach P f.params.toList ds, n ≤ reachBytes) →
  ∃ as0, RepArgs (wh W) (fun _ => .bool false) as0 args.toList ∧ Call0 P g as0 (B true)
theorem law_calls {W : World} {args : Array Value} {g : FuncId} {as0 : List AV} (hr : RepArgs (wh W) (fun _ => .bool false) as0 args.toList) (hc : Call0 P g as0 (B true)) (hG : GlOK (wh W)) :
    Calls P g args W fun e W' => e = .returned (.bool true) ∧ Below W.heap.size W W' := by
  refine (hc.go (wh W) (fun _ => .bool false) W args hr ⟨fun m b h => by simp [O] at h, fun m n k h => by simp [O] at h, fun _ _ h => h, fun m k h => by simp [O] at h, hG⟩).mono ?_
  rintro e W' ⟨v, h', rfl, hv, q⟩
  simp only [AVRep, PRep, DRep] at hv
  exact ⟨by rw [hv.1], q.os, q.tape, q.output.1, q.size, fun k hk => q.old k hk (by rintro ⟨m, hm, _⟩; exact hm rfl)⟩
end
theorem law_contract {H : Type} {enc : TypeId × Value → H} {C : Checked} {g : FuncId} {fn : Func} {s : ChangeSpec} {tb : TypeId}
    (hl : laidOutB C.prog = true) (hp : ∀ t ∈ fn.params.toList, C.prog.readableRec t = true ∧ t < C.prog.types.size)
    (hv : s.vars = []) (hs : ∀ ds : List (DataW H), ds.length = fn.params.toList.length → (s.fn H ds).results = [.lit (.bool true)] ∧ (s.fn H ds).args = ds ∧ (s.fn H ds).vars = [])
    (hres : fn.resultTypes = #[tb]) (htb : C.prog.underlying tb = some .bool)
    (walk : ∀ W : World, ArgsData enc C.prog W fn g) {W : World} {base : Nat} {args : Array Value} {ds gs : List (DataW H)} {before : List MemPlace}
    (hval0 : ∀ (j : Nat) t v, fn.params[j]? = some t → args[j]? = some v → Value.okWide C.prog W .any base t v)
    (hW : DataW.Whole enc C.prog fn.params.toList s.vars false W args.toList ds gs before)
    (hwt : (DataW.weightsEach C.prog (fn.params.toList ++ s.plain.varTypes C.prog) (ds ++ gs)).all (· ≤ reachBytes) = true) (hG : GlOK (wh W)) :
    Calls C.prog g args W fun e W' => ∃ v, e = .returned v ∧ s.post enc C.prog fn false true false false W args v W' := by
  have hW' := hW
  obtain ⟨p, q, hA, hV, hpq, _, _⟩ := hW
  rw [hv] at hV
  obtain ⟨rfl, rfl⟩ := trodVars_none hV
  rw [List.append_nil] at hpq
  subst hpq
  have hlen : ds.length = fn.params.toList.length := by
    have : ∀ (ts : List TypeId) (vs : List Value) (ds : List (DataW H)) (ps : List MemPlace), DataW.TrodAll enc C.prog W 0 (fun _ => true) true ts vs ds ps → ds.length = ts.length := by
      intro ts
      induction ts with
      | nil => intro vs ds ps h; obtain ⟨_, rfl, _⟩ := trodAll_nil h; rfl
      | cons t ts ih =>
        intro vs ds ps h
        obtain ⟨v, vs', d, ds', p, q, rfl, rfl, rfl, h1, h2⟩ := trodAll_cons h
        simp [ih _ _ _ h2]
    exact this _ _ _ _ hA
  obtain ⟨s1, s2, s3⟩ := hs ds hlen
  have hwt' : ∀ n ∈ DataW.weightsEach C.prog fn.params.toList ds, n ≤ reachBytes := by
    intro n hn
    have e : fn.params.toList ++ s.plain.varTypes C.prog = fn.params.toList := by
      have : s.plain.varTypes C.prog = [] := by simp [DataSpec.varTypes, ChangeSpec.plain, hv]
      rw [this, List.append_nil]
    rw [e, List.append_nil, List.all_eq_true] at hwt
    simpa using hwt n hn
  obtain ⟨as0, ha, hc⟩ := walk W args ds before base hval0 hA hwt'
  refine (law_calls ha hc hG).mono fun e W' ⟨he, hb⟩ => ⟨.bool true, he, ?_⟩
  refine post_of_below (pa := before) (pv := []) hW' (fun b sp hd => ?_) (fun sp hsp => ?_) (fun sp _ => ?_) (by simp) hb ?_
  · rw [List.append_nil, s1, hres]
    exact trodAll_cons_mk (shut_bool htb _) trodAll_mk0
  · rw [List.append_nil, s2]
    exact trodAll_stays hl hp hA (fun x hx => hb.same (hW'.lt x hx)) hsp
  · rw [List.append_nil, s3, hv]; rfl
  · exact ok_one hres rfl (okWide_bool_mk htb _)
theorem law_row {H : Type} {enc : TypeId × Value → H} {C : Checked} {os : Os} {g : FuncId} {fn : Func} {s : ChangeSpec} {conds : List PathCond} {tb : TypeId}
    (own : ownKnob C.prog.godebug = none) (started : os.Started) (noInit : C.prog.inits.idxOf? g = none) (hfn : C.prog.funcs[g]? = some fn)
    (witness : ∃ (w : World) (tape : Tape) (i : Input), w.os = os ∧ (w.forCall tape i).Shaped C.prog ∧ i.vars = [] ∧ Input.okWide C.prog (w.forCall tape i) .any w.heap.size g i ∧
      s.pre6 enc C.prog fn conds false (w.forCall tape i).memory i.args ∧ ({} : Assume).holds C.prog (lone (Frame.enter C.prog g i.args .normal) [] (w.forCall tape i)))
    (hl : laidOutB C.prog = true) (hp : ∀ t ∈ fn.params.toList, C.prog.readableRec t = true ∧ t < C.prog.types.size)
    (hv : s.vars = []) (hs : ∀ ds : List (DataW H), ds.length = fn.params.toList.length → (s.fn H ds).results = [.lit (.bool true)] ∧ (s.fn H ds).args = ds ∧ (s.fn H ds).vars = [])
    (hres : fn.resultTypes = #[tb]) (htb : C.prog.underlying tb = some .bool)
    (walk : ∀ W : World, ArgsData enc C.prog W fn g) (hG : ∀ W, GlOK (wh W)) :
    ReturnsInHanded {} C os g .any (s.pre6 enc C.prog fn conds false) (s.post enc C.prog fn false true false false) := by
  refine returnsInHanded_of_change_sized own started noInit hfn witness ?_
  intro W base args ds gs before hval0 hW hcnd hwt _
  exact law_contract hl hp hv hs hres htb walk hval0 hW hwt (hG W)
end Go.AM
end

section
/- Leaves as deep values. -/
namespace Go.AM
open Go Go.RowKit Go.WideShapes Go.ChangeShapes
theorem arg_int {H : Type} {enc : TypeId × Value → H} {P : Program} {W : World} {t : TypeId} {k : IntKind} {v : Value} {d : DataW H} {p : List MemPlace} (ht : P.underlying t = some (.int k)) {base : Nat}
    (hv : Value.okWide P W .any base t v) (h : DataW.Trod enc P W 0 (fun _ => true) true t v d p) :
    ∃ n, (Lit.int k n).wf = true ∧ AVRep (wh W) (fun _ => .bool false) (.p (.c (.v (.int k n)))) v := by
  obtain ⟨n, rfl, rfl, rfl, w⟩ := open_int ht hv h
  exact ⟨n, w, by simp only [AVRep, PRep, DRep]; exact ⟨trivial, rfl⟩⟩
theorem args1 {H : Type} {enc : TypeId × Value → H} {P : Program} {W : World} {f : Func} {g : FuncId} {t0 : TypeId} (hp : f.params = #[t0])
    (go : ∀ v0 (d0 : DataW H) p0 base, Value.okWide P W .any base t0 v0 → DataW.Trod enc P W 0 (fun _ => true) true t0 v0 d0 p0 → (∀ n ∈ d0.weights P t0, n ≤ reachBytes) →
      ∃ as0, RepArgs (wh W) (fun _ => .bool false) as0 [v0] ∧ Call0 P g as0 (B true)) : ArgsData enc P W f g := by
  intro args ds ps base hv hA hw
  rw [hp] at hA hv hw
  obtain ⟨v0, vs, d0, ds, p0, q0, ha, rfl, rfl, h0, r0⟩ := trodAll_cons hA
  obtain ⟨rfl, rfl, rfl⟩ := trodAll_nil r0
  obtain rfl : args = #[v0] := by cases args; simp_all
  exact go v0 d0 p0 base (hv 0 t0 v0 rfl rfl) h0 (fun n hn => hw n (by simp only [DataW.weightsEach, List.mem_append]; exact .inl hn))
theorem args2 {H : Type} {enc : TypeId × Value → H} {P : Program} {W : World} {f : Func} {g : FuncId} {t0 t1 : TypeId} (hp : f.params = #[t0, t1])
    (go : ∀ v0 (d0 : DataW H) p0 v1 (d1 : DataW H) p1 base, Value.okWide P W .any base t0 v0 → DataW.Trod enc P W 0 (fun _ => true) true t0 v0 d0 p0 → (∀ n ∈ d0.weights P t0, n ≤ reachBytes) →
      Value.okWide P W .any base t1 v1 → DataW.Trod enc P W 0 (fun _ => true) true t1 v1 d1 p1 → (∀ n ∈ d1.weights P t1, n ≤ reachBytes) →
      ∃ as0, RepArgs (wh W) (fun _ => .bool false) as0 [v0, v1] ∧ Call0 P g as0 (B true)) : ArgsData enc P W f g := by
  intro args ds ps base hv hA hw
  rw [hp] at hA hv hw
  obtain ⟨v0, vs, d0, ds, p0, q0, ha, rfl, rfl, h0, r0⟩ := trodAll_cons hA
  obtain ⟨v1, vs1, d1, ds, p1, q1, rfl, rfl, rfl, h1, r1⟩ := trodAll_cons r0
  obtain ⟨rfl, rfl, rfl⟩ := trodAll_nil r1
  obtain rfl : args = #[v0, v1] := by cases args; simp_all
  exact go v0 d0 p0 v1 d1 p1 base (hv 0 t0 v0 rfl rfl) h0 (fun n hn => hw n (by simp only [DataW.weightsEach, List.mem_append]; exact .inl hn)) (hv 1 t1 v1 rfl rfl) h1 (fun n hn => hw n (by simp only [DataW.weightsEach, List.mem_append]; exact .inr (.inl hn)))
end Go.AM
end
