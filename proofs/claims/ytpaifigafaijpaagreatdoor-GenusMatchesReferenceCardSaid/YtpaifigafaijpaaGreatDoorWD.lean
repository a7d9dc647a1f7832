import Derived.Test.YtpaifigafaijpaaGreatDoorWC
import Derived.Shelf.SlSortCmp.NoneTotal
set_option maxRecDepth 100000
set_option maxHeartbeats 2000000
section
namespace Go.AM
open Go Go.RowKit
theorem grow_of {w w' : World} (os : w'.os = w.os) (tp : w'.tape = w.tape) (out : OutD w' w) (sz : w.heap.size ≤ w'.heap.size) (old : ∀ k, k < w.heap.size → w'.heap[k]? = w.heap[k]?) :
  ∃ q os', w' = Sort.grow (w.drewN q) os' := by
 obtain ⟨o1, o2⟩ := out
 refine ⟨w'.drawn - w.drawn, w'.heap.extract w.heap.size w'.heap.size, ?_⟩
 have hh : w'.heap = w.heap ++ w'.heap.extract w.heap.size w'.heap.size := by
  apply Array.ext_getElem?
  intro k
  rw [Array.getElem?_append]
  by_cases hk : k < w.heap.size
  ·rw [if_pos hk, old k hk]
  ·rw [if_neg hk, Array.getElem?_extract]
   by_cases h2 : k < w'.heap.size
   ·rw [if_pos (by omega), show w.heap.size + (k - w.heap.size) = k by omega]
   ·rw [if_neg (by omega), Array.getElem?_eq_none (by omega)]
 have hd : w'.drawn = w.drawn + (w'.drawn - w.drawn) := by omega
 unfold Sort.grow World.drewN
 generalize w'.heap.extract w.heap.size w'.heap.size = x at hh
 generalize w'.drawn - w.drawn = y at hd
 cases w'
 simp only at os tp o1 hh hd
 subst os tp o1 hh hd
 rfl
section
variable {β : Type} {encD : β → List DV} {k : Nat}
theorem flat_get (hL : ∀ b, (encD b).length = k) : ∀ (l : List β) (t : Nat) (dv : DV), (l.flatMap encD)[t]? = some dv → ∃ b, l[t / k]? = some b ∧ (encD b)[t % k]? = some dv
 | [], t, dv, h => by simp at h
 | b :: l, t, dv, h => by
  rw [List.flatMap_cons, List.getElem?_append] at h
  rw [hL b] at h
  by_cases ht : t < k
  ·rw [if_pos ht] at h
   rw [Nat.div_eq_of_lt ht, Nat.mod_eq_of_lt ht]
   exact ⟨b, rfl, h⟩
  ·rw [if_neg ht] at h
   obtain ⟨b', h1, h2⟩ := flat_get hL l (t - k) dv h
   have hk : 0 < k := by
    rcases Nat.eq_zero_or_pos k with e | e
    ·subst e
     have := List.length_eq_zero_iff.1 (hL b')
     rw [this] at h2; simp at h2
    ·exact e
   have e1 : t / k = (t - k) / k + 1 := by
    rw [Nat.div_eq_sub_div hk (by omega)]
   have e2 : t % k = (t - k) % k := Nat.mod_eq_sub_mod (by omega)
   rw [e1, e2]
   exact ⟨b', by simpa using h1, h2⟩
theorem flat_len (hL : ∀ b, (encD b).length = k) (l : List β) : (l.flatMap encD).length = l.length * k := by
 induction l with
 | nil => simp
 | cons b l ih => rw [List.flatMap_cons, List.length_append, ih, hL, List.length_cons, Nat.add_mul]; omega
def ElS (h : Hp) (encD : β → List DV) (k : Nat) : Type := {x : List Value × β // x.1.length = k ∧ DReps h (encD x.2) fun i => x.1[i]?}
def ElS.enc {h : Hp} (x : ElS h encD k) : List Value := x.1.1
def ElS.ob {h : Hp} (x : ElS h encD k) : β := x.1.2
theorem ElS.one {h : Hp} (hL : ∀ b, (encD b).length = k) (x : ElS h encD k) : ∀ v ∈ x.enc, v.oneCell' = true := by
 intro v hv
 obtain ⟨i, hi⟩ := List.mem_iff_getElem?.1 hv
 have hlt := (List.getElem?_eq_some_iff.1 hi).1
 have e1 : x.enc.length = k := x.2.1
 obtain ⟨y, y1, y2⟩ := x.2.2.get i ((encD x.1.2)[i]'(by rw [hL]; omega)) (List.getElem?_eq_getElem _)
 have e2 : x.enc[i]? = some y := y1
 rw [hi] at e2; cases e2
 exact y2.one
end
theorem heap_sortW {α : Type} [Inhabited α] (enc : α → List Value) (k : Nat) (w : World) (blk off n : Nat) (d : Array α) (os : Array Obj) (i : Nat) (hi : i < w.heap.size) :
  (Proofs.sortWorldK enc k w blk off n d os).heap[i]? = if i = blk then (w.heap[i]?).map (Sort.onCells (Sort.putCells id off (Sort.flatK enc k d))) else w.heap[i]? := by
 unfold Proofs.sortWorldK
 rw [Sort.heap_grow_old _ _ (by show i < (Sort.putRow _ _ _ _ _).heap.size; rw [Sort.size_putRow]; exact hi)]
 show (w.heap.modify blk _)[i]? = _
 rw [Array.getElem?_modify]
 by_cases e : blk = i
 ·subst e; rw [if_pos rfl]
 ·rw [if_neg e, if_neg (fun x => e x.symm)]
open Go.Proofs in
theorem sort_callM {P : Program} {ρ : Shelf.Ren} (L : SlLaysF0.n6 P ρ) {tt : TT} (hT : TTok P tt) {j : TyI} (he : tt (ρ.t 24) = some j) (hag : j.sh.agg = true) {k : Nat} (hjs : j.size = k) (hk0 : 0 < k) {β : Type} {encD : β → List DV} (hL : ∀ b, (encD b).length = k)
  (cb : β → β → Int) (hO : Sort.SWO (ltOf cb)) {g : Nat} (hc : ∀ x y : β, Call0 P g [.p (.a (encD x)), .p (.a (encD y))] (.p (.c (.v (.int .i64 (cb x y)))))) {m : Nat} {e : TypeId} {l l' : List β} (hp : l'.Perm l) (hs : l'.Pairwise fun x y => ¬ cb y x < 0)
  (ha : ∀ x ∈ l, ∀ y ∈ l, ¬ cb x y < 0 → ¬ cb y x < 0 → x = y) :
  CallM P (ρ.f 6) [.vec m, .p (.c (.v (.func (.func g) #[] #[])))] (upd O m (some ⟨true, k, e, l.flatMap encD⟩)) (.t []) (upd O m (some ⟨true, k, e, l'.flatMap encD⟩)) where
 fn := by
  obtain ⟨nm, hn, hf⟩ := L.f6
  exact ⟨_, hf, hn, rfl⟩
 go h r w cargs hrep hbef := by
  obtain ⟨cl⟩ := cargs
  match cl, hrep with
  | [a, b], hrep =>
  obtain ⟨ha1, hb1, _⟩ := hrep
  simp only [AVRep] at ha1
  have hb2 : b = .func (.func g) #[] #[] := rep_val hb1
  subst ha1 hb2
  have hB := hbef.ow m _ (upd_same _ _ _)
  unfold BlkRep at hB
  obtain ⟨aa, n, cap, hr, hn, hcap, hn47, hmem⟩ := hB
  simp only at hn hmem
  rw [flat_len hL] at hn
  have hnl : n = l.length := Nat.eq_of_mul_eq_mul_right hk0 hn
  have hown : ∀ q, upd O m (some (⟨true, k, e, l.flatMap encD⟩ : Blk)) q ≠ none → q = m := fun q hq => by
   by_cases hqm : q = m
   ·exact hqm
   ·rw [upd_ne _ _ _ _ hqm] at hq; exact absurd rfl hq
  have hown' : ∀ q b, upd O m (some (⟨true, k, e, l'.flatMap encD⟩ : Blk)) q = some b → q = m ∧ b = ⟨true, k, e, l'.flatMap encD⟩ := fun q b hq => by
   by_cases hqm : q = m
   ·subst hqm; rw [upd_same] at hq; cases hq; exact ⟨rfl, rfl⟩
   ·rw [upd_ne _ _ _ _ hqm] at hq; cases hq
  have hself : upd O m (some (⟨true, k, e, l.flatMap encD⟩ : Blk)) m ≠ none := by rw [upd_same]; simp
  rcases List.eq_nil_or_concat l with hl | ⟨l0, b0, hl⟩
  ·subst hl
   have hl' : l' = [] := List.Perm.eq_nil hp
   subst hl'
   have hn0 : n = 0 := by simpa using hnl
   subst hn0
   rw [hr]
   refine (AnyF.slices_SortFunc_none L aa cap (.func (.func g) #[] #[]) w).mono ?_
   rintro e' w' ⟨rfl, rfl⟩
   refine ⟨_, h, rfl, ⟨[], rfl, trivial⟩, ⟨fun q b hq => ?_, fun q hq => ?_, hbef.hi, fun q i hq => hbef.ho q i ?_, rfl, rfl, .refl _, Nat.le_refl _, fun _ _ _ => rfl, .refl _, fun _ hq => .inl hq⟩⟩
   ·obtain ⟨rfl, rfl⟩ := hown' q b hq
    exact hbef.ow q _ (upd_same _ _ _)
   ·exact hq
   ·exact hq
  ·have hlen : 0 < l.length := by rw [hl]; simp
   have hcap0 : cap ≠ 0 := by omega
   rcases hmem with hmem | ⟨kk, c, haa, hheap, hcs, hrd⟩
   ·exact absurd hmem hcap0
   subst haa
   have hkk : kk < w.heap.size := (Array.getElem?_eq_some_iff.1 hheap).1
   have hrm : hblk (r m) = some kk := by rw [hr]; simp [hblk, hcap0]
   have hkn : h kk = none := hbef.ho m kk hself hrm
   have hel : ∀ i : Fin n, (((c.toList.drop (i.val * k)).take k).length = k ∧ DReps h (encD (l[i.val]'(by omega))) fun q => ((c.toList.drop (i.val * k)).take k)[q]?) := fun i => by
    have hik : i.val * k + k ≤ c.size := by
     rw [hcs]
     have := Nat.mul_le_mul_right k (show i.val + 1 ≤ cap by omega)
     rw [Nat.add_mul, Nat.one_mul] at this; exact this
    refine ⟨by rw [List.length_take, List.length_drop, Array.length_toList]; omega, ?_⟩
    rw [DReps.iff]
    intro q d hq
    have hqk : q < k := by have := (List.getElem?_eq_some_iff.1 hq).1; rwa [hL] at this
    have hfl : (l.flatMap encD)[i.val * k + q]? = some d := by
     have hlt : i.val * k + q < (l.flatMap encD).length := by
      rw [flat_len hL]
      have := Nat.mul_le_mul_right k (show i.val + 1 ≤ l.length by omega)
      rw [Nat.add_mul, Nat.one_mul] at this; omega
     obtain ⟨b', g1, g2⟩ := flat_get hL l (i.val * k + q) _ (List.getElem?_eq_getElem hlt)
     have e1 : (i.val * k + q) / k = i.val := by rw [Nat.mul_comm, Nat.mul_add_div hk0, Nat.div_eq_of_lt hqk]; rfl
     have e2 : (i.val * k + q) % k = q := by rw [Nat.mul_comm, Nat.mul_add_mod, Nat.mod_eq_of_lt hqk]
     rw [e1, List.getElem?_eq_getElem (by omega)] at g1
     rw [e2] at g2
     cases g1
     rw [hq] at g2
     rw [List.getElem?_eq_getElem hlt, ← g2]
    obtain ⟨y, y1, y2⟩ := hrd.get _ d hfl
    refine ⟨y, ?_, y2⟩
    rw [List.getElem?_take, if_pos hqk, List.getElem?_drop, Array.getElem?_toList]; exact y1
   let mk : Fin n → ElS h encD k := fun i => ⟨((c.toList.drop (i.val * k)).take k, l[i.val]'(by omega)), hel i⟩
   let D : Array (ElS h encD k) := Array.ofFn mk
   have hDs : D.size = n := by simp [D]
   haveI : Inhabited (ElS h encD k) := ⟨mk ⟨0, by omega⟩⟩
   have hDob : D.toList.map ElS.ob = l := by
    apply List.ext_getElem
    ·simp [hDs, hnl]
    ·intro i h1 h2
     rw [List.getElem_map, Array.getElem_toList]
     have e3 : D[i]'(by simpa using h1) = mk ⟨i, by simpa [hDs] using h1⟩ := by simp [D]
     rw [e3]; rfl
   have hDget : ∀ i, (hi : i < n) → D[i]! = mk ⟨i, hi⟩ := fun i hi => by
    rw [getElem!_pos D i (by omega)]
    simp [D]
   have hH : Sort.HoldsK ElS.enc k w kk 0 D := by
    intro q hq
    have hq' : q < n * k := by rw [Sort.size_flatK, hDs] at hq; exact hq
    have hqn : q / k < n := (Nat.div_lt_iff_lt_mul hk0).2 hq'
    rw [Sort.get_flatK _ _ _ _ (by rw [hDs]; exact hq'), hDget _ hqn, Nat.zero_add]
    have hqc : q < c.size := by
     rw [hcs]
     exact Nat.lt_of_lt_of_le hq' (Nat.mul_le_mul_right k hcap)
    have ev : ((mk ⟨q / k, hqn⟩).enc)[q % k]! = c[q] := by
     have hmod := Nat.mod_lt q hk0
     have edm : q / k * k + q % k = q := by rw [Nat.mul_comm]; exact Nat.div_add_mod q k
     show ((c.toList.drop (q / k * k)).take k)[q % k]! = c[q]
     rw [List.getElem!_eq_getElem?_getD, List.getElem?_take, if_pos hmod, List.getElem?_drop, edm, Array.getElem?_toList, Array.getElem?_eq_getElem hqc]
     rfl
    rw [ev]
    refine ⟨?_, ?_⟩
    ·simp [World.cell?, hheap, hqc]
    ·simp [World.frozen?, hheap]
   have hnot : ∀ i o, h i = some o → i ≠ kk := fun i o ho hik => by subst hik; rw [hkn] at ho; cases ho
   have hcmp : CmpLays P g #[] ElS.enc k (fun x y : ElS h encD k => cb x.ob y.ob) kk 0 D.size w := by
    intro m0 os0 dk hdk x y
    have hWi : ∀ i o, h i = some o → (sortWorldK ElS.enc k w kk 0 m0 dk os0).heap[i]? = some o := fun i o ho => by
     have hiw : i < w.heap.size := (Array.getElem?_eq_some_iff.1 (hbef.hi i o ho)).1
     rw [heap_sortW _ _ _ _ _ _ _ _ _ hiw, if_neg (hnot i o ho)]
     exact hbef.hi i o ho
    have hW : Before h r O (sortWorldK ElS.enc k w kk 0 m0 dk os0) := ⟨fun q b hq => (by cases hq), fun q _ _ hq => absurd rfl hq, hWi, fun q _ hq => absurd rfl hq, hbef.gl⟩
    have e0 : (#[Value.agg x.enc.toArray, Value.agg y.enc.toArray] ++ #[] : Array Value) = #[Value.agg x.enc.toArray, Value.agg y.enc.toArray] := by simp
    rw [e0]
    have rx : ∀ z : ElS h encD k, AVRep h r (.p (.a (encD z.ob))) (Value.agg z.enc.toArray) := fun z => by
     refine ⟨z.1.1.toArray, rfl, by rw [hL, List.size_toArray]; exact z.2.1, ?_⟩
     show DReps h (encD z.1.2) fun i => (z.1.1).toArray[i]?
     simp only [List.getElem?_toArray]
     exact z.2.2
    have hcx := (hc x.ob y.ob).go h r _ #[.agg x.enc.toArray, .agg y.enc.toArray] ⟨rx x, rx y, trivial⟩ hW
    refine hcx.mono ?_
    rintro e' w' ⟨v, h', rfl, hv, q⟩
    refine ⟨by rw [rep_val hv], grow_of q.os q.tape q.output q.size fun i hi => q.old i hi ?_⟩
    rintro ⟨m1, hm1, _⟩
    exact hm1 rfl
   have hO' : Sort.SWO (ltOf fun x y : ElS h encD k => cb x.ob y.ob) := ⟨fun x => hO.irrefl x.ob, fun x y z => hO.trans x.ob y.ob z.ob, fun x y z => hO.ntrans x.ob y.ob z.ob⟩
   have eg : ∀ args w, (callFunc g args).run P w = .ok (.enter g args) w := fun args w => run_callFunc (hc (mk ⟨0, by omega⟩).ob (mk ⟨0, by omega⟩).ob).fn args w
   have hcon := AnyQ.slices_SortFunc L k (fun w => by rw [(hT _ _ he).isAgg w, hag]) (fun w => by rw [(hT _ _ he).size w, hjs]) ElS.enc (fun x => x.2.1) (fun x => x.one hL) (fun x y : ElS h encD k => cb x.ob y.ob) hO' g #[] kk 0 cap D w eg hcmp hH hkk (by omega)
   rw [hDs] at hcon
   rw [hr]
   refine hcon.mono ?_
   rintro e' w' ⟨rfl, d', n', os', hperm, hsort, rfl⟩
   obtain ⟨hsz, _, hpm⟩ := hperm
   have e1 : d'.extract 0 n = d' := by rw [← hDs, ← hsz]; exact Array.extract_size
   have e2 : D.extract 0 n = D := by rw [← hDs]; exact Array.extract_size
   rw [e1, e2] at hpm
   have hpl : (d'.toList.map ElS.ob).Perm l := by rw [← hDob]; exact hpm.map _
   have hds : d'.size = n := by rw [hsz, hDs]
   have hsl : (d'.toList.map ElS.ob).Pairwise fun x y => ¬ cb y x < 0 := by
    rw [List.pairwise_iff_getElem]
    intro i j hi hj hij
    simp only [List.length_map, Array.length_toList] at hi hj
    have := hsort i j (Nat.zero_le _) hij (by omega)
    unfold ltOf at this
    have := of_decide_eq_false this
    rw [getElem!_pos d' j hj, getElem!_pos d' i hi] at this
    simpa using this
   have hll : d'.toList.map ElS.ob = l' := by
    refine List.Perm.eq_of_pairwise (le := fun x y => ¬ cb y x < 0) ?_ hsl hs (hpl.trans hp.symm)
    intro x y hx hy h1 h2
    exact ha x (hpl.mem_iff.1 hx) y (hp.mem_iff.1 hy) h2 h1
   refine ⟨_, h, rfl, ⟨[], rfl, trivial⟩, ⟨fun q b hq => ?_, fun q hq => ?_, fun i o ho => ?_, fun q i hq => ?_, rfl, rfl, ⟨rfl, Nat.le_add_right _ _⟩, ?_, fun i hi hno => ?_, .refl _, fun _ hq => .inl hq⟩⟩
   ·obtain ⟨rfl, rfl⟩ := hown' q b hq
    unfold BlkRep
    simp only
    refine ⟨_, n, cap, hr, by rw [flat_len hL, ← hll]; simp [hds], hcap, hn47, .inr ⟨kk, Sort.putCells id 0 (Sort.flatK ElS.enc k d') c, rfl, ?_, ?_, ?_⟩⟩
    ·rw [heap_sortW _ _ _ _ _ _ _ _ _ hkk, if_pos rfl, hheap]; rfl
    ·simp [Sort.putCells, hcs]
    ·rw [DReps.iff]
     intro t dv ht
     obtain ⟨b', g1, g2⟩ := flat_get hL l' t dv ht
     have hlt : t < l'.length * k := by have := (List.getElem?_eq_some_iff.1 ht).1; rwa [flat_len hL] at this
     have hl'n : l'.length = n := by rw [← hll]; simp [hds]
     rw [hl'n] at hlt
     have htn : t / k < n := (Nat.div_lt_iff_lt_mul hk0).2 hlt
     have htc : t < c.size := by rw [hcs]; exact Nat.lt_of_lt_of_le hlt (Nat.mul_le_mul_right k hcap)
     rw [← hll, List.getElem?_map, Array.getElem?_toList, Array.getElem?_eq_getElem (by omega)] at g1
     simp only [Option.map_some, Option.some.injEq] at g1
     subst g1
     obtain ⟨y, y1, y2⟩ := (d'[t / k]'(by omega)).2.2.get _ dv g2
     refine ⟨y, ?_, y2⟩
     simp only [Sort.putCells, Array.getElem?_mapIdx, Array.getElem?_eq_getElem htc, Option.map_some]
     rw [if_pos ⟨Nat.zero_le _, by rw [Sort.size_flatK, hds]; omega⟩, Nat.sub_zero, Sort.get_flatK _ _ _ _ (by rw [hds]; exact hlt), getElem!_pos d' (t / k) (by omega)]
     have y3 : ((d'[t / k]'(by omega)).enc)[t % k]? = some y := y1
     rw [List.getElem!_eq_getElem?_getD, y3]
     rfl
   ·have := hown' q
    cases hq2 : upd O m (some (⟨true, k, e, l'.flatMap encD⟩ : Blk)) q with
    | none => exact absurd hq2 hq
    | some b => obtain ⟨rfl, _⟩ := hown' q b hq2; exact hself
   ·have hiw : i < w.heap.size := (Array.getElem?_eq_some_iff.1 (hbef.hi i o ho)).1
    rw [heap_sortW _ _ _ _ _ _ _ _ _ hiw, if_neg (hnot i o ho)]; exact hbef.hi i o ho
   ·intro hqi
    cases hq2 : upd O m (some (⟨true, k, e, l'.flatMap encD⟩ : Blk)) q with
    | none => exact absurd hq2 hq
    | some b => obtain ⟨rfl, _⟩ := hown' q b hq2; exact hbef.ho q i hself hqi
   ·exact size_sortWorldK_c _ _ _ _ _ _ _ _
   ·rw [heap_sortW _ _ _ _ _ _ _ _ _ hi, if_neg]
    intro hik
    exact hno ⟨m, hself, by rw [hrm, hik]⟩
end Go.AM
end
section
namespace Go.AM
open Go Go.RowKit
theorem ggV_nn : ∀ (f : Nat) (a b : Int), 0 ≤ a → 0 ≤ b → 0 ≤ ggV f a b
 | 0, a, b, ha, hb => by unfold ggV; first | exact ha | omega
 | f + 1, a, b, ha, hb => by
  unfold ggV
  split
  ·exact ha
  ·exact ggV_nn f b (a.tmod b) hb (Int.tmod_nonneg _ ha)
theorem gg_nn {a b : Int} (ha : 0 ≤ a) (hb : 0 ≤ b) : 0 ≤ gg a b := ggV_nn _ a b ha hb
theorem gg_prim {a b c : Int} (ha : 0 ≤ a) (hb : 0 ≤ b) (hc : 0 ≤ c) : gg (gg a b) c = 1 ↔ prim a b c = true := by
 have h1 := gg_nn ha hb
 have h2 := gg_nn h1 hc
 have h3 := gg_abs a b
 have h4 := gg_abs (gg a b) c
 unfold prim
 rw [decide_eq_true_iff]
 have e : Int.gcd (gg a b) c = Int.gcd a (Int.gcd b c : Int) := by
  have e1 : Int.gcd (gg a b) c = Nat.gcd (Nat.gcd a.natAbs b.natAbs) c.natAbs := by
   show Nat.gcd (gg a b).natAbs c.natAbs = _
   rw [h3]; rfl
  rw [e1, Nat.gcd_assoc]
  rfl
 rw [← e]
 omega
theorem okS_iff {m : Int} {f : Fm} : okS m f = true ↔ f.b * f.b - 4 * f.a * f.c = -m ∧ 0 ≤ f.b ∧ f.b ≤ f.a ∧ f.a ≤ f.c ∧ gg (gg f.a f.b) f.c = 1 := by
 unfold okS
 simp only [Bool.and_eq_true, decide_eq_true_iff]
theorem okS_cl {m : Int} (hm : 0 < m) {f : Fm} : okS m f = true ↔ Cl (-m) f ∧ f.rd = f ∧ 0 ≤ f.b := by
 rw [okS_iff]
 constructor
 ·rintro ⟨h1, h2, h3, h4, h5⟩
  have ha : 0 < f.a := by
   rcases (show f.a = 0 ∨ 0 < f.a by omega) with q | q
   ·have hb : f.b = 0 := by omega
    rw [q, hb] at h1
    simp at h1
    omega
   ·exact q
  have hp : f.pos := ⟨ha, by show f.b * f.b - 4 * f.a * f.c < 0; omega⟩
  refine ⟨⟨hp, (gg_prim (by omega) h2 (by omega)).1 h5, h1⟩, rd_of_Rd ⟨ha, by omega, h4, .inr h2⟩ hp, h2⟩
 ·rintro ⟨h1, h2, h3⟩
  have hr : Rd f := h2 ▸ h1.rd_Rd
  have ha := hr.a
  have hb := hr.b
  have hc := hr.c
  exact ⟨h1.disc, h3, by omega, hc, (gg_prim (by omega) h3 (by omega)).2 h1.prim⟩
theorem shp_amb {m k : Int} (j : Nat) : amb (shp m k j) = true := by
 unfold amb
 rw [Bool.or_eq_true, Bool.or_eq_true, decide_eq_true_iff, decide_eq_true_iff, decide_eq_true_iff]
 match j with
 | 0 => exact .inl rfl
 | 1 => exact .inr (.inl rfl)
 | _ + 2 => exact .inr (.inr rfl)
theorem amR_mem {m k : Int} {f : Fm} {j : Nat} : f ∈ amR m k j ↔ ∃ i : Nat, i < j ∧ f = shp m k i ∧ okS m f = true := by
 unfold amR
 rw [List.mem_filter, List.mem_map]
 constructor
 ·rintro ⟨⟨i, h1, rfl⟩, h2⟩
  exact ⟨i, List.mem_range.1 h1, rfl, h2⟩
 ·rintro ⟨i, h1, rfl, h2⟩
  exact ⟨⟨i, List.mem_range.2 h1, rfl⟩, h2⟩
theorem amG_mem {m : Int} {f : Fm} : ∀ {n : Nat}, f ∈ amG m n ↔ ∃ k j : Nat, k < n ∧ j < 3 ∧ f = shp m ((k : Int) + 1) j ∧ okS m f = true
 | 0 => by simp [amG]
 | n + 1 => by
  unfold amG
  rw [List.mem_append, amG_mem, amR_mem]
  constructor
  ·rintro (⟨k, j, h1, h2⟩ | ⟨i, h1, h2⟩)
   ·exact ⟨k, j, by omega, h2⟩
   ·exact ⟨n, i, by omega, h1, h2⟩
  ·rintro ⟨k, j, h1, h2, h3⟩
   rcases (show k < n ∨ k = n by omega) with q | q
   ·exact .inl ⟨k, j, q, h2, h3⟩
   ·subst q; exact .inr ⟨j, h2, h3⟩
theorem Rd.amb_b {f : Fm} (h : Rd f) (ha : amb f = true) : 0 ≤ f.b ∧ (f.b = 0 ∨ f.a = f.b ∨ f.a = f.c) := by
 unfold amb at ha
 rw [Bool.or_eq_true, Bool.or_eq_true, decide_eq_true_iff, decide_eq_true_iff, decide_eq_true_iff] at ha
 have h1 := h.a
 have h2 := h.s
 refine ⟨?_, ha⟩
 omega
theorem am_place {m : Int} (hm : 0 < m ∧ m ≤ 4194304) {f : Fm} {k : Int} {j : Nat} (hk : 1 ≤ k) (hkk : k * k ≤ m) (hj : j < 3) (e : f = shp m k j) (ho : okS m f = true) : f ∈ amL m := by
 obtain ⟨n, hn⟩ : ∃ n : Nat, k = (n : Int) + 1 := ⟨(k - 1).toNat, by omega⟩
 subst hn
 refine amG_mem.2 ⟨n, j, ?_, hj, e, ho⟩
 rcases Nat.lt_or_ge n (amS m) with q | q
 ·exact q
 ·exfalso
  have h1 := (amS_ok hm).1
  have h2 : ((amS m : Int) + 1) * ((amS m : Int) + 1) ≤ ((n : Int) + 1) * ((n : Int) + 1) := Int.mul_le_mul (by omega) (by omega) (by omega) (by omega)
  omega
theorem amL_mem {m : Int} (hm : 0 < m ∧ m ≤ 4194304) {f : Fm} : f ∈ amL m ↔ (Cl (-m) f ∧ f.rd = f) ∧ amb f = true := by
 constructor
 ·intro h
  obtain ⟨k, j, _, _, h3, h4⟩ := amG_mem.1 h
  obtain ⟨c1, c2, _⟩ := (okS_cl hm.1).1 h4
  exact ⟨⟨c1, c2⟩, h3 ▸ shp_amb j⟩
 ·rintro ⟨⟨c1, c2⟩, ha⟩
  have hr : Rd f := c2 ▸ c1.rd_Rd
  obtain ⟨hb, hcase⟩ := hr.amb_b ha
  have ho := (okS_cl hm.1).2 ⟨c1, c2, hb⟩
  have hd : f.b * f.b - 4 * f.a * f.c = -m := c1.disc
  have ra := hr.a
  have rb := hr.b
  have rc := hr.c
  obtain ⟨a, b, c⟩ := f
  simp only at hd ra rb rc hb hcase
  have eac : 4 * a * c = 4 * (a * c) := Int.mul_assoc ..
  rcases hcase with q | q | q
  ·subst q
   have em : m = a * (4 * c) := by rw [Int.mul_left_comm]; omega
   refine am_place hm (k := a) (j := 0) (by omega) ?_ (by omega) ?_ ho
   ·have : a * a ≤ a * (4 * c) := Int.mul_le_mul_of_nonneg_left (by omega) (by omega)
    omega
   ·have e1 : m / 4 = a * c := by rw [show m = a * c * 4 by omega]; exact Int.mul_ediv_cancel _ (by omega)
    have e2 : m / 4 / a = c := by rw [e1]; exact Int.mul_ediv_cancel_left _ (by omega)
    show Fm.mk a 0 c = Fm.mk a 0 (m / 4 / a)
    rw [e2]
  ·subst q
   have em : m = a * (4 * c - a) := by rw [Int.mul_sub, Int.mul_left_comm]; omega
   have e1 : m / a = 4 * c - a := by rw [em]; exact Int.mul_ediv_cancel_left _ (by omega)
   refine am_place hm (k := a) (j := 1) (by omega) ?_ (by omega) ?_ ho
   ·have : a * a ≤ a * (4 * c - a) := Int.mul_le_mul_of_nonneg_left (by omega) (by omega)
    omega
   ·show Fm.mk a a c = Fm.mk a a ((m / a + a) / 4)
    rw [e1, show (4 * c - a + a) / 4 = c by omega]
  ·subst q
   have em : m = (2 * a - b) * (2 * a + b) := by
    have : (2 * a - b) * (2 * a + b) = 4 * (a * a) - b * b := by grind
    omega
   have e1 : m / (2 * a - b) = 2 * a + b := by rw [em]; exact Int.mul_ediv_cancel_left _ (by omega)
   refine am_place hm (k := 2 * a - b) (j := 2) (by omega) ?_ (by omega) ?_ ho
   ·have : (2 * a - b) * (2 * a - b) ≤ (2 * a - b) * (2 * a + b) := Int.mul_le_mul_of_nonneg_left (by omega) (by omega)
    omega
   ·show Fm.mk a b a = Fm.mk ((m / (2 * a - b) + (2 * a - b)) / 4) ((m / (2 * a - b) - (2 * a - b)) / 2) ((m / (2 * a - b) + (2 * a - b)) / 4)
    rw [e1, show (2 * a + b + (2 * a - b)) / 4 = a by omega, show (2 * a + b - (2 * a - b)) / 2 = b by omega]
theorem gcd_self_prim {a : Int} (ha : 0 < a) (h : prim a 0 a = true ∨ prim a a a = true) : a = 1 := by
 rcases h with h | h <;> unfold prim at h <;> rw [decide_eq_true_iff] at h
 ·have : Int.gcd a (Int.gcd 0 a : Int) = a.natAbs := by simp [Int.gcd]
  omega
 ·have : Int.gcd a (Int.gcd a a : Int) = a.natAbs := by simp [Int.gcd]
  omega
theorem shp_key2 {m k : Int} (_hm : 0 < m) (hk : 1 ≤ k) (hkk : k * k ≤ m) {a b : Int} (ha : a = (m / k + k) / 4) (hb : b = (m / k - k) / 2) (h0 : 0 ≤ b) (_hba : b ≤ a) (hd : b * b - 4 * a * a = -m) : k = 2 * a - b := by
 have h1 : k ≤ m / k := (Int.le_ediv_iff_mul_le (by omega)).2 hkk
 have h2 := Int.mul_ediv_self_le (x := m) (k := k) (by omega)
 generalize m / k = q at *
 have e : (2 * a - b) * (2 * a + b) = m := by
  have : (2 * a - b) * (2 * a + b) = 4 * a * a - b * b := by grind
  omega
 obtain ⟨X, hX⟩ : ∃ X, 2 * a - b = X := ⟨_, rfl⟩
 obtain ⟨Y, hY⟩ : ∃ Y, 2 * a + b = Y := ⟨_, rfl⟩
 rw [hX, hY] at e
 rcases (show (k = X ∧ q = Y) ∨ (k = X ∧ q = Y + 1) ∨ (k = X + 1 ∧ q = Y + 1) ∨ (k = X + 1 ∧ q = Y + 2) by omega) with ⟨z1, z2⟩ | ⟨z1, z2⟩ | ⟨z1, z2⟩ | ⟨z1, z2⟩
 ·omega
 ·omega
 ·exfalso
  rw [z1, z2] at h2
  have : (X + 1) * (Y + 1) = X * Y + X + Y + 1 := by grind
  omega
 ·exfalso
  rw [z1, z2] at h2
  have : (X + 1) * (Y + 2) = X * Y + 2 * X + Y + 2 := by grind
  omega
theorem shp_cases {m k : Int} (hm : 0 < m) (hk : 1 ≤ k) (hkk : k * k ≤ m) {f : Fm} {j : Nat} (hj : j < 3) (e : f = shp m k j) (ho : okS m f = true) : (j = 0 ∧ f.b = 0 ∧ k = f.a) ∨ (j = 1 ∧ f.a = f.b ∧ k = f.a) ∨ (j = 2 ∧ f.a = f.c ∧ k = 2 * f.a - f.b) := by
 obtain ⟨h1, h2, h3, h4, _⟩ := okS_iff.1 ho
 rcases (show j = 0 ∨ j = 1 ∨ j = 2 by omega) with rfl | rfl | rfl
 ·subst e; exact .inl ⟨rfl, rfl, rfl⟩
 ·subst e; exact .inr (.inl ⟨rfl, rfl, rfl⟩)
 ·subst e
  refine .inr (.inr ⟨rfl, rfl, ?_⟩)
  exact shp_key2 hm hk hkk rfl rfl h2 h3 h1
theorem shp_uni {m k k' : Int} (hm : 0 < m) (h3 : m ≠ 3) (h4 : m ≠ 4) (hk : 1 ≤ k) (hkk : k * k ≤ m) (hk' : 1 ≤ k') (hkk' : k' * k' ≤ m) {f : Fm} {j j' : Nat} (hj : j < 3) (hj' : j' < 3) (e : f = shp m k j) (e' : f = shp m k' j') (ho : okS m f = true) : k = k' ∧ j = j' := by
 have c1 := shp_cases hm hk hkk hj e ho
 have c2 := shp_cases hm hk' hkk' hj' e' ho
 obtain ⟨cl, cr, _⟩ := (okS_cl hm).1 ho
 have hr : Rd f := cr ▸ cl.rd_Rd
 have ha := hr.a
 have hd : f.b * f.b - 4 * f.a * f.c = -m := cl.disc
 have hp := cl.prim
 have n1 : ¬ (f.b = 0 ∧ f.a = f.c) := fun ⟨q1, q2⟩ => by
  rw [q1, ← q2] at hp hd
  have := gcd_self_prim ha (.inl hp)
  rw [this] at hd
  omega
 have n2 : ¬ (f.a = f.b ∧ f.a = f.c) := fun ⟨q1, q2⟩ => by
  rw [← q1, ← q2] at hp hd
  have := gcd_self_prim ha (.inr hp)
  rw [this] at hd
  omega
 omega
theorem amS_le {m : Int} (hm : 0 < m ∧ m ≤ 4194304) {k n : Nat} (hn : n ≤ amS m) (h : k < n) : ((k : Int) + 1) * ((k : Int) + 1) ≤ m := (amS_ok hm).2 k (by omega)
theorem amG_nd {m : Int} (hm : 0 < m ∧ m ≤ 4194304) (h3 : m ≠ 3) (h4 : m ≠ 4) : ∀ n : Nat, n ≤ amS m → (amG m n).Nodup
 | 0, _ => List.nodup_nil
 | n + 1, hn => by
  unfold amG
  have hs := amS_le hm hn (show n < n + 1 by omega)
  rw [List.nodup_append]
  refine ⟨amG_nd hm h3 h4 n (by omega), ?_, ?_⟩
  ·have e : amR m ((n : Int) + 1) 3 = [shp m ((n : Int) + 1) 0, shp m ((n : Int) + 1) 1, shp m ((n : Int) + 1) 2].filter (okS m) := rfl
   rw [e]
   unfold List.Nodup
   rw [List.pairwise_filter]
   have key : ∀ i j : Nat, i < 3 → j < 3 → i ≠ j → okS m (shp m ((n : Int) + 1) i) = true → okS m (shp m ((n : Int) + 1) j) = true → shp m ((n : Int) + 1) i ≠ shp m ((n : Int) + 1) j := fun i j hi hj hij o1 o2 he =>
    hij (shp_uni hm.1 h3 h4 (by omega) hs (by omega) hs hi hj rfl he o1).2
   simp only [List.pairwise_cons, List.mem_cons, List.not_mem_nil, or_false, forall_eq_or_imp, forall_eq, List.Pairwise.nil, and_true, false_imp_iff, implies_true]
   exact ⟨⟨key 0 1 (by omega) (by omega) (by omega), key 0 2 (by omega) (by omega) (by omega)⟩, key 1 2 (by omega) (by omega) (by omega)⟩
  ·intro x hx y hy hxy
   subst hxy
   obtain ⟨k, j, q1, q2, q3, q4⟩ := amG_mem.1 hx
   obtain ⟨i, r1, r2, _⟩ := amR_mem.1 hy
   have := (shp_uni hm.1 h3 h4 (by omega) (amS_le hm hn (by omega)) (by omega) hs q2 r1 q3 r2 q4).1
   omega
theorem amL_nd {m : Int} (hm : 0 < m ∧ m ≤ 4194304) (h3 : m ≠ 3) (h4 : m ≠ 4) : (amL m).Nodup := amG_nd hm h3 h4 _ (Nat.le_refl _)
theorem cm3_lt {f g : Fm} : cm3 f g < 0 ↔ f.a < g.a ∨ (f.a = g.a ∧ f.b < g.b) := by
 unfold cm3 cmpI; repeat' split <;> omega
theorem cm3_swo : Sort.SWO (Proofs.ltOf cm3) where
 irrefl x := by unfold Proofs.ltOf; rw [decide_eq_false_iff_not, cm3_lt]; omega
 trans x y z := by unfold Proofs.ltOf; rw [decide_eq_true_iff, decide_eq_true_iff, decide_eq_true_iff, cm3_lt, cm3_lt, cm3_lt]; omega
 ntrans x y z := by unfold Proofs.ltOf; rw [decide_eq_false_iff_not, decide_eq_false_iff_not, decide_eq_false_iff_not, cm3_lt, cm3_lt, cm3_lt]; omega
theorem cl_anti {D : Int} {f g : Fm} (hf : Cl D f) (hg : Cl D g) (h1 : ¬ cm3 f g < 0) (h2 : ¬ cm3 g f < 0) : f = g := by
 rw [cm3_lt] at h1 h2
 have ea : f.a = g.a := by omega
 have eb : f.b = g.b := by omega
 have d1 : f.b * f.b - 4 * f.a * f.c = D := hf.disc
 have d2 : g.b * g.b - 4 * g.a * g.c = D := hg.disc
 have hp := hf.pos.1
 rw [← ea, ← eb] at d2
 have : 4 * f.a * f.c = 4 * f.a * g.c := by omega
 exact Fm.ext ea eb (Int.eq_of_mul_eq_mul_left (by omega) this)
def srtM (l : List Fm) : List Fm := l.mergeSort fun x y => !decide (cm3 y x < 0)
theorem srtM_perm (l : List Fm) : (srtM l).Perm l := List.mergeSort_perm _ _
theorem srtM_ord (l : List Fm) : (srtM l).Pairwise fun x y => ¬ cm3 y x < 0 := by
 have h : (srtM l).Pairwise fun x y => (!decide (cm3 y x < 0)) = true := by
  refine List.pairwise_mergeSort ?_ ?_ _
  ·intro a b c h1 h2
   simp only [Bool.not_eq_true', decide_eq_false_iff_not, cm3_lt] at h1 h2 ⊢
   omega
  ·intro a b
   simp only [Bool.or_eq_true, Bool.not_eq_true', decide_eq_false_iff_not, cm3_lt]
   omega
 exact h.imp fun hx => by simpa using hx
def cpt : List Fm → List Fm
 | [] => []
 | [x] => [x]
 | x :: y :: l => if x = y then cpt (y :: l) else x :: cpt (y :: l)
theorem cpt_mem {z : Fm} : ∀ l : List Fm, z ∈ cpt l ↔ z ∈ l
 | [] => by simp [cpt]
 | [x] => by simp [cpt]
 | x :: y :: l => by
  unfold cpt
  have ih := cpt_mem (z := z) (y :: l)
  split
  ·next h => subst h; rw [ih]; simp
  ·rw [List.mem_cons, ih]; simp
theorem cpt_strict : ∀ {l : List Fm}, (∀ x ∈ l, ∀ y ∈ l, ¬ cm3 x y < 0 → ¬ cm3 y x < 0 → x = y) → (l.Pairwise fun x y => ¬ cm3 y x < 0) → (cpt l).Pairwise fun x y => cm3 x y < 0
 | [], _, _ => List.Pairwise.nil
 | [x], _, _ => List.pairwise_singleton _ _
 | x :: y :: l, ha, hs => by
  unfold cpt
  rw [List.pairwise_cons] at hs
  have ih := cpt_strict (l := y :: l) (fun u hu v hv => ha u (List.mem_cons_of_mem _ hu) v (List.mem_cons_of_mem _ hv)) hs.2
  split
  ·exact ih
  ·next hne =>
   rw [List.pairwise_cons]
   refine ⟨fun z hz => ?_, ih⟩
   rw [cpt_mem] at hz
   have h1 := hs.1 z hz
   by_cases q : cm3 x z < 0
   ·exact q
   ·exfalso
    have hxz := ha x (List.mem_cons_self ..) z (List.mem_cons_of_mem _ hz) q h1
    subst hxz
    have hy := hs.1 y (List.mem_cons_self ..)
    rcases List.mem_cons.1 hz with e | e
    ·exact hne e
    ·have h2 := (List.pairwise_cons.1 hs.2).1 x e
     exact hne (ha x (List.mem_cons_self ..) y (by simp) h2 hy)
theorem cpt_nd : ∀ {l : List Fm}, l.Nodup → cpt l = l
 | [], _ => rfl
 | [x], _ => rfl
 | x :: y :: l, h => by
  unfold cpt
  rw [List.nodup_cons] at h
  rw [if_neg (fun e => h.1 (by rw [e]; exact List.mem_cons_self ..)), cpt_nd h.2]
theorem strict_eq {l l' : List Fm} (h1 : l.Pairwise fun x y => cm3 x y < 0) (h2 : l'.Pairwise fun x y => cm3 x y < 0) (h : ∀ x, x ∈ l ↔ x ∈ l') : l = l' := by
 have nd : ∀ {m : List Fm}, (m.Pairwise fun x y => cm3 x y < 0) → m.Nodup := fun hm => hm.imp fun {a b} hx e => by subst e; rw [cm3_lt] at hx; omega
 refine List.Perm.eq_of_pairwise (le := fun x y => cm3 x y < 0) ?_ h1 h2 ((List.perm_ext_iff_of_nodup (nd h1) (nd h2)).2 h)
 intro a b _ _ q1 q2
 rw [cm3_lt] at q1 q2
 omega
def amA (d : Int) : List Fm := if szE d = 0 then cpt (srtM (amL (-d))) else []
theorem amA_n {d : Int} (h : ¬ szE d = 0) : amA d = [] := by unfold amA; rw [if_neg h]
theorem amL_cl {m : Int} (hm : 0 < m ∧ m ≤ 4194304) {f : Fm} (h : f ∈ amL m) : Cl (-m) f := ((amL_mem hm).1 h).1.1
theorem amL_anti {m : Int} (hm : 0 < m ∧ m ≤ 4194304) : ∀ x ∈ amL m, ∀ y ∈ amL m, ¬ cm3 x y < 0 → ¬ cm3 y x < 0 → x = y := fun _ hx _ hy => cl_anti (amL_cl hm hx) (amL_cl hm hy)
theorem amA_mem {d : Int} (hE : szE d = 0) {f : Fm} : f ∈ amA d ↔ (Cl d f ∧ f.rd = f) ∧ amb f = true := by
 obtain ⟨_, h2, h3⟩ := gnV_0 hE
 unfold amA
 rw [if_pos hE, cpt_mem, (srtM_perm _).mem_iff, amL_mem ⟨by omega, by omega⟩, Int.neg_neg]
theorem amA_ord {d : Int} (hE : szE d = 0) : (amA d).Pairwise fun x y => cm3 x y < 0 := by
 obtain ⟨_, h2, h3⟩ := gnV_0 hE
 unfold amA
 rw [if_pos hE]
 refine cpt_strict (fun x hx y hy => ?_) (srtM_ord _)
 exact amL_anti ⟨by omega, by omega⟩ x ((srtM_perm _).mem_iff.1 hx) y ((srtM_perm _).mem_iff.1 hy)
end Go.AM
end
section
namespace Go.AM
open Go Go.RowKit
def lesF (f g : Fm) : Bool := decide (cmpI f.a g.a < 0) || (decide (cmpI f.a g.a = 0) && (decide (cmpI f.b g.b < 0) || (decide (cmpI f.b g.b = 0) && decide (cmpI f.c g.c < 0))))
theorem lesF_iff {f g : Fm} : lesF f g = true ↔ f.a < g.a ∨ (f.a = g.a ∧ (f.b < g.b ∨ (f.b = g.b ∧ f.c < g.c))) := by
 unfold lesF
 simp only [Bool.or_eq_true, Bool.and_eq_true, decide_eq_true_iff]
 have h : ∀ x y : Int, (cmpI x y < 0 ↔ x < y) ∧ (cmpI x y = 0 ↔ x = y) := fun x y => by unfold cmpI; constructor <;> (repeat' split) <;> omega
 rw [(h f.a g.a).1, (h f.a g.a).2, (h f.b g.b).1, (h f.b g.b).2, (h f.c g.c).1]
theorem lesF_cl {D : Int} {f g : Fm} (hf : Cl D f) (hg : Cl D g) : lesF f g = true ↔ cm3 f g < 0 := by
 rw [lesF_iff, cm3_lt]
 constructor
 ·rintro (h | ⟨h, h2 | ⟨h2, h3⟩⟩)
  ·exact .inl h
  ·exact .inr ⟨h, h2⟩
  ·exfalso
   have := cl_anti hf hg (by rw [cm3_lt]; omega) (by rw [cm3_lt]; omega)
   rw [this] at h3; omega
 ·rintro (h | ⟨h, h2⟩)
  ·exact .inl h
  ·exact .inr ⟨h, .inl h2⟩
def insStep (f : Fm) (s : List Fm × Bool) (x : Fm) : List Fm × Bool := if s.2 = false ∧ lesF f x = true then (s.1 ++ [f] ++ [x], true) else (s.1 ++ [x], s.2)
def insF (f : Fm) (l : List Fm) : List Fm × Bool := l.foldl (insStep f) ([], false)
theorem insF_next {f : Fm} {l : List Fm} {k : Nat} (h : (k : Int) < l.length) : insF f (l.take (k + 1)) = insStep f (insF f (l.take k)) (l.getD k ⟨0, 0, 0⟩) := by
 unfold insF
 rw [← take_snocF h, List.foldl_append]; rfl
def frI (f : Fm) : List Fm → List Fm × Bool
 | [] => ([], false)
 | x :: l => if lesF f x = true then (f :: x :: l, true) else (x :: (frI f l).1, (frI f l).2)
theorem foldl_ins (f : Fm) : ∀ (l : List Fm) (s : List Fm × Bool), l.foldl (insStep f) s = if s.2 = true then (s.1 ++ l, true) else (s.1 ++ (frI f l).1, (frI f l).2)
 | [], s => by
  obtain ⟨s1, s2⟩ := s
  cases s2 <;> simp [frI]
 | x :: l, s => by
  rw [List.foldl_cons, foldl_ins f l]
  obtain ⟨s1, s2⟩ := s
  cases s2 <;> cases h : lesF f x <;> simp [insStep, frI, h]
theorem insF_fr (f : Fm) (l : List Fm) : insF f l = frI f l := by
 unfold insF; rw [foldl_ins]; simp
def insV (f : Fm) : List Fm → List Fm
 | [] => [f]
 | x :: l => if lesF f x = true then f :: x :: l else x :: insV f l
theorem insV_fr (f : Fm) : ∀ l : List Fm, insV f l = if (frI f l).2 = true then (frI f l).1 else (frI f l).1 ++ [f]
 | [] => rfl
 | x :: l => by
  unfold insV frI
  cases h : lesF f x
  ·simp only [Bool.false_eq_true, if_false]
   rw [insV_fr f l]
   split <;> simp
  ·simp
theorem insV_t {f : Fm} {l : List Fm} (h : (insF f l).2 = true) : (insF f l).1 = insV f l := by rw [insV_fr, ← insF_fr, if_pos h]
theorem insV_f {f : Fm} {l : List Fm} (h : (insF f l).2 = false) : (insF f l).1 ++ [f] = insV f l := by rw [insV_fr, ← insF_fr, if_neg (by rw [h]; decide)]
theorem insF_len (f : Fm) (l : List Fm) : (insF f l).1.length ≤ l.length + 1 := by
 rw [insF_fr]
 induction l with
 | nil => simp [frI]
 | cons x l ih =>
  unfold frI
  split
  ·simp
  ·simp only [List.length_cons]; omega
theorem insV_mem {f z : Fm} : ∀ {l : List Fm}, z ∈ insV f l ↔ z = f ∨ z ∈ l
 | [] => by simp [insV]
 | x :: l => by
  unfold insV
  split
  ·simp
  ·rw [List.mem_cons, insV_mem, List.mem_cons]
   constructor
   ·rintro (h | h | h)
    ·exact .inr (.inl h)
    ·exact .inl h
    ·exact .inr (.inr h)
   ·rintro (h | h | h)
    ·exact .inr (.inl h)
    ·exact .inl h
    ·exact .inr (.inr h)
theorem insV_len (f : Fm) : ∀ l : List Fm, (insV f l).length = l.length + 1
 | [] => rfl
 | x :: l => by unfold insV; split <;> simp [insV_len f l]
theorem insV_ord {D : Int} {f : Fm} (hf : Cl D f) : ∀ {l : List Fm}, (∀ x ∈ l, Cl D x) → f ∉ l → (l.Pairwise fun x y => cm3 x y < 0) → (insV f l).Pairwise fun x y => cm3 x y < 0
 | [], _, _, _ => List.pairwise_singleton _ _
 | x :: l, hc, hn, ho => by
  have hx := hc x (List.mem_cons_self ..)
  rw [List.pairwise_cons] at ho
  unfold insV
  split
  ·next h =>
   rw [lesF_cl hf hx] at h
   rw [List.pairwise_cons, List.pairwise_cons]
   refine ⟨fun z hz => ?_, ho⟩
   rcases List.mem_cons.1 hz with e | e
   ·rw [e]; exact h
   ·have := ho.1 z e
    rw [cm3_lt] at this h ⊢; omega
  ·next h =>
   rw [lesF_cl hf hx] at h
   rw [List.pairwise_cons]
   refine ⟨fun z hz => ?_, insV_ord hf (fun y hy => hc y (List.mem_cons_of_mem _ hy)) (fun e => hn (List.mem_cons_of_mem _ e)) ho.2⟩
   rcases insV_mem.1 hz with e | e
   ·subst e
    by_cases q : cm3 x z < 0
    ·exact q
    ·exact absurd (List.mem_cons_self ..) (cl_anti hf hx h q ▸ hn)
   ·exact ho.1 z e
def insR (l : List Fm) (f : Fm) : List Fm := if rdd f.a f.b f.c = true ∧ prim f.a f.b f.c = true then if f ∈ l then l else insV f l else l
theorem insR_1 {l : List Fm} {f : Fm} (h : rdd f.a f.b f.c = false) : insR l f = l := by unfold insR; rw [if_neg (by rw [h]; simp)]
theorem insR_2 {l : List Fm} {f : Fm} (h : prim f.a f.b f.c = false) : insR l f = l := by unfold insR; rw [if_neg (by rw [h]; simp)]
theorem insR_3 {l : List Fm} {f : Fm} (h : rdd f.a f.b f.c = true) (h1 : prim f.a f.b f.c = true) (h2 : f ∈ l) : insR l f = l := by unfold insR; rw [if_pos ⟨h, h1⟩, if_pos h2]
theorem insR_4 {l : List Fm} {f : Fm} (h : rdd f.a f.b f.c = true) (h1 : prim f.a f.b f.c = true) (h2 : f ∉ l) : insR l f = insV f l := by unfold insR; rw [if_pos ⟨h, h1⟩, if_neg h2]
theorem insR_len (l : List Fm) (f : Fm) : (insR l f).length ≤ l.length + 1 := by
 unfold insR
 split
 ·split
  ·omega
  ·rw [insV_len]; omega
 ·omega
structure InO (D : Int) (l : List Fm) : Prop where
 cl : ∀ x ∈ l, Cl D x ∧ x.rd = x
 ord : l.Pairwise fun x y => cm3 x y < 0
theorem insR_ok {D : Int} {l : List Fm} (h : InO D l) {f : Fm} (hd : dsc f.a f.b f.c = D) (h0 : D < 0) : InO D (insR l f) ∧ ∀ x, x ∈ insR l f ↔ x ∈ l ∨ (x = f ∧ Cl D f ∧ f.rd = f) := by
 have key : (rdd f.a f.b f.c = true ∧ prim f.a f.b f.c = true) ↔ (Cl D f ∧ f.rd = f) := by
  constructor
  ·rintro ⟨h1, h2⟩
   have hb : ((f.b.natAbs : Int) ≤ f.a) := by
    unfold rdd at h1; simp only [Bool.and_eq_true, decide_eq_true_iff] at h1; exact h1.1.1.2
   have ha : 0 < f.a := by
    rcases (show f.a = 0 ∨ 0 < f.a by omega) with q | q
    ·have hb0 : f.b = 0 := by omega
     unfold dsc at hd
     rw [q, hb0] at hd
     simp at hd
     omega
    ·exact q
   have hp : f.pos := ⟨ha, by show dsc _ _ _ < 0; omega⟩
   exact ⟨⟨hp, h2, hd⟩, rd_of_Rd (Rd.of ha h1) hp⟩
  ·rintro ⟨c, r⟩
   have hr : Rd f := r ▸ c.rd_Rd
   exact ⟨(red_iff c.pos).2 ⟨hr.b, hr.c, hr.s⟩, c.prim⟩
 unfold insR
 split
 ·next q =>
  obtain ⟨c, r⟩ := key.1 q
  split
  ·next hm => exact ⟨h, fun x => ⟨.inl, fun hx => hx.elim id fun hx => hx.1 ▸ hm⟩⟩
  ·next hm =>
   refine ⟨⟨fun x hx => ?_, insV_ord c (fun x hx => (h.cl x hx).1) hm h.ord⟩, fun x => ?_⟩
   ·rcases insV_mem.1 hx with e | e
    ·subst e; exact ⟨c, r⟩
    ·exact h.cl x e
   ·rw [insV_mem]
    exact ⟨fun hx => hx.elim (fun e => .inr ⟨e, c, r⟩) .inl, fun hx => hx.elim .inr fun e => .inl e.1⟩
 ·next q => exact ⟨h, fun x => ⟨.inl, fun hx => hx.elim id fun hx => absurd (key.2 hx.2) q⟩⟩
def rs1 (m k : Int) : Fm := ⟨k, 0, m / 4 / k⟩
def rs2 (m k : Int) : Fm := ⟨k, k, (m / k + k) / 4⟩
def rs3 (m k : Int) : Fm := ⟨(m / k + k) / 4, (m / k - k) / 2, (m / k + k) / 4⟩
def rfS1 (m k : Int) (l : List Fm) : List Fm := if m % (4 * k) = 0 then insR l (rs1 m k) else l
def rfS (m k : Int) (l : List Fm) : List Fm := if m % k ≠ 0 then rfS1 m k l else if (m / k + k) % 4 = 0 then insR (insR (rfS1 m k l) (rs2 m k)) (rs3 m k) else rfS1 m k l
def rfG (m : Int) : Nat → List Fm
 | 0 => []
 | n + 1 => rfS m ((n : Int) + 1) (rfG m n)
theorem rfG_len (m : Int) : ∀ n : Nat, (rfG m n).length ≤ 3 * n
 | 0 => by simp [rfG]
 | n + 1 => by
  have ih := rfG_len m n
  have h1 : (rfS1 m ((n : Int) + 1) (rfG m n)).length ≤ (rfG m n).length + 1 := by
   unfold rfS1
   split
   ·exact insR_len _ _
   ·omega
  unfold rfG rfS
  split
  ·omega
  ·split
   ·have := insR_len (insR (rfS1 m ((n : Int) + 1) (rfG m n)) (rs2 m ((n : Int) + 1))) (rs3 m ((n : Int) + 1))
    have := insR_len (rfS1 m ((n : Int) + 1) (rfG m n)) (rs2 m ((n : Int) + 1))
    omega
   ·omega
theorem rs1_d {m k : Int} (hk : 1 ≤ k) (h : m % (4 * k) = 0) : dsc (rs1 m k).a (rs1 m k).b (rs1 m k).c = -m := by
 obtain ⟨c, hc⟩ := Int.dvd_of_emod_eq_zero h
 have e1 : m / 4 / k = c := by
  have : m / 4 = k * c := by rw [hc, Int.mul_assoc]; exact Int.mul_ediv_cancel_left _ (by omega)
  rw [this]; exact Int.mul_ediv_cancel_left _ (by omega)
 show 0 * 0 - 4 * k * (m / 4 / k) = -m
 rw [e1, hc]; omega
theorem rs23_d {m k : Int} (hk : 1 ≤ k) (h : m % k = 0) (h4 : (m / k + k) % 4 = 0) : dsc (rs2 m k).a (rs2 m k).b (rs2 m k).c = -m ∧ dsc (rs3 m k).a (rs3 m k).b (rs3 m k).c = -m := by
 obtain ⟨q, hq⟩ := Int.dvd_of_emod_eq_zero h
 have e1 : m / k = q := by rw [hq]; exact Int.mul_ediv_cancel_left _ (by omega)
 unfold rs2 rs3 dsc
 rw [e1] at h4 ⊢
 obtain ⟨t, ht⟩ := Int.dvd_of_emod_eq_zero h4
 have e2 : (q + k) / 4 = t := by omega
 have e3 : (q - k) / 2 = 2 * t - k := by omega
 simp only [e2, e3]
 have e4 : q = 4 * t - k := by omega
 rw [hq, e4]
 constructor
 ·show k * k - 4 * k * t = -(k * (4 * t - k)); grind
 ·show (2 * t - k) * (2 * t - k) - 4 * t * t = -(k * (4 * t - k)); grind
def RfC (m k : Int) (x : Fm) : Prop := (Cl (-m) x ∧ x.rd = x) ∧ ((m % (4 * k) = 0 ∧ x = rs1 m k) ∨ (m % k = 0 ∧ (m / k + k) % 4 = 0 ∧ (x = rs2 m k ∨ x = rs3 m k)))
theorem rfS_ok {m k : Int} (hm : 0 < m) (hk : 1 ≤ k) {l : List Fm} (h : InO (-m) l) : InO (-m) (rfS m k l) ∧ ∀ x, x ∈ rfS m k l ↔ x ∈ l ∨ RfC m k x := by
 have h1 : InO (-m) (rfS1 m k l) ∧ ∀ x, x ∈ rfS1 m k l ↔ x ∈ l ∨ (m % (4 * k) = 0 ∧ x = rs1 m k ∧ Cl (-m) x ∧ x.rd = x) := by
  unfold rfS1
  split
  ·next g =>
   obtain ⟨a, b⟩ := insR_ok h (rs1_d hk g) (by omega)
   refine ⟨a, fun x => ?_⟩
   rw [b]
   exact ⟨fun hx => hx.imp_right fun ⟨e, c, r⟩ => ⟨g, e, e ▸ c, e ▸ r⟩, fun hx => hx.imp_right fun ⟨_, e, c, r⟩ => ⟨e, e ▸ c, e ▸ r⟩⟩
  ·next g => exact ⟨h, fun x => ⟨.inl, fun hx => hx.elim id fun hx => absurd hx.1 g⟩⟩
 unfold rfS
 split
 ·next g =>
  refine ⟨h1.1, fun x => ?_⟩
  rw [h1.2]
  unfold RfC
  exact ⟨fun hx => hx.imp_right fun ⟨a, e, c⟩ => ⟨c, .inl ⟨a, e⟩⟩, fun hx => hx.imp_right fun ⟨c, d⟩ => d.elim (fun d => ⟨d.1, d.2, c⟩) fun d => absurd d.1 g⟩
 ·next g =>
  have g : m % k = 0 := by omega
  split
  ·next g4 =>
   obtain ⟨d2, d3⟩ := rs23_d hk g g4
   obtain ⟨a2, b2⟩ := insR_ok h1.1 d2 (by omega)
   obtain ⟨a3, b3⟩ := insR_ok a2 d3 (by omega)
   refine ⟨a3, fun x => ?_⟩
   rw [b3, b2, h1.2]
   unfold RfC
   constructor
   ·rintro (((hx | ⟨z, e, c⟩) | ⟨e, c⟩) | ⟨e, c⟩)
    ·exact .inl hx
    ·exact .inr ⟨c, .inl ⟨z, e⟩⟩
    ·subst e; exact .inr ⟨c, .inr ⟨g, g4, .inl rfl⟩⟩
    ·subst e; exact .inr ⟨c, .inr ⟨g, g4, .inr rfl⟩⟩
   ·rintro (hx | ⟨c, ⟨z, e⟩ | ⟨_, _, e | e⟩⟩)
    ·exact .inl (.inl (.inl hx))
    ·exact .inl (.inl (.inr ⟨z, e, c⟩))
    ·exact .inl (.inr ⟨e, e ▸ c⟩)
    ·exact .inr ⟨e, e ▸ c⟩
  ·next g4 =>
   refine ⟨h1.1, fun x => ?_⟩
   rw [h1.2]
   unfold RfC
   exact ⟨fun hx => hx.imp_right fun ⟨a, e, c⟩ => ⟨c, .inl ⟨a, e⟩⟩, fun hx => hx.imp_right fun ⟨c, d⟩ => d.elim (fun d => ⟨d.1, d.2, c⟩) fun d => absurd d.2.1 g4⟩
theorem rfG_ok {m : Int} (hm : 0 < m) : ∀ n : Nat, InO (-m) (rfG m n) ∧ ∀ x, x ∈ rfG m n ↔ ∃ k : Nat, k < n ∧ RfC m ((k : Int) + 1) x
 | 0 => ⟨⟨fun x hx => by simp [rfG] at hx, List.Pairwise.nil⟩, fun x => by simp [rfG]⟩
 | n + 1 => by
  obtain ⟨a, b⟩ := rfG_ok hm n
  obtain ⟨c, d⟩ := rfS_ok hm (show 1 ≤ (n : Int) + 1 by omega) a
  refine ⟨c, fun x => ?_⟩
  unfold rfG
  rw [d, b]
  constructor
  ·rintro (⟨k, h1, h2⟩ | h)
   ·exact ⟨k, by omega, h2⟩
   ·exact ⟨n, by omega, h⟩
  ·rintro ⟨k, h1, h2⟩
   rcases (show k < n ∨ k = n by omega) with q | q
   ·exact .inl ⟨k, q, h2⟩
   ·subst q; exact .inr h2
theorem rfG_amA {m : Int} (hE : szE (-m) = 0) {n : Nat} (hn : 2 * m < ((n : Int) + 1) * ((n : Int) + 1)) : rfG m n = amA (-m) := by
 obtain ⟨_, g2, g3⟩ := gnV_0 hE
 have hm : 0 < m := by omega
 obtain ⟨a, b⟩ := rfG_ok hm n
 refine strict_eq a.ord (amA_ord hE) fun f => ?_
 rw [amA_mem hE, b]
 constructor
 ·rintro ⟨k, _, c, d⟩
  refine ⟨c, ?_⟩
  unfold amb
  rw [Bool.or_eq_true, Bool.or_eq_true, decide_eq_true_iff, decide_eq_true_iff, decide_eq_true_iff]
  rcases d with ⟨_, rfl⟩ | ⟨_, _, rfl | rfl⟩
  ·exact .inl rfl
  ·exact .inr (.inl rfl)
  ·exact .inr (.inr rfl)
 ·rintro ⟨⟨c1, c2⟩, ha⟩
  have hr : Rd f := c2 ▸ c1.rd_Rd
  obtain ⟨hb, hcase⟩ := hr.amb_b ha
  have hd : f.b * f.b - 4 * f.a * f.c = -m := c1.disc
  have ra := hr.a
  have rb := hr.b
  have rc := hr.c
  have place : ∀ k : Int, 1 ≤ k → k * k ≤ 2 * m → RfC m k f → ∃ k : Nat, k < n ∧ RfC m ((k : Int) + 1) f := fun k h1 h2 h3 => by
   refine ⟨(k - 1).toNat, ?_, by rw [show (((k - 1).toNat : Nat) : Int) + 1 = k by omega]; exact h3⟩
   rcases Int.lt_or_le k ((n : Int) + 1) with q | q
   ·omega
   ·have := Int.mul_le_mul q q (by omega) (by omega); omega
  have cc : Cl (-m) f ∧ f.rd = f := ⟨c1, c2⟩
  obtain ⟨a, b, c⟩ := f
  simp only at hd ra rb rc hb hcase
  have eac : 4 * a * c = 4 * (a * c) := Int.mul_assoc ..
  rcases hcase with q | q | q
  ·subst q
   have em : m = 4 * a * c := by omega
   refine place a (by omega) ?_ ⟨cc, .inl ⟨?_, ?_⟩⟩
   ·have : a * a ≤ a * c := Int.mul_le_mul_of_nonneg_left (by omega) (by omega)
    have : 0 ≤ a * a := sq_nonneg' a
    omega
   ·rw [em]; exact Int.mul_emod_right ..
   ·have e1 : m / 4 = a * c := by rw [show m = a * c * 4 by omega]; exact Int.mul_ediv_cancel _ (by omega)
    have e2 : m / 4 / a = c := by rw [e1]; exact Int.mul_ediv_cancel_left _ (by omega)
    unfold rs1; rw [e2]
  ·subst q
   have em : m = a * (4 * c - a) := by rw [Int.mul_sub, Int.mul_left_comm]; omega
   have e1 : m / a = 4 * c - a := by rw [em]; exact Int.mul_ediv_cancel_left _ (by omega)
   refine place a (by omega) ?_ ⟨cc, .inr ⟨?_, ?_, .inl ?_⟩⟩
   ·have : a * a ≤ a * (4 * c - a) := Int.mul_le_mul_of_nonneg_left (by omega) (by omega)
    omega
   ·rw [em]; exact Int.mul_emod_right ..
   ·rw [e1]; omega
   ·unfold rs2; rw [e1, show (4 * c - a + a) / 4 = c by omega]
  ·subst q
   have em : m = (2 * a - b) * (2 * a + b) := by
    have : (2 * a - b) * (2 * a + b) = 4 * (a * a) - b * b := by grind
    omega
   have e1 : m / (2 * a - b) = 2 * a + b := by rw [em]; exact Int.mul_ediv_cancel_left _ (by omega)
   refine place (2 * a - b) (by omega) ?_ ⟨cc, .inr ⟨?_, ?_, .inr ?_⟩⟩
   ·have : (2 * a - b) * (2 * a - b) ≤ (2 * a - b) * (2 * a + b) := Int.mul_le_mul_of_nonneg_left (by omega) (by omega)
    omega
   ·rw [em]; exact Int.mul_emod_right ..
   ·rw [e1]; omega
   ·unfold rs3; rw [e1, show (2 * a + b + (2 * a - b)) / 4 = a by omega, show (2 * a + b - (2 * a - b)) / 2 = b by omega]
end Go.AM
end
section
namespace Go.AM
open Go Go.RowKit
section
variable {β : Type} {encD : β → List DV} {z : Nat}
abbrev SL (encD : β → List DV) (l : List β) : DV := .sl l.length (l.flatMap encD)
abbrev VB (z : Nat) (e : TypeId) (encD : β → List DV) (l : List β) : Blk := ⟨true, z, e, l.flatMap encD⟩
theorem flat_drop (hL : ∀ b, (encD b).length = z) : ∀ (l : List β) (i : Nat) (h : i < l.length), (l.flatMap encD).drop (i * z) = encD l[i] ++ (l.drop (i + 1)).flatMap encD
 | x :: l, 0, _ => by simp
 | x :: l, i + 1, h => by
  have ih := flat_drop hL l i (by simpa using h)
  have e : (i + 1) * z = (encD x).length + i * z := by rw [hL, Nat.add_mul, Nat.one_mul, Nat.add_comm]
  rw [e, List.flatMap_cons, List.drop_length_add_append, ih]
  simp
variable {P : Program} {tt : TT} (hT : TTok P tt)
variable {dst : Option Nat} {ty : TypeId} {pos : String} {af : Array Edge} {gd : Option (Nat × Bool)} {d : Nat} {ρ : Operand → AV} {own : Own}
variable {T e : TypeId} {i j : TyI} {x y : Operand}
include hT
theorem op_indexG (hL : ∀ b, (encD b).length = z) (hz : 0 < z) (b0 : β) {k : IntKind} {n : Int} {l : List β} (ht : tt T = some i) (hs : i.sh = .sl e) (he : tt e = some j) (hj : j.size = z) (hx : ρ x = .p (.c (SL encD l))) (hy : ρ y = .p (.c (.v (.int k n)))) (hn : 0 ≤ n ∧ n < l.length) :
  Eff P ⟨dst, .indexAddr T x y, ty, pos, af, gd⟩ d ρ own (.ip (encD (l.getD n.toNat b0) ++ (l.drop (n.toNat + 1)).flatMap encD)) [] none [] := by
 have hi : n.toNat < l.length := by omega
 have h := op_index_sl (dst := dst) (ty := ty) (pos := pos) (af := af) (gd := gd) (d := d) (own := own) hT ht hs he hx (l := l.length) (xs := l.flatMap encD) (by rfl) hy hn (by
  intro h0
  have := flat_len hL l
  rw [h0] at this
  have h1 : 1 * 1 ≤ l.length * z := Nat.mul_le_mul (by omega) hz
  simp at this
  omega)
 rw [hj, flat_drop hL l n.toNat hi] at h
 have e1 : l.getD n.toNat b0 = l[n.toNat] := by simp [List.getD, hi]
 rw [e1]; exact h
theorem op_index_vecG (hL : ∀ b, (encD b).length = z) {m : Nat} {k : IntKind} {n : Nat} {l : List β} {be : TypeId} (ht : tt T = some i) (hs : i.sh = .sl e) (he : tt e = some j) (hj : j.size = z) (hz : Nat.blt 0 z = true) (hx : ρ x = .vec m) (hb : own m = some (VB z be encD l)) (hy : ρ y = .p (.c (.v (.int k (n : Int))))) (hn : n < l.length) :
  Eff P ⟨dst, .indexAddr T x y, ty, pos, af, gd⟩ d ρ own (.loc m (n * z)) [] none [m] := by
 have hz1 : 0 < z := by simpa using hz
 have h2 : n * z < l.length * z := Nat.mul_lt_mul_of_pos_right hn hz1
 have h := op_index_vec (dst := dst) (ty := ty) (pos := pos) (af := af) (gd := gd) (d := d) hT ht hs he hx hb rfl hj.symm hy ⟨by omega, by
  rw [hj]; show (_ + 1) * _ ≤ (l.flatMap encD).length; rw [flat_len hL]
  exact Nat.mul_le_mul_right z (by omega)⟩ (by rw [hj]; exact hz)
 rw [hj] at h
 exact h
theorem op_len_vecG (hL : ∀ b, (encD b).length = z) (hz : Nat.blt 0 z = true) {m : Nat} {l : List β} {be : TypeId} (ht : tt T = some i) (hs : i.sh = .sl e) (hx : ρ x = .vec m) (hb : own m = some (VB z be encD l)) :
  Eff P ⟨dst, .call ⟨.builtin .len, #[x], #[T]⟩, ty, pos, af, gd⟩ d ρ own (.p (.c (.v (.int .i64 (l.length : Nat))))) [] none [m] :=
 op_len_vec hT ht hs hx hb rfl hz (flat_len hL l).symm
theorem op_load_vecG (hL : ∀ b, (encD b).length = z) (b0 : β) {m n : Nat} {l : List β} {be : TypeId} (ht : tt T = some i) (hg : i.sh.agg = true) (hz : i.size = z) (hx : ρ x = .loc m (n * z)) (hb : own m = some (VB z be encD l)) (hn : n < l.length) :
  Eff P ⟨dst, .load T x, ty, pos, af, gd⟩ d ρ own (.p (.a (encD (l.getD n b0)))) [] none [m] := by
 have e1 : l.getD n b0 = l[n] := by simp [List.getD, hn]
 rw [e1]
 exact op_load_agg hT ht hg hx hb (flat_drop hL l n hn) (by rw [hz]; exact hL _)
end
section
end
section
variable {P : Program} {tt : TT} (hT : TTok P tt)
variable {dst : Option Nat} {ty : TypeId} {pos : String} {af : Array Edge} {gd : Option (Nat × Bool)} {d : Nat} {ρ : Operand → AV} {own : Own}
variable {T e : TypeId} {i j : TyI} {x y : Operand}
include hT
theorem op_slice_vl {m n l z : Nat} {k : IntKind} {be : TypeId} {cs : List DV} (ht : tt T = some i) (hs : i.sh = .sl e) (he : tt e = some j) (_hj : j.size = z) (hz : Nat.blt 0 z = true) (hx : ρ x = .vec m) (hb : own m = some ⟨true, z, be, cs⟩) (hcs : cs.length = l * z) (hy : ρ y = .p (.c (.v (.int k (n : Int))))) (hn : n ≤ l) :
  Eff P ⟨dst, .slice T x (some y) none none, ty, pos, af, gd⟩ d ρ own (.ax fun _ v => ∃ a c, v = .slice a (l - n) c) [] none [m] :=
 Eff.value fun C h r own' a w hrep hrd hw => by
  have e1 := hrep x (by simp [Op.operands])
  have e2 := hrep y (by simp [Op.operands])
  rw [hx] at e1; rw [hy] at e2
  have hz1 : 0 < z := by simpa using hz
  have hold := hw.ow m _ ((hrd m (by simp)).trans hb)
  unfold BlkRep at hold
  simp only at hold
  obtain ⟨ad, l', cap, q1, q2, q3, q4, _⟩ := hold
  have hl : l' = l := Nat.eq_of_mul_eq_mul_right hz1 (q2.trans hcs)
  subst hl
  have v1 : a.eval x = .slice ad l' cap := (show a.eval x = r m from e1).trans q1
  have v2 : a.eval y = .int k (n : Int) := rep_val e2
  have hu := (hT T i ht).slice hs
  have hel : P.elem T = e := by simp [Program.elem, hu]
  have hu' : P.underlying T = some (.slice (P.elem T)) := by rw [hel]; exact hu
  refine ⟨sliced ad n l' cap j.size, ?_, fun h' _ => ⟨_, _, rfl⟩⟩
  simp only [execOp, v1, Option.map_some, Option.map_none, v2, Sem.run_bind, run_sliceAt_slice w T _ _ _ _ hu', run_slice_l w T _ l' cap hu' k (n : Int) (by omega) (by omega), hel, (hT e j he).size, Result.andThen_ok, Sem.run_pure, Int.toNat_natCast]
theorem op_len_ax {n : Nat} (ht : tt T = some i) (hs : i.sh = .sl e) (hx : ρ x = .ax fun _ v => ∃ a c, v = .slice a n c) : Eff P ⟨dst, .call ⟨.builtin .len, #[x], #[T]⟩, ty, pos, af, gd⟩ d ρ own (.p (.c (.v (.int .i64 n)))) [] none [] :=
 builtin_run (fun C h r own' a w hrep _ => by
  have e1 := hrep x (by simp)
  rw [hx] at e1
  obtain ⟨ad, c, e2⟩ := e1 h (fun _ _ _ e => e)
  simp [builtin, e2, Builtin.len_, run_underlying ((hT T i ht).slice hs), goInt]) rfl
end
theorem AWp_clearG {P : Program} {tt : TT} (hT : TTok P tt) {B : Bool} {N np : Nat} {Q : Exit → St → Prop} {s : St} {id t0 t5 t36 t37 t38 m T e be : Nat} {i j : TyI} {n l z : Nat} {cs : List DV} {y1 y2 y3 y4 : TypeId} {p1 p2 p3 p4 : String} {a1 a2 a3 a4 : Array Edge}
  (ht : tt T = some i) (hs : i.sh = .sl e) (he : tt e = some j) (hj : j.size = z) (hx : s.regs t0 = .vec m) (hb : s.own m = some ⟨true, z, be, cs⟩) (hcs : cs.length = l * z) (hy : s.regs t5 = .p (.c (.v (.int .i64 (n : Int))))) (hn : n < l) (hz : Nat.blt 0 z = true)
  (hd1 : (!Nat.beq t5 t36) = true) (hd2 : (!Nat.beq t36 t37) = true) (hN : (Nat.blt t36 N && Nat.blt t37 N && Nat.blt t38 N) = true)
  (h : ∀ zs : List DV, zs.length = (l - n) * z → Q .normal ⟨upd (upd (upd s.regs t36 .junk) t37 .junk) t38 .junk, upd s.own m (some ⟨true, z, be, cs.take (n * z) ++ zs⟩)⟩) :
  AWp P B N np (.region id #[⟨some t36, .move (.tmp t0), y1, p1, a1, none⟩, ⟨some t37, .move (.tmp t5), y2, p2, a2, none⟩, ⟨some t38, .slice T (.tmp t36) (some (.tmp t37)) none none, y3, p3, a3, none⟩,
   ⟨none, .call ⟨.builtin .clear, #[.tmp t38], #[T]⟩, y4, p4, a4, none⟩] false) Q s := by
 intro ro hB C hh r a w hnp hc
 have hz1 : 0 < z := by simpa using hz
 simp only [Bool.and_eq_true, Nat.blt_eq] at hN
 obtain ⟨⟨n1, n2⟩, n3⟩ := hN
 have hd1' : t5 ≠ t36 := fun e => by rw [e] at hd1; simp at hd1
 have hd2' : t36 ≠ t37 := fun e => by rw [e] at hd2; simp at hd2
 have hs0 : a.tmps.size = N := hc.sz
 have hu := (hT T i ht).slice hs
 have r0 := hc.rg t0
 have r5 := hc.rg t5
 rw [hx] at r0; rw [hy] at r5
 have v0 : a.eval (.tmp t0) = r m := r0
 have v5 : a.eval (.tmp t5) = .int .i64 (n : Int) := rep_val r5
 have hold := hc.wk.ow m _ hb
 unfold BlkRep at hold
 simp only at hold
 obtain ⟨ad, l', cap, q1, q2, q3, q4, q5⟩ := hold
 have hl : l' = l := Nat.eq_of_mul_eq_mul_right hz1 (q2.trans hcs)
 subst hl
 rcases q5 with q5 | ⟨k', c0, rfl, o2, o3, o4⟩
 ·omega
 apply wpIn_region
 show wpOpsIn (Wd ro) 0 P _ _ [0, 1, 2, 3] a w
 rw [wpOpsIn_cons]
 refine wpOpIn_val (o := ⟨some t36, .move (.tmp t0), y1, p1, a1, none⟩) rfl rfl rfl (x := r m) (w' := w) (by simp only [execOp, v0, Sem.run_pure]) ?_
 rw [wpOpsIn_cons]
 have g1 : (a.put (some t36) (r m)).eval (.tmp t5) = .int .i64 (n : Int) := by
  rw [← v5]; simp [Act.put, Act.eval, hd1'.symm]
 refine wpOpIn_val (o := ⟨some t37, .move (.tmp t5), y2, p2, a2, none⟩) rfl rfl rfl (x := .int .i64 (n : Int)) (w' := w) (by simp only [execOp, g1, Sem.run_pure]) ?_
 rw [wpOpsIn_cons]
 have g2 : ((a.put (some t36) (r m)).put (some t37) (.int .i64 (n : Int))).eval (.tmp t36) = r m := by
  simp [Act.put, Act.eval, hs0, n1, hd2'.symm]
 have g3 : ((a.put (some t36) (r m)).put (some t37) (.int .i64 (n : Int))).eval (.tmp t37) = .int .i64 (n : Int) := by
  simp [Act.put, Act.eval, hs0, n2]
 obtain ⟨q, hq⟩ : ∃ q, l' - n = q + 1 := ⟨l' - n - 1, by omega⟩
 have hel : P.elem T = e := by simp [Program.elem, hu]
 have hu' : P.underlying T = some (.slice (P.elem T)) := by rw [hel]; exact hu
 have hcl : sliced (some ⟨k', 0, none⟩) (n : Int).toNat l' cap j.size = .slice (some ⟨k', n * z, none⟩) (q + 1) (cap - n) := by
  simp only [sliced, Int.toNat_natCast]
  rw [if_neg (by omega), hq, hj]
  simp [Addr.add_lit]
 refine wpOpIn_val (o := ⟨some t38, .slice T (.tmp t36) (some (.tmp t37)) none none, y3, p3, a3, none⟩) rfl rfl rfl (x := .slice (some ⟨k', n * z, none⟩) (q + 1) (cap - n)) (w' := w) (by
  simp only [execOp, g2.trans q1, Option.map_some, Option.map_none, g3, Sem.run_bind, run_sliceAt_slice w T _ _ _ _ hu', run_slice_l w T _ l' cap hu' .i64 (n : Int) (by omega) (by omega), hel, (hT e j he).size, Result.andThen_ok, Sem.run_pure, hcl]) ?_
 rw [wpOpsIn_cons]
 have g4 : (((a.put (some t36) (r m)).put (some t37) (.int .i64 (n : Int))).put (some t38) (.slice (some ⟨k', n * z, none⟩) (q + 1) (cap - n))).eval (.tmp t38) = .slice (some ⟨k', n * z, none⟩) (q + 1) (cap - n) := by
  simp [Act.put, Act.eval, hs0, n3]
 obtain ⟨w', c', k1, k2, k3, k4, k5, k6⟩ := run_clear (T := T) (ty := y4) (q := q) (cap := cap - n) (off := n * z) (h := hh) hu (hT e j he) o2 (by
  rw [hj, o3, ← Nat.add_mul]
  exact Nat.mul_le_mul_right z (by omega))
 rw [hj] at k6
 refine wpOpIn_val (o := ⟨none, .call ⟨.builtin .clear, #[.tmp t38], #[T]⟩, y4, p4, a4, none⟩) rfl rfl rfl (x := .tuple #[]) (w' := w') (by
  apply run_builtin
  simp only [List.map_toArray, List.map_cons, List.map_nil, g4, builtin, Sem.run_bind, k1, Result.andThen_ok, Sem.run_pure]) ?_
 let zs : List DV := (List.range ((q + 1) * z)).map fun p => j.zero.getD (p % z) (.v (.bool false))
 have hzl : zs.length = (q + 1) * z := by simp [zs]
 have hnl : n * z ≤ cs.length := by rw [hcs]; exact Nat.mul_le_mul_right z (by omega)
 show ∃ s' h' r', Q .normal s' ∧ Conc C N h' r' s' _ _
 refine ⟨_, hh, r, h zs (by rw [hzl, hq]), ?_, ?_, ?_, ?_⟩
 ·simp [Act.put]; exact hs0
 ·exact hc.df
 ·have r1 := (show RegsOK hh r s.regs a from hc.rg).put (dst := some t36) (fun d' e => by cases e; omega) (v := .junk) (x := r m) trivial
  have r2 := r1.put (dst := some t37) (fun d' e => by cases e; simp [Act.put]; omega) (v := .junk) (x := .int .i64 (n : Int)) trivial
  exact r2.put (dst := some t38) (fun d' e => by cases e; simp [Act.put]; omega) (v := .junk) (x := .slice (some ⟨k', n * z, none⟩) (q + 1) (cap - n)) trivial
 ·refine hc.wk.write (by rw [hb]; simp) (i := k') (by rw [q1]; simp only [hblk]; rw [if_neg (by omega)]) k2 ?_ (by intro j hj; cases hj)
  unfold BlkRep
  simp only
  have hlen : (cs.take (n * z) ++ zs).length = l' * z := by
   rw [List.length_append, hzl, List.length_take, Nat.min_eq_left hnl, ← hq, ← Nat.add_mul]; congr 1; omega
  refine ⟨_, l', cap, q1, by rw [hlen], q3, q4, .inr ⟨k', c', rfl, k3, by rw [k4, o3], ?_⟩⟩
  rw [DReps.iff]
  intro p dv hp
  have htl : (cs.take (n * z)).length = n * z := by rw [List.length_take, Nat.min_eq_left hnl]
  by_cases hpn : p < n * z
  ·rw [List.getElem?_append_left (by rw [htl]; exact hpn), List.getElem?_take_of_lt hpn] at hp
   rw [k5 p hpn]
   exact o4.get _ _ hp
  ·rw [List.getElem?_append_right (by rw [htl]; omega), htl] at hp
   have hlt := (List.getElem?_eq_some_iff.1 hp).1
   rw [hzl] at hlt
   obtain ⟨y, y1, y2⟩ := k6 (p - n * z) hlt
   have e1 : n * z + (p - n * z) = p := by omega
   rw [e1] at y1
   refine ⟨y, y1, ?_⟩
   simp only [zs, List.getElem?_map, List.getElem?_range hlt, Option.map_some, Option.some.injEq] at hp
   rw [← hp]; exact y2
end Go.AM
end
section
namespace Go.AM
open Go Go.RowKit
theorem TC_one (f : Fm) : (TC f).length = 3 := rfl
def NoN (l : List Fm) : Prop := ∀ i : Nat, i + 1 < l.length → l.getD (i + 1) ⟨0, 0, 0⟩ ≠ l.getD i ⟨0, 0, 0⟩
theorem NoN.of_nodup {l : List Fm} (h : l.Nodup) : NoN l := fun i hi e => by
 have h1 : l.getD (i + 1) ⟨0, 0, 0⟩ = l[i + 1] := by simp [List.getD, hi]
 have h2 : l.getD i ⟨0, 0, 0⟩ = l[i]'(by omega) := by simp [List.getD, show i < l.length by omega]
 rw [h1, h2] at e
 have := (List.getElem_inj h).1 e
 omega
theorem NoN.at {l : List Fm} (h : NoN l) {k : Nat} (h1 : 1 ≤ k) (hk : (k : Int) < l.length) : ¬ l.getD k ⟨0, 0, 0⟩ = l.getD ((k : Int) - 1).toNat ⟨0, 0, 0⟩ := by
 have := h (k - 1) (by omega)
 rw [show k - 1 + 1 = k by omega] at this
 rw [show ((k : Int) - 1).toNat = k - 1 by omega]
 exact this
theorem cpt_two (x : Fm) : cpt [x, x] = [x] := by simp [cpt]
theorem amL_3 : amL 3 = [⟨1, 1, 1⟩, ⟨1, 1, 1⟩] := by decide +kernel
theorem amL_4 : amL 4 = [⟨1, 0, 1⟩, ⟨1, 0, 1⟩] := by decide +kernel
theorem srtM_two {x : Fm} {l : List Fm} (h : l = [x, x]) : srtM l = [x, x] := by
 have hp := srtM_perm l
 rw [h] at hp ⊢
 exact List.perm_replicate.1 (show (srtM [x, x]).Perm (List.replicate 2 x) from hp)
theorem am_cpt {m : Int} (hm : 0 < m ∧ m ≤ 4194304) : (NoN (srtM (amL m)) ∧ cpt (srtM (amL m)) = srtM (amL m)) ∨ ∃ x, srtM (amL m) = [x, x] := by
 by_cases h3 : m = 3
 ·exact .inr ⟨_, srtM_two (by rw [h3]; exact amL_3)⟩
 by_cases h4 : m = 4
 ·exact .inr ⟨_, srtM_two (by rw [h4]; exact amL_4)⟩
 have nd : (srtM (amL m)).Nodup := (srtM_perm _).nodup_iff.2 (amL_nd hm h3 h4)
 exact .inl ⟨.of_nodup nd, cpt_nd nd⟩
theorem amL_len {m : Int} (hm : 0 < m ∧ m ≤ 4194304) : (srtM (amL m)).length ≤ 9000 := by
 rw [(srtM_perm _).length_eq]
 have h := amG_len m (amS m)
 have h2 := fst1_ok (P := fun k => decide (m < ((k : Int) + 1) * ((k : Int) + 1))) (f := 3000) (n := 0) (m := 2048) (by omega) (by omega) (decide_eq_true (by omega))
 have h3 : amS m ≤ 2048 := by have := h2.2; unfold amS; omega
 unfold amL
 omega
theorem cpt_len : ∀ l : List Fm, (cpt l).length ≤ l.length
 | [] => Nat.le_refl _
 | [_] => Nat.le_refl _
 | x :: y :: l => by
  unfold cpt
  have := cpt_len (y :: l)
  split
  ·simp only [List.length_cons] at this ⊢; omega
  ·simp only [List.length_cons] at this ⊢; omega
theorem amA_0 {m d : Int} (h : szE d = 0) (hd : d = -m) : amA d = cpt (srtM (amL m)) := by
 unfold amA; rw [if_pos h, hd, Int.neg_neg]
theorem amA_bd {m : Int} (hm : 0 < m ∧ m ≤ 4194304) {f : Fm} (h : f ∈ cpt (srtM (amL m))) : (0 ≤ f.a ∧ f.a ≤ 4200000) ∧ (0 ≤ f.b ∧ f.b ≤ 4200000) ∧ 0 ≤ f.c ∧ f.c ≤ 4200000 :=
 amL_bd hm ((srtM_perm _).mem_iff.1 ((cpt_mem _).1 h))
theorem zs3_take {x : Fm} {zs : List DV} : (((([x, x] : List Fm).flatMap TC).take (1 * 3) ++ zs).take ((1 : Int).toNat * 3)) = [x].flatMap TC := by
 simp [TC]
end Go.AM
end
section
namespace Go.AM
open Go Go.RowKit
end Go.AM
end
section
namespace Go.AM
open Go Go.RowKit
def ow (o s k : Int) : Int := if k % 2 = 1 then o * s else o
theorem ow_next {o s k : Int} (h : s * s = 1) : ow o s k * s = ow o s (k + 1) := by
 unfold ow
 by_cases hk : k % 2 = 1
 ·rw [if_pos hk, if_neg (by omega), Int.mul_assoc, h, Int.mul_one]
 ·rw [if_neg hk, if_pos (by omega)]
theorem ow_b {o s k : Int} (h : -1 ≤ o ∧ o ≤ 1) (hs : -1 ≤ s ∧ s ≤ 1) : -1 ≤ ow o s k ∧ ow o s k ≤ 1 := by
 unfold ow
 split
 ·rcases (show o = -1 ∨ o = 0 ∨ o = 1 by omega) with rfl | rfl | rfl <;> omega
 ·exact h
theorem ow_k1 {o n k a b : Int} (h : tw a = (b, k)) : ow o (sg8 n) k = k1F o a n := by unfold ow k1F; rw [h]
theorem k2_yes {o n k a b : Int} (h : tw a = (b, k)) (h1 : b % 4 = 3) (h2 : n % 4 = 3) : 0 - ow o (sg8 n) k = k2F (k1F o a n) a n := by
 unfold k2F; rw [ow_k1 h, h, if_pos ⟨h1, h2⟩]; omega
theorem k2_no {o n k a b : Int} (h : tw a = (b, k)) (h1 : ¬ (b % 4 = 3 ∧ n % 4 = 3)) : ow o (sg8 n) k = k2F (k1F o a n) a n := by
 unfold k2F; rw [ow_k1 h, h, if_neg h1]
theorem odd_t {a : Int} (h : a % 2 = 1) : oddB a = true := by unfold oddB; rw [h]; rfl
theorem odd_f {a : Int} (h : a % 2 = 0) : oddB a = false := by unfold oddB; rw [h]; rfl
theorem k1K_odd {a n : Int} (h0 : 0 < n) (ho : n % 2 = 1) : k1K a n = 1 ∧ tw (n.natAbs : Int) = (n, 0) := by
 have e : (n.natAbs : Int) = n := by omega
 have ht : tw n = (n, 0) := tw_odd (odd_t ho)
 refine ⟨?_, by rw [e, ht]⟩
 unfold k1K k0K
 rw [e, ht, if_neg (show ¬ (0 : Int) % 2 = 1 by decide), if_neg (by omega)]
theorem KrI.startO {a n : Int} (h0 : 0 < n) (ho : n % 2 = 1) (ha : L 40 a) (hn : L 40 n) : KrI (RK_ a n) (a % n).natAbs.succ 1 (a % n) n := by
 have h := KrI.start (a := a) (n := n) (by omega) ha hn
 obtain ⟨e1, e2⟩ := k1K_odd (a := a) h0 ho
 rw [e1, e2] at h
 exact h
theorem kr_goO {a n : Int} (_h0 : 0 < n) (ho : n % 2 = 1) : kr a n = if (RK_ a n).2 = 1 then (RK_ a n).1 else 0 := kr_go (by omega) (fun x => by rw [odd_t ho] at x; cases x.2)
theorem KrI.nextO {R : Int × Int} {f : Nat} {k a n b e : Int} (h : KrI R f k a n) (ha : 0 < a) (ht : tw a = (b, e)) : KrI R (f - 1) (k2F (k1F k a n) a n) (n % b) b ∧ (n % b).natAbs < a.natAbs := by
 have := h.next ha
 rw [ht] at this
 exact this
theorem odd_of {a : Int} (h : ¬ a % 2 = 0) : a % 2 = 1 := by omega
theorem two_0 {a : Int} (h : a % 8 % 2 = 0) : (0 : Int) = if a % 2 = 0 then 0 else sg8 a := by rw [if_pos (by omega)]
theorem two_n {a : Int} (_h : ¬ a % 8 % 2 = 0) (h1 : a % 8 = 3 ∨ a % 8 = 5) : (-1 : Int) = if a % 2 = 0 then 0 else sg8 a := by
 rw [if_neg (by omega)]; unfold sg8; repeat' split <;> omega
theorem two_p {a : Int} (h : ¬ a % 8 % 2 = 0) (h1 : ¬ (a % 8 = 3 ∨ a % 8 = 5)) : (1 : Int) = if a % 2 = 0 then 0 else sg8 a := by
 rw [if_neg (by omega)]; unfold sg8; repeat' split <;> omega
theorem cv_kr {c n : Int} (hn : 0 < n) (ho : n % 2 = 1) (hc : c = -4 ∨ c = 8 ∨ c = -8) : kr c n = cv c n := by
 rw [cv_spv hc]
 have h2 : kr 2 n = sg8 n := by
  have hcp := cop_two (n := n) ho
  rw [kr_SS hn ho, if_pos hcp, SS_two hn ho]
 have hm1 : kr (-1) n = if n % 4 = 1 then 1 else -1 := kr_m1 hn ho
 have h4 : kr (-4) n = kr (-1) n * (kr 2 n * kr 2 n) := by rw [← kr_mulA hn ho, ← kr_mulA hn ho]; rfl
 have h8 : kr 8 n = kr 2 n * (kr 2 n * kr 2 n) := by rw [← kr_mulA hn ho, ← kr_mulA hn ho]; rfl
 have h8m : kr (-8) n = kr (-1) n * (kr 2 n * (kr 2 n * kr 2 n)) := by rw [← kr_mulA hn ho, ← kr_mulA hn ho, ← kr_mulA hn ho]; rfl
 have hs : sg8 n * sg8 n = 1 := sg8_sq' ho
 rw [h2, hs] at h4 h8 h8m
 rw [hm1] at h4 h8m
 obtain ⟨r, hr⟩ := emod8 n
 have key : ∀ r : Fin 8, r.val % 2 = 1 → spv (-4) r.val = (if (r.val : Int) % 4 = 1 then 1 else -1) ∧ spv 8 r.val = sg8 r.val ∧ spv (-8) r.val = (if (r.val : Int) % 4 = 1 then 1 else -1) * sg8 r.val := by decide +kernel
 obtain ⟨k1, k2, k3⟩ := key r (by omega)
 have e4 : n % 4 = (r.val : Int) % 4 := by omega
 have e8 : sg8 n = sg8 r.val := by unfold sg8; rw [hr, show ((r.val : Int)) % 8 = (r.val : Int) by have := r.isLt; omega]
 rw [hr]
 rcases hc with rfl | rfl | rfl
 ·rw [h4, k1, e4, Int.mul_one]
 ·rw [h8, k2, e8, Int.mul_one]
 ·rw [h8m, k3, e4, e8, Int.mul_one]
where
 kr_m1 {n : Int} (hn : 0 < n) (ho : n % 2 = 1) : kr (-1) n = if n % 4 = 1 then 1 else -1 := by
  have hc : Cop (-1) n := Cop.of_inv (b := -1) ⟨0, by omega⟩
  rw [kr_SS hn ho, if_pos hc]
  exact SS_m1 hn ho
 SS_m1 {n : Int} (hn : 0 < n) (ho : n % 2 = 1) : SS (-1) n = if n % 4 = 1 then 1 else -1 := by
  have e : sumI ((rg n).map fun x => up n (-1 * x)) = n / 2 := by
   rw [← len_rg n hn]
   refine sumI_congr fun x hx => ?_
   have := (mem_rg hn).1 hx
   have e1 : (-1 * x) % n = n - x := by
    rw [← Int.add_emod_right (-1 * x) n, Int.emod_eq_of_lt (by omega) (by omega)]; omega
   unfold up
   rw [e1, if_neg (by omega)]
  rw [SS_par, e]
  unfold par
  split <;> split <;> omega
end Go.AM
end
section
namespace Go.AM
open Go Go.RowKit
theorem rp_pos {d N : Int} {f : Fm} (hf : Cl d f) (h0 : d < 0) (hN : RpN f N) (cN : Int.gcd N (2 * d) = 1) : 0 < N ∧ N % 2 = 1 := by
 have h1 := rp_nn hf hN h0
 have h2 := gcd_odd cN
 omega
end Go.AM
end
section
namespace Go.AM
open Go Go.RowKit
theorem gp_4' {f : Fm} (h : ck f.a f.b f.c = 0) (h1 : ¬ szE (dsc f.a f.b f.c) = 0) : AV.t [PE 0, PE (szE (dsc f.a f.b f.c))] = .t [PE (gpV f), PE (gpE f)] := by
 have h2 := gp_4 h h1
 have e : gnV (dsc f.a f.b f.c) = 0 := by unfold gnV; rw [if_neg h1]
 rw [e] at h2; exact h2
theorem gp_3' {f : Fm} (h : ck f.a f.b f.c = 0) (h1 : szE (dsc f.a f.b f.c) = 0) (h2 : prim f.a f.b f.c = true) : AV.t [PE (gnV (dsc f.a f.b f.c)), PE 0] = .t [PE (gpV f), PE (gpE f)] := by
 have h3 := gp_3 h h1 h2
 rw [h1] at h3; exact h3
def sA1 (m : Int) : List Int := if m % 4 = 1 ∨ m % 8 = 4 ∨ m % 8 = 0 then [-4] else []
def sA2 (m : Int) : List Int := if m % 8 = 6 ∨ m % 8 = 0 then [8] else []
def sA3 (m : Int) : List Int := if m % 8 = 2 then [-8] else []
theorem sA_sp {d : Int} (h : d.tmod 4 = 0) : sA1 (-d / 4) ++ sA2 (-d / 4) ++ sA3 (-d / 4) = spC d := by
 unfold sA1 sA2 sA3 spC
 rw [if_neg (spC_z h)]
 generalize -d / 4 = m
 have h1 := Int.emod_nonneg m (show (8 : Int) ≠ 0 by omega)
 have h2 := Int.emod_lt_of_pos m (show (0 : Int) < 8 by omega)
 have h4 : m % 4 = m % 8 % 4 := by omega
 rw [h4]
 generalize m % 8 = r at *
 rcases (show r = 0 ∨ r = 1 ∨ r = 2 ∨ r = 3 ∨ r = 4 ∨ r = 5 ∨ r = 6 ∨ r = 7 by omega) with rfl | rfl | rfl | rfl | rfl | rfl | rfl | rfl <;> rfl
theorem sA_all {d : Int} (h : d.tmod 4 = 0) : oddC (rmp (-d) 2) ++ sA1 (-d / 4) ++ sA2 (-d / 4) ++ sA3 (-d / 4) = chs d := by
 unfold chs
 rw [← sA_sp h, List.append_assoc, List.append_assoc, List.append_assoc]
theorem app_if {l m : List Int} {c : Int} (h : m = [c]) : l ++ [c] = l ++ m := by rw [h]
theorem app_no {l m : List Int} (h : m = []) : l = l ++ m := by rw [h, List.append_nil]
def outR (n p : Int) (out : List Int) : List Int := if n % p = 0 then out ++ [p] else out
theorem OcI.stepR {n0 n p : Int} {out : List Int} (i : OcI n0 n p out) (h : p * p ≤ n) : OcI n0 (rmp n p) (p + 2) (outR n p out) := by
 have hp := i.p3
 have h9 : 3 * 3 ≤ p * p := Int.mul_le_mul hp hp (by omega) (by omega)
 unfold outR
 by_cases hd : n % p = 0
 ·rw [if_pos hd]; exact i.take (by omega) (by omega) hd
 ·rw [if_neg hd, rmp_no hd]; exact i.next (by omega) (by omega) hd
theorem OcI.endR {n0 n p : Int} {out : List Int} (i : OcI n0 n p out) (h : ¬ p * p ≤ n) : (if n > 1 then out ++ [n] else out) = oddC n0 := by
 split
 ·next hn => exact (i.last hn (by omega)).fin (by omega)
 ·next hn => exact i.fin hn
section
variable {P : Program} {B : Bool} {N np : Nat} {Q : Exit → St → Prop} {s : St}
theorem AWp_seq_cutR (m d : Nat) {ι : Type} {x y : Code} (I : ι → St) (F : ι → Prop) (hmd : Nat.beq m d = false) (hnp : Nat.ble np d = true)
  (h : AWp P B N np x (AThen (fun s' => ∃ i, F i ∧ (Le s' (I i) ∨ ∃ b, s'.own m = some b ∧ lnk b = [] ∧ Le (rnS m d b s') (I i))) Q) s) (k : ∀ i, F i → AWp P B N np y Q (I i)) : AWp P B N np (.seq x y) Q s := by
 refine AWp_seq (AWp.mono h ?_)
 intro e s' hq
 cases e with
 | normal =>
  obtain ⟨i, hF, hle | ⟨b, h1, h2, hle⟩⟩ := hq
  ·exact AWp_le hle (k i hF)
  ·exact AWp_rn m d h1 hmd hnp (AWp_le hle (k i hF)) h2
 | _ => exact hq
end
def NoS (g : Fm) (d : Int) (s : Int) : Prop := ∀ u v : Int, 0 ≤ u → 0 ≤ v → 1 ≤ u + v → u + v < s → Int.gcd (vl g.a g.b g.c u v) (2 * d) ≠ 1
def NoT (g : Fm) (d : Int) (s x : Int) : Prop := ∀ u : Int, 0 ≤ u → u < x → Int.gcd (vl g.a g.b g.c u (s - u)) (2 * d) ≠ 1
theorem NoS.start {g : Fm} {d : Int} : NoS g d 1 := fun u v _ _ h3 h4 => by omega
theorem NoT.start {g : Fm} {d s : Int} : NoT g d s 0 := fun u h1 h2 => by omega
theorem NoT.next {g : Fm} {d s x : Int} (h : NoT g d s x) (h1 : Int.gcd (vl g.a g.b g.c x (s - x)) (2 * d) ≠ 1) : NoT g d s (x + 1) := fun u g1 g2 => by
 rcases (show u < x ∨ u = x by omega) with q | q
 ·exact h u g1 q
 ·subst q; exact h1
theorem NoS.next {g : Fm} {d s x : Int} (h : NoS g d s) (h1 : NoT g d s x) (hx : ¬ x ≤ s) : NoS g d (s + 1) := fun u v g1 g2 g3 g4 => by
 rcases (show u + v < s ∨ u + v = s by omega) with q | q
 ·exact h u v g1 g2 g3 q
 ·have := h1 u g1 (by omega)
  rwa [show s - u = v by omega] at this
theorem NoS.le {g : Fm} {d s : Int} (h : NoS g d s) (h0 : d < 0) (hx : ∃ x y : Int, 0 ≤ x ∧ x ≤ 1400000 ∧ 0 ≤ y ∧ y ≤ 1400000 ∧ Int.gcd (vl g.a g.b g.c x y) (2 * d) = 1) : s ≤ 2800000 := by
 obtain ⟨x, y, h1, h2, h3, h4, h5⟩ := hx
 rcases Int.lt_or_le 2800000 s with q | q
 ·exfalso
  rcases (show (x = 0 ∧ y = 0) ∨ 1 ≤ x + y by omega) with ⟨rfl, rfl⟩ | z
  ·have e : vl g.a g.b g.c 0 0 = 0 := by unfold vl; simp
   rw [e, Int.gcd_zero_left] at h5
   omega
  ·exact h x y h1 h3 z (by omega) h5
 ·exact q
theorem gcd_t {x y : Int} (h : decide (((Int.gcd x y : Nat) : Int) = 1) = true) : Int.gcd x y = 1 := by
 have := of_decide_eq_true h
 omega
theorem gcd_f {x y : Int} (h : decide (((Int.gcd x y : Nat) : Int) = 1) = false) : Int.gcd x y ≠ 1 := by
 have := of_decide_eq_false h
 omega
theorem gv_pm {f : Fm} (he : gpE f = 0) {x : Int} (hx : x ∈ gvL f) : x = 1 ∨ x = -1 := by
 obtain ⟨hf, hE⟩ := gpE_cl he
 obtain ⟨_, h0, h1⟩ := gnV_0 hE
 obtain ⟨a, b⟩ := gN_ok hf h1 h0
 rw [← gv_map hf h1 h0 hE a b] at hx
 obtain ⟨c, hc, rfl⟩ := List.mem_map.1 hx
 exact cv_pm h0 hc b
theorem gpr_no {f : Fm} (he : gpE f = 0) {k : Nat} (hk : (k : Int) < (gvL f).length) (h : (gvL f).getD k 0 ≠ 1) : false = gpr f := by
 have hm := getD_memI hk
 have hv : (gvL f).getD k 0 = -1 := (gv_pm he hm).resolve_left h
 unfold gpr
 rw [decide_eq_true he, hasI_iff.2 (hv ▸ hm)]; rfl
theorem gpr_yes {f : Fm} (he : gpE f = 0) {k : Nat} (hk : ¬ (k : Int) < (gvL f).length) (h : ∀ j : Nat, j < k → (gvL f).getD j 0 = 1) : true = gpr f := by
 unfold gpr
 rw [decide_eq_true he]
 cases q : hasI (gvL f) (-1) with
 | false => rfl
 | true =>
  exfalso
  obtain ⟨i, hi⟩ := List.mem_iff_getElem?.1 (hasI_iff.1 q)
  obtain ⟨hlt, e⟩ := List.getElem?_eq_some_iff.1 hi
  have := h i (by omega)
  simp [List.getD, hlt, e] at this
theorem gpr_e {f : Fm} (h : ¬ gpE f = 0) : AV.t [PB false, PE (gpE f)] = .t [PB (gpr f), PE (gpE f)] := by unfold gpr; rw [decide_eq_false h]; rfl
theorem two_pow_b {k : Nat} (h : k ≤ 16) : 1 ≤ (2 : Int) ^ k ∧ (2 : Int) ^ k ≤ 65536 := by
 have key : ∀ k : Fin 17, 1 ≤ (2 : Int) ^ k.val ∧ (2 : Int) ^ k.val ≤ 65536 := by decide +kernel
 exact key ⟨k, by omega⟩
end Go.AM
end
section
namespace Go.AM
open Go Go.RowKit
section
variable {f x : Fm} {l : List Fm} {k : Nat}
theorem ins_1 {s : List Fm × Bool} (h : s.2 = false) (h1 : lesF f x = true) : (s.1 ++ [f] ++ [x], true) = insStep f s x := by unfold insStep; rw [if_pos ⟨h, h1⟩]
theorem ins_2 {s : List Fm × Bool} (h1 : lesF f x = false) : (s.1 ++ [x], s.2) = insStep f s x := by unfold insStep; rw [if_neg (by rw [h1]; simp)]
theorem ins_3 {s : List Fm × Bool} (h : s.2 = true) : (s.1 ++ [x], s.2) = insStep f s x := by unfold insStep; rw [if_neg (by rw [h]; simp)]
theorem ins_ni (h : f ∉ l.take k) (hk : (k : Int) < l.length) (hne : ¬ l.getD k ⟨0, 0, 0⟩ = f) : f ∉ l.take (k + 1) := by
 rw [← take_snocF hk, List.mem_append, List.mem_singleton]
 rintro (e | e)
 ·exact h e
 ·exact hne e.symm
end
theorem tdiv_ev {z : Int} (h : z % 2 = 0) : z.tdiv 2 = z / 2 := by
 obtain ⟨w, hw⟩ := Int.dvd_of_emod_eq_zero h
 rw [hw, Int.mul_tdiv_cancel_left _ (by decide), Int.mul_ediv_cancel_left _ (by decide)]
theorem rk_b {m : Int} {k : Nat} (hm : 0 < m ∧ m ≤ 4194304) (h : ((k : Int) + 1) * ((k : Int) + 1) ≤ 2 * m) : k + 1 ≤ 2896 := by
 rcases Nat.lt_or_ge 2896 (k + 1) with q | q
 ·have := Int.mul_le_mul (show (2897 : Int) ≤ (k : Int) + 1 by omega) (show (2897 : Int) ≤ (k : Int) + 1 by omega) (by omega) (by omega)
  omega
 ·exact q
theorem rfS1_len (m k : Int) (l : List Fm) : (rfS1 m k l).length ≤ l.length + 1 := by
 unfold rfS1
 split
 ·exact insR_len _ _
 ·omega
section
variable {m : Int} {k : Nat}
theorem rfS_1 (h : m % ((k : Int) + 1) ≠ 0) : rfG m (k + 1) = rfS1 m ((k : Int) + 1) (rfG m k) := by
 show rfS _ _ _ = _
 unfold rfS; rw [if_pos h]
theorem rfS_2 (h : ¬ m % ((k : Int) + 1) ≠ 0) (h1 : (m / ((k : Int) + 1) + ((k : Int) + 1)) % 4 = 0) : rfG m (k + 1) = insR (insR (rfS1 m ((k : Int) + 1) (rfG m k)) (rs2 m ((k : Int) + 1))) (rs3 m ((k : Int) + 1)) := by
 show rfS _ _ _ = _
 unfold rfS; rw [if_neg h, if_pos h1]
theorem rfS_3 (h : ¬ m % ((k : Int) + 1) ≠ 0) (h1 : ¬ (m / ((k : Int) + 1) + ((k : Int) + 1)) % 4 = 0) : rfG m (k + 1) = rfS1 m ((k : Int) + 1) (rfG m k) := by
 show rfS _ _ _ = _
 unfold rfS; rw [if_neg h, if_neg h1]
end
end Go.AM
end
section
namespace Go.AM
open Go Go.RowKit
abbrev enI (z : Int) : List DV := [zn z, zm z]
theorem enI_len (z : Int) : (enI z).length = 2 := rfl
theorem chE_le (d : Int) : ((chE d).length : Int) ≤ 1000000 := by
 by_cases h : szE d = 0
 ·obtain ⟨_, h2, h3⟩ := gnV_0 h
  rw [chE_0 h]
  have := chs_len (d := d) (by omega) (by omega)
  omega
 ·rw [chE_e h]; decide
theorem amA_le (d : Int) : ((amA d).length : Int) ≤ 1000000000 := by
 by_cases h : szE d = 0
 ·obtain ⟨_, h2, h3⟩ := gnV_0 h
  have h1 : (cpt (srtM (amL (-d)))).length ≤ (srtM (amL (-d))).length := cpt_len _
  have h4 := amL_len (m := -d) ⟨by omega, by omega⟩
  unfold amA
  rw [if_pos h]
  omega
 ·rw [amA_n h]; decide
theorem ds_dec {p q : Int} {ds : List Int} (h : ds = [p, q]) {Q : Int → Prop} (hp : Q p) (hq : Q q) {k : Nat} (hk : (k : Int) < ds.length) : Q (ds.getD k 0) := by
 subst h
 have : k = 0 ∨ k = 1 := by simp at hk; omega
 rcases this with rfl | rfl
 ·exact hp
 ·exact hq
theorem fs_dec {p q r : Fm} {fs : List Fm} (h : fs = [p, q, r]) {Q : Fm → Prop} (hp : Q p) (hq : Q q) (hr : Q r) {k : Nat} (hk : (k : Int) < fs.length) : Q (fs.getD k ⟨0, 0, 0⟩) := by
 subst h
 have : k = 0 ∨ k = 1 ∨ k = 2 := by simp at hk; omega
 rcases this with rfl | rfl | rfl
 ·exact hp
 ·exact hq
 ·exact hr
end Go.AM
end
section
namespace Go.AM
open Go Go.RowKit
def bkL (zs : List Nat) : List (List PV) := (List.range zs.length).map fun (k : Nat) => [.c (.v (.int .i64 ((zs.length : Int) - 1 - (k : Int)))), .c (w32 (zs.getD (zs.length - 1 - k) 0))]
theorem bkL_len (zs : List Nat) : (bkL zs).length = zs.length := by unfold bkL; simp
theorem bkL_at {zs : List Nat} {k : Nat} (h : k < zs.length) : (bkL zs)[k]? = some [.c (.v (.int .i64 ((zs.length : Int) - 1 - (k : Int)))), .c (w32 (zs.getD (zs.length - 1 - k) 0))] := by
 unfold bkL; rw [List.getElem?_map, List.getElem?_range h]; rfl
theorem bkL_get {zs : List Nat} {k : Nat} {x : List PV} (h : (bkL zs)[k]? = some x) : k < zs.length ∧ x = [.c (.v (.int .i64 ((zs.length : Int) - 1 - (k : Int)))), .c (w32 (zs.getD (zs.length - 1 - k) 0))] := by
 have hk : k < zs.length := by have := (List.getElem?_eq_some_iff.1 h).1; rwa [bkL_len] at this
 rw [bkL_at hk] at h
 exact ⟨hk, (Option.some.inj h).symm⟩
theorem bkL_two (zs : List Nat) : ∀ x ∈ bkL zs, x.length = 2 := by
 intro x hx
 unfold bkL at hx
 obtain ⟨k, _, rfl⟩ := List.mem_map.1 hx
 rfl
def lwA (zs : List Nat) (k : Nat) : Nat := wv (zs.drop (zs.length - k))
theorem lwA_0 (zs : List Nat) : lwA zs 0 = 0 := by unfold lwA; rw [Nat.sub_zero, List.drop_length]; rfl
theorem lwA_all (zs : List Nat) : lwA zs zs.length = wv zs := by unfold lwA; rw [Nat.sub_self]; rfl
theorem lwA_next {zs : List Nat} {k : Nat} (h : k < zs.length) : lwA zs (k + 1) = lwA zs k * 4294967296 + zs.getD (zs.length - 1 - k) 0 := by
 unfold lwA
 have hi : zs.length - (k + 1) < zs.length := by omega
 rw [List.drop_eq_getElem_cons hi, show zs.length - (k + 1) + 1 = zs.length - k by omega]
 have e : zs.getD (zs.length - 1 - k) 0 = zs[zs.length - (k + 1)] := by
  rw [List.getD_eq_getElem?_getD, show zs.length - 1 - k = zs.length - (k + 1) by omega, List.getElem?_eq_getElem hi]; rfl
 rw [e]
 show _ + 4294967296 * _ = _
 omega
theorem lwA_b {zs : List Nat} (hok : okW zs) (h2 : zs.length ≤ 2) {k : Nat} (h : k < zs.length) : lwA zs k < 4294967296 := by
 rcases (show k = 0 ∨ k = 1 by omega) with rfl | rfl
 ·rw [lwA_0]; omega
 ·have h0 : 0 < zs.length := by omega
  rw [lwA_next h0, lwA_0]
  have := hok.getD (zs.length - 1 - 0)
  omega
theorem or64 {m x : Nat} (hm : m < 4294967296) (hx : x < 4294967296) : bits .or .u64 ((m * 4294967296 : Nat) : Int) (x : Int) = ((m * 4294967296 + x : Nat) : Int) := by
 rw [bits_or rfl (lt64 (by omega)) (lt64 (by omega)), Nat.mul_comm m, show (4294967296 : Nat) = 2 ^ 32 by rfl, Nat.two_pow_add_eq_or_of_lt (i := 32) (by omega)]
def sw64 (m : Nat) : Int := if m < 9223372036854775808 then m else (m : Int) - 18446744073709551616
theorem wrap64 (z : Int) : IntKind.i64.wrap z = if 9223372036854775808 ≤ z % 18446744073709551616 then z % 18446744073709551616 - 18446744073709551616 else z % 18446744073709551616 := by
 simp [IntKind.wrap, IntKind.signed, IntKind.bits]
theorem sw64_w {m : Nat} (h : m < 18446744073709551616) : IntKind.i64.wrap (m : Int) = sw64 m := by
 rw [wrap64]
 unfold sw64
 split <;> split <;> omega
def yL (x : Int) : Int := if x < 0 then IntKind.i64.wrap (0 - sw64 x.natAbs) else sw64 x.natAbs
theorem yL_neg {x : Int} (h : x < 0) : IntKind.i64.wrap (0 - sw64 x.natAbs) = yL x := by unfold yL; rw [if_pos h]
theorem yL_pos {x : Int} (h : ¬ x < 0) : sw64 x.natAbs = yL x := by unfold yL; rw [if_neg h]
theorem yL_ok {x : Int} (h : x.natAbs < 18446744073709551616) : (lwO x = true ∧ yL x = x) ∨ (lwO x = false ∧ ¬ yL x = 0 ∧ ¬ ((x < 0) ↔ (yL x < 0))) := by
 have hy : yL x = if x < 0 then (if x.natAbs ≤ 9223372036854775808 then x else 18446744073709551616 + x) else (if x < 9223372036854775808 then x else x - 18446744073709551616) := by
  unfold yL
  rw [wrap64]
  unfold sw64
  repeat' split
  all_goals omega
 rw [hy]
 unfold lwO
 by_cases hr : -9223372036854775808 ≤ x ∧ x < 9223372036854775808
 ·refine .inl ⟨decide_eq_true hr, ?_⟩
  repeat' split
  all_goals omega
 ·refine .inr ⟨decide_eq_false hr, ?_⟩
  repeat' split
  all_goals omega
theorem low_bad {x : Int} (h : x.natAbs < 18446744073709551616) (h1 : (decide (x < 0) != decide (yL x < 0)) = true) : AV.t [PE 0, PB false] = .t [PE (lwV x), PB (lwO x)] := by
 rcases yL_ok h with ⟨a, b⟩ | ⟨a, b, c⟩
 ·rw [b] at h1; simp at h1
 ·unfold lwV; rw [a]; rfl
theorem low_good {x : Int} (h : x.natAbs < 18446744073709551616) (h1 : (decide (x < 0) != decide (yL x < 0)) = false) : AV.t [PE (yL x), PB true] = .t [PE (lwV x), PB (lwO x)] := by
 rcases yL_ok h with ⟨a, b⟩ | ⟨a, b, c⟩
 ·unfold lwV; rw [a, b]; rfl
 ·exfalso
  apply c
  rw [bne_eq_false_iff_eq] at h1
  exact decide_eq_decide.1 h1
theorem low_zero0 {x : Int} (h : x.natAbs < 18446744073709551616) (h1 : yL x = 0) : AV.t [PE (yL x), PB true] = .t [PE (lwV x), PB (lwO x)] := by
 rcases yL_ok h with ⟨a, b⟩ | ⟨a, b, c⟩
 ·unfold lwV; rw [a, b]; rfl
 ·exact absurd h1 b
end Go.AM
end
