/- Texts merged by program, in build order. -/
import Derived.Test.YtkdfinfdocdpoaaGreatDoorMF

section
/- Operations with closures, boxes that hold a slice, a listed variable, a small map. -/
namespace Go.AM
open Go Go.RowKit

section ops
variable {P : Program} {tt : TT} (hT : TTok P tt)
variable {dst : Option Nat} {ty : TypeId} {pos : String} {af : Array Edge} {gd : Option (Nat × Bool)} {d : Nat} {ρ : Operand → AV} {own : Own}
variable {T : TypeId} {i : TyI} {x y : Operand}

/-- a closure over data that stays -/
theorem op_makeFunc {f : FuncId} {c : Operand} {xs : List DV} (hx : ρ c = .ip xs) : Eff P ⟨dst, .makeFunc (.func f) #[] #[c], ty, pos, af, gd⟩ d ρ own (.fn f [xs]) [] none [] :=
  Eff.value fun C h r own' a w hrep hrd hw => by
    have e1 := hrep c (by simp [Op.operands])
    rw [hx] at e1
    refine ⟨.func (.func f) #[] #[a.eval c], ?_, #[a.eval c], rfl, e1, trivial⟩
    simp [execOp, Instr.makeFunc]

theorem eval_func {h : Hp} {r : Nat → Value} {f : FuncId} {v : Value} (e : AVRep h r (.p (.c (.v (.func (.func f) #[] #[])))) v) : v = .func (.func f) #[] #[] := by
  simp only [AVRep, PRep, DRep] at e
  exact e.1
/-- a call of a function value that captures nothing -/
theorem Eff.callF {f : FuncId} {c : Operand} {args : Array Operand} {tys : Array TypeId} {res : AV} (hx : ρ c = .p (.c (.v (.func (.func f) #[] #[])))) (hc : Call0 P f (args.toList.map ρ) res) :
    Eff P ⟨dst, .call ⟨.value c, args, tys⟩, ty, pos, af, gd⟩ d ρ own res [] none [] := by
  intro C h r own' a w K Q hrep hrd hw _ hK
  have e1 := hrep c (by simp [Op.operands, Call.operands])
  rw [hx] at e1
  have e2 := eval_func e1
  unfold Oper.wp
  have hrun : (execOp a.eval ⟨dst, .call ⟨.value c, args, tys⟩, ty, pos, af, gd⟩).run P w = .ok (.enter f (args.map a.eval)) w := by
    simp only [execOp, resolve, Sem.run_bind, e2, Deferred.ofValue, Sem.run_pure, Result.andThen_ok, invoke, Array.empty_append, Array.append_empty]
    exact run_callFunc hc.fn _ w
  rw [hrun]
  refine Calls.mono (hc.go h r w (args.map a.eval) ?_ (hw.before fun m hm => absurd rfl hm)) ?_
  · rw [Array.toList_map]
    exact repArgs_map _ fun x hx => hrep x (by simp only [Op.operands, Call.operands]; exact Array.mem_append.2 (.inr (Array.mem_toList_iff.1 hx)))
  · rintro e w' ⟨v, h', rfl, hv, hq⟩
    exact hK v h' r w' hq.hg (fun _ _ => rfl) hv (hw.after (fun m hm => absurd rfl hm) hq (fun m => by simp [nown, applySt]) (fun m b hm => absurd rfl hm))

/-! ### a box that holds a slice -/
include hT in
/-- a box for a slice -/
theorem op_alloc_nil (ht : tt T = some i) (hu : (P.info? T).bind (·.zero) = some (.slice none 0 0)) : Eff P ⟨dst, .alloc T, ty, pos, af, gd⟩ d ρ own (.loc d 0) [] (some ⟨false, 1, T, [.v (.slice none 0 0)]⟩) [] := by
  intro C h r own' a w K Q hrep _ hw hal hK
  obtain ⟨ti, g1, g2, g3, z, g4, g5, g6, g7⟩ := (hT T i ht).info
  have hzz : z = .slice none 0 0 := by
    rw [g1] at hu
    simp only [Option.bind_some, g4, Option.some.injEq] at hu
    exact hu
  subst hzz
  refine alloc_cells (hal (by simp)) hw (x := .pointer (some ⟨w.heap.size, 0, none⟩)) (c := #[.slice none 0 0]) ?_ ?_ ?_ ?_ hK
  · intro k hk; simp [hblk] at hk; exact hk.symm
  · refine ⟨w.heap.size, #[.slice none 0 0], rfl, by rw [heap_alloc, if_pos rfl], rfl, ?_⟩
    simp only [DReps, DRep]
    exact ⟨⟨_, rfl, rfl, rfl⟩, trivial⟩
  · intro h r' hr; exact ⟨w.heap.size, by rw [hr]; rfl, rfl⟩
  · have hz1 : (zeroValue T).run P w = .ok (.slice none 0 0) w := by simp [zeroValue, typeInfo, g1, g4]
    simp only [execOp, Instr.alloc, newVar, newRow, Sem.run_bind, hz1, run_newObj, Result.andThen_ok, Sem.run_pure]; rfl

include hT in
/-- the slice in a box is looked at -/
theorem op_loadNm {m j : Nat} {b : Blk} (ht : tt T = some i) (hg : i.sh.agg = false) (hx : ρ x = .loc m 0) (hb : own m = some b) (hj : lnk b = [j]) :
    Eff P ⟨dst, .load T x, ty, pos, af, gd⟩ d ρ own (.vec j) [] none [m] :=
  Eff.value fun C h r own' a w hrep hrd hw => by
    have e1 := hrep x (by simp [Op.operands])
    rw [hx] at e1
    obtain ⟨k, h1, h2⟩ := e1
    obtain ⟨q, t, h3, h4⟩ := hw.lk m b j ((hrd m (by simp)).trans hb) (by rw [hj]; simp)
    rw [h3] at h1
    simp only [hblk, Option.some.injEq] at h1
    subst h1
    refine ⟨r j, ?_, rfl⟩
    have hc : w.cell? ⟨q, 0, none⟩ = some (r j) := by simp [World.cell?, h4]
    simp only [execOp, h2, Sem.run_bind, loadAt_ptr, loadVar, (hT T i ht).isAgg, hg, Result.andThen_ok, Bool.false_eq_true, if_false, run_load, hc, Sem.run_pure]

include hT in
/-- a slice of the call's own is put into a box -/
theorem op_storeNm {m j n z : Nat} {e : TypeId} {dv : DV} {b : Blk} (ht : tt T = some i) (hsz : i.size = 1) (hx : ρ x = .loc m 0) (hy : ρ y = .vec j) (hb : own m = some ⟨false, z, e, [dv]⟩) (hbj : own j = some b) (hbv : b.vec = true) (hn : n * b.sz = b.cs.length) (hs0 : 0 < b.sz) :
    Eff P ⟨none, .store T x y, ty, pos, af, gd⟩ d ρ own .junk [(m, some ⟨false, j + 2, e, [.sl n []]⟩)] none [m, j] := by
  intro C h r own' a w K Q hrep hrd hw _ hK
  have hb' := (hrd m (by simp)).trans hb
  have hj' := (hrd j (by simp)).trans hbj
  have e1 := hrep x (by simp [Op.operands])
  have e2 := hrep y (by simp [Op.operands])
  rw [hx] at e1; rw [hy] at e2
  obtain ⟨k, h1, h2, c, h3, h4, h5⟩ := own_reads hw hb' e1
  have e2' : a.eval y = r j := e2
  have hbr := hw.ow j b hj'
  unfold BlkRep at hbr
  rw [hbv] at hbr
  obtain ⟨ad, l, cap, q1, q2, q3, q4, q5⟩ := hbr
  have hl : l = n := Nat.eq_of_mul_eq_mul_right hs0 (q2.trans hn.symm)
  subst hl
  have hcells : (a.eval y).cells = #[r j] := by rw [e2', q1]; rfl
  have hone : (r j).oneCell' = true := by rw [q1]; rfl
  have hbx := hw.ow m _ hb'
  unfold BlkRep at hbx
  simp only at hbx
  obtain ⟨k0, c0, p1, p2, p3, p4⟩ := hbx
  rw [p1] at h2; simp only [hblk, Option.some.injEq] at h2; subst h2
  rw [p2] at h3
  have hcc : c0 = c := by simpa using h3
  subst hcc
  have hsize : c0.size = 1 := p3
  obtain ⟨w', c', k1, k2, k3, k4, k5⟩ := run_storeCells_block P k0 e [r j] 0 0 w c0 p2 (by simp; omega) (by simpa using hone)
  have hc' : c' = #[r j] := by
    have h0 := k5 0
    simp at h0
    apply Array.ext (by simp; omega)
    intro q hq1 hq2
    have : q = 0 := by omega
    subst this
    rw [Array.getElem?_eq_getElem (by omega)] at h0
    simpa using h0
  have hrun : (execOp a.eval ⟨none, .store T x y, ty, pos, af, gd⟩).run P w = .ok .skip w' := by
    have hs : ¬ ((a.eval y).cells.size ≠ i.size) := by rw [hcells, hsz]; simp
    simp only [execOp, h1, Instr.storeAt, Instr.sureAddr, storeVar, Sem.run_bind, Sem.run_pure, (hT T i ht).size, Result.andThen_ok, hs, if_false]
    rw [hcells]
    simp only [Result.andThen_ok, k1]
  unfold Oper.wp
  rw [hrun]
  refine hK undef h r w' (.refl _) (fun _ _ => rfl) trivial (hw.write (by rw [hb']; simp) (by rw [p1]; rfl) k2 (b := ⟨false, j + 2, e, [.sl l []]⟩) ?_ ?_)
  · refine ⟨k0, c', p1, k3, by rw [hc']; rfl, ?_⟩
    rw [hc']
    simp only [DReps, DRep]
    exact ⟨⟨r j, rfl, ad, cap, q1, q3, q4, .inl trivial⟩, trivial⟩
  · intro j' hj
    have : j' = j := by simpa [lnk] using hj
    subst this
    exact ⟨k0, e, p1, by rw [k3, hc']⟩

/-! ### a listed package-level variable -/
include hT in
theorem op_index_glob {g e l : Nat} {vs : List Value} {j : TyI} {k : IntKind} {n : Int} (ht : tt T = some i) (hs : i.sh = .ar l e) (he : tt e = some j) (hj : j.size = 1) (hgl : (g, vs) ∈ glist) (hone : (vs.all Value.oneCell') = true) (hy : ρ y = .p (.c (.v (.int k n)))) (hn : 0 ≤ n ∧ n < l) :
    Eff P ⟨dst, .indexAddr T (.global g) y, ty, pos, af, gd⟩ d ρ own (.ip ((vs.drop n.toNat).map .v)) [] none [] :=
  Eff.value fun C h r own' a w hrep hrd hw => by
    have e2 := hrep y (by simp [Op.operands])
    rw [hy] at e2
    obtain ⟨c, t, fr, h1, h2⟩ := hw.gl _ hgl
    refine ⟨.pointer (some ⟨g, 0 + n.toNat * j.size, none⟩), ?_, g, _, c, t, fr, rfl, h1, ?_⟩
    · have hu := (hT T i ht).array hs
      have hgv : a.eval (.global g) = .pointer (some ⟨g, 0, none⟩) := rfl
      simp only [execOp, hgv, rep_val e2, Instr.indexAt, asIntOf, Sem.run_bind, Sem.run_pure, Result.andThen_ok, run_underlying hu, Instr.sureAddr, hn, and_self, if_true, (hT e j he).size, Addr.add_lit]
    · rw [DReps.iff]
      intro p dv hp
      rw [List.getElem?_map, List.getElem?_drop] at hp
      cases hv : vs[n.toNat + p]? with
      | none => rw [hv] at hp; cases hp
      | some v =>
        rw [hv] at hp
        cases hp
        refine ⟨v, ?_, ?_⟩
        · have e3 : 0 + n.toNat * j.size + p = n.toNat + p := by rw [hj]; omega
          show c[0 + n.toNat * j.size + p]? = some v
          rw [e3]; exact h2 _ _ hv
        · simp only [DRep, true_and]
          exact List.all_eq_true.1 hone v (List.mem_of_getElem? hv)

/-! ### a map of two numbers -/
def MapR (k1 v1 k2 v2 : Int) : Hp → Value → Prop := fun h x => ∃ b, x = .map (some b) ∧ h b = some (.map #[⟨.int .i64 k1, .int .i64 v1, 0⟩, ⟨.int .i64 k2, .int .i64 v2, 1⟩] 2)
theorem op_lookup2 {k1 v1 k2 v2 n u : Int} {ok : Bool} {K E : TypeId} (hu : P.underlying T = some (.map K E)) (hK : P.underlying K = some (.int .i64)) (hE : ∀ w, (zeroValue E).run P w = .ok (.int .i64 0) w)
    (hx : ρ x = .ax (MapR k1 v1 k2 v2)) (hy : ρ y = .p (.c (.v (.int .i64 n)))) (hr : (if n = k1 then (v1, true) else if n = k2 then (v2, true) else (0, false)) = (u, ok)) :
    Eff P ⟨dst, .lookup T x y true, ty, pos, af, gd⟩ d ρ own (.t [.c (.v (.int .i64 u)), .c (.v (.bool ok))]) [] none [] :=
  Eff.value fun C h r own' a w hrep hrd hw => by
    have e1 := hrep x (by simp [Op.operands])
    have e2 := hrep y (by simp [Op.operands])
    rw [hx] at e1; rw [hy] at e2
    obtain ⟨b, h1, h2⟩ := e1 h (fun _ _ _ e => e)
    have h3 := hw.hi _ _ h2
    refine ⟨.tuple #[.int .i64 u, .bool ok], ?_, [.int .i64 u, .bool ok], rfl, ?_⟩
    · have hfind : ∀ w2 : World, (Instr.findKey K (.int .i64 n) [⟨.int .i64 k1, .int .i64 v1, 0⟩, ⟨.int .i64 k2, .int .i64 v2, 1⟩]).run P w2 = .ok (if n = k1 then some (0, .int .i64 v1) else if n = k2 then some (1, .int .i64 v2) else none) w2 := by
        intro w2
        simp only [Instr.findKey, Sem.run_bind, run_underlying hK, Result.andThen_ok, Instr.findNow, Instr.sameNow, if_true]
        by_cases c1 : n = k1
        · simp [c1]
        · have b1 : (n == k1) = false := by simpa using c1
          by_cases c2 : n = k2
          · have b2 : (n == k2) = true := by simpa using c2
            rw [b1, b2, if_neg c1, if_pos c2]; simp
          · have b2 : (n == k2) = false := by simpa using c2
            rw [b1, b2, if_neg c1, if_neg c2]; simp
      have hck : ∀ (e : Bool) (w2 : World), (Instr.checkKey e 10000 K (.int .i64 n)).run P w2 = .ok () w2 := fun e w2 => by
        unfold Instr.checkKey
        simp [Sem.run_bind, run_underlying hK]
      have hgo : (getObj b).run P w = .ok (.map #[⟨.int .i64 k1, .int .i64 v1, 0⟩, ⟨.int .i64 k2, .int .i64 v2, 1⟩] 2) w := by simp [getObj, Sem.run, h3]
      have hf := hfind w
      by_cases c1 : n = k1
      · rw [if_pos c1] at hr hf; cases hr
        simp [execOp, Instr.lookup, h1, rep_val e2, Sem.run_bind, run_underlying hu, hgo, hck, hf]
      · rw [if_neg c1] at hr hf
        by_cases c2 : n = k2
        · rw [if_pos c2] at hr hf; cases hr
          simp [execOp, Instr.lookup, h1, rep_val e2, Sem.run_bind, run_underlying hu, hgo, hck, hf]
        · rw [if_neg c2] at hr hf; cases hr
          simp [execOp, Instr.lookup, h1, rep_val e2, Sem.run_bind, run_underlying hu, hgo, hck, hf, hE]
    · simp only [PReps, PRep, DRep]
      exact ⟨⟨trivial, rfl⟩, ⟨trivial, rfl⟩, trivial⟩
end ops

/-! ### ghost steps -/
section ghost
variable {P : Program} {B : Bool} {N np : Nat} {Q : Exit → St → Prop} {s : St} {c : Code}
/-- a box is not written any more -/
theorem AWp_freezeBox {t m z : Nat} {e : TypeId} {cs : List DV} (ht : s.regs t = .loc m 0) (hb : s.own m = some ⟨false, z, e, cs⟩) (h : AWp P B N np c Q ⟨upd s.regs t (.ip cs), upd s.own m none⟩) : AWp P B N np c Q s := by
  intro ro hB C hh r a w hn hc
  have hold := hc.wk.ow m _ hb
  unfold BlkRep at hold
  simp only at hold
  obtain ⟨k, cc, q1, q2, q3, q4⟩ := hold
  obtain ⟨f1, f2⟩ := hc.wk.freeze (m := m) (i := k) (by rw [hb]; simp) (by rw [q1]; rfl) q2
  refine h ro hB C _ r a w hn ⟨hc.sz, hc.df.mono f2, fun t' => ?_, f1⟩
  show AVRep _ _ (upd s.regs t _ t') _
  by_cases e' : t' = t
  · subst e'
    rw [upd_same]
    have hx := hc.rg t'
    rw [ht] at hx
    obtain ⟨k', g1, g2⟩ := hx
    rw [q1] at g1; simp only [hblk, Option.some.injEq] at g1; subst g1
    exact ⟨k, 0, cc, e, (0, 0), g2, if_pos rfl, by simpa using DReps.mono f2 _ _ q4⟩
  · rw [upd_ne _ _ _ _ e']; exact AVRep.mono f2 _ _ (hc.rg t')

/-- a box's slice gets another name -/
theorem WOK.relink {C : Ctx} {h : Hp} {r : Nat → Value} {own : Own} {w : World} (k : WOK C h r own w) {m z j n : Nat} {e : TypeId} {cs : List DV} (hb : own m = some ⟨false, z, e, cs⟩) (hc : ∃ q t, r m = .pointer (some ⟨q, 0, none⟩) ∧ w.heap[q]? = some (.cells #[r j] t (0, 0)))
    (hr : DReps h [DV.sl n []] fun i => (#[r j])[i]?) : WOK C h r (upd own m (some ⟨false, j + 2, e, [.sl n []]⟩)) w := by
  have live : ∀ p, upd own m (some ⟨false, j + 2, e, [.sl n []]⟩) p ≠ none → own p ≠ none := fun p hp => by
    by_cases h1 : p = m
    · subst h1; rw [hb]; simp
    · rwa [upd_ne _ _ _ _ h1] at hp
  refine ⟨fun p b hp => ?_, fun p q i hp hq => k.inj p q i (live p hp) (live q hq), k.hi, fun p i hp => k.ho p i (live p hp), k.os, k.tape, k.output, k.size, k.old, fun p i hp => k.fo p i (live p hp), k.hg, k.hn, k.gl, k.kp, fun p b j' hp hj => ?_⟩
  · by_cases h1 : p = m
    · subst h1; rw [upd_same] at hp; cases hp
      have hold := k.ow p _ hb
      unfold BlkRep at hold ⊢
      simp only at hold ⊢
      obtain ⟨k0, c0, p1, p2, p3, p4⟩ := hold
      obtain ⟨q, t, g1, g2⟩ := hc
      rw [p1] at g1
      have : k0 = q := by simpa using g1
      subst this
      rw [p2] at g2
      have e2 : c0 = #[r j] := by simp only [Option.some.injEq, Obj.cells.injEq] at g2; exact g2.1
      subst e2
      exact ⟨k0, _, p1, p2, rfl, hr⟩
    · rw [upd_ne _ _ _ _ h1] at hp; exact k.ow p b hp
  · by_cases h1 : p = m
    · subst h1; rw [upd_same] at hp; cases hp
      have : j' = j := by simpa [lnk] using hj
      subst this
      exact hc
    · rw [upd_ne _ _ _ _ h1] at hp; exact k.lk p b j' hp hj

/-- a new name for the slice that a box does not yet hold: none -/
theorem WOK.newNil {C : Ctx} {h : Hp} {r : Nat → Value} {own : Own} {w : World} (k : WOK C h r own w) {j sz : Nat} {be : TypeId} (hd : own j = none) (hp : C.np ≤ j) (hl : ∀ m b, own m = some b → j ∉ lnk b) : WOK C h (upd r j (.slice none 0 0)) (upd own j (some ⟨true, sz, be, []⟩)) w := by
  have live : ∀ n, n ≠ j → upd own j (some (⟨true, sz, be, []⟩ : Blk)) n ≠ none → own n ≠ none := fun n h1 hn => by rwa [upd_ne _ _ _ _ h1] at hn
  have nb : ∀ i, hblk (upd r j (.slice none 0 0) j) = some i → False := fun i e => by rw [upd_same] at e; cases e
  refine ⟨fun m b e => ?_, fun m n i hm hn e f => ?_, k.hi, fun m i hm e => ?_, k.os, k.tape, k.output, k.size, k.old, fun m i hm e => ?_, k.hg, k.hn, k.gl, fun m hm => ?_, fun m b j' e hj => ?_⟩
  · by_cases h1 : m = j
    · subst h1; rw [upd_same] at e ⊢; cases e
      exact ⟨none, 0, 0, rfl, by simp, by omega, by omega, .inl rfl⟩
    · rw [upd_ne _ _ _ _ h1] at e ⊢; exact k.ow m b e
  · by_cases h1 : m = j
    · subst h1; exact (nb i e).elim
    · by_cases h2 : n = j
      · subst h2; exact (nb i f).elim
      · rw [upd_ne _ _ _ _ h1] at e; rw [upd_ne _ _ _ _ h2] at f
        exact k.inj m n i (live m h1 hm) (live n h2 hn) e f
  · by_cases h1 : m = j
    · subst h1; exact (nb i e).elim
    · rw [upd_ne _ _ _ _ h1] at e; exact k.ho m i (live m h1 hm) e
  · by_cases h1 : m = j
    · subst h1; exact (nb i e).elim
    · rw [upd_ne _ _ _ _ h1] at e; exact k.fo m i (live m h1 hm) e
  · rw [upd_ne _ _ _ _ (by omega)]; exact k.kp m hm
  · by_cases h1 : m = j
    · subst h1; rw [upd_same] at e; cases e; simp [lnk] at hj
    · rw [upd_ne _ _ _ _ h1] at e
      have hjj : j' ≠ j := fun x => hl m b e (x ▸ hj)
      rw [upd_ne _ _ _ _ h1, upd_ne _ _ _ _ hjj]
      exact k.lk m b j' e hj

def linkS (m j sz : Nat) (be e : TypeId) (s : St) : St := ⟨(kill [j] s).regs, upd (upd (kill [j] s).own j (some ⟨true, sz, be, []⟩)) m (some ⟨false, j + 2, e, [.sl 0 []]⟩)⟩
/-- a box that holds no slice yet is a box that holds the slice j -/
theorem AWp_mkLink (m j sz : Nat) (be : TypeId) {z : Nat} {e : TypeId} (hb : s.own m = some ⟨false, z, e, [.v (.slice none 0 0)]⟩) (hz : Nat.blt z 2 = true) (hj : Nat.beq m j = false) (hp : Nat.ble np j = true) (h : AWp P B N np c Q (linkS m j sz be e s)) : AWp P B N np c Q s := by
  have hne : m ≠ j := fun e => by rw [e, Nat.beq_refl] at hj; cases hj
  intro ro hB C hh r a w hn hc
  have hk := kill_conc [j] hc
  have hm : (kill [j] s).own m = some ⟨false, z, e, [.v (.slice none 0 0)]⟩ := by
    show (bif [j].contains m then none else killO [j] (s.own m)) = _
    have : [j].contains m = false := by simp; exact hne
    rw [this, hb]
    have hl : lnk ⟨false, z, e, [.v (.slice none 0 0)]⟩ = [] := by
      match z, hz with
      | 0, _ => rfl
      | 1, _ => rfl
    show some (killB [j] _) = _
    unfold killB; rw [hl]; rfl
  have hw := hk.wk.newNil (j := j) (sz := sz) (be := be) (kill_own [j] s j (by simp)) (by rw [hn.1]; exact Nat.le_of_ble_eq_true hp) (kill_lnk [j] s j (by simp))
  have hold := hk.wk.ow m _ hm
  unfold BlkRep at hold
  simp only at hold
  obtain ⟨k0, c0, p1, p2, p3, p4⟩ := hold
  have hc0 : c0 = #[.slice none 0 0] := by
    simp only [DReps, DRep] at p4
    obtain ⟨⟨y, g1, g2⟩, _⟩ := p4
    apply Array.ext (by simpa using p3)
    intro q hq1 hq2
    have : q = 0 := by have : q < 1 := hq2; omega
    subst this
    rw [Array.getElem?_eq_getElem (by simpa using hq1)] at g1
    simp at g1
    rw [g1, g2.1]; rfl
  subst hc0
  have hw2 := hw.relink (m := m) (z := z) (j := j) (n := 0) (e := e) (cs := [.v (.slice none 0 0)]) (by rw [upd_ne _ _ _ _ hne]; exact hm) ⟨k0, e, by rw [upd_ne _ _ _ _ hne]; exact p1, by rw [upd_same]; exact p2⟩ (by
    rw [upd_same]
    simp only [DReps, DRep]
    exact ⟨⟨_, rfl, none, 0, rfl, by omega, by omega, .inl trivial⟩, trivial⟩)
  refine h ro hB C hh (upd r j (.slice none 0 0)) a w hn ⟨hk.sz, hk.df, fun t => ?_, hw2⟩
  exact AVRep.rebind _ _ (fun n hn' => upd_ne _ _ _ _ (fun x => kill_men [j] s j (by simp) t (x ▸ hn'))) (hk.rg t)

def rnLS (m j d n : Nat) (e : TypeId) (b : Blk) (s : St) : St := ⟨fun t => renV (fun k => bif Nat.beq k j then d else k) ((kill [d] s).regs t), upd (upd (upd (kill [d] s).own j none) d (some b)) m (some ⟨false, d + 2, e, [.sl n []]⟩)⟩
/-- a box's slice under another name -/
theorem AWp_rnL (m j d n : Nat) {e : TypeId} {cs : List DV} {b : Blk} (hm : s.own m = some ⟨false, j + 2, e, cs⟩) (hb : s.own j = some b) (hbv : b.vec = true) (hn : n * b.sz = b.cs.length) (hs0 : 0 < b.sz) (hmj : Nat.beq m j = false) (hmd : Nat.beq m d = false) (hjd : Nat.beq j d = false) (hp : Nat.ble np d = true) (h : AWp P B N np c Q (rnLS m j d n e b s)) : AWp P B N np c Q s := by
  have neq : ∀ {x y : Nat}, Nat.beq x y = false → x ≠ y := fun h e => by rw [e, Nat.beq_refl] at h; cases h
  have h1 := neq hmj; have h2 := neq hmd; have h3 := neq hjd
  intro ro hB C hh r a w hn' hc
  have hk := kill_conc [d] hc
  have hmen := kill_men [d] s d (by simp)
  have kown : ∀ p, p ≠ d → (kill [d] s).own p = killO [d] (s.own p) := fun p hpd => by
    show (bif [d].contains p then none else killO [d] (s.own p)) = _
    have : [d].contains p = false := by simp; exact hpd
    rw [this]; rfl
  have hm' : (kill [d] s).own m = some ⟨false, j + 2, e, cs⟩ := by
    rw [kown m h2, hm]
    show some (killB [d] _) = _
    have hl : lnk ⟨false, j + 2, e, cs⟩ = [j] := rfl
    unfold killB
    rw [hl]
    have : ([j].any [d].contains) = false := by simp; exact h3
    rw [this]; rfl
  have hb' : (kill [d] s).own j = some b := by
    rw [kown j h3, hb]
    show some (killB [d] b) = _
    unfold killB; rw [lnk_vec hbv]; rfl
  have hbr := hk.wk.ow j b hb'
  have hw := hk.wk.rename (m := j) (d := d) (v := r j) (b := b) (by rw [hb']; simp) (kill_own [d] s d (by simp)) (by rw [hn'.1]; exact Nat.le_of_ble_eq_true hp) (fun _ e => e) hbr (kill_lnk [d] s d (by simp)) (lnk_vec hbv)
  have hown : upd (upd (kill [d] s).own j none) d (some b) m = some ⟨false, j + 2, e, cs⟩ := by rw [upd_ne _ _ _ _ h2, upd_ne _ _ _ _ h1]; exact hm'
  obtain ⟨q, t, g1, g2⟩ := hk.wk.lk m _ j hm' (by simp [lnk])
  have hbr2 := hbr
  unfold BlkRep at hbr2
  rw [hbv] at hbr2
  obtain ⟨ad, l, cap, q1, q2, q3, q4, _⟩ := hbr2
  have hl : l = n := Nat.eq_of_mul_eq_mul_right hs0 (q2.trans hn.symm)
  subst hl
  have hw2 := hw.relink (m := m) (z := j + 2) (j := d) (n := l) (e := e) (cs := cs) hown ⟨q, t, by rw [upd_ne _ _ _ _ h2]; exact g1, by rw [upd_same]; exact g2⟩ (by
    rw [upd_same]
    simp only [DReps, DRep]
    exact ⟨⟨_, rfl, ad, cap, q1, q3, q4, .inl trivial⟩, trivial⟩)
  refine h ro hB C hh (upd r d (r j)) a w hn' ⟨hk.sz, hk.df, fun t => ?_, hw2⟩
  have hr := hk.rg t
  have hmt := hmen t
  show AVRep hh (upd r d (r j)) (renV (fun k => bif Nat.beq k j then d else k) ((kill [d] s).regs t)) _
  generalize (kill [d] s).regs t = v at hr hmt
  have key : ∀ k, d ≠ k → upd r d (r j) (bif Nat.beq k j then d else k) = r k := fun k hk => by
    cases e : Nat.beq k j with
    | true => rw [Nat.eq_of_beq_eq_true e]; simp
    | false => simp only [cond_false]; rw [upd_ne _ _ _ _ (fun x => hk x.symm)]
  cases v with
  | loc k o =>
    obtain ⟨q, h1, h2⟩ := hr
    exact ⟨q, by rw [key k (by simpa [men] using hmt)]; exact h1, h2⟩
  | vec k =>
    show _ = upd r d (r j) _
    rw [key k (by simpa [men] using hmt)]; exact hr
  | p v => exact hr
  | t vs => exact hr
  | ip xs => exact hr
  | fn f caps => exact hr
  | ax R => exact hr
  | junk => exact hr
end ghost

/-- a box's slice under another name, at a round's end -/
theorem GW.rnL {np' : Nat} {o o' : Own} (m j d n : Nat) {e : TypeId} {cs : List DV} {b : Blk} (hm : o m = some ⟨false, j + 2, e, cs⟩) (hb : o j = some b) (hbv : b.vec = true) (hn : n * b.sz = b.cs.length) (hs0 : 0 < b.sz) (hmj : Nat.beq m j = false) (hmd : Nat.beq m d = false) (hjd : Nat.beq j d = false) (hp : Nat.ble np' d = true)
    (hfin : ∀ x, o' x = (upd (upd (upd (kill [d] ⟨fun _ => .junk, o⟩).own j none) d (some b)) m (some ⟨false, d + 2, e, [.sl n []]⟩)) x ∨ o' x = none) : GW np' o o' := by
  have neq : ∀ {x y : Nat}, Nat.beq x y = false → x ≠ y := fun h e => by rw [e, Nat.beq_refl] at h; cases h
  have h1 := neq hmj; have h2 := neq hmd; have h3 := neq hjd
  intro C hh r w hnp hk0
  have hdp := Nat.le_of_ble_eq_true hp
  have hk : WOK C hh r (kill [d] ⟨fun _ => .junk, o⟩).own w := hk0.killed (A := [d]) fun x => by
    show (bif [d].contains x then none else killO [d] (o x)) = _ ∨ (bif [d].contains x then none else killO [d] (o x)) = none
    cases [d].contains x with
    | true => exact .inr rfl
    | false => exact .inl rfl
  have kown : ∀ p, p ≠ d → (kill [d] ⟨fun _ => .junk, o⟩).own p = killO [d] (o p) := fun p hpd => by
    show (bif [d].contains p then none else killO [d] (o p)) = _
    have : [d].contains p = false := by simp; exact hpd
    rw [this]; rfl
  have hm' : (kill [d] ⟨fun _ => .junk, o⟩).own m = some ⟨false, j + 2, e, cs⟩ := by
    rw [kown m h2, hm]
    show some (killB [d] _) = _
    have hl : lnk ⟨false, j + 2, e, cs⟩ = [j] := rfl
    unfold killB
    rw [hl]
    have : ([j].any [d].contains) = false := by simp; exact h3
    rw [this]; rfl
  have hb' : (kill [d] ⟨fun _ => .junk, o⟩).own j = some b := by
    rw [kown j h3, hb]
    show some (killB [d] b) = _
    unfold killB; rw [lnk_vec hbv]; rfl
  have hbr := hk.ow j b hb'
  have hw := hk.rename (m := j) (d := d) (v := r j) (b := b) (by rw [hb']; simp) (kill_own [d] _ d (by simp)) (Nat.le_trans hnp hdp) (fun _ e => e) hbr (kill_lnk [d] _ d (by simp)) (lnk_vec hbv)
  have hown : upd (upd (kill [d] ⟨fun _ => .junk, o⟩).own j none) d (some b) m = some ⟨false, j + 2, e, cs⟩ := by rw [upd_ne _ _ _ _ h2, upd_ne _ _ _ _ h1]; exact hm'
  obtain ⟨q, t, g1, g2⟩ := hk.lk m _ j hm' (by simp [lnk])
  have hbr2 := hbr
  unfold BlkRep at hbr2
  rw [hbv] at hbr2
  obtain ⟨ad, l, cap, q1, q2, q3, q4, _⟩ := hbr2
  have hl : l = n := Nat.eq_of_mul_eq_mul_right hs0 (q2.trans hn.symm)
  subst hl
  have hw2 := hw.relink (m := m) (z := j + 2) (j := d) (n := l) (e := e) (cs := cs) hown ⟨q, t, by rw [upd_ne _ _ _ _ h2]; exact g1, by rw [upd_same]; exact g2⟩ (by
    rw [upd_same]
    simp only [DReps, DRep]
    exact ⟨⟨_, rfl, ad, cap, q1, q3, q4, .inl trivial⟩, trivial⟩)
  refine ⟨upd r d (r j), fun x hx => upd_ne _ _ _ _ (by omega), hw2.forget hfin, fun x i hx hi => ?_⟩
  have hx2 : upd (upd (upd (kill [d] ⟨fun _ => .junk, o⟩).own j none) d (some b)) m (some ⟨false, d + 2, e, [.sl l []]⟩) x ≠ none := by
    rcases hfin x with g | g
    · rw [← g]; exact hx
    · exact absurd g hx
  by_cases e1 : x = d
  · subst e1; rw [upd_same] at hi; exact ⟨j, by rw [hb]; simp, hi⟩
  · rw [upd_ne _ _ _ _ e1] at hi
    refine ⟨x, ?_, hi⟩
    by_cases e2 : x = m
    · subst e2; rw [hm]; simp
    · rw [upd_ne _ _ _ _ e2, upd_ne _ _ _ _ e1] at hx2
      by_cases e3 : x = j
      · subst e3; rw [hb]; simp
      · rw [upd_ne _ _ _ _ e3, kown x e1] at hx2
        intro e4; rw [e4] at hx2; exact hx2 rfl
end Go.AM
end

section
/- A region that makes a map of two numbers. -/
namespace Go.AM
open Go Go.RowKit

section
variable {P : Program} {ro : Option Nat} {ops : Array Oper} {Q : Exit → Act → World → Prop} {K : Act → World → Prop} {a : Act} {w w' : World} {i : Nat} {o : Oper}
theorem wpOpIn_val {x : Value} (ho : ops[i]? = some o) (hg : o.guard = none) (hd : noDefer o = true) (hrun : (execOp a.eval o).run P w = .ok (.value x) w') (hK : K (a.put o.dst x) w') : wpOpIn (Wd ro) 0 P ops Q i K a w := by
  unfold wpOpIn
  have hw : Region.wanted o (yielded ops a.tmps) = true := by unfold Region.wanted; rw [hg]
  simp only [ho]
  rw [if_pos hw]
  refine ⟨fun _ _ => trivial, ?_⟩
  rw [Oper.semAt_eq _ _ _ (noDefer_ne hd), hrun]
  exact hK
theorem wpOpIn_skip (ho : ops[i]? = some o) (hg : o.guard = none) (hd : noDefer o = true) (hrun : (execOp a.eval o).run P w = .ok .skip w') (hK : K (a.put o.dst undef) w') : wpOpIn (Wd ro) 0 P ops Q i K a w := by
  unfold wpOpIn
  have hw : Region.wanted o (yielded ops a.tmps) = true := by unfold Region.wanted; rw [hg]
  simp only [ho]
  rw [if_pos hw]
  refine ⟨fun _ _ => trivial, ?_⟩
  rw [Oper.semAt_eq _ _ _ (noDefer_ne hd), hrun]
  exact hK
end

theorem alloc_put (w : World) (o o' : Obj) : (w.alloc o).putObj w.heap.size o' = w.alloc o' := by
  have : (w.heap.push o).setIfInBounds w.heap.size o' = w.heap.push o' := by
    apply Array.ext_getElem?
    intro j
    rw [Array.getElem?_setIfInBounds, Array.getElem?_push, Array.getElem?_push]
    by_cases h : w.heap.size = j
    · subst h; simp
    · rw [if_neg h, if_neg (fun x => h x.symm), if_neg (fun x => h x.symm)]
  show { w with heap := (w.heap.push o).setIfInBounds w.heap.size o' } = { w with heap := w.heap.push o' }
  rw [this]

section
variable {P : Program} {T K E : TypeId} (hu : P.underlying T = some (.map K E)) (hK : P.underlying K = some (.int .i64))
include hu hK
theorem run_insert {w : World} {b : Nat} {es : Array MapEntry} {clock : Nat} {k v : Int} (hb : w.heap[b]? = some (.map es clock)) (hf : Instr.findNow (.int .i64) (.int .i64 k) es.toList 0 = some none) :
    (Instr.mapUpdate T (.map (some b)) (.int .i64 k) (.int .i64 v)).run P w = .ok () (w.putObj b (.map (es.push ⟨.int .i64 k, .int .i64 v, clock⟩) (clock + 1))) := by
  have hck : ∀ (e : Bool) (w2 : World), (Instr.checkKey e 10000 K (.int .i64 k)).run P w2 = .ok () w2 := fun e w2 => by
    unfold Instr.checkKey
    simp [Sem.run_bind, run_underlying hK]
  have hfi : (Instr.findKey K (.int .i64 k) es.toList).run P w = .ok none w := by
    simp [Instr.findKey, Sem.run_bind, run_underlying hK, hf]
  have hgo : (getObj b).run P w = .ok (.map es clock) w := by simp [getObj, Sem.run, hb]
  have hso : ∀ o, (setObj b o).run P w = .ok () (w.putObj b o) := fun o => by simp [setObj, Sem.run, hb, World.putObj]
  simp [Instr.mapUpdate, Sem.run_bind, run_underlying hu, hgo, hck, hfi, hso]
end

theorem AWp_map2 {P : Program} {B : Bool} {N np : Nat} {Q : Exit → St → Prop} {s : St} {id T K E d t1 t2 : Nat} {k1 v1 k2 v2 : Int} {y1 y2 y3 y4 y5 : TypeId} {p1 p2 p3 p4 p5 : String} {a1 a2 a3 a4 a5 : Array Edge}
    (hu : P.underlying T = some (.map K E)) (hK : P.underlying K = some (.int .i64)) (hne : (k2 == k1) = false) (hN : (Nat.blt d N && Nat.blt t1 N && Nat.blt t2 N) = true)
    (h : Q .normal ⟨upd (upd (upd s.regs d (.ax (MapR k1 v1 k2 v2))) t1 (.ax (MapR k1 v1 k2 v2))) t2 (.ax (MapR k1 v1 k2 v2)), s.own⟩) :
    AWp P B N np (.region id #[⟨some d, .makeMap T none, y1, p1, a1, none⟩, ⟨none, .insert T (.tmp d) (.const (.int .i64 k1)) (.const (.int .i64 v1)), y2, p2, a2, none⟩, ⟨none, .insert T (.tmp d) (.const (.int .i64 k2)) (.const (.int .i64 v2)), y3, p3, a3, none⟩,
      ⟨some t1, .move (.tmp d), y4, p4, a4, none⟩, ⟨some t2, .assign (.tmp t1), y5, p5, a5, none⟩] false) Q s := by
  intro ro hB C hh r a w hn hc
  simp only [Bool.and_eq_true, Nat.blt_eq] at hN
  obtain ⟨⟨n1, n2⟩, n3⟩ := hN
  apply wpIn_region
  have hs0 : a.tmps.size = N := hc.sz
  show wpOpsIn (Wd ro) 0 P _ _ [0, 1, 2, 3, 4] a w
  rw [wpOpsIn_cons]
  refine wpOpIn_val (o := ⟨some d, .makeMap T none, y1, p1, a1, none⟩) rfl rfl rfl (x := .map (some w.heap.size)) (w' := w.alloc (.map #[] 0)) (by simp [execOp, Instr.makeMap]) ?_
  rw [wpOpsIn_cons]
  have g1 : (a.put (some d) (.map (some w.heap.size))).eval (.tmp d) = .map (some w.heap.size) := by
    simp [Act.put, Act.eval, hs0, n1]
  refine wpOpIn_skip (o := ⟨none, .insert T (.tmp d) (.const (.int .i64 k1)) (.const (.int .i64 v1)), y2, p2, a2, none⟩) rfl rfl rfl (w' := w.alloc (.map #[⟨.int .i64 k1, .int .i64 v1, 0⟩] 1)) ?_ ?_
  · have := run_insert hu hK (w := w.alloc (.map #[] 0)) (b := w.heap.size) (es := #[]) (clock := 0) (k := k1) (v := v1) (by rw [heap_alloc, if_pos rfl]) rfl
    rw [alloc_put] at this
    have e0 : ∀ v : Value, (a.put (some d) (.map (some w.heap.size))).eval (.const v) = v := fun _ => rfl
    simp only [execOp, g1, e0, Sem.run_bind]
    rw [this]; rfl
  rw [wpOpsIn_cons]
  refine wpOpIn_skip (o := ⟨none, .insert T (.tmp d) (.const (.int .i64 k2)) (.const (.int .i64 v2)), y3, p3, a3, none⟩) rfl rfl rfl (w' := w.alloc (.map #[⟨.int .i64 k1, .int .i64 v1, 0⟩, ⟨.int .i64 k2, .int .i64 v2, 1⟩] 2)) ?_ ?_
  · have := run_insert hu hK (w := w.alloc (.map #[⟨.int .i64 k1, .int .i64 v1, 0⟩] 1)) (b := w.heap.size) (es := #[⟨.int .i64 k1, .int .i64 v1, 0⟩]) (clock := 1) (k := k2) (v := v2) (by rw [heap_alloc, if_pos rfl]) (by
      simp [Instr.findNow, Instr.sameNow, hne])
    rw [alloc_put] at this
    have g2 : ((a.put (some d) (.map (some w.heap.size))).put none undef).eval (.tmp d) = .map (some w.heap.size) := g1
    have e0 : ∀ v : Value, ((a.put (some d) (.map (some w.heap.size))).put none undef).eval (.const v) = v := fun _ => rfl
    simp only [execOp, g2, e0, Sem.run_bind]
    rw [this]; rfl
  obtain ⟨hw1, hle⟩ := hc.wk.imm (.map #[⟨.int .i64 k1, .int .i64 v1, 0⟩, ⟨.int .i64 k2, .int .i64 v2, 1⟩] 2)
  generalize hh1 : (fun i => if i = w.heap.size then some (Obj.map #[⟨.int .i64 k1, .int .i64 v1, 0⟩, ⟨.int .i64 k2, .int .i64 v2, 1⟩] 2) else hh i) = h1 at hw1 hle
  have hX : ∀ r : Nat → Value, AVRep h1 r (.ax (MapR k1 v1 k2 v2)) (.map (some w.heap.size)) := fun r h' hl =>
    ⟨w.heap.size, rfl, hl _ _ (fun q e => by cases e) (by rw [← hh1]; exact if_pos rfl)⟩
  have r0 : RegsOK h1 r s.regs a := fun t => AVRep.mono hle _ _ (hc.rg t)
  have r1 := r0.put (dst := some d) (fun d' e => by cases e; omega) (hX r)
  rw [wpOpsIn_cons]
  have g3 : (((a.put (some d) (.map (some w.heap.size))).put none undef).put none undef).eval (.tmp d) = .map (some w.heap.size) := g1
  refine wpOpIn_val (o := ⟨some t1, .move (.tmp d), y4, p4, a4, none⟩) rfl rfl rfl (x := .map (some w.heap.size)) (w' := w.alloc (.map #[⟨.int .i64 k1, .int .i64 v1, 0⟩, ⟨.int .i64 k2, .int .i64 v2, 1⟩] 2)) (by simp only [execOp, g3, Sem.run_pure]) ?_
  have r2 := r1.put (dst := some t1) (fun d' e => by cases e; simp [Act.put]; omega) (hX r)
  rw [wpOpsIn_cons]
  have g4 : ((a.put (some d) (.map (some w.heap.size))).put (some t1) (.map (some w.heap.size))).eval (.tmp t1) = .map (some w.heap.size) := by
    simp [Act.put, Act.eval, hs0, n2]
  refine wpOpIn_val (o := ⟨some t2, .assign (.tmp t1), y5, p5, a5, none⟩) rfl rfl rfl (x := .map (some w.heap.size)) (w' := w.alloc (.map #[⟨.int .i64 k1, .int .i64 v1, 0⟩, ⟨.int .i64 k2, .int .i64 v2, 1⟩] 2)) ?_ ?_
  · have g5 : ((((a.put (some d) (.map (some w.heap.size))).put none undef).put none undef).put (some t1) (.map (some w.heap.size))).eval (.tmp t1) = .map (some w.heap.size) := g4
    simp only [execOp, g5, Sem.run_pure]
  have r3 := r2.put (dst := some t2) (fun d' e => by cases e; simp [Act.put]; omega) (hX r)
  show ∃ s' h' r', Q .normal s' ∧ Conc C N h' r' s' _ _
  refine ⟨_, h1, r, h, ?_, ?_, r3, hw1⟩
  · simp [Act.put]; exact hs0
  · exact hc.df.mono hle
end Go.AM
end

section
/- A function that is ranged over, walked: between the rounds it may own memory of its own. -/
namespace Go.AM
open Go Go.RowKit

section
variable (P : Program) (l : Nat) (xs : List (List PV)) (n0 : Nat) (J : Nat → Hp → (Nat → Prop) → World → Prop) (N : Nat)
structure CJ (k : Nat) (G : Nat → Prop) (h : Hp) (r : Nat → Value) (s : St) (a : Act) (w : World) : Prop where
  sz : a.tmps.size = N
  df : a.defers = []
  rg : RegsOK h r s.regs a
  kj : ∃ C : Ctx, WOK C h r s.own w ∧ J k C.h0 G C.w0 ∧ n0 ≤ C.w0.heap.size ∧ (∀ i, C.F i → n0 ≤ i ∧ ¬ G i ∧ C.h0 i = none) ∧ C.np = 0 ∧ C.mar = false
def AJ (c : Code) (Q : Exit → Nat → St → Prop) (k : Nat) (s : St) : Prop :=
  ∀ (h : Hp) (r : Nat → Value) (a : Act) (w : World) (G : Nat → Prop), CJ n0 J N k G h r s a w →
    c.wpIn (Wd none) 0 P (fun e a' w' => ∃ k' s' h' r' G', Q e k' s' ∧ CJ n0 J N k' G' h' r' s' a' w') a w
def RJ (Q : Exit → Nat → St → Prop) (ops : Array Oper) (os : List Oper) (i : Nat) (k : Nat) (s : St) : Prop := ops.toList.drop i = os →
  ∀ (h : Hp) (r : Nat → Value) (a : Act) (w : World) (G : Nat → Prop), CJ n0 J N k G h r s a w →
    wpOpsIn (Wd none) 0 P ops (fun e a' w' => ∃ k' s' h' r' G', Q e k' s' ∧ CJ n0 J N k' G' h' r' s' a' w') (List.range' i os.length) a w
end
def JThen (K : Nat → St → Prop) (Q : Exit → Nat → St → Prop) : Exit → Nat → St → Prop
  | .normal, k, s => K k s
  | e, k, s => Q e k s
def JIn (id : Nat) (Q : Exit → Nat → St → Prop) : Exit → Nat → St → Prop
  | .exit id', k, s => bif Nat.beq id' id then Q .normal k s else Q (.exit id') k s
  | e, k, s => Q e k s

section
variable {P : Program} {l : Nat} {xs : List (List PV)} {n0 : Nat} {J : Nat → Hp → (Nat → Prop) → World → Prop} {N : Nat} (hK : Keeps P l xs n0 J)
variable {Q : Exit → Nat → St → Prop} {k : Nat} {s : St}
include hK in
theorem CJ.now {G : Nat → Prop} {h : Hp} {r : Nat → Value} {a : Act} {w : World} (c : CJ n0 J N k G h r s a w) : J k h G w := by
  obtain ⟨C, hw, hj, hs, hF, _⟩ := c.kj
  have hg := hK.g _ _ _ _ hj
  refine hK.rest _ _ _ _ _ _ hj ⟨hw.os, hw.tape, hw.output, hw.size, fun i hi => ?_, hw.hi, hw.hg, fun i hi => ?_⟩
  · by_cases e : C.F i
    · exact .inr (hF i e)
    · exact .inl (hw.old i hi e)
  · rcases hw.hn i hi with g | g | g
    · exact .inl g
    · exact .inr ⟨Nat.le_trans hs g, fun x => by have := (hg i x).1; omega⟩
    · exact .inr ⟨(hF i g).1, (hF i g).2.1⟩
include hK in
theorem CJ.notG {G : Nat → Prop} {h : Hp} {r : Nat → Value} {a : Act} {w : World} (c : CJ n0 J N k G h r s a w) {m i : Nat} (hm : s.own m ≠ none) (e : hblk (r m) = some i) : n0 ≤ i ∧ ¬ G i ∧ i < w.heap.size ∧ h i = none := by
  obtain ⟨C, hw, hj, hs, hF, _⟩ := c.kj
  refine ⟨?_, ?_, hw.lt hm e, hw.ho m i hm e⟩
  · rcases hw.fo m i hm e with g | g
    · exact Nat.le_trans hs g
    · exact (hF i g).1
  · rcases hw.fo m i hm e with g | g
    · exact fun x => by have := (hK.g _ _ _ _ hj i x).1; omega
    · exact (hF i g).2.1

theorem AJ_lift {c : Code} (h : AWp P true N 0 c (fun e s' => Q e k s') s) : AJ P n0 J N c Q k s := by
  intro hh r a w G hc
  obtain ⟨C, hw, hj, hs, hF, hn, hm⟩ := hc.kj
  refine wpIn_mono (h none (fun _ => rfl) C hh r a w ⟨hn, hm⟩ ⟨hc.sz, by rw [hc.df]; trivial, hc.rg, hw⟩) ?_
  rintro e a' w' ⟨s', h', r', q, c'⟩
  refine ⟨k, s', h', r', G, q, c'.sz, ?_, c'.rg, C, c'.wk, hj, hs, hF, hn, hm⟩
  have := c'.df
  cases hd : a'.defers with
  | nil => rfl
  | cons d ds => rw [hd] at this; have h1 := this.1; rw [hm] at h1; cases h1
theorem AJ_region (hP : P.follows .mixedOrders = true) {id : Nat} {ops : Array Oper} {draw : Bool} (h : RK P N 0 ops draw ops.toList (kill (allocs ops.toList) s) [] (Q .normal k)) : AJ P n0 J N (.region id ops draw) Q k s :=
  AJ_lift (AWp_region hP h)
theorem AJ_seq {x y : Code} (h : AJ P n0 J N x (JThen (AJ P n0 J N y Q) Q) k s) : AJ P n0 J N (.seq x y) Q k s := by
  intro hh r a w G hc
  refine wpIn_seq (wpIn_mono (h hh r a w G hc) ?_)
  rintro e a' w' ⟨k', s', h', r', G', q, c⟩
  cases e with
  | normal => exact q h' r' a' w' G' c
  | _ => exact ⟨k', s', h', r', G', q, c⟩
theorem AJ_skip (h : Q .normal k s) : AJ P n0 J N .skip Q k s := fun hh r _ _ G hc => wpIn_skip ⟨k, s, hh, r, G, h, hc⟩
theorem AJ_ret (h : Q .ret k s) : AJ P n0 J N .ret Q k s := fun hh r _ _ G hc => wpIn_ret ⟨k, s, hh, r, G, h, hc⟩
theorem AJ_exit {id : Nat} (h : Q (.exit id) k s) : AJ P n0 J N (.exit id) Q k s := fun hh r _ _ G hc => wpIn_exit ⟨k, s, hh, r, G, h, hc⟩
theorem AJ_block {id : Nat} {c : Code} (h : AJ P n0 J N c (JIn id Q) k s) : AJ P n0 J N (.block id c) Q k s := by
  intro hh r a w G hc
  refine wpIn_block (wpIn_mono (h hh r a w G hc) ?_)
  rintro e a' w' ⟨k', s', h', r', G', q, c⟩
  cases e with
  | exit id' =>
    simp only [Exit.inBlock]
    simp only [JIn] at q
    by_cases hid : id' = id
    · subst hid
      rw [if_pos rfl]
      have : Nat.beq id' id' = true := by simp
      rw [this] at q
      exact ⟨k', s', h', r', G', q, c⟩
    · rw [if_neg hid]
      have : Nat.beq id' id = false := by
        cases e : Nat.beq id' id with
        | false => rfl
        | true => exact absurd (Nat.eq_of_beq_eq_true e) hid
      rw [this] at q
      exact ⟨k', s', h', r', G', q, c⟩
  | _ => exact ⟨k', s', h', r', G', q, c⟩
theorem CJ.bool {G : Nat → Prop} {h : Hp} {r : Nat → Value} {a : Act} {w : World} (hc : CJ n0 J N k G h r s a w) {c : Operand} {b : Bool} (he : ev s.regs c = .p (.c (.v (.bool b)))) : a.eval c = .bool b := by
  have := rep_ev hc.rg c
  rw [he] at this
  simp only [AVRep, PRep, DRep] at this
  exact this.1
theorem AJ_cond {c : Operand} {x y : Code} {b : Bool} (he : ev s.regs c = .p (.c (.v (.bool b)))) (ht : b = true → AJ P n0 J N x Q k s) (hf : b = false → AJ P n0 J N y Q k s) : AJ P n0 J N (.cond c x y) Q k s := by
  intro hh r a w G hc
  have hb := hc.bool he
  cases b with
  | true => exact wpIn_cond_true hb (ht rfl hh r a w G hc)
  | false => exact wpIn_cond_false hb (hf rfl hh r a w G hc)
theorem AJ_cond_true {c : Operand} {x y : Code} {b : Bool} (he : ev s.regs c = .p (.c (.v (.bool b)))) (hb : b = true) (ht : AJ P n0 J N x Q k s) : AJ P n0 J N (.cond c x y) Q k s :=
  AJ_cond he (fun _ => ht) (fun h => by rw [hb] at h; cases h)
theorem AJ_cond_false {c : Operand} {x y : Code} {b : Bool} (he : ev s.regs c = .p (.c (.v (.bool b)))) (hb : b = false) (hf : AJ P n0 J N y Q k s) : AJ P n0 J N (.cond c x y) Q k s :=
  AJ_cond he (fun h => by rw [hb] at h; cases h) (fun _ => hf)
theorem CJ.le {t : St} (q : Le s t) {G : Nat → Prop} {h : Hp} {r : Nat → Value} {a : Act} {w : World} (c : CJ n0 J N k G h r s a w) : CJ n0 J N k G h r t a w := by
  obtain ⟨C, hw, rest⟩ := c.kj
  exact ⟨c.sz, c.df, fun i => q.regs i h r _ (c.rg i), C, hw.forget q.own, rest⟩
theorem AJ_le {t : St} {c : Code} (q : Le s t) (h : AJ P n0 J N c Q k t) : AJ P n0 J N c Q k s :=
  fun hh r a w G hc => h hh r a w G (hc.le q)
theorem AJ_loop {ι : Type} {c : Code} (I : ι → St) (κ : ι → Nat) (F : ι → Prop) (μ : ι → Nat) (i₀ : ι) (h₀ : F i₀) (hk : κ i₀ = k) (hs : Le s (I i₀))
    (round : ∀ i, F i → AJ P n0 J N c (JThen (fun k' s' => ∃ j, F j ∧ μ j < μ i ∧ κ j = k' ∧ Le s' (I j)) Q) (κ i) (I i)) : AJ P n0 J N (.loop c) Q k s := by
  intro hh r a w G hc b kk cs hro hfn hroom
  have key : ∀ n i h r a w G, μ i = n → F i → CJ n0 J N (κ i) G h r (I i) a w →
      ∃ e a' w', (∃ k' s' h' r' G', Q e k' s' ∧ CJ n0 J N k' G' h' r' s' a' w') ∧ ArrivesIn (Machine.fenced P (Wd none)) P (lone (b.atR a (.code c :: .inLoop c :: kk)) cs w) b kk cs e a' w' := by
    intro n
    induction n using Nat.strongRecOn with
    | _ n ih =>
      intro i h r a w G hμ hF hc
      obtain ⟨e, a₁, w₁, ⟨k₁, s₁, h₁, r₁, G₁, hq, hc₁⟩, harr⟩ := round i hF h r a w G hc b (.inLoop c :: kk) cs hro hfn hroom
      cases e with
      | normal =>
        obtain ⟨j, hFj, hlt, hκ, hle⟩ := hq
        subst hκ
        obtain ⟨e₂, a₂, w₂, hq₂, harr₂⟩ := ih (μ j) (hμ ▸ hlt) j h₁ r₁ a₁ w₁ G₁ rfl hFj (hc₁.le hle)
        exact ⟨e₂, a₂, w₂, hq₂, .of_steps (StepsIn.trans harr (.one (fenced_calm hfn hroom rfl) stepR_inLoop)) harr₂⟩
      | exit id => exact ⟨_, a₁, w₁, ⟨k₁, s₁, h₁, r₁, G₁, hq, hc₁⟩, .pass (x := .inLoop c) rfl (fun _ _ => .inl (by simp)) harr⟩
      | goto l => exact ⟨_, a₁, w₁, ⟨k₁, s₁, h₁, r₁, G₁, hq, hc₁⟩, .pass (x := .inLoop c) rfl (fun _ _ => .inl (by simp)) harr⟩
      | ret => exact ⟨_, a₁, w₁, ⟨k₁, s₁, h₁, r₁, G₁, hq, hc₁⟩, .pass (x := .inLoop c) rfl (fun _ _ => .inl (by simp)) harr⟩
      | panic ch => exact ⟨_, a₁, w₁, ⟨k₁, s₁, h₁, r₁, G₁, hq, hc₁⟩, .pass (x := .inLoop c) rfl (fun _ _ => .inl (by simp)) harr⟩
      | outgrown => exact ⟨_, a₁, w₁, ⟨k₁, s₁, h₁, r₁, G₁, hq, hc₁⟩, .pass (x := .inLoop c) rfl (fun _ _ => .inl (by simp)) harr⟩
  subst hk
  obtain ⟨e, a', w', hq, harr⟩ := key _ i₀ hh r a w G rfl h₀ (hc.le hs)
  exact ⟨e, a', w', hq, .of_steps (.one (fenced_calm hfn hroom rfl) stepR_loop) harr⟩

/-! ### a region in which yield is called, in the order of its text -/
section rj
variable {ops : Array Oper} {os : List Oper} {i : Nat} {op : Op} {ty : TypeId} {pos : String} {af : Array Edge} {gd : Option (Nat × Bool)} {t : Nat}
theorem AJ_regionY {id : Nat} (h : RJ P n0 J N Q ops ops.toList 0 k s) : AJ P n0 J N (.region id ops false) Q k s := by
  intro hh r a w G hc
  apply wpIn_region
  rw [List.range_eq_range']
  exact h rfl hh r a w G hc
theorem RJ.done (h : Q .normal k s) : RJ P n0 J N Q ops [] i k s := fun _ hh r _ _ G hc => ⟨k, s, hh, r, G, h, hc⟩
theorem drop_next {o : Oper} (h : ops.toList.drop i = o :: os) : ops[i]? = some o ∧ ops.toList.drop (i + 1) = os := by
  have h1 : (ops.toList.drop i)[0]? = some o := by rw [h]; rfl
  rw [List.getElem?_drop] at h1
  refine ⟨by rw [← Array.getElem?_toList]; simpa using h1, ?_⟩
  rw [← List.tail_drop, h]; rfl
theorem guards_wanted {o : Oper} {b : Bool} {h : Hp} {r : Nat → Value} {a : Act} (hc : RegsOK h r s.regs a) (hG : Guards ops o s.regs b) : Region.wanted o (yielded ops a.tmps) = b := by
  unfold Guards at hG
  cases hg : o.guard with
  | none =>
    rw [hg] at hG
    unfold Region.wanted
    rw [hg, hG]
  | some x =>
    obtain ⟨j, want⟩ := x
    rw [hg] at hG
    obtain ⟨t, g1, hG⟩ := hG
    rcases hG with ⟨c, g2, g3⟩ | ⟨g2, g3⟩
    · have := yielded_of hc g1 g2
      unfold Region.wanted
      rw [hg]
      simp only [this]
      rw [← g3]
      cases c <;> cases want <;> rfl
    · have := yielded_none hc g1 g2
      unfold Region.wanted
      rw [hg]
      simp only [this]
      rw [g3]
      cases want <;> rfl
theorem CJ.put {G : Nat → Prop} {h h' : Hp} {r r' : Nat → Value} {a : Act} {w w' : World} {C : Ctx} {v : AV} {x : Value} (hc : CJ n0 J N k G h r s a w) (hle : Hle h h') (hr : ∀ m, r' m = r m) (ht : t < N) (hv : AVRep h' r' v x)
    (q : WOK C h' r' s.own w') (hj : J k C.h0 G C.w0) (hs : n0 ≤ C.w0.heap.size) (hF : ∀ i, C.F i → n0 ≤ i ∧ ¬ G i ∧ C.h0 i = none) (hn : C.np = 0) (hm : C.mar = false) : CJ n0 J N k G h' r' ⟨upd s.regs t v, s.own⟩ (a.put (some t) x) w' :=
  ⟨by simp [Act.put, hc.sz], by simpa [Act.put] using hc.df, (show RegsOK h' r' s.regs a from fun u => AVRep.rebind _ _ (fun m _ => hr m) (AVRep.mono hle _ _ (hc.rg u))).put (dst := some t) (fun d e => by cases e; rw [hc.sz]; exact ht) hv, C, q, hj, hs, hF, hn, hm⟩
/-- an operation that yields a value -/
theorem RJ.val {v : AV} {rd : List Nat} (hg : Guards ops ⟨some t, op, ty, pos, af, gd⟩ s.regs true) (he : Eff P ⟨some t, op, ty, pos, af, gd⟩ t (ev s.regs) s.own v [] none rd)
    (hr : RJ P n0 J N Q ops os (i + 1) k ⟨upd s.regs t v, s.own⟩) (hN : (Nat.blt t N && noDefer ⟨some t, op, ty, pos, af, gd⟩) = true := by rfl) : RJ P n0 J N Q ops (⟨some t, op, ty, pos, af, gd⟩ :: os) i k s := by
  intro hd hh r a w G hc
  obtain ⟨h1, h2⟩ := drop_next hd
  rw [Bool.and_eq_true, Nat.blt_eq] at hN
  rw [List.length_cons, List.range'_succ, wpOpsIn_cons]
  unfold wpOpIn
  simp only [h1]
  rw [guards_wanted hc.rg hg, if_pos rfl]
  obtain ⟨C, hw, hj, hs, hF, hn, hm⟩ := hc.kj
  refine wpIn_of_wp (noDefer_ne hN.2) ?_
  refine he C hh r s.own a w _ _ (fun x _ => rep_ev hc.rg x) (fun _ _ => rfl) hw (fun e => absurd rfl e) ?_
  intro x h' r' w' hle hrr hv hw'
  exact ⟨hr h2 h' r' _ w' G (hc.put hle (fun m => hrr m (fun e => absurd rfl e)) hN.1 hv hw' hj hs hF hn hm), rfl⟩
theorem RJ.skip (hg : Guards ops ⟨some t, op, ty, pos, af, gd⟩ s.regs false)
    (hr : RJ P n0 J N Q ops os (i + 1) k ⟨upd s.regs t (.t []), s.own⟩) (hN : Nat.blt t N = true := by rfl) : RJ P n0 J N Q ops (⟨some t, op, ty, pos, af, gd⟩ :: os) i k s := by
  intro hd hh r a w G hc
  obtain ⟨h1, h2⟩ := drop_next hd
  rw [Nat.blt_eq] at hN
  rw [List.length_cons, List.range'_succ, wpOpsIn_cons]
  unfold wpOpIn
  simp only [h1]
  rw [guards_wanted hc.rg hg, if_neg (by simp)]
  obtain ⟨C, hw, hj, hs, hF, hn, hm⟩ := hc.kj
  exact ⟨fun _ _ => trivial, hr h2 hh r _ w G (hc.put (.refl _) (fun _ => rfl) hN ⟨[], rfl, trivial⟩ hw hj hs hF hn hm)⟩
theorem repArgs_ps {h : Hp} {r : Nat → Value} : ∀ {x : List PV} {vs : List Value}, RepArgs h r (x.map .p) vs → PReps h x vs
  | [], [], _ => trivial
  | _ :: _, _ :: _, k => ⟨k.1, repArgs_ps k.2⟩
  | [], _ :: _, k => k.elim
  | _ :: _, [], k => k.elim
/-- yield is called: a round -/
theorem RJ.yield (hK : Keeps P l xs n0 J) {c : Operand} {args : Array Operand} {tys : Array TypeId} {x : List PV} (hg : Guards ops ⟨some t, .call ⟨.value c, args, tys⟩, ty, pos, af, gd⟩ s.regs true)
    (hy : ev s.regs c = .p (.c (.v (.func (.yield l) #[] #[])))) (ha : args.toList.map (ev s.regs) = x.map .p) (hx : xs[k]? = some x)
    (hr : RJ P n0 J N Q ops os (i + 1) (k + 1) ⟨upd s.regs t (.p (.c (.v (.bool true)))), s.own⟩) (hN : Nat.blt t N = true := by rfl) : RJ P n0 J N Q ops (⟨some t, .call ⟨.value c, args, tys⟩, ty, pos, af, gd⟩ :: os) i k s := by
  intro hd hh r a w G hc
  obtain ⟨h1, h2⟩ := drop_next hd
  rw [Nat.blt_eq] at hN
  rw [List.length_cons, List.range'_succ, wpOpsIn_cons]
  unfold wpOpIn
  simp only [h1]
  rw [guards_wanted hc.rg hg, if_pos rfl]
  have hyv : a.eval c = .func (.yield l) #[] #[] := by
    have := rep_ev hc.rg c
    rw [hy] at this
    simp only [AVRep, PRep, DRep] at this
    exact this.1
  have hra : RepArgs hh r (x.map .p) (args.map a.eval).toList := by
    rw [← ha, Array.toList_map]
    exact repArgs_map _ fun x _ => rep_ev hc.rg x
  obtain ⟨fn, tmps, assign, body, hrun, hR⟩ := hK.give k hh G w x _ hx (hc.now hK) (repArgs_ps hra)
  refine ⟨fun _ _ => trivial, ?_⟩
  rw [Oper.semAt_eq _ _ _ (fun c' e => by cases e)]
  have hex : (execOp a.eval ⟨some t, .call ⟨.value c, args, tys⟩, ty, pos, af, gd⟩).run P w = .ok (.round l fn tmps assign body) w := by
    simp only [execOp, resolve, Sem.run_bind, hyv, Deferred.ofValue, Sem.run_pure, Result.andThen_ok, invoke, Array.empty_append]
    have e : (args.map a.eval).toList.toArray = args.map a.eval := Array.toArray_toList
    rw [← e]; exact hrun
  rw [hex]
  refine ⟨fun e => by simp [Wd] at e, RoundIn.mono hR ?_⟩
  rintro e w' ⟨rfl, h', G', hj, q⟩
  have hC := hc.kj
  obtain ⟨C, hw, hj0, hs, hF, hn, hm⟩ := hC
  have same : ∀ m i, s.own m ≠ none → hblk (r m) = some i → w'.heap[i]? = w.heap[i]? := fun m i hm e => by
    have := hc.notG hK hm e
    exact q.old i this.2.2.1 this.2.1
  have hw' : WOK ⟨w', h', fun i => ∃ m, s.own m ≠ none ∧ hblk (r m) = some i, r, 0, false⟩ h' r s.own w' := by
    refine ⟨fun m b e => ((hw.ow m b e).mono q.hg).world fun i hi => same m i (by rw [e]; simp) hi, hw.inj, hK.hi _ _ _ _ hj, fun m i hm e => ?_, rfl, rfl, rfl, Nat.le_refl _, fun _ _ _ => rfl, fun m i hm e => .inr ⟨m, hm, e⟩, .refl _, fun _ e => .inl e, hw.gl.mono q.hg, fun _ _ => rfl, fun m b j e hj' => ?_⟩
    · have hg := hc.notG hK hm e
      cases hh' : h' i with
      | none => rfl
      | some o =>
        rcases q.hn i (by rw [hh']; simp) with g | g | g
        · exact absurd hg.2.2.2 g
        · omega
        · exact absurd g hg.2.1
    · obtain ⟨q1, t', e1, e2⟩ := hw.lk m b j e hj'
      exact ⟨q1, t', e1, by rw [same m q1 (by rw [e]; simp) (by rw [e1]; rfl)]; exact e2⟩
  have n1 : n0 ≤ w'.heap.size := Nat.le_trans (Nat.le_trans hs hw.size) q.size
  refine hr h2 h' r _ w' G' ⟨by simp [Act.put, hc.sz], by simpa [Act.put] using hc.df, (show RegsOK h' r s.regs a from fun u => AVRep.mono q.hg _ _ (hc.rg u)).put (dst := some t) (v := .p (.c (.v (.bool true)))) (x := .bool true) (fun d e => by cases e; rw [hc.sz]; exact hN) ⟨rfl, rfl⟩, _, hw', hj, n1, ?_, rfl, rfl⟩
  rintro i ⟨m, hm, e⟩
  have hg := hc.notG hK hm e
  refine ⟨hg.1, fun x => ?_, ?_⟩
  · rcases q.gg i x with g | g
    · exact hg.2.1 g
    · omega
  · exact hw'.ho m i hm e
end rj
end

/-- A function that is ranged over, from its code. -/
theorem iter_of {P : Program} {f : FuncId} {fn : Func} {c : Code} {N : Nat} {caps : List (List DV)} {xs : List (List PV)} (hf : P.funcs[f]? = some fn) (hnm : (fn.name == "runtime.NumGoroutine") = false) (hb : fn.body = some c) (hN : fn.ntmps = N) (hna : caps.length + 1 ≤ N) (hres : fn.results = #[])
    (h : ∀ l n0 J, Keeps P l xs n0 J → AJ P n0 J N c (fun e k _ => (e = .normal ∨ e = .ret) ∧ k = xs.length) 0 ⟨fun t => ((.p (.c (.v (.func (.yield l) #[] #[]))) :: caps.map .ip : List AV)).getD t .junk, O⟩) : Iter P f caps xs := by
  refine ⟨⟨fn, hf, hnm, by rw [hb]; rfl⟩, ?_⟩
  intro l lb J hh G W hcaps hgl hK h0
  refine callsIn_of_wp hf hb trivial ?_
  have hcl : ∀ (cs : List (List DV)) (xs : List Value), CapsRep hh cs xs → xs.length = cs.length := by
    intro cs
    induction cs with
    | nil => intro xs k; cases xs with
      | nil => rfl
      | cons _ _ => exact k.elim
    | cons p ps ih => intro xs k; cases xs with
      | nil => exact k.elim
      | cons x xs => simp [ih xs k.2]
  have hlen : lb.size = caps.length := by simpa using hcl _ _ hcaps
  have hget : ∀ (cs : List (List DV)) (xs : List Value), CapsRep hh cs xs → ∀ (t : Nat) (x : List DV), cs[t]? = some x → ∃ y, xs[t]? = some y ∧ IpRep hh x y := by
    intro cs
    induction cs with
    | nil => intro xs _ t x h; simp at h
    | cons p ps ih => intro xs h t x hx; cases xs with
      | nil => exact h.elim
      | cons y ys => cases t with
        | zero => simp at hx; subst hx; exact ⟨y, rfl, h.1⟩
        | succ t => exact ih ys h.2 t x (by simpa using hx)
  refine wpIn_mono (h l W.heap.size J hK hh (fun _ => .bool false) _ W G ⟨?_, rfl, ?_, (⟨W, hh, fun _ => False, fun _ => .bool false, 0, false⟩ : Ctx), ?_, h0, Nat.le_refl _, fun _ e => e.elim, rfl, rfl⟩) ?_
  · simp [hN, hlen]; omega
  · intro t
    show AVRep hh _ (((.p (.c (.v (.func (.yield l) #[] #[]))) :: caps.map .ip : List AV)).getD t .junk) _
    rw [List.getD_eq_getElem?_getD]
    cases t with
    | zero =>
      simp only [List.getElem?_cons_zero, Option.getD_some]
      have e0 : (#[.func (.yield l) #[] #[]] ++ lb ++ Array.replicate (fn.ntmps - (#[.func (.yield l) #[] #[]] ++ lb : Array Value).size) undef : Array Value).getD 0 undef = .func (.yield l) #[] #[] := by
        rw [Array.getD_eq_getD_getElem?, Array.getElem?_append_left (by simp; omega), Array.getElem?_append_left (by simp)]; rfl
      show AVRep hh _ (.p (.c (.v (.func (.yield l) #[] #[])))) (Array.getD _ 0 undef)
      rw [e0]
      simp only [AVRep, PRep, DRep, true_and]; rfl
    | succ t =>
      rw [List.getElem?_cons_succ, List.getElem?_map]
      cases ht : caps[t]? with
      | none => exact trivial
      | some x =>
        obtain ⟨y, g1, g2⟩ := hget _ _ hcaps t x ht
        have g1' : lb[t]? = some y := by rw [← Array.getElem?_toList]; exact g1
        have hlt : t < lb.size := (Array.getElem?_eq_some_iff.1 g1').1
        simp only [Option.map_some, Option.getD_some, Array.getD_eq_getD_getElem?]
        rw [Array.getElem?_append_left (by simp; omega), Array.getElem?_append_right (by simp)]
        simp only [List.size_toArray, List.length_cons, List.length_nil, Nat.zero_add, Nat.add_sub_cancel, g1', Option.getD_some]
        exact g2
  · exact ⟨fun m b e => (by cases e), fun m n k e => absurd rfl e, hK.hi _ _ _ _ h0, fun m k e => absurd rfl e, rfl, rfl, rfl, Nat.le_refl _, fun _ _ _ => rfl, fun m k e => absurd rfl e, Hle.refl _, fun k e => Or.inl e, hgl, fun _ _ => rfl, fun m b j e => (by cases e)⟩
  · rintro e a' w' ⟨k', s', h', r', G', ⟨he, rfl⟩, c'⟩
    have hr : (results fn a'.tmps).run P w' = .ok (.tuple #[]) w' := by rw [results_eq, hres]; simp
    have fin : ∀ e', (e' = Exit.normal ∨ e' = Exit.ret) → bodyPost P fn (fun e W' => (∃ v, e = .returned v) ∧ ∃ h' G', J xs.length h' G' W') e' a' w' := by
      rintro e' (rfl | rfl) <;> exact ⟨c'.df, _, hr, ⟨_, rfl⟩, h', G', c'.now hK⟩
    exact fin e he
end Go.AM
end

section
/- The reduced forms of a discriminant as triples of small numbers: the list, and the rounds that make it. -/
namespace Go.AM
open Go Go.RowKit

structure Tr where
  a : Int
  b : Int
  c : Int
  deriving DecidableEq
def okT (n a b : Int) : Bool := decide ((b * b + n) % (4 * a) = 0) && (decide (a ≤ (b * b + n) / (4 * a)) && !(decide (b < 0) && decide (a = (b * b + n) / (4 * a))))
def rowT (n a : Int) : Nat → Int → List Tr
  | 0, _ => []
  | k + 1, b => (if okT n a b then [⟨a, b, (b * b + n) / (4 * a)⟩] else []) ++ rowT n a k (b + 1)
def allT (n : Int) : Nat → Int → List Tr
  | 0, _ => []
  | k + 1, a => if 3 * a * a ≤ n then rowT n a (2 * a).toNat (1 - a) ++ allT n k (a + 1) else []
/-- for n to 2^22: a runs to 1182 at most -/
def trs (n : Int) : List Tr := allT n 2000 1
def TP (t : Tr) : List DV := [.v (.int .i64 t.a), .v (.int .i64 t.b), .v (.int .i64 t.c)]
def trI (n : Int) : List (List PV) := (trs n).map fun t => [.a (TP t)]

theorem aT_le {a N : Int} (_h1 : 1 ≤ a) (h : 3 * a * a ≤ N) (hN : N ≤ 4194304) : a ≤ 1183 := by
  rcases Int.lt_or_le 1183 a with h2 | h2
  · have h3 : (1184 : Int) * 1184 ≤ a * a := Int.mul_le_mul (by omega) (by omega) (by omega) (by omega)
    have e : 3 * a * a = 3 * (a * a) := Int.mul_assoc ..
    omega
  · exact h2
theorem aT_sq {a : Int} (h1 : 1 ≤ a ∧ a ≤ 1184) : 0 ≤ 3 * a * a ∧ 3 * a * a ≤ 4205568 := by
  have := sq_b (x := a) (m := 1184) (by omega)
  have e : 3 * a * a = 3 * (a * a) := Int.mul_assoc ..
  omega
theorem cT_b {x y : Int} (hx : 0 ≤ x ∧ x ≤ 6000000) (hy : 1 ≤ y) : 0 ≤ x / y ∧ x / y ≤ 6000000 := ⟨Int.ediv_nonneg hx.1 (by omega), Int.le_trans (Int.ediv_le_self _ hx.1) hx.2⟩

section
variable {n a b : Int} {k : Nat} {r : List Tr}
theorem tr_start (n : Int) : (trs n).drop 0 = allT n (2001 - (1 : Int)).toNat 1 := rfl
theorem tr_in (h : (trs n).drop k = allT n (2001 - a).toNat a) (ha : 1 ≤ a ∧ a ≤ 1184) (hc : 3 * a * a ≤ n) : (trs n).drop k = rowT n a (a + 1 - (1 - a)).toNat (1 - a) ++ allT n (2000 - a).toNat (a + 1) := by
  have e : (2001 - a).toNat = (2000 - a).toNat + 1 := by omega
  rw [h, e, allT, if_pos hc, show (2 * a).toNat = (a + 1 - (1 - a)).toNat by congr 1; omega]
theorem tr_no (h : (trs n).drop k = rowT n a (a + 1 - b).toNat b ++ r) (hb : b ≤ a) (hk : okT n a b = false) : (trs n).drop k = rowT n a (a + 1 - (b + 1)).toNat (b + 1) ++ r := by
  have e : (a + 1 - b).toNat = (a + 1 - (b + 1)).toNat + 1 := by omega
  rw [h, e, rowT, hk]; rfl
theorem tr_yes (h : (trs n).drop k = rowT n a (a + 1 - b).toNat b ++ r) (hb : b ≤ a) (hk : okT n a b = true) : (trs n).drop k = ⟨a, b, (b * b + n) / (4 * a)⟩ :: (rowT n a (a + 1 - (b + 1)).toNat (b + 1) ++ r) := by
  have e : (a + 1 - b).toNat = (a + 1 - (b + 1)).toNat + 1 := by omega
  rw [h, e, rowT, hk]; rfl
theorem tr_get {t : Tr} (h : (trs n).drop k = t :: r) : (trI n)[k]? = some [.a (TP t)] := by
  have h1 : ((trs n).drop k)[0]? = some t := by rw [h]; rfl
  rw [List.getElem?_drop] at h1
  unfold trI
  rw [List.getElem?_map, show (trs n)[k]? = some t by simpa using h1]; rfl
theorem tr_next {t : Tr} (h : (trs n).drop k = t :: r) : (trs n).drop (k + 1) = r := by
  rw [← List.tail_drop, h]; rfl
theorem tr_out (h : (trs n).drop k = rowT n a (a + 1 - b).toNat b ++ allT n (2000 - a).toNat (a + 1)) (hb : ¬ b ≤ a) : (trs n).drop k = allT n (2001 - (a + 1)).toNat (a + 1) := by
  have e : (a + 1 - b).toNat = 0 := by omega
  have e2 : (2001 - (a + 1)).toNat = (2000 - a).toNat := by omega
  rw [h, e, e2]; rfl
theorem tr_end (h : (trs n).drop k = allT n (2001 - a).toNat a) (hc : ¬ 3 * a * a ≤ n) (hk : k ≤ (trs n).length) : k = (trI n).length := by
  have h0 : (trs n).drop k = [] := by
    rw [h]
    cases (2001 - a).toNat with
    | zero => rfl
    | succ k => rw [allT, if_neg hc]
  have := congrArg List.length h0
  rw [List.length_drop] at this
  unfold trI
  simp at this ⊢
  omega
theorem tr_lt {t : Tr} (h : (trs n).drop k = t :: r) : k + 1 ≤ (trs n).length := by
  have := congrArg List.length h
  rw [List.length_drop, List.length_cons] at this
  omega
theorem okT_1 (h : (b * b + n) % (4 * a) ≠ 0) : okT n a b = false := by unfold okT; rw [decide_eq_false h]; rfl
theorem okT_2 (h : (b * b + n) % (4 * a) = 0) (h1 : (b * b + n) / (4 * a) < a) : okT n a b = false := by unfold okT; rw [decide_eq_true h, decide_eq_false (by omega)]; rfl
theorem okT_3 (h : (b * b + n) % (4 * a) = 0) (_h1 : ¬ (b * b + n) / (4 * a) < a) (h2 : b < 0) (h3 : a = (b * b + n) / (4 * a)) : okT n a b = false := by
  unfold okT; rw [decide_eq_true h, decide_eq_true (by omega), decide_eq_true h2, decide_eq_true h3]; rfl
theorem okT_4 (h : (b * b + n) % (4 * a) = 0) (h1 : ¬ (b * b + n) / (4 * a) < a) (h3 : ¬ a = (b * b + n) / (4 * a)) : okT n a b = true := by
  unfold okT; rw [decide_eq_true h, decide_eq_true (by omega), decide_eq_false h3, Bool.and_false]; rfl
theorem okT_5 (h : (b * b + n) % (4 * a) = 0) (h1 : ¬ (b * b + n) / (4 * a) < a) (h2 : ¬ b < 0) : okT n a b = true := by
  unfold okT; rw [decide_eq_true h, decide_eq_true (by omega), decide_eq_false h2]; rfl
end
end Go.AM
end

section
/- Small numbers: parity, residues, powers of 2, greatest common divisors, the symbol. -/
namespace Go.AM
open Go Go.RowKit

theorem wl_zero_iff {x : Int} : ((wl x.natAbs).length : Int) = 0 ↔ x = 0 := wl_len_zero
theorem wl_get0 {m : Nat} (h : 0 < (wl m).length) : (wl m).getD 0 0 = m % 4294967296 := by
  have hm : 0 < m := by
    rcases Nat.eq_zero_or_pos m with e | e
    · subst e; simp [wl_zero] at h
    · exact e
  rw [wl_pos hm]; rfl
def oddB (x : Int) : Bool := decide (x % 2 = 1)
theorem odd_no {x : Int} (h : ¬ ((wl x.natAbs).length : Int) > 0) : false = oddB x := by
  have h1 : ((wl x.natAbs).length : Int) = 0 := by omega
  have h2 := wl_zero_iff.1 h1
  subst h2; rfl
theorem odd_yes {x : Int} (h : ((wl x.natAbs).length : Int) > 0) : ((((wl x.natAbs).getD 0 0 &&& 1 : Nat) : Int) == 1) = oddB x := by
  rw [wl_get0 (by omega), Nat.and_one_is_mod]
  unfold oddB
  rw [Bool.eq_iff_iff, beq_iff_eq, decide_eq_true_iff]
  omega
theorem low_zero {x m : Int} (h : ((wl x.natAbs).length : Int) = 0) : 0 = x % m := by rw [wl_zero_iff.1 h]; simp
theorem low_get {x m : Int} (hm : m = 4 ∨ m = 8) (h : ¬ ((wl x.natAbs).length : Int) = 0) : ((wl x.natAbs).getD 0 0 : Int) % m = (x.natAbs : Int) % m := by
  rw [wl_get0 (by omega)]
  rcases hm with rfl | rfl <;> omega
theorem low_neg {x m : Int} (hm : m = 4 ∨ m = 8) (h : x < 0) (h2 : (x.natAbs : Int) % m > 0) : m - (x.natAbs : Int) % m = x % m := by
  rcases hm with rfl | rfl <;> omega
theorem low_neg0 {x m : Int} (hm : m = 4 ∨ m = 8) (h : x < 0) (h2 : ¬ (x.natAbs : Int) % m > 0) : (x.natAbs : Int) % m = x % m := by
  rcases hm with rfl | rfl <;> omega
theorem low_pos {x m : Int} (h : ¬ x < 0) : (x.natAbs : Int) % m = x % m := by
  rw [show (x.natAbs : Int) = x by omega]

/-- a number without its factors 2, and how many these are -/
def twG : Nat → Int → Int × Int
  | 0, a => (a, 0)
  | f + 1, a => if oddB a then (a, 0) else ((twG f (a / 2)).1, (twG f (a / 2)).2 + 1)
def tw (a : Int) : Int × Int := twG a.natAbs a
theorem twG_more : ∀ (f : Nat) (a : Int), a ≠ 0 → a.natAbs ≤ f → twG (f + 1) a = twG f a
  | 0, a, h0, h => by omega
  | f + 1, a, h0, h => by
    have e1 : twG (f + 1 + 1) a = if oddB a then (a, 0) else ((twG (f + 1) (a / 2)).1, (twG (f + 1) (a / 2)).2 + 1) := rfl
    have e2 : twG (f + 1) a = if oddB a then (a, 0) else ((twG f (a / 2)).1, (twG f (a / 2)).2 + 1) := rfl
    rw [e1, e2]
    split
    · rfl
    · next hp =>
      have h2 : a % 2 = 0 := by
        have : ¬ a % 2 = 1 := fun e => hp (by unfold oddB; rw [e]; rfl)
        omega
      rw [twG_more f (a / 2) (by omega) (by omega)]
theorem twG_any {f : Nat} {a : Int} (h0 : a ≠ 0) (h : a.natAbs ≤ f) : twG f a = tw a := by
  unfold tw
  induction f with
  | zero => omega
  | succ f ih =>
    rcases Nat.lt_or_ge f a.natAbs with h1 | h1
    · have : a.natAbs = f + 1 := by omega
      rw [this]
    · rw [twG_more f a h0 h1]; exact ih h1
theorem tw_odd {a : Int} (h : oddB a = true) : tw a = (a, 0) := by
  unfold tw
  cases a.natAbs with
  | zero => rfl
  | succ n => rw [twG, if_pos h]
theorem tw_even {a : Int} (h0 : a ≠ 0) (h : oddB a = false) : tw a = ((tw (a / 2)).1, (tw (a / 2)).2 + 1) := by
  have h2 : a % 2 = 0 := by
    have : ¬ a % 2 = 1 := fun e => by unfold oddB at h; rw [e] at h; cases h
    omega
  have h3 : a.natAbs = (a.natAbs - 1) + 1 := by omega
  have h4 : tw a = twG ((a.natAbs - 1) + 1) a := by unfold tw; rw [← h3]
  rw [h4, twG, if_neg (by rw [h]; simp), twG_any (a := a / 2) (f := a.natAbs - 1) (by omega) (by omega)]
/-- a round of 'twos' -/
theorem tw_step {a0 b : Int} {k : Int} (h0 : b ≠ 0) (ho : oddB b = false) (h : tw a0 = ((tw b).1, (tw b).2 + k)) : tw a0 = ((tw (b / 2)).1, (tw (b / 2)).2 + (k + 1)) := by
  rw [h, tw_even h0 ho]
  simp only [Prod.mk.injEq, true_and]
  omega
theorem tw_stop {a0 b : Int} {k : Int} (ho : oddB b = true) (h : tw a0 = ((tw b).1, (tw b).2 + k)) : tw a0 = (b, k) := by
  rw [h, tw_odd ho]; simp
theorem tw_abs : ∀ (n : Nat) (a : Int), a.natAbs ≤ n → a ≠ 0 → (tw a).1.natAbs ≤ a.natAbs ∧ (tw a).1 ≠ 0 ∧ oddB (tw a).1 = true ∧ 0 ≤ (tw a).2 ∧ (tw a).2 ≤ a.natAbs ∧ (0 < a → 0 < (tw a).1)
  | 0, a, h, h0 => by omega
  | n + 1, a, h, h0 => by
    cases ho : oddB a with
    | true => rw [tw_odd ho]; exact ⟨Nat.le_refl _, h0, ho, by simp only; omega, by simp only; omega, fun h => h⟩
    | false =>
      have h2 : a % 2 = 0 := by
        have : ¬ a % 2 = 1 := fun e => by unfold oddB at ho; rw [e] at ho; cases ho
        omega
      obtain ⟨i1, i2, i3, i4, i5, i6⟩ := tw_abs n (a / 2) (by omega) (by omega)
      rw [tw_even h0 ho]
      exact ⟨by simp only; omega, i2, i3, by simp only; omega, by simp only; omega, fun hp => i6 (by omega)⟩

/-- (a/2) by the residue modulo 8 -/
def sg8 (a : Int) : Int := if a % 8 = 1 then 1 else if a % 8 = 3 then -1 else if a % 8 = 5 then -1 else if a % 8 = 7 then 1 else 0
/-- the rounds of the symbol: the sign, the two numbers -/
def krGo : Nat → Int → Int → Int → Int × Int
  | 0, k, _, n => (k, n)
  | f + 1, k, a, n => if 0 < a then
      let k1 := if (tw a).2 % 2 = 1 then k * sg8 n else k
      let k2 := if (tw a).1 % 4 = 3 ∧ n % 4 = 3 then -k1 else k1
      krGo f k2 (n % (tw a).1) (tw a).1
    else (k, n)
/-- the symbol -/
def kr (a n : Int) : Int :=
  if n = 0 then (if (a.natAbs : Int) = 1 then 1 else 0)
  else if oddB a = false ∧ oddB n = false then 0
  else
    let k0 : Int := if n < 0 ∧ a < 0 then -1 else 1
    let n1 : Int := n.natAbs
    let k1 := if (tw n1).2 % 2 = 1 then k0 * sg8 a else k0
    let r := krGo (a % (tw n1).1).natAbs.succ k1 (a % (tw n1).1) (tw n1).1
    if r.2 = 1 then r.1 else 0
end Go.AM
end

section
/- Small numbers, continued: what the loops find. -/
namespace Go.AM
open Go Go.RowKit

theorem gcd_tmod {a b : Int} (hb : b ≠ 0) (_ha : -9223372036854775807 ≤ a ∧ a ≤ 9223372036854775807) (hb2 : -9223372036854775807 ≤ b ∧ b ≤ 9223372036854775807) :
    Int.gcd b (a.tmod b) = Int.gcd a b ∧ (-9223372036854775807 ≤ a.tmod b ∧ a.tmod b ≤ 9223372036854775807) ∧ (a.tmod b).natAbs < b.natAbs := by
  have h1 : (a.tmod b).natAbs = a.natAbs % b.natAbs := Int.natAbs_tmod a b
  have h2 : a.natAbs % b.natAbs < b.natAbs := Nat.mod_lt _ (by omega)
  refine ⟨?_, ?_, by omega⟩
  · unfold Int.gcd
    rw [h1, Nat.gcd_comm b.natAbs, ← Nat.gcd_rec, Nat.gcd_comm]
  · omega
theorem gcd_end {a b x y : Int} (hb : b = 0) (h : Int.gcd a b = Int.gcd x y) : (if 0 - a > a then 0 - a else a) = ((Int.gcd x y : Nat) : Int) := by
  subst hb
  rw [← h]
  unfold Int.gcd
  simp only [Int.natAbs_zero, Nat.gcd_zero_right]
  split <;> omega
/-- whether -n is a discriminant -/
def isD (x : Int) : Bool := decide (0 < x) && (decide (x % 4 = 0) || decide (x % 4 = 3))
theorem isD_0 {x : Int} (h : x > 0) (h1 : x % 4 = 0) : true = isD x := by unfold isD; rw [decide_eq_true h, decide_eq_true h1]; rfl
theorem isD_1 {x : Int} (h : x > 0) (h1 : ¬ x % 4 = 0) : (x % 4 == 3) = isD x := by unfold isD; rw [decide_eq_true h, decide_eq_false h1]; rw [Bool.eq_iff_iff]; simp
theorem isD_2 {x : Int} (h : ¬ x > 0) : false = isD x := by unfold isD; rw [decide_eq_false h]; rfl
/-- no divisor from d on whose square is at most x -/
def primeGo (x : Int) : Nat → Int → Bool
  | 0, _ => true
  | f + 1, d => if d * d ≤ x then (if x % d = 0 then false else primeGo x f (d + 1)) else true
def primeB (x : Int) : Bool := primeGo x 1000 2
section
variable {x d : Int}
theorem pr_le (_h1 : 2 ≤ d) (h : d * d ≤ x) (hx : x ≤ 1000000) : d ≤ 1000 := by
  rcases Int.lt_or_le 1000 d with h2 | h2
  · have h3 : (1001 : Int) * 1001 ≤ d * d := Int.mul_le_mul (by omega) (by omega) (by omega) (by omega)
    omega
  · exact h2
theorem pr_go (h : primeGo x (1002 - d).toNat d = primeB x) (hd : d ≤ 1001) (h1 : d * d ≤ x) (h2 : ¬ x % d = 0) : primeGo x (1002 - (d + 1)).toNat (d + 1) = primeB x := by
  have e : (1002 - d).toNat = (1002 - (d + 1)).toNat + 1 := by omega
  rw [← h, e, primeGo, if_pos h1, if_neg h2]
theorem prm_no (h : primeGo x (1002 - d).toNat d = primeB x) (hd : d ≤ 1001) (h1 : d * d ≤ x) (h2 : x % d = 0) : false = primeB x := by
  have e : (1002 - d).toNat = (1002 - (d + 1)).toNat + 1 := by omega
  rw [← h, e, primeGo, if_pos h1, if_pos h2]
theorem prm_yes (h : primeGo x (1002 - d).toNat d = primeB x) (hd : d ≤ 1001) (h1 : ¬ d * d ≤ x) (hx : 2 ≤ x) : decide (x > 1) = primeB x := by
  have e : (1002 - d).toNat = (1002 - (d + 1)).toNat + 1 := by omega
  rw [← h, e, primeGo, if_neg h1]
  exact decide_eq_true (by omega)
end
end Go.AM
end

section
/- The symbol: its rounds. -/
namespace Go.AM
open Go Go.RowKit

theorem pow_lt_gen {k n : Nat} {x : Int} (hx : L n x) (h : 2 ^ k ≤ x.natAbs) : k < 2 ^ n := by
  unfold L at hx
  generalize 2 ^ n = e at hx ⊢
  exact (Nat.pow_lt_pow_iff_right (a := 2) (by omega)).1 (Nat.lt_of_le_of_lt h hx)
theorem pow_lt_of {k : Nat} {x : Int} (hx : L 40 x) (h : 2 ^ k ≤ x.natAbs) : k < 1099511627776 := Nat.lt_of_lt_of_eq (pow_lt_gen hx h) (by decide)
structure TwI (x b k : Int) : Prop where
  ne : b ≠ 0
  lb : L 40 b
  tw : tw x = ((AM.tw b).1, (AM.tw b).2 + k)
  k0 : 0 ≤ k
  le : b.natAbs * 2 ^ k.toNat ≤ x.natAbs
theorem TwI.start {x : Int} (hx : L 40 x) (h : x ≠ 0) : TwI x x 0 := ⟨h, hx, by simp, by omega, by simp⟩
theorem TwI.lt {x b k : Int} (hx : L 40 x) (h : TwI x b k) : k < 1099511627776 := by
  have h1 : 1 * 2 ^ k.toNat ≤ b.natAbs * 2 ^ k.toNat := Nat.mul_le_mul_right _ (by have := h.ne; omega)
  have := pow_lt_of (k := k.toNat) hx (by have := h.le; omega)
  have := h.k0
  omega
theorem TwI.next {x b k : Int} (h : TwI x b k) (ho : oddB b = false) : TwI x (b / 2) (k + 1) ∧ (b / 2).natAbs < b.natAbs := by
  have h2 : b % 2 = 0 := by
    have : ¬ b % 2 = 1 := fun e => by unfold oddB at ho; rw [e] at ho; cases ho
    omega
  have hne := h.ne
  have hb : b.natAbs = 2 * (b / 2).natAbs := by omega
  refine ⟨⟨by omega, L.of_le h.lb (by omega), tw_step hne ho h.tw, by have := h.k0; omega, ?_⟩, by omega⟩
  have e : (k + 1).toNat = k.toNat + 1 := by have := h.k0; omega
  have hl := h.le
  rw [hb] at hl
  rw [e, Nat.pow_succ]
  have e2 : (b / 2).natAbs * (2 ^ k.toNat * 2) = 2 * (b / 2).natAbs * 2 ^ k.toNat := by
    rw [Nat.mul_comm (2 ^ k.toNat) 2, ← Nat.mul_assoc, Nat.mul_comm _ 2]
  omega
theorem tw_L {x : Int} (hx : L 40 x) (h0 : x ≠ 0) : LB (tw x).1 40 := ⟨L.of_le hx (tw_abs _ x (Nat.le_refl _) h0).1⟩
theorem tw_c {x : Int} (hx : L 40 x) (h0 : x ≠ 0) : 0 ≤ (tw x).2 ∧ (tw x).2 < 1099511627776 := by
  have key : ∀ (n : Nat) (a : Int), a.natAbs ≤ n → a ≠ 0 → (tw a).1.natAbs * 2 ^ (tw a).2.toNat ≤ a.natAbs := by
    intro n
    induction n with
    | zero => intro a h h0; omega
    | succ n ih =>
      intro a h h0
      cases ho : oddB a with
      | true => rw [tw_odd ho]; simp
      | false =>
        have h2 : a % 2 = 0 := by
          have : ¬ a % 2 = 1 := fun e => by unfold oddB at ho; rw [e] at ho; cases ho
          omega
        have i1 := ih (a / 2) (by omega) (by omega)
        have i2 := (tw_abs _ (a / 2) (Nat.le_refl _) (by omega)).2.2.2.1
        rw [tw_even h0 ho]
        simp only
        have e : ((tw (a / 2)).2 + 1).toNat = (tw (a / 2)).2.toNat + 1 := by omega
        have hb : a.natAbs = 2 * (a / 2).natAbs := by omega
        rw [e, Nat.pow_succ]
        have e2 : (tw (a / 2)).1.natAbs * (2 ^ (tw (a / 2)).2.toNat * 2) = 2 * ((tw (a / 2)).1.natAbs * 2 ^ (tw (a / 2)).2.toNat) := by
          rw [← Nat.mul_assoc, Nat.mul_comm _ 2]
        omega
  have h1 := key _ x (Nat.le_refl _) h0
  have h2 := tw_abs _ x (Nat.le_refl _) h0
  have h3 : 1 * 2 ^ (tw x).2.toNat ≤ (tw x).1.natAbs * 2 ^ (tw x).2.toNat := Nat.mul_le_mul_right _ (by omega)
  have := pow_lt_of (k := (tw x).2.toNat) hx (by omega)
  omega

def sgL : List Value := [.int .i64 0, .int .i64 1, .int .i64 0, .int .i64 (-1), .int .i64 0, .int .i64 (-1), .int .i64 0, .int .i64 1]
theorem sg8_get (x : Int) : ((sgL.drop (x % 8).toNat).map DV.v)[0]? = some (.v (.int .i64 (sg8 x))) := by
  have h1 := Int.emod_nonneg x (show (8 : Int) ≠ 0 by omega)
  have h2 := Int.emod_lt_of_pos x (show (0 : Int) < 8 by omega)
  unfold sg8
  generalize x % 8 = r at *
  have : r = 0 ∨ r = 1 ∨ r = 2 ∨ r = 3 ∨ r = 4 ∨ r = 5 ∨ r = 6 ∨ r = 7 := by omega
  rcases this with rfl | rfl | rfl | rfl | rfl | rfl | rfl | rfl <;> rfl
theorem sg8_b (x : Int) : -1 ≤ sg8 x ∧ sg8 x ≤ 1 := by unfold sg8; repeat' split <;> omega
theorem k_sg {k x : Int} (h : -1 ≤ k ∧ k ≤ 1) : -1 ≤ k * sg8 x ∧ k * sg8 x ≤ 1 := by
  have h2 := sg8_b x
  generalize sg8 x = s at *
  have : k = -1 ∨ k = 0 ∨ k = 1 := by omega
  rcases this with rfl | rfl | rfl <;> omega

/-- a round of the symbol -/
structure KrI (R : Int × Int) (f : Nat) (k a n : Int) : Prop where
  hk : -1 ≤ k ∧ k ≤ 1
  a0 : 0 ≤ a
  n0 : 0 < n
  la : L 40 a
  ln : L 40 n
  hf : a.natAbs < f
  go : krGo f k a n = R
def k1F (k a n : Int) : Int := if (tw a).2 % 2 = 1 then k * sg8 n else k
def k2F (k1 a n : Int) : Int := if (tw a).1 % 4 = 3 ∧ n % 4 = 3 then -k1 else k1
theorem KrI.next {R : Int × Int} {f : Nat} {k a n : Int} (h : KrI R f k a n) (ha : 0 < a) :
    KrI R (f - 1) (k2F (k1F k a n) a n) (n % (tw a).1) (tw a).1 ∧ (n % (tw a).1).natAbs < a.natAbs := by
  have h1 := tw_abs _ a (Nat.le_refl _) (by omega)
  have hp := h1.2.2.2.2.2 ha
  have h3 := Int.emod_nonneg n (show (tw a).1 ≠ 0 by omega)
  have h4 := Int.emod_lt_of_pos n hp
  have hk1 : -1 ≤ k1F k a n ∧ k1F k a n ≤ 1 := by
    unfold k1F; split
    · exact k_sg h.hk
    · exact h.hk
  have hla := h.la
  have hf := h.hf
  refine ⟨⟨?_, h3, hp, L.of_le hla (by omega), L.of_le hla h1.1, by omega, ?_⟩, by omega⟩
  · unfold k2F; split <;> omega
  · have e : f = (f - 1) + 1 := by omega
    have := h.go
    rw [e, krGo, if_pos ha] at this
    exact this
theorem KrI.stop {R : Int × Int} {f : Nat} {k a n : Int} (h : KrI R f k a n) (ha : ¬ 0 < a) : R = (k, n) := by
  have e : f = (f - 1) + 1 := by have := h.hf; omega
  have := h.go
  rw [e, krGo, if_neg ha] at this
  exact this.symm
def k0K (a n : Int) : Int := if n < 0 ∧ a < 0 then -1 else 1
def k1K (a n : Int) : Int := if (tw (n.natAbs : Int)).2 % 2 = 1 then k0K a n * sg8 a else k0K a n
def RK_ (a n : Int) : Int × Int := krGo (a % (tw (n.natAbs : Int)).1).natAbs.succ (k1K a n) (a % (tw (n.natAbs : Int)).1) (tw (n.natAbs : Int)).1
theorem k0K_b (a n : Int) : -1 ≤ k0K a n ∧ k0K a n ≤ 1 := by unfold k0K; split <;> omega
theorem k1K_b (a n : Int) : -1 ≤ k1K a n ∧ k1K a n ≤ 1 := by
  unfold k1K; split
  · exact k_sg (k0K_b a n)
  · exact k0K_b a n
theorem kr_0 {a n : Int} (h : n = 0) (h1 : (a.natAbs : Int) = 1) : 1 = kr a n := by unfold kr; rw [if_pos h, if_pos h1]
theorem kr_00 {a n : Int} (h : n = 0) (h1 : ¬ (a.natAbs : Int) = 1) : 0 = kr a n := by unfold kr; rw [if_pos h, if_neg h1]
theorem kr_even {a n : Int} (h : ¬ n = 0) (h1 : oddB a = false) (h2 : oddB n = false) : 0 = kr a n := by unfold kr; rw [if_neg h, if_pos ⟨h1, h2⟩]
theorem kr_go {a n : Int} (h : ¬ n = 0) (h1 : ¬ (oddB a = false ∧ oddB n = false)) : kr a n = if (RK_ a n).2 = 1 then (RK_ a n).1 else 0 := by unfold kr; rw [if_neg h, if_neg h1]; rfl
theorem KrI.start {a n : Int} (h : ¬ n = 0) (_ha : L 40 a) (hn : L 40 n) : KrI (RK_ a n) (a % (tw (n.natAbs : Int)).1).natAbs.succ (k1K a n) (a % (tw (n.natAbs : Int)).1) (tw (n.natAbs : Int)).1 := by
  have h1 := tw_abs _ (n.natAbs : Int) (Nat.le_refl _) (by omega)
  have hp := h1.2.2.2.2.2 (by omega)
  have h3 := Int.emod_nonneg a (show (tw (n.natAbs : Int)).1 ≠ 0 by omega)
  have h4 := Int.emod_lt_of_pos a hp
  exact ⟨k1K_b a n, h3, hp, L.of_le hn (by omega), L.of_le hn (by omega), Nat.lt_succ_self _, rfl⟩
end Go.AM
end

section
/- The symbol, as its walk asks. -/
namespace Go.AM
open Go Go.RowKit
theorem neg_abs {m : Int} (h : m < 0) : ((m.natAbs : Nat) : Int) = -m := by omega
theorem pos_abs {m : Int} (h : ¬ m < 0) : ((m.natAbs : Nat) : Int) = m := by omega
theorem k1F_b {k a n : Int} (h : -1 ≤ k ∧ k ≤ 1) : -1 ≤ k1F k a n ∧ k1F k a n ≤ 1 := by
  unfold k1F; split
  · exact k_sg h
  · exact h
end Go.AM
end

section
/- Lists of forms, class numbers, sums, as far as the rounds have come. -/
namespace Go.AM
open Go Go.RowKit

/-! ### a function that hands a closure back -/
def EndsA (fn : Func) (res : AV) (e : Exit) (s : St) : Prop := (e = .normal ∨ e = .ret) ∧ ∃ t, fn.results = #[.tmp t] ∧ s.regs t = res
theorem callA_of {P : Program} {f : FuncId} {fn : Func} {c : Code} {N : Nat} {args : List AV} {res : AV} (hf : P.funcs[f]? = some fn) (hnm : (fn.name == "runtime.NumGoroutine") = false) (hb : fn.body = some c) (hN : fn.ntmps = N) (hna : args.length ≤ N)
    (hres : men res = []) (h : AWp P false N 0 c (EndsA fn res) ⟨fun t => args.getD t .junk, O⟩) : Call0 P f args res := by
  refine ⟨⟨fn, hf, hnm, by rw [hb]; rfl⟩, ?_⟩
  intro hh r w cargs hra hbf
  have hlen : cargs.size = args.length := by
    have : ∀ (as : List AV) (xs : List Value), RepArgs hh r as xs → xs.length = as.length := by
      intro as
      induction as with
      | nil => intro xs h; cases xs with
        | nil => rfl
        | cons _ _ => exact h.elim
      | cons p ps ih => intro xs h; cases xs with
        | nil => exact h.elim
        | cons x xs => simp [ih xs h.2]
    simpa using this _ _ hra
  have hget : ∀ (as : List AV) (xs : List Value), RepArgs hh r as xs → ∀ (t : Nat) (x : AV), as[t]? = some x → ∃ y, xs[t]? = some y ∧ AVRep hh r x y := by
    intro as
    induction as with
    | nil => intro xs _ t x h; simp at h
    | cons p ps ih => intro xs h t x hx; cases xs with
      | nil => exact h.elim
      | cons y ys => cases t with
        | zero => simp at hx; subst hx; exact ⟨y, rfl, h.1⟩
        | succ t => exact ih ys h.2 t x (by simpa using hx)
  refine callsW' (n := 0) (callsIn_of_wp_marks hf hb trivial ?_)
  let C : Ctx := ⟨w, hh, fun _ => False, r, 0, true⟩
  refine wpIn_mono (h none (fun _ => rfl) C hh r _ w ⟨rfl, rfl⟩ ⟨?_, trivial, ?_, ⟨hbf.ow, hbf.inj, hbf.hi, hbf.ho, rfl, rfl, rfl, Nat.le_refl _, fun _ _ _ => rfl, fun m k hm => absurd rfl hm, .refl _, fun k hk => .inl hk, hbf.gl, fun _ _ => rfl, fun m b j hb => by cases hb⟩⟩) ?_
  · simp [hN]; omega
  · intro t
    show AVRep hh r (args.getD t .junk) _
    rw [List.getD_eq_getElem?_getD]
    cases ht : args[t]? with
    | none => exact trivial
    | some x =>
      obtain ⟨y, h1, h2⟩ := hget _ _ hra t x ht
      have h1' : cargs[t]? = some y := by rw [← Array.getElem?_toList]; exact h1
      have hlt : t < cargs.size := (Array.getElem?_eq_some_iff.1 h1').1
      simp only [Array.getD_eq_getD_getElem?, Array.getElem?_append_left hlt, h1', Option.getD_some]
      exact h2
  · rintro e a' w' ⟨s', h', r', ⟨he, t, hrs, hreg⟩, hc⟩
    have fin : LeavesInM (Wd none) 0 P fn a'.tmps (fun e w' => ∃ v h', e = .returned v ∧ AVRep h' r res v ∧ After hh r O w h' O w') a'.defers .returning w' := by
      refine leave_marks hc ?_
      intro h' w' hc
      have hx := hc.rg t
      rw [hreg] at hx
      have hv1 : (results fn a'.tmps).run P w' = .ok (a'.tmps.getD t undef) w' := by
        rw [results_eq, hrs]
        simp [resOne]
      have hk := hc.wk
      refine ⟨_, hv1, _, h', rfl, AVRep.rebind _ _ (fun m hm => by rw [hres] at hm; simp at hm) hx, ?_⟩
      refine ⟨fun m b e => (by cases e), fun m hm => absurd rfl hm, hk.hi, fun m k hm => absurd rfl hm, hk.os, hk.tape, hk.output, hk.size, fun k h1 _ => hk.old k h1 (fun x => x), hk.hg, fun k e => ?_⟩
      rcases hk.hn k e with g | g | g
      · exact .inl g
      · exact .inr (.inl g)
      · exact g.elim
    rcases he with rfl | rfl <;> exact fin

/-! ### the lists -/
def Tr.fm (t : Tr) : Fm := ⟨t.a, t.b, t.c⟩
theorem take_next {α : Type} {l : List α} {k : Nat} {x : α} (h : l[k]? = some x) : l.take (k + 1) = l.take k ++ [x] := by
  rw [List.take_add_one, h]; rfl
def LK (n : Int) (p : Fm → Bool) (k : Nat) : List Fm := (((trs n).take k).map Tr.fm).filter p
def LW (n : Int) (p : Fm → Bool) : List Fm := ((trs n).map Tr.fm).filter p
theorem LK_yes {n : Int} {p : Fm → Bool} {k : Nat} {t : Tr} (h : (trs n)[k]? = some t) (hp : p t.fm = true) : LK n p (k + 1) = LK n p k ++ [t.fm] := by
  unfold LK; rw [take_next h]; simp [hp]
theorem LK_no {n : Int} {p : Fm → Bool} {k : Nat} {t : Tr} (h : (trs n)[k]? = some t) (hp : p t.fm = false) : LK n p (k + 1) = LK n p k := by
  unfold LK; rw [take_next h]; simp [hp]
theorem trI_len (n : Int) : (trI n).length = (trs n).length := by unfold trI; simp
theorem LK_end (n : Int) (p : Fm → Bool) : LK n p (trI n).length = LW n p := by unfold LK LW; rw [trI_len, List.take_length]
theorem trI_get {n : Int} {k : Nat} {x : List PV} (h : (trI n)[k]? = some x) : ∃ t, (trs n)[k]? = some t ∧ x = [.a (TP t)] := by
  unfold trI at h
  rw [List.getElem?_map] at h
  cases ht : (trs n)[k]? with
  | none => rw [ht] at h; cases h
  | some t => rw [ht] at h; cases h; exact ⟨t, rfl, rfl⟩
theorem trI_one (n : Int) : ∀ x ∈ trI n, x.length = 1 := by
  intro x hx
  unfold trI at hx
  obtain ⟨t, _, rfl⟩ := List.mem_map.1 hx
  rfl
theorem rowT_len (n a : Int) : ∀ (k : Nat) (b : Int), (rowT n a k b).length ≤ k
  | 0, _ => Nat.le_refl _
  | k + 1, b => by
    unfold rowT
    rw [List.length_append]
    have := rowT_len n a k (b + 1)
    split <;> simp <;> omega
theorem allT_len (n : Int) : ∀ (k : Nat) (a : Int), 1 ≤ a → a + k ≤ 2001 → (allT n k a).length ≤ k * 4002
  | 0, _, _, _ => by simp [allT]
  | k + 1, a, h1, h2 => by
    unfold allT
    split
    · rw [List.length_append]
      have i1 := rowT_len n a (2 * a).toNat (1 - a)
      have i2 := allT_len n k (a + 1) (by omega) (by omega)
      omega
    · simp
theorem trs_len (n : Int) : (trs n).length ≤ 8004000 := allT_len n 2000 1 (by omega) (by omega)
theorem LK_len (n : Int) (p : Fm → Bool) (k : Nat) : (LK n p k).length ≤ 8004000 := by
  unfold LK
  have h1 := List.length_filter_le p (((trs n).take k).map Tr.fm)
  rw [List.length_map, List.length_take] at h1
  have := trs_len n
  omega
theorem mem_rowT {n a : Int} {t : Tr} : ∀ {k : Nat} {b : Int}, t ∈ rowT n a k b → ∃ b', b ≤ b' ∧ b' < b + k ∧ okT n a b' = true ∧ t = ⟨a, b', (b' * b' + n) / (4 * a)⟩
  | 0, b, h => by simp [rowT] at h
  | k + 1, b, h => by
    unfold rowT at h
    rw [List.mem_append] at h
    rcases h with h | h
    · split at h
      · next hk => simp at h; exact ⟨b, by omega, by omega, hk, h⟩
      · simp at h
    · obtain ⟨b', h1, h2, h3, h4⟩ := mem_rowT h
      exact ⟨b', by omega, by omega, h3, h4⟩
theorem mem_allT {n : Int} {t : Tr} : ∀ {k : Nat} {a : Int}, 1 ≤ a → t ∈ allT n k a → ∃ a' b', a ≤ a' ∧ a' < a + k ∧ 3 * a' * a' ≤ n ∧ 1 - a' ≤ b' ∧ b' ≤ a' ∧ okT n a' b' = true ∧ t = ⟨a', b', (b' * b' + n) / (4 * a')⟩
  | 0, a, _, h => by simp [allT] at h
  | k + 1, a, ha, h => by
    unfold allT at h
    split at h
    · next hk =>
      rw [List.mem_append] at h
      rcases h with h | h
      · obtain ⟨b', h1, h2, h3, h4⟩ := mem_rowT h
        exact ⟨a, b', by omega, by omega, hk, h1, by omega, h3, h4⟩
      · obtain ⟨a', b', h1, h2, h3⟩ := mem_allT (by omega) h
        exact ⟨a', b', by omega, by omega, h3⟩
    · simp at h
structure TrB (n : Int) (t : Tr) : Prop where
  a1 : 1 ≤ t.a
  a2 : t.a ≤ 2000
  sq : 3 * t.a * t.a ≤ n
  b1 : 1 - t.a ≤ t.b
  b2 : t.b ≤ t.a
  md : (t.b * t.b + n) % (4 * t.a) = 0
  c : t.c = (t.b * t.b + n) / (4 * t.a)
  ac : t.a ≤ t.c
  bc : ¬ (t.b < 0 ∧ t.a = t.c)
theorem trs_mem {n : Int} {t : Tr} (h : t ∈ trs n) : TrB n t := by
  obtain ⟨a, b, h1, h2, h3, h4, h5, h6, rfl⟩ := mem_allT (by omega) h
  unfold okT at h6
  rw [Bool.and_eq_true, Bool.and_eq_true, decide_eq_true_iff, decide_eq_true_iff] at h6
  refine ⟨h1, by simp only; omega, h3, h4, h5, h6.1, rfl, h6.2.1, ?_⟩
  rintro ⟨g1, g2⟩
  have := h6.2.2
  simp [show b < 0 from g1] at this
  exact this g2
theorem trs_bound {n : Int} {t : Tr} (h : t ∈ trs n) (hn : n ≤ 4194304) : (0 < t.a ∧ t.a ≤ 2000) ∧ (-2000 ≤ t.b ∧ t.b ≤ 2000) ∧ 0 < t.c ∧ t.c ≤ 10000000 := by
  have k := trs_mem h
  have h1 := k.a1; have h2 := k.a2; have h3 := k.b1; have h4 := k.b2; have h5 := k.ac; have h6 := k.sq
  have qs := sq_b (x := t.b) (m := 2000) (by omega)
  have qa := sq_nonneg' t.a
  have e : 3 * t.a * t.a = 3 * (t.a * t.a) := Int.mul_assoc ..
  have hc : t.c ≤ t.b * t.b + n := by rw [k.c]; exact Int.ediv_le_self _ (by omega)
  omega
/-! class numbers -/
def prT (t : Tr) : Bool := decide (Int.gcd (Int.gcd t.a t.b : Nat) t.c = 1)
def clK (n : Int) (k : Nat) : Int := (((trs n).take k).filter prT).length
def cls (n : Int) : Int := ((trs n).filter prT).length
theorem clK_yes {n : Int} {k : Nat} {t : Tr} (h : (trs n)[k]? = some t) (hp : prT t = true) : clK n (k + 1) = clK n k + 1 := by
  unfold clK; rw [take_next h]; simp [hp]
theorem clK_no {n : Int} {k : Nat} {t : Tr} (h : (trs n)[k]? = some t) (hp : prT t = false) : clK n (k + 1) = clK n k := by
  unfold clK; rw [take_next h]; simp [hp]
theorem clK_end (n : Int) : clK n (trI n).length = cls n := by unfold clK cls; rw [trI_len, List.take_length]
theorem clK_b (n : Int) (k : Nat) : 0 ≤ clK n k ∧ clK n k ≤ 8004000 := by
  unfold clK
  have h1 := List.length_filter_le prT ((trs n).take k)
  rw [List.length_take] at h1
  have := trs_len n
  omega
theorem cls_b (n : Int) : 0 ≤ cls n ∧ cls n ≤ 8004000 := by rw [← clK_end]; exact clK_b n _
theorem prT_of {t : Tr} : (((Int.gcd (Int.gcd t.a t.b : Nat) t.c : Nat) : Int) == 1) = prT t := by
  unfold prT; rw [Bool.eq_iff_iff]; simp; omega
def wT (t : Tr) : Int := if t.a = t.b ∧ t.b = t.c then 4 else if t.b = 0 ∧ t.a = t.c then 6 else 12
def sumI : List Int → Int
  | [] => 0
  | x :: l => x + sumI l
theorem sumI_snoc (l : List Int) (x : Int) : sumI (l ++ [x]) = sumI l + x := by
  induction l with
  | nil => simp [sumI]
  | cons y l ih => simp only [List.cons_append, sumI, ih]; omega
def hwK (n : Int) (k : Nat) : Int := sumI (((trs n).take k).map wT)
def hws (n : Int) : Int := sumI ((trs n).map wT)
theorem hwK_next {n : Int} {k : Nat} {t : Tr} (h : (trs n)[k]? = some t) : hwK n (k + 1) = hwK n k + wT t := by
  unfold hwK; rw [take_next h, List.map_append, List.map_cons, List.map_nil, sumI_snoc]
theorem hwK_end (n : Int) : hwK n (trI n).length = hws n := by unfold hwK hws; rw [trI_len, List.take_length]
theorem wT_b (t : Tr) : 0 ≤ wT t ∧ wT t ≤ 12 := by unfold wT; repeat' split <;> omega
theorem sumI_b : ∀ (l : List Tr), 0 ≤ sumI (l.map wT) ∧ sumI (l.map wT) ≤ 12 * l.length
  | [] => by simp [sumI]
  | x :: l => by
    have := sumI_b l; have := wT_b x
    simp only [List.map_cons, sumI, List.length_cons]; omega
theorem hwK_b (n : Int) (k : Nat) : 0 ≤ hwK n k ∧ hwK n k ≤ 96048000 := by
  unfold hwK
  have h1 := sumI_b ((trs n).take k)
  rw [List.length_take] at h1
  have := trs_len n
  omega
theorem hws_b (n : Int) : 0 ≤ hws n ∧ hws n ≤ 96048000 := by rw [← hwK_end]; exact hwK_b n _
/-! the size of a discriminant -/
def szE (d : Int) : Int := if 0 ≤ d ∨ d % 4 > 1 then 5 else if -d > 4194304 then 2 else 0
def szN (d : Int) : Int := if szE d = 0 then -d else 0
theorem sz_5 {d : Int} (h : 0 ≤ d ∨ d % 4 > 1) : AV.t [PE 0, PE 5] = AV.t [PE (szN d), PE (szE d)] := by
  have : szE d = 5 := by unfold szE; rw [if_pos h]
  unfold szN; rw [this]; rfl
theorem sz_2 {d : Int} (h : ¬ (0 ≤ d ∨ d % 4 > 1)) (h1 : -d > 4194304) : AV.t [PE 0, PE 2] = AV.t [PE (szN d), PE (szE d)] := by
  have : szE d = 2 := by unfold szE; rw [if_neg h, if_pos h1]
  unfold szN; rw [this]; rfl
theorem sz_0 {d : Int} (h : ¬ (0 ≤ d ∨ d % 4 > 1)) (h1 : ¬ -d > 4194304) : AV.t [PE (-d), PE 0] = AV.t [PE (szN d), PE (szE d)] := by
  have : szE d = 0 := by unfold szE; rw [if_neg h, if_neg h1]
  unfold szN; rw [this]; rfl
theorem szE_0 {d : Int} (h : szE d = 0) : szN d = -d ∧ 0 < -d ∧ -d ≤ 4194304 ∧ d % 4 ≤ 1 := by
  have e : szN d = -d := by unfold szN; rw [if_pos h]
  unfold szE at h
  split at h
  · cases h
  · split at h
    · cases h
    · exact ⟨e, by omega, by omega, by omega⟩
end Go.AM
end

section
/- Class numbers, Hurwitz class numbers, conductors, as their walks ask. -/
namespace Go.AM
open Go Go.RowKit

theorem small_L {a : Int} (h : -100000000 ≤ a ∧ a ≤ 100000000) : L 44 a := (show L 6 a by unfold L; omega).mono (by omega)
theorem gcd_b {a b : Int} (ha : 0 < a ∧ a ≤ 2000) : 0 ≤ ((Int.gcd a b : Nat) : Int) ∧ ((Int.gcd a b : Nat) : Int) ≤ 2000 := by
  have h1 : ((Int.gcd a b : Nat) : Int) ∣ a := Int.gcd_dvd_left ..
  have h2 := Int.le_of_dvd ha.1 h1
  omega
theorem prT_t {t : Tr} (h : (((Int.gcd (Int.gcd t.a t.b : Nat) t.c : Nat) : Int) == 1) = true) : prT t = true := by rw [← prT_of]; exact h
theorem prT_f {t : Tr} (h : (((Int.gcd (Int.gcd t.a t.b : Nat) t.c : Nat) : Int) == 1) = false) : prT t = false := by rw [← prT_of]; exact h
def clE (d : Int) : Int := if szE d = 0 then cls (-d) else 0
def hzE (m : Int) : Int := if m < 0 then 1 else if m > 4194304 then 2 else 0
def hzV (m : Int) : Int := if hzE m ≠ 0 then 0 else if m = 0 then -1 else if m % 4 = 1 ∨ m % 4 = 2 then 0 else hws m
theorem hz_1 {m : Int} (h : m < 0) : AV.t [PI 0, PE 1] = AV.t [PI (hzV m), PE (hzE m)] := by
  have e : hzE m = 1 := by unfold hzE; rw [if_pos h]
  have e2 : hzV m = 0 := by unfold hzV; rw [e]; rfl
  rw [e, e2]
theorem hz_2 {m : Int} (h : ¬ m < 0) (h1 : m > 4194304) : AV.t [PI 0, PE 2] = AV.t [PI (hzV m), PE (hzE m)] := by
  have e : hzE m = 2 := by unfold hzE; rw [if_neg h, if_pos h1]
  have e2 : hzV m = 0 := by unfold hzV; rw [e]; rfl
  rw [e, e2]
theorem hzE_0 {m : Int} (h : ¬ m < 0) (h1 : ¬ m > 4194304) : hzE m = 0 := by unfold hzE; rw [if_neg h, if_neg h1]
theorem hz_z {m : Int} (h : m = 0) : AV.t [PI (-1), PE 0] = AV.t [PI (hzV m), PE (hzE m)] := by subst h; rfl
theorem hz_n {m : Int} (h : ¬ m < 0) (h1 : ¬ m > 4194304) (h2 : ¬ m = 0) (h3 : m % 4 = 1 ∨ m % 4 = 2) : AV.t [PI 0, PE 0] = AV.t [PI (hzV m), PE (hzE m)] := by
  have e := hzE_0 h h1
  have e2 : hzV m = 0 := by unfold hzV; rw [if_neg (by rw [e]; simp), if_neg h2, if_pos h3]
  rw [e, e2]
theorem hz_s {m : Int} (h : ¬ m < 0) (h1 : ¬ m > 4194304) (h2 : ¬ m = 0) (h3 : ¬ (m % 4 = 1 ∨ m % 4 = 2)) : AV.t [PI (hws m), PE 0] = AV.t [PI (hzV m), PE (hzE m)] := by
  have e := hzE_0 h h1
  have e2 : hzV m = hws m := by unfold hzV; rw [if_neg (by rw [e]; simp), if_neg h2, if_neg h3]
  rw [e, e2]
theorem wT_4 {t : Tr} (h : t.a = t.b) (h1 : t.b = t.c) : wT t = 4 := by unfold wT; rw [if_pos ⟨h, h1⟩]
theorem wT_6 {t : Tr} (h : ¬ (t.a = t.b ∧ t.b = t.c)) (h1 : t.b = 0) (h2 : t.a = t.c) : wT t = 6 := by unfold wT; rw [if_neg h, if_pos ⟨h1, h2⟩]
theorem wT_12 {t : Tr} (h : ¬ (t.a = t.b ∧ t.b = t.c)) (h1 : ¬ (t.b = 0 ∧ t.a = t.c)) : wT t = 12 := by unfold wT; rw [if_neg h, if_neg h1]
/-! the conductor -/
def cdB (n k : Int) : Bool := decide (n % (k * k) = 0) && (decide ((n / (k * k)) % 4 = 0) || decide ((n / (k * k)) % 4 = 3))
def cdGo (n : Int) : Nat → Int → Int → Int
  | 0, _, f => f
  | u + 1, k, f => if k * k ≤ n then cdGo n u (k + 1) (if cdB n k then k else f) else f
/-- for n to 2^22 -/
def cdF (n : Int) : Int := cdGo n 2100 2 1
section
variable {n k f : Int}
theorem cd_le (_h1 : 2 ≤ k) (h : k * k ≤ n) (hn : n ≤ 4194304) : k ≤ 2048 := by
  rcases Int.lt_or_le 2048 k with h2 | h2
  · have h3 : (2049 : Int) * 2049 ≤ k * k := Int.mul_le_mul (by omega) (by omega) (by omega) (by omega)
    omega
  · exact h2
theorem cd_next (h : cdGo n (2102 - k).toNat k f = cdF n) (hk : k ≤ 2049) (h1 : k * k ≤ n) {f' : Int} (hf : (if cdB n k then k else f) = f') : cdGo n (2102 - (k + 1)).toNat (k + 1) f' = cdF n := by
  have e : (2102 - k).toNat = (2102 - (k + 1)).toNat + 1 := by omega
  rw [← h, e, cdGo, if_pos h1, hf]
theorem cd_stop (h : cdGo n (2102 - k).toNat k f = cdF n) (hk : k ≤ 2049) (h1 : ¬ k * k ≤ n) : f = cdF n := by
  have e : (2102 - k).toNat = (2102 - (k + 1)).toNat + 1 := by omega
  rw [← h, e, cdGo, if_neg h1]
theorem cdB_1 (h : ¬ n % (k * k) = 0) : cdB n k = false := by unfold cdB; rw [decide_eq_false h]; rfl
theorem cdB_2 (h : n % (k * k) = 0) (h1 : (n / (k * k)) % 4 = 0) : cdB n k = true := by unfold cdB; rw [decide_eq_true h, decide_eq_true h1]; rfl
theorem cdB_3 (h : n % (k * k) = 0) (_h1 : ¬ (n / (k * k)) % 4 = 0) (h2 : (n / (k * k)) % 4 = 3) : cdB n k = true := by unfold cdB; rw [decide_eq_true h, decide_eq_true h2, Bool.or_true]; rfl
theorem cdB_4 (h : n % (k * k) = 0) (h1 : ¬ (n / (k * k)) % 4 = 0) (h2 : ¬ (n / (k * k)) % 4 = 3) : cdB n k = false := by unfold cdB; rw [decide_eq_true h, decide_eq_false h1, decide_eq_false h2]; rfl
theorem fsq (h : 1 ≤ f ∧ f ≤ 2048) : 1 ≤ f * f ∧ f * f ≤ 4194304 := by
  have h1 := sq_b (x := f) (m := 2048) (by omega)
  have h2 : 1 * 1 ≤ f * f := Int.mul_le_mul h.1 h.1 (by omega) (by omega)
  omega
theorem neg_quo {x : Int} (hn : 0 ≤ n) : (-n).tdiv x = -(n / x) := by rw [Int.neg_tdiv, Int.tdiv_eq_ediv_of_nonneg hn]
theorem quo_b {x : Int} (hn : 0 ≤ n ∧ n ≤ 4194304) (hx : 1 ≤ x) : 0 ≤ n / x ∧ n / x ≤ 4194304 := ⟨Int.ediv_nonneg hn.1 (by omega), Int.le_trans (Int.ediv_le_self _ hn.1) hn.2⟩
end
def cdV (d : Int) : Int := if szE d = 0 then cdF (-d) else 0
def cdD (d : Int) : Int := if szE d = 0 then -(-d / (cdF (-d) * cdF (-d))) else 0
theorem cd_err {d : Int} (h : szE d ≠ 0) : AV.t [PI 0, PI 0, PE (szE d)] = AV.t [PI (cdD d), PI (cdV d), PE (szE d)] := by
  unfold cdD cdV; rw [if_neg h, if_neg h]
theorem cd_ok {d : Int} (h : szE d = 0) : AV.t [PI (-(-d / (cdF (-d) * cdF (-d)))), PI (cdF (-d)), PE 0] = AV.t [PI (cdD d), PI (cdV d), PE (szE d)] := by
  unfold cdD cdV; rw [if_pos h, if_pos h, h]
theorem GW.forget_as {np' : Nat} {s o o' : Own} (h : o = o') (h2 : ∀ m, o m = s m ∨ o m = none) : GW np' s o' := GW.forget (by subst h; exact h2)
end Go.AM
end

section
/- The ratio of class numbers, plainly. -/
namespace Go.AM
open Go Go.RowKit
theorem krGo_b : ∀ (f : Nat) (k a n : Int), (-1 ≤ k ∧ k ≤ 1) → -1 ≤ (krGo f k a n).1 ∧ (krGo f k a n).1 ≤ 1
  | 0, k, a, n, h => by simpa [krGo] using h
  | f + 1, k, a, n, h => by
    rw [krGo]
    split
    · refine krGo_b f _ _ _ ?_
      have h1 := k1F_b (a := a) (n := n) h
      unfold k1F at h1
      split <;> omega
    · exact h
theorem kr_b (a n : Int) : -1 ≤ kr a n ∧ kr a n ≤ 1 := by
  by_cases h : n = 0
  · unfold kr; rw [if_pos h]; split <;> omega
  · by_cases h1 : oddB a = false ∧ oddB n = false
    · unfold kr; rw [if_neg h, if_pos h1]; omega
    · rw [kr_go h h1]
      have := krGo_b (a % (tw (n.natAbs : Int)).1).natAbs.succ (k1K a n) (a % (tw (n.natAbs : Int)).1) (tw (n.natAbs : Int)).1 (k1K_b a n)
      split
      · exact this
      · omega
/-- a number without a divisor -/
def dvGo (p : Int) : Nat → Int → Int
  | 0, l => l
  | k + 1, l => if l % p = 0 then dvGo p k (l / p) else l
def dv (p l : Int) : Int := dvGo p l.toNat l
def rtS (d h l p : Int) : Int := if l % p = 0 then h / p * (p - kr d p) else h
def rtGo (d : Int) : Nat → Int → Int → Int → Int
  | 0, h, _, _ => h
  | k + 1, h, l, p => if p ≤ l then rtGo d k (rtS d h l p) (dv p l) (p + 1) else h
theorem div_lt {p l : Int} (hp : 2 ≤ p) (hl : 1 ≤ l) (h : l % p = 0) : 1 ≤ l / p ∧ l / p < l ∧ p * (l / p) = l := by
  have e := Int.mul_ediv_add_emod l p
  rw [h, Int.add_zero] at e
  have h0 : 0 ≤ l / p := Int.ediv_nonneg (by omega) (by omega)
  generalize l / p = q at *
  have h1 : 1 ≤ q := by
    rcases Int.lt_or_le q 1 with g | g
    · have : q = 0 := by omega
      subst this; simp at e; omega
    · exact g
  have h2 : 2 * q ≤ p * q := Int.mul_le_mul_of_nonneg_right hp (by omega)
  refine ⟨h1, by omega, e⟩
theorem dvGo_b {p : Int} (hp : 2 ≤ p) : ∀ (k : Nat) (l : Int), 1 ≤ l → 1 ≤ dvGo p k l ∧ dvGo p k l ≤ l
  | 0, l, h => by unfold dvGo; omega
  | k + 1, l, h => by
    unfold dvGo
    split
    · rename_i g
      have h1 := div_lt hp h g
      have := dvGo_b hp k (l / p) h1.1
      omega
    · omega
theorem dv_b {p l : Int} (hp : 2 ≤ p) (hl : 1 ≤ l) : 1 ≤ dv p l ∧ dv p l ≤ l := dvGo_b hp _ _ hl
theorem dv_div {p l : Int} (hp : 2 ≤ p) (hl : 1 ≤ l) (h : l % p = 0) : p * dv p l ≤ l := by
  have h1 := div_lt hp hl h
  unfold dv
  have : l.toNat = (l.toNat - 1) + 1 := by omega
  rw [this, dvGo, if_pos h]
  have h2 := dvGo_b hp (l.toNat - 1) (l / p) h1.1
  have h3 : p * dvGo p (l.toNat - 1) (l / p) ≤ p * (l / p) := Int.mul_le_mul_of_nonneg_left h2.2 (by omega)
  omega
/-- the inner rounds -/
structure DvI (T p x m : Int) : Prop where
  x1 : 1 ≤ x
  xm : x ≤ m
  go : ∃ k, x.toNat ≤ k ∧ dvGo p k x = T
theorem DvI.start {p l : Int} (hl : 1 ≤ l) : DvI (dv p l) p l l := ⟨hl, by omega, _, Nat.le_refl _, rfl⟩
theorem DvI.next {T p x m : Int} (h : DvI T p x m) (hp : 2 ≤ p) (hx : x % p = 0) : DvI T p (x / p) m ∧ (x / p).toNat < x.toNat := by
  have h1 := div_lt hp h.x1 hx
  obtain ⟨x1, xm, k, hk, hg⟩ := h
  refine ⟨⟨h1.1, by omega, k - 1, by omega, ?_⟩, by omega⟩
  have : k = (k - 1) + 1 := by omega
  rw [this, dvGo, if_pos hx] at hg
  exact hg
theorem DvI.stop {T p x m : Int} (h : DvI T p x m) (hx : ¬ x % p = 0) : x = T := by
  obtain ⟨x1, xm, k, hk, hg⟩ := h
  have : k = (k - 1) + 1 := by omega
  rw [this, dvGo, if_neg hx] at hg
  exact hg
/-- the outer rounds -/
structure RtI (d T b m h l p : Int) : Prop where
  p2 : 2 ≤ p
  pm : p ≤ m + 1
  l1 : 1 ≤ l
  lm : l ≤ m
  h0 : 0 ≤ h
  hl : h * l ≤ b
  go : ∃ k, (l + 2 - p).toNat ≤ k ∧ rtGo d k h l p = T
theorem RtI.hb {d T b m h l p : Int} (i : RtI d T b m h l p) : h ≤ b := by
  have h1 : h * 1 ≤ h * l := Int.mul_le_mul_of_nonneg_left i.l1 i.h0
  have := i.hl
  omega
theorem RtI.stop {d T b m h l p : Int} (i : RtI d T b m h l p) (hp : ¬ p ≤ l) : h = T := by
  obtain ⟨k, _, hg⟩ := i.go
  cases k with
  | zero => exact hg
  | succ k => rw [rtGo, if_neg hp] at hg; exact hg
theorem RtI.mul {d T b m h l p : Int} (i : RtI d T b m h l p) : 0 ≤ h / p ∧ h / p ≤ h ∧ 0 ≤ h / p * (p - kr d p) ∧ h / p * (p - kr d p) ≤ 2 * h := by
  have hk := kr_b d p
  have p2 := i.p2
  have h0 := i.h0
  have h1 : 0 ≤ h / p := Int.ediv_nonneg h0 (by omega)
  have h2 : h / p ≤ h := Int.ediv_le_self _ h0
  have e := Int.mul_ediv_add_emod h p
  have e2 := Int.emod_nonneg h (show p ≠ 0 by omega)
  generalize h / p = q at *
  generalize kr d p = s at *
  have h3 : 0 ≤ q * (p - s) := Int.mul_nonneg h1 (by omega)
  have h4 : q * (p - s) ≤ q * (p + 1) := Int.mul_le_mul_of_nonneg_left (by omega) h1
  have h5 : q * (p + 1) = p * q + q := by rw [Int.mul_add, Int.mul_one, Int.mul_comm]
  exact ⟨h1, h2, h3, by omega⟩
theorem RtI.next {d T b m h l p : Int} (i : RtI d T b m h l p) (hp : p ≤ l) : RtI d T b m (rtS d h l p) (dv p l) (p + 1) ∧ ((dv p l) + 2 - (p + 1)).toNat < (l + 2 - p).toNat := by
  have hm := i.mul
  have hk := kr_b d p
  obtain ⟨p2, pm, l1, lm, h0, hl, k, hk2, hg⟩ := i
  have hd := dv_b p2 l1
  refine ⟨⟨by omega, by omega, hd.1, by omega, ?_, ?_, k - 1, by omega, ?_⟩, by omega⟩
  · unfold rtS; split <;> omega
  · unfold rtS
    split
    · rename_i g
      have h6 := dv_div p2 l1 g
      have h1 := hm.1
      have e := Int.mul_ediv_add_emod h p
      have e2 := Int.emod_nonneg h (show p ≠ 0 by omega)
      generalize h / p = q at *
      generalize kr d p = s at *
      generalize dv p l = x at *
      have a1 : q * (p - s) ≤ q * (p * p) := by
        refine Int.mul_le_mul_of_nonneg_left ?_ h1
        have : 2 * p ≤ p * p := Int.mul_le_mul_of_nonneg_right p2 (by omega)
        omega
      have a2 : q * (p - s) * x ≤ q * (p * p) * x := Int.mul_le_mul_of_nonneg_right a1 (by omega)
      have a3 : q * (p * p) * x = (p * q) * (p * x) := by simp only [Int.mul_left_comm, Int.mul_comm]
      have a4 : (p * q) * (p * x) ≤ (p * q) * l := Int.mul_le_mul_of_nonneg_left h6 (Int.mul_nonneg (by omega) h1)
      have a5 : (p * q) * l ≤ h * l := Int.mul_le_mul_of_nonneg_right (by omega) (by omega)
      omega
    · have : h * dv p l ≤ h * l := Int.mul_le_mul_of_nonneg_left hd.2 h0
      omega
  · have : k = (k - 1) + 1 := by omega
    rw [this, rtGo, if_pos hp] at hg
    exact hg
def rtE (d f : Int) : Int := if szE d = 5 then 5 else if f < 1 then 1 else szE (d * (f * f))
def rtH (d f : Int) : Int := rtGo d f.toNat (cls (szN d) * f) f 2
def rtM (n : Int) : Int := if n = 3 then 3 else if n = 4 then 2 else 0
def rtO (n : Int) : Bool := n == 3 || n == 4
theorem rt_map (n : Int) : (if n = 3 then ((3 : Int), true) else if n = 4 then (2, true) else (0, false)) = (rtM n, rtO n) := by
  unfold rtM rtO
  by_cases h : n = 3
  · subst h; rfl
  · by_cases h1 : n = 4
    · subst h1; rfl
    · simp [h, h1]
theorem rtM_b {n : Int} (h : rtO n = true) : 2 ≤ rtM n := by
  unfold rtO at h; unfold rtM
  simp at h
  rcases h with rfl | rfl <;> decide
def rtV (d f : Int) : Int := if rtE d f ≠ 0 then 0 else if rtO (szN d) = true ∧ f > 1 then rtH d f / rtM (szN d) else rtH d f
theorem szN_b (d : Int) : 0 ≤ szN d ∧ szN d ≤ 4194304 := by
  by_cases h : szE d = 0
  · have := szE_0 h; omega
  · unfold szN; rw [if_neg h]; decide
theorem RtI.start {d f : Int} (h1 : 1 ≤ f ∧ f ≤ 100000) : RtI d (rtH d f) 80040000000000000 f (cls (szN d) * f) f 2 := by
  have hc := cls_b (szN d)
  have h2 : 0 ≤ cls (szN d) * f := Int.mul_nonneg hc.1 (by omega)
  have h3 : cls (szN d) * f ≤ 8004000 * 100000 := Int.mul_le_mul hc.2 h1.2 (by omega) (by omega)
  have h4 : cls (szN d) * f * f ≤ 8004000 * 100000 * 100000 := Int.mul_le_mul h3 h1.2 (by omega) (by omega)
  exact ⟨by omega, by omega, h1.1, by omega, h2, by omega, f.toNat, by omega, rfl⟩
theorem rt_e5 {d f : Int} (h : szE d = 5) : AV.t [PI 0, PE (szE d)] = AV.t [PI (rtV d f), PE (rtE d f)] := by
  have e : rtE d f = 5 := by unfold rtE; rw [if_pos h]
  unfold rtV; rw [e, h]; rfl
theorem rt_e1 {d f : Int} (h : szE d ≠ 5) (h1 : f < 1) : AV.t [PI 0, PE 1] = AV.t [PI (rtV d f), PE (rtE d f)] := by
  have e : rtE d f = 1 := by unfold rtE; rw [if_neg h, if_pos h1]
  unfold rtV; rw [e]; rfl
theorem rt_e {d f : Int} (h : szE d ≠ 5) (h1 : ¬ f < 1) (h2 : szE (d * (f * f)) ≠ 0) : AV.t [PI 0, PE (szE (d * (f * f)))] = AV.t [PI (rtV d f), PE (rtE d f)] := by
  have e : rtE d f = szE (d * (f * f)) := by unfold rtE; rw [if_neg h, if_neg h1]
  unfold rtV; rw [e, if_pos h2]
theorem rt_ok {d f x : Int} (h : szE d ≠ 5) (h1 : ¬ f < 1) (h2 : szE (d * (f * f)) = 0) (hx : x = if rtO (szN d) = true ∧ f > 1 then rtH d f / rtM (szN d) else rtH d f) : AV.t [PI x, PE 0] = AV.t [PI (rtV d f), PE (rtE d f)] := by
  have e : rtE d f = 0 := by unfold rtE; rw [if_neg h, if_neg h1, h2]
  unfold rtV; rw [e, if_neg (by simp), hx]
theorem DvI.start_m {p l m : Int} (hl : 1 ≤ l) (hm : l ≤ m) : DvI (dv p l) p l m := ⟨hl, hm, _, Nat.le_refl _, rfl⟩
theorem dff_b {d f : Int} (hd : -4194400 ≤ d ∧ d ≤ 4194400) (hf : -100000 ≤ f ∧ f ≤ 100000) : (0 ≤ f * f ∧ f * f ≤ 10000000000) ∧ (-41944000000000000 ≤ d * (f * f) ∧ d * (f * f) ≤ 41944000000000000) := by
  have h := sq_b (x := f) (m := 100000) hf
  have h0 : 0 ≤ f * f := by
    rcases Int.le_total 0 f with g | g
    · exact Int.mul_nonneg g g
    · exact Int.mul_nonneg_of_nonpos_of_nonpos g g
  have e : f * f ≤ 10000000000 := by omega
  refine ⟨⟨h0, e⟩, ?_, ?_⟩
  · have h1 : -4194400 * (f * f) ≤ d * (f * f) := Int.mul_le_mul_of_nonneg_right hd.1 h0
    omega
  · have h1 : d * (f * f) ≤ 4194400 * (f * f) := Int.mul_le_mul_of_nonneg_right hd.2 h0
    omega
theorem sgn_lt1_iff {f : Int} : sgn f < 1 ↔ f < 1 := by unfold sgn; split <;> (try split) <;> omega
theorem dq_b {h m : Int} (h0 : 0 ≤ h) (hm : 2 ≤ m) : 0 ≤ h / m ∧ h / m ≤ h := ⟨Int.ediv_nonneg h0 (by omega), Int.ediv_le_self _ h0⟩
end Go.AM
end

section
/- Lists of forms asked; numbers read low. -/
namespace Go.AM
open Go Go.RowKit
/-- how often a form is in a list -/
def eqG (f g : Fm) : Bool := decide (g.a = f.a ∧ g.b = f.b ∧ g.c = f.c)
theorem eqG_iff {f g : Fm} : eqG f g = true ↔ g = f := by
  unfold eqG
  rw [decide_eq_true_iff]
  constructor
  · rintro ⟨h1, h2, h3⟩; cases f; cases g; simp_all
  · rintro rfl; exact ⟨rfl, rfl, rfl⟩
def tmK (l : List Fm) (f : Fm) (k : Nat) : Int := (((l.take k).filter (eqG f)).length : Nat)
def tms (l : List Fm) (f : Fm) : Int := ((l.filter (eqG f)).length : Nat)
theorem take_getD {l : List Fm} {k : Nat} (h : k < l.length) : l.take (k + 1) = l.take k ++ [l.getD k ⟨0, 0, 0⟩] := by
  rw [List.getD_eq_getElem?_getD, List.getElem?_eq_getElem h, Option.getD_some, List.take_succ_eq_append_getElem h]
theorem tmK_yes {l : List Fm} {f : Fm} {k : Nat} (h : (k : Int) < l.length) (e : eqG f (l.getD k ⟨0, 0, 0⟩) = true) : tmK l f (k + 1) = tmK l f k + 1 := by
  unfold tmK; rw [take_getD (by omega)]; simp only [List.filter_append, List.length_append, List.filter_cons, e]; simp
theorem tmK_no {l : List Fm} {f : Fm} {k : Nat} (h : (k : Int) < l.length) (e : eqG f (l.getD k ⟨0, 0, 0⟩) = false) : tmK l f (k + 1) = tmK l f k := by
  unfold tmK; rw [take_getD (by omega)]; simp only [List.filter_append, List.length_append, List.filter_cons, e]; simp
theorem tmK_end {l : List Fm} {f : Fm} {k : Nat} (h : ¬ (k : Int) < l.length) : tmK l f k = tms l f := by
  unfold tmK tms; rw [List.take_of_length_le (by omega)]
theorem tmK_b (l : List Fm) (f : Fm) (k : Nat) : 0 ≤ tmK l f k ∧ tmK l f k ≤ k := by
  unfold tmK
  have := List.length_filter_le (eqG f) (l.take k)
  rw [List.length_take] at this
  omega
/-- two lists, form by form -/
structure SmI (l m : List Fm) (k : Nat) : Prop where
  k1 : k ≤ l.length
  go : ∀ j, j < k → l.getD j ⟨0, 0, 0⟩ = m.getD j ⟨0, 0, 0⟩
theorem SmI.start (l m : List Fm) : SmI l m 0 := ⟨Nat.zero_le _, fun j h => absurd h (Nat.not_lt_zero j)⟩
theorem SmI.next {l m : List Fm} {k : Nat} (h : SmI l m k) (hk : (k : Int) < l.length) (e : eqG (m.getD k ⟨0, 0, 0⟩) (l.getD k ⟨0, 0, 0⟩) = true) : SmI l m (k + 1) :=
  ⟨by omega, fun j hj => by
    rcases Nat.lt_succ_iff_lt_or_eq.1 hj with h1 | rfl
    · exact h.go j h1
    · exact eqG_iff.1 e⟩
theorem SmI.no {l m : List Fm} {k : Nat} (e : eqG (m.getD k ⟨0, 0, 0⟩) (l.getD k ⟨0, 0, 0⟩) = false) : false = decide (l = m) := by
  symm; rw [decide_eq_false_iff_not]
  rintro rfl
  rw [eqG_iff.2 rfl] at e
  cases e
theorem SmI.yes {l m : List Fm} {k : Nat} (h : SmI l m k) (hl : (l.length : Int) = m.length) (hk : ¬ (k : Int) < l.length) : true = decide (l = m) := by
  symm; rw [decide_eq_true_iff]
  have h1 := h.k1
  refine List.ext_getElem (by omega) (fun i h2 h3 => ?_)
  have := h.go i (by omega)
  rw [List.getD_eq_getElem?_getD, List.getD_eq_getElem?_getD, List.getElem?_eq_getElem h2, List.getElem?_eq_getElem h3] at this
  exact this
theorem len_ne {l m : List Fm} (h : (l.length : Int) ≠ m.length) : false = decide (l = m) := by
  symm; rw [decide_eq_false_iff_not]; rintro rfl; exact h rfl
/-- a number read low -/
def lwO (a : Int) : Bool := decide (-9223372036854775808 ≤ a ∧ a < 9223372036854775808)
def lwV (a : Int) : Int := if lwO a = true then a else 0
def v0 (n : Nat) : Nat := wd (wl n) 0 + 4294967296 * wd (wl n) 1
theorem v0_or (n : Nat) : bits .or .u64 ((wd (wl n) 0 : Nat) : Int) ((wd (wl n) 1 * 2 ^ 32 % 2 ^ IntKind.u64.bits : Nat) : Int) = (v0 n : Nat) := bits_lohi (wd_lt (wl_ok n) 0) (wd_lt (wl_ok n) 1)
theorem v0_lt (n : Nat) : v0 n < 18446744073709551616 := by
  have h0 := wd_lt (wl_ok n) 0
  have h1 := wd_lt (wl_ok n) 1
  unfold v0; omega
theorem v0_eq {n : Nat} (h : (wl n).length ≤ 2) : v0 n = n := by
  have h0 := lohi h
  rw [v0_or] at h0
  omega
theorem not_two {n : Nat} (h : ¬ (wl n).length ≤ 2) : 18446744073709551616 ≤ n := by
  rcases Nat.lt_or_ge n 18446744073709551616 with g | g
  · exact absurd (wl_len_le (k := 2) (by rw [show 4294967296 ^ 2 = 18446744073709551616 by decide]; exact g)) h
  · exact g
theorem lw_no {a : Int} (h : a < -9223372036854775808 ∨ 9223372036854775808 ≤ a) : AV.t [.c (.v (.int .i64 0)), .c (.v (.bool false))] = AV.t [.c (.v (.int .i64 (lwV a))), .c (.v (.bool (lwO a)))] := by
  have e : lwO a = false := by unfold lwO; rw [decide_eq_false_iff_not]; omega
  unfold lwV; rw [e]; rfl
theorem lw_yes {a x : Int} (h : -9223372036854775808 ≤ a ∧ a < 9223372036854775808) (hx : x = a) : AV.t [.c (.v (.int .i64 x)), .c (.v (.bool true))] = AV.t [.c (.v (.int .i64 (lwV a))), .c (.v (.bool (lwO a)))] := by
  have e : lwO a = true := by unfold lwO; rw [decide_eq_true_iff]; exact h
  unfold lwV; rw [e, if_pos rfl, hx]
def w63 (v : Int) : Int := if v = 9223372036854775808 then -9223372036854775808 else v
theorem wrap_w63 {v : Int} (h : 0 ≤ v ∧ v ≤ 9223372036854775808) : IntKind.i64.wrap v = w63 v := by
  unfold w63; split
  · rename_i g; subst g; decide
  · exact IntWalk.i64_in _ (by omega)
theorem wrap_n63 {v : Int} (h : 0 ≤ v ∧ v ≤ 9223372036854775808) : IntKind.i64.wrap (0 - (w63 v)) = -v := by
  unfold w63; split
  · rename_i g; subst g; decide
  · rw [IntWalk.i64_in _ (by omega)]; omega
theorem tmK_y {l : List Fm} {a b c : Int} {k : Nat} (h : (k : Int) < l.length) (e : decide ((l.getD k ⟨0, 0, 0⟩).a = a ∧ (l.getD k ⟨0, 0, 0⟩).b = b ∧ (l.getD k ⟨0, 0, 0⟩).c = c) = true) : tmK l ⟨a, b, c⟩ k + 1 = tmK l ⟨a, b, c⟩ (k + 1) := (tmK_yes (f := ⟨a, b, c⟩) h e).symm
theorem tmK_n {l : List Fm} {a b c : Int} {k : Nat} (h : (k : Int) < l.length) (e : decide ((l.getD k ⟨0, 0, 0⟩).a = a ∧ (l.getD k ⟨0, 0, 0⟩).b = b ∧ (l.getD k ⟨0, 0, 0⟩).c = c) = false) : tmK l ⟨a, b, c⟩ k = tmK l ⟨a, b, c⟩ (k + 1) := (tmK_no (f := ⟨a, b, c⟩) h e).symm
theorem nT' {b : Bool} (h : (!b) = true) : b = false := by cases b <;> simp_all
theorem nF' {b : Bool} (h : (!b) = false) : b = true := by cases b <;> simp_all
end Go.AM
end

section
/- The examples; Hurwitz numbers, plainly. -/
namespace Go.AM
open Go Go.RowKit
theorem ex1 : (if szE (-23) = 0 then LW (- -23) (fun f => prim f.a f.b f.c) else []) = [⟨1, 1, 6⟩, ⟨2, -1, 3⟩, ⟨2, 1, 3⟩] := by decide +kernel
theorem ex1e : szE (-23) = 0 := by decide +kernel
theorem ex2 : (if szE (-12) = 0 then LW (- -12) (fun _ => true) else []) = [⟨1, 0, 3⟩, ⟨2, 2, 2⟩] := by decide +kernel
theorem ex2e : szE (-12) = 0 := by decide +kernel
theorem ex3 : clE (-23) = 3 := by decide +kernel
theorem ex4 : hzV 12 = 16 := by decide +kernel
theorem ex4e : hzE 12 = 0 := by decide +kernel
theorem ex5 : hzV 0 = -1 := by decide +kernel
theorem ex5e : hzE 0 = 0 := by decide +kernel
theorem ex6 : rtV (-3) 2 = 1 := by decide +kernel
theorem ex6e : rtE (-3) 2 = 0 := by decide +kernel
theorem ex7 : szE 5 = 5 := by decide +kernel
theorem ex8 : szE (-4194308) = 2 := by decide +kernel
theorem hz_small {m : Int} (h : 0 ≤ m) (h1 : m ≤ 4194304) : hzE m = 0 := by unfold hzE; rw [if_neg (by omega), if_neg (by omega)]
theorem hzV_b (m : Int) : -1 ≤ hzV m ∧ hzV m ≤ 96048000 := by
  unfold hzV
  have := hws_b m
  repeat' split <;> omega
/-- the sum of the law, k rounds of it -/
def kT (h : Int → Int) (p t : Int) : Int := if t * t > 4 * p then 0 else h (4 * p - t * t)
def kS (h : Int → Int) (p : Int) : Nat → Int
  | 0 => 0
  | k + 1 => kS h p k + kT h p (-2 * p + k)
theorem kT_b (p t : Int) : -1 ≤ kT hzV p t ∧ kT hzV p t ≤ 96048000 := by
  unfold kT; split
  · omega
  · exact hzV_b _
theorem kS_b (p : Int) : ∀ k : Nat, -(k : Int) ≤ kS hzV p k ∧ kS hzV p k ≤ 96048000 * (k : Int)
  | 0 => by simp [kS]
  | k + 1 => by
    have h1 := kS_b p k
    have h2 := kT_b p (-2 * p + k)
    unfold kS; omega
theorem kS_skip {p : Int} {k : Nat} (h : (-2 * p + k) * (-2 * p + k) > 4 * p) : kS hzV p k = kS hzV p (k + 1) := by
  unfold kS kT; rw [if_pos h]; cases k <;> simp [kS, kT]
theorem kS_add {p : Int} {k : Nat} (h : ¬ (-2 * p + k) * (-2 * p + k) > 4 * p) : kS hzV p k + hzV (4 * p - (-2 * p + k) * (-2 * p + k)) = kS hzV p (k + 1) := by
  rw [kS, kT, if_neg h]
theorem kS_congr {h g : Int → Int} {p : Int} (e : ∀ n, 0 ≤ n → n ≤ 4 * p → h n = g n) : ∀ k, kS h p k = kS g p k
  | 0 => rfl
  | k + 1 => by
    rw [kS, kS, kS_congr e k]
    congr 1
    unfold kT
    split
    · rfl
    · have := sq_nonneg' (-2 * p + k)
      exact e _ (by omega) (by omega)
theorem prime251 : (!primeB 251) = false := by decide +kernel
end Go.AM
end
