/- Texts merged by program, in build order. -/
import Derived.Test.YtmoaoiakmmbpoaaGreatDoorHFC
import Derived.Test.YtmoaoiakmmbpoaaGreatDoorHFH
import Derived.Shelf.Spec.SlicesInsertGrow
import Derived.Shelf.Slices.Delete
import Derived.DataElems
section
/- The reference's reason is the program's. -/
namespace Go.AM
open Go Go.RowKit
theorem rkZ_eq {s : Str} : ∀ {f : Fnd}, s ∈ cls f → rkZ f s = (rkD f s : Int) := fun {f} h => by
  have hfi : (cls f).findIdx (fun x => decide (x = s)) < (cls f).length := List.findIdx_lt_length_of_exists ⟨s, h, by simp⟩
  have hpl : plI f s = ((cls f).findIdx (fun x => decide (x = s)) : Nat) := by unfold plI fiX; rw [if_pos hfi]
  unfold rkZ
  rw [hpl, Int.toNat_natCast]
  clear hpl hfi
  induction f with
  | nil => cases h
  | cons y f ih =>
    by_cases e : y.1.1 = s
    · have h1 : (cls (y :: f)).findIdx (fun x => decide (x = s)) = 0 := by
        show List.findIdx _ (y.1.1 :: cls f) = 0
        rw [List.findIdx_cons, decide_eq_true e]; rfl
      have h2 : whyD (y :: f) s = some y := by unfold whyD; rw [List.find?_cons_of_pos (by simpa using e)]
      rw [h1]; unfold rkD; rw [h2]; rfl
    · have hs : s ∈ cls f := by
        rcases List.mem_cons.1 (show s ∈ y.1.1 :: cls f from h) with q | q
        · exact absurd q.symm e
        · exact q
      have h1 : (cls (y :: f)).findIdx (fun x => decide (x = s)) = (cls f).findIdx (fun x => decide (x = s)) + 1 := by
        show List.findIdx _ (y.1.1 :: cls f) = _
        rw [List.findIdx_cons, decide_eq_false e]; rfl
      have h2 : whyD (y :: f) s = whyD f s := by unfold whyD; rw [List.find?_cons_of_neg (by simpa using e)]
      rw [h1]
      have h3 := ih hs
      unfold rkD at h3 ⊢
      rw [h2, ← h3]; rfl
section
variable {D : List Drv} {ok : Drv → Bool}
theorem rk_of_mem {j K : Nat} (hj : j ≤ K) {s : Str} (h : s ∈ cls (rds D ok j)) : rkD (rds D ok K) s ≤ j := by
  obtain ⟨e, he⟩ := rds_pre (D := D) (ok := ok) hj
  obtain ⟨y, hy, hys⟩ := mem_cls.1 h
  have hy2 : y ∈ rds D ok K := by rw [he]; exact List.mem_append_left _ hy
  have hw := whyD_of (rds_nodup K) hy2
  obtain ⟨j', g1, g2, _⟩ := rds_src hy
  unfold rkD
  rw [← hys, hw]
  show y.2 ≤ j
  omega
theorem mem_of_rk {j K : Nat} {s : Str} (h : s ∈ cls (rds D ok K)) (hr : rkD (rds D ok K) s ≤ j) : s ∈ cls (rds D ok j) := by
  obtain ⟨x, hx⟩ : ∃ x, whyD (rds D ok K) s = some x := by
    cases e : whyD (rds D ok K) s with
    | none => exact absurd h (whyD_none.1 e)
    | some x => exact ⟨x, rfl⟩
  obtain ⟨h1, h2⟩ := whyD_some hx
  obtain ⟨j', g1, _, g3, g4, _⟩ := rds_src h1
  have hr' : x.2 ≤ j := by unfold rkD at hr; rw [hx] at hr; exact hr
  refine rds_sub (j := j' + 1) (by omega) ?_
  exact (mem_rds j').2 (.inr ⟨x.1, g3, h2, g4⟩)
theorem rsP_iff {hs : List Int} {c : Str} {x : Drv × Nat} {j : Nat} (hok : ∀ d ∈ D, okL hs d = ok d) (hx : whyD (finD D ok) c = some x) (hj : x.2 = j + 1) (hjK : j < D.length + 1) {d : Drv} (hd : d ∈ D) :
    rsP (finD D ok) hs c d = (decide (d.1 = c) && canU (cls (rds D ok j)) ok d) := by
  have hc : c ∈ cls (finD D ok) := mem_cls.2 ⟨x, (whyD_some hx).1, (whyD_some hx).2⟩
  have hrc : rkD (finD D ok) c = j + 1 := by unfold rkD; rw [hx]; exact hj
  rw [Bool.eq_iff_iff]
  unfold rsP rsB
  simp only [Bool.and_eq_true, decide_eq_true_eq, canU_iff, List.all_eq_true]
  constructor
  · rintro ⟨⟨h1, h2, h3⟩, h4⟩
    refine ⟨h1, by rw [← hok d hd]; exact h2, fun s hs' => mem_of_rk (h3 s hs') ?_⟩
    have h5 := h4 s hs'
    rw [rkZ_eq (h3 s hs'), rkZ_eq hc, hrc] at h5
    have h6 : rkD (finD D ok) s < j + 1 := by omega
    exact Nat.le_of_lt_succ h6
  · rintro ⟨h1, h2, h3⟩
    have h4 : ∀ s ∈ d.2.1, s ∈ cls (finD D ok) := fun s hs' => rds_sub (by omega) (h3 s hs')
    refine ⟨⟨h1, by rw [hok d hd]; exact h2, h4⟩, fun s hs' => ?_⟩
    rw [rkZ_eq (h4 s hs'), rkZ_eq hc, hrc]
    have : rkD (finD D ok) s ≤ j := rk_of_mem (by omega) (h3 s hs')
    omega
theorem find_congr {p q : Drv → Bool} : ∀ {D : List Drv}, (∀ d ∈ D, p d = q d) → D.find? p = D.find? q
  | [], _ => rfl
  | d :: D, h => by
    rw [List.find?_cons, List.find?_cons, h d (by simp), find_congr fun x hx => h x (by simp [hx])]
theorem fiX_find {p : Drv → Bool} {x : Drv} : ∀ {D : List Drv}, D.find? p = some x → D.findIdx p < D.length ∧ D.getD (D.findIdx p) zD = x
  | [], h => by cases h
  | d :: D, h => by
    rw [List.findIdx_cons]
    cases e : p d with
    | true =>
      rw [List.find?_cons_of_pos e] at h
      cases h
      exact ⟨by simp, rfl⟩
    | false =>
      rw [List.find?_cons_of_neg (by rw [e]; simp)] at h
      obtain ⟨h1, h2⟩ := fiX_find h
      exact ⟨by simpa using h1, by simpa using h2⟩
/-- the reference's reason, and what the program's reason leans on -/
theorem rsI_frm {hs : List Int} {c : Str} (hok : ∀ d ∈ D, okL hs d = ok d) :
    (rsI D (finD D ok) hs c < 0 ∧ frm (finD D ok) c = []) ∨ (0 ≤ rsI D (finD D ok) hs c ∧ rsI D (finD D ok) hs c < D.length ∧ (D.getD (rsI D (finD D ok) hs c).toNat zD).2.1 = frm (finD D ok) c) := by
  by_cases hc : c ∈ cls (finD D ok)
  · obtain ⟨x, hx⟩ : ∃ x, whyD (finD D ok) c = some x := by
      cases e : whyD (finD D ok) c with
      | none => exact absurd hc (whyD_none.1 e)
      | some x => exact ⟨x, rfl⟩
    obtain ⟨h1, h2⟩ := whyD_some hx
    obtain ⟨j, g1, g2, _, _, _, g6⟩ := rds_src h1
    rw [h2] at g6
    have hf : D.find? (rsP (finD D ok) hs c) = some x.1 := by
      rw [find_congr fun d hd => rsP_iff hok hx g1 g2 hd]; exact g6
    obtain ⟨q1, q2⟩ := fiX_find hf
    have e : rsI D (finD D ok) hs c = (D.findIdx (rsP (finD D ok) hs c) : Nat) := by unfold rsI fiX; rw [if_pos hc, if_pos q1]
    refine .inr ⟨by omega, by omega, ?_⟩
    rw [e, Int.toNat_natCast, q2]
    unfold frm; rw [hx]
  · refine .inl ⟨by unfold rsI; rw [if_neg hc]; decide, ?_⟩
    unfold frm; rw [whyD_none.2 hc]
end
end Go.AM
end

section
/- Uses of the reference, in plain words. -/
namespace Go.AM
open Go Go.RowKit
theorem addS_pos {l : List Str} {x s : Str} (h : ltS x s = true) : addS (x :: l) s = x :: addS l s := by
  unfold addS
  rw [List.takeWhile_cons_of_pos (p := fun x => ltS x s) h, List.dropWhile_cons_of_pos (p := fun x => ltS x s) h]; rfl
theorem addS_neg {l : List Str} {x s : Str} (h : ¬ ltS x s = true) : addS (x :: l) s = s :: x :: l := by
  unfold addS
  rw [List.takeWhile_cons_of_neg (p := fun x => ltS x s) h, List.dropWhile_cons_of_neg (p := fun x => ltS x s) h]; rfl
theorem addS_mem {s x : Str} : ∀ {l : List Str}, x ∈ addS l s ↔ x = s ∨ x ∈ l
  | [] => by simp [addS]
  | y :: l => by
    by_cases h : ltS y s = true
    · rw [addS_pos h, List.mem_cons, addS_mem, List.mem_cons]
      constructor
      · rintro (h | h | h)
        · exact .inr (.inl h)
        · exact .inl h
        · exact .inr (.inr h)
      · rintro (h | h | h)
        · exact .inr (.inl h)
        · exact .inl h
        · exact .inr (.inr h)
    · rw [addS_neg h, List.mem_cons]
theorem addS_len {s : Str} : ∀ {l : List Str}, (addS l s).length = l.length + 1
  | [] => rfl
  | y :: l => by
    by_cases h : ltS y s = true
    · rw [addS_pos h, List.length_cons, addS_len, List.length_cons]
    · rw [addS_neg h, List.length_cons]
theorem addS_srt {s : Str} : ∀ {l : List Str}, SrtS l → s ∉ l → SrtS (addS l s)
  | [], _, _ => List.pairwise_singleton _ _
  | y :: l, h, hn => by
    have h2 := List.pairwise_cons.1 h
    by_cases hy : ltS y s = true
    · rw [addS_pos hy]
      refine List.pairwise_cons.2 ⟨fun z hz => ?_, addS_srt h2.2 fun q => hn (List.mem_cons_of_mem _ q)⟩
      rcases addS_mem.1 hz with rfl | hz
      · exact hy
      · exact h2.1 z hz
    · rw [addS_neg hy]
      have hsy : ltS s y = true := by
        rcases ltS_total (a := s) (b := y) (fun e => hn (by rw [e]; exact List.mem_cons_self ..)) with r | r
        · exact r
        · exact absurd r hy
      refine List.pairwise_cons.2 ⟨fun z hz => ?_, h⟩
      rcases List.mem_cons.1 hz with rfl | hz
      · exact hsy
      · exact ltS_trans hsy (h2.1 z hz)
/-- what is known in the midst of the search: 'W' are texts yet to be looked at -/
structure UsI (b : Book) (c : Str) (W out todo : List Str) : Prop where
  srt : SrtS out
  snd : ∀ x ∈ out, Rch (rFin b) c x
  td : ∀ x ∈ todo, x = c ∨ x ∈ out
  w : ∀ y ∈ W, Rch (rFin b) c y
  cl : ∀ x, x = c ∨ x ∈ out → x ∈ todo ∨ ∀ y ∈ frm (rFin b) x, y ∈ out ∨ y ∈ W
section
variable {b : Book} {c : Str} {W out todo : List Str}
theorem us_0 : UsI b c [] [] [c] := ⟨List.Pairwise.nil, (by simp), (by simp), (by simp), fun x hx => .inl (by simpa using hx)⟩
theorem us_pop {x : Str} (h : UsI b c [] out (x :: todo)) : UsI b c (frm (rFin b) x) out todo := by
  refine ⟨h.srt, h.snd, fun y hy => h.td y (List.mem_cons_of_mem _ hy), fun y hy => ?_, fun y hy => ?_⟩
  · rcases h.td x (List.mem_cons_self ..) with rfl | q
    · exact .one hy
    · exact .more (h.snd x q) hy
  · rcases h.cl y hy with q | q
    · rcases List.mem_cons.1 q with rfl | q
      · exact .inr fun z hz => .inr hz
      · exact .inl q
    · exact .inr fun z hz => (q z hz).elim .inl fun e => by cases e
theorem us_new {y : Str} (h : UsI b c (y :: W) out todo) (hn : y ∉ out) : UsI b c W (addS out y) (todo ++ [y]) := by
  have hy := h.w y (List.mem_cons_self ..)
  refine ⟨addS_srt h.srt hn, fun x hx => ?_, fun x hx => ?_, fun x hx => h.w x (List.mem_cons_of_mem _ hx), fun x hx => ?_⟩
  · rcases addS_mem.1 hx with rfl | hx
    · exact hy
    · exact h.snd x hx
  · rcases List.mem_append.1 hx with hx | hx
    · exact (h.td x hx).imp id fun q => addS_mem.2 (.inr q)
    · exact .inr (addS_mem.2 (.inl (List.mem_singleton.1 hx)))
  · have k : x = y ∨ x = c ∨ x ∈ out := by
      rcases hx with hx | hx
      · exact .inr (.inl hx)
      · exact (addS_mem.1 hx).imp id .inr
    rcases k with rfl | k
    · exact .inl (List.mem_append_right _ (by simp))
    · rcases h.cl x k with q | q
      · exact .inl (List.mem_append_left _ q)
      · refine .inr fun z hz => ?_
        rcases q z hz with r | r
        · exact .inl (addS_mem.2 (.inr r))
        · rcases List.mem_cons.1 r with rfl | r
          · exact .inl (addS_mem.2 (.inl rfl))
          · exact .inr r
theorem us_old {y : Str} (h : UsI b c (y :: W) out todo) (hn : y ∈ out) : UsI b c W out todo :=
  ⟨h.srt, h.snd, h.td, fun x hx => h.w x (List.mem_cons_of_mem _ hx), fun x hx => (h.cl x hx).imp id fun q z hz => (q z hz).elim .inl fun r => (List.mem_cons.1 r).elim (fun e => .inl (e ▸ hn)) .inr⟩
theorem us_end (h : UsI b c [] out []) : out = usL b c := by
  refine srtS_uniq h.srt (us_srt b c) fun x => ⟨fun q => us_mem.2 (h.snd x q), fun q => ?_⟩
  have q1 := us_mem.1 q
  clear q
  have cl : ∀ x, x = c ∨ x ∈ out → ∀ y ∈ frm (rFin b) x, y ∈ out := fun x hx y hy => by
    rcases h.cl x hx with r | r
    · cases r
    · exact (r y hy).elim id fun e => by cases e
  induction q1 with
  | one k => exact cl _ (.inl rfl) _ k
  | more _ k ih => exact cl _ (.inr ih) _ k
theorem us_le (h : UsI b c W out todo) : out.length ≤ b.1.length := by
  have h1 := nodup_le (A := out) (B := cls (rFin b)) (h.srt.imp fun {a b} q e => by rw [e, ltS_irrefl] at q; cases q) fun x hx => rch_cls (h.snd x hx)
  refine Nat.le_trans h1 ?_
  unfold cls; rw [List.length_map]
  exact fin_len _
theorem rs_frm (ho : hok b.2) (hD : hokD b.1) (x : Str) : (rsI b.1 (finD b.1 (okL b.2)) b.2 x < 0 ∧ frm (rFin b) x = []) ∨ (0 ≤ rsI b.1 (finD b.1 (okL b.2)) b.2 x ∧ rsI b.1 (finD b.1 (okL b.2)) b.2 x < b.1.length ∧ (b.1.getD (rsI b.1 (finD b.1 (okL b.2)) b.2 x).toNat zD).2.1 = frm (rFin b) x) := by
  have e : finD b.1 (okL b.2) = rFin b := fin_okM ho hD
  have h := rsI_frm (D := b.1) (ok := okM (bm b.2)) (hs := b.2) (c := x) fun d hd => (okM_bm ho (hD d hd)).symm
  rw [e]
  exact h
end
end Go.AM
namespace Go.AM
open Go Go.RowKit
section
variable {b : Book} {c : Str} {W out L : List Str} {off : Nat}
theorem drop_hd {L : List Str} {off : Nat} (h : off < L.length) : L.drop off = L.getD off [] :: L.drop (off + 1) := by
  rw [List.drop_eq_getElem_cons h, List.getD_eq_getElem?_getD, List.getElem?_eq_getElem h]; rfl
theorem us_popD (h : UsI b c [] out (L.drop off)) (hl : off < L.length) : UsI b c (frm (rFin b) (L.getD off [])) out (L.drop (off + 1)) := us_pop (by rw [← drop_hd hl]; exact h)
theorem us_newR {F : List Str} {k : Nat} (hk : k < F.length) (h : UsI b c (F.drop k) out (L.drop off)) (hn : F.getD k [] ∉ out) (ho : off ≤ L.length) : UsI b c (F.drop (k + 1)) (addS out (F.getD k [])) ((L ++ [F.getD k []]).drop off) := by
  rw [List.drop_append_of_le_length ho]
  rw [drop_hd hk] at h
  exact us_new h hn
theorem us_newF {F : List Str} {k : Nat} (hk : k < F.length) (h : UsI b c (F.drop k) out (L.drop off)) (hn : F.getD k [] ∉ out) : UsI b c (F.drop (k + 1)) (addS out (F.getD k [])) ((L.drop off ++ [F.getD k []]).drop 0) := by
  rw [List.drop_zero]
  rw [drop_hd hk] at h
  exact us_new h hn
theorem us_oldD {F : List Str} {k : Nat} (hk : k < F.length) (h : UsI b c (F.drop k) out (L.drop off)) (hn : F.getD k [] ∈ out) : UsI b c (F.drop (k + 1)) out (L.drop off) := by
  rw [drop_hd hk] at h
  exact us_old h hn
theorem us_endW {F : List Str} {k : Nat} (hk : F.length ≤ k) (h : UsI b c (F.drop k) out (L.drop off)) : UsI b c [] out (L.drop off) := by
  rwa [List.drop_of_length_le hk] at h
theorem us_endD (hl : L.length ≤ off) (h : UsI b c [] out (L.drop off)) : out = usL b c := by
  rw [List.drop_of_length_le hl] at h
  exact us_end h
theorem us_at {L : List Str} {off : Nat} (h : off < L.length) : (L.flatMap enS)[off * 1]? = some (st (L.getD off [])) := by
  have h1 := flat_drop enS_len L off h
  have h2 : ((L.flatMap enS).drop (off * 1))[0]? = some (st (L.getD off [])) := by
    rw [h1, List.getD_eq_getElem?_getD, List.getElem?_eq_getElem h]; rfl
  rw [List.getElem?_drop] at h2
  exact h2
end
end Go.AM
end

section
/- A tail of a slice of the call's own: it is cut further, read, and grows. -/
namespace Go.AM
open Go Go.RowKit
/-- the tail that leaves out the first 'off' elements of z cells -/
def TlP (z off : Nat) (_ : Hp) (v x : Value) : Prop := ∃ a b n cap, v = .slice a n cap ∧ off ≤ n ∧ n ≤ cap ∧ x = .slice b (n - off) (cap - off) ∧ (off < cap → ∃ k, a = some ⟨k, 0, none⟩ ∧ b = some ⟨k, off * z, none⟩)
/-- the same, with room for one more -/
def TlR (z off : Nat) (h : Hp) (v x : Value) : Prop := TlP z off h v x ∧ ∃ a n cap, v = .slice a n cap ∧ n < cap
/-- the same, without room -/
def TlF (z off : Nat) (h : Hp) (v x : Value) : Prop := TlP z off h v x ∧ ∃ a n, v = .slice a n n
section ghost
variable {P : Program} {B : Bool} {N np : Nat} {Q : Exit → St → Prop} {s : St} {c : Code}
theorem AWp_tail0 {t m z : Nat} {e : TypeId} {cs : List DV} (ht : s.regs t = .vec m) (hb : s.own m = some ⟨true, z, e, cs⟩) (hz : Nat.blt 0 z = true) (h : AWp P B N np c Q ⟨upd s.regs t (.axm (TlP z 0) m), s.own⟩) : AWp P B N np c Q s := by
  intro ro hB C hh r ac w hn hc
  have hold := hc.wk.ow m _ hb
  rw [BlkRep.slE rfl (by simpa using hz)] at hold
  obtain ⟨ad, l, cap, q1, q2, q3, q4, q5⟩ := hold
  refine h ro hB C _ r ac w hn ⟨hc.sz, hc.df, fun t' => ?_, hc.wk⟩
  show AVRep _ _ (upd s.regs t _ t') _
  by_cases e2 : t' = t
  · subst e2
    rw [upd_same]
    have hx := hc.rg t'
    rw [ht] at hx
    have hx : _ = r m := hx
    refine fun h' _ => ⟨ad, ad, l, cap, q1, Nat.zero_le _, q3, hx.trans q1, fun hc0 => ?_⟩
    rcases q5 with q5 | ⟨k, c, rfl, _⟩
    · omega
    · exact ⟨k, rfl, by rw [Nat.zero_mul]⟩
  · rw [upd_ne _ _ _ _ e2]; exact hc.rg t'
theorem AWp_room {t m z off : Nat} (ht : s.regs t = .axm (TlP z off) m) (h1 : AWp P B N np c Q ⟨upd s.regs t (.axm (TlR z off) m), s.own⟩) (h2 : AWp P B N np c Q ⟨upd s.regs t (.axm (TlF z off) m), s.own⟩) : AWp P B N np c Q s := by
  intro ro hB C hh r ac w hn hc
  have hx := hc.rg t
  rw [ht] at hx
  obtain ⟨a, b, n, cap, g1, g2, g3, g4, g5⟩ := hx hh fun _ _ _ e => e
  rcases Nat.lt_or_ge n cap with hlt | hge
  · refine h1 ro hB C _ r ac w hn ⟨hc.sz, hc.df, fun t' => ?_, hc.wk⟩
    show AVRep _ _ (upd s.regs t _ t') _
    by_cases e2 : t' = t
    · subst e2
      rw [upd_same]
      exact fun h' q => ⟨hx h' q, a, n, cap, g1, hlt⟩
    · rw [upd_ne _ _ _ _ e2]; exact hc.rg t'
  · refine h2 ro hB C _ r ac w hn ⟨hc.sz, hc.df, fun t' => ?_, hc.wk⟩
    show AVRep _ _ (upd s.regs t _ t') _
    by_cases e2 : t' = t
    · subst e2
      rw [upd_same]
      exact fun h' q => ⟨hx h' q, a, n, by rw [g1, Nat.le_antisymm g3 hge]⟩
    · rw [upd_ne _ _ _ _ e2]; exact hc.rg t'
end ghost
section
variable {P : Program} {tt : TT} (hT : TTok P tt)
variable {dst : Option Nat} {ty : TypeId} {pos : String} {af : Array Edge} {gd : Option (Nat × Bool)} {d : Nat} {ρ : Operand → AV} {own : Own}
variable {T e be : TypeId} {i j : TyI} {x y : Operand} {m off z : Nat} {cs : List DV}
/-- a tail's length -/
theorem TlP.len {h : Hp} {r : Nat → Value} {own' : Own} {w : World} {C : Ctx} (hw : WOK C h r own' w) (hb : own' m = some ⟨true, z, be, cs⟩) (hz : 0 < z) {x : Value} (k : TlP z off h (r m) x) {l : Nat} (hl : cs.length = l * z) :
    ∃ a b cap, r m = .slice a l cap ∧ off ≤ l ∧ l ≤ cap ∧ l ≤ 140737488355328 ∧ x = .slice b (l - off) (cap - off) ∧ (off < cap → ∃ k, a = some ⟨k, 0, none⟩ ∧ b = some ⟨k, off * z, none⟩) ∧ (cap = 0 ∨ ∃ k c, a = some ⟨k, 0, none⟩ ∧ w.heap[k]? = some (.cells c be (0, 0)) ∧ c.size = cap * z ∧ DReps h cs fun i => c[i]?) := by
  have hold := hw.ow m _ hb
  rw [BlkRep.slE rfl hz] at hold
  obtain ⟨ad, l', cap, q1, q2, q3, q4, q5⟩ := hold
  have e1 : l' = l := Nat.eq_of_mul_eq_mul_right hz (q2.trans hl)
  subst e1
  obtain ⟨a, b, n, cap', g1, g2, g3, g4, g5⟩ := k
  rw [q1] at g1
  simp only [Value.slice.injEq] at g1
  obtain ⟨rfl, rfl, rfl⟩ := g1
  exact ⟨ad, b, cap, q1, g2, q3, q4, g4, g5, q5⟩
include hT
theorem op_tail_len (ht : tt T = some i) (hs : i.sh = .sl e) (hx : ρ x = .axm (TlP z off) m) (hb : own m = some ⟨true, z, be, cs⟩) (hz : Nat.blt 0 z = true) {l : Nat} (hl : cs.length = l * z) :
    Eff P ⟨dst, .call ⟨.builtin .len, #[x], #[T]⟩, ty, pos, af, gd⟩ d ρ own (.p (.c (.v (.int .i64 ((l - off : Nat) : Int))))) [] none [m] :=
  Eff.value fun C h r own' a w hrep hrd hw => by
    have e1 := hrep x (by simp [Op.operands, Call.operands])
    rw [hx] at e1
    obtain ⟨ad, b, cap, _, _, _, _, q4, _, _⟩ := TlP.len hw ((hrd m (by simp)).trans hb) (by simpa using hz) (e1 h fun _ _ _ e => e) hl
    refine ⟨goInt ((l - off : Nat) : Int), ?_, by simp only [AVRep, PRep, DRep]; exact ⟨rfl, rfl⟩⟩
    simp only [execOp, resolve, Sem.run_bind, Sem.run_pure, Result.andThen_ok, invoke]
    simp [builtin, q4, Builtin.len_, run_underlying ((hT T i ht).slice hs), goInt]
theorem op_tail_next {k : IntKind} (ht : tt T = some i) (hs : i.sh = .sl e) (he : tt e = some j) (hj : j.size = z) (hx : ρ x = .axm (TlP z off) m) (hb : own m = some ⟨true, z, be, cs⟩) (hz : Nat.blt 0 z = true) {l : Nat} (hl : cs.length = l * z) (hy : ρ y = .p (.c (.v (.int k 1)))) (hn : off + 1 ≤ l) :
    Eff P ⟨dst, .slice T x (some y) none none, ty, pos, af, gd⟩ d ρ own (.axm (TlP z (off + 1)) m) [] none [m] :=
  Eff.value fun C h r own' a w hrep hrd hw => by
    have e1 := hrep x (by simp [Op.operands])
    have e2 := hrep y (by simp [Op.operands])
    rw [hx] at e1; rw [hy] at e2
    obtain ⟨ad, b, cap, q1, q2, q3, _, q4, q5, _⟩ := TlP.len hw ((hrd m (by simp)).trans hb) (by simpa using hz) (e1 h fun _ _ _ e => e) hl
    have v2 : a.eval y = .int k 1 := rep_val e2
    have hu := (hT T i ht).slice hs
    have hel : P.elem T = e := by simp [Program.elem, hu]
    have hu' : P.underlying T = some (.slice (P.elem T)) := by rw [hel]; exact hu
    refine ⟨sliced b 1 (l - off) (cap - off) j.size, ?_, fun h' _ => ⟨ad, if cap - off = 1 then b else b.map (·.add (1 * j.size)), l, cap, q1, hn, q3, ?_, fun hlt => ?_⟩⟩
    · simp only [execOp, q4, Option.map_some, Option.map_none, v2, Sem.run_bind, run_sliceAt_slice w T _ _ _ _ hu', run_slice_l w T _ (l - off) (cap - off) hu' k 1 (by omega) (by omega), hel, (hT e j he).size, Result.andThen_ok, Sem.run_pure]
      rfl
    · simp only [sliced, Nat.sub_sub]
    · obtain ⟨k', rfl, rfl⟩ := q5 (by omega)
      refine ⟨k', rfl, ?_⟩
      rw [if_neg (by omega), hj]
      simp only [Option.map_some, Addr.add_lit, Nat.one_mul, Nat.add_mul]
theorem op_tail_index0 {k : IntKind} (ht : tt T = some i) (hs : i.sh = .sl e) (he : tt e = some j) (_hj : j.size = z) (hx : ρ x = .axm (TlP z off) m) (hb : own m = some ⟨true, z, be, cs⟩) (hz : Nat.blt 0 z = true) {l : Nat} (hl : cs.length = l * z) (hy : ρ y = .p (.c (.v (.int k 0)))) (hn : off < l) :
    Eff P ⟨dst, .indexAddr T x y, ty, pos, af, gd⟩ d ρ own (.loc m (off * z)) [] none [m] :=
  Eff.value fun C h r own' a w hrep hrd hw => by
    have e1 := hrep x (by simp [Op.operands])
    have e2 := hrep y (by simp [Op.operands])
    rw [hx] at e1; rw [hy] at e2
    obtain ⟨ad, b, cap, q1, q2, q3, _, q4, q5, _⟩ := TlP.len hw ((hrd m (by simp)).trans hb) (by simpa using hz) (e1 h fun _ _ _ e => e) hl
    obtain ⟨k', rfl, rfl⟩ := q5 (by omega)
    have hu := (hT T i ht).slice hs
    have hlt : (0 : Int) < ((l - off : Nat) : Int) := by omega
    refine ⟨.pointer (some ⟨k', off * z, none⟩), ?_, k', ?_, rfl⟩
    · simp only [execOp, q4, rep_val e2, Instr.indexAt, asIntOf, Sem.run_bind, Sem.run_pure, Result.andThen_ok, run_underlying hu, Int.le_refl, hlt, and_self, if_true, (hT e j he).size, Addr.add_lit, Int.toNat_zero, Nat.zero_mul, Nat.add_zero]
    · rw [q1]; simp only [hblk]; rw [if_neg (by omega)]; exact ⟨rfl, rfl⟩
/-- a tail grows where it is -/
theorem op_tail_appR {β : Type} {encD : β → List DV} (hL : ∀ b, (encD b).length = z) {l : List β} {bx : β} (ht : tt T = some i) (hs : i.sh = .sl e) (he : tt e = some j) (hj : j.size = z) (hx : ρ x = .axm (TlR z off) m) (hb : own m = some (VB z e encD l)) (hz : Nat.blt 0 z = true) (hy : ρ y = .p (.c (.sl 1 (encD bx)))) (hln : l.length + 1 ≤ 140737488355328) (hmd : m ≠ d) :
    Eff P ⟨dst, .call ⟨.builtin .append, #[x, y], #[T, T]⟩, ty, pos, af, gd⟩ d ρ own (.axm (TlP z off) d) [(m, none)] (some (VB z e encD (l ++ [bx]))) [m] := by
  intro C h r own' a w K Q hrep hrd hw hal hK
  have hb' := (hrd m (by simp)).trans hb
  have hz1 : 0 < z := by simpa using hz
  have e1 := hrep x (by simp [Op.operands, Call.operands])
  have e2 := hrep y (by simp [Op.operands, Call.operands])
  rw [hx] at e1; rw [hy] at e2
  have e1 := e1 h fun _ _ _ e => e
  obtain ⟨ba, bb, bcap, q1, q2, q3, q4, q5, q6, q7⟩ := TlP.len hw hb' hz1 e1.1 (flat_len hL l)
  have hroom : l.length < bcap := by
    obtain ⟨a', n', c', g1, g2⟩ := e1.2
    rw [q1] at g1; simp only [Value.slice.injEq] at g1
    obtain ⟨_, rfl, rfl⟩ := g1; exact g2
  obtain ⟨k, rfl, rfl⟩ := q6 (by omega)
  obtain ⟨ad, cap, h1, h2, h3⟩ := rep_slice_src hw e2
  obtain ⟨ti, g1, g2, g3, z', g4, g5, g6, g7⟩ := (hT e j he).info
  have hu := (hT T i ht).slice hs
  have hal' := hal (by simp)
  have hlow : own' m ≠ none := by rw [hb']; simp
  rcases h3 with h3 | ⟨A, rfl, h3⟩
  · have := hL bx; rw [h3] at this; simp at this; omega
  obtain ⟨vs, v1, v2, v3, v4⟩ := h3.values
  have v1 : vs.length = z := v1.trans (hL bx)
  rcases q7 with q7 | ⟨k', c, e3, p2, p3, p4⟩
  · omega
  cases e3
  have hbk : hblk (r m) = some k := by rw [q1]; simp only [hblk]; rw [if_neg (by omega)]
  have hfitc : l.length * z + vs.length ≤ c.size := by
    rw [v1, p3]
    have := Nat.mul_le_mul_right z (show l.length + 1 ≤ bcap from hroom)
    rw [Nat.add_mul, Nat.one_mul] at this; exact this
  obtain ⟨w', c', k1, k2, k3, k4, k5⟩ := run_storeCells_block P k e vs (l.length * z) 0 w c p2 (by simpa using hfitc) v3
  have hf : (Builtin.firstCells j.size 1 (.slice (some A) 1 cap)).run P w = .ok vs.toArray w := run_firstCells_some w j.size 1 A 1 cap vs (by rw [v1, hj, Nat.one_mul]) (fun p v hp => v2 p v hp)
  rw [hj] at hf
  have hoff : off * z + (l.length - off) * z = l.length * z := by rw [← Nat.add_mul]; congr 1; omega
  have hroom' : l.length - off + 1 ≤ bcap - off := by omega
  have hrun : (Builtin.append_ #[T, T] ty #[.slice (some ⟨k, off * z, none⟩) (l.length - off) (bcap - off), .slice (some A) 1 cap]).run P w = .ok (.slice (some ⟨k, off * z, none⟩) (l.length - off + 1) (bcap - off)) w' := by
    simp [Builtin.append_, run_underlying hu, sizeOf, typeInfo, g1, g2, Builtin.lenOf, hroom', hf, Addr.add_lit, hj, hoff, k1]
  have hrun2 : (execOp a.eval ⟨dst, .call ⟨.builtin .append, #[x, y], #[T, T]⟩, ty, pos, af, gd⟩).run P w = .ok (.value (.slice (some ⟨k, off * z, none⟩) (l.length - off + 1) (bcap - off))) w' := by
    apply run_builtin
    simp only [List.map_toArray, List.map_cons, List.map_nil, q5, h1, builtin, Sem.run_bind, hrun, Result.andThen_ok, Sem.run_pure]
  unfold Oper.wp
  rw [hrun2]
  have hcsr : DReps h (l.flatMap encD) fun p => c'[p]? := p4.congr fun p hp => by
    have := k5 p
    simp only [Nat.add_zero] at this
    rw [flat_len hL] at hp
    rw [this, if_neg (by omega)]
  have hw' := hw.write hlow hbk k2 (b := VB z e encD l) (by
    rw [BlkRep.slE rfl hz1]
    exact ⟨_, l.length, bcap, q1, (flat_len hL l).symm, q3, q4, .inr ⟨k, c', rfl, k3, by rw [k4, p3], hcsr⟩⟩) (by intro j hj; cases hj)
  have e0 : upd own' m (some (VB z e encD l)) = own' := by
    funext p
    by_cases hp : p = m
    · subst hp; rw [upd_same, hb']
    · rw [upd_ne _ _ _ _ hp]
  rw [e0] at hw'
  refine hK _ h (upd r d (.slice (some ⟨k, 0, none⟩) (l.length + 1) bcap)) w' (.refl _) (fun p hp => upd_ne _ _ _ _ (hp (by simp))) (fun h' _ => ?_) ?_
  · rw [upd_same]
    exact ⟨_, _, _, _, rfl, by omega, by omega, by congr 1; omega, fun _ => ⟨k, rfl, rfl⟩⟩
  refine hw'.rename hlow hal'.1 hal'.2.1 (fun p hp => by
    rw [q1]
    simp only [hblk] at hp ⊢
    exact hp) ?_ hal'.2.2 rfl
  rw [BlkRep.slE (b := VB z e encD (l ++ [bx])) rfl hz1]
  have hlen : ((l ++ [bx]).flatMap encD).length = (l.length + 1) * z := by rw [flat_len hL]; simp
  refine ⟨_, l.length + 1, bcap, rfl, hlen.symm, hroom, hln, .inr ⟨k, c', rfl, k3, by rw [k4, p3], ?_⟩⟩
  show DReps h ((l ++ [bx]).flatMap encD) _
  rw [List.flatMap_append, DReps.iff]
  intro p dv' hp
  by_cases hlt : p < (l.flatMap encD).length
  · rw [List.getElem?_append_left hlt] at hp
    exact hcsr.get p dv' hp
  · rw [List.getElem?_append_right (by omega)] at hp
    rw [show [bx].flatMap encD = encD bx by simp] at hp
    have hpl := (List.getElem?_eq_some_iff.1 hp).1
    obtain ⟨u, u1, u2⟩ := v4.get _ _ hp
    refine ⟨u, ?_, u2⟩
    rw [flat_len hL] at u1 hlt hpl
    rw [hL] at hpl
    have := k5 p
    simp only [Nat.add_zero] at this
    rw [this, if_pos (by rw [v1]; omega)]
    exact u1
/-- a tail without room is copied -/
theorem op_tail_appF {β : Type} {encD : β → List DV} (hL : ∀ b, (encD b).length = z) {l : List β} {bx : β} (ht : tt T = some i) (hs : i.sh = .sl e) (he : tt e = some j) (hj : j.size = z) (hjb : Nat.ble j.bytes (32 * z) = true) (hx : ρ x = .axm (TlF z off) m) (hb : own m = some (VB z e encD l)) (hz : Nat.blt 0 z = true) (hy : ρ y = .p (.c (.sl 1 (encD bx)))) (hfit : l.length ≤ 10000000) (hzb : Nat.ble z 96 = true) (hmd : m ≠ d) :
    Eff P ⟨dst, .call ⟨.builtin .append, #[x, y], #[T, T]⟩, ty, pos, af, gd⟩ d ρ own (.axm (TlP z 0) d) [(m, none)] (some (VB z e encD (l.drop off ++ [bx]))) [m] := by
  intro C h r own' a w K Q hrep hrd hw hal hK
  have hb' := (hrd m (by simp)).trans hb
  have hz1 : 0 < z := by simpa using hz
  have hz2 := Nat.le_of_ble_eq_true hzb
  have hjb' := Nat.le_of_ble_eq_true hjb
  have e1 := hrep x (by simp [Op.operands, Call.operands])
  have e2 := hrep y (by simp [Op.operands, Call.operands])
  rw [hx] at e1; rw [hy] at e2
  have e1 := e1 h fun _ _ _ e => e
  obtain ⟨ba, bb, bcap, q1, q2, q3, q4, q5, q6, q7⟩ := TlP.len hw hb' hz1 e1.1 (flat_len hL l)
  have hfull : bcap = l.length := by
    obtain ⟨a', n', g1⟩ := e1.2
    rw [q1] at g1; simp only [Value.slice.injEq] at g1
    obtain ⟨_, rfl, rfl⟩ := g1; rfl
  subst hfull
  obtain ⟨ad, cap, h1, h2, h3⟩ := rep_slice_src hw e2
  obtain ⟨ti, g1, g2, g3, z', g4, g5, g6, g7⟩ := (hT e j he).info
  have hu := (hT T i ht).slice hs
  have hal' := hal (by simp)
  have hlow : own' m ≠ none := by rw [hb']; simp
  rcases h3 with h3 | ⟨A, rfl, h3⟩
  · have := hL bx; rw [h3] at this; simp at this; omega
  obtain ⟨vs, v1, v2, v3, v4⟩ := h3.values
  have v1 : vs.length = z := v1.trans (hL bx)
  have hdl : ((l.drop off).flatMap encD).length = (l.length - off) * z := by rw [flat_len hL, List.length_drop]
  have hfd : (l.flatMap encD).drop (off * z) = (l.drop off).flatMap encD := by
    have h0 := flat_take hL l off
    have h4 : l.flatMap encD = (l.take off).flatMap encD ++ (l.drop off).flatMap encD := by rw [← List.flatMap_append, List.take_append_drop]
    rw [h4, List.drop_append_of_le_length (by rw [flat_len hL, List.length_take, Nat.min_eq_left q2]; exact Nat.le_refl _)]
    rw [List.drop_of_length_le (by rw [flat_len hL, List.length_take, Nat.min_eq_left q2]; exact Nat.le_refl _)]
    rfl
  have olds : ∃ us : List Value, us.length = (l.length - off) * z ∧ (Builtin.firstCells j.size (l.length - off) (.slice bb (l.length - off) (l.length - off))).run P w.drew = .ok us.toArray w.drew ∧ DReps h ((l.drop off).flatMap encD) fun p => us[p]? := by
    by_cases hc0 : l.length - off = 0
    · refine ⟨[], by rw [hc0]; simp, ?_, ?_⟩
      · rw [hc0]
        cases bb with
        | none => exact run_firstCells_none w.drew _ _ _ _
        | some A => exact run_firstCells_some w.drew j.size 0 A 0 0 [] (by simp) (fun p v hp => by simp at hp)
      · have : l.drop off = [] := List.drop_of_length_le (by omega)
        rw [this]; simp only [List.flatMap_nil, DReps]
    · obtain ⟨k, rfl, rfl⟩ := q6 (by omega)
      rcases q7 with q7 | ⟨k', c, e3, p2, p3, p4⟩
      · omega
      cases e3
      have rd : Reads h w ⟨k, off * z, none⟩ ((l.drop off).flatMap encD) := by
        rw [← hfd]
        exact Reads.of_cells p2 (p4.drop (off * z))
      obtain ⟨us, k1, k2, k3, k4⟩ := rd.values
      exact ⟨us, by rw [k1, hdl], run_firstCells_some w.drew j.size (l.length - off) _ (l.length - off) (l.length - off) us (by rw [k1, hdl, hj]) (fun p v hp => k2 p v hp), k4⟩
  obtain ⟨us, u1, hfo, u3⟩ := olds
  have hf : (Builtin.firstCells j.size 1 (.slice (some A) 1 cap)).run P w.drew = .ok vs.toArray w.drew := run_firstCells_some w.drew j.size 1 A 1 cap vs (by rw [v1, hj, Nat.one_mul]) (fun p v hp => v2 p v hp)
  have hnb : (l.length - off + 1) * j.bytes ≤ 140737488355328 := by
    have h5 : (l.length - off + 1) * j.bytes ≤ 10000001 * (32 * 96) := Nat.mul_le_mul (by omega) (Nat.le_trans hjb' (by omega))
    omega
  have hroom : ¬ l.length - off + 1 ≤ l.length - off := by omega
  have hrun : (Builtin.append_ #[T, T] ty #[.slice bb (l.length - off) (l.length - off), .slice (some A) 1 cap]).run P w = .ok (.slice (some ⟨w.heap.size, 0, none⟩) (l.length - off + 1) (grownCap w (l.length - off + 1) (l.length - off) e)) (w.drew.alloc (.cells (us.toArray ++ (vs.toArray ++ Builtin.zeroCells z'.cells (grownCap w (l.length - off + 1) (l.length - off) e - (l.length - off + 1)))) e)) := by
    have h63' : ¬ (9223372036854775807 < (((l.length - off : Nat) : Int) + 1)) := by omega
    have h48 : Builtin.nextslicecap (l.length - off + 1) (l.length - off) * ti.bytes ≤ 281474976710656 := growslice_fits (by omega) (by rw [g3]; exact hnb)
    have h48' : ¬ (281474976710656 < Builtin.nextslicecap (l.length - off + 1) (l.length - off) * ti.bytes) := by omega
    simp [Builtin.append_, run_underlying hu, sizeOf, typeInfo, zeroValue, g1, g2, g4, Builtin.lenOf, hroom, h63', h48', Question.forced, hf, hfo, newRow, grownCap]
  have hrun2 : (execOp a.eval ⟨dst, .call ⟨.builtin .append, #[x, y], #[T, T]⟩, ty, pos, af, gd⟩).run P w = .ok (.value (.slice (some ⟨w.heap.size, 0, none⟩) (l.length - off + 1) (grownCap w (l.length - off + 1) (l.length - off) e))) (w.drew.alloc (.cells (us.toArray ++ (vs.toArray ++ Builtin.zeroCells z'.cells (grownCap w (l.length - off + 1) (l.length - off) e - (l.length - off + 1)))) e)) := by
    apply run_builtin
    simp only [List.map_toArray, List.map_cons, List.map_nil, q5, h1, builtin, Sem.run_bind, hrun, Result.andThen_ok, Sem.run_pure]
  unfold Oper.wp
  rw [hrun2]
  have hge := grownCap_ge w (l.length - off + 1) (l.length - off) e
  have hlen : ((l.drop off ++ [bx]).flatMap encD).length = (l.length - off + 1) * z := by rw [flat_len hL]; simp
  have hal2 := hw.draw.alloc (d := d) hal'.1 hal'.2.1 (o := .cells (us.toArray ++ (vs.toArray ++ Builtin.zeroCells z'.cells (grownCap w (l.length - off + 1) (l.length - off) e - (l.length - off + 1)))) e) (v := .slice (some ⟨w.heap.size, 0, none⟩) (l.length - off + 1) (grownCap w (l.length - off + 1) (l.length - off) e)) (b := VB z e encD (l.drop off ++ [bx])) (fun k hk => by
      simp only [hblk] at hk
      split at hk
      · cases hk
      · simpa using hk.symm) (by
      rw [BlkRep.slE (b := VB z e encD (l.drop off ++ [bx])) rfl hz1]
      refine ⟨_, l.length - off + 1, grownCap w (l.length - off + 1) (l.length - off) e, rfl, hlen.symm, hge, by omega, .inr ⟨w.heap.size, _, rfl, by rw [heap_alloc]; exact if_pos rfl, ?_, ?_⟩⟩
      · simp only [Array.size_append, List.size_toArray, size_zeroCells, u1, v1, g5, hj]
        have h6 : z + (grownCap w (l.length - off + 1) (l.length - off) e - (l.length - off + 1)) * z = (1 + (grownCap w (l.length - off + 1) (l.length - off) e - (l.length - off + 1))) * z := by rw [Nat.add_mul, Nat.one_mul]
        rw [h6, ← Nat.add_mul]; congr 1; omega
      · have hap := DReps.append (xs := (l.drop off).flatMap encD) (ys := encD bx) (vs := us) (us := vs) (by rw [u1, hdl]) u3 v4
        show DReps h ((l.drop off ++ [bx]).flatMap encD) _
        rw [List.flatMap_append, show [bx].flatMap encD = encD bx by simp]
        refine hap.congr fun p hp => ?_
        rw [List.length_append] at hp
        have hpl : p < (us ++ vs).length := by rw [List.length_append, u1, v1]; rw [hdl, hL] at hp; exact hp
        rw [← Array.getElem?_toList]
        simp only [Array.toList_append]
        rw [← List.append_assoc, List.getElem?_append_left hpl]) hal'.2.2 rfl
  refine hK _ h (upd r d (.slice (some ⟨w.heap.size, 0, none⟩) (l.length - off + 1) (grownCap w (l.length - off + 1) (l.length - off) e))) _ (.refl _) (fun p hp => upd_ne _ _ _ _ (hp (by simp))) (fun h' _ => ?_) ?_
  · rw [upd_same]
    exact ⟨_, _, _, _, rfl, Nat.zero_le _, hge, rfl, fun _ => ⟨w.heap.size, rfl, by rw [Nat.zero_mul]⟩⟩
  refine hal2.forget fun p => ?_
  show upd (upd own' m none) d _ p = _ ∨ _
  by_cases hp : p = d
  · subst hp; exact .inl (by simp)
  · rw [upd_ne _ _ _ _ hp, upd_ne _ _ _ _ hp]
    by_cases hpm : p = m
    · subst hpm; exact .inr (by simp [nown, applySt, upd_ne _ _ _ _ hp])
    · exact .inl (by rw [upd_ne _ _ _ _ hpm])
end
end Go.AM
end

section
/- A right derivation leans on few claims. -/
namespace Go.AM
open Go Go.RowKit
theorem frm_le {d : Drv} (h : rightD d = true) : d.2.1.length ≤ 1000000 := by
  unfold rightD at h
  simp only [Bool.and_eq_true, decide_eq_true_eq] at h
  omega
end Go.AM
end

section
/- Copies of elements of several cells; what they leave in a block. -/
namespace Go.AM
open Go Go.RowKit
theorem setCells_block {w : World} {k : Nat} {e : TypeId} {c : Array Value} (hk : w.heap[k]? = some (.cells c e (0, 0))) (o : Nat) (vs : List Value) (hl : o + vs.length ≤ c.size) (h1 : ∀ v ∈ vs, v.oneCell' = true) :
    SameBut k w (w.setCells k o vs) ∧ ∃ c', (w.setCells k o vs).heap[k]? = some (.cells c' e (0, 0)) ∧ c'.size = c.size ∧ ∀ j, c'[j]? = if o ≤ j ∧ j < o + vs.length then vs[j - o]? else c[j]? := by
  let P : Program := default
  obtain ⟨w', c', g1, g2, g3, g4, g5⟩ := run_storeCells_block P k e vs o 0 w c hk (by simpa using hl) h1
  have hc : ∀ j, j < vs.length → (w.cell? ⟨k, o + 0 + j, none⟩).isSome = true := fun j hj => by
    have : o + j < c.size := by omega
    simp only [World.cell?, hk]; simp [this]
  have hf : ∀ j, j < vs.length → w.frozen? ⟨k, o + 0 + j, none⟩ = false := fun j hj => by simp [World.frozen?, hk]
  have g6 := run_storeCells_cells (P := P) k o vs 0 w hc hf h1
  rw [g6] at g1
  cases g1
  exact ⟨by simpa using g2, c', by simpa using g3, g4, by simpa using g5⟩
/-- copy, for elements of z cells -/
theorem run_copyK {P : Program} (w : World) (dT sT ty elem : TypeId) (z b o dLen dCap : Nat) (a : Addr) (sLen sCap : Nat) (cs : List Value)
    (hu : P.underlying dT = some (.slice elem)) (hs : (P.info? elem).map (·.size) = some z) (hn : cs.length = Nat.min sLen dLen * z)
    (hsrc : ∀ j v, cs[j]? = some v → w.cell? (a.add j) = some v) (hc : ∀ j, j < cs.length → (w.cell? ⟨b, o + j, none⟩).isSome = true) (hf : ∀ j, j < cs.length → w.frozen? ⟨b, o + j, none⟩ = false) (h1 : ∀ v ∈ cs, v.oneCell' = true) :
    (Builtin.copy_ #[dT, sT] ty #[.slice (some ⟨b, o, none⟩) dLen dCap, .slice (some a) sLen sCap]).run P w = .ok (goInt (Nat.min sLen dLen)) (w.setCells b o cs) := by
  have hl := run_loadCells_list (P := P) w a cs hsrc
  have hst := run_storeCells_cells (P := P) b o cs 0 w (by simpa using hc) (by simpa using hf) h1
  cases hq : P.info? elem with
  | none => simp [hq] at hs
  | some i =>
    have hi : i.size = z := by simpa [hq] using hs
    simp [Builtin.copy_, run_underlying hu, Builtin.lenOf, Builtin.firstCells, sizeOf, typeInfo, hq, hi, ← hn, hl, hst]
end Go.AM
end

section
/- On what a claim rests suffices. -/
namespace Go.AM
open Go Go.RowKit
end Go.AM
end

section
/- Arguments that read as data, in general: slices of whatever, strings. -/
namespace Go.AM
open Go Go.RowKit Go.WideShapes Go.ChangeShapes
section
variable {H : Type} (enc : TypeId × Value → H) (P : Program) (w : World)
/-- whatever reads at type t is data of which S speaks -/
def OpD (t : TypeId) (S : List DV → Prop) : Prop := ∀ (fuel : Nat) (cs : List Value) (x : DataW H × List MemPlace), DataW.trod enc P w 0 (fun _ => true) true fuel t cs = some x → (∀ n ∈ x.1.weights P t, n ≤ reachBytes) →
  ∃ ds, S ds ∧ ds.length = cs.length ∧ DReps (fun k => w.heap[k]?) ds fun i => cs[i]?
variable {enc P w}
theorem opd_of {t : TypeId} {l : List Leaf} (h : Opens enc P w t l) : OpD enc P w t (LDs l) := fun fuel cs x e hw => by
  obtain ⟨ds, h1, h2, h3⟩ := (h fuel cs x e hw).split
  refine ⟨ds, h1, h2, ?_⟩
  rw [DReps.iff]
  exact fun i d he => h3 i d he
theorem opd_string {t : TypeId} (ht : P.underlying t = some .string) : OpD enc P w t (fun ds => ∃ s : ByteArray, ds = [.v (.string s)] ∧ s.size ≤ maxLen) := fun fuel cs x h _ => by
  obtain ⟨s, rfl, _, hs⟩ := DataW.trod_string ht h
  refine ⟨[.v (.string s)], ⟨s, rfl, hs⟩, rfl, ?_⟩
  rw [DReps.iff]
  intro i d e
  cases i with
  | zero => simp only [List.getElem?_cons_zero, Option.some.injEq] at e; subst e; exact ⟨.string s, rfl, by simp only [DRep]; exact ⟨trivial, rfl⟩⟩
  | succ i => simp at e
theorem list_of {α : Type} {p : Nat → α → Prop} : ∀ {n : Nat}, (∀ i, i < n → ∃ x, p i x) → ∃ l : List α, l.length = n ∧ ∀ i x, l[i]? = some x → p i x
  | 0, _ => ⟨[], rfl, fun i x h => by simp at h⟩
  | n + 1, h => by
    obtain ⟨l, h1, h2⟩ := list_of (n := n) fun i hi => h i (by omega)
    obtain ⟨x, hx⟩ := h n (by omega)
    refine ⟨l ++ [x], by rw [List.length_append, h1]; rfl, fun i y e => ?_⟩
    rcases Nat.lt_or_ge i n with k | k
    · rw [List.getElem?_append_left (by omega)] at e; exact h2 i y e
    · rw [List.getElem?_append_right (by omega), h1] at e
      have : i = n := by
        rcases Nat.lt_or_ge (i - n) 1 with q | q
        · omega
        · rw [List.getElem?_eq_none (by simpa using q)] at e; cases e
      subst this
      simp at e
      subst e
      exact hx
theorem flatten_get {z : Nat} : ∀ (l : List (List DV)) (_ : ∀ b ∈ l, b.length = z) (t : Nat) (dv : DV), l.flatten[t]? = some dv → ∃ b, l[t / z]? = some b ∧ b[t % z]? = some dv
  | [], _, t, dv, h => by simp at h
  | b :: l, hL, t, dv, h => by
    rw [List.flatten_cons, List.getElem?_append] at h
    have hb := hL b (by simp)
    rw [hb] at h
    by_cases ht : t < z
    · rw [if_pos ht] at h
      rw [Nat.div_eq_of_lt ht, Nat.mod_eq_of_lt ht]
      exact ⟨b, rfl, h⟩
    · rw [if_neg ht] at h
      obtain ⟨b', h1, h2⟩ := flatten_get l (fun b hb => hL b (by simp [hb])) (t - z) dv h
      have hz : 0 < z := by
        rcases Nat.eq_zero_or_pos z with e | e
        · subst e
          simp at h1 h2
          have : b'.length = 0 := hL b' (by simp [List.mem_of_getElem? h1])
          rw [List.getElem?_eq_none (by omega)] at h2; cases h2
        · exact e
      refine ⟨b', ?_, ?_⟩
      · rw [Nat.div_eq_sub_div hz (by omega), List.getElem?_cons_succ]; exact h1
      · rw [Nat.mod_eq_sub_mod (by omega)]; exact h2
theorem cells_get {base : Nat} {a : Addr} {n : Nat} {cs : List Value} (h : w.cells? base a n = some cs) : cs.length = n ∧ ∀ i, i < n → w.cell? (a.add i) = cs[i]? := by
  unfold World.cells? at h
  split at h
  · refine ⟨by simpa using mapM_some_length h, fun i hi => ?_⟩
    exact mapM_some_get h i i (by simp [hi])
  · cases h
/-- rows of data, each of which S speaks of -/
def SlS (S : List DV → Prop) (b : Nat) (ds : List DV) : Prop := ∃ ls : List (List DV), (∀ l ∈ ls, S l) ∧ ls.length * b ≤ reachBytes ∧ ds = [.sl ls.length ls.flatten]
theorem opd_slice {t e : TypeId} {S : List DV → Prop} {z b : Nat} (ht : P.underlying t = some (.slice e)) (he : OpD enc P w e S) (hc : P.cellsOf e = z) (hS : ∀ ds, S ds → ds.length = z) (hz : 0 < z) (hb : P.bytesOf e = b) (hb1 : 1 ≤ b) : OpD enc P w t (SlS S b) := fun fuel cs x h hw => by
  rcases DataW.trod_slice ht h with ⟨rfl, _⟩ | ⟨a, len, cap, elems, rest, n, rfl, rfl, rfl, _, h2, _, h4, h5, _, _⟩
  · refine ⟨[.sl 0 []], ⟨[], by simp, by simp, rfl⟩, rfl, ?_⟩
    rw [DReps.iff]
    intro i d e
    cases i with
    | zero =>
      simp only [List.getElem?_cons_zero, Option.some.injEq] at e
      subst e
      refine ⟨.slice none 0 0, rfl, ?_⟩
      simp only [DRep]
      exact ⟨none, 0, rfl, Nat.le_refl _, by simp, .inl trivial⟩
    | succ i => simp at e
  · have hlb : len * b ≤ reachBytes := by
      have := hw ((elems.length + rest.length) * P.bytesOf e) (by simp [DataW.weights, ht])
      rw [hb, h4] at this
      have : len * b ≤ (len + rest.length) * b := Nat.mul_le_mul_right _ (by omega)
      omega
    have hlen : len ≤ 140737488355328 := by
      have : len * 1 ≤ len * b := Nat.mul_le_mul_left _ hb1
      have hr : reachBytes < 2 ^ 47 := reachBytes_lt
      omega
    have hel : ∀ i, i < len → ∃ l : List DV, S l ∧ ∀ (j : Nat) d, l[j]? = some d → ∃ y, w.cell? (a.add (i * z + j)) = some y ∧ DRep (fun k => w.heap[k]?) d y := fun i hi => by
      have h6 := h5 i hi
      rw [hc] at h6
      obtain ⟨y, hy⟩ : ∃ y, elems[i]? = some y := ⟨elems[i], List.getElem?_eq_getElem (by omega)⟩
      rw [hy] at h6
      obtain ⟨ci, h7, h8⟩ := Option.bind_eq_some_iff.1 h6
      obtain ⟨k1, k2⟩ := cells_get h7
      obtain ⟨ds, d1, d2, d3⟩ := he _ _ _ h8 fun k hk => hw k (by
        simp only [DataW.weights, ht, List.mem_cons, List.mem_append]
        exact .inr (.inl (weightsAll_mem hk _ i (by simp [hy]))))
      refine ⟨ds, d1, fun j d hd => ?_⟩
      obtain ⟨v, v1, v2⟩ := d3.get j d hd
      have hj : j < z := by have := (List.getElem?_eq_some_iff.1 hd).1; omega
      refine ⟨v, ?_, v2⟩
      rw [← Addr.add_add, k2 j hj]; exact v1
    obtain ⟨ls, l1, l2⟩ := list_of hel
    have hz' : ∀ l ∈ ls, l.length = z := fun l hl => by
      obtain ⟨i, hi, rfl⟩ := List.getElem_of_mem hl
      exact hS _ (l2 i _ (List.getElem?_eq_getElem hi)).1
    refine ⟨[.sl ls.length ls.flatten], ⟨ls, fun l hl => ?_, by rw [l1]; exact hlb, rfl⟩, rfl, ?_⟩
    · obtain ⟨i, hi, rfl⟩ := List.getElem_of_mem hl
      exact (l2 i _ (List.getElem?_eq_getElem hi)).1
    · rw [DReps.iff]
      intro i d e
      cases i with
      | succ i => simp at e
      | zero =>
        simp only [List.getElem?_cons_zero, Option.some.injEq] at e
        subst e
        refine ⟨_, rfl, ?_⟩
        simp only [DRep, l1]
        refine ⟨some a, cap, rfl, h2, hlen, ?_⟩
        by_cases h0 : len = 0
        · left
          have : ls = [] := List.length_eq_zero_iff.1 (by omega)
          rw [this]; rfl
        · right
          have hall : ∀ (t : Nat) d, ls.flatten[t]? = some d → ∃ y, w.cell? (a.add t) = some y ∧ DRep (fun k => w.heap[k]?) d y := fun t d ht' => by
            obtain ⟨l, k1, k2⟩ := flatten_get ls hz' t d ht'
            obtain ⟨y, y1, y2⟩ := (l2 _ l k1).2 _ d k2
            refine ⟨y, ?_, y2⟩
            rw [Nat.mul_comm, Nat.div_add_mod] at y1
            exact y1
          have hfl : ∃ d, ls.flatten[0]? = some d := by
            cases ls with
            | nil => simp at l1; omega
            | cons l ls =>
              have := hz' l (by simp)
              cases l with
              | nil => simp at this; omega
              | cons d l => exact ⟨d, rfl⟩
          obtain ⟨d0, hd0⟩ := hfl
          obtain ⟨y0, hc0, _⟩ := hall 0 d0 hd0
          rw [Addr.add_zero'] at hc0
          obtain ⟨c, e', fr, hblk, hsp⟩ := cell_block hc0
          have ha : a = ⟨a.block, a.off, none⟩ := by cases a; simp at hsp; subst hsp; rfl
          refine ⟨a.block, a.off, c, e', fr, by rw [← ha], hblk, ?_⟩
          rw [DReps.iff]
          intro t d hd
          obtain ⟨y, hy, hr⟩ := hall t d hd
          refine ⟨y, ?_, hr⟩
          rw [ha, Addr.add_lit] at hy
          simp only [World.cell?, hblk] at hy
          simpa using hy
end
end Go.AM
end

section
/- Slices of structs as arguments. -/
namespace Go.AM
open Go Go.RowKit Go.WideShapes Go.ChangeShapes
theorem arg_slD {H : Type} {enc : TypeId × Value → H} {P : Program} {W : World} {t e : TypeId} {S : List DV → Prop} {b : Nat} {v : Value} {d : DataW H} {p : List MemPlace} (ht : P.underlying t = some (.slice e)) (ho : OpD enc P W t (SlS S b)) {base : Nat}
    (hv : Value.okWide P W .any base t v) (h : DataW.Trod enc P W 0 (fun _ => true) true t v d p) (hw : ∀ n ∈ d.weights P t, n ≤ reachBytes) :
    ∃ ls : List (List DV), (∀ l ∈ ls, S l) ∧ AVRep (wh W) (fun _ => .bool false) (.p (.c (.sl ls.length ls.flatten))) v := by
  obtain ⟨a0, len, cap, rfl⟩ := okWide_slice ht hv
  obtain ⟨fuel, h⟩ := h
  obtain ⟨ds, ⟨ls, h1, _, rfl⟩, h2, h3⟩ := ho fuel [.slice a0 len cap] (d, p) (by simpa [Value.cells] using h) hw
  refine ⟨ls, h1, ?_⟩
  obtain ⟨y, g1, g2⟩ := h3.get 0 _ rfl
  cases g1
  exact g2
theorem ld_len {l : List Leaf} : ∀ {ds : List DV}, LDs l ds → ds.length = l.length := by
  induction l with
  | nil => intro ds h; obtain rfl := h.nil; rfl
  | cons x l ih =>
    intro ds h
    cases x with
    | b => obtain ⟨b, d, rfl, h1⟩ := h.b; rw [List.length_cons, List.length_cons, ih h1]
    | i k => obtain ⟨b, d, rfl, _, h1⟩ := h.i; rw [List.length_cons, List.length_cons, ih h1]
    | s => obtain ⟨b, d, rfl, _, h1⟩ := h.s; rw [List.length_cons, List.length_cons, ih h1]
theorem sl_openR {S : List DV → Prop} (h : ∀ ds, S ds → ∃ x : Raw, ds = enR x) : ∀ ls : List (List DV), (∀ l ∈ ls, S l) → ∃ xs : List Raw, ls = xs.map enR
  | [], _ => ⟨[], rfl⟩
  | l :: ls, hl => by
    obtain ⟨x, e⟩ := h l (hl l (by simp))
    obtain ⟨xs, e2⟩ := sl_openR h ls fun l hl' => hl l (by simp [hl'])
    exact ⟨x :: xs, by rw [e, e2]; rfl⟩
theorem u8_of {n : Int} (h : (Lit.int .u8 n).wf = true) : ∃ x : UInt8, n = (x.toNat : Int) := by
  have hb := bounds_u8 h
  refine ⟨UInt8.ofNat n.toNat, ?_⟩
  have e : (UInt8.ofNat n.toNat).toNat = n.toNat := by
    have : (UInt8.ofNat n.toNat).toNat = n.toNat % 2 ^ 8 := UInt8.toNat_ofNat'
    rw [this, Nat.mod_eq_of_lt (by omega)]
  omega
theorem raw_open {ds : List DV} (h : LDs [.i .u8, .i .u8, .i .u8] ds) : ∃ x : Raw, ds = enR x := by
  obtain ⟨b, c, rfl, w, h⟩ := h.i
  obtain ⟨b2, c2, rfl, w2, h⟩ := h.i
  obtain ⟨b3, c3, rfl, w3, h⟩ := h.i
  obtain rfl := h.nil
  obtain ⟨x, rfl⟩ := u8_of w
  obtain ⟨y, rfl⟩ := u8_of w2
  obtain ⟨z, rfl⟩ := u8_of w3
  exact ⟨(x, y, z), rfl⟩
theorem raws_open {ls : List (List DV)} (h : ∀ l ∈ ls, LDs [.i .u8, .i .u8, .i .u8] l) : ∃ R : List Raw, (.sl ls.length ls.flatten : DV) = SL enR R := by
  obtain ⟨R, rfl⟩ := sl_openR (fun _ h => raw_open h) ls h
  exact ⟨R, by rw [List.length_map, ← List.flatMap_def]⟩
end Go.AM
end

section
/- A book as an argument. -/
namespace Go.AM
open Go Go.RowKit Go.WideShapes Go.ChangeShapes
abbrev StrD : List DV → Prop := fun ds => ∃ s : ByteArray, ds = [.v (.string s)] ∧ s.size ≤ maxLen
theorem str_open {ds : List DV} : StrD ds → ∃ s : Str, ds = enS s := fun ⟨s, h, _⟩ => by
  refine ⟨s.data.toList, ?_⟩
  rw [h]
  show _ = [DV.v (.string ⟨s.data.toList.toArray⟩)]
  rw [Array.toArray_toList]
end Go.AM
end

section
/- A string as an argument. -/
namespace Go.AM
open Go Go.RowKit Go.WideShapes Go.ChangeShapes
theorem arg_strD {H : Type} {enc : TypeId × Value → H} {P : Program} {W : World} {t : TypeId} {v : Value} {d : DataW H} {p : List MemPlace} (ht : P.underlying t = some .string) {base : Nat}
    (hv : Value.okWide P W .any base t v) (h : DataW.Trod enc P W 0 (fun _ => true) true t v d p) (hw : ∀ n ∈ d.weights P t, n ≤ reachBytes) :
    ∃ s : Str, AVRep (wh W) (fun _ => .bool false) (AS s) v := by
  obtain ⟨s0, rfl⟩ := okWide_string ht hv
  obtain ⟨fuel, h⟩ := h
  obtain ⟨ds, h1, h2, h3⟩ := opd_string ht fuel [.string s0] (d, p) (by simpa [Value.cells] using h) hw
  obtain ⟨s, rfl⟩ := str_open h1
  refine ⟨s, ?_⟩
  obtain ⟨y, g1, g2⟩ := h3.get 0 _ rfl
  cases g1
  exact g2
end Go.AM
end
