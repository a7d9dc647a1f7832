/- The law 'GenusMatchesReference': for every input the call returns true and its arguments read as they did. No condition. -/
import Derived.Test.YtpaifigafaijpaaGreatDoorWI
import Derived.Test.YtpaifigafaijpaaGreatDoorWH
import Derived.Test.YtpaifigafaijpaaGreatDoorRows
import Derived.Test.YtpaifigafaijpaaGreatDoorTie
import Derived.Test.YtpaifigafaijpaaGreatDoorCards
namespace Go.Proofs.YtpaifigafaijpaaGreatDoor.genusMatchesReference
open Go Go.AM Go.RowKit

theorem own : ownKnob Tryz.prog.godebug = none := by kernel_rfl
theorem lo : laidOutB Tryz.prog = true := by kernel_rfl
theorem o22 {H : Type} {enc : TypeId × Value → H} {W : World} : Opens enc Tryz.prog W 22 [.i .u16] :=
  opens_int Tryz.underlying22
theorem o23 {H : Type} {enc : TypeId × Value → H} {W : World} : Opens enc Tryz.prog W 23 [.i .u16, .i .u16, .i .u16, .i .u16] :=
  opens_array Tryz.underlying23 o22 (by kernel_rfl) (by kernel_rfl)
theorem o5 {H : Type} {enc : TypeId × Value → H} {W : World} : Opens enc Tryz.prog W 5 [.i .u8] :=
  opens_int Tryz.underlying5
theorem o24 {H : Type} {enc : TypeId × Value → H} {W : World} : Opens enc Tryz.prog W 24 [.i .u8, .i .u8, .i .u8, .i .u8] :=
  opens_array Tryz.underlying24 o5 (by kernel_rfl) (by kernel_rfl)
theorem o26 {H : Type} {enc : TypeId × Value → H} {W : World} : Opens enc Tryz.prog W 26 [.i .u16, .i .u16, .i .u16, .i .u16, .i .u16, .i .u8, .i .u8, .i .u8, .i .u8] :=
  by
  refine opens_struct Tryz.underlying26 ?_ (by kernel_rfl)
  show OpensF _ _ _ 0 (_ :: _ :: _ :: []) ([.i .u16] ++ ([.i .u16, .i .u16, .i .u16, .i .u16] ++ ([.i .u8, .i .u8, .i .u8, .i .u8] ++ [])))
  exact opensF_cons rfl o22 (by kernel_rfl) (opensF_cons rfl o23 (by kernel_rfl) (opensF_cons rfl o24 (by kernel_rfl) opensF_nil))
theorem o4 {H : Type} {enc : TypeId × Value → H} {W : World} : Opens enc Tryz.prog W 4 [.b] :=
  opens_bool Tryz.underlying4
theorem o27 {H : Type} {enc : TypeId × Value → H} {W : World} : Opens enc Tryz.prog W 27 [.s] :=
  opens_words Tryz.underlying27 Tryz.underlying111 (by kernel_rfl) (by kernel_rfl)
theorem o29 {H : Type} {enc : TypeId × Value → H} {W : World} : Opens enc Tryz.prog W 29 [.b, .s] :=
  by
  refine opens_struct Tryz.underlying29 ?_ (by kernel_rfl)
  show OpensF _ _ _ 0 (_ :: _ :: []) ([.b] ++ ([.s] ++ []))
  exact opensF_cons rfl o4 (by kernel_rfl) (opensF_cons rfl o27 (by kernel_rfl) opensF_nil)
theorem o30 {H : Type} {enc : TypeId × Value → H} {W : World} : Opens enc Tryz.prog W 30 [.b, .s, .b, .s, .b, .s] :=
  opens_array Tryz.underlying30 o29 (by kernel_rfl) (by kernel_rfl)
theorem o31 {H : Type} {enc : TypeId × Value → H} {W : World} : Opens enc Tryz.prog W 31 [.b, .s, .b, .s, .b, .s, .b, .s] :=
  opens_array Tryz.underlying31 o29 (by kernel_rfl) (by kernel_rfl)
theorem o33 {H : Type} {enc : TypeId × Value → H} {W : World} : Opens enc Tryz.prog W 33 [.b, .s, .b, .s, .b, .s, .b, .s, .b, .s, .b, .s, .b, .s] :=
  by
  refine opens_struct Tryz.underlying33 ?_ (by kernel_rfl)
  show OpensF _ _ _ 0 (_ :: _ :: []) ([.b, .s, .b, .s, .b, .s] ++ ([.b, .s, .b, .s, .b, .s, .b, .s] ++ []))
  exact opensF_cons rfl o30 (by kernel_rfl) (opensF_cons rfl o31 (by kernel_rfl) opensF_nil)
set_option maxRecDepth 100000 in
theorem opened {H : Type} {enc : TypeId × Value → H} {W : World} : ArgsData enc Tryz.prog W Tryz.f3 3 := by
  refine args3 (rfl : Tryz.f3.params = #[26, 33, 29]) ?_
  intro v0 e0 p0 v1 e1 p1 v2 e2 p2 base hv0 ht0 hw0 hv1 ht1 hw1 hv2 ht2 hw2
  obtain ⟨d0, l0, r0⟩ := arg_agg (by rw [Tryz.underlying26]) o26 hv0 ht0 hw0
  obtain ⟨b0_0, c0_0, rfl, w0_0, l0_0⟩ := l0.i
  obtain ⟨b0_1, c0_1, rfl, w0_1, l0_1⟩ := l0_0.i
  obtain ⟨b0_2, c0_2, rfl, w0_2, l0_2⟩ := l0_1.i
  obtain ⟨b0_3, c0_3, rfl, w0_3, l0_3⟩ := l0_2.i
  obtain ⟨b0_4, c0_4, rfl, w0_4, l0_4⟩ := l0_3.i
  obtain ⟨b0_5, c0_5, rfl, w0_5, l0_5⟩ := l0_4.i
  obtain ⟨b0_6, c0_6, rfl, w0_6, l0_6⟩ := l0_5.i
  obtain ⟨b0_7, c0_7, rfl, w0_7, l0_7⟩ := l0_6.i
  obtain ⟨b0_8, c0_8, rfl, w0_8, l0_8⟩ := l0_7.i
  obtain rfl := l0_8.nil
  obtain ⟨d1, l1, r1⟩ := arg_agg (by rw [Tryz.underlying33]) o33 hv1 ht1 hw1
  obtain ⟨b1_0, s1_0, c1_0, rfl, w1_0, l1_0⟩ := l1.bs
  obtain ⟨b1_1, s1_1, c1_1, rfl, w1_1, l1_1⟩ := l1_0.bs
  obtain ⟨b1_2, s1_2, c1_2, rfl, w1_2, l1_2⟩ := l1_1.bs
  obtain ⟨b1_3, s1_3, c1_3, rfl, w1_3, l1_3⟩ := l1_2.bs
  obtain ⟨b1_4, s1_4, c1_4, rfl, w1_4, l1_4⟩ := l1_3.bs
  obtain ⟨b1_5, s1_5, c1_5, rfl, w1_5, l1_5⟩ := l1_4.bs
  obtain ⟨b1_6, s1_6, c1_6, rfl, w1_6, l1_6⟩ := l1_5.bs
  obtain rfl := l1_6.nil
  obtain ⟨d2, l2, r2⟩ := arg_agg (by rw [Tryz.underlying29]) o29 hv2 ht2 hw2
  obtain ⟨b2_0, s2_0, c2_0, rfl, w2_0, l2_0⟩ := l2.bs
  obtain rfl := l2_0.nil
  refine ⟨[_, _, _], ⟨r0, r1, r2, trivial⟩, ?_⟩
  have h0 := Int.toNat_of_nonneg (bounds_u16 w0_0).1
  have h1 := Int.toNat_of_nonneg (bounds_u16 w0_1).1
  have h2 := Int.toNat_of_nonneg (bounds_u16 w0_2).1
  have h3 := Int.toNat_of_nonneg (bounds_u16 w0_3).1
  have h4 := Int.toNat_of_nonneg (bounds_u16 w0_4).1
  have h5 := Int.toNat_of_nonneg (bounds_u8 w0_5).1
  have h6 := Int.toNat_of_nonneg (bounds_u8 w0_6).1
  have h7 := Int.toNat_of_nonneg (bounds_u8 w0_7).1
  have h8 := Int.toNat_of_nonneg (bounds_u8 w0_8).1
  have g0 := (bounds_u16 w0_0).2
  have g1 := (bounds_u16 w0_1).2
  have g2 := (bounds_u16 w0_2).2
  have g3 := (bounds_u16 w0_3).2
  have g4 := (bounds_u16 w0_4).2
  have g5 := (bounds_u8 w0_5).2
  have g6 := (bounds_u8 w0_6).2
  have g7 := (bounds_u8 w0_7).2
  have g8 := (bounds_u8 w0_8).2
  rw [← h0, ← h1, ← h2, ← h3, ← h4, ← h5, ← h6, ← h7, ← h8]
  exact l_GenusMatchesReference _ _ _ _ _ _ _ _ _ (by omega) (by omega) (by omega) (by omega) (by omega) (by omega) (by omega) (by omega) (by omega) _ _ _ _ _ _ _ _ _ _ _ _ _ _ w1_0 w1_1 w1_2 w1_3 w1_4 w1_5 w1_6 _ _ w2_0

abbrev laidL : List (String × DataW Unit) := [("algorist/modular.signs", Rows.laid_algorist_modular_signs)]
set_option maxRecDepth 100000 in
theorem door_met (os : Os) (args : Array Value) : laidMetH Tryz.prog laidL ((World.doorLaid Tryz.prog 400 os).forCall (fun _ _ => 0) ⟨#[], args, []⟩).memory :=
  laidMetH_of_parts3 (fuel := 8) (laidMet_of_run' 8 (by kernel_rfl) (by kernel_rfl)) (by kernel_rfl) (by kernel_rfl)
theorem glob_ok (W : World) (h : laidMetH Tryz.prog laidL W) : GlOK (wh W) := by
  have hh := laid_ints (P := Tryz.prog) (W := W) (n := "algorist/modular.signs") (g := 0) (k := .i64) (xs := [0, 1, 0, -1, 0, -1, 0, 1]) (ty := 221) (e := 3) h (MakeChecks.laidMetH_plain _ _ _ (by kernel_rfl)) (by kernel_rfl) (by kernel_rfl) Tryz.underlying221 Tryz.underlying3 (by kernel_rfl)
  intro p hp
  simp only [glist, List.mem_cons, List.not_mem_nil, or_false] at hp
  subst hp
  exact hh

set_option maxRecDepth 100000 in
theorem lifted (os : Os) (started : os.Started) (H : Type) (enc : TypeId × Value → H) :
    ReturnsInHanded {} Tryz.checked os 3 .any (fun w args => (Rows.genusMatchesReferenceSpec.pre enc Tryz.prog Tryz.f3 [] false w args ∧ laidMetH Tryz.prog laidL w) ∧ sizedMet enc Tryz.prog Tryz.f3 (OpenSpec.ofChange Rows.genusMatchesReferenceSpec) false w args) (Rows.genusMatchesReferenceSpec.post enc Tryz.prog Tryz.f3 false true false false) :=
  law_row_laid (C := Tryz.checked) own started (by kernel_rfl) Tryz.func3
    (ChangeSpec.witness_shaped (enc := enc) (C := Tryz.checked) (os := os) (X := fun w _ => laidMetH Tryz.prog laidL w) false (World.doorLaid Tryz.prog 400 os) #[.agg #[.int .u16 0, .int .u16 0, .int .u16 0, .int .u16 0, .int .u16 0, .int .u8 0, .int .u8 0, .int .u8 0, .int .u8 0], .agg #[.bool false, .slice none 0 0, .bool false, .slice none 0 0, .bool false, .slice none 0 0, .bool false, .slice none 0 0, .bool false, .slice none 0 0, .bool false, .slice none 0 0, .bool false, .slice none 0 0], .agg #[.bool false, .slice none 0 0]] 24 rfl (World.shaped_of_RefB (by kernel_rfl) (by kernel_rfl)) (by kernel_rfl) (by kernel_rfl) (by kernel_rfl) (door_met os _))
    lo (fun t ht => by
      have e : Tryz.f3.params.toList = [26, 33, 29] := rfl
      rw [e] at ht
      simp only [List.mem_cons, List.not_mem_nil, or_false] at ht
      rcases ht with rfl | rfl | rfl <;> exact ⟨by kernel_rfl, Nat.le_of_ble_eq_true (by kernel_rfl)⟩)
    rfl (fun ds hd => by
      have e : ds.length = 3 := hd
      match ds, e with
      | [x0, x1, x2], _ => exact ⟨rfl, rfl, rfl⟩)
    rfl Tryz.underlying4 (fun W => opened) glob_ok

theorem k_named : Tryz.prog.funcNamed Rows.genusMatchesReferenceRow.func = some 3 := by kernel_rfl
theorem k_wf : Rows.genusMatchesReferenceRow.wf (OpenSpec.ofChange Rows.genusMatchesReferenceSpec) = true := by kernel_rfl
theorem k_tie : namedTie Tryz.prog Rows.genusMatchesReferenceRow.named Rows.genusMatchesReferenceSpec.vars = true := by kernel_rfl
theorem k_rowed : mapsRowed Tryz.prog = true := by kernel_rfl
theorem k_place : (Rows.genusMatchesReferenceRow.inPlace == Tryz.prog.inPlace 3) = true := by kernel_rfl
theorem k_foll : (Rows.genusMatchesReferenceRow.unfollowed == Tryz.prog.unfollowed 3) = true := by kernel_rfl
theorem k_rec : (Rows.genusMatchesReferenceRow.recurses == Tryz.prog.recurses 3) = true := by kernel_rfl
theorem k_vars : (Rows.genusMatchesReferenceRow.named == Tryz.prog.varsNamed 3) = true := by kernel_rfl
theorem closed : joinedFacts Tryz.prog 3 Tryz.f3 Rows.genusMatchesReferenceSpec Rows.genusMatchesReferenceRow = true := by
  unfold joinedFacts
  rw [k_wf, lo, k_rowed, k_tie, k_place, k_foll, k_rec, k_vars]
  kernel_rfl
theorem k_inst : Tryz.f3.isInstance Tryz.prog Rows.genusMatchesReferenceRow.origin Rows.genusMatchesReferenceRow.targs := of_decide_eq_true (by kernel_rfl)
theorem k_wrap : Tryz.f3.isWrapper Tryz.prog Rows.genusMatchesReferenceRow.wrapper Rows.genusMatchesReferenceRow.mainSum := by unfold Func.isWrapper; first | (rw [if_pos (by decide +kernel)]; kernel_rfl) | (rw [if_neg (by decide +kernel)]; exact ⟨rfl, rfl⟩)
theorem over : Rows.genusMatchesReferenceRow.holds Tryz.pinned (OpenSpec.ofChange Rows.genusMatchesReferenceSpec) :=
  OpenClaim.holds_of_wide 3 Tryz.f3 rfl rfl rfl rfl rfl rfl rfl ⟨rfl, rfl, rfl, rfl, rfl⟩ rfl rfl rfl rfl rfl k_named Tryz.func3 closed k_inst k_wrap
    (fun os started H enc _ => lifted os started H enc)

theorem row_proved : Rows.GenusMatchesReferenceSaid := over

theorem k_text : Rows.genusMatchesReferenceRow.wfByText (OpenSpec.ofChange Rows.genusMatchesReferenceSpec) = true := by kernel_rfl
theorem k_main : Tryz.prog.mainIs = some (true, "c221ffdd1b0219b0cef910423a669e61d67c0e99a60bd4ff81917b3e8781c845".toList) := by kernel_rfl
theorem k_looks : false = Tryz.prog.looks [] := by kernel_rfl
theorem k_goes : false = Rows.genusMatchesReferenceRow.goesBy Tryz.prog := by kernel_rfl
theorem k_want : ([26, 33, 29].all fun u => !Tryz.prog.wantsStandIn u) = true := by kernel_rfl
theorem proved : Rows.GenusMatchesReferenceCardSaid :=
  Claim7.holds_tied_plain_at .later [] [.data] true (true, "c221ffdd1b0219b0cef910423a669e61d67c0e99a60bd4ff81917b3e8781c845") false
    row_proved (fun _ h => by cases h) k_text (fun _ h => by cases h) genusMatchesReference_row_tie rfl ⟨rfl, rfl⟩ k_main rfl
    (fun f fn hf hfn => by
      obtain rfl : f = 3 := Option.some.inj (k_named.symm.trans hf) |>.symm
      obtain rfl : fn = Tryz.f3 := (Option.some.inj (Tryz.func3.symm.trans hfn)).symm
      exact ⟨k_looks, fun j t ht => by
        have hm : t ∈ [26, 33, 29] := by simpa using Array.mem_of_getElem? ht
        exact (show Tryz.prog.wantsStandIn t = false by simpa using List.all_eq_true.1 k_want t hm)⟩)
    k_goes
end Go.Proofs.YtpaifigafaijpaaGreatDoor.genusMatchesReference
