/- The law 'RepresentClasses': for every input the call returns true and its arguments read as they did. No condition. -/
import Derived.Test.YthaiejfjnllglaaGreatDoorCBH
import Derived.Test.YthaiejfjnllglaaGreatDoorCBG
import Derived.Test.YthaiejfjnllglaaGreatDoorRows
import Derived.Test.YthaiejfjnllglaaGreatDoorTie
import Derived.Test.YthaiejfjnllglaaGreatDoorCards
namespace Go.Proofs.YthaiejfjnllglaaGreatDoor.representClasses
open Go Go.AM Go.RowKit
theorem own : ownKnob Tryz.prog.godebug = none := by kernel_rfl
theorem lo : laidOutB Tryz.prog = true := by kernel_rfl
theorem o22 {H : Type} {enc : TypeId × Value → H} {W : World} : gk enc Tryz.prog W 22 [.i .u16] :=
  oI Tryz.underlying22
theorem o23 {H : Type} {enc : TypeId × Value → H} {W : World} : gk enc Tryz.prog W 23 [.i .u16, .i .u16, .i .u16, .i .u16] :=
  lY Tryz.underlying23 o22 (by kernel_rfl) (by kernel_rfl)
theorem o5 {H : Type} {enc : TypeId × Value → H} {W : World} : gk enc Tryz.prog W 5 [.i .u8] :=
  oI Tryz.underlying5
theorem o24 {H : Type} {enc : TypeId × Value → H} {W : World} : gk enc Tryz.prog W 24 [.i .u8, .i .u8, .i .u8, .i .u8] :=
  lY Tryz.underlying24 o5 (by kernel_rfl) (by kernel_rfl)
theorem o26 {H : Type} {enc : TypeId × Value → H} {W : World} : gk enc Tryz.prog W 26 [.i .u16, .i .u16, .i .u16, .i .u16, .i .u16, .i .u8, .i .u8, .i .u8, .i .u8] :=
  by
  refine qC Tryz.underlying26 ?_ (by kernel_rfl)
  show lw _ _ _ 0 (_ :: _ :: _ :: []) ([.i .u16] ++ ([.i .u16, .i .u16, .i .u16, .i .u16] ++ ([.i .u8, .i .u8, .i .u8, .i .u8] ++ [])))
  exact jF rfl o22 (by kernel_rfl) (jF rfl o23 (by kernel_rfl) (jF rfl o24 (by kernel_rfl) un))
set_option maxRecDepth 100000 in
theorem EK {H : Type} {enc : TypeId × Value → H} {W : World} : kv enc Tryz.prog W Tryz.f8 8 := by
  refine Ih (rfl : Tryz.f8.params = #[26]) ?_
  intro v0 e0 p0 base hv0 ht0 hw0
  obtain ⟨d0, l0, r0⟩ := Da (by rw [Tryz.underlying26]) o26 hv0 ht0 hw0
  obtain ⟨b0_0, c0_0, rfl, w0_0, l0_0⟩ := l0.i
  obtain ⟨b0_1, c0_1, rfl, w0_1, l0_1⟩ := l0_0.i
  obtain ⟨b0_2, c0_2, rfl, w0_2, l0_2⟩ := l0_1.i
  obtain ⟨b0_3, c0_3, rfl, w0_3, l0_3⟩ := l0_2.i
  obtain ⟨b0_4, c0_4, rfl, w0_4, l0_4⟩ := l0_3.i
  obtain ⟨b0_5, c0_5, rfl, w0_5, l0_5⟩ := l0_4.i
  obtain ⟨b0_6, c0_6, rfl, w0_6, l0_6⟩ := l0_5.i
  obtain ⟨b0_7, c0_7, rfl, w0_7, l0_7⟩ := l0_6.i
  obtain ⟨b0_8, c0_8, rfl, w0_8, l0_8⟩ := l0_7.i
  obtain rfl := l0_8.nil
  refine ⟨[_], ⟨r0, trivial⟩, ?_⟩
  have h0 := Int.toNat_of_nonneg (bounds_u16 w0_0).1
  have h1 := Int.toNat_of_nonneg (bounds_u16 w0_1).1
  have h2 := Int.toNat_of_nonneg (bounds_u16 w0_2).1
  have h3 := Int.toNat_of_nonneg (bounds_u16 w0_3).1
  have h4 := Int.toNat_of_nonneg (bounds_u16 w0_4).1
  have h5 := Int.toNat_of_nonneg (bounds_u8 w0_5).1
  have h6 := Int.toNat_of_nonneg (bounds_u8 w0_6).1
  have h7 := Int.toNat_of_nonneg (bounds_u8 w0_7).1
  have h8 := Int.toNat_of_nonneg (bounds_u8 w0_8).1
  have g0 := (bounds_u16 w0_0).2
  have g1 := (bounds_u16 w0_1).2
  have g2 := (bounds_u16 w0_2).2
  have g3 := (bounds_u16 w0_3).2
  have g4 := (bounds_u16 w0_4).2
  have g5 := (bounds_u8 w0_5).2
  have g6 := (bounds_u8 w0_6).2
  have g7 := (bounds_u8 w0_7).2
  have g8 := (bounds_u8 w0_8).2
  rw [← h0, ← h1, ← h2, ← h3, ← h4, ← h5, ← h6, ← h7, ← h8]
  exact kW _ _ _ _ _ _ _ _ _ (by omega) (by omega) (by omega) (by omega) (by omega) (by omega) (by omega) (by omega) (by omega)
abbrev pE : List (String × DataW Unit) := [("algorist/modular.signs", Rows.laid_algorist_modular_signs)]
set_option maxRecDepth 100000 in
theorem y6 (os : Os) (args : Array Value) : laidMetH Tryz.prog pE ((World.doorLaid Tryz.prog 400 os).forCall (fun _ _ => 0) ⟨#[], args, []⟩).memory :=
  laidMetH_of_parts3 (fuel := 8) (laidMet_of_run' 8 (by kernel_rfl) (by kernel_rfl)) (by kernel_rfl) (by kernel_rfl)
theorem CH (W : World) (h : laidMetH Tryz.prog pE W) : GlOK (wh W) := by
  have hh := wn (P := Tryz.prog) (W := W) (n := "algorist/modular.signs") (g := 0) (k := .i64) (xs := [0, 1, 0, -1, 0, -1, 0, 1]) (ty := 244) (e := 3) h (MakeChecks.laidMetH_plain _ _ _ (by kernel_rfl)) (by kernel_rfl) (by kernel_rfl) Tryz.underlying244 Tryz.underlying3 (by kernel_rfl)
  intro p hp
  simp only [uM, List.mem_cons, List.not_mem_nil, or_false] at hp
  subst hp
  exact hh
set_option maxRecDepth 100000 in
theorem E0 (os : Os) (started : os.Started) (H : Type) (enc : TypeId × Value → H) :
    ReturnsInHanded {} Tryz.checked os 8 .any (fun w args => (Rows.representClassesSpec.pre enc Tryz.prog Tryz.f8 [] false w args ∧ laidMetH Tryz.prog pE w) ∧ sizedMet enc Tryz.prog Tryz.f8 (OpenSpec.ofChange Rows.representClassesSpec) false w args) (Rows.representClassesSpec.post enc Tryz.prog Tryz.f8 false true false false) :=
  qT (C := Tryz.checked) own started (by kernel_rfl) Tryz.func8
    (ChangeSpec.witness_shaped (enc := enc) (C := Tryz.checked) (os := os) (X := fun w _ => laidMetH Tryz.prog pE w) false (World.doorLaid Tryz.prog 400 os) #[.agg #[.int .u16 0, .int .u16 0, .int .u16 0, .int .u16 0, .int .u16 0, .int .u8 0, .int .u8 0, .int .u8 0, .int .u8 0]] 24 rfl (World.shaped_of_RefB (by kernel_rfl) (by kernel_rfl)) (by kernel_rfl) (by kernel_rfl) (by kernel_rfl) (y6 os _))
    lo (fun t ht => by
      have e : Tryz.f8.params.toList = [26] := rfl
      rw [e] at ht
      simp only [List.mem_cons, List.not_mem_nil, or_false] at ht
      subst ht 
      exact ⟨by kernel_rfl, bL0 (by kernel_rfl)⟩)
    rfl (fun ds hd => by
      have e : ds.length = 1 := hd
      match ds, e with
      | [x0], _ => exact ⟨rfl, rfl, rfl⟩)
    rfl Tryz.underlying4 (fun W => EK) CH
theorem k_named : Tryz.prog.funcNamed Rows.representClassesRow.func = some 8 := by kernel_rfl
theorem I0 : Rows.representClassesRow.wf (OpenSpec.ofChange Rows.representClassesSpec) = true := by kernel_rfl
theorem HM : namedTie Tryz.prog Rows.representClassesRow.named Rows.representClassesSpec.vars = true := by kernel_rfl
theorem Cv : mapsRowed Tryz.prog = true := by kernel_rfl
theorem Cw : (Rows.representClassesRow.inPlace == Tryz.prog.inPlace 8) = true := by kernel_rfl
theorem Fe : (Rows.representClassesRow.unfollowed == Tryz.prog.unfollowed 8) = true := by kernel_rfl
theorem HN : (Rows.representClassesRow.recurses == Tryz.prog.recurses 8) = true := by kernel_rfl
theorem E8 : (Rows.representClassesRow.named == Tryz.prog.varsNamed 8) = true := by kernel_rfl
theorem FV : joinedFacts Tryz.prog 8 Tryz.f8 Rows.representClassesSpec Rows.representClassesRow = true := by
  unfold joinedFacts
  rw [I0, lo, Cv, HM, Cw, Fe, HN, E8]
  kernel_rfl
theorem Fb : Tryz.f8.isInstance Tryz.prog Rows.representClassesRow.origin Rows.representClassesRow.targs := dT0 (by kernel_rfl)
theorem E6 : Tryz.f8.isWrapper Tryz.prog Rows.representClassesRow.wrapper Rows.representClassesRow.mainSum := by unfold Func.isWrapper; first | (rw [if_pos (by decide +kernel)]; kernel_rfl) | (rw [if_neg (by decide +kernel)]; exact ⟨rfl, rfl⟩)
theorem IV : Rows.representClassesRow.holds Tryz.pinned (OpenSpec.ofChange Rows.representClassesSpec) :=
  OpenClaim.holds_of_wide 8 Tryz.f8 rfl rfl rfl rfl rfl rfl rfl ⟨rfl, rfl, rfl, rfl, rfl⟩ rfl rfl rfl rfl rfl k_named Tryz.func8 FV Fb E6
    (fun os started H enc _ => E0 os started H enc)
theorem ud : Rows.RepresentClassesSaid := IV
theorem E9 : Rows.representClassesRow.wfByText (OpenSpec.ofChange Rows.representClassesSpec) = true := by kernel_rfl
theorem Fa : Tryz.prog.mainIs = some (true, "78b2d204ac323a3d073ae603fa2ef421c80475e6d74e434713a6a1e03f22b4be".toList) := by kernel_rfl
theorem Cx : false = Tryz.prog.looks [] := by kernel_rfl
theorem Fc : false = Rows.representClassesRow.goesBy Tryz.prog := by kernel_rfl
theorem E7 : ([26].all fun u => !Tryz.prog.wantsStandIn u) = true := by kernel_rfl
theorem proved : Rows.RepresentClassesCardSaid :=
  Claim7.holds_tied_plain_at .later [] [.data] true (true, "78b2d204ac323a3d073ae603fa2ef421c80475e6d74e434713a6a1e03f22b4be") false
    ud (fun _ h => by cases h) E9 (fun _ h => by cases h) representClasses_row_tie rfl ⟨rfl, rfl⟩ Fa rfl
    (fun f fn hf hfn => by
      obtain rfl : f = 8 := Option.some.inj (k_named.symm.trans hf) |>.symm
      obtain rfl : fn = Tryz.f8 := (Option.some.inj (Tryz.func8.symm.trans hfn)).symm
      exact ⟨Cx, fun j t ht => by
        have hm : t ∈ [26] := by simpa using Array.mem_of_getElem? ht
        exact (show Tryz.prog.wantsStandIn t = false by simpa using List.all_eq_true.1 E7 t hm)⟩)
    Fc
end Go.Proofs.YthaiejfjnllglaaGreatDoor.representClasses
