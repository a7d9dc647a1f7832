/- The law 'TopGenera': for every input the call returns true and its arguments read as they did. No condition. -/
import Derived.Test.YthaiejfjnllglaaGreatDoorTBH
import Derived.Test.YthaiejfjnllglaaGreatDoorTBG
import Derived.Test.YthaiejfjnllglaaGreatDoorRows
import Derived.Test.YthaiejfjnllglaaGreatDoorTie
import Derived.Test.YthaiejfjnllglaaGreatDoorCards
namespace Go.Proofs.YthaiejfjnllglaaGreatDoor.topGenera
open Go Go.AM Go.RowKit
theorem own : ownKnob Tryz.prog.godebug = none := by kernel_rfl
theorem lo : laidOutB Tryz.prog = true := by kernel_rfl
theorem o22 {H : Type} {enc : TypeId × Value → H} {W : World} : fF enc Tryz.prog W 22 [.i .u16] :=
  nV Tryz.underlying22
theorem o23 {H : Type} {enc : TypeId × Value → H} {W : World} : fF enc Tryz.prog W 23 [.i .u16, .i .u16, .i .u16, .i .u16] :=
  ly Tryz.underlying23 o22 (by kernel_rfl) (by kernel_rfl)
theorem o5 {H : Type} {enc : TypeId × Value → H} {W : World} : fF enc Tryz.prog W 5 [.i .u8] :=
  nV Tryz.underlying5
theorem o24 {H : Type} {enc : TypeId × Value → H} {W : World} : fF enc Tryz.prog W 24 [.i .u8, .i .u8, .i .u8, .i .u8] :=
  ly Tryz.underlying24 o5 (by kernel_rfl) (by kernel_rfl)
theorem o26 {H : Type} {enc : TypeId × Value → H} {W : World} : fF enc Tryz.prog W 26 [.i .u16, .i .u16, .i .u16, .i .u16, .i .u16, .i .u8, .i .u8, .i .u8, .i .u8] :=
  by
  refine pI Tryz.underlying26 ?_ (by kernel_rfl)
  show kK _ _ _ 0 (_ :: _ :: _ :: []) ([.i .u16] ++ ([.i .u16, .i .u16, .i .u16, .i .u16] ++ ([.i .u8, .i .u8, .i .u8, .i .u8] ++ [])))
  exact iX rfl o22 (by kernel_rfl) (iX rfl o23 (by kernel_rfl) (iX rfl o24 (by kernel_rfl) s9))
set_option maxRecDepth 100000 in
theorem Dg {H : Type} {enc : TypeId × Value → H} {W : World} : iN enc Tryz.prog W Tryz.f3 3 := by
  refine jV (rfl : Tryz.f3.params = #[26, 5]) ?_
  intro v0 e0 p0 v1 e1 p1 base hv0 ht0 hw0 hv1 ht1 hw1
  obtain ⟨d0, l0, r0⟩ := BE (by rw [Tryz.underlying26]) o26 hv0 ht0 hw0
  obtain ⟨b0_0, c0_0, rfl, w0_0, l0_0⟩ := l0.i
  obtain ⟨b0_1, c0_1, rfl, w0_1, l0_1⟩ := l0_0.i
  obtain ⟨b0_2, c0_2, rfl, w0_2, l0_2⟩ := l0_1.i
  obtain ⟨b0_3, c0_3, rfl, w0_3, l0_3⟩ := l0_2.i
  obtain ⟨b0_4, c0_4, rfl, w0_4, l0_4⟩ := l0_3.i
  obtain ⟨b0_5, c0_5, rfl, w0_5, l0_5⟩ := l0_4.i
  obtain ⟨b0_6, c0_6, rfl, w0_6, l0_6⟩ := l0_5.i
  obtain ⟨b0_7, c0_7, rfl, w0_7, l0_7⟩ := l0_6.i
  obtain ⟨b0_8, c0_8, rfl, w0_8, l0_8⟩ := l0_7.i
  obtain rfl := l0_8.nil
  obtain ⟨n1, w1, r1⟩ := BD Tryz.underlying5 hv1 ht1
  refine ⟨[_, _], ⟨r0, r1, trivial⟩, ?_⟩
  have h0 := Int.toNat_of_nonneg (bounds_u16 w0_0).1
  have h1 := Int.toNat_of_nonneg (bounds_u16 w0_1).1
  have h2 := Int.toNat_of_nonneg (bounds_u16 w0_2).1
  have h3 := Int.toNat_of_nonneg (bounds_u16 w0_3).1
  have h4 := Int.toNat_of_nonneg (bounds_u16 w0_4).1
  have h5 := Int.toNat_of_nonneg (bounds_u8 w0_5).1
  have h6 := Int.toNat_of_nonneg (bounds_u8 w0_6).1
  have h7 := Int.toNat_of_nonneg (bounds_u8 w0_7).1
  have h8 := Int.toNat_of_nonneg (bounds_u8 w0_8).1
  have g0 := (bounds_u16 w0_0).2
  have g1 := (bounds_u16 w0_1).2
  have g2 := (bounds_u16 w0_2).2
  have g3 := (bounds_u16 w0_3).2
  have g4 := (bounds_u16 w0_4).2
  have g5 := (bounds_u8 w0_5).2
  have g6 := (bounds_u8 w0_6).2
  have g7 := (bounds_u8 w0_7).2
  have g8 := (bounds_u8 w0_8).2
  have q0 := Int.toNat_of_nonneg (bounds_u8 w1).1
  have p0 := (bounds_u8 w1).2
  rw [← h0, ← h1, ← h2, ← h3, ← h4, ← h5, ← h6, ← h7, ← h8, ← q0]
  exact qT _ _ _ _ _ _ _ _ _ (by omega) (by omega) (by omega) (by omega) (by omega) (by omega) (by omega) (by omega) (by omega) _ (by omega)
abbrev oG : List (String × DataW Unit) := [("algorist/modular.signs", Rows.laid_algorist_modular_signs)]
set_option maxRecDepth 100000 in
theorem xD (os : Os) (args : Array Value) : laidMetH Tryz.prog oG ((World.doorLaid Tryz.prog 400 os).forCall (fun _ _ => 0) ⟨#[], args, []⟩).memory :=
  laidMetH_of_parts3 (fuel := 8) (laidMet_of_run' 8 (by kernel_rfl) (by kernel_rfl)) (by kernel_rfl) (by kernel_rfl)
theorem Bd (W : World) (h : laidMetH Tryz.prog oG W) : GlOK (wh W) := by
  have hh := uT (P := Tryz.prog) (W := W) (n := "algorist/modular.signs") (g := 0) (k := .i64) (xs := [0, 1, 0, -1, 0, -1, 0, 1]) (ty := 244) (e := 3) h (MakeChecks.laidMetH_plain _ _ _ (by kernel_rfl)) (by kernel_rfl) (by kernel_rfl) Tryz.underlying244 Tryz.underlying3 (by kernel_rfl)
  intro p hp
  simp only [tB, List.mem_cons, List.not_mem_nil, or_false] at hp
  subst hp
  exact hh
set_option maxRecDepth 100000 in
theorem Dw (os : Os) (started : os.Started) (H : Type) (enc : TypeId × Value → H) :
    ReturnsInHanded {} Tryz.checked os 3 .any (fun w args => (Rows.topGeneraSpec.pre enc Tryz.prog Tryz.f3 [] false w args ∧ laidMetH Tryz.prog oG w) ∧ sizedMet enc Tryz.prog Tryz.f3 (OpenSpec.ofChange Rows.topGeneraSpec) false w args) (Rows.topGeneraSpec.post enc Tryz.prog Tryz.f3 false true false false) :=
  pZ (C := Tryz.checked) own started (by kernel_rfl) Tryz.func3
    (ChangeSpec.witness_shaped (enc := enc) (C := Tryz.checked) (os := os) (X := fun w _ => laidMetH Tryz.prog oG w) false (World.doorLaid Tryz.prog 400 os) #[.agg #[.int .u16 0, .int .u16 0, .int .u16 0, .int .u16 0, .int .u16 0, .int .u8 0, .int .u8 0, .int .u8 0, .int .u8 0], .int .u8 0] 24 rfl (World.shaped_of_RefB (by kernel_rfl) (by kernel_rfl)) (by kernel_rfl) (by kernel_rfl) (by kernel_rfl) (xD os _))
    lo (fun t ht => by
      have e : Tryz.f3.params.toList = [26, 5] := rfl
      rw [e] at ht
      simp only [List.mem_cons, List.not_mem_nil, or_false] at ht
      rcases ht with rfl | rfl <;> exact ⟨by kernel_rfl, bL0 (by kernel_rfl)⟩)
    rfl (fun ds hd => by
      have e : ds.length = 2 := hd
      match ds, e with
      | [x0, x1], _ => exact ⟨rfl, rfl, rfl⟩)
    rfl Tryz.underlying4 (fun W => Dg) Bd
theorem k_named : Tryz.prog.funcNamed Rows.topGeneraRow.func = some 3 := by kernel_rfl
theorem GR : Rows.topGeneraRow.wf (OpenSpec.ofChange Rows.topGeneraSpec) = true := by kernel_rfl
theorem FQ : namedTie Tryz.prog Rows.topGeneraRow.named Rows.topGeneraSpec.vars = true := by kernel_rfl
theorem A3 : mapsRowed Tryz.prog = true := by kernel_rfl
theorem A4 : (Rows.topGeneraRow.inPlace == Tryz.prog.inPlace 3) = true := by kernel_rfl
theorem DE : (Rows.topGeneraRow.unfollowed == Tryz.prog.unfollowed 3) = true := by kernel_rfl
theorem FR : (Rows.topGeneraRow.recurses == Tryz.prog.recurses 3) = true := by kernel_rfl
theorem Dz : (Rows.topGeneraRow.named == Tryz.prog.varsNamed 3) = true := by kernel_rfl
theorem D6 : joinedFacts Tryz.prog 3 Tryz.f3 Rows.topGeneraSpec Rows.topGeneraRow = true := by
  unfold joinedFacts
  rw [GR, lo, A3, FQ, A4, DE, FR, Dz]
  kernel_rfl
theorem DC : Tryz.f3.isInstance Tryz.prog Rows.topGeneraRow.origin Rows.topGeneraRow.targs := dT0 (by kernel_rfl)
theorem Dx : Tryz.f3.isWrapper Tryz.prog Rows.topGeneraRow.wrapper Rows.topGeneraRow.mainSum := by unfold Func.isWrapper; first | (rw [if_pos (by decide +kernel)]; kernel_rfl) | (rw [if_neg (by decide +kernel)]; exact ⟨rfl, rfl⟩)
theorem GL : Rows.topGeneraRow.holds Tryz.pinned (OpenSpec.ofChange Rows.topGeneraSpec) :=
  OpenClaim.holds_of_wide 3 Tryz.f3 rfl rfl rfl rfl rfl rfl rfl ⟨rfl, rfl, rfl, rfl, rfl⟩ rfl rfl rfl rfl rfl k_named Tryz.func3 D6 DC Dx
    (fun os started H enc _ => Dw os started H enc)
theorem sT : Rows.TopGeneraSaid := GL
theorem DA : Rows.topGeneraRow.wfByText (OpenSpec.ofChange Rows.topGeneraSpec) = true := by kernel_rfl
theorem DB : Tryz.prog.mainIs = some (true, "78b2d204ac323a3d073ae603fa2ef421c80475e6d74e434713a6a1e03f22b4be".toList) := by kernel_rfl
theorem A5 : false = Tryz.prog.looks [] := by kernel_rfl
theorem DD : false = Rows.topGeneraRow.goesBy Tryz.prog := by kernel_rfl
theorem Dy : ([26, 5].all fun u => !Tryz.prog.wantsStandIn u) = true := by kernel_rfl
theorem proved : Rows.TopGeneraCardSaid :=
  Claim7.holds_tied_plain_at .later [] [.data] true (true, "78b2d204ac323a3d073ae603fa2ef421c80475e6d74e434713a6a1e03f22b4be") false
    sT (fun _ h => by cases h) DA (fun _ h => by cases h) topGenera_row_tie rfl ⟨rfl, rfl⟩ DB rfl
    (fun f fn hf hfn => by
      obtain rfl : f = 3 := Option.some.inj (k_named.symm.trans hf) |>.symm
      obtain rfl : fn = Tryz.f3 := (Option.some.inj (Tryz.func3.symm.trans hfn)).symm
      exact ⟨A5, fun j t ht => by
        have hm : t ∈ [26, 5] := by simpa using Array.mem_of_getElem? ht
        exact (show Tryz.prog.wantsStandIn t = false by simpa using List.all_eq_true.1 Dy t hm)⟩)
    DD
end Go.Proofs.YthaiejfjnllglaaGreatDoor.topGenera
