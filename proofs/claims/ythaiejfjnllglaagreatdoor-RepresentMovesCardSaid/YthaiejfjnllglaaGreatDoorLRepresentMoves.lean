/- The law 'RepresentMoves': for every input the call returns true and its arguments read as they did. No condition. -/
import Derived.Test.YthaiejfjnllglaaGreatDoorMBJ
import Derived.Test.YthaiejfjnllglaaGreatDoorMBI
import Derived.Test.YthaiejfjnllglaaGreatDoorRows
import Derived.Test.YthaiejfjnllglaaGreatDoorTie
import Derived.Test.YthaiejfjnllglaaGreatDoorCards
namespace Go.Proofs.YthaiejfjnllglaaGreatDoor.representMoves
open Go Go.AM Go.RowKit
theorem own : ownKnob Tryz.prog.godebug = none := by kernel_rfl
theorem lo : laidOutB Tryz.prog = true := by kernel_rfl
theorem o22 {H : Type} {enc : TypeId × Value → H} {W : World} : gi enc Tryz.prog W 22 [.i .u16] :=
  pR Tryz.underlying22
theorem o23 {H : Type} {enc : TypeId × Value → H} {W : World} : gi enc Tryz.prog W 23 [.i .u16, .i .u16, .i .u16, .i .u16] :=
  j9 Tryz.underlying23 o22 (by kernel_rfl) (by kernel_rfl)
theorem o5 {H : Type} {enc : TypeId × Value → H} {W : World} : gi enc Tryz.prog W 5 [.i .u8] :=
  pR Tryz.underlying5
theorem o24 {H : Type} {enc : TypeId × Value → H} {W : World} : gi enc Tryz.prog W 24 [.i .u8, .i .u8, .i .u8, .i .u8] :=
  j9 Tryz.underlying24 o5 (by kernel_rfl) (by kernel_rfl)
theorem o26 {H : Type} {enc : TypeId × Value → H} {W : World} : gi enc Tryz.prog W 26 [.i .u16, .i .u16, .i .u16, .i .u16, .i .u16, .i .u8, .i .u8, .i .u8, .i .u8] :=
  by
  refine rU Tryz.underlying26 ?_ (by kernel_rfl)
  show l9 _ _ _ 0 (_ :: _ :: _ :: []) ([.i .u16] ++ ([.i .u16, .i .u16, .i .u16, .i .u16] ++ ([.i .u8, .i .u8, .i .u8, .i .u8] ++ [])))
  exact ka rfl o22 (by kernel_rfl) (ka rfl o23 (by kernel_rfl) (ka rfl o24 (by kernel_rfl) vP))
theorem o96 {H : Type} {enc : TypeId × Value → H} {W : World} : gi enc Tryz.prog W 96 [.i .u8, .i .u8] :=
  j9 Tryz.underlying96 o5 (by kernel_rfl) (by kernel_rfl)
set_option maxRecDepth 100000 in
theorem G0 {H : Type} {enc : TypeId × Value → H} {W : World} : jQ enc Tryz.prog W Tryz.f7 7 := by
  refine iO (rfl : Tryz.f7.params = #[26, 96]) ?_
  intro v0 e0 p0 v1 e1 p1 base hv0 ht0 hw0 hv1 ht1 hw1
  obtain ⟨d0, l0, r0⟩ := ve (by rw [Tryz.underlying26]) o26 hv0 ht0 hw0
  obtain ⟨b0_0, c0_0, rfl, w0_0, l0_0⟩ := l0.i
  obtain ⟨b0_1, c0_1, rfl, w0_1, l0_1⟩ := l0_0.i
  obtain ⟨b0_2, c0_2, rfl, w0_2, l0_2⟩ := l0_1.i
  obtain ⟨b0_3, c0_3, rfl, w0_3, l0_3⟩ := l0_2.i
  obtain ⟨b0_4, c0_4, rfl, w0_4, l0_4⟩ := l0_3.i
  obtain ⟨b0_5, c0_5, rfl, w0_5, l0_5⟩ := l0_4.i
  obtain ⟨b0_6, c0_6, rfl, w0_6, l0_6⟩ := l0_5.i
  obtain ⟨b0_7, c0_7, rfl, w0_7, l0_7⟩ := l0_6.i
  obtain ⟨b0_8, c0_8, rfl, w0_8, l0_8⟩ := l0_7.i
  obtain rfl := l0_8.nil
  obtain ⟨d1, l1, r1⟩ := ve (by rw [Tryz.underlying96]) o96 hv1 ht1 hw1
  obtain ⟨b1_0, c1_0, rfl, w1_0, l1_0⟩ := l1.i
  obtain ⟨b1_1, c1_1, rfl, w1_1, l1_1⟩ := l1_0.i
  obtain rfl := l1_1.nil
  refine ⟨[_, _], ⟨r0, r1, trivial⟩, ?_⟩
  have h0 := Int.toNat_of_nonneg (bounds_u16 w0_0).1
  have h1 := Int.toNat_of_nonneg (bounds_u16 w0_1).1
  have h2 := Int.toNat_of_nonneg (bounds_u16 w0_2).1
  have h3 := Int.toNat_of_nonneg (bounds_u16 w0_3).1
  have h4 := Int.toNat_of_nonneg (bounds_u16 w0_4).1
  have h5 := Int.toNat_of_nonneg (bounds_u8 w0_5).1
  have h6 := Int.toNat_of_nonneg (bounds_u8 w0_6).1
  have h7 := Int.toNat_of_nonneg (bounds_u8 w0_7).1
  have h8 := Int.toNat_of_nonneg (bounds_u8 w0_8).1
  have g0 := (bounds_u16 w0_0).2
  have g1 := (bounds_u16 w0_1).2
  have g2 := (bounds_u16 w0_2).2
  have g3 := (bounds_u16 w0_3).2
  have g4 := (bounds_u16 w0_4).2
  have g5 := (bounds_u8 w0_5).2
  have g6 := (bounds_u8 w0_6).2
  have g7 := (bounds_u8 w0_7).2
  have g8 := (bounds_u8 w0_8).2
  have q0 := Int.toNat_of_nonneg (bounds_u8 w1_0).1
  have q1 := Int.toNat_of_nonneg (bounds_u8 w1_1).1
  have p0 := (bounds_u8 w1_0).2
  have p1 := (bounds_u8 w1_1).2
  rw [← h0, ← h1, ← h2, ← h3, ← h4, ← h5, ← h6, ← h7, ← h8, ← q0, ← q1]
  exact nk _ _ _ _ _ _ _ _ _ (by omega) (by omega) (by omega) (by omega) (by omega) (by omega) (by omega) (by omega) (by omega) _ _ (by omega) (by omega)
abbrev qF : List (String × DataW Unit) := [("algorist/modular.signs", Rows.laid_algorist_modular_signs)]
set_option maxRecDepth 100000 in
theorem AO (os : Os) (args : Array Value) : laidMetH Tryz.prog qF ((World.doorLaid Tryz.prog 400 os).forCall (fun _ _ => 0) ⟨#[], args, []⟩).memory :=
  laidMetH_of_parts3 (fuel := 8) (laidMet_of_run' 8 (by kernel_rfl) (by kernel_rfl)) (by kernel_rfl) (by kernel_rfl)
theorem EC (W : World) (h : laidMetH Tryz.prog qF W) : GlOK (wh W) := by
  have hh := xP (P := Tryz.prog) (W := W) (n := "algorist/modular.signs") (g := 0) (k := .i64) (xs := [0, 1, 0, -1, 0, -1, 0, 1]) (ty := 244) (e := 3) h (MakeChecks.laidMetH_plain _ _ _ (by kernel_rfl)) (by kernel_rfl) (by kernel_rfl) Tryz.underlying244 Tryz.underlying3 (by kernel_rfl)
  intro p hp
  simp only [wt, List.mem_cons, List.not_mem_nil, or_false] at hp
  subst hp
  exact hh
set_option maxRecDepth 100000 in
theorem Hm (os : Os) (started : os.Started) (H : Type) (enc : TypeId × Value → H) :
    ReturnsInHanded {} Tryz.checked os 7 .any (fun w args => (Rows.representMovesSpec.pre enc Tryz.prog Tryz.f7 [] false w args ∧ laidMetH Tryz.prog qF w) ∧ sizedMet enc Tryz.prog Tryz.f7 (OpenSpec.ofChange Rows.representMovesSpec) false w args) (Rows.representMovesSpec.post enc Tryz.prog Tryz.f7 false true false false) :=
  sn (C := Tryz.checked) own started (by kernel_rfl) Tryz.func7
    (ChangeSpec.witness_shaped (enc := enc) (C := Tryz.checked) (os := os) (X := fun w _ => laidMetH Tryz.prog qF w) false (World.doorLaid Tryz.prog 400 os) #[.agg #[.int .u16 0, .int .u16 0, .int .u16 0, .int .u16 0, .int .u16 0, .int .u8 0, .int .u8 0, .int .u8 0, .int .u8 0], .agg #[.int .u8 0, .int .u8 0]] 24 rfl (World.shaped_of_RefB (by kernel_rfl) (by kernel_rfl)) (by kernel_rfl) (by kernel_rfl) (by kernel_rfl) (AO os _))
    lo (fun t ht => by
      have e : Tryz.f7.params.toList = [26, 96] := rfl
      rw [e] at ht
      simp only [List.mem_cons, List.not_mem_nil, or_false] at ht
      rcases ht with rfl | rfl <;> exact ⟨by kernel_rfl, bL0 (by kernel_rfl)⟩)
    rfl (fun ds hd => by
      have e : ds.length = 2 := hd
      match ds, e with
      | [x0, x1], _ => exact ⟨rfl, rfl, rfl⟩)
    rfl Tryz.underlying4 (fun W => G0) EC
theorem k_named : Tryz.prog.funcNamed Rows.representMovesRow.func = some 7 := by kernel_rfl
theorem KB : Rows.representMovesRow.wf (OpenSpec.ofChange Rows.representMovesSpec) = true := by kernel_rfl
theorem JB : namedTie Tryz.prog Rows.representMovesRow.named Rows.representMovesSpec.vars = true := by kernel_rfl
theorem Em : mapsRowed Tryz.prog = true := by kernel_rfl
theorem En : (Rows.representMovesRow.inPlace == Tryz.prog.inPlace 7) = true := by kernel_rfl
theorem Hw : (Rows.representMovesRow.unfollowed == Tryz.prog.unfollowed 7) = true := by kernel_rfl
theorem JC : (Rows.representMovesRow.recurses == Tryz.prog.recurses 7) = true := by kernel_rfl
theorem Hr : (Rows.representMovesRow.named == Tryz.prog.varsNamed 7) = true := by kernel_rfl
theorem H1 : joinedFacts Tryz.prog 7 Tryz.f7 Rows.representMovesSpec Rows.representMovesRow = true := by
  unfold joinedFacts
  rw [KB, lo, Em, JB, En, Hw, JC, Hr]
  kernel_rfl
theorem Hu : Tryz.f7.isInstance Tryz.prog Rows.representMovesRow.origin Rows.representMovesRow.targs := dT0 (by kernel_rfl)
theorem Ho : Tryz.f7.isWrapper Tryz.prog Rows.representMovesRow.wrapper Rows.representMovesRow.mainSum := by unfold Func.isWrapper; first | (rw [if_pos (by decide +kernel)]; kernel_rfl) | (rw [if_neg (by decide +kernel)]; exact ⟨rfl, rfl⟩)
theorem Kv : Rows.representMovesRow.holds Tryz.pinned (OpenSpec.ofChange Rows.representMovesSpec) :=
  OpenClaim.holds_of_wide 7 Tryz.f7 rfl rfl rfl rfl rfl rfl rfl ⟨rfl, rfl, rfl, rfl, rfl⟩ rfl rfl rfl rfl rfl k_named Tryz.func7 H1 Hu Ho
    (fun os started H enc _ => Hm os started H enc)
theorem vy : Rows.RepresentMovesSaid := Kv
theorem Hs : Rows.representMovesRow.wfByText (OpenSpec.ofChange Rows.representMovesSpec) = true := by kernel_rfl
theorem Ht : Tryz.prog.mainIs = some (true, "78b2d204ac323a3d073ae603fa2ef421c80475e6d74e434713a6a1e03f22b4be".toList) := by kernel_rfl
theorem Eo : false = Tryz.prog.looks [] := by kernel_rfl
theorem Hv : false = Rows.representMovesRow.goesBy Tryz.prog := by kernel_rfl
theorem Hq : ([26, 96].all fun u => !Tryz.prog.wantsStandIn u) = true := by kernel_rfl
theorem proved : Rows.RepresentMovesCardSaid :=
  Claim7.holds_tied_plain_at .later [] [.data] true (true, "78b2d204ac323a3d073ae603fa2ef421c80475e6d74e434713a6a1e03f22b4be") false
    vy (fun _ h => by cases h) Hs (fun _ h => by cases h) representMoves_row_tie rfl ⟨rfl, rfl⟩ Ht rfl
    (fun f fn hf hfn => by
      obtain rfl : f = 7 := Option.some.inj (k_named.symm.trans hf) |>.symm
      obtain rfl : fn = Tryz.f7 := (Option.some.inj (Tryz.func7.symm.trans hfn)).symm
      exact ⟨Eo, fun j t ht => by
        have hm : t ∈ [26, 96] := by simpa using Array.mem_of_getElem? ht
        exact (show Tryz.prog.wantsStandIn t = false by simpa using List.all_eq_true.1 Hq t hm)⟩)
    Hv
end Go.Proofs.YthaiejfjnllglaaGreatDoor.representMoves
