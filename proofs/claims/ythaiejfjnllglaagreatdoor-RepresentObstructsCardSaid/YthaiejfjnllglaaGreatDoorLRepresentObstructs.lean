/- The law 'RepresentObstructs': for every input the call returns true and its arguments read as they did. No condition. -/
import Derived.Test.YthaiejfjnllglaaGreatDoorOBJ
import Derived.Test.YthaiejfjnllglaaGreatDoorOBI
import Derived.Test.YthaiejfjnllglaaGreatDoorRows
import Derived.Test.YthaiejfjnllglaaGreatDoorTie
import Derived.Test.YthaiejfjnllglaaGreatDoorCards
namespace Go.Proofs.YthaiejfjnllglaaGreatDoor.representObstructs
open Go Go.AM Go.RowKit
theorem own : ownKnob Tryz.prog.godebug = none := by kernel_rfl
theorem lo : laidOutB Tryz.prog = true := by kernel_rfl
theorem o22 {H : Type} {enc : TypeId × Value → H} {W : World} : gY enc Tryz.prog W 22 [.i .u16] :=
  qB Tryz.underlying22
theorem o23 {H : Type} {enc : TypeId × Value → H} {W : World} : gY enc Tryz.prog W 23 [.i .u16, .i .u16, .i .u16, .i .u16] :=
  nw Tryz.underlying23 o22 (by kernel_rfl) (by kernel_rfl)
theorem o5 {H : Type} {enc : TypeId × Value → H} {W : World} : gY enc Tryz.prog W 5 [.i .u8] :=
  qB Tryz.underlying5
theorem o24 {H : Type} {enc : TypeId × Value → H} {W : World} : gY enc Tryz.prog W 24 [.i .u8, .i .u8, .i .u8, .i .u8] :=
  nw Tryz.underlying24 o5 (by kernel_rfl) (by kernel_rfl)
theorem o26 {H : Type} {enc : TypeId × Value → H} {W : World} : gY enc Tryz.prog W 26 [.i .u16, .i .u16, .i .u16, .i .u16, .i .u16, .i .u8, .i .u8, .i .u8, .i .u8] :=
  by
  refine te Tryz.underlying26 ?_ (by kernel_rfl)
  show mK _ _ _ 0 (_ :: _ :: _ :: []) ([.i .u16] ++ ([.i .u16, .i .u16, .i .u16, .i .u16] ++ ([.i .u8, .i .u8, .i .u8, .i .u8] ++ [])))
  exact kB rfl o22 (by kernel_rfl) (kB rfl o23 (by kernel_rfl) (kB rfl o24 (by kernel_rfl) w6))
set_option maxRecDepth 100000 in
theorem IM {H : Type} {enc : TypeId × Value → H} {W : World} : lP enc Tryz.prog W Tryz.f9 9 := by
  refine L9 (rfl : Tryz.f9.params = #[26]) ?_
  intro v0 e0 p0 base hv0 ht0 hw0
  obtain ⟨d0, l0, r0⟩ := GM (by rw [Tryz.underlying26]) o26 hv0 ht0 hw0
  obtain ⟨b0_0, c0_0, rfl, w0_0, l0_0⟩ := l0.i
  obtain ⟨b0_1, c0_1, rfl, w0_1, l0_1⟩ := l0_0.i
  obtain ⟨b0_2, c0_2, rfl, w0_2, l0_2⟩ := l0_1.i
  obtain ⟨b0_3, c0_3, rfl, w0_3, l0_3⟩ := l0_2.i
  obtain ⟨b0_4, c0_4, rfl, w0_4, l0_4⟩ := l0_3.i
  obtain ⟨b0_5, c0_5, rfl, w0_5, l0_5⟩ := l0_4.i
  obtain ⟨b0_6, c0_6, rfl, w0_6, l0_6⟩ := l0_5.i
  obtain ⟨b0_7, c0_7, rfl, w0_7, l0_7⟩ := l0_6.i
  obtain ⟨b0_8, c0_8, rfl, w0_8, l0_8⟩ := l0_7.i
  obtain rfl := l0_8.nil
  refine ⟨[_], ⟨r0, trivial⟩, ?_⟩
  have h0 := Int.toNat_of_nonneg (bounds_u16 w0_0).1
  have h1 := Int.toNat_of_nonneg (bounds_u16 w0_1).1
  have h2 := Int.toNat_of_nonneg (bounds_u16 w0_2).1
  have h3 := Int.toNat_of_nonneg (bounds_u16 w0_3).1
  have h4 := Int.toNat_of_nonneg (bounds_u16 w0_4).1
  have h5 := Int.toNat_of_nonneg (bounds_u8 w0_5).1
  have h6 := Int.toNat_of_nonneg (bounds_u8 w0_6).1
  have h7 := Int.toNat_of_nonneg (bounds_u8 w0_7).1
  have h8 := Int.toNat_of_nonneg (bounds_u8 w0_8).1
  have g0 := (bounds_u16 w0_0).2
  have g1 := (bounds_u16 w0_1).2
  have g2 := (bounds_u16 w0_2).2
  have g3 := (bounds_u16 w0_3).2
  have g4 := (bounds_u16 w0_4).2
  have g5 := (bounds_u8 w0_5).2
  have g6 := (bounds_u8 w0_6).2
  have g7 := (bounds_u8 w0_7).2
  have g8 := (bounds_u8 w0_8).2
  rw [← h0, ← h1, ← h2, ← h3, ← h4, ← h5, ← h6, ← h7, ← h8]
  exact lG _ _ _ _ _ _ _ _ _ (by omega) (by omega) (by omega) (by omega) (by omega) (by omega) (by omega) (by omega) (by omega)
abbrev rF : List (String × DataW Unit) := [("algorist/modular.signs", Rows.laid_algorist_modular_signs)]
set_option maxRecDepth 100000 in
theorem B6 (os : Os) (args : Array Value) : laidMetH Tryz.prog rF ((World.doorLaid Tryz.prog 400 os).forCall (fun _ _ => 0) ⟨#[], args, []⟩).memory :=
  laidMetH_of_parts3 (fuel := 8) (laidMet_of_run' 8 (by kernel_rfl) (by kernel_rfl)) (by kernel_rfl) (by kernel_rfl)
theorem Gp (W : World) (h : laidMetH Tryz.prog rF W) : GlOK (wh W) := by
  have hh := y4 (P := Tryz.prog) (W := W) (n := "algorist/modular.signs") (g := 0) (k := .i64) (xs := [0, 1, 0, -1, 0, -1, 0, 1]) (ty := 244) (e := 3) h (MakeChecks.laidMetH_plain _ _ _ (by kernel_rfl)) (by kernel_rfl) (by kernel_rfl) Tryz.underlying244 Tryz.underlying3 (by kernel_rfl)
  intro p hp
  simp only [xy, List.mem_cons, List.not_mem_nil, or_false] at hp
  subst hp
  exact hh
set_option maxRecDepth 100000 in
theorem I9 (os : Os) (started : os.Started) (H : Type) (enc : TypeId × Value → H) :
    ReturnsInHanded {} Tryz.checked os 9 .any (fun w args => (Rows.representObstructsSpec.pre enc Tryz.prog Tryz.f9 [] false w args ∧ laidMetH Tryz.prog rF w) ∧ sizedMet enc Tryz.prog Tryz.f9 (OpenSpec.ofChange Rows.representObstructsSpec) false w args) (Rows.representObstructsSpec.post enc Tryz.prog Tryz.f9 false true false false) :=
  tD (C := Tryz.checked) own started (by kernel_rfl) Tryz.func9
    (ChangeSpec.witness_shaped (enc := enc) (C := Tryz.checked) (os := os) (X := fun w _ => laidMetH Tryz.prog rF w) false (World.doorLaid Tryz.prog 400 os) #[.agg #[.int .u16 0, .int .u16 0, .int .u16 0, .int .u16 0, .int .u16 0, .int .u8 0, .int .u8 0, .int .u8 0, .int .u8 0]] 24 rfl (World.shaped_of_RefB (by kernel_rfl) (by kernel_rfl)) (by kernel_rfl) (by kernel_rfl) (by kernel_rfl) (B6 os _))
    lo (fun t ht => by
      have e : Tryz.f9.params.toList = [26] := rfl
      rw [e] at ht
      simp only [List.mem_cons, List.not_mem_nil, or_false] at ht
      subst ht 
      exact ⟨by kernel_rfl, bL0 (by kernel_rfl)⟩)
    rfl (fun ds hd => by
      have e : ds.length = 1 := hd
      match ds, e with
      | [x0], _ => exact ⟨rfl, rfl, rfl⟩)
    rfl Tryz.underlying4 (fun W => IM) Gp
theorem k_named : Tryz.prog.funcNamed Rows.representObstructsRow.func = some 9 := by kernel_rfl
theorem MQ : Rows.representObstructsRow.wf (OpenSpec.ofChange Rows.representObstructsSpec) = true := by kernel_rfl
theorem LC : namedTie Tryz.prog Rows.representObstructsRow.named Rows.representObstructsSpec.vars = true := by kernel_rfl
theorem F9 : mapsRowed Tryz.prog = true := by kernel_rfl
theorem Ga : (Rows.representObstructsRow.inPlace == Tryz.prog.inPlace 9) = true := by kernel_rfl
theorem Ji : (Rows.representObstructsRow.unfollowed == Tryz.prog.unfollowed 9) = true := by kernel_rfl
theorem LD : (Rows.representObstructsRow.recurses == Tryz.prog.recurses 9) = true := by kernel_rfl
theorem Jd : (Rows.representObstructsRow.named == Tryz.prog.varsNamed 9) = true := by kernel_rfl
theorem JS : joinedFacts Tryz.prog 9 Tryz.f9 Rows.representObstructsSpec Rows.representObstructsRow = true := by
  unfold joinedFacts
  rw [MQ, lo, F9, LC, Ga, Ji, LD, Jd]
  kernel_rfl
theorem Jg : Tryz.f9.isInstance Tryz.prog Rows.representObstructsRow.origin Rows.representObstructsRow.targs := dT0 (by kernel_rfl)
theorem Jb : Tryz.f9.isWrapper Tryz.prog Rows.representObstructsRow.wrapper Rows.representObstructsRow.mainSum := by unfold Func.isWrapper; first | (rw [if_pos (by decide +kernel)]; kernel_rfl) | (rw [if_neg (by decide +kernel)]; exact ⟨rfl, rfl⟩)
theorem MJ : Rows.representObstructsRow.holds Tryz.pinned (OpenSpec.ofChange Rows.representObstructsSpec) :=
  OpenClaim.holds_of_wide 9 Tryz.f9 rfl rfl rfl rfl rfl rfl rfl ⟨rfl, rfl, rfl, rfl, rfl⟩ rfl rfl rfl rfl rfl k_named Tryz.func9 JS Jg Jb
    (fun os started H enc _ => I9 os started H enc)
theorem wI : Rows.RepresentObstructsSaid := MJ
theorem Je : Rows.representObstructsRow.wfByText (OpenSpec.ofChange Rows.representObstructsSpec) = true := by kernel_rfl
theorem Jf : Tryz.prog.mainIs = some (true, "78b2d204ac323a3d073ae603fa2ef421c80475e6d74e434713a6a1e03f22b4be".toList) := by kernel_rfl
theorem Gb : false = Tryz.prog.looks [] := by kernel_rfl
theorem Jh : false = Rows.representObstructsRow.goesBy Tryz.prog := by kernel_rfl
theorem Jc : ([26].all fun u => !Tryz.prog.wantsStandIn u) = true := by kernel_rfl
theorem proved : Rows.RepresentObstructsCardSaid :=
  Claim7.holds_tied_plain_at .later [] [.data] true (true, "78b2d204ac323a3d073ae603fa2ef421c80475e6d74e434713a6a1e03f22b4be") false
    wI (fun _ h => by cases h) Je (fun _ h => by cases h) representObstructs_row_tie rfl ⟨rfl, rfl⟩ Jf rfl
    (fun f fn hf hfn => by
      obtain rfl : f = 9 := Option.some.inj (k_named.symm.trans hf) |>.symm
      obtain rfl : fn = Tryz.f9 := (Option.some.inj (Tryz.func9.symm.trans hfn)).symm
      exact ⟨Gb, fun j t ht => by
        have hm : t ∈ [26] := by simpa using Array.mem_of_getElem? ht
        exact (show Tryz.prog.wantsStandIn t = false by simpa using List.all_eq_true.1 Jc t hm)⟩)
    Jh
end Go.Proofs.YthaiejfjnllglaaGreatDoor.representObstructs
