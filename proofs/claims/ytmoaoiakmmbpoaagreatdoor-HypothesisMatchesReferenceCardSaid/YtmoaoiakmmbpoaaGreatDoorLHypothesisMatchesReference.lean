/- The law 'HypothesisMatchesReference': for every input the call returns true and its arguments read as they did. No condition. -/
import Derived.Test.YtmoaoiakmmbpoaaGreatDoorHFG
import Derived.Test.YtmoaoiakmmbpoaaGreatDoorHFF
import Derived.Test.YtmoaoiakmmbpoaaGreatDoorHFC
import Derived.Test.YtmoaoiakmmbpoaaGreatDoorRows
import Derived.Test.YtmoaoiakmmbpoaaGreatDoorTie
import Derived.Test.YtmoaoiakmmbpoaaGreatDoorCards
namespace Go.Proofs.YtmoaoiakmmbpoaaGreatDoor.hypothesisMatchesReference
open Go Go.AM Go.RowKit

theorem own : ownKnob Tryz.prog.godebug = none := by kernel_rfl
theorem lo : laidOutB Tryz.prog = true := by kernel_rfl
theorem o5 {H : Type} {enc : TypeId × Value → H} {W : World} : Opens enc Tryz.prog W 5 [.i .u8] :=
  opens_int Tryz.underlying5
theorem o39 {H : Type} {enc : TypeId × Value → H} {W : World} : Opens enc Tryz.prog W 39 [.i .u8, .i .u8, .i .u8] :=
  by
  refine opens_struct Tryz.underlying39 ?_ (by kernel_rfl)
  show OpensF _ _ _ 0 (_ :: _ :: _ :: []) ([.i .u8] ++ ([.i .u8] ++ ([.i .u8] ++ [])))
  exact opensF_cons rfl o5 (by kernel_rfl) (opensF_cons rfl o5 (by kernel_rfl) (opensF_cons rfl o5 (by kernel_rfl) opensF_nil))
theorem od39 {H : Type} {enc : TypeId × Value → H} {W : World} : OpD enc Tryz.prog W 39 (LDs [.i .u8, .i .u8, .i .u8]) :=
  opd_of o39
theorem od22 {H : Type} {enc : TypeId × Value → H} {W : World} : OpD enc Tryz.prog W 22 (SlS (LDs [.i .u8, .i .u8, .i .u8]) 3) :=
  opd_slice (z := 3) Tryz.underlying22 od39 (by kernel_rfl) (fun _ h => ld_len h) (by decide) (by kernel_rfl) (by decide)
theorem od9 {H : Type} {enc : TypeId × Value → H} {W : World} : OpD enc Tryz.prog W 9 StrD :=
  opd_string Tryz.underlying9
theorem od35 {H : Type} {enc : TypeId × Value → H} {W : World} : OpD enc Tryz.prog W 35 (SlS StrD 16) :=
  opd_slice (z := 1) Tryz.underlying35 od9 (by kernel_rfl) (fun _ h => str_len h) (by decide) (by kernel_rfl) (by decide)
theorem o3 {H : Type} {enc : TypeId × Value → H} {W : World} : Opens enc Tryz.prog W 3 [.i .i64] :=
  opens_int Tryz.underlying3
theorem od3 {H : Type} {enc : TypeId × Value → H} {W : World} : OpD enc Tryz.prog W 3 (LDs [.i .i64]) :=
  opd_of o3
theorem od25 {H : Type} {enc : TypeId × Value → H} {W : World} : OpD enc Tryz.prog W 25 (SlS (LDs [.i .i64]) 8) :=
  opd_slice (z := 1) Tryz.underlying25 od3 (by kernel_rfl) (fun _ h => ld_len h) (by decide) (by kernel_rfl) (by decide)
theorem od45 {H : Type} {enc : TypeId × Value → H} {W : World} : OpD enc Tryz.prog W 45 (CatS StrD (CatS (SlS StrD 16) (CatS (SlS (LDs [.i .i64]) 8) (fun ds => ds = [])))) :=
  opd_struct Tryz.underlying45 (opdF_cons (z := 1) rfl od9 (by kernel_rfl) (opdF_cons (z := 1) rfl od35 (by kernel_rfl) (opdF_cons (z := 1) rfl od25 (by kernel_rfl) opdF_nil))) (by kernel_rfl)
theorem od24 {H : Type} {enc : TypeId × Value → H} {W : World} : OpD enc Tryz.prog W 24 (SlS (CatS StrD (CatS (SlS StrD 16) (CatS (SlS (LDs [.i .i64]) 8) (fun ds => ds = [])))) 64) :=
  opd_slice (z := 3) Tryz.underlying24 od45 (by kernel_rfl) (fun _ h => drv_len h) (by decide) (by kernel_rfl) (by decide)
theorem od27 {H : Type} {enc : TypeId × Value → H} {W : World} : OpD enc Tryz.prog W 27 (CatS (SlS (CatS StrD (CatS (SlS StrD 16) (CatS (SlS (LDs [.i .i64]) 8) (fun ds => ds = [])))) 64) (CatS (SlS (LDs [.i .i64]) 8) (fun ds => ds = []))) :=
  opd_struct Tryz.underlying27 (opdF_cons (z := 1) rfl od24 (by kernel_rfl) (opdF_cons (z := 1) rfl od25 (by kernel_rfl) opdF_nil)) (by kernel_rfl)
set_option maxRecDepth 100000 in
theorem opened {H : Type} {enc : TypeId × Value → H} {W : World} : ArgsData enc Tryz.prog W Tryz.f7 7 := by
  refine args3 (rfl : Tryz.f7.params = #[22, 5, 27]) ?_
  intro v0 e0 p0 v1 e1 p1 v2 e2 p2 base hv0 ht0 hw0 hv1 ht1 hw1 hv2 ht2 hw2
  obtain ⟨ls0, l0, r0⟩ := arg_slD Tryz.underlying22 od22 hv0 ht0 hw0
  obtain ⟨R0, q0⟩ := raws_open l0
  rw [q0] at r0
  obtain ⟨n1, w1, r1⟩ := arg_int Tryz.underlying5 hv1 ht1
  obtain ⟨d2, l2, r2⟩ := arg_aggD (by rw [Tryz.underlying27]) od27 hv2 ht2 hw2
  obtain ⟨a2, rfl, k2⟩ := ra_open l2
  refine ⟨[_, _, _], ⟨r0, r1, r2, trivial⟩, ?_⟩
  obtain ⟨x1, rfl⟩ := u8_of w1
  exact l_HypothesisMatchesReference R0 x1 a2

abbrev laidL : List (String × DataW Unit) := [("math/bits.deBruijn32tab", Rows.laid_math_bits_deBruijn32tab)]
set_option maxRecDepth 100000 in
theorem door_met (os : Os) (args : Array Value) : laidMetH Tryz.prog laidL ((World.doorLaid Tryz.prog 400 os).forCall (fun _ _ => 0) ⟨#[], args, []⟩).memory :=
  laidMetH_of_parts3 (fuel := 8) (laidMet_of_run' 8 (by kernel_rfl) (by kernel_rfl)) (by kernel_rfl) (by kernel_rfl)
theorem glob_ok (W : World) (h : laidMetH Tryz.prog laidL W) : GlOK (wh W) := by
  have hh := laid_ints (P := Tryz.prog) (W := W) (n := "math/bits.deBruijn32tab") (g := 0) (k := .u8) (xs := [0, 1, 28, 2, 29, 14, 24, 3, 30, 22, 20, 15, 25, 17, 4, 8, 31, 27, 13, 23, 21, 19, 16, 7, 26, 12, 18, 6, 11, 5, 10, 9]) (ty := 121) (e := 5) h (MakeChecks.laidMetH_plain _ _ _ (by kernel_rfl)) (by kernel_rfl) (by kernel_rfl) Tryz.underlying121 Tryz.underlying5 (by kernel_rfl)
  intro p hp
  simp only [glist, List.mem_cons, List.not_mem_nil, or_false] at hp
  subst hp
  exact hh

set_option maxRecDepth 100000 in
theorem lifted (os : Os) (started : os.Started) (H : Type) (enc : TypeId × Value → H) :
    ReturnsInHanded {} Tryz.checked os 7 .any (fun w args => (Rows.hypothesisMatchesReferenceSpec.pre enc Tryz.prog Tryz.f7 [] false w args ∧ laidMetH Tryz.prog laidL w) ∧ sizedMet enc Tryz.prog Tryz.f7 (OpenSpec.ofChange Rows.hypothesisMatchesReferenceSpec) false w args) (Rows.hypothesisMatchesReferenceSpec.post enc Tryz.prog Tryz.f7 false true false false) :=
  law_row_laid (C := Tryz.checked) own started (by kernel_rfl) Tryz.func7
    (ChangeSpec.witness_shaped (enc := enc) (C := Tryz.checked) (os := os) (X := fun w _ => laidMetH Tryz.prog laidL w) false (World.doorLaid Tryz.prog 400 os) #[.slice none 0 0, .int .u8 0, .agg #[.slice none 0 0, .slice none 0 0]] 24 rfl (World.shaped_of_RefB (by kernel_rfl) (by kernel_rfl)) (by kernel_rfl) (by kernel_rfl) (by kernel_rfl) (door_met os _))
    lo (fun t ht => by
      have e : Tryz.f7.params.toList = [22, 5, 27] := rfl
      rw [e] at ht
      simp only [List.mem_cons, List.not_mem_nil, or_false] at ht
      rcases ht with rfl | rfl | rfl <;> exact ⟨by kernel_rfl, Nat.le_of_ble_eq_true (by kernel_rfl)⟩)
    rfl (fun ds hd => by
      have e : ds.length = 3 := hd
      match ds, e with
      | [x0, x1, x2], _ => exact ⟨rfl, rfl, rfl⟩)
    rfl Tryz.underlying4 (fun W => opened) glob_ok

theorem k_named : Tryz.prog.funcNamed Rows.hypothesisMatchesReferenceRow.func = some 7 := by kernel_rfl
theorem k_wf : Rows.hypothesisMatchesReferenceRow.wf (OpenSpec.ofChange Rows.hypothesisMatchesReferenceSpec) = true := by kernel_rfl
theorem k_tie : namedTie Tryz.prog Rows.hypothesisMatchesReferenceRow.named Rows.hypothesisMatchesReferenceSpec.vars = true := by kernel_rfl
theorem k_rowed : mapsRowed Tryz.prog = true := by kernel_rfl
theorem k_place : (Rows.hypothesisMatchesReferenceRow.inPlace == Tryz.prog.inPlace 7) = true := by kernel_rfl
theorem k_foll : (Rows.hypothesisMatchesReferenceRow.unfollowed == Tryz.prog.unfollowed 7) = true := by kernel_rfl
theorem k_rec : (Rows.hypothesisMatchesReferenceRow.recurses == Tryz.prog.recurses 7) = true := by kernel_rfl
theorem k_vars : (Rows.hypothesisMatchesReferenceRow.named == Tryz.prog.varsNamed 7) = true := by kernel_rfl
theorem closed : joinedFacts Tryz.prog 7 Tryz.f7 Rows.hypothesisMatchesReferenceSpec Rows.hypothesisMatchesReferenceRow = true := by
  unfold joinedFacts
  rw [k_wf, lo, k_rowed, k_tie, k_place, k_foll, k_rec, k_vars]
  kernel_rfl
theorem k_inst : Tryz.f7.isInstance Tryz.prog Rows.hypothesisMatchesReferenceRow.origin Rows.hypothesisMatchesReferenceRow.targs := of_decide_eq_true (by kernel_rfl)
theorem k_wrap : Tryz.f7.isWrapper Tryz.prog Rows.hypothesisMatchesReferenceRow.wrapper Rows.hypothesisMatchesReferenceRow.mainSum := by unfold Func.isWrapper; first | (rw [if_pos (by decide +kernel)]; kernel_rfl) | (rw [if_neg (by decide +kernel)]; exact ⟨rfl, rfl⟩)
theorem over : Rows.hypothesisMatchesReferenceRow.holds Tryz.pinned (OpenSpec.ofChange Rows.hypothesisMatchesReferenceSpec) :=
  OpenClaim.holds_of_wide 7 Tryz.f7 rfl rfl rfl rfl rfl rfl rfl ⟨rfl, rfl, rfl, rfl, rfl⟩ rfl rfl rfl rfl rfl k_named Tryz.func7 closed k_inst k_wrap
    (fun os started H enc _ => lifted os started H enc)

theorem row_proved : Rows.HypothesisMatchesReferenceSaid := over

theorem k_text : Rows.hypothesisMatchesReferenceRow.wfByText (OpenSpec.ofChange Rows.hypothesisMatchesReferenceSpec) = true := by kernel_rfl
theorem k_main : Tryz.prog.mainIs = some (true, "c030f6750b38b6128a824b0f74d130113eb2062d647291bbdc992babdba71ab8".toList) := by kernel_rfl
theorem k_looks : true = Tryz.prog.looks [] := by kernel_rfl
theorem k_goes : false = Rows.hypothesisMatchesReferenceRow.goesBy Tryz.prog := by kernel_rfl
theorem k_want : ([22, 5, 27].all fun u => !Tryz.prog.wantsStandIn u) = true := by kernel_rfl
theorem proved : Rows.HypothesisMatchesReferenceCardSaid :=
  Claim7.holds_tied_plain_at .later [] [.data] true (true, "c030f6750b38b6128a824b0f74d130113eb2062d647291bbdc992babdba71ab8") true
    row_proved (fun _ h => by cases h) k_text (fun _ h => by cases h) hypothesisMatchesReference_row_tie rfl ⟨rfl, rfl⟩ k_main rfl
    (fun f fn hf hfn => by
      obtain rfl : f = 7 := Option.some.inj (k_named.symm.trans hf) |>.symm
      obtain rfl : fn = Tryz.f7 := (Option.some.inj (Tryz.func7.symm.trans hfn)).symm
      exact ⟨k_looks, fun j t ht => by
        have hm : t ∈ [22, 5, 27] := by simpa using Array.mem_of_getElem? ht
        exact (show Tryz.prog.wantsStandIn t = false by simpa using List.all_eq_true.1 k_want t hm)⟩)
    k_goes
end Go.Proofs.YtmoaoiakmmbpoaaGreatDoor.hypothesisMatchesReference
