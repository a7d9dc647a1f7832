/- The law 'HypothesisFollows': for every input the call returns true and its arguments read as they did. No condition. -/
import Derived.Test.YtmoaoiakmmbpoaaGreatDoorHFH
import Derived.Test.YtmoaoiakmmbpoaaGreatDoorHFG
import Derived.Test.YtmoaoiakmmbpoaaGreatDoorHFD
import Derived.Test.YtmoaoiakmmbpoaaGreatDoorRows
import Derived.Test.YtmoaoiakmmbpoaaGreatDoorTie
import Derived.Test.YtmoaoiakmmbpoaaGreatDoorCards
namespace Go.Proofs.YtmoaoiakmmbpoaaGreatDoor.hypothesisFollows
open Go Go.AM Go.RowKit

theorem own : ownKnob Tryz.prog.godebug = none := by kernel_rfl
theorem lo : laidOutB Tryz.prog = true := by kernel_rfl
theorem o5 {H : Type} {enc : TypeId × Value → H} {W : World} : Opens enc Tryz.prog W 5 [.i .u8] :=
  opens_int Tryz.underlying5
theorem o39 {H : Type} {enc : TypeId × Value → H} {W : World} : Opens enc Tryz.prog W 39 [.i .u8, .i .u8, .i .u8] :=
  by
  refine opens_struct Tryz.underlying39 ?_ (by kernel_rfl)
  show OpensF _ _ _ 0 (_ :: _ :: _ :: []) ([.i .u8] ++ ([.i .u8] ++ ([.i .u8] ++ [])))
  exact opensF_cons rfl o5 (by kernel_rfl) (opensF_cons rfl o5 (by kernel_rfl) (opensF_cons rfl o5 (by kernel_rfl) opensF_nil))
theorem od39 {H : Type} {enc : TypeId × Value → H} {W : World} : OpD enc Tryz.prog W 39 (LDs [.i .u8, .i .u8, .i .u8]) :=
  opd_of o39
theorem od22 {H : Type} {enc : TypeId × Value → H} {W : World} : OpD enc Tryz.prog W 22 (SlS (LDs [.i .u8, .i .u8, .i .u8]) 3) :=
  opd_slice (z := 3) Tryz.underlying22 od39 (by kernel_rfl) (fun _ h => ld_len h) (by decide) (by kernel_rfl) (by decide)
theorem od9 {H : Type} {enc : TypeId × Value → H} {W : World} : OpD enc Tryz.prog W 9 StrD :=
  opd_string Tryz.underlying9
set_option maxRecDepth 100000 in
theorem opened {H : Type} {enc : TypeId × Value → H} {W : World} : ArgsData enc Tryz.prog W Tryz.f3 3 := by
  refine args3 (rfl : Tryz.f3.params = #[22, 5, 9]) ?_
  intro v0 e0 p0 v1 e1 p1 v2 e2 p2 base hv0 ht0 hw0 hv1 ht1 hw1 hv2 ht2 hw2
  obtain ⟨ls0, l0, r0⟩ := arg_slD Tryz.underlying22 od22 hv0 ht0 hw0
  obtain ⟨R0, q0⟩ := raws_open l0
  rw [q0] at r0
  obtain ⟨n1, w1, r1⟩ := arg_int Tryz.underlying5 hv1 ht1
  obtain ⟨s2, r2⟩ := arg_strD Tryz.underlying9 hv2 ht2 hw2
  refine ⟨[_, _, _], ⟨r0, r1, r2, trivial⟩, ?_⟩
  obtain ⟨x1, rfl⟩ := u8_of w1
  exact l_HypothesisFollows R0 x1 s2

abbrev laidL : List (String × DataW Unit) := [("math/bits.deBruijn32tab", Rows.laid_math_bits_deBruijn32tab)]
set_option maxRecDepth 100000 in
theorem door_met (os : Os) (args : Array Value) : laidMetH Tryz.prog laidL ((World.doorLaid Tryz.prog 400 os).forCall (fun _ _ => 0) ⟨#[], args, []⟩).memory :=
  laidMetH_of_parts3 (fuel := 8) (laidMet_of_run' 8 (by kernel_rfl) (by kernel_rfl)) (by kernel_rfl) (by kernel_rfl)
theorem glob_ok (W : World) (h : laidMetH Tryz.prog laidL W) : GlOK (wh W) := by
  have hh := laid_ints (P := Tryz.prog) (W := W) (n := "math/bits.deBruijn32tab") (g := 0) (k := .u8) (xs := [0, 1, 28, 2, 29, 14, 24, 3, 30, 22, 20, 15, 25, 17, 4, 8, 31, 27, 13, 23, 21, 19, 16, 7, 26, 12, 18, 6, 11, 5, 10, 9]) (ty := 121) (e := 5) h (MakeChecks.laidMetH_plain _ _ _ (by kernel_rfl)) (by kernel_rfl) (by kernel_rfl) Tryz.underlying121 Tryz.underlying5 (by kernel_rfl)
  intro p hp
  simp only [glist, List.mem_cons, List.not_mem_nil, or_false] at hp
  subst hp
  exact hh

set_option maxRecDepth 100000 in
theorem lifted (os : Os) (started : os.Started) (H : Type) (enc : TypeId × Value → H) :
    ReturnsInHanded {} Tryz.checked os 3 .any (fun w args => (Rows.hypothesisFollowsSpec.pre enc Tryz.prog Tryz.f3 [] false w args ∧ laidMetH Tryz.prog laidL w) ∧ sizedMet enc Tryz.prog Tryz.f3 (OpenSpec.ofChange Rows.hypothesisFollowsSpec) false w args) (Rows.hypothesisFollowsSpec.post enc Tryz.prog Tryz.f3 false true false false) :=
  law_row_laid (C := Tryz.checked) own started (by kernel_rfl) Tryz.func3
    (ChangeSpec.witness_shaped (enc := enc) (C := Tryz.checked) (os := os) (X := fun w _ => laidMetH Tryz.prog laidL w) false (World.doorLaid Tryz.prog 400 os) #[.slice none 0 0, .int .u8 0, .string ⟨#[]⟩] 24 rfl (World.shaped_of_RefB (by kernel_rfl) (by kernel_rfl)) (by kernel_rfl) (by kernel_rfl) (by kernel_rfl) (door_met os _))
    lo (fun t ht => by
      have e : Tryz.f3.params.toList = [22, 5, 9] := rfl
      rw [e] at ht
      simp only [List.mem_cons, List.not_mem_nil, or_false] at ht
      rcases ht with rfl | rfl | rfl <;> exact ⟨by kernel_rfl, Nat.le_of_ble_eq_true (by kernel_rfl)⟩)
    rfl (fun ds hd => by
      have e : ds.length = 3 := hd
      match ds, e with
      | [x0, x1, x2], _ => exact ⟨rfl, rfl, rfl⟩)
    rfl Tryz.underlying4 (fun W => opened) glob_ok

theorem k_named : Tryz.prog.funcNamed Rows.hypothesisFollowsRow.func = some 3 := by kernel_rfl
theorem k_wf : Rows.hypothesisFollowsRow.wf (OpenSpec.ofChange Rows.hypothesisFollowsSpec) = true := by kernel_rfl
theorem k_tie : namedTie Tryz.prog Rows.hypothesisFollowsRow.named Rows.hypothesisFollowsSpec.vars = true := by kernel_rfl
theorem k_rowed : mapsRowed Tryz.prog = true := by kernel_rfl
theorem k_place : (Rows.hypothesisFollowsRow.inPlace == Tryz.prog.inPlace 3) = true := by kernel_rfl
theorem k_foll : (Rows.hypothesisFollowsRow.unfollowed == Tryz.prog.unfollowed 3) = true := by kernel_rfl
theorem k_rec : (Rows.hypothesisFollowsRow.recurses == Tryz.prog.recurses 3) = true := by kernel_rfl
theorem k_vars : (Rows.hypothesisFollowsRow.named == Tryz.prog.varsNamed 3) = true := by kernel_rfl
theorem closed : joinedFacts Tryz.prog 3 Tryz.f3 Rows.hypothesisFollowsSpec Rows.hypothesisFollowsRow = true := by
  unfold joinedFacts
  rw [k_wf, lo, k_rowed, k_tie, k_place, k_foll, k_rec, k_vars]
  kernel_rfl
theorem k_inst : Tryz.f3.isInstance Tryz.prog Rows.hypothesisFollowsRow.origin Rows.hypothesisFollowsRow.targs := of_decide_eq_true (by kernel_rfl)
theorem k_wrap : Tryz.f3.isWrapper Tryz.prog Rows.hypothesisFollowsRow.wrapper Rows.hypothesisFollowsRow.mainSum := by unfold Func.isWrapper; first | (rw [if_pos (by decide +kernel)]; kernel_rfl) | (rw [if_neg (by decide +kernel)]; exact ⟨rfl, rfl⟩)
theorem over : Rows.hypothesisFollowsRow.holds Tryz.pinned (OpenSpec.ofChange Rows.hypothesisFollowsSpec) :=
  OpenClaim.holds_of_wide 3 Tryz.f3 rfl rfl rfl rfl rfl rfl rfl ⟨rfl, rfl, rfl, rfl, rfl⟩ rfl rfl rfl rfl rfl k_named Tryz.func3 closed k_inst k_wrap
    (fun os started H enc _ => lifted os started H enc)

theorem row_proved : Rows.HypothesisFollowsSaid := over

theorem k_text : Rows.hypothesisFollowsRow.wfByText (OpenSpec.ofChange Rows.hypothesisFollowsSpec) = true := by kernel_rfl
theorem k_main : Tryz.prog.mainIs = some (true, "c030f6750b38b6128a824b0f74d130113eb2062d647291bbdc992babdba71ab8".toList) := by kernel_rfl
theorem k_looks : true = Tryz.prog.looks [] := by kernel_rfl
theorem k_goes : false = Rows.hypothesisFollowsRow.goesBy Tryz.prog := by kernel_rfl
theorem k_want : ([22, 5, 9].all fun u => !Tryz.prog.wantsStandIn u) = true := by kernel_rfl
theorem proved : Rows.HypothesisFollowsCardSaid :=
  Claim7.holds_tied_plain_at .later [] [.data] true (true, "c030f6750b38b6128a824b0f74d130113eb2062d647291bbdc992babdba71ab8") true
    row_proved (fun _ h => by cases h) k_text (fun _ h => by cases h) hypothesisFollows_row_tie rfl ⟨rfl, rfl⟩ k_main rfl
    (fun f fn hf hfn => by
      obtain rfl : f = 3 := Option.some.inj (k_named.symm.trans hf) |>.symm
      obtain rfl : fn = Tryz.f3 := (Option.some.inj (Tryz.func3.symm.trans hfn)).symm
      exact ⟨k_looks, fun j t ht => by
        have hm : t ∈ [22, 5, 9] := by simpa using Array.mem_of_getElem? ht
        exact (show Tryz.prog.wantsStandIn t = false by simpa using List.all_eq_true.1 k_want t hm)⟩)
    k_goes
end Go.Proofs.YtmoaoiakmmbpoaaGreatDoor.hypothesisFollows
