/- The law 'HypothesisMonotone': for every input the call returns true and its arguments read as they did. No condition. -/
import Derived.Test.YtmoaoiakmmbpoaaGreatDoorHEG
import Derived.Test.YtmoaoiakmmbpoaaGreatDoorHEF
import Derived.Test.YtmoaoiakmmbpoaaGreatDoorHEC
import Derived.Test.YtmoaoiakmmbpoaaGreatDoorRows
import Derived.Test.YtmoaoiakmmbpoaaGreatDoorTie
import Derived.Test.YtmoaoiakmmbpoaaGreatDoorCards
namespace Go.Proofs.YtmoaoiakmmbpoaaGreatDoor.hypothesisMonotone
open Go Go.AM Go.RowKit

theorem own : ownKnob Tryz.prog.godebug = none := by kernel_rfl
theorem lo : laidOutB Tryz.prog = true := by kernel_rfl
theorem o5 {H : Type} {enc : TypeId × Value → H} {W : World} : Opens enc Tryz.prog W 5 [.i .u8] :=
  opens_int Tryz.underlying5
theorem o39 {H : Type} {enc : TypeId × Value → H} {W : World} : Opens enc Tryz.prog W 39 [.i .u8, .i .u8, .i .u8] :=
  by
  refine opens_struct Tryz.underlying39 ?_ (by kernel_rfl)
  show OpensF _ _ _ 0 (_ :: _ :: _ :: []) ([.i .u8] ++ ([.i .u8] ++ ([.i .u8] ++ [])))
  exact opensF_cons rfl o5 (by kernel_rfl) (opensF_cons rfl o5 (by kernel_rfl) (opensF_cons rfl o5 (by kernel_rfl) opensF_nil))
theorem od39 {H : Type} {enc : TypeId × Value → H} {W : World} : OpD enc Tryz.prog W 39 (LDs [.i .u8, .i .u8, .i .u8]) :=
  opd_of o39
theorem od22 {H : Type} {enc : TypeId × Value → H} {W : World} : OpD enc Tryz.prog W 22 (SlS (LDs [.i .u8, .i .u8, .i .u8]) 3) :=
  opd_slice (z := 3) Tryz.underlying22 od39 (by kernel_rfl) (fun _ h => ld_len h) (by decide) (by kernel_rfl) (by decide)
set_option maxRecDepth 100000 in
theorem opened {H : Type} {enc : TypeId × Value → H} {W : World} : ArgsData enc Tryz.prog W Tryz.f4 4 := by
  refine args3 (rfl : Tryz.f4.params = #[22, 5, 39]) ?_
  intro v0 e0 p0 v1 e1 p1 v2 e2 p2 base hv0 ht0 hw0 hv1 ht1 hw1 hv2 ht2 hw2
  obtain ⟨ls0, l0, r0⟩ := arg_slD Tryz.underlying22 od22 hv0 ht0 hw0
  obtain ⟨R0, q0⟩ := raws_open l0
  rw [q0] at r0
  obtain ⟨n1, w1, r1⟩ := arg_int Tryz.underlying5 hv1 ht1
  obtain ⟨d2, l2, r2⟩ := arg_agg (by rw [Tryz.underlying39]) o39 hv2 ht2 hw2
  obtain ⟨b2_0, c2_0, rfl, w2_0, l2_0⟩ := l2.i
  obtain ⟨b2_1, c2_1, rfl, w2_1, l2_1⟩ := l2_0.i
  obtain ⟨b2_2, c2_2, rfl, w2_2, l2_2⟩ := l2_1.i
  obtain rfl := l2_2.nil
  refine ⟨[_, _, _], ⟨r0, r1, r2, trivial⟩, ?_⟩
  obtain ⟨x1, rfl⟩ := u8_of w1
  obtain ⟨y0, rfl⟩ := u8_of w2_0
  obtain ⟨y1, rfl⟩ := u8_of w2_1
  obtain ⟨y2, rfl⟩ := u8_of w2_2
  exact l_HypothesisMonotone R0 x1 (y0, y1, y2)

abbrev laidL : List (String × DataW Unit) := [("math/bits.deBruijn32tab", Rows.laid_math_bits_deBruijn32tab)]
set_option maxRecDepth 100000 in
theorem door_met (os : Os) (args : Array Value) : laidMetH Tryz.prog laidL ((World.doorLaid Tryz.prog 400 os).forCall (fun _ _ => 0) ⟨#[], args, []⟩).memory :=
  laidMetH_of_parts3 (fuel := 8) (laidMet_of_run' 8 (by kernel_rfl) (by kernel_rfl)) (by kernel_rfl) (by kernel_rfl)
theorem glob_ok (W : World) (h : laidMetH Tryz.prog laidL W) : GlOK (wh W) := by
  have hh := laid_ints (P := Tryz.prog) (W := W) (n := "math/bits.deBruijn32tab") (g := 0) (k := .u8) (xs := [0, 1, 28, 2, 29, 14, 24, 3, 30, 22, 20, 15, 25, 17, 4, 8, 31, 27, 13, 23, 21, 19, 16, 7, 26, 12, 18, 6, 11, 5, 10, 9]) (ty := 121) (e := 5) h (MakeChecks.laidMetH_plain _ _ _ (by kernel_rfl)) (by kernel_rfl) (by kernel_rfl) Tryz.underlying121 Tryz.underlying5 (by kernel_rfl)
  intro p hp
  simp only [glist, List.mem_cons, List.not_mem_nil, or_false] at hp
  subst hp
  exact hh

set_option maxRecDepth 100000 in
theorem lifted (os : Os) (started : os.Started) (H : Type) (enc : TypeId × Value → H) :
    ReturnsInHanded {} Tryz.checked os 4 .any (fun w args => (Rows.hypothesisMonotoneSpec.pre enc Tryz.prog Tryz.f4 [] false w args ∧ laidMetH Tryz.prog laidL w) ∧ sizedMet enc Tryz.prog Tryz.f4 (OpenSpec.ofChange Rows.hypothesisMonotoneSpec) false w args) (Rows.hypothesisMonotoneSpec.post enc Tryz.prog Tryz.f4 false true false false) :=
  law_row_laid (C := Tryz.checked) own started (by kernel_rfl) Tryz.func4
    (ChangeSpec.witness_shaped (enc := enc) (C := Tryz.checked) (os := os) (X := fun w _ => laidMetH Tryz.prog laidL w) false (World.doorLaid Tryz.prog 400 os) #[.slice none 0 0, .int .u8 0, .agg #[.int .u8 0, .int .u8 0, .int .u8 0]] 24 rfl (World.shaped_of_RefB (by kernel_rfl) (by kernel_rfl)) (by kernel_rfl) (by kernel_rfl) (by kernel_rfl) (door_met os _))
    lo (fun t ht => by
      have e : Tryz.f4.params.toList = [22, 5, 39] := rfl
      rw [e] at ht
      simp only [List.mem_cons, List.not_mem_nil, or_false] at ht
      rcases ht with rfl | rfl | rfl <;> exact ⟨by kernel_rfl, Nat.le_of_ble_eq_true (by kernel_rfl)⟩)
    rfl (fun ds hd => by
      have e : ds.length = 3 := hd
      match ds, e with
      | [x0, x1, x2], _ => exact ⟨rfl, rfl, rfl⟩)
    rfl Tryz.underlying4 (fun W => opened) glob_ok

theorem k_named : Tryz.prog.funcNamed Rows.hypothesisMonotoneRow.func = some 4 := by kernel_rfl
theorem k_wf : Rows.hypothesisMonotoneRow.wf (OpenSpec.ofChange Rows.hypothesisMonotoneSpec) = true := by kernel_rfl
theorem k_tie : namedTie Tryz.prog Rows.hypothesisMonotoneRow.named Rows.hypothesisMonotoneSpec.vars = true := by kernel_rfl
theorem k_rowed : mapsRowed Tryz.prog = true := by kernel_rfl
theorem k_place : (Rows.hypothesisMonotoneRow.inPlace == Tryz.prog.inPlace 4) = true := by kernel_rfl
theorem k_foll : (Rows.hypothesisMonotoneRow.unfollowed == Tryz.prog.unfollowed 4) = true := by kernel_rfl
theorem k_rec : (Rows.hypothesisMonotoneRow.recurses == Tryz.prog.recurses 4) = true := by kernel_rfl
theorem k_vars : (Rows.hypothesisMonotoneRow.named == Tryz.prog.varsNamed 4) = true := by kernel_rfl
theorem closed : joinedFacts Tryz.prog 4 Tryz.f4 Rows.hypothesisMonotoneSpec Rows.hypothesisMonotoneRow = true := by
  unfold joinedFacts
  rw [k_wf, lo, k_rowed, k_tie, k_place, k_foll, k_rec, k_vars]
  kernel_rfl
theorem k_inst : Tryz.f4.isInstance Tryz.prog Rows.hypothesisMonotoneRow.origin Rows.hypothesisMonotoneRow.targs := of_decide_eq_true (by kernel_rfl)
theorem k_wrap : Tryz.f4.isWrapper Tryz.prog Rows.hypothesisMonotoneRow.wrapper Rows.hypothesisMonotoneRow.mainSum := by unfold Func.isWrapper; first | (rw [if_pos (by decide +kernel)]; kernel_rfl) | (rw [if_neg (by decide +kernel)]; exact ⟨rfl, rfl⟩)
theorem over : Rows.hypothesisMonotoneRow.holds Tryz.pinned (OpenSpec.ofChange Rows.hypothesisMonotoneSpec) :=
  OpenClaim.holds_of_wide 4 Tryz.f4 rfl rfl rfl rfl rfl rfl rfl ⟨rfl, rfl, rfl, rfl, rfl⟩ rfl rfl rfl rfl rfl k_named Tryz.func4 closed k_inst k_wrap
    (fun os started H enc _ => lifted os started H enc)

theorem row_proved : Rows.HypothesisMonotoneSaid := over

theorem k_text : Rows.hypothesisMonotoneRow.wfByText (OpenSpec.ofChange Rows.hypothesisMonotoneSpec) = true := by kernel_rfl
theorem k_main : Tryz.prog.mainIs = some (true, "c030f6750b38b6128a824b0f74d130113eb2062d647291bbdc992babdba71ab8".toList) := by kernel_rfl
theorem k_looks : true = Tryz.prog.looks [] := by kernel_rfl
theorem k_goes : false = Rows.hypothesisMonotoneRow.goesBy Tryz.prog := by kernel_rfl
theorem k_want : ([22, 5, 39].all fun u => !Tryz.prog.wantsStandIn u) = true := by kernel_rfl
theorem proved : Rows.HypothesisMonotoneCardSaid :=
  Claim7.holds_tied_plain_at .later [] [.data] true (true, "c030f6750b38b6128a824b0f74d130113eb2062d647291bbdc992babdba71ab8") true
    row_proved (fun _ h => by cases h) k_text (fun _ h => by cases h) hypothesisMonotone_row_tie rfl ⟨rfl, rfl⟩ k_main rfl
    (fun f fn hf hfn => by
      obtain rfl : f = 4 := Option.some.inj (k_named.symm.trans hf) |>.symm
      obtain rfl : fn = Tryz.f4 := (Option.some.inj (Tryz.func4.symm.trans hfn)).symm
      exact ⟨k_looks, fun j t ht => by
        have hm : t ∈ [22, 5, 39] := by simpa using Array.mem_of_getElem? ht
        exact (show Tryz.prog.wantsStandIn t = false by simpa using List.all_eq_true.1 k_want t hm)⟩)
    k_goes
end Go.Proofs.YtmoaoiakmmbpoaaGreatDoor.hypothesisMonotone
