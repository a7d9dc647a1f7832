/- The law 'TopGroups': for every input the call returns true and its arguments read as they did. No condition. -/
import Derived.Test.YtpnomhdachaifaaGreatDoorHEW
import Derived.Test.YtpnomhdachaifaaGreatDoorHEV
import Derived.Test.YtpnomhdachaifaaGreatDoorRows
import Derived.Test.YtpnomhdachaifaaGreatDoorTie
import Derived.Test.YtpnomhdachaifaaGreatDoorCards
namespace Go.Proofs.YtpnomhdachaifaaGreatDoor.topGroups
open Go Go.AM Go.RowKit
theorem own:ownKnob Tryz.prog.godebug=none:=by kernel_rfl
theorem lo:laidOutB Tryz.prog=true:=by kernel_rfl
theorem o22 {H:Type} {enc:TypeId × Value→H} {W:World}:jM enc Tryz.prog W 22 [.i .u16] :=
  tY Tryz.underlying22
theorem o23 {H:Type} {enc:TypeId × Value→H} {W:World}:jM enc Tryz.prog W 23 [.i .u16,.i .u16,.i .u16,.i .u16] :=
  qo Tryz.underlying23 o22 (by kernel_rfl) (by kernel_rfl)
theorem o5 {H:Type} {enc:TypeId × Value→H} {W:World}:jM enc Tryz.prog W 5 [.i .u8] :=
  tY Tryz.underlying5
theorem o24 {H:Type} {enc:TypeId × Value→H} {W:World}:jM enc Tryz.prog W 24 [.i .u8,.i .u8,.i .u8,.i .u8] :=
  qo Tryz.underlying24 o5 (by kernel_rfl) (by kernel_rfl)
theorem o26 {H:Type} {enc:TypeId × Value→H} {W:World}:jM enc Tryz.prog W 26 [.i .u16,.i .u16,.i .u16,.i .u16,.i .u16,.i .u8,.i .u8,.i .u8,.i .u8] :=
  by
  refine wg Tryz.underlying26 ?_ (by kernel_rfl)
  show o8 _ _ _ 0 (_ :: _ :: _ :: []) ([.i .u16] ++ ([.i .u16,.i .u16,.i .u16,.i .u16] ++ ([.i .u8,.i .u8,.i .u8,.i .u8] ++ [])))
  exact me rfl o22 (by kernel_rfl) (me rfl o23 (by kernel_rfl) (me rfl o24 (by kernel_rfl) A2))
set_option maxRecDepth 100000 in
theorem N0 {H:Type} {enc:TypeId × Value→H} {W:World}:lT enc Tryz.prog W Tryz.f3 3:=by
  refine Sx (rfl:Tryz.f3.params=#[26]) ?_
  intro v0 e0 p0 base hv0 ht0 hw0
  obtain ⟨d0,l0,r0⟩:=LY (by rw [Tryz.underlying26]) o26 hv0 ht0 hw0
  obtain ⟨b0_0,c0_0,rfl,w0_0,l0_0⟩:=l0.i
  obtain ⟨b0_1,c0_1,rfl,w0_1,l0_1⟩:=l0_0.i
  obtain ⟨b0_2,c0_2,rfl,w0_2,l0_2⟩:=l0_1.i
  obtain ⟨b0_3,c0_3,rfl,w0_3,l0_3⟩:=l0_2.i
  obtain ⟨b0_4,c0_4,rfl,w0_4,l0_4⟩:=l0_3.i
  obtain ⟨b0_5,c0_5,rfl,w0_5,l0_5⟩:=l0_4.i
  obtain ⟨b0_6,c0_6,rfl,w0_6,l0_6⟩:=l0_5.i
  obtain ⟨b0_7,c0_7,rfl,w0_7,l0_7⟩:=l0_6.i
  obtain ⟨b0_8,c0_8,rfl,w0_8,l0_8⟩:=l0_7.i
  obtain rfl:=l0_8.nil
  refine ⟨[_],⟨r0,trivial⟩,?_⟩
  have h0:=Int.toNat_of_nonneg (bounds_u16 w0_0).1
  have h1:=Int.toNat_of_nonneg (bounds_u16 w0_1).1
  have h2:=Int.toNat_of_nonneg (bounds_u16 w0_2).1
  have h3:=Int.toNat_of_nonneg (bounds_u16 w0_3).1
  have h4:=Int.toNat_of_nonneg (bounds_u16 w0_4).1
  have h5:=Int.toNat_of_nonneg (bounds_u8 w0_5).1
  have h6:=Int.toNat_of_nonneg (bounds_u8 w0_6).1
  have h7:=Int.toNat_of_nonneg (bounds_u8 w0_7).1
  have h8:=Int.toNat_of_nonneg (bounds_u8 w0_8).1
  have g0:=(bounds_u16 w0_0).2
  have g1:=(bounds_u16 w0_1).2
  have g2:=(bounds_u16 w0_2).2
  have g3:=(bounds_u16 w0_3).2
  have g4:=(bounds_u16 w0_4).2
  have g5:=(bounds_u8 w0_5).2
  have g6:=(bounds_u8 w0_6).2
  have g7:=(bounds_u8 w0_7).2
  have g8:=(bounds_u8 w0_8).2
  rw [← h0,← h1,← h2,← h3,← h4,← h5,← h6,← h7,← h8]
  exact ym _ _ _ _ _ _ _ _ _ (by omega) (by omega) (by omega) (by omega) (by omega) (by omega) (by omega) (by omega) (by omega)
abbrev pO:List (String × DataW Unit):=Rows.topGroupsRow.laid
set_option maxRecDepth 100000 in
theorem GF (os:Os) (args:Array Value):laidMetH Tryz.prog pO ((World.doorLaid Tryz.prog 400 os).forCall (fun _ _=>0) ⟨#[],args,[]⟩).memory :=
  laidMetH_of_parts3 (fuel:=8) (laidMet_of_run' 8 (by kernel_rfl) (by kernel_rfl)) (by kernel_rfl) (by kernel_rfl)
theorem Lf (W:World) (h:laidMetH Tryz.prog pO W):GlOK (wh W):=by
  have h1:=uu (P:=Tryz.prog) (W:=W) (L:=pO) (g:=1) (k:=.i64) (xs:=[0,1,0,-1,0,-1,0,1]) (ty:=267) (e:=3) h (MakeChecks.laidMetH_plain _ _ _ (by kernel_rfl)) (.tail _ (.tail _ (.tail _ (.head _)))) (by kernel_rfl) (by kernel_rfl) Tryz.underlying267 Tryz.underlying3 (by kernel_rfl) (by kernel_rfl)
  have h3:=uu (P:=Tryz.prog) (W:=W) (L:=pO) (g:=3) (k:=.u64) (xs:=[1,10,100,1000,10000,100000,1000000,10000000,100000000,1000000000,10000000000,100000000000,1000000000000,10000000000000,100000000000000,1000000000000000,10000000000000000,100000000000000000,1000000000000000000,10000000000000000000]) (ty:=289) (e:=58) h (MakeChecks.laidMetH_plain _ _ _ (by kernel_rfl)) (.tail _ (.tail _ (.head _))) (by kernel_rfl) (by kernel_rfl) Tryz.underlying289 Tryz.underlying58 (by kernel_rfl) (by kernel_rfl)
  intro p hp
  simp only [vf,List.mem_cons,List.not_mem_nil,or_false] at hp
  rcases hp with rfl | rfl
  · exact h1
  exact h3
set_option maxRecDepth 100000 in
theorem OC (os:Os) (started:os.Started) (H:Type) (enc:TypeId × Value→H) :
    ReturnsInHanded {} Tryz.checked os 3 .any (fun w args=>(Rows.topGroupsSpec.pre enc Tryz.prog Tryz.f3 [] false w args∧laidMetH Tryz.prog pO w)∧sizedMet enc Tryz.prog Tryz.f3 (OpenSpec.ofChange Rows.topGroupsSpec) false w args) (Rows.topGroupsSpec.post enc Tryz.prog Tryz.f3 false true false false) :=
  wK (C:=Tryz.checked) own started (by kernel_rfl) Tryz.func3
    (ChangeSpec.witness_shaped (enc:=enc) (C:=Tryz.checked) (os:=os) (X:=fun w _=>laidMetH Tryz.prog pO w) false (World.doorLaid Tryz.prog 400 os) #[.agg #[.int .u16 0,.int .u16 0,.int .u16 0,.int .u16 0,.int .u16 0,.int .u8 0,.int .u8 0,.int .u8 0,.int .u8 0]] 24 rfl (World.shaped_of_RefB (by kernel_rfl) (by kernel_rfl)) (by kernel_rfl) (by kernel_rfl) (by kernel_rfl) (GF os _))
    lo (fun t ht=>by
      have e:Tryz.f3.params.toList=[26]:=rfl
      rw [e] at ht
      simp only [List.mem_cons,List.not_mem_nil,or_false] at ht
      subst ht 
      exact ⟨by kernel_rfl,bL0 (by kernel_rfl)⟩)
    rfl (fun ds hd=>by
      have e:ds.length=1:=hd
      match ds,e with
      | [x0],_=>exact ⟨rfl,rfl,rfl⟩)
    rfl Tryz.underlying4 (fun W=>N0) Lf
theorem k_named:Tryz.prog.funcNamed Rows.topGroupsRow.func=some 3:=by kernel_rfl
theorem Te:Rows.topGroupsRow.wf (OpenSpec.ofChange Rows.topGroupsSpec)=true:=by kernel_rfl
theorem RL:namedTie Tryz.prog Rows.topGroupsRow.named Rows.topGroupsSpec.vars=true:=by kernel_rfl
theorem KN:mapsRowed Tryz.prog=true:=by kernel_rfl
theorem KO:(Rows.topGroupsRow.inPlace == Tryz.prog.inPlace 3)=true:=by kernel_rfl
theorem OL:(Rows.topGroupsRow.unfollowed == Tryz.prog.unfollowed 3)=true:=by kernel_rfl
theorem RM:(Rows.topGroupsRow.recurses == Tryz.prog.recurses 3)=true:=by kernel_rfl
theorem OG:(Rows.topGroupsRow.named == Tryz.prog.varsNamed 3)=true:=by kernel_rfl
theorem Pz:joinedFacts Tryz.prog 3 Tryz.f3 Rows.topGroupsSpec Rows.topGroupsRow=true:=by
  unfold joinedFacts
  rw [Te,lo,KN,RL,KO,OL,RM,OG]
  kernel_rfl
theorem OJ:Tryz.f3.isInstance Tryz.prog Rows.topGroupsRow.origin Rows.topGroupsRow.targs:=dT0 (by kernel_rfl)
theorem OE:Tryz.f3.isWrapper Tryz.prog Rows.topGroupsRow.wrapper Rows.topGroupsRow.mainSum:=by unfold Func.isWrapper;first | (rw [if_pos (by decide +kernel)];kernel_rfl) | (rw [if_neg (by decide +kernel)];exact ⟨rfl,rfl⟩)
theorem S1:Rows.topGroupsRow.holds Tryz.pinned (OpenSpec.ofChange Rows.topGroupsSpec) :=
  OpenClaim.holds_of_wide 3 Tryz.f3 rfl rfl rfl rfl rfl rfl rfl ⟨rfl,rfl,rfl,rfl,rfl⟩ rfl rfl rfl rfl rfl k_named Tryz.func3 Pz OJ OE
    (fun os started H enc _=>OC os started H enc)
theorem AS:Rows.TopGroupsSaid:=S1
theorem OH:Rows.topGroupsRow.wfByText (OpenSpec.ofChange Rows.topGroupsSpec)=true:=by kernel_rfl
theorem OI:Tryz.prog.mainIs=some (true, "4311f64e64503d44695d1b12870dc2169ef8809b9e6061526736ec17ab7e7cd5".toList):=by kernel_rfl
theorem KP:false=Tryz.prog.looks []:=by kernel_rfl
theorem OK:false=Rows.topGroupsRow.goesBy Tryz.prog:=by kernel_rfl
theorem OF:([26].all fun u=>!Tryz.prog.wantsStandIn u)=true:=by kernel_rfl
theorem proved:Rows.TopGroupsCardSaid :=
  Claim7.holds_tied_plain_at .later [] [.data,.data,.data,.data] true (true, "4311f64e64503d44695d1b12870dc2169ef8809b9e6061526736ec17ab7e7cd5") false
    AS (fun _ h=>by cases h) OH (fun _ h=>by cases h) topGroups_row_tie rfl ⟨rfl,rfl⟩ OI rfl
    (fun f fn hf hfn=>by
      obtain rfl:f=3:=Option.some.inj (k_named.symm.trans hf) |>.symm
      obtain rfl:fn=Tryz.f3:=(Option.some.inj (Tryz.func3.symm.trans hfn)).symm
      exact ⟨KP,fun j t ht=>by
        have hm:t∈[26]:=by simpa using Array.mem_of_getElem? ht
        exact (show Tryz.prog.wantsStandIn t=false by simpa using List.all_eq_true.1 OF t hm)⟩)
    OK
end Go.Proofs.YtpnomhdachaifaaGreatDoor.topGroups
