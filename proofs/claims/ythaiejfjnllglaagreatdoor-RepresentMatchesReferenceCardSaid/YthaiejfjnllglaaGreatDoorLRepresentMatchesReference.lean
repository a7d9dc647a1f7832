/- The law 'RepresentMatchesReference': for every input the call returns true and its arguments read as they did. No condition. -/
import Derived.Test.YthaiejfjnllglaaGreatDoorFBK
import Derived.Test.YthaiejfjnllglaaGreatDoorFBJ
import Derived.Test.YthaiejfjnllglaaGreatDoorRows
import Derived.Test.YthaiejfjnllglaaGreatDoorTie
import Derived.Test.YthaiejfjnllglaaGreatDoorCards
namespace Go.Proofs.YthaiejfjnllglaaGreatDoor.representMatchesReference
open Go Go.AM Go.RowKit
theorem own:ownKnob Tryz.prog.godebug=none:=by kernel_rfl
theorem lo:laidOutB Tryz.prog=true:=by kernel_rfl
theorem o22 {H:Type} {enc:TypeId × Value→H} {W:World}:ep enc Tryz.prog W 22 [.i .u16] :=
  mU Tryz.underlying22
theorem o23 {H:Type} {enc:TypeId × Value→H} {W:World}:ep enc Tryz.prog W 23 [.i .u16,.i .u16,.i .u16,.i .u16] :=
  jC Tryz.underlying23 o22 (by kernel_rfl) (by kernel_rfl)
theorem o5 {H:Type} {enc:TypeId × Value→H} {W:World}:ep enc Tryz.prog W 5 [.i .u8] :=
  mU Tryz.underlying5
theorem o24 {H:Type} {enc:TypeId × Value→H} {W:World}:ep enc Tryz.prog W 24 [.i .u8,.i .u8,.i .u8,.i .u8] :=
  jC Tryz.underlying24 o5 (by kernel_rfl) (by kernel_rfl)
theorem o26 {H:Type} {enc:TypeId × Value→H} {W:World}:ep enc Tryz.prog W 26 [.i .u16,.i .u16,.i .u16,.i .u16,.i .u16,.i .u8,.i .u8,.i .u8,.i .u8] :=
  by
  refine kx Tryz.underlying26 ?_ (by kernel_rfl)
  show kG _ _ _ 0 (_ :: _ :: _ :: []) ([.i .u16] ++ ([.i .u16,.i .u16,.i .u16,.i .u16] ++ ([.i .u8,.i .u8,.i .u8,.i .u8] ++ [])))
  exact fi rfl o22 (by kernel_rfl) (fi rfl o23 (by kernel_rfl) (fi rfl o24 (by kernel_rfl) l8))
theorem o4 {H:Type} {enc:TypeId × Value→H} {W:World}:ep enc Tryz.prog W 4 [.b] :=
  ym Tryz.underlying4
theorem o27 {H:Type} {enc:TypeId × Value→H} {W:World}:ep enc Tryz.prog W 27 [.s] :=
  vU Tryz.underlying27 Tryz.underlying105 (by kernel_rfl) (by kernel_rfl)
theorem o54 {H:Type} {enc:TypeId × Value→H} {W:World}:ep enc Tryz.prog W 54 [.b,.s] :=
  by
  refine kx Tryz.underlying54 ?_ (by kernel_rfl)
  show kG _ _ _ 0 (_ :: _ :: []) ([.b] ++ ([.s] ++ []))
  exact fi rfl o4 (by kernel_rfl) (fi rfl o27 (by kernel_rfl) l8)
theorem o55 {H:Type} {enc:TypeId × Value→H} {W:World}:ep enc Tryz.prog W 55 [.b,.s,.b,.s,.b,.s] :=
  jC Tryz.underlying55 o54 (by kernel_rfl) (by kernel_rfl)
theorem o56 {H:Type} {enc:TypeId × Value→H} {W:World}:ep enc Tryz.prog W 56 [.b,.s,.b,.s,.b,.s,.b,.s] :=
  jC Tryz.underlying56 o54 (by kernel_rfl) (by kernel_rfl)
theorem o58 {H:Type} {enc:TypeId × Value→H} {W:World}:ep enc Tryz.prog W 58 [.b,.s,.b,.s,.b,.s,.b,.s,.b,.s,.b,.s,.b,.s] :=
  by
  refine kx Tryz.underlying58 ?_ (by kernel_rfl)
  show kG _ _ _ 0 (_ :: _ :: []) ([.b,.s,.b,.s,.b,.s] ++ ([.b,.s,.b,.s,.b,.s,.b,.s] ++ []))
  exact fi rfl o55 (by kernel_rfl) (fi rfl o56 (by kernel_rfl) l8)
theorem o3 {H:Type} {enc:TypeId × Value→H} {W:World}:ep enc Tryz.prog W 3 [.i .i64] :=
  mU Tryz.underlying3
set_option maxRecDepth 100000 in
theorem J4 {H:Type} {enc:TypeId × Value→H} {W:World}:kH enc Tryz.prog W Tryz.f4 4:=by
  refine Nb (rfl:Tryz.f4.params=#[26,58,3]) ?_
  intro v0 e0 p0 v1 e1 p1 v2 e2 p2 base hv0 ht0 hw0 hv1 ht1 hw1 hv2 ht2 hw2
  obtain ⟨d0,l0,r0⟩:=xC (by rw [Tryz.underlying26]) o26 hv0 ht0 hw0
  obtain ⟨b0_0,c0_0,rfl,w0_0,l0_0⟩:=l0.i
  obtain ⟨b0_1,c0_1,rfl,w0_1,l0_1⟩:=l0_0.i
  obtain ⟨b0_2,c0_2,rfl,w0_2,l0_2⟩:=l0_1.i
  obtain ⟨b0_3,c0_3,rfl,w0_3,l0_3⟩:=l0_2.i
  obtain ⟨b0_4,c0_4,rfl,w0_4,l0_4⟩:=l0_3.i
  obtain ⟨b0_5,c0_5,rfl,w0_5,l0_5⟩:=l0_4.i
  obtain ⟨b0_6,c0_6,rfl,w0_6,l0_6⟩:=l0_5.i
  obtain ⟨b0_7,c0_7,rfl,w0_7,l0_7⟩:=l0_6.i
  obtain ⟨b0_8,c0_8,rfl,w0_8,l0_8⟩:=l0_7.i
  obtain rfl:=l0_8.nil
  obtain ⟨d1,l1,r1⟩:=xC (by rw [Tryz.underlying58]) o58 hv1 ht1 hw1
  obtain ⟨b1_0,s1_0,c1_0,rfl,w1_0,l1_0⟩:=l1.bs
  obtain ⟨b1_1,s1_1,c1_1,rfl,w1_1,l1_1⟩:=l1_0.bs
  obtain ⟨b1_2,s1_2,c1_2,rfl,w1_2,l1_2⟩:=l1_1.bs
  obtain ⟨b1_3,s1_3,c1_3,rfl,w1_3,l1_3⟩:=l1_2.bs
  obtain ⟨b1_4,s1_4,c1_4,rfl,w1_4,l1_4⟩:=l1_3.bs
  obtain ⟨b1_5,s1_5,c1_5,rfl,w1_5,l1_5⟩:=l1_4.bs
  obtain ⟨b1_6,s1_6,c1_6,rfl,w1_6,l1_6⟩:=l1_5.bs
  obtain rfl:=l1_6.nil
  obtain ⟨n2,w2,r2⟩:=H5 Tryz.underlying3 hv2 ht2
  refine ⟨[_,_,_],⟨r0,r1,r2,trivial⟩,?_⟩
  have h0:=Int.toNat_of_nonneg (bounds_u16 w0_0).1
  have h1:=Int.toNat_of_nonneg (bounds_u16 w0_1).1
  have h2:=Int.toNat_of_nonneg (bounds_u16 w0_2).1
  have h3:=Int.toNat_of_nonneg (bounds_u16 w0_3).1
  have h4:=Int.toNat_of_nonneg (bounds_u16 w0_4).1
  have h5:=Int.toNat_of_nonneg (bounds_u8 w0_5).1
  have h6:=Int.toNat_of_nonneg (bounds_u8 w0_6).1
  have h7:=Int.toNat_of_nonneg (bounds_u8 w0_7).1
  have h8:=Int.toNat_of_nonneg (bounds_u8 w0_8).1
  have g0:=(bounds_u16 w0_0).2
  have g1:=(bounds_u16 w0_1).2
  have g2:=(bounds_u16 w0_2).2
  have g3:=(bounds_u16 w0_3).2
  have g4:=(bounds_u16 w0_4).2
  have g5:=(bounds_u8 w0_5).2
  have g6:=(bounds_u8 w0_6).2
  have g7:=(bounds_u8 w0_7).2
  have g8:=(bounds_u8 w0_8).2
  rw [← h0,← h1,← h2,← h3,← h4,← h5,← h6,← h7,← h8]
  exact jL _ _ _ _ _ _ _ _ _ (by omega) (by omega) (by omega) (by omega) (by omega) (by omega) (by omega) (by omega) (by omega) _ _ _ _ _ _ _ _ _ _ _ _ _ _ w1_0 w1_1 w1_2 w1_3 w1_4 w1_5 w1_6 _
abbrev sX:List (String × DataW Unit):=[("algorist/modular.signs", Rows.laid_algorist_modular_signs)]
set_option maxRecDepth 100000 in
theorem Df (os:Os) (args:Array Value):laidMetH Tryz.prog sX ((World.doorLaid Tryz.prog 400 os).forCall (fun _ _=>0) ⟨#[],args,[]⟩).memory :=
  laidMetH_of_parts3 (fuel:=8) (laidMet_of_run' 8 (by kernel_rfl) (by kernel_rfl)) (by kernel_rfl) (by kernel_rfl)
theorem HF (W:World) (h:laidMetH Tryz.prog sX W):GlOK (wh W):=by
  have hh:=Ai (P:=Tryz.prog) (W:=W) (n := "algorist/modular.signs") (g:=0) (k:=.i64) (xs:=[0,1,0,-1,0,-1,0,1]) (ty:=244) (e:=3) h (MakeChecks.laidMetH_plain _ _ _ (by kernel_rfl)) (by kernel_rfl) (by kernel_rfl) Tryz.underlying244 Tryz.underlying3 (by kernel_rfl)
  intro p hp
  simp only [yM,List.mem_cons,List.not_mem_nil,or_false] at hp
  subst hp
  exact hh
set_option maxRecDepth 100000 in
theorem Kq (os:Os) (started:os.Started) (H:Type) (enc:TypeId × Value→H) :
    ReturnsInHanded {} Tryz.checked os 4 .any (fun w args=>(Rows.representMatchesReferenceSpec.pre enc Tryz.prog Tryz.f4 [] false w args∧laidMetH Tryz.prog sX w)∧sizedMet enc Tryz.prog Tryz.f4 (OpenSpec.ofChange Rows.representMatchesReferenceSpec) false w args) (Rows.representMatchesReferenceSpec.post enc Tryz.prog Tryz.f4 false true false false) :=
  uB (C:=Tryz.checked) own started (by kernel_rfl) Tryz.func4
    (ChangeSpec.witness_shaped (enc:=enc) (C:=Tryz.checked) (os:=os) (X:=fun w _=>laidMetH Tryz.prog sX w) false (World.doorLaid Tryz.prog 400 os) #[.agg #[.int .u16 0,.int .u16 0,.int .u16 0,.int .u16 0,.int .u16 0,.int .u8 0,.int .u8 0,.int .u8 0,.int .u8 0],.agg #[.bool false,.slice none 0 0,.bool false,.slice none 0 0,.bool false,.slice none 0 0,.bool false,.slice none 0 0,.bool false,.slice none 0 0,.bool false,.slice none 0 0,.bool false,.slice none 0 0],.int .i64 0] 24 rfl (World.shaped_of_RefB (by kernel_rfl) (by kernel_rfl)) (by kernel_rfl) (by kernel_rfl) (by kernel_rfl) (Df os _))
    lo (fun t ht=>by
      have e:Tryz.f4.params.toList=[26,58,3]:=rfl
      rw [e] at ht
      simp only [List.mem_cons,List.not_mem_nil,or_false] at ht
      rcases ht with rfl | rfl | rfl <;> exact ⟨by kernel_rfl,bL0 (by kernel_rfl)⟩)
    rfl (fun ds hd=>by
      have e:ds.length=3:=hd
      match ds,e with
      | [x0,x1,x2],_=>exact ⟨rfl,rfl,rfl⟩)
    rfl Tryz.underlying4 (fun W=>J4) HF
theorem k_named:Tryz.prog.funcNamed Rows.representMatchesReferenceRow.func=some 4:=by kernel_rfl
theorem NX:Rows.representMatchesReferenceRow.wf (OpenSpec.ofChange Rows.representMatchesReferenceSpec)=true:=by kernel_rfl
theorem MG:namedTie Tryz.prog Rows.representMatchesReferenceRow.named Rows.representMatchesReferenceSpec.vars=true:=by kernel_rfl
theorem Hs:mapsRowed Tryz.prog=true:=by kernel_rfl
theorem Ht:(Rows.representMatchesReferenceRow.inPlace == Tryz.prog.inPlace 4)=true:=by kernel_rfl
theorem Kz:(Rows.representMatchesReferenceRow.unfollowed == Tryz.prog.unfollowed 4)=true:=by kernel_rfl
theorem MH:(Rows.representMatchesReferenceRow.recurses == Tryz.prog.recurses 4)=true:=by kernel_rfl
theorem Ku:(Rows.representMatchesReferenceRow.named == Tryz.prog.varsNamed 4)=true:=by kernel_rfl
theorem K9:joinedFacts Tryz.prog 4 Tryz.f4 Rows.representMatchesReferenceSpec Rows.representMatchesReferenceRow=true:=by
  unfold joinedFacts
  rw [NX,lo,Hs,MG,Ht,Kz,MH,Ku]
  kernel_rfl
theorem Kx:Tryz.f4.isInstance Tryz.prog Rows.representMatchesReferenceRow.origin Rows.representMatchesReferenceRow.targs:=dT0 (by kernel_rfl)
theorem Ks:Tryz.f4.isWrapper Tryz.prog Rows.representMatchesReferenceRow.wrapper Rows.representMatchesReferenceRow.mainSum:=by unfold Func.isWrapper;first | (rw [if_pos (by decide +kernel)];kernel_rfl) | (rw [if_neg (by decide +kernel)];exact ⟨rfl,rfl⟩)
theorem NP:Rows.representMatchesReferenceRow.holds Tryz.pinned (OpenSpec.ofChange Rows.representMatchesReferenceSpec) :=
  OpenClaim.holds_of_wide 4 Tryz.f4 rfl rfl rfl rfl rfl rfl rfl ⟨rfl,rfl,rfl,rfl,rfl⟩ rfl rfl rfl rfl rfl k_named Tryz.func4 K9 Kx Ks
    (fun os started H enc _=>Kq os started H enc)
theorem xU:Rows.RepresentMatchesReferenceSaid:=NP
theorem Kv:Rows.representMatchesReferenceRow.wfByText (OpenSpec.ofChange Rows.representMatchesReferenceSpec)=true:=by kernel_rfl
theorem Kw:Tryz.prog.mainIs=some (true, "78b2d204ac323a3d073ae603fa2ef421c80475e6d74e434713a6a1e03f22b4be".toList):=by kernel_rfl
theorem Hu:false=Tryz.prog.looks []:=by kernel_rfl
theorem Ky:false=Rows.representMatchesReferenceRow.goesBy Tryz.prog:=by kernel_rfl
theorem Kt:([26,58,3].all fun u=>!Tryz.prog.wantsStandIn u)=true:=by kernel_rfl
theorem proved:Rows.RepresentMatchesReferenceCardSaid :=
  Claim7.holds_tied_plain_at .later [] [.data] true (true, "78b2d204ac323a3d073ae603fa2ef421c80475e6d74e434713a6a1e03f22b4be") false
    xU (fun _ h=>by cases h) Kv (fun _ h=>by cases h) representMatchesReference_row_tie rfl ⟨rfl,rfl⟩ Kw rfl
    (fun f fn hf hfn=>by
      obtain rfl:f=4:=Option.some.inj (k_named.symm.trans hf) |>.symm
      obtain rfl:fn=Tryz.f4:=(Option.some.inj (Tryz.func4.symm.trans hfn)).symm
      exact ⟨Hu,fun j t ht=>by
        have hm:t∈[26,58,3]:=by simpa using Array.mem_of_getElem? ht
        exact (show Tryz.prog.wantsStandIn t=false by simpa using List.all_eq_true.1 Kt t hm)⟩)
    Ky
end Go.Proofs.YthaiejfjnllglaaGreatDoor.representMatchesReference
