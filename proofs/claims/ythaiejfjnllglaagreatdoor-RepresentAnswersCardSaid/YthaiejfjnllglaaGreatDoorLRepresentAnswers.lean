/- The law 'RepresentAnswers': for every input the call returns true and its arguments read as they did. No condition. -/
import Derived.Test.YthaiejfjnllglaaGreatDoorABJ
import Derived.Test.YthaiejfjnllglaaGreatDoorABI
import Derived.Test.YthaiejfjnllglaaGreatDoorABE
import Derived.Test.YthaiejfjnllglaaGreatDoorRows
import Derived.Test.YthaiejfjnllglaaGreatDoorTie
import Derived.Test.YthaiejfjnllglaaGreatDoorCards
namespace Go.Proofs.YthaiejfjnllglaaGreatDoor.representAnswers
open Go Go.AM Go.RowKit
theorem own:ownKnob Tryz.prog.godebug=none:=by kernel_rfl
theorem lo:laidOutB Tryz.prog=true:=by kernel_rfl
theorem o22 {H:Type} {enc:TypeId × Value→H} {W:World}:ei enc Tryz.prog W 22 [.i .u16] :=
  mP Tryz.underlying22
theorem o23 {H:Type} {enc:TypeId × Value→H} {W:World}:ei enc Tryz.prog W 23 [.i .u16,.i .u16,.i .u16,.i .u16] :=
  oo Tryz.underlying23 o22 (by kernel_rfl) (by kernel_rfl)
theorem o5 {H:Type} {enc:TypeId × Value→H} {W:World}:ei enc Tryz.prog W 5 [.i .u8] :=
  mP Tryz.underlying5
theorem o24 {H:Type} {enc:TypeId × Value→H} {W:World}:ei enc Tryz.prog W 24 [.i .u8,.i .u8,.i .u8,.i .u8] :=
  oo Tryz.underlying24 o5 (by kernel_rfl) (by kernel_rfl)
theorem o26 {H:Type} {enc:TypeId × Value→H} {W:World}:ei enc Tryz.prog W 26 [.i .u16,.i .u16,.i .u16,.i .u16,.i .u16,.i .u8,.i .u8,.i .u8,.i .u8] :=
  by
  refine kq Tryz.underlying26 ?_ (by kernel_rfl)
  show kB _ _ _ 0 (_ :: _ :: _ :: []) ([.i .u16] ++ ([.i .u16,.i .u16,.i .u16,.i .u16] ++ ([.i .u8,.i .u8,.i .u8,.i .u8] ++ [])))
  exact el rfl o22 (by kernel_rfl) (el rfl o23 (by kernel_rfl) (el rfl o24 (by kernel_rfl) l5))
theorem o3 {H:Type} {enc:TypeId × Value→H} {W:World}:ei enc Tryz.prog W 3 [.i .i64] :=
  mP Tryz.underlying3
theorem od3 {H:Type} {enc:TypeId × Value→H} {W:World}:OpD enc Tryz.prog W 3 (LDs [.i .i64]) :=
  tU o3
theorem o4 {H:Type} {enc:TypeId × Value→H} {W:World}:ei enc Tryz.prog W 4 [.b] :=
  xS Tryz.underlying4
theorem o27 {H:Type} {enc:TypeId × Value→H} {W:World}:ei enc Tryz.prog W 27 [.s] :=
  vz Tryz.underlying27 Tryz.underlying105 (by kernel_rfl) (by kernel_rfl)
theorem o29 {H:Type} {enc:TypeId × Value→H} {W:World}:ei enc Tryz.prog W 29 [.b,.s] :=
  by
  refine kq Tryz.underlying29 ?_ (by kernel_rfl)
  show kB _ _ _ 0 (_ :: _ :: []) ([.b] ++ ([.s] ++ []))
  exact el rfl o4 (by kernel_rfl) (el rfl o27 (by kernel_rfl) l5)
theorem xZ {H:Type} {enc:TypeId × Value→H} {W:World}:OpD enc Tryz.prog W 29 (LDs [.b,.s]) :=
  tU o29
theorem Nq {H:Type} {enc:TypeId × Value→H} {W:World}:OpD enc Tryz.prog W 36 (SlS (LDs [.b,.s]) 32) :=
  rJ (z:=2) Tryz.underlying36 xZ (by kernel_rfl) (fun _ h=>zT h) (by decide) (by kernel_rfl) (by decide)
theorem o46 {H:Type} {enc:TypeId × Value→H} {W:World}:ei enc Tryz.prog W 46 [.b,.s,.b,.s,.b,.s] :=
  by
  refine kq Tryz.underlying46 ?_ (by kernel_rfl)
  show kB _ _ _ 0 (_ :: _ :: _ :: []) ([.b,.s] ++ ([.b,.s] ++ ([.b,.s] ++ [])))
  exact el rfl o29 (by kernel_rfl) (el rfl o29 (by kernel_rfl) (el rfl o29 (by kernel_rfl) l5))
theorem Nn {H:Type} {enc:TypeId × Value→H} {W:World}:OpD enc Tryz.prog W 46 (LDs [.b,.s,.b,.s,.b,.s]) :=
  tU o46
theorem Nr {H:Type} {enc:TypeId × Value→H} {W:World}:OpD enc Tryz.prog W 32 (SlS (LDs [.b,.s,.b,.s,.b,.s]) 96) :=
  rJ (z:=6) Tryz.underlying32 Nn (by kernel_rfl) (fun _ h=>zT h) (by decide) (by kernel_rfl) (by decide)
theorem Np {H:Type} {enc:TypeId × Value→H} {W:World}:OpD enc Tryz.prog W 42 (jv (LDs [.i .i64]) (jv (LDs [.b,.s]) (jv (LDs [.b,.s]) (jv (LDs [.b,.s]) (jv (SlS (LDs [.b,.s]) 32) (jv (SlS (LDs [.b,.s,.b,.s,.b,.s]) 96) (fun ds=>ds=[]))))))) :=
  xT Tryz.underlying42 (gY (z:=1) rfl od3 (by kernel_rfl) (gY (z:=2) rfl xZ (by kernel_rfl) (gY (z:=2) rfl xZ (by kernel_rfl) (gY (z:=2) rfl xZ (by kernel_rfl) (gY (z:=1) rfl Nq (by kernel_rfl) (gY (z:=1) rfl Nr (by kernel_rfl) B7)))))) (by kernel_rfl)
set_option maxRecDepth 100000 in
theorem JK {H:Type} {enc:TypeId × Value→H} {W:World}:kD enc Tryz.prog W Tryz.f5 5:=by
  refine jE (rfl:Tryz.f5.params=#[26,42]) ?_
  intro v0 e0 p0 v1 e1 p1 base hv0 ht0 hw0 hv1 ht1 hw1
  obtain ⟨d0,l0,r0⟩:=HF (by rw [Tryz.underlying26]) o26 hv0 ht0 hw0
  obtain ⟨b0_0,c0_0,rfl,w0_0,l0_0⟩:=l0.i
  obtain ⟨b0_1,c0_1,rfl,w0_1,l0_1⟩:=l0_0.i
  obtain ⟨b0_2,c0_2,rfl,w0_2,l0_2⟩:=l0_1.i
  obtain ⟨b0_3,c0_3,rfl,w0_3,l0_3⟩:=l0_2.i
  obtain ⟨b0_4,c0_4,rfl,w0_4,l0_4⟩:=l0_3.i
  obtain ⟨b0_5,c0_5,rfl,w0_5,l0_5⟩:=l0_4.i
  obtain ⟨b0_6,c0_6,rfl,w0_6,l0_6⟩:=l0_5.i
  obtain ⟨b0_7,c0_7,rfl,w0_7,l0_7⟩:=l0_6.i
  obtain ⟨b0_8,c0_8,rfl,w0_8,l0_8⟩:=l0_7.i
  obtain rfl:=l0_8.nil
  obtain ⟨d1,l1,r1⟩:=C9 (by rw [Tryz.underlying42]) Np hv1 ht1 hw1
  obtain ⟨a1,rfl,k1⟩:=FZ l1
  refine ⟨[_,_],⟨r0,r1,trivial⟩,?_⟩
  have h0:=Int.toNat_of_nonneg (bounds_u16 w0_0).1
  have h1:=Int.toNat_of_nonneg (bounds_u16 w0_1).1
  have h2:=Int.toNat_of_nonneg (bounds_u16 w0_2).1
  have h3:=Int.toNat_of_nonneg (bounds_u16 w0_3).1
  have h4:=Int.toNat_of_nonneg (bounds_u16 w0_4).1
  have h5:=Int.toNat_of_nonneg (bounds_u8 w0_5).1
  have h6:=Int.toNat_of_nonneg (bounds_u8 w0_6).1
  have h7:=Int.toNat_of_nonneg (bounds_u8 w0_7).1
  have h8:=Int.toNat_of_nonneg (bounds_u8 w0_8).1
  have g0:=(bounds_u16 w0_0).2
  have g1:=(bounds_u16 w0_1).2
  have g2:=(bounds_u16 w0_2).2
  have g3:=(bounds_u16 w0_3).2
  have g4:=(bounds_u16 w0_4).2
  have g5:=(bounds_u8 w0_5).2
  have g6:=(bounds_u8 w0_6).2
  have g7:=(bounds_u8 w0_7).2
  have g8:=(bounds_u8 w0_8).2
  rw [← h0,← h1,← h2,← h3,← h4,← h5,← h6,← h7,← h8]
  exact mT _ _ _ _ _ _ _ _ _ (by omega) (by omega) (by omega) (by omega) (by omega) (by omega) (by omega) (by omega) (by omega) a1 k1
abbrev sI:List (String × DataW Unit):=[("algorist/modular.signs", Rows.laid_algorist_modular_signs)]
set_option maxRecDepth 100000 in
theorem CM (os:Os) (args:Array Value):laidMetH Tryz.prog sI ((World.doorLaid Tryz.prog 400 os).forCall (fun _ _=>0) ⟨#[],args,[]⟩).memory :=
  laidMetH_of_parts3 (fuel:=8) (laidMet_of_run' 8 (by kernel_rfl) (by kernel_rfl)) (by kernel_rfl) (by kernel_rfl)
theorem Hd (W:World) (h:laidMetH Tryz.prog sI W):GlOK (wh W):=by
  have hh:=zV (P:=Tryz.prog) (W:=W) (n := "algorist/modular.signs") (g:=0) (k:=.i64) (xs:=[0,1,0,-1,0,-1,0,1]) (ty:=244) (e:=3) h (MakeChecks.laidMetH_plain _ _ _ (by kernel_rfl)) (by kernel_rfl) (by kernel_rfl) Tryz.underlying244 Tryz.underlying3 (by kernel_rfl)
  intro p hp
  simp only [yp,List.mem_cons,List.not_mem_nil,or_false] at hp
  subst hp
  exact hh
set_option maxRecDepth 100000 in
theorem JZ (os:Os) (started:os.Started) (H:Type) (enc:TypeId × Value→H) :
    ReturnsInHanded {} Tryz.checked os 5 .any (fun w args=>(Rows.representAnswersSpec.pre enc Tryz.prog Tryz.f5 [] false w args∧laidMetH Tryz.prog sI w)∧sizedMet enc Tryz.prog Tryz.f5 (OpenSpec.ofChange Rows.representAnswersSpec) false w args) (Rows.representAnswersSpec.post enc Tryz.prog Tryz.f5 false true false false) :=
  um (C:=Tryz.checked) own started (by kernel_rfl) Tryz.func5
    (ChangeSpec.witness_shaped (enc:=enc) (C:=Tryz.checked) (os:=os) (X:=fun w _=>laidMetH Tryz.prog sI w) false (World.doorLaid Tryz.prog 400 os) #[.agg #[.int .u16 0,.int .u16 0,.int .u16 0,.int .u16 0,.int .u16 0,.int .u8 0,.int .u8 0,.int .u8 0,.int .u8 0],.agg #[.int .i64 0,.bool false,.slice none 0 0,.bool false,.slice none 0 0,.bool false,.slice none 0 0,.slice none 0 0,.slice none 0 0]] 24 rfl (World.shaped_of_RefB (by kernel_rfl) (by kernel_rfl)) (by kernel_rfl) (by kernel_rfl) (by kernel_rfl) (CM os _))
    lo (fun t ht=>by
      have e:Tryz.f5.params.toList=[26,42]:=rfl
      rw [e] at ht
      simp only [List.mem_cons,List.not_mem_nil,or_false] at ht
      rcases ht with rfl | rfl <;> exact ⟨by kernel_rfl,bL0 (by kernel_rfl)⟩)
    rfl (fun ds hd=>by
      have e:ds.length=2:=hd
      match ds,e with
      | [x0,x1],_=>exact ⟨rfl,rfl,rfl⟩)
    rfl Tryz.underlying4 (fun W=>JK) Hd
theorem k_named:Tryz.prog.funcNamed Rows.representAnswersRow.func=some 5:=by kernel_rfl
theorem Nz:Rows.representAnswersRow.wf (OpenSpec.ofChange Rows.representAnswersSpec)=true:=by kernel_rfl
theorem Mg:namedTie Tryz.prog Rows.representAnswersRow.named Rows.representAnswersSpec.vars=true:=by kernel_rfl
theorem GX:mapsRowed Tryz.prog=true:=by kernel_rfl
theorem GY:(Rows.representAnswersRow.inPlace == Tryz.prog.inPlace 5)=true:=by kernel_rfl
theorem J9:(Rows.representAnswersRow.unfollowed == Tryz.prog.unfollowed 5)=true:=by kernel_rfl
theorem Mh:(Rows.representAnswersRow.recurses == Tryz.prog.recurses 5)=true:=by kernel_rfl
theorem J4:(Rows.representAnswersRow.named == Tryz.prog.varsNamed 5)=true:=by kernel_rfl
theorem KJ:joinedFacts Tryz.prog 5 Tryz.f5 Rows.representAnswersSpec Rows.representAnswersRow=true:=by
  unfold joinedFacts
  rw [Nz,lo,GX,Mg,GY,J9,Mh,J4]
  kernel_rfl
theorem J7:Tryz.f5.isInstance Tryz.prog Rows.representAnswersRow.origin Rows.representAnswersRow.targs:=dT0 (by kernel_rfl)
theorem J2:Tryz.f5.isWrapper Tryz.prog Rows.representAnswersRow.wrapper Rows.representAnswersRow.mainSum:=by unfold Func.isWrapper;first | (rw [if_pos (by decide +kernel)];kernel_rfl) | (rw [if_neg (by decide +kernel)];exact ⟨rfl,rfl⟩)
theorem Nl:Rows.representAnswersRow.holds Tryz.pinned (OpenSpec.ofChange Rows.representAnswersSpec) :=
  OpenClaim.holds_of_wide 5 Tryz.f5 rfl rfl rfl rfl rfl rfl rfl ⟨rfl,rfl,rfl,rfl,rfl⟩ rfl rfl rfl rfl rfl k_named Tryz.func5 KJ J7 J2
    (fun os started H enc _=>JZ os started H enc)
theorem xw:Rows.RepresentAnswersSaid:=Nl
theorem J5:Rows.representAnswersRow.wfByText (OpenSpec.ofChange Rows.representAnswersSpec)=true:=by kernel_rfl
theorem J6:Tryz.prog.mainIs=some (true, "78b2d204ac323a3d073ae603fa2ef421c80475e6d74e434713a6a1e03f22b4be".toList):=by kernel_rfl
theorem GZ:false=Tryz.prog.looks []:=by kernel_rfl
theorem J8:false=Rows.representAnswersRow.goesBy Tryz.prog:=by kernel_rfl
theorem J3:([26,42].all fun u=>!Tryz.prog.wantsStandIn u)=true:=by kernel_rfl
theorem proved:Rows.RepresentAnswersCardSaid :=
  Claim7.holds_tied_plain_at .later [] [.data] true (true, "78b2d204ac323a3d073ae603fa2ef421c80475e6d74e434713a6a1e03f22b4be") false
    xw (fun _ h=>by cases h) J5 (fun _ h=>by cases h) representAnswers_row_tie rfl ⟨rfl,rfl⟩ J6 rfl
    (fun f fn hf hfn=>by
      obtain rfl:f=5:=Option.some.inj (k_named.symm.trans hf) |>.symm
      obtain rfl:fn=Tryz.f5:=(Option.some.inj (Tryz.func5.symm.trans hfn)).symm
      exact ⟨GZ,fun j t ht=>by
        have hm:t∈[26,42]:=by simpa using Array.mem_of_getElem? ht
        exact (show Tryz.prog.wantsStandIn t=false by simpa using List.all_eq_true.1 J3 t hm)⟩)
    J8
end Go.Proofs.YthaiejfjnllglaaGreatDoor.representAnswers
