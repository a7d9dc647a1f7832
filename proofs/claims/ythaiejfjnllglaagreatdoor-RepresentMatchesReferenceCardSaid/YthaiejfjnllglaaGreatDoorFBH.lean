import Derived.Test.YthaiejfjnllglaaGreatDoorFBF
import Derived.Test.YthaiejfjnllglaaGreatDoorFBC
import Derived.Test.YthaiejfjnllglaaGreatDoorFBG
import Derived.Test.YthaiejfjnllglaaGreatDoorFBE
import Derived.Test.YthaiejfjnllglaaGreatDoorFBD
import Derived.Test.YthaiejfjnllglaaGreatDoorFBB
import Derived.Shelf.SlLaysF0
set_option maxRecDepth 100000
set_option maxHeartbeats 16000000
namespace Go.Proofs.YthaiejfjnllglaaGreatDoor
section
open Go Go.AM
theorem Mz (a m:Int) (ha:L 40 a) (hm:L 40 m) (h0:0 < m) :
  aH Tryz.prog 180 [I a,I m] (.t [PI (a % m),PE 0]):=by
 have ia:LB a 40:=⟨ha⟩
 have im:LB m 40:=⟨hm⟩
 refine aM Tryz.func180 rfl rfl rfl rfl ?_
 refine ae hP<|aq ai (aL rfl rfl)<|aq ai (aL rfl rfl)<|aq ai (aB hT rfl rfl)<|aj rfl<|ag<|ao<|ae hP<|av hT rfl<|ab (ah (dy _)) ?_
 refine ab (bh rfl rfl)<|ag<|aQ rfl (decide_eq_false (by have:=sgn_gt_iff.2 h0;omega)) ?_
 refine au<|ae hP<|av hT rfl<|av hT rfl<|ab (ah (pU _ _ lz lz (by omega))) ?_
 refine aG hT rfl<|aj rfl<|ag<|am ?_
 refine cp rfl (.inr rfl) (aP hT rfl rfl rfl rfl (cs:=[_,_]) rfl rfl) (bK rfl) ?_ bt
 exact .refl _
theorem yU (a b c:Int) (ha:L 20 a) (hb:L 20 b) (hc:L 20 c) :
  aH Tryz.prog 182 [FA a b c] (.p (PE (rfE ⟨a,b,c⟩))):=by
 have ia:LB a 20:=⟨ha⟩
 have ib:LB b 20:=⟨hb⟩
 have ic:LB c 20:=⟨hc⟩
 refine aM Tryz.func182 rfl rfl rfl rfl ?_
 refine ae hP<|aq ai (aL rfl rfl)<|aj rfl<|ag<|ae hP<|br hT rfl rfl rfl rfl rfl rfl<|ab (ah (nP _ _ _ lz lz lz)) ?_
 refine aj rfl<|ag<|ao<|aC<|ae hP<|ak rfl<|ab (bq rfl rfl)<|aj rfl<|ag ?_
 refine ay rfl (fun hb1=>?_) (fun hb1=>?_)
 ·have hb1_:=b8 hb1
  refine ae hP<|ak rfl<|aj rfl<|ag<|am<|E1 rfl rfl ?_
  exact aF (congrArg (fun x=>AV.p (PE x)) (Eo (f:=⟨a,b,c⟩) (Ld hb1)))
 have hb1_:=bU hb1
 refine ae hP<|br hT rfl rfl rfl rfl rfl rfl<|ab (ah (gh _ _ _ lz lz lz)) ?_
 refine ab (ah (dy _)) ?_
 refine ab (bJ rfl rfl)<|aj rfl<|ag ?_
 refine ay rfl (fun hb2=>?_) (fun hb2=>?_)
 ·have hb2_:=dT0 hb2
  refine ae hP<|aj rfl<|ag<|am<|E1 rfl rfl ?_
  exact aF (congrArg (fun x=>AV.p (PE x)) (En (f:=⟨a,b,c⟩) (og hb1) hb2_))
 have hb2_:=dF0 hb2
 refine ae hP<|br hT rfl rfl rfl rfl rfl rfl<|ab (ah (kW _ _ _ lz lz lz)) ?_
 refine ab (bw rfl)<|aj rfl<|ag ?_
 refine ay rfl (fun hb3=>?_) (fun hb3=>?_)
 ·have hb3_:=(bY hb3)
  refine ae hP<|aj rfl<|ag<|am<|E1 rfl rfl ?_
  exact aF (congrArg (fun x=>AV.p (PE x)) (Em (f:=⟨a,b,c⟩) (og hb1) hb2_ (bY hb3)))
 have hb3_:=(bW hb3)
 refine au<|ae hP<|aj rfl<|ag<|am<|E1 rfl rfl ?_
 exact aF (congrArg (fun x=>AV.p (PE x)) (Ek (f:=⟨a,b,c⟩) (og hb1) hb2_ (bW hb3)))
theorem yV (a b c:Int) (ha:L 26 a) (hb:L 26 b) (hc:L 26 c) :
  aH Tryz.prog 216 [FA a b c] (FA (rdF a b c).a (rdF a b c).b (rdF a b c).c):=by
 have ia:LB a 26:=⟨ha⟩
 have ib:LB b 26:=⟨hb⟩
 have ic:LB c 26:=⟨hc⟩
 refine aM Tryz.func216 rfl rfl rfl rfl ?_
 refine ae hP<|aq ai (aL rfl rfl)<|aq ai (aB hT rfl rfl)<|ag<|ae hP<|br hT rfl rfl rfl rfl rfl rfl<|ab (ah (jk _ _ _ lz lz lz)) ?_
 refine ab (az (rfl:_=AV.t _))<|ab (aD rfl (v:=.a _) rfl)<|ab (aD rfl (v:=.a _) rfl)<|ab (aD rfl (v:=.c _) rfl)<|aq ai (aB hT rfl rfl)<|aq ai (aB hT rfl rfl)<|aG hT rfl<|aG hT rfl<|aj rfl<|ag<|ae hP<|br hT rfl rfl rfl rfl rfl rfl<|aG hT rfl<|ag<|am ?_
 refine bI rfl (.inr rfl) (aP hT rfl rfl rfl rfl (cs:=[_,_,_,_,_,_]) rfl rfl) ?_ bt
 exact .refl _
theorem vh (a b c:Int) (ha:L 20 a) (hb:L 20 b) (hc:L 20 c) :
  aH Tryz.prog 215 [FA a b c] (FA (prF (dsc a b c)).a (prF (dsc a b c)).b (prF (dsc a b c)).c):=by
 have ia:LB a 20:=⟨ha⟩
 have ib:LB b 20:=⟨hb⟩
 have ic:LB c 20:=⟨hc⟩
 refine aM Tryz.func215 rfl rfl rfl rfl ?_
 refine ae hP<|aq ai (aL rfl rfl)<|aq ai (aB hT rfl rfl)<|ag<|ae hP<|br hT rfl rfl rfl rfl rfl rfl<|ab (ah (gh _ _ _ lz lz lz)) ?_
 refine ab (ah (kV _ lz)) ?_
 refine ab (az (rfl:_=AV.t _))<|ab (aD rfl (v:=.a _) rfl)<|ab (aD rfl (v:=.c _) rfl)<|aq ai (aB hT rfl rfl)<|aG hT rfl<|aj rfl<|ag<|ae hP<|br hT rfl rfl rfl rfl rfl rfl<|aG hT rfl<|ag<|am ?_
 refine bI rfl (.inr rfl) (aP hT rfl rfl rfl rfl (cs:=[_,_,_,_,_,_]) rfl rfl) ?_ bt
 exact .refl _
end
section
open Go Go.AM
theorem CV (x:Int) (hx:9223372036854775808≤x.natAbs∧x.natAbs < 18446744073709551616):aH Tryz.prog 125 [I x] (.t [.c (.v (.int .i64 (lwV x))),PB (lwO x)]):=uH x hx.2
end
section
open Go Go.AM
theorem fh (z:Int) (jz:bu z) :
  aH Tryz.prog 70 [Z z] (I z):=by
 refine aM Tryz.func70 rfl rfl rfl rfl ?_
 refine ae hP<|aq ai (aB hT rfl rfl)<|ag<|ae hP<|ak rfl<|ab (ah (eS z jz)) ?_
 refine aG hT rfl<|ag<|am<|E2 hT rfl rfl rfl rfl rfl rfl rfl ?_
 exact .refl _
theorem l7 (D:Int) (m:Nat) (hD:-4194304≤D∧D < 0) (hm:1≤m∧m≤65536) :
  Iter2 Tryz.prog 179 [[.v (.int .i64 (m:Int))],[zn D,zm D]] ((rbL D m).map fun b=>[PI b,PF (frq D m b)]):=by
 have hDL:L 40 D:=(show L 6 D by unfold L;omega).mono (by decide)
 have iD:LB D 6:=⟨by unfold L;omega⟩
 have i4:LB (4*(m:Int)) 6:=⟨by unfold L;omega⟩
 have im:LB (m:Int) 6:=⟨by unfold L;omega⟩
 have r1:=Int.emod_nonneg D (show 4*(m:Int)≠0 by omega)
 have r2:=Int.emod_lt_of_pos D (show (0:Int) < 4*(m:Int) by omega)
 have cMd:=Mz D (4*(m:Int)) hDL ((show L 6 (4*(m:Int)) by unfold L;omega).mono (by decide)) (by omega)
 have cLw:=kh (D % (4*(m:Int))) (by omega) (by omega)
 have c4:=eS (4*(m:Int)) (by unfold bu;omega)
 have cm:=fh (m:Int) (by unfold bu;omega)
 generalize hxs:((rbL D m).map fun b=>[PI b,PF (frq D m b)])=xs
 refine oV Tryz.func179 (by kernel_rfl) rfl rfl (bL0 rfl) rfl ?_
 intro l n0 J hK
 refine zf hK.toKeepsB ?_
 refine bO ?_
 refine bC hP ?_
 refine cO hT rfl rfl rfl ?_
 refine ab (bQ rfl rfl (by first | exact iW0 _ (by omega) | rfl)) ?_
 refine aj rfl<|ag<|bO ?_
 refine bC hP ?_
 refine ab (bf hT rfl rfl rfl (cs:=[_,_]) rfl rfl)<|ak rfl<|ab (ah c4) ?_
 refine ab (ah cMd) ?_
 refine ab (az (rfl:_=AV.t _))<|ab (aD rfl (v:=.a _) rfl)<|ab (aD rfl (v:=.c _) rfl)<|aq ai (aB hT rfl rfl)<|aG hT rfl<|aj rfl<|ag<|bO ?_
 refine bC hP ?_
 refine av hT rfl<|ab (ah cLw) ?_
 refine ab (az (rfl:_=AV.t _))<|ab (aD rfl (v:=.c _) rfl)<|ab (aD rfl (v:=.c _) rfl)<|aj rfl<|aj rfl<|ag<|bO ?_
 refine bC hP ?_
 refine cO hT rfl rfl rfl ?_
 refine ab (bQ rfl rfl (by first | exact iW0 _ (by omega) | rfl)) ?_
 refine ak rfl<|ag<|eT ?_
 refine lM (ι:=Nat) (fun i=>stL [(0,.p (.c (.v (.func (.yield l) #[] #[])))),(1,.ip [.v (.int .i64 (m:Int))]),(2,.ip [zn D,zm D]),(4,Z (4*(m:Int))),(7,Z (D % (4*(m:Int)))),(29,Z (2*(m:Int))),(30,Z (i:Int))] []) (fun i=>(rbT D m i).length) (fun i=>(i:Int)≤2*(m:Int)) (fun i=>(2*m) - i) 0 (by omega) rfl (aE ⟨.refl _,.refl _,.refl _,.refl _,.refl _,.refl _,.refl _,trivial⟩ trivial) ?_
 intro i hi
 refine bO ?_
 refine bC hP ?_
 refine ab (bh rfl rfl)<|ag<|bO ?_
 refine eL rfl (fun hb1=>?_) (fun hb1=>?_)
 ·have hb1_:=dT0 hb1
  have hsq:=kP (x:=(i:Int)) (m:=131073) (by omega)
  have isq:LB ((i:Int)*(i:Int)) 6:=⟨by unfold L;omega⟩
  have ii:LB (i:Int) 6:=⟨by unfold L;omega⟩
  refine dY ?_
  refine bO ?_
  refine eT ?_
  refine bO ?_
  refine bC hP ?_
  refine ak rfl<|aj rfl<|ag<|bO ?_
  refine bO ?_
  refine bC hP ?_
  refine ak rfl<|ak rfl<|ab (bQ rfl rfl (by first | exact iW0 _ (by omega) | rfl)) ?_
  refine ak rfl<|ab (bM rfl rfl (by omega) (c:=(i:Int)*(i:Int) % (4*(m:Int))) (Int.tmod_eq_emod_of_nonneg (by omega))) ?_
  refine ak rfl<|ab (bq rfl rfl)<|ag ?_
  refine eL rfl (fun hb2=>?_) (fun hb2=>?_)
  ·have hb2_:=b8 hb2
   refine jA ?_
   refine bC hP ?_
   refine bA rfl rfl ?_
   refine ak rfl<|ag ?_
   refine ⟨i+1,by omega,by omega,zI (xe hb2_),aE ⟨.refl _,.refl _,.refl _,.refl _,.refl _,.refl _,aK (by omega),trivial⟩ trivial⟩
  have hb2_:=bU hb2
  refine dY ?_
  refine bO ?_
  refine bC hP ?_
  refine ak rfl<|ak rfl<|ab (bQ rfl rfl (by first | exact iW0 _ (by omega) | rfl)) ?_
  refine ab (ah (eS ((i:Int)*(i:Int)) (by unfold bu;omega))) ?_
  refine ab (bf hT rfl rfl rfl (cs:=[_,_]) rfl rfl)<|ab (ah (ke ((i:Int)*(i:Int)) D lz lz)) ?_
  refine ak rfl<|ab (ah c4) ?_
  refine ab (ah (dZ ((i:Int)*(i:Int) - D) (4*(m:Int)) lz lz (by omega))) ?_
  refine ab (az (rfl:_=AV.t _))<|ab (aD rfl (v:=.a _) rfl)<|ab (aD rfl (v:=.a _) rfl)<|ab (aD rfl (v:=.c _) rfl)<|aq ai (aB hT rfl rfl)<|aq ai (aB hT rfl rfl)<|aG hT rfl<|aG hT rfl<|aj rfl<|ag<|bO ?_
  refine bC hP ?_
  refine cO hT rfl rfl rfl ?_
  refine ab (ah cm) ?_
  refine ak rfl<|ab (ah (eS (i:Int) (by unfold bu;omega))) ?_
  refine av hT rfl<|ab (aR hT rfl rfl rfl (es:=[_,_,_,_,_,_]) rfl)<|aq ai (aB hT rfl rfl)<|aG hT rfl<|ag<|bO ?_
  refine mz ?_
  refine RY.val ai (aJ hT rfl rfl rfl rfl (cs:=[_,_,_,_,_,_]) rfl rfl) ?_
  refine RY.val ai (ah (kW (m:Int) (i:Int) (((i:Int)*(i:Int) - D) / (4*(m:Int))) lz lz lz)) ?_
  refine RY.val ai (az (rfl:_=AV.p (.c _))) ?_
  refine RY.split (t:=61) rfl (fun hg3=>?_) (fun hg3=>?_)
  ·have hyes:=xc hb2_ hg3
   have hgt:xs[(rbT D m i).length]?=some [PI (i:Int),PF (frq D m (i:Int))]:=by rw [← hxs,List.getElem?_map,Gs hyes (by omega)];rfl
   refine RY.val (a7 rfl rfl hg3) (az (rfl:_=AV.p (.c _))) ?_
   refine RY.val (a7 rfl rfl hg3) (aT hT rfl rfl rfl rfl rfl rfl) ?_
   refine RY.val (a7 rfl rfl hg3) (aJ hT rfl rfl rfl rfl (cs:=[_,_]) rfl rfl) ?_
   refine RY.val (a7 rfl rfl hg3) (aJ hT rfl rfl rfl rfl (cs:=[_,_,_,_,_,_]) rfl rfl) ?_
   refine RY.yield hK (a7 rfl rfl hg3) rfl rfl hgt ?_
   intro b
   refine RY.val (a7 rfl rfl hg3) (bw rfl) ?_
   refine RY.val ai (aO rfl hg3 (rfl:_=AV.p (.c _))) ?_
   refine RY.done ?_
   refine eL rfl (fun hb4=>?_) (fun hb4=>?_)
   ·have hb4_:=(bY hb4)
    refine nw ?_
    refine ⟨.inr rfl,?_⟩
    exact yv (bY hb4)
   have hb4_:=(bW hb4)
   refine dY ?_
   refine bC hP ?_
   refine bA rfl rfl ?_
   refine ak rfl<|ag ?_
   refine ⟨i+1,by omega,by omega,(Gp hyes).trans (yu (bW hb4)).symm,aE ⟨.refl _,.refl _,.refl _,.refl _,.refl _,.refl _,aK (by omega),trivial⟩ trivial⟩
  iterate 6 refine RY.skip (gq rfl rfl hg3) ?_
  refine RY.val ai (aN rfl hg3 (rfl:_=AV.p (.c _))) ?_
  refine RY.done ?_
  refine jW rfl rfl ?_
  refine dY ?_
  refine bC hP ?_
  refine bA rfl rfl ?_
  refine ak rfl<|ag ?_
  refine ⟨i+1,by omega,by omega,zI (xd hg3),aE ⟨.refl _,.refl _,.refl _,.refl _,.refl _,.refl _,aK (by omega),trivial⟩ trivial⟩
 have hb1_:=dF0 hb1
 refine jA ?_
 refine ⟨.inl rfl,?_⟩
 have e:i=2*m:=by omega
 subst e
 rw [← hxs,List.length_map,← qy,show (2*(m:Int)).toNat=2*m by omega]
 exact Nat.le_refl _
theorem nT (D:Int) (m:Nat) :
  aH Tryz.prog 127 [I D,Z (m:Int)] (.fn 179 [[.v (.int .i64 (m:Int))],[zn D,zm D]]):=by
 refine mr Tryz.func127 (by kernel_rfl) rfl rfl (bL0 rfl) rfl ?_
 refine ae hP<|aq ai (aL rfl rfl)<|aq ai (aL rfl rfl)<|aj rfl<|ag<|c9 (t:=2) rfl rfl ?_
 refine c9 (t:=3) rfl rfl ?_
 refine ae hP<|ab (kz rfl rfl)<|ab (a8 (rfl:_=AV.fn _ _))<|ag<|am ?_
 exact ⟨.inr rfl,4,rfl,rfl⟩
theorem rT (D:Int) (m:Nat) (hD:-4194304≤D∧D < 0) (hm:1≤m∧m≤65536) :
  aH Tryz.prog 69 [I D,Z (m:Int)] (B (decide (rbL D (m:Int)=[]))):=by
 refine aM Tryz.func69 rfl rfl rfl rfl ?_
 refine ae hP<|aq ai (aL rfl rfl)<|aq ai (aB hT rfl rfl)<|ag<|ao<|ae hP<|av hT rfl<|ak rfl<|ab (ah (nT D m)) ?_
 refine ag<|aC<|dz (t:=stL [(4,.loc 4 0),(7,.fn 179 [[.v (.int .i64 (m:Int))],[zn D,zm D]])] [(4,⟨false,1,4,[.v (.bool false)]⟩)]) (aE ⟨.refl _,.refl _,trivial⟩ ⟨rfl,trivial⟩) ?_
 refine fF 5 (fun _=>da [(4,⟨false,1,4,[.v (.bool false)]⟩)]) (fun k=>k=0) rfl (l7 D m hD hm) pF rfl rfl rfl rfl (fun k x hx hk=>?_) (fun hk=>?_)
 ·have hne:=Me hx
  obtain ⟨b,hb,rfl⟩:=pG hx
  refine au<|aC<|ae hP<|aG hT rfl<|ag<|am ?_
  refine ⟨_,GW.forget fun _=>.inl rfl,?_⟩
  refine bI rfl (.inr rfl) (cy hT rfl rfl rfl rfl rfl) ?_ bt
  exact bd hne.symm
 refine ae hP<|aG hT rfl<|ag<|am ?_
 refine bI rfl (.inr rfl) (cy hT rfl rfl rfl rfl rfl) ?_ bt
 exact bd (Jy hk).symm
theorem oR (m:Int) :
  aH Tryz.prog 55 [Z m] (Z (rgE m)):=by
 refine aM Tryz.func55 rfl rfl rfl rfl ?_
 refine ae hP<|aj rfl<|ag<|ao<|aC<|ae hP<|ak rfl<|ab (bh rfl rfl)<|aj rfl<|ag ?_
 refine ay rfl (fun hb1=>?_) (fun hb1=>?_)
 ·have hb1_:=dT0 hb1
  refine ae hP<|aj rfl<|ag<|am<|E1 rfl rfl ?_
  exact aK (sR hb1_).symm
 have hb1_:=dF0 hb1
 refine ae hP<|ak rfl<|ab (bJ rfl rfl)<|aj rfl<|ag ?_
 refine ay rfl (fun hb2=>?_) (fun hb2=>?_)
 ·have hb2_:=dT0 hb2
  refine ae hP<|aj rfl<|ag<|am<|E1 rfl rfl ?_
  exact aK (xX hb2_).symm
 have hb2_:=dF0 hb2
 refine au<|ae hP<|aj rfl<|ag<|am<|E1 rfl rfl ?_
 exact aK (pB hb1_ hb2_).symm
theorem ue (D:Int) (m:Nat) (hD:-4194304≤D∧D < 0) (hm:1≤m∧m≤65536) :
  aH Tryz.prog 56 [I D,Z (m:Int)] (.p (.c (SL enI (rbL D (m:Int))))):=by
 refine aM Tryz.func56 rfl rfl rfl rfl ?_
 refine ae hP<|aq ai (aL rfl rfl)<|aj rfl<|ag<|ae hP<|aq ai (mX hT rfl rfl)<|ag<|ao<|ae hP<|av hT rfl<|ak rfl<|ab (ah (nT D m)) ?_
 refine ag<|aC<|my 5 1000 2 29 rfl rfl rfl rfl ?_
 refine dz (t:=stL [(5,.loc 5 0),(9,.fn 179 [[.v (.int .i64 (m:Int))],[zn D,zm D]])] [(5,⟨false,1002,36,[.sl (((rbL D (m:Int)).take 0)).length []]⟩),(1000,VB 2 29 enI (((rbL D (m:Int)).take 0)))]) (aE ⟨.refl _,.refl _,trivial⟩ ⟨rfl,rfl,trivial⟩) ?_
 refine fF 6 (fun k=>da [(5,⟨false,1002,36,[.sl (((rbL D (m:Int)).take k)).length []]⟩),(1000,VB 2 29 enI (((rbL D (m:Int)).take k)))]) (fun _=>True) rfl (l7 D m hD hm) pF rfl rfl rfl trivial (fun k x hx _=>?_) (fun _=>?_)
 ·obtain ⟨b,hb,rfl⟩:=pG hx
  refine aw hP<|aq ai (aB hT rfl rfl)<|aG hT rfl<|ag<|aC<|aw hP<|ab (iC hT rfl rfl rfl rfl rfl)<|av hT rfl<|ab (bg hT rfl rfl rfl (es:=[_,_]) rfl rfl rfl)<|RK.app ai (gE (encD:=enI) hT dI (by decide) rfl rfl rfl rfl rfl rfl rfl (b:=b) rfl (by have:=lr D m hm.2;rw [List.length_take];omega) (by decide) (by decide)) ?_
  refine dC ai (l9 hT rfl rfl rfl rfl rfl rfl rfl (di dI _).symm (Nat.zero_lt_succ 1)) ?_
  refine ag ?_
  refine ⟨GW.rnL 5 15 1000 (((rbL D (m:Int)).take k) ++ [b]).length rfl rfl rfl (di dI _).symm (Nat.zero_lt_succ 1) rfl rfl rfl rfl ?_,trivial⟩
  show ∀ m,da _ m=_∨da _ m=none
  rw [Eu hb]
  exact SubO.own ⟨rfl,rfl,trivial⟩
 refine ae hP<|ab (iC hT rfl rfl rfl rfl rfl)<|ab (a8 (rfl:_=AV.vec _))<|ag<|eJ (encD:=enI) dI rfl (t:=4) rfl rfl ?_
 refine am<|E1 rfl rfl ?_
 exact aF (by rw [Jz])
theorem fN (a b:Int) :
  aH Tryz.prog 138 [I a,I b] (B (decide (a=b))):=by
 refine aM Tryz.func138 rfl rfl rfl rfl ?_
 refine ae hP<|aq ai (aL rfl rfl)<|aq ai (aL rfl rfl)<|aj rfl<|ag<|ae hP<|av hT rfl<|av hT rfl<|ab (ah (dO _ _)) ?_
 refine ab (bj rfl rfl)<|aj rfl<|ag<|am<|E1 rfl rfl ?_
 exact bd (HX a b)
theorem Cr (a:Int) :
  aH Tryz.prog 67 [I a] (B (decide (a=0))):=by
 refine aM Tryz.func67 rfl rfl rfl rfl ?_
 refine ae hP<|aq ai (aL rfl rfl)<|aj rfl<|ag<|ae hP<|av hT rfl<|ab (ah (dy _)) ?_
 refine ab (bj rfl rfl)<|aj rfl<|ag<|am<|E1 rfl rfl ?_
 exact bd (wq a)
theorem rS (D:Int) (m:Nat) (hD:-4194304≤D∧D < 0) (hm:1≤m∧m≤65536) :
  aH Tryz.prog 72 [I D,Z (m:Int)] (.p (.c (FS (fmL D (m:Int))))):=by
 have iD:LB D 6:=⟨by unfold L;omega⟩
 have i4:LB (4*(m:Int)) 6:=⟨by unfold L;omega⟩
 have im:LB (m:Int) 6:=⟨by unfold L;omega⟩
 refine aM Tryz.func72 rfl rfl rfl rfl ?_
 refine ae hP<|aq ai (aL rfl rfl)<|aj rfl<|ag<|ae hP<|aq ai (mX hT rfl rfl)<|ag<|ao<|ae hP<|av hT rfl<|ak rfl<|ab (ah (nT D m)) ?_
 refine ag<|aC<|my 5 1000 6 46 rfl rfl rfl rfl ?_
 refine dz (t:=stL [(5,.loc 5 0),(13,.fn 179 [[.v (.int .i64 (m:Int))],[zn D,zm D]])] [(5,⟨false,1002,32,[.sl (((fmL D (m:Int)).take 0)).length []]⟩),(1000,FB 46 (((fmL D (m:Int)).take 0)))]) (aE ⟨.refl _,.refl _,trivial⟩ ⟨rfl,rfl,trivial⟩) ?_
 refine fF 6 (fun k=>da [(5,⟨false,1002,32,[.sl (((fmL D (m:Int)).take k)).length []]⟩),(1000,FB 46 (((fmL D (m:Int)).take k)))]) (fun _=>True) rfl (l7 D m hD hm) pF rfl rfl rfl trivial (fun k x hx _=>?_) (fun _=>?_)
 ·obtain ⟨b,hb,rfl⟩:=pG hx
  have hb2:=(rbL_mem.1 (List.mem_of_getElem? hb)).1
  have hsq:=kP (x:=b) (m:=131073) (by omega)
  have ib:LB b 6:=⟨by unfold L;omega⟩
  have isq:LB (b*b) 6:=⟨by unfold L;omega⟩
  have cRd:aH Tryz.prog 41 [FA (m:Int) b ((b*b - D) / (4*(m:Int)))] (.t [PF (frq D m b).rd,PM (rdM (m:Int) b ((b*b - D) / (4*(m:Int)))),PE (rdE (m:Int) b ((b*b - D) / (4*(m:Int))))]):=jk (m:Int) b ((b*b - D) / (4*(m:Int))) lz lz lz
  have htk:=ER hb
  generalize (frq D m b).rd=g at cRd htk
  generalize rdM (m:Int) b ((b*b - D) / (4*(m:Int)))=M0 at cRd
  generalize rdE (m:Int) b ((b*b - D) / (4*(m:Int)))=e0 at cRd
  refine aw hP<|aq ai (aB hT rfl rfl)<|aG hT rfl<|ag<|aC<|ae hP<|br hT rfl rfl rfl rfl rfl rfl<|ab (ah cRd) ?_
  refine ab (az (rfl:_=AV.t _))<|ab (aD rfl (v:=.a _) rfl)<|ab (aD rfl (v:=.a _) rfl)<|ab (aD rfl (v:=.c _) rfl)<|aq ai (aB hT rfl rfl)<|aq ai (aB hT rfl rfl)<|aG hT rfl<|aG hT rfl<|aj rfl<|ag<|aw hP<|ab (iC hT rfl rfl rfl rfl rfl)<|br hT rfl rfl rfl rfl rfl rfl<|ab (bg hT rfl rfl rfl (es:=[_,_,_,_,_,_]) rfl rfl rfl)<|RK.app ai (ma hT rfl rfl rfl rfl rfl rfl rfl (f:=g) rfl (by have:=qa D m hm.2;rw [List.length_take];omega) (by decide)) ?_
  refine dC ai (l9 hT rfl rfl rfl rfl rfl rfl rfl (nv _).symm (Nat.zero_lt_succ 5)) ?_
  refine ag ?_
  refine ⟨GW.rnL 5 25 1000 (((fmL D (m:Int)).take k) ++ [g]).length rfl rfl rfl (nv _).symm (Nat.zero_lt_succ 5) rfl rfl rfl rfl ?_,trivial⟩
  show ∀ m,da _ m=_∨da _ m=none
  rw [htk]
  exact SubO.own ⟨rfl,rfl,trivial⟩
 refine ae hP<|ab (iC hT rfl rfl rfl rfl rfl)<|ab (a8 (rfl:_=AV.vec _))<|ag<|lg (t:=4) rfl rfl ?_
 refine am<|E1 rfl rfl ?_
 exact aF (by rw [KW])
theorem zX (p q:Pr2) :
  aH Tryz.prog 90 [.p (.a [zn p.1,zm p.1,zn p.2,zm p.2]),.p (.a [zn q.1,zm q.1,zn q.2,zm q.2])] (Z (cmP p q)):=by
 refine aM Tryz.func90 rfl rfl rfl rfl ?_
 refine ae hP<|aq ai (aL rfl rfl)<|aq ai (aL rfl rfl)<|aj rfl<|ag<|ao<|ae hP<|ab (aV hT rfl rfl rfl rfl rfl (by first | decide | omega)) ?_
 refine av hT rfl<|ab (aV hT rfl rfl rfl rfl rfl (by first | decide | omega)) ?_
 refine av hT rfl<|ab (ah (dO _ _)) ?_
 refine aj rfl<|ag<|ae hP<|ak rfl<|ab (bq rfl rfl)<|ag ?_
 refine ay rfl (fun hb1=>?_) (fun hb1=>?_)
 ·have hb1_:=b8 hb1
  refine ae hP<|ak rfl<|aj rfl<|ag<|am<|E1 rfl rfl ?_
  exact aK (by unfold cmP;rw [if_pos hb1_])
 have hb1_:=bU hb1
 refine au<|ae hP<|ab (aV hT rfl rfl rfl rfl rfl (by first | decide | omega)) ?_
 refine av hT rfl<|ab (aV hT rfl rfl rfl rfl rfl (by first | decide | omega)) ?_
 refine av hT rfl<|ab (ah (dO _ _)) ?_
 refine aj rfl<|ag<|am<|E1 rfl rfl ?_
 exact aK (by unfold cmP;rw [if_neg (fun x=>x hb1_)])
end
section
open Go Go.AM
theorem pP (a b c p q r:Int) :
  aH Tryz.prog 165 [FA a b c,FA p q r] (B (decide (a=p∧b=q∧c=r))):=by
 refine aM Tryz.func165 rfl rfl rfl rfl ?_
 refine ae hP<|aq ai (aL rfl rfl)<|aq ai (aL rfl rfl)<|aj rfl<|ag<|ae hP<|aI hT rfl<|av hT rfl<|aI hT rfl<|av hT rfl<|ab (ah (fN _ _)) ?_
 refine ak rfl ?_
 refine aY (t:=10) rfl (fun hg1=>?_) (fun hg1=>?_)
 ·refine aA hg1 (aT hT rfl rfl rfl rfl rfl rfl) ?_
  refine aA hg1 (aJ hT rfl rfl rfl rfl (cs:=[_,_]) rfl rfl) ?_
  refine aA hg1 (aT hT rfl rfl rfl rfl rfl rfl) ?_
  refine aA hg1 (aJ hT rfl rfl rfl rfl (cs:=[_,_]) rfl rfl) ?_
  refine aA hg1 (ah (fN _ _)) ?_
  refine ab (aO rfl hg1 (rfl:_=AV.p (.c _)))<|ak rfl ?_
  refine aY (t:=17) rfl (fun hg2=>?_) (fun hg2=>?_)
  ·refine aA hg2 (aT hT rfl rfl rfl rfl rfl rfl) ?_
   refine aA hg2 (aJ hT rfl rfl rfl rfl (cs:=[_,_]) rfl rfl) ?_
   refine aA hg2 (aT hT rfl rfl rfl rfl rfl rfl) ?_
   refine aA hg2 (aJ hT rfl rfl rfl rfl (cs:=[_,_]) rfl rfl) ?_
   refine aA hg2 (ah (fN _ _)) ?_
   refine ab (aO rfl hg2 (rfl:_=AV.p (.c _)))<|aj rfl<|ag<|am<|E1 rfl rfl ?_
   exact bd (Nr hg1 hg2)
  iterate 5 refine aZ hg2 ?_
  refine ab (aN rfl hg2 (rfl:_=AV.p (.c _)))<|aj rfl<|ag<|am<|E1 rfl rfl ?_
  exact bd (Ns hg1 hg2)
 iterate 5 refine aZ hg1 ?_
 refine ab (aN rfl hg1 (rfl:_=AV.p (.c _)))<|ak rfl<|aZ rfl ?_
 iterate 4 refine aZ rfl ?_
 refine ab (aN rfl rfl (rfl:_=AV.p (.c _)))<|aj rfl<|ag<|am<|E1 rfl rfl ?_
 exact bd (Nt hg1)
theorem GS (D:Int) :
  aH Tryz.prog 134 [I D] (.p (.c (SL enU (unL D)))):=by
 refine aM Tryz.func134 rfl rfl rfl rfl ?_
 refine ae hP<|aq ai (aL rfl rfl)<|aj rfl<|ag<|ao<|aC<|ae hP<|av hT rfl<|ab (ah (fh _ (by decide))) ?_
 refine ab (ah (fN _ _)) ?_
 refine aj rfl<|ag ?_
 refine ay rfl (fun hb1=>?_) (fun hb1=>?_)
 ·refine ae hP<|ab (dA hT rfl rfl rfl (es:=[_,_]) rfl) ?_
  iterate 5 refine ab (dA hT rfl rfl rfl (es:=[_,_]) rfl) ?_
  refine ab (bg hT rfl rfl rfl (es:=[_,_,_,_,_,_,_,_,_,_,_,_]) rfl rfl rfl)<|aj rfl<|ag<|am<|E1 rfl rfl ?_
  exact aF (by rw [← Nn (dT0 hb1)];rfl)
 refine ae hP<|av hT rfl<|ab (ah (fh _ (by unfold bu;omega))) ?_
 refine ab (ah (fN _ _)) ?_
 refine aj rfl<|ag ?_
 refine ay rfl (fun hb2=>?_) (fun hb2=>?_)
 ·refine ae hP<|ab (dA hT rfl rfl rfl (es:=[_,_]) rfl) ?_
  iterate 3 refine ab (dA hT rfl rfl rfl (es:=[_,_]) rfl) ?_
  refine ab (bg hT rfl rfl rfl (es:=[_,_,_,_,_,_,_,_]) rfl rfl rfl)<|aj rfl<|ag<|am<|E1 rfl rfl ?_
  exact aF (by rw [← Nm (dF0 hb1) (dT0 hb2)];rfl)
 refine au<|ae hP<|ab (dA hT rfl rfl rfl (es:=[_,_]) rfl)<|ab (dA hT rfl rfl rfl (es:=[_,_]) rfl)<|ab (bg hT rfl rfl rfl (es:=[_,_,_,_]) rfl rfl rfl)<|aj rfl<|ag<|am<|E1 rfl rfl ?_
 exact aF (by rw [← Np (dF0 hb1) (dF0 hb2)];rfl)
theorem ud (f:Fm) (D:Int) (m:Nat) (hfa:L 6 f.a) (hfb:L 6 f.b) (hfc:L 6 f.c) (hf:dsc f.a f.b f.c=D) (hD:-4194304≤D∧D < 0) (hm:1≤m∧m≤65536) :
  Iter2 Tryz.prog 132 [[zn f.a,zm f.a,zn f.b,zm f.b,zn f.c,zm f.c],[.v (.int .i64 (m:Int))]] ((prL D m f).map fun p=>[PA p]):=by
 have iD:LB D 6:=⟨by unfold L;omega⟩
 have i4:LB (4*(m:Int)) 6:=⟨by unfold L;omega⟩
 have im:LB (m:Int) 6:=⟨by unfold L;omega⟩
 have fa:LB f.a 6:=⟨hfa⟩
 have fb:LB f.b 6:=⟨hfb⟩
 have fc:LB f.c 6:=⟨hfc⟩
 have cDs:aH Tryz.prog 40 [FA f.a f.b f.c] (I D):=by rw [← hf];exact gh f.a f.b f.c lz lz lz
 have cUn:=GS D
 have hus:∀ p∈unL D,(-2≤p.1∧p.1≤2)∧(-1≤p.2∧p.2≤1):=fun p hp=>LC hp
 have hul:=zj D
 have hget:=fun (i j:Nat) (b:Int) (hb:(rbL D m)[i]?=some b) (hs:smf f (frq D m b)=true) (hj:j < (unL D).length)=>JX (f:=f) (j:=j) hb hs hj
 have hkY:=fun (i:Nat) (b:Int) (hb:(rbL D m)[i]?=some b) (hs:smf f (frq D m b)=true)=>NH (f:=f) hb hs
 have hkN:=fun (i:Nat) (b:Int) (hb:(rbL D m)[i]?=some b) (hs:smf f (frq D m b)=false)=>NI (f:=f) hb hs
 have hall:=JZ (D:=D) (m:=m) (f:=f)
 have hk0:0=(fmN (prQ D m f) (rbL D m)) 0:=fmN_0.symm
 generalize unL D=us at *
 generalize hxs:((prL D m f).map fun p=>([PA p]:List PV))=xs at *
 generalize fmN (prQ D m f) (rbL D m)=κ at *
 refine oV Tryz.func132 (by kernel_rfl) rfl rfl (bL0 rfl) rfl ?_
 intro l n0 J hK
 refine vD hK.toKeepsB ?_
 refine bC hP ?_
 refine aq ai (aL rfl rfl)<|ag<|vD hK.toKeepsB ?_
 refine bC hP ?_
 refine ab (bf hT rfl rfl rfl (cs:=[_,_,_,_,_,_]) rfl rfl)<|ab (ah cDs) ?_
 refine aq ai (aB hT rfl rfl)<|aG hT rfl<|ag<|vD hK.toKeepsB ?_
 refine bC hP ?_
 refine av hT rfl<|cO hT rfl rfl rfl ?_
 refine ab (ah (nT D m)) ?_
 refine ag<|DB ?_
 refine Nl (t:=stL [(1,.ip [zn f.a,zm f.a,zn f.b,zm f.b,zn f.c,zm f.c]),(2,.ip [.v (.int .i64 (m:Int))]),(3,.loc 3 0),(4,.loc 4 0),(21,.fn 179 [[.v (.int .i64 (m:Int))],[zn D,zm D]])] [(3,⟨false,1,187,[.v (.func (.yield l) #[] #[])]⟩),(4,⟨false,1,29,[zn D,zm D]⟩)]) (aE ⟨.refl _,.refl _,.refl _,.refl _,.refl _,trivial⟩ ⟨rfl,rfl,trivial⟩) ?_
 refine DA 5 κ (da [(3,⟨false,1,187,[.v (.func (.yield l) #[] #[])]⟩),(4,⟨false,1,29,[zn D,zm D]⟩)]) hK rfl (l7 D m hD hm) pF rfl rfl (fun i y hy=>?_) hall hk0
 obtain ⟨b,hb,rfl⟩:=pG hy
 have hb2:=(rbL_mem.1 (List.mem_of_getElem? hb)).1
 have hsq:=kP (x:=b) (m:=131073) (by omega)
 have ib:LB b 6:=⟨by unfold L;omega⟩
 have isq:LB (b*b) 6:=⟨by unfold L;omega⟩
 have cSm:aH Tryz.prog 133 [FA f.a f.b f.c,FA (m:Int) b ((b*b - D) / (4*(m:Int)))] (.t [PM (smm f (frq D m b)),PB (smf f (frq D m b))]):=JT f.a f.b f.c (m:Int) b ((b*b - D) / (4*(m:Int))) lz lz lz lz lz lz
 obtain ⟨m1,m2,m3,m4⟩:LB (smm f (frq D m b)).a 23∧LB (smm f (frq D m b)).b 23∧LB (smm f (frq D m b)).c 23∧LB (smm f (frq D m b)).d 23:=Nq (a:=f.a) (b:=f.b) (c:=f.c) (p:=(m:Int)) (q:=b) (r:=(b*b - D) / (4*(m:Int))) ⟨lz⟩ ⟨lz⟩ ⟨lz⟩ ⟨lz⟩ ⟨lz⟩ ⟨lz⟩
 have hgj:=fun j=>hget i j b hb
 have hY:=hkY i b hb
 have hN:=hkN i b hb
 generalize smm f (frq D m b)=M at cSm m1 m2 m3 m4 hgj
 generalize smf f (frq D m b)=sb at cSm hgj hY hN
 show AK _ _ _ _ _ _ _ (κ i) ⟨jZ _ _ [PI b,.a [zn (m:Int),zm (m:Int),zn b,zm b,zn ((b*b - D) / (4*(m:Int))),zm ((b*b - D) / (4*(m:Int)))]],_⟩
 generalize (b*b - D) / (4*(m:Int))=C0 at cSm ⊢
 refine bO ?_
 refine bC hP ?_
 refine aq ai (aB hT rfl rfl)<|aG hT rfl<|ag<|bC hP ?_
 refine aq ai (aB hT rfl rfl)<|aG hT rfl<|ag<|eT ?_
 refine bO ?_
 refine bC hP ?_
 refine ab (bf hT rfl rfl rfl (cs:=[_,_,_,_,_,_]) rfl rfl)<|br hT rfl rfl rfl rfl rfl rfl<|ab (ah cSm) ?_
 refine ab (az (rfl:_=AV.t _))<|ab (aD rfl (v:=.a _) rfl)<|ab (aD rfl (v:=.c _) rfl)<|aq ai (aB hT rfl rfl)<|aG hT rfl<|aj rfl<|ag<|bO ?_
 refine bO ?_
 refine bC hP ?_
 refine ak rfl<|ab (bw rfl)<|ag ?_
 refine eL rfl (fun hb1=>?_) (fun hb1=>?_)
 ·have hb1_:=(bY hb1)
  refine jA ?_
  exact .inl ⟨rfl,(hN (bY hb1)).symm,GW.forget fun x=>SubO.own (l:=[(3,⟨false,1,187,[.v (.func (.yield l) #[] #[])]⟩),(4,⟨false,1,29,[zn D,zm D]⟩)]) ⟨rfl,rfl,trivial⟩ x⟩
 have hb1_:=(bW hb1)
 have hsb:=bW hb1
 refine dY ?_
 refine bO ?_
 refine bC hP ?_
 refine av hT rfl<|ab (ah cUn) ?_
 refine ab (aX hT rfl rfl rfl (by rfl)) ?_
 refine ak rfl<|ag<|eT ?_
 refine lM (ι:=Nat) (fun j=>stL [(3,.loc 3 0),(5,.loc 5 0),(6,.loc 6 0),(7,.loc 7 0),(33,.p (.c (SL enU us))),(34,Z (us.length:Int)),(35,Z (j:Int))] [(3,⟨false,1,187,[.v (.func (.yield l) #[] #[])]⟩),(4,⟨false,1,29,[zn D,zm D]⟩),(5,⟨false,1,29,[zn b,zm b]⟩),(6,⟨false,1,46,[zn (m:Int),zm (m:Int),zn b,zm b,zn C0,zm C0]⟩),(7,⟨false,1,87,[zn M.a,zm M.a,zn M.b,zm M.b,zn M.c,zm M.c,zn M.d,zm M.d]⟩)]) (fun j=>κ i+j) (fun j=>j≤us.length) (fun j=>us.length - j) 0 (Nat.zero_le _) rfl (aE ⟨.refl _,.refl _,.refl _,.refl _,.refl _,.refl _,.refl _,trivial⟩ ⟨rfl,rfl,rfl,rfl,rfl,trivial⟩) ?_
 intro j hj
 refine bO ?_
 refine bC hP ?_
 refine ab (bh rfl rfl)<|ag<|bO ?_
 refine eL rfl (fun hb2=>?_) (fun hb2=>?_)
 ·have hb2_:=dT0 hb2
  have hjn:j < us.length:=by omega
  have hgt:=hgj j hsb hjn
  obtain ⟨⟨u1,u2⟩,u3,u4⟩:=hus _ (ss (d:=(0,0)) hjn)
  have iu1:LB (us.getD j (0,0)).1 3:=⟨by unfold L;omega⟩
  have iu2:LB (us.getD j (0,0)).2 3:=⟨by unfold L;omega⟩
  refine dY ?_
  refine bO ?_
  refine eT ?_
  refine bO ?_
  refine bC hP ?_
  refine ab (b9 hT HN (by decide) (0,0) (n:=(j:Int)) (l:=us) rfl rfl rfl rfl rfl rfl (by omega)) ?_
  refine ab (bf hT rfl rfl rfl (cs:=enU (us.getD j (0,0))) rfl rfl) ?_
  refine aq ai (aB hT rfl rfl)<|aG hT rfl<|ag<|bO ?_
  refine bC hP ?_
  refine ab (aV hT rfl rfl rfl rfl rfl (by first | decide | omega)) ?_
  refine bi hT rfl rfl rfl rfl ?_
  refine ab (ah (fh _ (by unfold bu;omega))) ?_
  refine av hT rfl<|ab (aV hT rfl rfl rfl rfl rfl (by first | decide | omega)) ?_
  refine bi hT rfl rfl rfl rfl ?_
  refine ab (ah (fh _ (by unfold bu;omega))) ?_
  refine ab (ah (dW b (us.getD j (0,0)).2 lz lz)) ?_
  refine ab (ah (ke (us.getD j (0,0)).1 (b*(us.getD j (0,0)).2) lz lz)) ?_
  refine ab (ah (fh 2 (by decide))) ?_
  refine ab (ah (dZ ((us.getD j (0,0)).1 - b*(us.getD j (0,0)).2) 2 lz lz (by omega))) ?_
  refine ab (az (rfl:_=AV.t _))<|ab (aD rfl (v:=.a _) rfl)<|ab (aD rfl (v:=.a _) rfl)<|ab (aD rfl (v:=.c _) rfl)<|aq ai (aB hT rfl rfl)<|aq ai (aB hT rfl rfl)<|aG hT rfl<|aG hT rfl<|aj rfl<|ag<|bO ?_
  refine bC hP ?_
  refine aI hT rfl<|av hT rfl<|ab (aV hT rfl rfl rfl rfl rfl (by first | decide | omega)) ?_
  refine bi hT rfl rfl rfl rfl ?_
  refine ab (ah (fh _ (by unfold bu;omega))) ?_
  refine ab (ah (dW (m:Int) (us.getD j (0,0)).2 lz lz)) ?_
  refine aq ai (aB hT rfl rfl)<|aG hT rfl<|ag<|bO ?_
  refine bC hP ?_
  refine aI hT rfl<|av hT rfl<|av hT rfl<|ab (ah (dW M.a (((us.getD j (0,0)).1 - b*(us.getD j (0,0)).2) / 2) lz lz)) ?_
  refine aI hT rfl<|av hT rfl<|av hT rfl<|ab (ah (dW M.b ((m:Int)*(us.getD j (0,0)).2) lz lz)) ?_
  refine ab (ah (eo (M.a*(((us.getD j (0,0)).1 - b*(us.getD j (0,0)).2) / 2)) (M.b*((m:Int)*(us.getD j (0,0)).2)) lz lz)) ?_
  refine aq ai (aB hT rfl rfl)<|aG hT rfl<|ag<|bO ?_
  refine bC hP ?_
  refine aI hT rfl<|av hT rfl<|av hT rfl<|ab (ah (dW M.c (((us.getD j (0,0)).1 - b*(us.getD j (0,0)).2) / 2) lz lz)) ?_
  refine aI hT rfl<|av hT rfl<|av hT rfl<|ab (ah (dW M.d ((m:Int)*(us.getD j (0,0)).2) lz lz)) ?_
  refine ab (ah (eo (M.c*(((us.getD j (0,0)).1 - b*(us.getD j (0,0)).2) / 2)) (M.d*((m:Int)*(us.getD j (0,0)).2)) lz lz)) ?_
  refine aq ai (aB hT rfl rfl)<|aG hT rfl<|ag<|bO ?_
  refine mz ?_
  refine RY.val ai (bL hT rfl rfl rfl rfl (by first | rfl | exact eh (by omega))) ?_
  refine RY.val ai (aJ hT rfl rfl rfl rfl (cs:=[_,_]) rfl rfl) ?_
  refine RY.val ai (aJ hT rfl rfl rfl rfl (cs:=[_,_]) rfl rfl) ?_
  refine RY.val ai (dA hT rfl rfl rfl (es:=[_,_,_,_]) rfl) ?_
  refine RY.yield hK ai rfl rfl hgt ?_
  intro bb
  refine RY.val ai (bw rfl) ?_
  refine RY.done ?_
  refine eL rfl (fun hb3=>?_) (fun hb3=>?_)
  ·have hb3_:=(bY hb3)
   refine nw ?_
   exact .inr ⟨rfl,yv (bY hb3)⟩
  have hb3_:=(bW hb3)
  refine dY ?_
  refine bC hP ?_
  refine bA rfl rfl ?_
  refine ak rfl<|ag ?_
  refine ⟨j+1,by omega,by omega,(yu (bW hb3)).symm,aE ⟨.refl _,.refl _,.refl _,.refl _,.refl _,.refl _,aK (by omega),trivial⟩ ⟨rfl,rfl,rfl,rfl,rfl,trivial⟩⟩
 have hb2_:=dF0 hb2
 have hjl:us.length=j:=by omega
 refine jA ?_
 exact .inl ⟨rfl,by rw [hY hsb,hjl],GW.forget fun x=>SubO.own (l:=[(3,⟨false,1,187,[.v (.func (.yield l) #[] #[])]⟩),(4,⟨false,1,29,[zn D,zm D]⟩)]) ⟨rfl,rfl,trivial⟩ x⟩
end
section
open Go Go.AM
theorem AI (o x:Fm) (u:Value) :
  aH Tryz.prog 214 [FA (o).a (o).b (o).c,FA (x).a (x).b (x).c,I 0,.p (.c (.v u))] (FA (o).a (o).b (o).c):=by
 refine aM Tryz.func214 rfl rfl rfl rfl ?_
 refine ae hP<|aq ai (aL rfl rfl)<|aq ai (aL rfl rfl)<|aq ai (aL rfl rfl)<|aq ai (aB hT rfl rfl)<|ag<|ao<|ae hP<|av hT rfl<|ab (ah (uI _)) ?_
 refine ak rfl<|ag<|aC<|ee 1 ?_
 refine ae hP<|ab (bh rfl rfl)<|ag<|ao<|aQ rfl (by decide) ?_
 refine aW<|ae hP<|br hT rfl rfl rfl rfl rfl rfl<|aG hT rfl<|ag<|am ?_
 refine bI rfl (.inr rfl) (aP hT rfl rfl rfl rfl (cs:=[_,_,_,_,_,_]) rfl rfl) ?_ bt
 exact .refl _
theorem AL (f:Fm) (hfa:L 6 f.a) (hfb:L 6 f.b) (hfc:L 6 f.c) :
  aH Tryz.prog 183 [FA f.a f.b f.c,I 0] (FA ((prF (dsc f.a f.b f.c))).a ((prF (dsc f.a f.b f.c))).b ((prF (dsc f.a f.b f.c))).c):=by
 have fa:LB f.a 6:=⟨hfa⟩
 have fb:LB f.b 6:=⟨hfb⟩
 have fc:LB f.c 6:=⟨hfc⟩
 refine aM Tryz.func183 rfl rfl rfl rfl ?_
 refine ae hP<|aq ai (aL rfl rfl)<|aq ai (aL rfl rfl)<|aq ai (aB hT rfl rfl)<|ag<|ao<|ae hP<|aI hT rfl<|bi hT rfl rfl rfl rfl ?_
 refine ag<|aQ rfl rfl<|au<|ae hP<|br hT rfl rfl rfl rfl rfl rfl<|ab (ah (vh _ _ _ lz lz lz)) ?_
 refine br hT rfl rfl rfl rfl rfl rfl<|ab (ah (yV _ _ _ lz lz lz)) ?_
 refine av hT rfl<|ab (ah (AI _ _ _)) ?_
 refine aG hT rfl<|ag<|am ?_
 refine bI rfl (.inr rfl) (aP hT rfl rfl rfl rfl (cs:=[_,_,_,_,_,_]) rfl rfl) ?_ bt
 exact .refl _
theorem AN (f:Fm) (hfa:L 6 f.a) (hfb:L 6 f.b) (hfc:L 6 f.c) :
  aH Tryz.prog 131 [FA f.a f.b f.c,I 0] (.t [PF (pz0 f),PE (rfE f)]):=by
 have fa:LB f.a 6:=⟨hfa⟩
 have fb:LB f.b 6:=⟨hfb⟩
 have fc:LB f.c 6:=⟨hfc⟩
 refine aM Tryz.func131 rfl rfl rfl rfl ?_
 refine ae hP<|aq ai (aL rfl rfl)<|aq ai (aL rfl rfl)<|aq ai (aB hT rfl rfl)<|aj rfl<|ag<|ao<|ae hP<|br hT rfl rfl rfl rfl rfl rfl<|ab (ah (yU _ _ _ lz lz lz)) ?_
 refine aj rfl<|ag<|ae hP<|ak rfl<|ab (bq rfl rfl)<|ag ?_
 refine ay rfl (fun hb1=>?_) (fun hb1=>?_)
 ·have hb1_:=b8 hb1
  refine ae hP<|ab (aR hT rfl rfl rfl (es:=[_,_,_,_,_,_]) rfl)<|ak rfl<|aG hT rfl<|aj rfl<|ag<|am ?_
  refine cp rfl (.inr rfl) (aP hT rfl rfl rfl rfl (cs:=[_,_,_,_,_,_]) rfl rfl) (bK rfl) ?_ bt
  exact aF (NG hb1_)
 have hb1_:=bU hb1
 refine au<|ae hP<|br hT rfl rfl rfl rfl rfl rfl<|av hT rfl<|ab (ah (AL f hfa hfb hfc)) ?_
 refine aG hT rfl<|aj rfl<|ag<|am ?_
 refine cp rfl (.inr rfl) (aP hT rfl rfl rfl rfl (cs:=[_,_,_,_,_,_]) rfl rfl) (bK rfl) ?_ bt
 exact aF (NF hb1_)
end
end Go.Proofs.YthaiejfjnllglaaGreatDoor
section
end
namespace Go.Proofs.YthaiejfjnllglaaGreatDoor
section
open Go Go.AM
theorem GG (N:Int) (h3:3≤N) (h4:N≤2003) :
  aH Tryz.prog 80 [Z N] (.p (.c (FS (lst N)))):=by
 refine aM Tryz.func80 rfl rfl rfl rfl ?_
 refine ae hP<|aj rfl<|ag<|ae hP<|aq ai (dB hT rfl rfl rfl (es:=[]) rfl rfl rfl) ?_
 refine ab (a8 (rfl:_=AV.vec _))<|ag<|cL 7 1000 rfl rfl rfl ?_
 refine ao<|ae hP<|aj rfl<|ag<|aC<|bl (ι:=List Fm × Int) (fun p=>stL [(0,Z N),(3,.vec 1000),(4,Z p.2)] [(1000,FB 46 p.1)]) (fun p=>p.1 ++ eD N (101 - p.2).toNat p.2=lst N∧1≤p.2∧p.2≤26∧(p.1.length:Int)≤60*p.2) (fun p=>(100 - p.2).toNat) ([],1) ⟨CG N,by decide,by decide,by decide⟩ (aE ⟨.refl _,.refl _,.refl _,trivial⟩ ⟨rfl,trivial⟩) ?_
 rintro p ⟨hI,ha1,ha2,hlen⟩
 have hsq:=Oi ⟨ha1,ha2⟩
 refine ao<|ae hP<|ak rfl<|ab (bQ rfl rfl (by first | exact iW0 _ (by omega) | rfl)) ?_
 refine ak rfl<|ab (bQ rfl rfl (by first | exact iW0 _ (by omega) | rfl)) ?_
 refine ak rfl<|ab (ej rfl rfl)<|ag ?_
 refine ay rfl (fun hb1=>?_) (fun hb1=>?_)
 ·have hb1_:=dT0 hb1
  have ha3:=Lq ha1 hb1_ h4
  refine au<|ao<|aC<|ae hP<|ak rfl<|ab (dV rfl (by first | exact iW0 _ (by omega) | rfl)) ?_
  refine aj rfl<|ag<|aC<|bl (ι:=List Fm × Int) (fun q=>stL [(0,Z N),(3,.vec 1000),(4,Z p.2),(5,Z q.2)] [(1000,FB 46 q.1)]) (fun q=>q.1 ++ (fq N p.2 (p.2+1 - q.2).toNat q.2 ++ eD N (100 - p.2).toNat (p.2+1))=lst N∧-p.2≤q.2∧q.2≤p.2+1∧(q.1.length:Int)≤60*p.2+(q.2+p.2)) (fun q=>(p.2+1 - q.2).toNat) (p.1,-p.2) ⟨MD hI ⟨ha1,by omega⟩ hb1_,by simp,by simp only;omega,by simp only;omega⟩ (aE ⟨.refl _,.refl _,.refl _,aK (by omega),trivial⟩ ⟨rfl,trivial⟩) ?_
  rintro q ⟨hJ,hq1,hq2,hlen2⟩
  refine ao<|ae hP<|ak rfl<|ak rfl<|ab (ej rfl rfl)<|ag ?_
  refine ay rfl (fun hb2=>?_) (fun hb2=>?_)
  ·have hb2_:=dT0 hb2
   have qs:=kP (x:=q.2) (m:=25) (by omega)
   have qc:=c_b (x:=q.2*q.2+N) (y:=4*p.2) (by omega) (by omega)
   have ja:bu p.2:=by unfold bu;omega
   have jb:bu q.2:=by unfold bu;omega
   have jc:bu ((q.2*q.2+N) / (4*p.2)):=by unfold bu;omega
   have ia:LB p.2 6:=⟨by unfold L;omega⟩
   have ib:LB q.2 6:=⟨by unfold L;omega⟩
   have ic:LB ((q.2*q.2+N) / (4*p.2)) 6:=⟨by unfold L;omega⟩
   refine au<|ao<|aC<|ao<|ae hP<|ak rfl<|ak rfl<|ab (bQ rfl rfl (by first | exact iW0 _ (by omega) | rfl)) ?_
   refine ak rfl<|bA rfl rfl ?_
   refine ak rfl<|ab (bQ rfl rfl (by first | exact iW0 _ (by omega) | rfl)) ?_
   refine ab (bM rfl rfl (by omega) (c:=(q.2*q.2+N) % (4*p.2)) (Int.tmod_eq_emod_of_nonneg (by omega))) ?_
   refine ab (bq rfl rfl)<|ag ?_
   refine ay rfl (fun hb3=>?_) (fun hb3=>?_)
   ·have hb3_:=b8 hb3
    refine aW<|aw hP<|ak rfl<|bA rfl rfl ?_
    refine aj rfl<|ag ?_
    refine ⟨(q.1,q.2+1),⟨yE hJ hb2_ (G1 hb3_),by simp only;omega,by simp only;omega,by simp only;omega⟩,by simp only;omega,aE ⟨.refl _,.refl _,.refl _,.refl _,trivial⟩ ⟨rfl,trivial⟩⟩
   have hb3_:=bU hb3
   have hz:(q.2*q.2+N) % (4*p.2)=0:=bU hb3
   refine au<|ae hP<|ak rfl<|ak rfl<|ak rfl<|ak rfl<|ab (bQ rfl rfl (by first | exact iW0 _ (by omega) | rfl)) ?_
   refine ak rfl<|bA rfl rfl ?_
   refine ak rfl<|ab (bQ rfl rfl (by first | exact iW0 _ (by omega) | rfl)) ?_
   refine ab (cZ rfl rfl (by omega) (c:=((q.2*q.2+N) / (4*p.2))) (by rw [Int.tdiv_eq_ediv_of_nonneg (by omega),iW0 _ (by omega)])) ?_
   refine ab (ah (pK _ _ _ (by first | assumption | decide) (by first | assumption | decide) (by first | assumption | decide))) ?_
   refine aq ai (aB hT rfl rfl)<|aG hT rfl<|ag<|ae hP<|br hT rfl rfl rfl rfl rfl rfl<|ab (ah (lZ _ _ _ lz lz lz)) ?_
   refine ak rfl ?_
   refine aY (t:=45) rfl (fun hg4=>?_) (fun hg4=>?_)
   ·refine aA hg4 (aJ hT rfl rfl rfl rfl (cs:=[_,_,_,_,_,_]) rfl rfl) ?_
    refine aA hg4 (ah (iP _ _ _ lz lz lz)) ?_
    refine ab (aO rfl hg4 (rfl:_=AV.p (.c _)))<|ag ?_
    refine ay rfl (fun hb5=>?_) (fun hb5=>?_)
    ·refine aw hP<|ab (az (rfl:_=AV.vec _))<|br hT rfl rfl rfl rfl rfl rfl<|ab (bg hT rfl rfl rfl (es:=[_,_,_,_,_,_]) rfl rfl rfl)<|RK.app ai (ma hT rfl rfl rfl rfl rfl rfl rfl (f:=⟨p.2,q.2,((q.2*q.2+N) / (4*p.2))⟩) rfl (by omega) (by decide)) ?_
     refine ab (a8 (rfl:_=AV.vec _))<|ag<|cL 52 1000 rfl rfl rfl ?_
     refine aw hP<|ak rfl<|bA rfl rfl ?_
     refine aj rfl<|ag ?_
     refine ⟨(q.1 ++ [⟨p.2,q.2,((q.2*q.2+N) / (4*p.2))⟩],q.2+1),⟨Kn hJ hb2_ (by rw [uq hz,hg4,hb5];rfl),by simp only;omega,by simp only;omega,by simp only [List.length_append,List.length_singleton];omega⟩,by simp only;omega,aE ⟨.refl _,.refl _,.refl _,.refl _,trivial⟩ ⟨rfl,trivial⟩⟩
    refine au<|aw hP<|ak rfl<|bA rfl rfl ?_
    refine aj rfl<|ag ?_
    refine ⟨(q.1,q.2+1),⟨yE hJ hb2_ (by rw [uq hz,hg4,hb5];rfl),by simp only;omega,by simp only;omega,by simp only;omega⟩,by simp only;omega,aE ⟨.refl _,.refl _,.refl _,.refl _,trivial⟩ ⟨rfl,trivial⟩⟩
   refine aZ hg4 ?_
   refine aZ hg4 ?_
   refine ab (aN rfl hg4 (rfl:_=AV.p (.c _)))<|ag<|aQ rfl rfl<|au<|aw hP<|ak rfl<|bA rfl rfl ?_
   refine aj rfl<|ag ?_
   refine ⟨(q.1,q.2+1),⟨yE hJ hb2_ (by rw [uq hz,hg4];rfl),by simp only;omega,by simp only;omega,by simp only;omega⟩,by simp only;omega,aE ⟨.refl _,.refl _,.refl _,.refl _,trivial⟩ ⟨rfl,trivial⟩⟩
  have hb2_:=dF0 hb2
  refine aW<|aw hP<|ak rfl<|bA rfl rfl ?_
  refine aj rfl<|ag ?_
  refine ⟨(q.1,p.2+1),⟨Ko hJ hb2_,by omega,by omega,by simp only;omega⟩,by simp only;omega,aE ⟨.refl _,.refl _,.refl _,trivial⟩ ⟨rfl,trivial⟩⟩
 have hb1_:=dF0 hb1
 refine aW<|ae hP<|ab (az (rfl:_=AV.vec _))<|ab (a8 (rfl:_=AV.vec _))<|ag<|lg (t:=2) rfl rfl ?_
 refine am<|E1 rfl rfl ?_
 exact aF (by rw [Kp hI hb1_])
theorem GF (D i0 i1 i2 i3 m0 m1 m2 m3:Nat) (_hD:D < 65536) (_g0:i0 < 65536) (_g1:i1 < 65536) (_g2:i2 < 65536) (_g3:i3 < 65536) (_k0:m0 < 256) (_k1:m1 < 256) (_k2:m2 < 256) (_k3:m3 < 256) :
  aH Tryz.prog 11 [.p (.a [.v (.int .u16 (D:Int)),.v (.int .u16 (i0:Int)),.v (.int .u16 (i1:Int)),.v (.int .u16 (i2:Int)),.v (.int .u16 (i3:Int)),.v (.int .u8 (m0:Int)),.v (.int .u8 (m1:Int)),.v (.int .u8 (m2:Int)),.v (.int .u8 (m3:Int))])] (Z (szz D)):=by
 obtain ⟨s1,s2,s3,s4,s5⟩:=fg D
 have d1:=Int.emod_nonneg (D:Int) (show (2000:Int)≠0 by omega)
 have d2:=Int.emod_lt_of_pos (D:Int) (show (0:Int) < 2000 by omega)
 refine aM Tryz.func11 rfl rfl rfl rfl ?_
 refine ae hP<|aq ai (aL rfl rfl)<|aj rfl<|ag<|ae hP<|aI hT rfl<|bi hT rfl rfl rfl rfl ?_
 refine ab (bM rfl rfl (by decide) (c:=(D:Int) % 2000) (Int.tmod_eq_emod_of_nonneg (by omega))) ?_
 refine ab (bn hT rfl rfl rfl rfl (iW0 _ (by omega))) ?_
 refine bA rfl rfl ?_
 refine aj rfl<|ag<|ao<|aC<|bl (ι:=Int) (fun n=>stL [(3,Z n)] []) (fun n=>3+(D:Int) % 2000≤n∧n≤szz D) (fun n=>(szz D - n).toNat) (3+(D:Int) % 2000) ⟨Int.le_refl _,s1⟩ (aE ⟨.refl _,trivial⟩ trivial) ?_
 rintro n ⟨hn1,hn2⟩
 refine ao<|ae hP<|ak rfl<|ab (bM rfl rfl (by decide) (c:=n % 4) (Int.tmod_eq_emod_of_nonneg (by omega))) ?_
 refine ab (bq rfl rfl)<|ak rfl ?_
 refine aY (t:=12) rfl (fun hg1=>?_) (fun hg1=>?_)
 ·have hg1_:=b8 hg1
  refine aA hg1 (az (rfl:_=AV.p (.c _))) ?_
  refine aA hg1 (bM rfl rfl (by decide) (c:=n % 4) (Int.tmod_eq_emod_of_nonneg (by omega))) ?_
  refine aA hg1 (bq rfl rfl) ?_
  refine ab (aO rfl hg1 (rfl:_=AV.p (.c _)))<|ag ?_
  refine ay rfl (fun hb2=>?_) (fun hb2=>?_)
  ·have hb2_:=b8 hb2
   refine au<|aC<|aw hP<|ak rfl<|bA rfl rfl ?_
   refine aj rfl<|ag ?_
   have hne:n≠szz D:=by
    rintro rfl
    have:=b8 hg1
    have:=b8 hb2
    omega
   refine ⟨n+1,⟨by omega,by omega⟩,by omega,aE ⟨.refl _,trivial⟩ trivial⟩
  have hb2_:=bU hb2
  refine aW<|ae hP<|ak rfl<|aj rfl<|ag<|am<|E1 rfl rfl ?_
  exact aK (s5 n hn1 hn2 (.inr (bU hb2)))
 have hg1_:=bU hg1
 iterate 3 refine aZ hg1 ?_
 refine ab (aN rfl hg1 (rfl:_=AV.p (.c _)))<|ag<|aQ rfl rfl<|aW<|ae hP<|ak rfl<|aj rfl<|ag<|am<|E1 rfl rfl ?_
 exact aK (s5 n hn1 hn2 (.inl (bU hg1)))
theorem Cc (D i0 i1 i2 i3 m0 m1 m2 m3:Nat) (hD:D < 65536) (g0:i0 < 65536) (g1:i1 < 65536) (g2:i2 < 65536) (g3:i3 < 65536) (k0:m0 < 256) (k1:m1 < 256) (k2:m2 < 256) (k3:m3 < 256) :
  aH Tryz.prog 22 [.p (.a [.v (.int .u16 (D:Int)),.v (.int .u16 (i0:Int)),.v (.int .u16 (i1:Int)),.v (.int .u16 (i2:Int)),.v (.int .u16 (i3:Int)),.v (.int .u8 (m0:Int)),.v (.int .u8 (m1:Int)),.v (.int .u8 (m2:Int)),.v (.int .u8 (m3:Int))]),Z 0] (FA (mkF D i0 m0).a (mkF D i0 m0).b (mkF D i0 m0).c):=by
 obtain ⟨_,s2,s3,s4,_⟩:=fg D
 have hlp:=w7 D
 obtain ⟨pa,pb,pc⟩:=Mu D i0
 obtain ⟨ta,tb,tc,td⟩:=Jd k0
 have e1:=Int.emod_nonneg (i0:Int) (show (((lst (szz D)).length:Nat):Int)≠0 by omega)
 have e2:=Int.emod_lt_of_pos (i0:Int) (show (0:Int) < (((lst (szz D)).length:Nat):Int) by omega)
 have cu:=GE m0 k0
 refine aM Tryz.func22 rfl rfl rfl rfl ?_
 refine ae hP<|aq ai (aL rfl rfl)<|aq ai (aB hT rfl rfl)<|ag<|ae hP<|ab (aJ hT rfl rfl rfl rfl (cs:=[_,_,_,_,_,_,_,_,_]) rfl rfl)<|ab (ah (GF _ _ _ _ _ _ _ _ _ hD g0 g1 g2 g3 k0 k1 k2 k3)) ?_
 refine ab (ah (GG _ (by omega) (by omega))) ?_
 refine aj rfl<|ag<|ae hP<|ak rfl<|ak rfl<|ab (bM rfl rfl (by decide) (c:=0) (by decide)) ?_
 refine aI hT rfl<|ab (aV hT rfl rfl rfl rfl rfl (by first | decide | omega)) ?_
 refine bi hT rfl rfl rfl rfl ?_
 refine ab (bn hT rfl rfl rfl rfl (iW0 _ (by omega))) ?_
 refine ak rfl<|ab (aX hT rfl rfl rfl (by rfl)) ?_
 refine ab (bM rfl rfl (by omega) (c:=(i0:Int) % ((lst (szz D)).length:Nat)) (Int.tmod_eq_emod_of_nonneg (by omega))) ?_
 refine ab (iE hT rfl rfl rfl rfl rfl rfl (by omega)) ?_
 refine ab (bf hT rfl rfl rfl (cs:=FC (pik D i0)) rfl rfl) ?_
 refine aq ai (aB hT rfl rfl)<|aG hT rfl<|ag<|ao<|ae hP<|ak rfl<|ab (bM rfl rfl (by decide) (c:=0) (by decide)) ?_
 refine aI hT rfl<|ab (aV hT rfl rfl rfl rfl rfl (by first | decide | omega)) ?_
 refine bi hT rfl rfl rfl rfl ?_
 refine ab (bM rfl rfl (by decide) (c:=(m0:Int) % 4) (Int.tmod_eq_emod_of_nonneg (by omega))) ?_
 refine ab (bj rfl rfl)<|ag ?_
 refine ay rfl (fun hb1=>?_) (fun hb1=>?_)
 ·have hb1_:=bT hb1
  refine ae hP<|br hT rfl rfl rfl rfl rfl rfl<|aG hT rfl<|ag<|am ?_
  refine bI rfl (.inr rfl) (aP hT rfl rfl rfl rfl (cs:=[_,_,_,_,_,_]) rfl rfl) ?_ bt
  exact aF (by rw [mkF,if_pos (by omega)])
 have hb1_:=bF hb1
 refine au<|ae hP<|br hT rfl rfl rfl rfl rfl rfl<|ak rfl<|ab (bM rfl rfl (by decide) (c:=0) (by decide)) ?_
 refine aI hT rfl<|ab (aV hT rfl rfl rfl rfl rfl (by first | decide | omega)) ?_
 refine bi hT rfl rfl rfl rfl ?_
 refine ab (ah cu) ?_
 refine ab (ah (oQ _ _ _ _ _ _ _ lz lz lz lz lz lz lz)) ?_
 refine aG hT rfl<|ag<|am ?_
 refine bI rfl (.inr rfl) (aP hT rfl rfl rfl rfl (cs:=[_,_,_,_,_,_]) rfl rfl) ?_ bt
 exact aF (by rw [mkF,if_neg (by omega)];rfl)
end
section
open Go Go.AM
theorem KO (b:Bool) :
  aH Tryz.prog 188 [.p (.c (.v (.bool b)))] (Z (sgB b)):=by
 refine aM Tryz.func188 rfl rfl rfl rfl ?_
 refine ae hP<|aj rfl<|ag<|ao<|ae hP<|ak rfl<|ag ?_
 refine ay rfl (fun hb1=>?_) (fun hb1=>?_)
 ·refine ae hP<|aj rfl<|ag<|am<|E1 rfl rfl ?_
  exact aK (LQ hb1)
 refine au<|ae hP<|aj rfl<|ag<|am<|E1 rfl rfl ?_
 exact aK (LR hb1)
theorem xP (l:List Int) (x:Int) (hl:(l.length:Int)≤1000000) :
  aH Tryz.prog 222 [.p (.c (IS l)),Z x] (Z (ixV l x)):=by
 refine aM Tryz.func222 rfl rfl rfl rfl ?_
 refine ae hP<|aj rfl<|ag<|ao<|ae hP<|ak rfl<|ab (aX hT rfl rfl rfl (by rfl)) ?_
 refine ak rfl<|ag<|aC<|bl (ι:=Nat) (fun k=>stL [(0,.p (.c (IS l))),(1,Z x),(7,Z (l.length:Int)),(8,Z (k:Int))] []) (fun k=>k≤l.length∧k≤l.findIdx (· == x)) (fun k=>l.length - k) 0 ⟨Nat.zero_le _,Nat.zero_le _⟩ (aE ⟨.refl _,.refl _,.refl _,.refl _,trivial⟩ trivial) ?_
 rintro k ⟨hk1,hk2⟩
 refine ae hP<|ab (bh rfl rfl)<|ag<|ao ?_
 refine ay rfl (fun hb1=>?_) (fun hb1=>?_)
 ·have hb1_:=dT0 hb1
  refine au<|ao<|aC<|ae hP<|ak rfl<|aj rfl<|ag<|ae hP<|ak rfl<|ak rfl<|ak rfl<|ab (gi hT (n:=k) rfl rfl rfl rfl rfl rfl (by omega)) ?_
  refine ab (bV hT rfl rfl rfl rfl)<|ab (bj rfl rfl)<|ag ?_
  refine ay rfl (fun hb2=>?_) (fun hb2=>?_)
  ·have hb2_:=bT hb2
   refine ae hP<|ak rfl<|aj rfl<|ag<|am<|E1 rfl rfl ?_
   exact aK (KB hk2 hb1_ hb2_).symm
  have hb2_:=bF hb2
  refine au<|aw hP<|bA rfl rfl ?_
  refine ak rfl<|ag ?_
  have hn2:=yQ hk2 hb1_ hb2_
  refine ⟨k+1,⟨by omega,hn2⟩,by omega,aE ⟨.refl _,.refl _,.refl _,aK (by omega),trivial⟩ trivial⟩
 have hb1_:=dF0 hb1
 refine aW<|ae hP<|aj rfl<|ag<|am<|E1 rfl rfl ?_
 exact aK (KC hk2 hb1_).symm
theorem sK (l:List Int) (x:Int) (hl:(l.length:Int)≤1000000) :
  aH Tryz.prog 189 [.p (.c (IS l)),Z x] (B (qU l x)):=by
 refine aM Tryz.func189 rfl rfl rfl rfl ?_
 refine ae hP<|aj rfl<|ag<|ae hP<|ak rfl<|ak rfl<|ab (ah (xP l x hl)) ?_
 refine ab (dp rfl rfl)<|aj rfl<|ag<|am<|E1 rfl rfl ?_
 exact .refl _
theorem yN (m:Int) (l:List Int) (hm:0≤m) (hl:(l.length:Int)≤1000000) :
  aH Tryz.prog 187 [Z m,.ip [IS l]] (Z (sgB (qU l (m % 8)))):=by
 refine aM Tryz.func187 rfl rfl rfl rfl ?_
 refine ae hP<|aj rfl<|ag<|ae hP<|cO hT rfl rfl rfl ?_
 refine ak rfl<|ab (bM rfl rfl (by decide) (c:=m % 8) (Int.tmod_eq_emod_of_nonneg hm)) ?_
 refine ab (ah (sK l (m % 8) hl)) ?_
 refine ab (ah (KO _)) ?_
 refine aj rfl<|ag<|am<|E1 rfl rfl ?_
 exact .refl _
theorem KP (m p:Int) (hm:bu m) (hp:bu p) :
  aH Tryz.prog 186 [Z m,.ip [IC p]] (Z (kr m p)):=by
 have im:LB m 6:=⟨by unfold L;unfold bu at hm;omega⟩
 have ip:LB p 6:=⟨by unfold L;unfold bu at hp;omega⟩
 refine aM Tryz.func186 rfl rfl rfl rfl ?_
 refine ae hP<|aj rfl<|ag<|ae hP<|ak rfl<|ab (ah (eS m hm)) ?_
 refine cO hT rfl rfl rfl ?_
 refine ab (ah (eS p hp)) ?_
 refine ab (ah (jE _ _ lz lz)) ?_
 refine aj rfl<|ag<|am<|E1 rfl rfl ?_
 exact .refl _
theorem nc (c:Int) (l:List Int) :
  aH Tryz.prog 144 [Z c,.p (.c (IS l))] (.p (.a [IC c,.fn 187 [.ip [IS l]]])):=by
 refine aM Tryz.func144 rfl rfl rfl rfl ?_
 refine ae hP<|aq ai (aL rfl rfl)<|aq ai (aB hT rfl rfl)<|ag<|c9 (t:=3) rfl rfl ?_
 refine ae hP<|ak rfl<|ab (ky rfl)<|ab (aR hT rfl rfl rfl (es:=[_,_]) rfl)<|aG hT rfl<|ag<|am<|E2 hT rfl rfl rfl rfl rfl rfl rfl ?_
 exact .refl _
theorem MP (p:Int) (h:3≤p) (ho:p % 2=1) :
  aH Tryz.prog 143 [Z p] (.p (.a (chC 186 187 p))):=by
 refine aM Tryz.func143 rfl rfl rfl rfl ?_
 refine ae hP<|aq ai (aL rfl rfl)<|aq ai (aB hT rfl rfl)<|ag<|c9 (t:=1) rfl rfl ?_
 refine ae hP<|cO hT rfl rfl rfl ?_
 refine ab (ky rfl)<|ab (aR hT rfl rfl rfl (es:=[_,_]) rfl)<|aG hT rfl<|ag<|am<|E2 hT rfl rfl rfl rfl rfl rfl rfl ?_
 exact aF (by rw [← G5 h ho];rfl)
end
section
open Go Go.AM
theorem p7 (d:Int) (h0:d < 0) (h1:-4194304≤d) :
  aH Tryz.prog 78 [Z d] (.p (.c (CS 186 187 (chs d)))):=by
 refine aM Tryz.func78 rfl rfl rfl rfl ?_
 refine ae hP<|aj rfl<|ag<|ae hP<|aj rfl<|ag<|pk 3 1000 2 142 rfl rfl ?_
 refine ae hP<|ak rfl<|ab (dV rfl (c:=-d) (by rw [iW0 _ (by omega)];omega)) ?_
 refine aj rfl<|ag<|ao<|aC<|bl (ι:=Int) (fun m=>stL [(0,Z d),(3,.vec 1000),(4,Z m)] [(1000,CB 186 187 142 [])]) (fun m=>(0 < m∧m≤4194304)∧rmp m 2=(rmp (-d) 2)) (fun m=>m.toNat) (-d) ⟨by omega,rfl⟩ (aE ⟨.refl _,.refl _,.refl _,trivial⟩ ⟨rfl,trivial⟩) ?_
 rintro m ⟨hm,hr⟩
 refine ao<|ae hP<|ak rfl<|ab (bM rfl rfl (by omega) (c:=m % 2) (Int.tmod_eq_emod_of_nonneg (by omega))) ?_
 refine ab (bj rfl rfl)<|ag ?_
 refine ay rfl (fun hb1=>?_) (fun hb1=>?_)
 ·have hb1_:=bT hb1
  refine au<|aC<|aw hP<|ak rfl<|ab (cZ rfl rfl (by omega) (c:=m / 2) (by rw [Int.tdiv_eq_ediv_of_nonneg (by omega),iW0 _ (by omega)])) ?_
  refine aj rfl<|ag ?_
  have hdd:=gG hm.1 (by decide) hb1_
  refine ⟨m / 2,⟨by omega,by rw [gZ (by decide) hm.1 hb1_,hr]⟩,by omega,aE ⟨.refl _,.refl _,.refl _,trivial⟩ ⟨rfl,trivial⟩⟩
 have hb1_:=bF hb1
 refine aW<|ao<|ae hP<|aj rfl<|ag<|aC ?_
 have hm2:m=(rmp (-d) 2):=by rw [← hr,iM hb1_]
 refine bl (ι:=Int × Int × List Int) (fun q=>stL [(0,Z d),(3,.vec 1000),(4,Z q.1),(5,Z q.2.1)] [(1000,CB 186 187 142 q.2.2)]) (fun q=>OcI (rmp (-d) 2) q.1 q.2.1 q.2.2) (fun q=>ocM q.1 q.2.1) (m,3,[]) (by have:=OcI.start (n:=m) (by omega) (by omega) (by omega);rw [hm2] at this ⊢;exact this) (aE ⟨.refl _,.refl _,.refl _,.refl _,trivial⟩ ⟨rfl,trivial⟩) ?_
 intro q i
 have in1:=i.n1
 have inb:=i.nb
 have ip3:=i.p3
 have il:=i.len.1
 refine ao<|ae hP<|ak rfl<|ab (bJ rfl rfl)<|ag ?_
 refine ay rfl (fun hb2=>?_) (fun hb2=>?_)
 ·have hb2_:=dT0 hb2
  have ipb:=i.pb hb2_
  have hsq:=kP (x:=q.2.1) (m:=2051) (by omega)
  refine au<|ao<|aC<|cH (ι:=Int) (fun r=>stL [(0,Z d),(3,.vec 1000),(4,Z q.1),(5,Z r)] [(1000,CB 186 187 142 q.2.2)]) (fun r=>QI q.1 q.2.1 r) ?_ ?_
  ·refine ae hP<|ak rfl<|ak rfl<|ab (bQ rfl rfl (by first | exact iW0 _ (by omega) | rfl)) ?_
   refine ak rfl<|ab (bJ rfl rfl)<|ag ?_
   refine ay rfl (fun hb3=>?_) (fun hb3=>?_)
   ·have hb3_:=dT0 hb3
    refine aw hP<|ak rfl<|aj rfl<|ag ?_
    refine ⟨q.1,.inl ⟨rfl,hb3_⟩,aE ⟨.refl _,.refl _,.refl _,.refl _,trivial⟩ ⟨rfl,trivial⟩⟩
   have hb3_:=dF0 hb3
   refine au ?_
   refine ⟨q.2.1,.inr ⟨rfl,hb3_⟩,aE ⟨.refl _,.refl _,.refl _,.refl _,trivial⟩ ⟨rfl,trivial⟩⟩
  intro r hQ
  obtain ⟨hq3,hqo,hqb⟩:=i.q3 hb2_ hQ
  refine ao<|ae hP<|ak rfl<|ak rfl<|ab (bM rfl rfl (by omega) (c:=q.1 % r) (Int.tmod_eq_emod_of_nonneg (by omega))) ?_
  refine ab (bj rfl rfl)<|ag ?_
  refine ay rfl (fun hb4=>?_) (fun hb4=>?_)
  ·have hb4_:=bT hb4
   obtain ⟨out',ho',hR⟩:∃ o,o=q.2.2 ++ [r]∧RI q.1 q.2.1 r q.2.2 o:=⟨_,rfl,hQ.yes hb4_⟩
   refine aw hP<|ab (az (rfl:_=AV.vec _))<|ak rfl<|ab (ah (MP r hq3 hqo)) ?_
   refine ab (bg hT rfl rfl rfl (es:=[_,_]) rfl rfl rfl)<|RK.app ai (fB (fo:=186) (fs:=187) (c:=[r]) hT rfl rfl rfl rfl rfl rfl rfl rfl rfl (by simp only [List.length_cons,List.length_nil];omega) (by decide)) ?_
   refine ab (a8 (rfl:_=AV.vec _))<|ag<|cL 34 1000 rfl rfl rfl ?_
   refine aC<|bl (ι:=Int) (fun m=>stL [(0,Z d),(3,.vec 1000),(4,Z m),(5,Z r)] [(1000,CB 186 187 142 out')]) (fun m=>(0 < m∧m≤4194304)∧rmp m r=rmp q.1 r) (fun m=>m.toNat) q.1 ⟨by omega,rfl⟩ (aE ⟨.refl _,.refl _,.refl _,.refl _,trivial⟩ ⟨Eq.trans rfl (congrArg (fun x=>some (CB 186 187 142 x)) ho'.symm),trivial⟩) ?_
   rintro m ⟨hm,hrm⟩
   refine ao<|ae hP<|ak rfl<|ak rfl<|ab (bM rfl rfl (by omega) (c:=m % r) (Int.tmod_eq_emod_of_nonneg (by omega))) ?_
   refine ab (bj rfl rfl)<|ag ?_
   refine ay rfl (fun hb5=>?_) (fun hb5=>?_)
   ·have hb5_:=bT hb5
    have hdd:=gG hm.1 (by omega) ‹m % r=0›
    refine au<|aC<|aw hP<|ak rfl<|ak rfl<|ab (cZ rfl rfl (by omega) (c:=m / r) (by rw [Int.tdiv_eq_ediv_of_nonneg (by omega),iW0 _ (by omega)])) ?_
    refine aj rfl<|ag ?_
    refine ⟨m / r,⟨by omega,by rw [gZ (by omega) hm.1 ‹m % r=0›,hrm]⟩,by omega,aE ⟨.refl _,.refl _,.refl _,.refl _,trivial⟩ ⟨rfl,trivial⟩⟩
   have hb5_:=bF hb5
   refine aW<|aw hP<|ak rfl<|bA rfl rfl ?_
   refine aj rfl<|ag ?_
   have hcl:=i.close hb2_ hR
   have em:m=rmp q.1 r:=by rw [← hrm,iM ‹m % r≠0›]
   refine ⟨(rmp q.1 r,r+2,out'),hcl.1,hcl.2,aE ⟨.refl _,.refl _,aK em,.refl _,trivial⟩ ⟨rfl,trivial⟩⟩
  have hb4_:=bF hb4
  obtain ⟨out',ho',hR⟩:∃ o,o=q.2.2∧RI q.1 q.2.1 r q.2.2 o:=⟨_,rfl,hQ.no hb2_ hb4_⟩
  refine au<|aC<|bl (ι:=Int) (fun m=>stL [(0,Z d),(3,.vec 1000),(4,Z m),(5,Z r)] [(1000,CB 186 187 142 out')]) (fun m=>(0 < m∧m≤4194304)∧rmp m r=rmp q.1 r) (fun m=>m.toNat) q.1 ⟨by omega,rfl⟩ (aE ⟨.refl _,.refl _,.refl _,.refl _,trivial⟩ ⟨Eq.trans rfl (congrArg (fun x=>some (CB 186 187 142 x)) ho'.symm),trivial⟩) ?_
  rintro m ⟨hm,hrm⟩
  refine ao<|ae hP<|ak rfl<|ak rfl<|ab (bM rfl rfl (by omega) (c:=m % r) (Int.tmod_eq_emod_of_nonneg (by omega))) ?_
  refine ab (bj rfl rfl)<|ag ?_
  refine ay rfl (fun hb6=>?_) (fun hb6=>?_)
  ·have hb6_:=bT hb6
   have hdd:=gG hm.1 (by omega) ‹m % r=0›
   refine au<|aC<|aw hP<|ak rfl<|ak rfl<|ab (cZ rfl rfl (by omega) (c:=m / r) (by rw [Int.tdiv_eq_ediv_of_nonneg (by omega),iW0 _ (by omega)])) ?_
   refine aj rfl<|ag ?_
   refine ⟨m / r,⟨by omega,by rw [gZ (by omega) hm.1 ‹m % r=0›,hrm]⟩,by omega,aE ⟨.refl _,.refl _,.refl _,.refl _,trivial⟩ ⟨rfl,trivial⟩⟩
  have hb6_:=bF hb6
  refine aW<|aw hP<|ak rfl<|bA rfl rfl ?_
  refine aj rfl<|ag ?_
  have hcl:=i.close hb2_ hR
  have em:m=rmp q.1 r:=by rw [← hrm,iM ‹m % r≠0›]
  refine ⟨(rmp q.1 r,r+2,out'),hcl.1,hcl.2,aE ⟨.refl _,.refl _,aK em,.refl _,trivial⟩ ⟨rfl,trivial⟩⟩
 have hb2_:=dF0 hb2
 refine aW<|ao<|ae hP<|ak rfl<|ab (bM rfl rfl (by decide) (c:=d.tmod 4) rfl) ?_
 refine ab (bq rfl rfl)<|ag ?_
 refine ay rfl (fun hb7=>?_) (fun hb7=>?_)
 ·have hb7_:=b8 hb7
  refine ae hP<|ab (az (rfl:_=AV.vec _))<|ab (a8 (rfl:_=AV.vec _))<|ag<|eK (t:=2) rfl rfl ?_
  refine am<|E1 rfl rfl ?_
  exact aF (by rw [i.fin hb2_,EX hb7_])
 have hb7_:=bU hb7
 refine au<|ae hP<|ab (bg hT rfl rfl rfl (es:=[_,_]) rfl rfl rfl)<|ab (ah (nc (-4) [1,5])) ?_
 refine ab (bg hT rfl rfl rfl (es:=[_,_]) rfl rfl rfl)<|ab (ah (nc 8 [1,7])) ?_
 refine ab (bg hT rfl rfl rfl (es:=[_,_]) rfl rfl rfl)<|ab (ah (nc (-8) [1,3])) ?_
 refine aq ai (aB hT rfl rfl)<|aq ai (aB hT rfl rfl)<|aq ai (aB hT rfl rfl)<|aG hT rfl<|aG hT rfl<|aG hT rfl<|ag<|ao<|ae hP<|ak rfl<|ab (dV rfl (c:=-d) (by rw [iW0 _ (by omega)];omega)) ?_
 refine ab (cZ rfl rfl (by omega) (c:=-d / 4) (by rw [Int.tdiv_eq_ediv_of_nonneg (by omega),iW0 _ (by omega)])) ?_
 refine ab (bM rfl rfl (by omega) (c:=-d / 4 % 8) (Int.tmod_eq_emod_of_nonneg (by omega))) ?_
 refine ag<|aC<|ae hP<|ab (bj rfl rfl)<|aj rfl<|ag ?_
 refine ay rfl (fun hb8=>?_) (fun hb8=>?_)
 ·have hb8_:=bT hb8
  refine aw hP<|ab (az (rfl:_=AV.vec _))<|av hT rfl<|av hT rfl<|ab (bg hT rfl rfl rfl (es:=[_,_,_,_]) rfl rfl rfl)<|RK.app ai (fB (fo:=186) (fs:=187) (c:=[-4,8]) hT rfl rfl rfl rfl rfl rfl rfl rfl rfl (by simp only [List.length_cons,List.length_nil];omega) (by decide)) ?_
  refine ab (a8 (rfl:_=AV.vec _))<|ag<|cL 62 1000 rfl rfl rfl ?_
  refine ae hP<|ab (az (rfl:_=AV.vec _))<|ab (a8 (rfl:_=AV.vec _))<|ag<|eK (t:=2) rfl rfl ?_
  refine am<|E1 rfl rfl ?_
  exact aF (by rw [i.fin hb2_,n9 hb7_ (LO hb7_ hb8_)])
 have hb8_:=bF hb8
 refine ao<|ae hP<|ab (bj rfl rfl)<|aj rfl<|ag ?_
 refine ay rfl (fun hb9=>?_) (fun hb9=>?_)
 ·have hb9_:=bT hb9
  refine au<|aU rfl hb9<|aw hP<|ab (az (rfl:_=AV.vec _))<|av hT rfl<|ab (bg hT rfl rfl rfl (es:=[_,_]) rfl rfl rfl)<|RK.app ai (fB (fo:=186) (fs:=187) (c:=[-4]) hT rfl rfl rfl rfl rfl rfl rfl rfl rfl (by simp only [List.length_cons,List.length_nil];omega) (by decide)) ?_
  refine ab (a8 (rfl:_=AV.vec _))<|ag<|cL 70 1000 rfl rfl rfl ?_
  refine ae hP<|ab (az (rfl:_=AV.vec _))<|ab (a8 (rfl:_=AV.vec _))<|ag<|eK (t:=2) rfl rfl ?_
  refine am<|E1 rfl rfl ?_
  exact aF (by rw [i.fin hb2_,n9 hb7_ (xN hb7_ hb8_ (.inl hb9_))])
 have hb9_:=bF hb9
 refine ae hP<|ab (bj rfl rfl)<|aj rfl<|ag ?_
 refine ay rfl (fun hb10=>?_) (fun hb10=>?_)
 ·have hb10_:=bT hb10
  refine au<|aU rfl hb10<|aw hP<|ab (az (rfl:_=AV.vec _))<|av hT rfl<|ab (bg hT rfl rfl rfl (es:=[_,_]) rfl rfl rfl)<|RK.app ai (fB (fo:=186) (fs:=187) (c:=[-4]) hT rfl rfl rfl rfl rfl rfl rfl rfl rfl (by simp only [List.length_cons,List.length_nil];omega) (by decide)) ?_
  refine ab (a8 (rfl:_=AV.vec _))<|ag<|cL 70 1000 rfl rfl rfl ?_
  refine ae hP<|ab (az (rfl:_=AV.vec _))<|ab (a8 (rfl:_=AV.vec _))<|ag<|eK (t:=2) rfl rfl ?_
  refine am<|E1 rfl rfl ?_
  exact aF (by rw [i.fin hb2_,n9 hb7_ (xN hb7_ hb8_ (.inr (.inl hb10_)))])
 have hb10_:=bF hb10
 refine aw hP<|ab (bj rfl rfl)<|aj rfl<|ag ?_
 refine ay rfl (fun hb11=>?_) (fun hb11=>?_)
 ·have hb11_:=bT hb11
  refine aw hP<|ab (az (rfl:_=AV.vec _))<|av hT rfl<|ab (bg hT rfl rfl rfl (es:=[_,_]) rfl rfl rfl)<|RK.app ai (fB (fo:=186) (fs:=187) (c:=[-4]) hT rfl rfl rfl rfl rfl rfl rfl rfl rfl (by simp only [List.length_cons,List.length_nil];omega) (by decide)) ?_
  refine ab (a8 (rfl:_=AV.vec _))<|ag<|cL 70 1000 rfl rfl rfl ?_
  refine ae hP<|ab (az (rfl:_=AV.vec _))<|ab (a8 (rfl:_=AV.vec _))<|ag<|eK (t:=2) rfl rfl ?_
  refine am<|E1 rfl rfl ?_
  exact aF (by rw [i.fin hb2_,n9 hb7_ (xN hb7_ hb8_ (.inr (.inr hb11_)))])
 have hb11_:=bF hb11
 refine ae hP<|ab (bj rfl rfl)<|aj rfl<|ag ?_
 refine ay rfl (fun hb12=>?_) (fun hb12=>?_)
 ·have hb12_:=bT hb12
  refine aw hP<|ab (az (rfl:_=AV.vec _))<|av hT rfl<|ab (bg hT rfl rfl rfl (es:=[_,_]) rfl rfl rfl)<|RK.app ai (fB (fo:=186) (fs:=187) (c:=[-8]) hT rfl rfl rfl rfl rfl rfl rfl rfl rfl (by simp only [List.length_cons,List.length_nil];omega) (by decide)) ?_
  refine ab (a8 (rfl:_=AV.vec _))<|ag<|cL 76 1000 rfl rfl rfl ?_
  refine ae hP<|ab (az (rfl:_=AV.vec _))<|ab (a8 (rfl:_=AV.vec _))<|ag<|eK (t:=2) rfl rfl ?_
  refine am<|E1 rfl rfl ?_
  exact aF (by rw [i.fin hb2_,n9 hb7_ (LN hb7_ hb12_)])
 have hb12_:=bF hb12
 refine ae hP<|ab (bj rfl rfl)<|aj rfl<|ag ?_
 refine ay rfl (fun hb13=>?_) (fun hb13=>?_)
 ·have hb13_:=bT hb13
  refine aw hP<|ab (az (rfl:_=AV.vec _))<|av hT rfl<|ab (bg hT rfl rfl rfl (es:=[_,_]) rfl rfl rfl)<|RK.app ai (fB (fo:=186) (fs:=187) (c:=[8]) hT rfl rfl rfl rfl rfl rfl rfl rfl rfl (by simp only [List.length_cons,List.length_nil];omega) (by decide)) ?_
  refine ab (a8 (rfl:_=AV.vec _))<|ag<|cL 82 1000 rfl rfl rfl ?_
  refine ae hP<|ab (az (rfl:_=AV.vec _))<|ab (a8 (rfl:_=AV.vec _))<|ag<|eK (t:=2) rfl rfl ?_
  refine am<|E1 rfl rfl ?_
  exact aF (by rw [i.fin hb2_,n9 hb7_ (LL hb7_ hb13_)])
 have hb13_:=bF hb13
 refine au<|ae hP<|ab (az (rfl:_=AV.vec _))<|ab (a8 (rfl:_=AV.vec _))<|ag<|eK (t:=2) rfl rfl ?_
 refine am<|E1 rfl rfl ?_
 exact aF (by rw [i.fin hb2_,LJ hb7_ hb8_ hb9_ hb10_ hb11_ hb12_ hb13_])
end
section
open Go Go.AM
theorem CW (x:Int) (hx:18446744073709551616≤x.natAbs) :
  aH Tryz.prog 125 [I x] (.t [.c (.v (.int .i64 (lwV x))),PB (lwO x)]):=by
 have hl:¬ (wl x.natAbs).length≤2:=fun h=>by have:=lx h;omega
 refine aM Tryz.func125 rfl rfl rfl rfl ?_
 refine ae hP<|aq ai (aL rfl rfl)<|aj rfl<|aj rfl<|ag<|ao<|ae hP<|aI hT rfl<|bi hT rfl rfl rfl rfl ?_
 refine ab (aX hT rfl rfl rfl rfl)<|ab (bJ rfl rfl)<|ag<|aU rfl (decide_eq_true (by omega)) ?_
 refine ae hP<|aj rfl<|aj rfl<|ag<|am<|E11 rfl rfl rfl ?_
 exact aF (sW (by omega))
theorem CX (x:Int):aH Tryz.prog 125 [I x] (.t [.c (.v (.int .i64 (lwV x))),PB (lwO x)]):=by
 by_cases h:x.natAbs < 9223372036854775808
 ·have h1:=kh x (by omega) (by omega)
  have h2:=qR (a:=x) (by omega)
  rw [h2.1,h2.2];exact h1
 by_cases h1:x.natAbs < 18446744073709551616
 ·exact CV x (by omega)
 exact CW x (by omega)
theorem xk (d:Int) (hd:L 40 d) :
  aH Tryz.prog 142 [I d] (.t [PE (gnV d),PE (szE d)]):=by
 have id0:LB d 40:=⟨hd⟩
 have hm0:=Int.emod_nonneg d (show (4:Int)≠0 by omega)
 have hm1:=Int.emod_lt_of_pos d (show (0:Int) < 4 by omega)
 refine aM Tryz.func142 rfl rfl rfl rfl ?_
 refine ae hP<|aq ai (aL rfl rfl)<|aj rfl<|aj rfl<|ag<|ae hP<|av hT rfl<|ab (ah (eS 4 (by decide))) ?_
 refine ab (ah (dZ d 4 lz lz (by decide))) ?_
 refine ab (az (rfl:_=AV.t _))<|ab (aD rfl (v:=.a _) rfl)<|ab (aD rfl (v:=.a _) rfl)<|ab (aD rfl (v:=.c _) rfl)<|aq ai (aB hT rfl rfl)<|aq ai (aB hT rfl rfl)<|aG hT rfl<|aG hT rfl<|aj rfl<|ag<|ae hP<|av hT rfl<|ab (ah (CX d)) ?_
 refine ab (az (rfl:_=AV.t _))<|ab (aD rfl (v:=.c _) rfl)<|ab (aD rfl (v:=.c _) rfl)<|aj rfl<|aj rfl<|ag<|ao<|aC<|ae hP<|av hT rfl<|ab (ah (dy _)) ?_
 refine ab (dp rfl rfl)<|ak rfl ?_
 refine aY (t:=25) rfl (fun hg1=>?_) (fun hg1=>?_)
 ·have hg1_:=dT0 hg1
  iterate 4 refine aZ hg1 ?_
  refine ab (aO rfl hg1 (rfl:_=AV.p (.c _)))<|aj rfl<|ag<|aU rfl rfl<|ae hP<|aj rfl<|aj rfl<|ag<|am<|E11 rfl rfl rfl ?_
  exact aF (yK (.inl (sgn_ge_iff.1 hg1_)))
 have hg1_:=dF0 hg1
 refine aA hg1 (aJ hT rfl rfl rfl rfl (cs:=[_,_]) rfl rfl) ?_
 refine aA hg1 (ah (eS 1 (by decide))) ?_
 refine aA hg1 (ah (dO _ _)) ?_
 refine aA hg1 (bJ rfl rfl) ?_
 refine ab (aN rfl hg1 (rfl:_=AV.p (.c _)))<|aj rfl<|ag ?_
 refine ay rfl (fun hb2=>?_) (fun hb2=>?_)
 ·have hb2_:=dT0 hb2
  refine ae hP<|aj rfl<|aj rfl<|ag<|am<|E11 rfl rfl rfl ?_
  exact aF (yK (.inr (cmpI_gt_zero.1 hb2_)))
 have hb2_:=dF0 hb2
 have hn:¬ (0≤d∨d % 4 > 1):=fun h=>h.elim (fun x=>hg1_ (sgn_ge_iff.2 x)) (fun x=>hb2_ (cmpI_gt_zero.2 x))
 refine ae hP<|ak rfl<|ab (bw rfl)<|ak rfl ?_
 refine aY (t:=34) rfl (fun hg3=>?_) (fun hg3=>?_)
 ·have hg3_:=(bY hg3)
  refine aZ hg3 ?_
  refine aZ hg3 ?_
  refine ab (aO rfl hg3 (rfl:_=AV.p (.c _)))<|aj rfl<|ag<|aU rfl rfl<|ae hP<|aj rfl<|aj rfl<|ag<|am<|E11 rfl rfl rfl ?_
  exact aF (C3 hn (by have:=MB hg3_;omega))
 have hg3_:=(bW hg3)
 have hly:=qR (lwO_iff.1 hg3_)
 refine aA hg3 (az (rfl:_=AV.p (.c _))) ?_
 refine aA hg3 (bh rfl rfl) ?_
 refine ab (aN rfl hg3 (rfl:_=AV.p (.c _)))<|aj rfl<|ag ?_
 refine ay rfl (fun hb4=>?_) (fun hb4=>?_)
 ·have hb4_:=dT0 hb4
  refine ae hP<|aj rfl<|aj rfl<|ag<|am<|E11 rfl rfl rfl ?_
  exact aF (C3 hn (by have:=hly.2;omega))
 have hb4_:=dF0 hb4
 refine au<|ae hP<|ak rfl<|aj rfl<|aj rfl<|ag<|am<|E11 rfl rfl rfl ?_
 exact aF (by rw [hly.2];exact KL hn (by have:=hly.2;omega))
theorem uR (d:Int) (hd:L 40 d) :
  aH Tryz.prog 139 [I d] (.t [.c (IS (chE d)),PE (szE d)]):=by
 have id0:LB d 40:=⟨hd⟩
 refine aM Tryz.func139 rfl rfl rfl rfl ?_
 refine ae hP<|aq ai (aL rfl rfl)<|aj rfl<|aj rfl<|ag<|ae hP<|av hT rfl<|ab (ah (xk _ hd)) ?_
 refine ab (az (rfl:_=AV.t _))<|ab (aD rfl (v:=.c _) rfl)<|ab (aD rfl (v:=.c _) rfl)<|aj rfl<|aj rfl<|ag<|ao<|ae hP<|ak rfl<|ab (bq rfl rfl)<|ag ?_
 refine ay rfl (fun hb1=>?_) (fun hb1=>?_)
 ·have hb1_:=b8 hb1
  refine ae hP<|ak rfl<|aj rfl<|aj rfl<|ag<|am<|E11 rfl rfl rfl ?_
  exact (by rw [EY hb1_];exact Sub.tup ⟨DSub.nil_sl,DSub.refl _,trivial⟩)
 have hb1_:=bU hb1
 have he:szE d=0:=hb1_
 obtain ⟨e1,e2,e3⟩:=pX he
 have cAs:aH Tryz.prog 78 [Z (gnV d)] (.p (.c (CS 186 187 (chs d)))):=by rw [e1];exact p7 d e2 e3
 have hcl:=lE e2 e3
 generalize hl:chs d=l at cAs hcl
 refine au<|ae hP<|aj rfl<|ag<|pk 6 1000 1 3 rfl rfl ?_
 refine ao<|ae hP<|ak rfl<|ab (ah cAs) ?_
 refine ab (aX hT rfl rfl rfl (by rfl)) ?_
 refine ak rfl<|ag<|aC<|bl (ι:=Nat) (fun k=>stL [(6,.vec 1000),(18,.p (.c (CS 186 187 l))),(19,Z (l.length:Int)),(20,Z (k:Int))] [(1000,IB 3 (l.take k))]) (fun k=>k≤l.length) (fun k=>l.length - k) 0 (Nat.zero_le _) (aE ⟨.refl _,.refl _,.refl _,.refl _,trivial⟩ ⟨rfl,trivial⟩) ?_
 intro k hk
 refine ae hP<|ab (bh rfl rfl)<|ag<|ao ?_
 refine ay rfl (fun hb2=>?_) (fun hb2=>?_)
 ·have hb2_:=dT0 hb2
  refine au<|ao<|aC<|ae hP<|ab (rW (fo:=186) (fs:=187) (n:=(k:Int)) hT rfl rfl rfl rfl rfl rfl (by omega)) ?_
  refine ab (bf hT rfl rfl rfl (cs:=chC 186 187 (l.getD k 0)) rfl rfl) ?_
  refine aq ai (aB hT rfl rfl)<|aG hT rfl<|ag<|aw hP<|ab (az (rfl:_=AV.vec _))<|aI hT rfl<|bi hT rfl rfl rfl rfl ?_
  refine ab (bg hT rfl rfl rfl (es:=[_]) rfl rfl rfl)<|RK.app ai (dN (z:=l.getD k 0) hT rfl rfl rfl rfl rfl rfl rfl rfl (by rw [List.length_take];omega) (by decide)) ?_
  refine ab (a8 (rfl:_=AV.vec _))<|ag<|cL 28 1000 rfl rfl rfl ?_
  refine aw hP<|bA rfl rfl ?_
  refine ak rfl<|ag ?_
  refine ⟨k+1,by omega,by omega,aE ⟨.refl _,.refl _,.refl _,aK (by omega),trivial⟩ ⟨Eq.trans rfl (congrArg (fun x=>some (IB 3 x)) (rq hb2_)),trivial⟩⟩
 have hb2_:=dF0 hb2
 refine aW<|gQ (t:=6) rfl rfl ?_
 refine ae hP<|ak rfl<|aj rfl<|aj rfl<|ag<|am<|E11 rfl rfl rfl ?_
 exact aF (by rw [oH hb2_,he,s9 he,hl])
end
section
open Go Go.AM
theorem sZ (a b:Int) (ha:bu a) (hb:bu b) :
  aH Tryz.prog 76 [Z a,Z b] (Z (gg a b)):=by
 refine aM Tryz.func76 rfl rfl rfl rfl ?_
 refine ae hP<|aj rfl<|ag<|ao<|aC<|bl (ι:=Int × Int) (fun p=>stL [(0,Z p.1),(1,Z p.2)] []) (fun p=>gg p.1 p.2=gg a b∧bu p.1∧bu p.2) (fun p=>p.2.natAbs) (a,b) ⟨rfl,ha,hb⟩ (aE ⟨.refl _,.refl _,trivial⟩ trivial) ?_
 rintro p ⟨hG,hp1,hp2⟩
 refine ao<|ae hP<|ak rfl<|ab (bq rfl rfl)<|ag ?_
 refine ay rfl (fun hb1=>?_) (fun hb1=>?_)
 ·have hb1_:=b8 hb1
  refine au<|aC<|aw hP<|ak rfl<|ak rfl<|ak rfl<|ab (bM rfl rfl hb1_ (c:=p.1.tmod p.2) rfl) ?_
  refine aj rfl<|aj rfl<|ag ?_
  have ht:=Je hp1 hp2 hb1_
  refine ⟨(p.2,p.1.tmod p.2),⟨(HG hb1_).trans hG,hp2,ht.1⟩,ht.2,aE ⟨.refl _,.refl _,trivial⟩ trivial⟩
 have hb1_:=bU hb1
 refine aW<|ae hP<|ak rfl<|aj rfl<|ag<|am<|E1 rfl rfl ?_
 exact aK (by rw [← hG,NY hb1_])
theorem EP (x:Int) (h:-9223372036854775808 < x∧x≤9223372036854775807) :
  aH Tryz.prog 77 [Z x] (Z (x.natAbs:Int)):=by
 refine aM Tryz.func77 rfl rfl rfl rfl ?_
 refine ae hP<|aj rfl<|ag<|ae hP<|ak rfl<|ak rfl<|ab (dV rfl (by first | exact iW0 _ (by omega) | rfl)) ?_
 refine ab (pS rfl rfl)<|aj rfl<|ag<|am<|E1 rfl rfl ?_
 exact aK (by split <;> omega)
theorem vY (f:Fm) (hfa:L 6 f.a) (hfb:L 6 f.b) (hfc:L 6 f.c) :
  aH Tryz.prog 74 [FA f.a f.b f.c] (.t [PE (gpV f),PE (gpE f)]):=by
 have ifa:LB f.a 6:=⟨hfa⟩
 have ifb:LB f.b 6:=⟨hfb⟩
 have ifc:LB f.c 6:=⟨hfc⟩
 refine aM Tryz.func74 rfl rfl rfl rfl ?_
 refine ae hP<|aq ai (aL rfl rfl)<|aj rfl<|aj rfl<|ag<|ao<|ae hP<|br hT rfl rfl rfl rfl rfl rfl<|ab (ah (nP f.a f.b f.c lz lz lz)) ?_
 refine aj rfl<|ag<|ae hP<|ak rfl<|ab (bq rfl rfl)<|ag ?_
 refine ay rfl (fun hb1=>?_) (fun hb1=>?_)
 ·have hb1_:=b8 hb1
  refine ae hP<|ak rfl<|aj rfl<|aj rfl<|ag<|am<|E11 rfl rfl rfl ?_
  exact aF (KK hb1_)
 have hb1_:=bU hb1
 refine au<|ae hP<|br hT rfl rfl rfl rfl rfl rfl<|ab (ah (gh f.a f.b f.c lz lz lz)) ?_
 refine ab (ah (xk _ lz)) ?_
 refine ab (az (rfl:_=AV.t _))<|ab (aD rfl (v:=.c _) rfl)<|ab (aD rfl (v:=.c _) rfl)<|aj rfl<|aj rfl<|ag<|ao<|ae hP<|ak rfl<|ab (bj rfl rfl)<|ak rfl ?_
 refine aY (t:=20) rfl (fun hg2=>?_) (fun hg2=>?_)
 ·have hg2_:=bT hg2
  refine aA hg2 (aJ hT rfl rfl rfl rfl (cs:=[_,_,_,_,_,_]) rfl rfl) ?_
  refine aA hg2 (ah (kW f.a f.b f.c lz lz lz)) ?_
  refine aA hg2 (bw rfl) ?_
  refine ab (aO rfl hg2 (rfl:_=AV.p (.c _)))<|ag ?_
  refine ay rfl (fun hb3=>?_) (fun hb3=>?_)
  ·have hb3_:=(bY hb3)
   refine ae hP<|aj rfl<|aj rfl<|ag<|am<|E11 rfl rfl rfl ?_
   exact aF (KJ hb1_ hg2_ hb3_)
  have hb3_:=(bW hb3)
  refine au<|ae hP<|ak rfl<|ak rfl<|aj rfl<|aj rfl<|ag<|am<|E11 rfl rfl rfl ?_
  exact aF (KI hb1_ hg2_ hb3_)
 have hg2_:=bF hg2
 iterate 3 refine aZ hg2 ?_
 refine ab (aN rfl hg2 (rfl:_=AV.p (.c _)))<|ag<|aQ rfl rfl<|au<|ae hP<|ak rfl<|ak rfl<|aj rfl<|aj rfl<|ag<|am<|E11 rfl rfl rfl ?_
 exact aF (KH hb1_ hg2_)
theorem HH (f:Fm) (d:Int) (hf:Cl d f) (hd:-4194304≤d) (hfa:L 6 f.a) (hfb:L 6 f.b) (hfc:L 6 f.c) :
  aH Tryz.prog 75 [FA f.a f.b f.c] (.t [PE f.rd.a,PE f.rd.b,PE f.rd.c]):=by
 have ifa:LB f.a 6:=⟨hfa⟩
 have ifb:LB f.b 6:=⟨hfb⟩
 have ifc:LB f.c 6:=⟨hfc⟩
 have cR:aH Tryz.prog 41 [FA f.a f.b f.c] (.t [PF f.rd,PM (rdM f.a f.b f.c),PE (rdE f.a f.b f.c)]):=jk f.a f.b f.c lz lz lz
 rw [ie hf.pos] at cR
 obtain ⟨⟨s1,s2⟩,⟨s3,s4⟩,s5,s6⟩:=oO hf.rd hf.rd_rd hd
 generalize rdM f.a f.b f.c=M at cR
 generalize f.rd=g at *
 have l1:=kh g.a (by omega) (by omega)
 have l2:=kh g.b (by omega) (by omega)
 have l3:=kh g.c (by omega) (by omega)
 refine aM Tryz.func75 rfl rfl rfl rfl ?_
 refine ae hP<|aq ai (aL rfl rfl)<|aj rfl<|aj rfl<|aj rfl<|ag<|ae hP<|br hT rfl rfl rfl rfl rfl rfl<|ab (ah cR) ?_
 refine ab (az (rfl:_=AV.t _))<|ab (aD rfl (v:=.a _) rfl)<|ab (aD rfl (v:=.a _) rfl)<|ab (aD rfl (v:=.c _) rfl)<|aq ai (aB hT rfl rfl)<|aq ai (aB hT rfl rfl)<|aG hT rfl<|aG hT rfl<|aj rfl<|ag<|ae hP<|aI hT rfl<|av hT rfl<|ab (ah l1) ?_
 refine ab (az (rfl:_=AV.t _))<|ab (aD rfl (v:=.c _) rfl)<|ab (aD rfl (v:=.c _) rfl)<|aj rfl<|ag<|ae hP<|aI hT rfl<|av hT rfl<|ab (ah l2) ?_
 refine ab (az (rfl:_=AV.t _))<|ab (aD rfl (v:=.c _) rfl)<|ab (aD rfl (v:=.c _) rfl)<|aj rfl<|ag<|ae hP<|aI hT rfl<|av hT rfl<|ab (ah l3) ?_
 refine ab (az (rfl:_=AV.t _))<|ab (aD rfl (v:=.c _) rfl)<|ab (aD rfl (v:=.c _) rfl)<|aj rfl<|ag<|ae hP<|ak rfl<|ak rfl<|ak rfl<|aj rfl<|aj rfl<|aj rfl<|ag<|am ?_
 refine cK rfl (.inr rfl) (bK rfl) (bK rfl) (bK rfl) ?_ bt
 exact .refl _
theorem C5 (f:Fm) (hfa:L 6 f.a) (hfb:L 6 f.b) (hfc:L 6 f.c) (hx:gpE f=0→∃ x y:Int,0≤x∧x≤1400000∧0≤y∧y≤1400000∧Int.gcd (vl f.rd.a f.rd.b f.rd.c x y) (2*dsc f.a f.b f.c)=1) :
  aH Tryz.prog 19 [FA f.a f.b f.c] (.t [.c (IS (gvL f)),PE (gpE f)]):=by
 have ifa:LB f.a 6:=⟨hfa⟩
 have ifb:LB f.b 6:=⟨hfb⟩
 have ifc:LB f.c 6:=⟨hfc⟩
 have cP:=vY f hfa hfb hfc
 refine aM Tryz.func19 rfl rfl rfl rfl ?_
 refine ae hP<|aq ai (aL rfl rfl)<|aj rfl<|aj rfl<|ag<|ae hP<|br hT rfl rfl rfl rfl rfl rfl<|ab (ah cP) ?_
 refine ab (az (rfl:_=AV.t _))<|ab (aD rfl (v:=.c _) rfl)<|ab (aD rfl (v:=.c _) rfl)<|aj rfl<|aj rfl<|ag<|ao<|ae hP<|ak rfl<|ab (bq rfl rfl)<|ag ?_
 refine ay rfl (fun hb1=>?_) (fun hb1=>?_)
 ·have hb1_:=b8 hb1
  refine ae hP<|ak rfl<|aj rfl<|aj rfl<|ag<|am<|E11 rfl rfl rfl ?_
  exact (by rw [EM hb1_];exact Sub.tup ⟨DSub.nil_sl,DSub.refl _,trivial⟩)
 have hb1_:=bU hb1
 have he:gpE f=0:=hb1_
 obtain ⟨hf,hE⟩:=uK he
 obtain ⟨hgn,hd0,hd1⟩:=pX hE
 have hxx:=hx he
 have eV:gpV f=dsc f.a f.b f.c:=by unfold gpV;rw [if_pos he]
 have cS:=HH f _ hf hd1 hfa hfb hfc
 have cA0:=p7 _ hd0 hd1
 have hmap:=fun (N:Int) (h1:RpN f.rd N) (h2:Int.gcd N (2*dsc f.a f.b f.c)=1)=>Au hf hd1 hd0 hE h1 h2
 have hcb:=fun (c:Int) (h:c∈chs (dsc f.a f.b f.c))=>qh hd0 hd1 h
 have hcl:=lE hd0 hd1
 obtain ⟨⟨s1,s2⟩,⟨s3,s4⟩,s5,s6⟩:=oO hf.rd hf.rd_rd hd1
 have hg:=hf.rd
 rw [eV]
 generalize dsc f.a f.b f.c=d at *
 generalize f.rd=g at *
 have j2:bu (2*d):=by unfold bu;omega
 refine au<|ae hP<|br hT rfl rfl rfl rfl rfl rfl<|ab (ah cS) ?_
 refine ab (az (rfl:_=AV.t _))<|ab (aD rfl (v:=.c _) rfl)<|ab (aD rfl (v:=.c _) rfl)<|ab (aD rfl (v:=.c _) rfl)<|aj rfl<|aj rfl<|aj rfl<|ag<|ae hP<|ak rfl<|aj rfl<|ag<|cH (ι:=Int) (fun N=>stL [(4,Z d),(9,Z N)] []) (fun N=>RpN g N∧(-9000000000000000000≤N∧N≤9000000000000000000)∧Int.gcd N (2*d)=1) ?_ ?_
 ·refine ae hP<|aj rfl<|ag<|aC<|bl (ι:=Int × Int) (fun q=>stL [(4,Z d),(6,Z g.a),(7,Z g.b),(8,Z g.c),(9,Z q.1),(10,Z q.2)] []) (fun q=>(RpN g q.1∧(-9000000000000000000≤q.1∧q.1≤9000000000000000000)∧(1≤q.2∧q.2≤1400001)∧(Int.gcd q.1 (2*d)=1∨NoP g d q.2))) (fun q=>(1400001 - q.2).toNat) (g.a,1) ⟨⟨1,0,by unfold vl;simp⟩,by simp only;omega,by simp only;omega,.inr (NoP.start hd0)⟩ (aE ⟨.refl _,.refl _,.refl _,.refl _,.refl _,.refl _,trivial⟩ trivial) ?_
  rintro q ⟨hq1,hq2,hq3,hq4⟩
  have jn:bu q.1:=by unfold bu;omega
  refine ao<|ae hP<|ak rfl<|ak rfl<|ab (bQ rfl rfl (by first | exact iW0 _ (by omega) | rfl)) ?_
  refine ab (ah (sZ _ _ jn j2)) ?_
  refine ab (bq rfl rfl)<|ak rfl ?_
  refine aY (t:=35) rfl (fun hg2=>?_) (fun hg2=>?_)
  ·have hg2_:=b8 hg2
   refine aA hg2 (az (rfl:_=AV.p (.c _))) ?_
   refine aA hg2 (az (rfl:_=AV.p (.c _))) ?_
   refine aA hg2 (bQ rfl rfl (by first | exact iW0 _ (by omega) | rfl)) ?_
   refine aA hg2 (ah (sZ _ _ jn j2)) ?_
   refine aA hg2 (bq rfl rfl) ?_
   refine ab (aO rfl hg2 (rfl:_=AV.p (.c _)))<|ag ?_
   refine ay rfl (fun hb3=>?_) (fun hb3=>?_)
   ·have hb3_:=b8 hb3
    have hNP:NoP g d q.2:=hq4.resolve_left (fun e=>(gg_one.1 e).elim hg2_ hb3_)
    have hle:=hNP.le hxx
    refine au<|cH (ι:=Int) (fun m=>stL [(4,Z d),(6,Z g.a),(7,Z g.b),(8,Z g.c),(9,Z m),(10,Z q.2)] []) (fun m=>(RpN g m∧(-9000000000000000000≤m∧m≤9000000000000000000)∧(Int.gcd m (2*d)=1∨NoX g d q.2 (q.2+1)))) ?_ ?_
    ·refine aC<|ae hP<|aj rfl<|ag<|aC<|bl (ι:=Int × Int) (fun r=>stL [(4,Z d),(6,Z g.a),(7,Z g.b),(8,Z g.c),(9,Z r.2),(10,Z q.2),(11,Z r.1)] []) (fun r=>(0≤r.1∧r.1≤q.2+1)∧RpN g r.2∧(-9000000000000000000≤r.2∧r.2≤9000000000000000000)∧NoX g d q.2 r.1) (fun r=>(q.2+1 - r.1).toNat) (0,q.1) ⟨by simp only;omega,hq1,hq2,NoX.start⟩ (aE ⟨.refl _,.refl _,.refl _,.refl _,.refl _,.refl _,.refl _,trivial⟩ trivial) ?_
     rintro r ⟨hr1,hr2,hr3,hr4⟩
     refine ao<|ae hP<|ak rfl<|ak rfl<|ab (ej rfl rfl)<|ag ?_
     refine ay rfl (fun hb4=>?_) (fun hb4=>?_)
     ·have hb4_:=dT0 hb4
      have hG:=gb (a:=g.a) (b:=g.b) (c:=g.c) (x:=r.1) (y:=q.2) (by omega) (by omega) (by omega) (by omega) (by omega)
      have hH:=gb (a:=g.a) (b:=g.b) (c:=g.c) (x:=q.2) (y:=r.1) (by omega) (by omega) (by omega) (by omega) (by omega)
      have ev1:g.a*r.1*r.1+g.b*r.1*q.2+g.c*q.2*q.2=(vl g.a g.b g.c r.1 q.2):=rfl
      have ev2:g.a*q.2*q.2+g.b*r.1*q.2+g.c*r.1*r.1=(vl g.a g.b g.c q.2 r.1):=Ly g.a g.b g.c r.1 q.2
      have jv1:bu (g.a*r.1*r.1+g.b*r.1*q.2+g.c*q.2*q.2):=by unfold bu;omega
      have jv2:bu (g.a*q.2*q.2+g.b*r.1*q.2+g.c*r.1*r.1):=by unfold bu;omega
      have hv1b:-9000000000000000000≤(vl g.a g.b g.c r.1 q.2)∧(vl g.a g.b g.c r.1 q.2)≤9000000000000000000:=by rw [← ev1];omega
      have hv2b:-9000000000000000000≤(vl g.a g.b g.c q.2 r.1)∧(vl g.a g.b g.c q.2 r.1)≤9000000000000000000:=by rw [← ev2];omega
      have hab1:=KM (n:=g.a*r.1*r.1+g.b*r.1*q.2+g.c*q.2*q.2) hd0 hd1
      have hab2:=KM (n:=g.a*q.2*q.2+g.b*r.1*q.2+g.c*r.1*r.1) hd0 hd1
      refine au<|ao<|aC<|ao<|ae hP<|ak rfl<|ak rfl<|ab (bQ rfl rfl (by first | exact iW0 _ (by omega) | rfl)) ?_
      refine ak rfl<|ab (bQ rfl rfl (by first | exact iW0 _ (by omega) | rfl)) ?_
      refine ak rfl<|ak rfl<|ab (bQ rfl rfl (by first | exact iW0 _ (by omega) | rfl)) ?_
      refine ak rfl<|ab (bQ rfl rfl (by first | exact iW0 _ (by omega) | rfl)) ?_
      refine bA rfl rfl ?_
      refine ak rfl<|ak rfl<|ab (bQ rfl rfl (by first | exact iW0 _ (by omega) | rfl)) ?_
      refine ak rfl<|ab (bQ rfl rfl (by first | exact iW0 _ (by omega) | rfl)) ?_
      refine bA rfl rfl ?_
      refine aj rfl<|ag<|ae hP<|ak rfl<|ak rfl<|ab (bQ rfl rfl (by first | exact iW0 _ (by omega) | rfl)) ?_
      refine ab (ah (sZ _ _ jv1 j2)) ?_
      refine ab (ah (EP _ hab1)) ?_
      refine ab (bj rfl rfl)<|ag ?_
      refine ay rfl (fun hb5=>?_) (fun hb5=>?_)
      ·have hb5_:=bT hb5
       refine aW ?_
       refine ⟨(vl g.a g.b g.c r.1 q.2),⟨⟨r.1,q.2,rfl⟩,hv1b,.inl (gg1 (n:=(vl g.a g.b g.c r.1 q.2)) hb5_)⟩,aE ⟨.refl _,.refl _,.refl _,.refl _,.refl _,.refl _,trivial⟩ trivial⟩
      have hb5_:=bF hb5
      refine au<|ae hP<|ak rfl<|ak rfl<|ab (bQ rfl rfl (by first | exact iW0 _ (by omega) | rfl)) ?_
      refine ak rfl<|ab (bQ rfl rfl (by first | exact iW0 _ (by omega) | rfl)) ?_
      refine ak rfl<|ak rfl<|ab (bQ rfl rfl (by first | exact iW0 _ (by omega) | rfl)) ?_
      refine ak rfl<|ab (bQ rfl rfl (by first | exact iW0 _ (by omega) | rfl)) ?_
      refine bA rfl rfl ?_
      refine ak rfl<|ak rfl<|ab (bQ rfl rfl (by first | exact iW0 _ (by omega) | rfl)) ?_
      refine ak rfl<|ab (bQ rfl rfl (by first | exact iW0 _ (by omega) | rfl)) ?_
      refine bA rfl rfl ?_
      refine aj rfl<|ag<|ae hP<|ak rfl<|ak rfl<|ab (bQ rfl rfl (by first | exact iW0 _ (by omega) | rfl)) ?_
      refine ab (ah (sZ _ _ jv2 j2)) ?_
      refine ab (ah (EP _ hab2)) ?_
      refine ab (bj rfl rfl)<|ag ?_
      refine ay rfl (fun hb6=>?_) (fun hb6=>?_)
      ·have hb6_:=bT hb6
       refine aW ?_
       refine ⟨(vl g.a g.b g.c q.2 r.1),⟨⟨q.2,r.1,rfl⟩,hv2b,.inl (by rw [← ev2];exact gg1 hb6_)⟩,aE ⟨.refl _,.refl _,.refl _,.refl _,aK ev2,.refl _,trivial⟩ trivial⟩
      have hb6_:=bF hb6
      refine au<|aw hP<|ak rfl<|bA rfl rfl ?_
      refine aj rfl<|ag ?_
      refine ⟨(r.1+1,(vl g.a g.b g.c q.2 r.1)),⟨by simp only;omega,⟨q.2,r.1,rfl⟩,hv2b,hr4.next (KN (n:=(vl g.a g.b g.c r.1 q.2)) hb5_) (by rw [← ev2];exact KN hb6_)⟩,by simp only;omega,aE ⟨.refl _,.refl _,.refl _,.refl _,aK ev2,.refl _,.refl _,trivial⟩ trivial⟩
     have hb4_:=dF0 hb4
     refine aW ?_
     refine ⟨r.2,⟨hr2,hr3,.inr ((show r.1=q.2+1 by omega) ▸ hr4)⟩,aE ⟨.refl _,.refl _,.refl _,.refl _,.refl _,.refl _,trivial⟩ trivial⟩
    rintro m ⟨hm1,hm2,hm3⟩
    refine aw hP<|ak rfl<|bA rfl rfl ?_
    refine aj rfl<|ag ?_
    refine ⟨(m,q.2+1),⟨hm1,hm2,by simp only;omega,hm3.imp id (fun h=>hNP.next h)⟩,by simp only;omega,aE ⟨.refl _,.refl _,.refl _,.refl _,.refl _,.refl _,trivial⟩ trivial⟩
   have hb3_:=bU hb3
   refine aW ?_
   refine ⟨q.1,⟨hq1,hq2,gg_one.2 (.inr hb3_)⟩,aE ⟨.refl _,.refl _,trivial⟩ trivial⟩
  have hg2_:=bU hg2
  iterate 5 refine aZ hg2 ?_
  refine ab (aN rfl hg2 (rfl:_=AV.p (.c _)))<|ag<|aQ rfl rfl<|aW ?_
  refine ⟨q.1,⟨hq1,hq2,gg_one.2 (.inl hg2_)⟩,aE ⟨.refl _,.refl _,trivial⟩ trivial⟩
 rintro N ⟨hN1,hN2,hN3⟩
 have hN0:=Ej hg hN1 hd0
 have jN:bu N:=by unfold bu;omega
 have hfin:=hmap N hN1 hN3
 have cAs:=cA0
 generalize chs d=l at cAs hcl hcb hfin
 refine ae hP<|aj rfl<|ag<|pk 12 1000 1 3 rfl rfl ?_
 refine ao<|ae hP<|ak rfl<|ab (ah cAs) ?_
 refine ab (aX hT rfl rfl rfl (by rfl)) ?_
 refine ak rfl<|ag<|aC<|bl (ι:=Nat) (fun k=>stL [(9,Z N),(12,.vec 1000),(96,.p (.c (CS 186 187 l))),(97,Z (l.length:Int)),(98,Z (k:Int))] [(1000,IB 3 ((l.take k).map fun c=>cv c N))]) (fun k=>k≤l.length) (fun k=>l.length - k) 0 (Nat.zero_le _) (aE ⟨.refl _,.refl _,.refl _,.refl _,.refl _,trivial⟩ ⟨rfl,trivial⟩) ?_
 intro k hk
 refine ae hP<|ab (bh rfl rfl)<|ag<|ao ?_
 refine ay rfl (fun hb7=>?_) (fun hb7=>?_)
 ·have hb7_:=dT0 hb7
  have hmm:=hcb _ (jP hb7_)
  have jc:bu (l.getD k 0):=by unfold bu;omega
  refine au<|ao<|aC<|ae hP<|ab (rW (fo:=186) (fs:=187) (n:=(k:Int)) hT rfl rfl rfl rfl rfl rfl (by omega)) ?_
  refine ab (bf hT rfl rfl rfl (cs:=chC 186 187 (l.getD k 0)) rfl rfl) ?_
  refine aq ai (aB hT rfl rfl)<|aG hT rfl<|ag<|aw hP<|ab (az (rfl:_=AV.vec _))<|aI hT rfl<|bi hT rfl rfl rfl rfl ?_
  refine ak rfl<|ab (Eff.callCh rfl rfl (yN N _ hN0 (by unfold spR;split <;> (try split) <;> decide)) (KP N (l.getD k 0) jN jc)) ?_
  refine ab (bg hT rfl rfl rfl (es:=[_]) rfl rfl rfl)<|RK.app ai (dN (z:=cv (l.getD k 0) N) hT rfl rfl rfl rfl rfl rfl rfl rfl (by rw [List.length_map,List.length_take];omega) (by decide)) ?_
  refine ab (a8 (rfl:_=AV.vec _))<|ag<|cL 108 1000 rfl rfl rfl ?_
  refine aw hP<|bA rfl rfl ?_
  refine ak rfl<|ag ?_
  refine ⟨k+1,by omega,by omega,aE ⟨.refl _,.refl _,.refl _,.refl _,aK (by omega),trivial⟩ ⟨Eq.trans rfl (congrArg (fun x=>some (IB 3 x)) (uv hb7_)),trivial⟩⟩
 have hb7_:=dF0 hb7
 refine aW<|gQ (t:=12) rfl rfl ?_
 refine ae hP<|ak rfl<|aj rfl<|aj rfl<|ag<|am<|E11 rfl rfl rfl ?_
 exact aF (by rw [oH hb7_,hfin,he])
end
section
open Go Go.AM
end
section
open Go Go.AM
theorem vT (gf:FuncId) (caps:List (List DV)) (l:List Pr2) (hit:Iter2 Tryz.prog gf caps (l.map fun p=>[PA p])) (hl:l.length≤1000000) :
  CallV Tryz.prog 194 [.p (.c (.v (.slice none 0 0))),.fn gf caps] (VB 4 93 enP l):=by
 refine pd Tryz.func194 (by kernel_rfl) rfl rfl (bL0 rfl) ?_
 refine ae hP<|aq ai (aL rfl rfl)<|aj rfl<|ag<|ao<|ae hP<|ab (az (rfl:_=AV.fn _ _))<|ag<|aC<|my 2 1000 4 93 rfl rfl rfl rfl ?_
 refine dz (t:=stL [(2,.loc 2 0),(6,.fn gf caps)] [(2,⟨false,1002,65,[.sl ((l.take 0)).length []]⟩),(1000,VB 4 93 enP ((l.take 0)))]) (aE ⟨.refl _,.refl _,trivial⟩ ⟨rfl,rfl,trivial⟩) ?_
 refine fF 3 (fun k=>da [(2,⟨false,1002,65,[.sl ((l.take k)).length []]⟩),(1000,VB 4 93 enP ((l.take k)))]) (fun _=>True) rfl hit GM rfl rfl rfl trivial (fun k x hx _=>?_) (fun _=>?_)
 ·obtain ⟨p,hp,rfl⟩:=JY hx
  refine aw hP<|aq ai (aB hT rfl rfl)<|aG hT rfl<|ag<|aC<|aw hP<|ab (iC hT rfl rfl rfl rfl rfl)<|ab (aJ hT rfl rfl rfl rfl (cs:=[_,_,_,_]) rfl rfl)<|ab (bg hT rfl rfl rfl (es:=[_,_,_,_]) rfl rfl rfl)<|RK.app ai (gE (encD:=enP) hT cf (by decide) rfl rfl rfl rfl rfl rfl rfl (b:=p) rfl (by rw [List.length_take];omega) (by decide) (by decide)) ?_
  refine dC ai (l9 hT rfl rfl rfl rfl rfl rfl rfl (di cf _).symm (Nat.zero_lt_succ 3)) ?_
  refine ag ?_
  refine ⟨GW.rnL 2 11 1000 (l.take k ++ [p]).length rfl rfl rfl (di cf _).symm (Nat.zero_lt_succ 3) rfl rfl rfl rfl ?_,trivial⟩
  show ∀ m,da _ m=_∨da _ m=none
  rw [ei hp]
  exact SubO.own ⟨rfl,rfl,trivial⟩
 refine ae hP<|ab (iC hT rfl rfl rfl rfl rfl)<|ab (a8 (rfl:_=AV.vec _))<|ag<|am ?_
 refine ⟨.inr rfl,_,_,rfl,rfl,?_⟩
 exact congrArg (fun x=>some (VB 4 93 enP x)) (List.take_of_length_le (by rw [List.length_map];exact Nat.le_refl _))
theorem zY (gf:FuncId) (caps:List (List DV)) (l:List Pr2) (hit:Iter2 Tryz.prog gf caps (l.map fun p=>[PA p])) (hl:l.length≤1000000) :
  CallV Tryz.prog 151 [.fn gf caps] (VB 4 93 enP l):=by
 refine pd Tryz.func151 (by kernel_rfl) rfl rfl (bL0 rfl) ?_
 refine ae hP<|aj rfl<|ag<|ae hP<|ab (az (rfl:_=AV.fn _ _))<|aq ai (Eff.callV (vT gf caps l hit hl)) ?_
 refine ab (a8 (rfl:_=AV.vec _))<|ag<|am ?_
 refine ⟨.inr rfl,_,_,rfl,rfl,?_⟩
 exact rfl
def zw:Go.Shelf.Ren:=⟨fun | 6=>152 | 15=>196 | 14=>195 | 28=>233 | 29=>234 | 20=>225 | 21=>226 | 22=>227 | 23=>228 | 24=>229 | 25=>230 | 26=>231 | 27=>232 | 46=>249 | 47=>250 | 48=>251 | 49=>252 | 50=>253 | 57=>257 | n=>n,fun | 22=>65 | 24=>93 | 25=>148 | 3=>3 | 39=>106 | 0=>0 | 53=>105 | 55=>103 | 4=>4 | 46=>250 | 45=>249 | 50=>254 | 5=>5 | 9=>9 | 66=>262 | 70=>266 | 76=>273 | 77=>274 | n=>n,fun | n=>n⟩
theorem LP:Go.Proofs.SlLaysF0.n6 Tryz.prog zw:={
 mixed:=by kernel_rfl
 f6:=⟨Tryz.f152.name,by decide,Tryz.func152.trans (congrArg some (by kernel_rfl))⟩
 f14:=⟨Tryz.f195.name,by decide,Tryz.func195.trans (congrArg some (by kernel_rfl))⟩
 f15:=Tryz.func196.trans (congrArg some (by kernel_rfl))
 f20:=⟨Tryz.f225.name,by decide,Tryz.func225.trans (congrArg some (by kernel_rfl))⟩
 f21:=⟨Tryz.f226.name,by decide,Tryz.func226.trans (congrArg some (by kernel_rfl))⟩
 f22:=⟨Tryz.f227.name,by decide,Tryz.func227.trans (congrArg some (by kernel_rfl))⟩
 f23:=⟨Tryz.f228.name,by decide,Tryz.func228.trans (congrArg some (by kernel_rfl))⟩
 f24:=⟨Tryz.f229.name,by decide,Tryz.func229.trans (congrArg some (by kernel_rfl))⟩
 f25:=⟨Tryz.f230.name,by decide,Tryz.func230.trans (congrArg some (by kernel_rfl))⟩
 f26:=⟨Tryz.f231.name,by decide,Tryz.func231.trans (congrArg some (by kernel_rfl))⟩
 f27:=⟨Tryz.f232.name,by decide,Tryz.func232.trans (congrArg some (by kernel_rfl))⟩
 f28:=Tryz.func233.trans (congrArg some (by kernel_rfl))
 f29:=Tryz.func234.trans (congrArg some (by kernel_rfl))
 f46:=⟨Tryz.f249.name,by decide,Tryz.func249.trans (congrArg some (by kernel_rfl))⟩
 f47:=Tryz.func250.trans (congrArg some (by kernel_rfl))
 f48:=Tryz.func251.trans (congrArg some (by kernel_rfl))
 f49:=⟨Tryz.f252.name,by decide,Tryz.func252.trans (congrArg some (by kernel_rfl))⟩
 f50:=⟨Tryz.f253.name,by decide,Tryz.func253.trans (congrArg some (by kernel_rfl))⟩
 f57:=⟨Tryz.f257.name,by decide,Tryz.func257.trans (congrArg some (by kernel_rfl))⟩
 t0:=Tryz.underlying0
 a0:=Tryz.isAgg0
 z0:=Tryz.sizeOf0
 v0:=Tryz.zeroValue0
 t3:=Tryz.underlying3
 a3:=Tryz.isAgg3
 z3:=Tryz.sizeOf3
 v3:=Tryz.zeroValue3
 t4:=Tryz.underlying4
 a4:=Tryz.isAgg4
 z4:=Tryz.sizeOf4
 v4:=Tryz.zeroValue4
 t5:=Tryz.underlying5
 a5:=Tryz.isAgg5
 z5:=Tryz.sizeOf5
 v5:=Tryz.zeroValue5
 t9:=Tryz.underlying9
 a9:=Tryz.isAgg9
 z9:=Tryz.sizeOf9
 v9:=Tryz.zeroValue9
 t22:=Tryz.underlying65
 a22:=Tryz.isAgg65
 z22:=Tryz.sizeOf65
 v22:=Tryz.zeroValue65
 t25:=Tryz.underlying148
 a25:=Tryz.isAgg148
 z25:=Tryz.sizeOf148
 v25:=Tryz.zeroValue148
 t39:=Tryz.underlying106
 a39:=Tryz.isAgg106
 z39:=Tryz.sizeOf106
 v39:=Tryz.zeroValue106
 t45:=Tryz.underlying249
 a45:=Tryz.isAgg249
 z45:=Tryz.sizeOf249
 v45:=Tryz.zeroValue249
 t46:=Tryz.underlying250
 a46:=Tryz.isAgg250
 z46:=Tryz.sizeOf250
 v46:=Tryz.zeroValue250
 t50:=Tryz.underlying254
 a50:=Tryz.isAgg254
 z50:=Tryz.sizeOf254
 v50:=Tryz.zeroValue254
 t53:=Tryz.underlying105
 a53:=Tryz.isAgg105
 z53:=Tryz.sizeOf105
 v53:=Tryz.zeroValue105
 t55:=Tryz.underlying103
 a55:=Tryz.isAgg103
 z55:=Tryz.sizeOf103
 v55:=Tryz.zeroValue103
 t66:=Tryz.underlying262
 a66:=Tryz.isAgg262
 z66:=Tryz.sizeOf262
 v66:=Tryz.zeroValue262
 t70:=Tryz.underlying266
 a70:=Tryz.isAgg266
 z70:=Tryz.sizeOf266
 v70:=Tryz.zeroValue266
 t76:=Tryz.underlying273
 a76:=Tryz.isAgg273
 z76:=Tryz.sizeOf273
 v76:=Tryz.zeroValue273
 t77:=Tryz.underlying274
 a77:=Tryz.isAgg274
 z77:=Tryz.sizeOf274
 v77:=Tryz.zeroValue274 }
theorem J0 (m:Nat) (l l':List Pr2) (hp:l'.Perm l) (hs:fU l') :
  CallM Tryz.prog 152 [.vec m,.p (.c (.v (.func (.func 90) #[] #[])))] (upd O m (some (VB 4 93 enP l))) (.t []) (upd O m (some (VB 4 93 enP l'))) :=
 xO LP hT (j:=Bl) rfl rfl rfl (by decide) cf cmP HY (fun x y=>zX x y) hp (F9 hs) (fun _ _ _ _ h1 h2=>Do h1 h2)
theorem uf (gf:FuncId) (caps:List (List DV)) (l:List Pr2) (hit:Iter2 Tryz.prog gf caps (l.map fun p=>[PA p])) (hl:l.length≤1000000) (l':List Pr2) (hp:l'.Perm l) (hs:fU l') :
  aH Tryz.prog 89 [.fn gf caps,.p (.c (.v (.func (.func 90) #[] #[])))] (.p (.c (SL enP l'))):=by
 refine aM Tryz.func89 rfl rfl rfl rfl ?_
 refine ae hP<|aj rfl<|ag<|ae hP<|ab (az (rfl:_=AV.fn _ _))<|aq ai (Eff.callV (zY gf caps l hit hl)) ?_
 refine ab (a8 (rfl:_=AV.vec _))<|ag<|ae hP<|ab (az (rfl:_=AV.vec _))<|ak rfl<|RK.mut ai (Eff.call (rd:=[7]) (J0 7 l l' hp hs) (kX rfl) jf) ?_
 refine ag<|eJ (encD:=enP) cf rfl (t:=5) rfl rfl ?_
 refine ae hP<|ak rfl<|aj rfl<|ag<|am<|E1 rfl rfl ?_
 exact .refl _
theorem iA (f:Fm) (m:Int) (hfa:L 6 f.a) (hfb:L 6 f.b) (hfc:L 6 f.c) :
  aH Tryz.prog 65 [FA f.a f.b f.c,Z m] (Z (alE f m)):=by
 have fa:LB f.a 6:=⟨hfa⟩
 have fb:LB f.b 6:=⟨hfb⟩
 have fc:LB f.c 6:=⟨hfc⟩
 refine aM Tryz.func65 rfl rfl rfl rfl ?_
 refine ae hP<|aq ai (aL rfl rfl)<|aj rfl<|ag<|ao<|ae hP<|br hT rfl rfl rfl rfl rfl rfl<|ab (aR hT rfl rfl rfl (es:=[_,_]) rfl)<|ab (ah (AN f hfa hfb hfc)) ?_
 refine ab (az (rfl:_=AV.t _))<|ab (aD rfl (v:=.a _) rfl)<|ab (aD rfl (v:=.c _) rfl)<|aq ai (aB hT rfl rfl)<|aG hT rfl<|aj rfl<|ag<|ae hP<|ak rfl<|ab (bq rfl rfl)<|ag ?_
 refine ay rfl (fun hb1=>?_) (fun hb1=>?_)
 ·have hb1_:=b8 hb1
  refine ae hP<|ak rfl<|aj rfl<|ag<|am<|E1 rfl rfl ?_
  exact aK (EZ hb1_)
 have hb1_:=bU hb1
 refine au<|ae hP<|ak rfl<|ab (ah (oR _)) ?_
 refine aj rfl<|ag<|am<|E1 rfl rfl ?_
 exact aK (y8 hb1_)
theorem wO (f:Fm) (m:Int) :
  aH Tryz.prog 66 [FA f.a f.b f.c,Z m] (.fn 132 [[zn f.a,zm f.a,zn f.b,zm f.b,zn f.c,zm f.c],[.v (.int .i64 m)]]):=by
 refine mr Tryz.func66 (by kernel_rfl) rfl rfl (bL0 rfl) rfl ?_
 refine ae hP<|aq ai (aL rfl rfl)<|aq ai (aL rfl rfl)<|aj rfl<|ag<|c9 (t:=2) rfl rfl ?_
 refine c9 (t:=3) rfl rfl ?_
 refine ae hP<|ab (kz rfl rfl)<|ab (a8 (rfl:_=AV.fn _ _))<|ag<|am ?_
 exact ⟨.inr rfl,4,rfl,rfl⟩
theorem EB (f:Fm) (D:Int) (m:Nat) (hfa:L 6 f.a) (hfb:L 6 f.b) (hfc:L 6 f.c) (hf:Cl D f) (hD:-4194304≤D∧D < 0) (hm:1≤m∧m≤65536) :
  aH Tryz.prog 26 [FA f.a f.b f.c,Z (m:Int)] (.t [.c (SL enP (prS D m f)),PE 0]):=by
 have fa:LB f.a 6:=⟨hfa⟩
 have fb:LB f.b 6:=⟨hfb⟩
 have fc:LB f.c 6:=⟨hfc⟩
 have hdf:dsc f.a f.b f.c=D:=hf.disc
 have h0m:0 < (m:Int):=by omega
 have cRf:aH Tryz.prog 65 [FA f.a f.b f.c,Z (m:Int)] (Z 0):=by
  have h:=iA f m hfa hfb hfc
  rwa [te hf hm] at h
 refine aM Tryz.func26 rfl rfl rfl rfl ?_
 refine ae hP<|aq ai (aL rfl rfl)<|aj rfl<|aj rfl<|ag<|ao<|ae hP<|br hT rfl rfl rfl rfl rfl rfl<|ak rfl<|ab (ah cRf) ?_
 refine aj rfl<|ag<|ae hP<|ak rfl<|ab (bq rfl rfl)<|ag<|aQ rfl rfl<|au<|ae hP<|br hT rfl rfl rfl rfl rfl rfl<|ak rfl<|ab (ah (wO f m)) ?_
 refine ab (ah (uf _ _ (prL D m f) (ud f D m hfa hfb hfc hdf hD hm) (tV hm) (prS D m f) (tC _) (wK hf h0m))) ?_
 refine aj rfl<|aj rfl<|ag<|am<|E11 rfl rfl rfl ?_
 exact .refl _
theorem J2 (f:Fm) (m:Int) (hfa:L 6 f.a) (hfb:L 6 f.b) (hfc:L 6 f.c) (hE:¬ alE f m=0) :
  aH Tryz.prog 26 [FA f.a f.b f.c,Z m] (.t [.c (SL enP []),PE (alE f m)]):=by
 have fa:LB f.a 6:=⟨hfa⟩
 have fb:LB f.b 6:=⟨hfb⟩
 have fc:LB f.c 6:=⟨hfc⟩
 refine aM Tryz.func26 rfl rfl rfl rfl ?_
 refine ae hP<|aq ai (aL rfl rfl)<|aj rfl<|aj rfl<|ag<|ao<|ae hP<|br hT rfl rfl rfl rfl rfl rfl<|ak rfl<|ab (ah (iA f m hfa hfb hfc)) ?_
 refine aj rfl<|ag<|ae hP<|ak rfl<|ab (bq rfl rfl)<|ag<|aU rfl (by simpa using hE) ?_
 refine ae hP<|ak rfl<|aj rfl<|aj rfl<|ag<|am<|E11 rfl rfl rfl ?_
 exact Sub.tup ⟨DSub.nil_sl,.refl _,trivial⟩
theorem wP (D:Int) (m:Nat) (hD:-4194304≤D∧D < 0) (h4:D % 4=0∨D % 4=1) (hm:1≤m∧m≤65536) :
  aH Tryz.prog 13 [I D,Z (m:Int)] (.t [.c (SL enI (rbL D (m:Int))),PE 0]):=by
 have iD:LB D 6:=⟨by unfold L;omega⟩
 have cPr:aH Tryz.prog 54 [I D] (.t [PF (prF D),PE 0]):=by
  have h:=kV D lz
  rwa [Ey hD.2 h4] at h
 have cRg:aH Tryz.prog 55 [Z (m:Int)] (Z 0):=by
  have h:=oR m
  rwa [pB (by omega) (by omega)] at h
 refine aM Tryz.func13 rfl rfl rfl rfl ?_
 refine ae hP<|aq ai (aL rfl rfl)<|aj rfl<|aj rfl<|ag<|ao<|ae hP<|av hT rfl<|ab (ah cPr) ?_
 refine ab (az (rfl:_=AV.t _))<|ab (aD rfl (v:=.a _) rfl)<|ab (aD rfl (v:=.c _) rfl)<|aq ai (aB hT rfl rfl)<|aG hT rfl<|aj rfl<|ag<|ae hP<|ak rfl<|ab (bq rfl rfl)<|ak rfl<|aA rfl (aT hT rfl rfl rfl rfl rfl rfl) ?_
 refine aA rfl (bL hT rfl rfl rfl rfl (by first | rfl | exact eh (by omega))) ?_
 refine aA rfl (bw rfl) ?_
 refine ab (aN rfl rfl (rfl:_=AV.p (.c _)))<|ag<|aQ rfl (by simpa using hD.2) ?_
 refine au<|ao<|ae hP<|ak rfl<|ab (ah cRg) ?_
 refine aj rfl<|ag<|ae hP<|ak rfl<|ab (bq rfl rfl)<|ag<|aQ rfl rfl<|au<|ae hP<|av hT rfl<|ak rfl<|ab (ah (ue D m hD hm)) ?_
 refine aj rfl<|aj rfl<|ag<|am<|E11 rfl rfl rfl ?_
 exact .refl _
theorem Cs (D:Int) (m:Int) (hD:L 40 D) (hE:¬ iL D m=0) :
  aH Tryz.prog 13 [I D,Z m] (.t [.c (SL enI []),PE (iL D m)]):=by
 have iD:LB D 40:=⟨hD⟩
 refine aM Tryz.func13 rfl rfl rfl rfl ?_
 refine ae hP<|aq ai (aL rfl rfl)<|aj rfl<|aj rfl<|ag<|ao<|ae hP<|av hT rfl<|ab (ah (kV D lz)) ?_
 refine ab (az (rfl:_=AV.t _))<|ab (aD rfl (v:=.a _) rfl)<|ab (aD rfl (v:=.c _) rfl)<|aq ai (aB hT rfl rfl)<|aG hT rfl<|aj rfl<|ag<|ae hP<|ak rfl<|ab (bq rfl rfl)<|ak rfl ?_
 refine aY (t:=16) rfl (fun hg1=>?_) (fun hg1=>?_)
 ·have hg1_:=b8 hg1
  iterate 3 refine aZ hg1 ?_
  refine ab (aO rfl hg1 (rfl:_=AV.p (.c _)))<|ag<|aU rfl rfl<|ae hP<|aj rfl<|aj rfl<|ag<|am<|E11 rfl rfl rfl ?_
  exact Sub.tup ⟨DSub.nil_sl,nE (Jn hg1_),trivial⟩
 have hg1_:=bU hg1
 refine aA hg1 (aT hT rfl rfl rfl rfl rfl rfl) ?_
 refine aA hg1 (bL hT rfl rfl rfl rfl (by first | rfl | exact eh (by omega))) ?_
 refine aA hg1 (bw rfl) ?_
 refine ab (aN rfl hg1 (rfl:_=AV.p (.c _)))<|ag ?_
 refine ay rfl (fun hb2=>?_) (fun hb2=>?_)
 ·have hb2_:=(bY hb2)
  refine ae hP<|aj rfl<|aj rfl<|ag<|am<|E11 rfl rfl rfl ?_
  exact Sub.tup ⟨DSub.nil_sl,nE (Jm (dF0 (bY hb2))),trivial⟩
 have hb2_:=(bW hb2)
 refine au<|ao<|ae hP<|ak rfl<|ab (ah (oR m)) ?_
 refine aj rfl<|ag<|ae hP<|ak rfl<|ab (bq rfl rfl)<|ag ?_
 refine ay rfl (fun hb3=>?_) (fun hb3=>?_)
 ·have hb3_:=b8 hb3
  refine ae hP<|ak rfl<|aj rfl<|aj rfl<|ag<|am<|E11 rfl rfl rfl ?_
  exact Sub.tup ⟨DSub.nil_sl,nE (BW hg1_ (dT0 (bW hb2))),trivial⟩
 have hb3_:=bU hb3
 exact absurd ((BW hg1_ (dT0 (bW hb2))).symm.trans hb3_) hE
theorem uc (n:Nat) (hn:1≤n∧n≤65536) :
  Iter3 Tryz.prog 135 (⟨false,1,3,[.v (.int .i64 ((n:Nat):Int))]⟩) ((parts n).map fun (q:Nat)=>[PE (q:Int)]):=by
 generalize hxs:((parts n).map fun (q:Nat)=>([PE (q:Int)]:List PV))=xs
 refine CR Tryz.func135 (by kernel_rfl) rfl rfl (bL0 rfl) rfl rfl ?_
 intro l n0 J hK
 refine zf hK.toKeepsB ?_
 refine bO ?_
 refine bC hP ?_
 refine aj rfl<|ag<|eT ?_
 refine lM (ι:=Nat × Nat × Nat) (fun i=>stL [(0,.p (.c (.v (.func (.yield l) #[] #[])))),(1,.loc 1 0),(3,Z ((i.2.1:Nat):Int))] [(1,⟨false,1,3,[.v (.int .i64 ((i.1:Nat):Int))]⟩)]) (fun i=>i.2.2) (fun i=>PaI n i.1 i.2.1 i.2.2) (fun i=>n+2 - i.2.1) (n,2,0) (PaI.start (by omega)) rfl (aE ⟨.refl _,.refl _,.refl _,trivial⟩ ⟨rfl,trivial⟩) ?_
 intro i hI
 have h2p:=hI.two
 have hmn:=hI.le
 have hm0:=hI.pos
 refine bO ?_
 refine bO ?_
 refine bC hP ?_
 refine bi hT rfl rfl rfl rfl ?_
 refine ab (bJ rfl rfl)<|ag ?_
 refine eL rfl (fun hb1=>?_) (fun hb1=>?_)
 ·have hb1_:=dT0 hb1
  have hm1:1 < i.1:=by omega
  have hpm:=hI.ple hm1
  refine dY ?_
  refine bO ?_
  refine eT ?_
  refine bO ?_
  refine bC hP ?_
  refine aj rfl<|ag<|bO ?_
  refine eT ?_
  refine lM (ι:=Nat × Nat) (fun q=>stL [(0,.p (.c (.v (.func (.yield l) #[] #[])))),(1,.loc 1 0),(3,Z ((i.2.1:Nat):Int)),(4,Z ((q.2:Nat):Int))] [(1,⟨false,1,3,[.v (.int .i64 ((q.1:Nat):Int))]⟩)]) (fun _=>i.2.2) (fun q=>PtI i.2.1 i.1 q.1 q.2) (fun q=>q.1) (i.1,1) (PtI.start hm0) rfl (aE ⟨.refl _,.refl _,.refl _,.refl _,trivial⟩ ⟨rfl,trivial⟩) ?_
  intro q hq
  obtain ⟨b1,b2,b3,b4⟩:=hq.b
  refine bO ?_
  refine bO ?_
  refine bC hP ?_
  refine bi hT rfl rfl rfl rfl ?_
  refine ak rfl<|ab (bM rfl rfl (by omega) (c:=((q.1 % i.2.1:Nat):Int)) B5) ?_
  refine ab (bj rfl rfl)<|ag ?_
  refine eL rfl (fun hb2=>?_) (fun hb2=>?_)
  ·have hb2_:=bT hb2
   have hnx:=hq.next h2p (by omega)
   have hqp:q.2*i.2.1≤1000000000:=by have:=hnx.2.2;omega
   refine dY ?_
   refine eT ?_
   refine bC hP ?_
   refine bi hT rfl rfl rfl rfl ?_
   refine ak rfl<|ab (cZ rfl rfl (by omega) (c:=((q.1 / i.2.1:Nat):Int)) (Cf (by omega) (by omega))) ?_
   refine ak rfl<|ak rfl<|ab (bQ rfl rfl (c:=((q.2*i.2.1:Nat):Int)) (Kf hqp)) ?_
   refine aG hT rfl<|aj rfl<|ag ?_
   refine ⟨(q.1 / i.2.1,q.2*i.2.1),hnx.1,hnx.2.1,rfl,aE ⟨.refl _,.refl _,.refl _,.refl _,trivial⟩ ⟨rfl,trivial⟩⟩
  have hb2_:=bF hb2
  have hpt:=hq.done (by omega)
  refine jA ?_
  refine bO ?_
  refine mz ?_
  refine RY.val ai (az (rfl:_=AV.p (.c _))) ?_
  refine RY.val ai (bJ rfl rfl) ?_
  refine RY.val ai (az (rfl:_=AV.p (.c _))) ?_
  refine RY.split (t:=21) rfl (fun hg3=>?_) (fun hg3=>?_)
  ·have hg3_:=dT0 hg3
   have hq1:1 < (ptN i.2.1 i.1).2:=by have:=dT0 hg3;have:=hpt.2;omega
   have hgt:xs[i.2.2]?=some [PE ((q.2:Nat):Int)]:=by rw [← hxs,List.getElem?_map,(hI.yes hm1 hq1).1,hpt.2];rfl
   refine RY.val (a7 rfl rfl hg3) (az (rfl:_=AV.p (.c _))) ?_
   refine RY.val (a7 rfl rfl hg3) (az (rfl:_=AV.p (.c _))) ?_
   refine RY.yield hK (a7 rfl rfl hg3) rfl rfl hgt ?_
   intro bb
   refine RY.val (a7 rfl rfl hg3) (bw rfl) ?_
   refine RY.val ai (aO rfl hg3 (rfl:_=AV.p (.c _))) ?_
   refine RY.done ?_
   refine eL rfl (fun hb4=>?_) (fun hb4=>?_)
   ·have hb4_:=(bY hb4)
    refine nw ?_
    refine ⟨.inr rfl,?_⟩
    exact yv (bY hb4)
   have hb4_:=(bW hb4)
   refine dY ?_
   refine bC hP ?_
   refine ak rfl<|bA rfl rfl ?_
   refine aj rfl<|ag ?_
   refine ⟨((ptN i.2.1 i.1).1,i.2.1+1,i.2.2+1),(hI.yes hm1 hq1).2,(by show n+2 - (i.2.1+1) < n+2 - i.2.1;omega),(yu (bW hb4)).symm,aE ⟨.refl _,.refl _,aK (by show ((i.2.1:Nat):Int)+1=((i.2.1+1:Nat):Int);omega),trivial⟩ ⟨Eq.trans rfl (congrArg (fun x:Nat=>some (⟨false,1,3,[.v (.int .i64 (x:Int))]⟩:Blk)) hpt.1),trivial⟩⟩
  have hg3_:=dF0 hg3
  have hq1:¬ 1 < (ptN i.2.1 i.1).2:=by have:=dF0 hg3;have:=hpt.2;omega
  iterate 4 refine RY.skip (gq rfl rfl hg3) ?_
  refine RY.val ai (aN rfl hg3 (rfl:_=AV.p (.c _))) ?_
  refine RY.done ?_
  refine jW rfl rfl ?_
  refine dY ?_
  refine bC hP ?_
  refine ak rfl<|bA rfl rfl ?_
  refine aj rfl<|ag ?_
  refine ⟨((ptN i.2.1 i.1).1,i.2.1+1,i.2.2),hI.no hm1 hq1,(by show n+2 - (i.2.1+1) < n+2 - i.2.1;omega),rfl,aE ⟨.refl _,.refl _,aK (by show ((i.2.1:Nat):Int)+1=((i.2.1+1:Nat):Int);omega),trivial⟩ ⟨Eq.trans rfl (congrArg (fun x:Nat=>some (⟨false,1,3,[.v (.int .i64 (x:Int))]⟩:Blk)) hpt.1),trivial⟩⟩
 have hb1_:=dF0 hb1
 have hdn:=hI.done (by omega)
 refine jA ?_
 refine ⟨.inl rfl,?_⟩
 rw [← hxs,List.length_map,hdn]
 exact Nat.le_refl _
theorem wM (m:Nat) :
  CallG Tryz.prog 68 [Z (m:Int)] 135 (⟨false,1,3,[.v (.int .i64 ((m:Nat):Int))]⟩):=by
 refine Dr Tryz.func68 (by kernel_rfl) rfl rfl (bL0 rfl) ?_
 refine ae hP<|aq ai (aL rfl rfl)<|aj rfl<|ag<|ae hP<|ab (uk rfl)<|ab (a8 (rfl:_=AV.fnl _ _))<|ag<|am ?_
 exact ⟨.inr rfl,2,1,rfl,rfl,rfl⟩
theorem NM (c x:Int) (hc:L 5 c) (hx:1≤x∧x≤65536) :
  aH Tryz.prog 140 [Z c,Z x] (Z (atV c x)):=by
 have ic:LB c 6:=⟨hc.mono (by decide)⟩
 have ix:LB x 6:=⟨by unfold L;omega⟩
 have jc:bu c:=by unfold L at hc;unfold bu;omega
 refine aM Tryz.func140 rfl rfl rfl rfl ?_
 refine ae hP<|aj rfl<|ag<|ao<|ae hP<|ak rfl<|ag<|aC<|ae hP<|ab (bj rfl rfl)<|aj rfl<|ag ?_
 refine ay rfl (fun hb1=>?_) (fun hb1=>?_)
 ·have hb1_:=bT hb1
  refine ae hP<|ak rfl<|ab (bM rfl rfl (by omega) (c:=x % 4) (Int.tmod_eq_emod_of_nonneg (by omega))) ?_
  refine ab (bE rfl rfl (by first | exact iW0 _ (by omega) | rfl)) ?_
  refine aj rfl<|ag<|am<|E1 rfl rfl ?_
  exact aK (Na hb1_)
 have hb1_:=bF hb1
 refine ae hP<|ab (bj rfl rfl)<|aj rfl<|ag ?_
 refine ay rfl (fun hb2=>?_) (fun hb2=>?_)
 ·have hb2_:=bT hb2
  refine ae hP<|ab (ah (fh 2 (by decide))) ?_
  refine ak rfl<|ab (ah (fh x (by unfold bu;omega))) ?_
  refine ab (ah (jE _ _ lz lz)) ?_
  refine aj rfl<|ag<|am<|E1 rfl rfl ?_
  exact aK (M9 hb2_)
 have hb2_:=bF hb2
 refine ae hP<|ab (bj rfl rfl)<|aj rfl<|ag ?_
 refine ay rfl (fun hb3=>?_) (fun hb3=>?_)
 ·have hb3_:=bT hb3
  refine ae hP<|ab (ah (fh (-2) (by decide))) ?_
  refine ak rfl<|ab (ah (fh x (by unfold bu;omega))) ?_
  refine ab (ah (jE _ _ lz lz)) ?_
  refine aj rfl<|ag<|am<|E1 rfl rfl ?_
  exact aK (M8 hb3_)
 have hb3_:=bF hb3
 refine au<|ae hP<|ak rfl<|ab (ah (fh x (by unfold bu;omega))) ?_
 refine ak rfl<|ab (ah (fh c jc)) ?_
 refine ab (ah (jE _ _ lz lz)) ?_
 refine aj rfl<|ag<|am<|E1 rfl rfl ?_
 exact aK (M7 hb1_ hb2_ hb3_)
theorem pQ (f:Fm) (D:Int) (m:Nat) (hfa:L 6 f.a) (hfb:L 6 f.b) (hfc:L 6 f.c) (hf:Cl D f) (hD:-4194304≤D∧D < 0) (hm:1≤m∧m≤65536) (hE:szE D=0) :
  Iter2 Tryz.prog 137 [[zn f.a,zm f.a,zn f.b,zm f.b,zn f.c,zm f.c],[.v (.int .i64 (m:Int))]] ((agL D m f).map fun c=>[PE c]):=by
 have fa:LB f.a 6:=⟨hfa⟩
 have fb:LB f.b 6:=⟨hfb⟩
 have fc:LB f.c 6:=⟨hfc⟩
 have iD:LB D 6:=⟨by unfold L;omega⟩
 have im:LB (m:Int) 6:=⟨by unfold L;omega⟩
 have hdf:dsc f.a f.b f.c=D:=hf.disc
 have cDs:aH Tryz.prog 40 [FA f.a f.b f.c] (I D):=by rw [← hdf];exact gh f.a f.b f.c lz lz lz
 have cCh:aH Tryz.prog 139 [I D] (.t [.c (IS (chs D)),PE 0]):=by
  have h:=uR D lz
  rwa [s9 hE,hE] at h
 have cVa:aH Tryz.prog 19 [FA f.a f.b f.c] (.t [.c (IS (gvL f)),PE 0]):=by
  have h:=C5 f hfa hfb hfc EN
  rwa [qg hf hD.1 hE] at h
 have hln:=Av hf hD.1 hE
 have hcb:=fun c hc=>qh (c:=c) hD.2 hD.1 hc
 have hlc:=lE hD.2 hD.1
 have hgt_:=fun (h:Int.gcd (2*D) m=1) (k:Nat) (hk:k < (chs D).length) (hne)=>Ln (f:=f) h hln hk hne
 have hyy:=fun (k:Nat) (hk:k < (chs D).length) (hne)=>Og (n:=(m:Int)) (f:=f) hln hk hne
 have hnn:=fun (k:Nat) (hk:k < (chs D).length) (he)=>Oh (n:=(m:Int)) (f:=f) hln hk he
 have hall:=fun (h:Int.gcd (2*D) m=1) (k:Nat) (hk:(chs D).length≤k)=>Lp (f:=f) h hln hk
 have hnone:=fun (h:¬ Int.gcd (2*D) m=1) (k:Nat)=>H8 (f:=f) h k
 have hk0:0=fD (agP m) (agZ D f) 0:=by unfold fD;simp
 generalize chs D=ls at *
 generalize gvL f=vs at *
 generalize fD (agP m) (agZ D f)=κ at *
 generalize ((agL D m f).map fun c=>([PE c]:List PV))=xs at *
 refine oV Tryz.func137 (by kernel_rfl) rfl rfl (bL0 rfl) rfl ?_
 intro l n0 J hK
 refine zf hK.toKeepsB ?_
 refine bO ?_
 refine bC hP ?_
 refine ab (bf hT rfl rfl rfl (cs:=[_,_,_,_,_,_]) rfl rfl)<|ab (ah cDs) ?_
 refine aq ai (aB hT rfl rfl)<|aG hT rfl<|ag<|bO ?_
 refine bO ?_
 refine bC hP ?_
 refine ab (ah (fh 2 (by decide))) ?_
 refine av hT rfl<|ab (ah (dW 2 D lz lz)) ?_
 refine cO hT rfl rfl rfl ?_
 refine ab (ah (fh (m:Int) (by unfold bu;omega))) ?_
 refine ab (ah (nW (2*D) (m:Int) lz lz)) ?_
 refine ab (ah (fh 1 (by decide))) ?_
 refine ab (ah (fN _ _)) ?_
 refine ab (bw rfl)<|ag ?_
 refine eL rfl (fun hb1=>?_) (fun hb1=>?_)
 ·have hb1_:=(bY hb1)
  refine nw ?_
  refine ⟨.inr rfl,?_⟩
  exact hnone (fun e=>dF0 (bY hb1) (by rw [e];rfl)) _
 have hb1_:=(bW hb1)
 have hgc:Int.gcd (2*D) m=1:=by have:=dT0 (bW hb1);omega
 have hmo:(m:Int) % 2=1:=uP hgc
 refine dY ?_
 refine bO ?_
 refine bC hP ?_
 refine av hT rfl<|ab (ah cCh) ?_
 refine ab (az (rfl:_=AV.t _))<|ab (aD rfl (v:=.c _) rfl)<|ab (aD rfl (v:=.c _) rfl)<|aj rfl<|aj rfl<|ag<|bO ?_
 refine bC hP ?_
 refine ab (bf hT rfl rfl rfl (cs:=[_,_,_,_,_,_]) rfl rfl)<|ab (ah cVa) ?_
 refine ab (az (rfl:_=AV.t _))<|ab (aD rfl (v:=.c _) rfl)<|ab (aD rfl (v:=.c _) rfl)<|aj rfl<|aj rfl<|ag<|bO ?_
 refine bC hP ?_
 refine ak rfl<|ab (aX hT rfl rfl rfl (by rfl)) ?_
 refine ak rfl<|ag<|eT ?_
 refine lM (ι:=Nat) (fun j=>stL [(0,.p (.c (.v (.func (.yield l) #[] #[])))),(2,.ip [.v (.int .i64 (m:Int))]),(7,.p (.c (IS vs))),(32,.p (.c (IS ls))),(33,Z (ls.length:Int)),(34,Z (j:Int))] []) κ (fun j=>j≤ls.length) (fun j=>ls.length - j) 0 (Nat.zero_le _) hk0.symm (aE ⟨.refl _,.refl _,.refl _,.refl _,.refl _,.refl _,trivial⟩ trivial) ?_
 intro j hj
 refine bO ?_
 refine bC hP ?_
 refine ab (bh rfl rfl)<|ag<|bO ?_
 refine eL rfl (fun hb2=>?_) (fun hb2=>?_)
 ·have hb2_:=dT0 hb2
  have hjn:j < ls.length:=by omega
  have hcm:=jP (l:=ls) (k:=j) hb2_
  have hcL:L 5 (ls.getD j 0):=by have:=hcb _ hcm;unfold L;omega
  have hav:atV (ls.getD j 0) m=cv (ls.getD j 0) m:=Li (by omega) hmo
  refine dY ?_
  refine bO ?_
  refine eT ?_
  refine bO ?_
  refine bC hP ?_
  refine ak rfl<|ab (gi hT (n:=(j:Int)) (l:=ls) rfl rfl rfl rfl rfl rfl (by omega)) ?_
  refine ab (bV hT rfl rfl rfl (dv:=.v (.int .i64 (ls.getD j 0))) rfl) ?_
  refine aj rfl<|aj rfl<|ag<|bO ?_
  refine v7 hP 11 (by kernel_rfl) ?_
  refine ak rfl<|cO hT rfl rfl rfl ?_
  refine ab (ah (NM (ls.getD j 0) (m:Int) hcL (by omega))) ?_
  refine ak rfl<|ak rfl<|ab (gi hT (n:=(j:Int)) (l:=vs) rfl rfl rfl rfl rfl rfl (by omega)) ?_
  refine ab (bV hT rfl rfl rfl (dv:=.v (.int .i64 (vs.getD j 0))) rfl) ?_
  refine ab (bq rfl rfl)<|ak rfl ?_
  refine aY (t:=47) rfl (fun hg3=>?_) (fun hg3=>?_)
  ·have hg3_:=b8 hg3
   have hne:¬ cv (ls.getD j 0) m=(vs.getD j 0):=fun e=>b8 hg3 (hav.trans e)
   refine aA hg3 (az (rfl:_=AV.p (.c _))) ?_
   refine aA hg3 (az (rfl:_=AV.p (.c _))) ?_
   refine ag<|RY.yield hK (a7 rfl rfl hg3) rfl rfl (hgt_ hgc j hjn hne) ?_
   intro bb
   refine RY.val (a7 rfl rfl hg3) (bw rfl) ?_
   refine RY.val ai (aO rfl hg3 (rfl:_=AV.p (.c _))) ?_
   refine RY.done ?_
   refine eL rfl (fun hb4=>?_) (fun hb4=>?_)
   ·have hb4_:=(bY hb4)
    refine nw ?_
    refine ⟨.inr rfl,?_⟩
    exact yv (bY hb4)
   have hb4_:=(bW hb4)
   refine dY ?_
   refine bC hP ?_
   refine bA rfl rfl ?_
   refine ak rfl<|ag ?_
   refine ⟨j+1,by omega,by omega,(hyy j hjn hne).trans (yu (bW hb4)).symm,aE ⟨.refl _,.refl _,.refl _,.refl _,.refl _,aK (by omega),trivial⟩ trivial⟩
  have hg3_:=bU hg3
  have heq:cv (ls.getD j 0) m=(vs.getD j 0):=hav.symm.trans (bU hg3)
  refine aZ hg3 ?_
  refine aZ hg3 ?_
  refine ag<|RY.skip (gq rfl rfl hg3) ?_
  refine RY.skip (gq rfl rfl hg3) ?_
  refine RY.val ai (aN rfl hg3 (rfl:_=AV.p (.c _))) ?_
  refine RY.done ?_
  refine jW rfl rfl ?_
  refine dY ?_
  refine bC hP ?_
  refine bA rfl rfl ?_
  refine ak rfl<|ag ?_
  refine ⟨j+1,by omega,by omega,hnn j hjn heq,aE ⟨.refl _,.refl _,.refl _,.refl _,.refl _,aK (by omega),trivial⟩ trivial⟩
 have hb2_:=dF0 hb2
 refine jA ?_
 refine ⟨.inl rfl,?_⟩
 exact hall hgc j (by omega)
theorem rU (f:Fm) (m:Int) :
  aH Tryz.prog 71 [FA f.a f.b f.c,Z m] (.fn 137 [[zn f.a,zm f.a,zn f.b,zm f.b,zn f.c,zm f.c],[.v (.int .i64 m)]]):=by
 refine mr Tryz.func71 (by kernel_rfl) rfl rfl (bL0 rfl) rfl ?_
 refine ae hP<|aq ai (aL rfl rfl)<|aq ai (aL rfl rfl)<|aj rfl<|ag<|c9 (t:=2) rfl rfl ?_
 refine c9 (t:=3) rfl rfl ?_
 refine ae hP<|ab (kz rfl rfl)<|ab (a8 (rfl:_=AV.fn _ _))<|ag<|am ?_
 exact ⟨.inr rfl,4,rfl,rfl⟩
end
section
open Go Go.AM
theorem J1 (f:Fm) (D:Int) (m:Nat) (hfa:L 6 f.a) (hfb:L 6 f.b) (hfc:L 6 f.c) (hf:Cl D f) (hD:-4194304≤D∧D < 0) (hm:1≤m∧m≤65536) (hE:szE D=0) :
  aH Tryz.prog 17 [FA f.a f.b f.c,Z (m:Int)] (.t [.a (anS (fnd D m f)),PE 0]):=by
 have fa:LB f.a 6:=⟨hfa⟩
 have fb:LB f.b 6:=⟨hfb⟩
 have fc:LB f.c 6:=⟨hfc⟩
 have hdf:dsc f.a f.b f.c=D:=hf.disc
 have h0m:0 < (m:Int):=by omega
 have cRf:aH Tryz.prog 65 [FA f.a f.b f.c,Z (m:Int)] (Z 0):=by
  have h:=iA f m hfa hfb hfc
  rwa [te hf hm] at h
 have iD:LB D 6:=⟨by unfold L;omega⟩
 have cDs:aH Tryz.prog 40 [FA f.a f.b f.c] (I D):=by rw [← hdf];exact gh f.a f.b f.c lz lz lz
 refine aM Tryz.func17 rfl rfl rfl rfl ?_
 refine ae hP<|aq ai (aL rfl rfl)<|aq ai (aB hT rfl rfl)<|aq ai (aB hT rfl rfl)<|ag<|ao<|ae hP<|br hT rfl rfl rfl rfl rfl rfl<|ak rfl<|ab (ah cRf) ?_
 refine aj rfl<|ag<|ae hP<|ak rfl<|ab (bq rfl rfl)<|ag<|aQ rfl rfl<|au<|ae hP<|br hT rfl rfl rfl rfl rfl rfl<|ab (ah cDs) ?_
 refine aq ai (aB hT rfl rfl)<|aG hT rfl<|ag<|ae hP<|aq ai (aB hT rfl rfl)<|ag<|ao<|ae hP<|br hT rfl rfl rfl rfl rfl rfl<|ak rfl<|ab (ah (wO f m)) ?_
 refine ag<|aC<|dz (t:=stL [(1,Z (m:Int)),(2,.loc 2 0),(4,.loc 4 0),(5,.loc 5 0),(7,.loc 7 0),(8,.loc 8 0),(26,.fn 132 [[zn f.a,zm f.a,zn f.b,zm f.b,zn f.c,zm f.c],[.v (.int .i64 (m:Int))]])] [(2,⟨false,1,46,[zn f.a,zm f.a,zn f.b,zm f.b,zn f.c,zm f.c]⟩),(4,⟨false,1,42,bsC none⟩),(5,⟨false,1,33,[.v (.int .i64 0)]⟩),(7,⟨false,1,29,[zn D,zm D]⟩),(8,⟨false,1,42,bsC (dQ (prL D m f) 0)⟩)]) (aE ⟨.refl _,.refl _,.refl _,.refl _,.refl _,.refl _,.refl _,trivial⟩ ⟨rfl,rfl,rfl,rfl,Eq.trans rfl (congrArg (fun b=>some (⟨false,1,42,bsC b⟩:Blk)) (H4 (prL D m f)).symm),trivial⟩) ?_
 refine fF 9 (fun k=>da [(2,⟨false,1,46,[zn f.a,zm f.a,zn f.b,zm f.b,zn f.c,zm f.c]⟩),(4,⟨false,1,42,bsC none⟩),(5,⟨false,1,33,[.v (.int .i64 0)]⟩),(7,⟨false,1,29,[zn D,zm D]⟩),(8,⟨false,1,42,bsC (dQ (prL D m f) k)⟩)]) (fun _=>True) rfl (ud f D m hfa hfb hfc hdf hD hm) JW rfl rfl rfl trivial (fun k x hx _=>?_) (fun _=>?_)
 ·obtain ⟨p,hp,rfl⟩:=Mp hx
  refine aw hP<|aq ai (aB hT rfl rfl)<|aG hT rfl<|ag<|aC<|ae hP<|ab (aV hT rfl rfl rfl rfl rfl (by first | decide | omega)) ?_
  refine av hT rfl<|ab (aV hT rfl rfl rfl rfl rfl (by first | decide | omega)) ?_
  refine av hT rfl<|aq ai (aB hT rfl rfl)<|aq ai (aB hT rfl rfl)<|aG hT rfl<|aG hT rfl<|ag<|ao<|ae hP<|aI hT rfl<|bi hT rfl rfl rfl rfl ?_
  refine ak rfl ?_
  refine aY (t:=34) rfl (fun hg1=>?_) (fun hg1=>?_)
  ·have hy1:p.2 < 0:=dT0 hg1
   iterate 3 refine aZ hg1 ?_
   refine ff ?_
   refine ff ?_
   refine aZ hg1 ?_
   refine ab (aO rfl hg1 (rfl:_=AV.p (.c _)))<|ag<|aU rfl rfl<|aW ?_
   refine ⟨GW.forget fun x=>SubO.own (l:=[(2,⟨false,1,46,[zn f.a,zm f.a,zn f.b,zm f.b,zn f.c,zm f.c]⟩),(4,⟨false,1,42,bsC none⟩),(5,⟨false,1,33,[.v (.int .i64 0)]⟩),(7,⟨false,1,29,[zn D,zm D]⟩),(8,⟨false,1,42,bsC (dQ (prL D m f) (k+1))⟩)]) ⟨rfl,rfl,rfl,rfl,Eq.trans rfl (congrArg (fun b=>some (⟨false,1,42,bsC b⟩:Blk)) ((eY hp).trans (tB (.inl hy1))).symm),trivial⟩ x,trivial⟩
  have hy1:¬ p.2 < 0:=dF0 hg1
  refine aA hg1 (aJ hT rfl rfl rfl rfl (cs:=[_,_]) rfl rfl) ?_
  refine aA hg1 (ah (Cr _)) ?_
  refine aA hg1 (az (rfl:_=AV.p (.c _))) ?_
  refine aY (t:=37) rfl (fun hg2=>?_) (fun hg2=>?_)
  ·have hy0:p.2=0:=dT0 hg2
   refine aA hg2 (aT hT rfl rfl rfl rfl rfl rfl) ?_
   refine aA hg2 (bL hT rfl rfl rfl rfl (by first | rfl | exact eh (by omega))) ?_
   refine aA hg1 (aO rfl hg2 (rfl:_=AV.p (.c _))) ?_
   refine ab (aN rfl hg1 (rfl:_=AV.p (.c _)))<|ag ?_
   refine ay rfl (fun hb3=>?_) (fun hb3=>?_)
   ·have hx1:p.1 < 0:=dT0 hb3
    refine aW ?_
    refine ⟨GW.forget fun x=>SubO.own (l:=[(2,⟨false,1,46,[zn f.a,zm f.a,zn f.b,zm f.b,zn f.c,zm f.c]⟩),(4,⟨false,1,42,bsC none⟩),(5,⟨false,1,33,[.v (.int .i64 0)]⟩),(7,⟨false,1,29,[zn D,zm D]⟩),(8,⟨false,1,42,bsC (dQ (prL D m f) (k+1))⟩)]) ⟨rfl,rfl,rfl,rfl,Eq.trans rfl (congrArg (fun b=>some (⟨false,1,42,bsC b⟩:Blk)) ((eY hp).trans (tB (.inr ⟨hy0,hx1⟩))).symm),trivial⟩ x,trivial⟩
   have ho:okP p=true:=zt hy1 (fun z=>dF0 hb3 z.2)
   refine au<|ae hP<|av hT rfl<|aI hT rfl<|av hT rfl<|ab (ah (dO _ _)) ?_
   refine aj rfl<|ag<|ae hP<|aI hT rfl<|bi hT rfl rfl rfl rfl ?_
   refine ab (bj rfl rfl)<|ak rfl ?_
   refine aY (t:=49) rfl (fun hg4=>?_) (fun hg4=>?_)
   ·have hg4_:=bT hg4
    have hk:=bT hg4
    refine aZ hg4 ?_
    refine aZ hg4 ?_
    refine ab (aO rfl hg4 (rfl:_=AV.p (.c _)))<|ak rfl<|aZ rfl ?_
    refine aZ rfl ?_
    refine aZ rfl ?_
    iterate 5 refine ff ?_
    refine aZ rfl ?_
    refine ab (aO rfl rfl (rfl:_=AV.p (.c _)))<|ag<|aU rfl rfl<|aw hP<|av hT rfl<|av hT rfl<|ab (aR hT rfl rfl rfl (es:=[_,_,_,_,_,_,_,_,_]) rfl)<|aG hT rfl<|ag ?_
    refine ⟨GW.forget fun x=>SubO.own (l:=[(2,⟨false,1,46,[zn f.a,zm f.a,zn f.b,zm f.b,zn f.c,zm f.c]⟩),(4,⟨false,1,42,bsC none⟩),(5,⟨false,1,33,[.v (.int .i64 0)]⟩),(7,⟨false,1,29,[zn D,zm D]⟩),(8,⟨false,1,42,bsC (dQ (prL D m f) (k+1))⟩)]) ⟨rfl,rfl,rfl,rfl,Eq.trans rfl (congrArg (fun b=>some (⟨false,1,42,bsC b⟩:Blk)) ((eY hp).trans (Eg ho hk)).symm),trivial⟩ x,trivial⟩
   have hg4_:=bF hg4
   have hk:=bF hg4
   refine aA hg4 (az (rfl:_=AV.p (.c _))) ?_
   refine aA hg4 (bh rfl rfl) ?_
   refine ab (aN rfl hg4 (rfl:_=AV.p (.c _)))<|ak rfl ?_
   refine aY (t:=53) rfl (fun hg5=>?_) (fun hg5=>?_)
   ·have hg5_:=dT0 hg5
    have hc:=dT0 hg5
    iterate 3 refine aZ hg5 ?_
    iterate 5 refine ff ?_
    refine aZ hg5 ?_
    refine ab (aO rfl hg5 (rfl:_=AV.p (.c _)))<|ag<|aU rfl rfl<|aw hP<|av hT rfl<|av hT rfl<|ab (aR hT rfl rfl rfl (es:=[_,_,_,_,_,_,_,_,_]) rfl)<|aG hT rfl<|ag ?_
    refine ⟨GW.forget fun x=>SubO.own (l:=[(2,⟨false,1,46,[zn f.a,zm f.a,zn f.b,zm f.b,zn f.c,zm f.c]⟩),(4,⟨false,1,42,bsC none⟩),(5,⟨false,1,33,[.v (.int .i64 0)]⟩),(7,⟨false,1,29,[zn D,zm D]⟩),(8,⟨false,1,42,bsC (dQ (prL D m f) (k+1))⟩)]) ⟨rfl,rfl,rfl,rfl,Eq.trans rfl (congrArg (fun b=>some (⟨false,1,42,bsC b⟩:Blk)) ((eY hp).trans (sP ho hk (.inl (cmpI_lt_zero.1 hc)))).symm),trivial⟩ x,trivial⟩
   have hg5_:=dF0 hg5
   have hc:=dF0 hg5
   refine aA hg5 (az (rfl:_=AV.p (.c _))) ?_
   refine aA hg5 (bj rfl rfl) ?_
   refine aA hg5 (az (rfl:_=AV.p (.c _))) ?_
   refine aY (t:=56) rfl (fun hg6=>?_) (fun hg6=>?_)
   ·have hg6_:=bT hg6
    have hc0:=bT hg6
    refine aA hg6 (aJ hT rfl rfl rfl rfl (cs:=[_,_]) rfl rfl) ?_
    refine aA hg6 (aT hT rfl rfl rfl rfl rfl rfl) ?_
    refine aA hg6 (aJ hT rfl rfl rfl rfl (cs:=[_,_]) rfl rfl) ?_
    refine aA hg6 (ah (dO _ _)) ?_
    refine aA hg6 (bh rfl rfl) ?_
    refine aA hg5 (aO rfl hg6 (rfl:_=AV.p (.c _))) ?_
    refine ab (aN rfl hg5 (rfl:_=AV.p (.c _)))<|ag ?_
    refine ay rfl (fun hb7=>?_) (fun hb7=>?_)
    ·have hb7_:=dT0 hb7
     have hx2:=dT0 hb7
     refine aw hP<|av hT rfl<|av hT rfl<|ab (aR hT rfl rfl rfl (es:=[_,_,_,_,_,_,_,_,_]) rfl)<|aG hT rfl<|ag ?_
     refine ⟨GW.forget fun x=>SubO.own (l:=[(2,⟨false,1,46,[zn f.a,zm f.a,zn f.b,zm f.b,zn f.c,zm f.c]⟩),(4,⟨false,1,42,bsC none⟩),(5,⟨false,1,33,[.v (.int .i64 0)]⟩),(7,⟨false,1,29,[zn D,zm D]⟩),(8,⟨false,1,42,bsC (dQ (prL D m f) (k+1))⟩)]) ⟨rfl,rfl,rfl,rfl,Eq.trans rfl (congrArg (fun b=>some (⟨false,1,42,bsC b⟩:Blk)) ((eY hp).trans (sP ho hk (.inr ⟨cmpI_eq_zero.1 hc0,cmpI_lt_zero.1 hx2⟩))).symm),trivial⟩ x,trivial⟩
    have hb7_:=dF0 hb7
    have hx2:=dF0 hb7
    refine au ?_
    refine ⟨GW.forget fun x=>SubO.own (l:=[(2,⟨false,1,46,[zn f.a,zm f.a,zn f.b,zm f.b,zn f.c,zm f.c]⟩),(4,⟨false,1,42,bsC none⟩),(5,⟨false,1,33,[.v (.int .i64 0)]⟩),(7,⟨false,1,29,[zn D,zm D]⟩),(8,⟨false,1,42,bsC (dQ (prL D m f) (k+1))⟩)]) ⟨rfl,rfl,rfl,rfl,Eq.trans rfl (congrArg (fun b=>some (⟨false,1,42,bsC b⟩:Blk)) ((eY hp).trans (sQ ho hk (fun z=>z.elim (fun z=>hc (cmpI_lt_zero.2 z)) fun z=>hx2 (cmpI_lt_zero.2 z.2)))).symm),trivial⟩ x,trivial⟩
   have hg6_:=bF hg6
   have hc0:=bF hg6
   iterate 5 refine aZ hg6 ?_
   refine aA hg5 (aN rfl hg6 (rfl:_=AV.p (.c _))) ?_
   refine ab (aN rfl hg5 (rfl:_=AV.p (.c _)))<|ag<|aQ rfl rfl<|au ?_
   refine ⟨GW.forget fun x=>SubO.own (l:=[(2,⟨false,1,46,[zn f.a,zm f.a,zn f.b,zm f.b,zn f.c,zm f.c]⟩),(4,⟨false,1,42,bsC none⟩),(5,⟨false,1,33,[.v (.int .i64 0)]⟩),(7,⟨false,1,29,[zn D,zm D]⟩),(8,⟨false,1,42,bsC (dQ (prL D m f) (k+1))⟩)]) ⟨rfl,rfl,rfl,rfl,Eq.trans rfl (congrArg (fun b=>some (⟨false,1,42,bsC b⟩:Blk)) ((eY hp).trans (sQ ho hk (fun z=>z.elim (fun z=>hc (cmpI_lt_zero.2 z)) fun z=>hc0 (cmpI_eq_zero.2 z.1)))).symm),trivial⟩ x,trivial⟩
  have hy0:¬ p.2=0:=dF0 hg2
  have ho:okP p=true:=zt hy1 (fun z=>hy0 z.1)
  refine aZ hg2 ?_
  refine aZ hg2 ?_
  refine aA hg1 (aN rfl hg2 (rfl:_=AV.p (.c _))) ?_
  refine ab (aN rfl hg1 (rfl:_=AV.p (.c _)))<|ag<|aQ rfl rfl<|au<|ae hP<|av hT rfl<|aI hT rfl<|av hT rfl<|ab (ah (dO _ _)) ?_
  refine aj rfl<|ag<|ae hP<|aI hT rfl<|bi hT rfl rfl rfl rfl ?_
  refine ab (bj rfl rfl)<|ak rfl ?_
  refine aY (t:=49) rfl (fun hg8=>?_) (fun hg8=>?_)
  ·have hg8_:=bT hg8
   have hk:=bT hg8
   refine aZ hg8 ?_
   refine aZ hg8 ?_
   refine ab (aO rfl hg8 (rfl:_=AV.p (.c _)))<|ak rfl<|aZ rfl ?_
   refine aZ rfl ?_
   refine aZ rfl ?_
   iterate 5 refine ff ?_
   refine aZ rfl ?_
   refine ab (aO rfl rfl (rfl:_=AV.p (.c _)))<|ag<|aU rfl rfl<|aw hP<|av hT rfl<|av hT rfl<|ab (aR hT rfl rfl rfl (es:=[_,_,_,_,_,_,_,_,_]) rfl)<|aG hT rfl<|ag ?_
   refine ⟨GW.forget fun x=>SubO.own (l:=[(2,⟨false,1,46,[zn f.a,zm f.a,zn f.b,zm f.b,zn f.c,zm f.c]⟩),(4,⟨false,1,42,bsC none⟩),(5,⟨false,1,33,[.v (.int .i64 0)]⟩),(7,⟨false,1,29,[zn D,zm D]⟩),(8,⟨false,1,42,bsC (dQ (prL D m f) (k+1))⟩)]) ⟨rfl,rfl,rfl,rfl,Eq.trans rfl (congrArg (fun b=>some (⟨false,1,42,bsC b⟩:Blk)) ((eY hp).trans (Eg ho hk)).symm),trivial⟩ x,trivial⟩
  have hg8_:=bF hg8
  have hk:=bF hg8
  refine aA hg8 (az (rfl:_=AV.p (.c _))) ?_
  refine aA hg8 (bh rfl rfl) ?_
  refine ab (aN rfl hg8 (rfl:_=AV.p (.c _)))<|ak rfl ?_
  refine aY (t:=53) rfl (fun hg9=>?_) (fun hg9=>?_)
  ·have hg9_:=dT0 hg9
   have hc:=dT0 hg9
   iterate 3 refine aZ hg9 ?_
   iterate 5 refine ff ?_
   refine aZ hg9 ?_
   refine ab (aO rfl hg9 (rfl:_=AV.p (.c _)))<|ag<|aU rfl rfl<|aw hP<|av hT rfl<|av hT rfl<|ab (aR hT rfl rfl rfl (es:=[_,_,_,_,_,_,_,_,_]) rfl)<|aG hT rfl<|ag ?_
   refine ⟨GW.forget fun x=>SubO.own (l:=[(2,⟨false,1,46,[zn f.a,zm f.a,zn f.b,zm f.b,zn f.c,zm f.c]⟩),(4,⟨false,1,42,bsC none⟩),(5,⟨false,1,33,[.v (.int .i64 0)]⟩),(7,⟨false,1,29,[zn D,zm D]⟩),(8,⟨false,1,42,bsC (dQ (prL D m f) (k+1))⟩)]) ⟨rfl,rfl,rfl,rfl,Eq.trans rfl (congrArg (fun b=>some (⟨false,1,42,bsC b⟩:Blk)) ((eY hp).trans (sP ho hk (.inl (cmpI_lt_zero.1 hc)))).symm),trivial⟩ x,trivial⟩
  have hg9_:=dF0 hg9
  have hc:=dF0 hg9
  refine aA hg9 (az (rfl:_=AV.p (.c _))) ?_
  refine aA hg9 (bj rfl rfl) ?_
  refine aA hg9 (az (rfl:_=AV.p (.c _))) ?_
  refine aY (t:=56) rfl (fun hg10=>?_) (fun hg10=>?_)
  ·have hg10_:=bT hg10
   have hc0:=bT hg10
   refine aA hg10 (aJ hT rfl rfl rfl rfl (cs:=[_,_]) rfl rfl) ?_
   refine aA hg10 (aT hT rfl rfl rfl rfl rfl rfl) ?_
   refine aA hg10 (aJ hT rfl rfl rfl rfl (cs:=[_,_]) rfl rfl) ?_
   refine aA hg10 (ah (dO _ _)) ?_
   refine aA hg10 (bh rfl rfl) ?_
   refine aA hg9 (aO rfl hg10 (rfl:_=AV.p (.c _))) ?_
   refine ab (aN rfl hg9 (rfl:_=AV.p (.c _)))<|ag ?_
   refine ay rfl (fun hb11=>?_) (fun hb11=>?_)
   ·have hb11_:=dT0 hb11
    have hx2:=dT0 hb11
    refine aw hP<|av hT rfl<|av hT rfl<|ab (aR hT rfl rfl rfl (es:=[_,_,_,_,_,_,_,_,_]) rfl)<|aG hT rfl<|ag ?_
    refine ⟨GW.forget fun x=>SubO.own (l:=[(2,⟨false,1,46,[zn f.a,zm f.a,zn f.b,zm f.b,zn f.c,zm f.c]⟩),(4,⟨false,1,42,bsC none⟩),(5,⟨false,1,33,[.v (.int .i64 0)]⟩),(7,⟨false,1,29,[zn D,zm D]⟩),(8,⟨false,1,42,bsC (dQ (prL D m f) (k+1))⟩)]) ⟨rfl,rfl,rfl,rfl,Eq.trans rfl (congrArg (fun b=>some (⟨false,1,42,bsC b⟩:Blk)) ((eY hp).trans (sP ho hk (.inr ⟨cmpI_eq_zero.1 hc0,cmpI_lt_zero.1 hx2⟩))).symm),trivial⟩ x,trivial⟩
   have hb11_:=dF0 hb11
   have hx2:=dF0 hb11
   refine au ?_
   refine ⟨GW.forget fun x=>SubO.own (l:=[(2,⟨false,1,46,[zn f.a,zm f.a,zn f.b,zm f.b,zn f.c,zm f.c]⟩),(4,⟨false,1,42,bsC none⟩),(5,⟨false,1,33,[.v (.int .i64 0)]⟩),(7,⟨false,1,29,[zn D,zm D]⟩),(8,⟨false,1,42,bsC (dQ (prL D m f) (k+1))⟩)]) ⟨rfl,rfl,rfl,rfl,Eq.trans rfl (congrArg (fun b=>some (⟨false,1,42,bsC b⟩:Blk)) ((eY hp).trans (sQ ho hk (fun z=>z.elim (fun z=>hc (cmpI_lt_zero.2 z)) fun z=>hx2 (cmpI_lt_zero.2 z.2)))).symm),trivial⟩ x,trivial⟩
  have hg10_:=bF hg10
  have hc0:=bF hg10
  iterate 5 refine aZ hg10 ?_
  refine aA hg9 (aN rfl hg10 (rfl:_=AV.p (.c _))) ?_
  refine ab (aN rfl hg9 (rfl:_=AV.p (.c _)))<|ag<|aQ rfl rfl<|au ?_
  refine ⟨GW.forget fun x=>SubO.own (l:=[(2,⟨false,1,46,[zn f.a,zm f.a,zn f.b,zm f.b,zn f.c,zm f.c]⟩),(4,⟨false,1,42,bsC none⟩),(5,⟨false,1,33,[.v (.int .i64 0)]⟩),(7,⟨false,1,29,[zn D,zm D]⟩),(8,⟨false,1,42,bsC (dQ (prL D m f) (k+1))⟩)]) ⟨rfl,rfl,rfl,rfl,Eq.trans rfl (congrArg (fun b=>some (⟨false,1,42,bsC b⟩:Blk)) ((eY hp).trans (sQ ho hk (fun z=>z.elim (fun z=>hc (cmpI_lt_zero.2 z)) fun z=>hc0 (cmpI_eq_zero.2 z.1)))).symm),trivial⟩ x,trivial⟩
 refine dz (t:=stL [(1,Z (m:Int)),(2,.loc 2 0),(4,.loc 4 0),(5,.loc 5 0),(7,.loc 7 0),(8,.loc 8 0)] [(2,⟨false,1,46,[zn f.a,zm f.a,zn f.b,zm f.b,zn f.c,zm f.c]⟩),(4,⟨false,1,42,bsC none⟩),(5,⟨false,1,33,[.v (.int .i64 0)]⟩),(7,⟨false,1,29,[zn D,zm D]⟩),(8,⟨false,1,42,bsC (cW (prL D m f))⟩)]) (aE ⟨.refl _,.refl _,.refl _,.refl _,.refl _,.refl _,trivial⟩ ⟨rfl,rfl,rfl,rfl,Eq.trans rfl (congrArg (fun b=>some (⟨false,1,42,bsC b⟩:Blk)) (AW rfl)),trivial⟩) ?_
 refine ao<|ae hP<|aI hT rfl<|bi hT rfl rfl rfl rfl ?_
 refine ab (bJ rfl rfl)<|ag ?_
 refine ay rfl (fun hb12=>?_) (fun hb12=>?_)
 ·have hb12_:=dT0 hb12
  have hkb:=dT0 hb12
  refine ae hP<|ab (aJ hT rfl rfl rfl rfl (cs:=[_,_,_,_,_,_,_,_,_]) rfl rfl)<|aG hT rfl<|aG hT rfl<|ag<|am ?_
  refine cp rfl (.inr rfl) (aP hT rfl rfl rfl rfl (cs:=[_,_,_,_,_,_,_,_,_]) rfl rfl) (cy hT rfl rfl rfl rfl rfl) ?_ bt
  exact aF (congrArg (fun d=>AV.t [.a d,PE 0]) (N3 hkb))
 have hb12_:=dF0 hb12
 have h0b:=N4 (dF0 hb12)
 refine au<|ao<|ae hP<|ak rfl<|aq ai (Eff.callG (wM m)) ?_
 refine ag<|aC<|dz (t:=stL [(72,.fnl 135 72),(1,Z (m:Int)),(2,.loc 2 0),(4,.loc 4 0),(5,.loc 5 0),(7,.loc 7 0)] ((72,⟨false,1,3,[.v (.int .i64 ((m:Nat):Int))]⟩) :: [(2,⟨false,1,46,[zn f.a,zm f.a,zn f.b,zm f.b,zn f.c,zm f.c]⟩),(4,⟨false,1,42,bsC none⟩),(5,⟨false,1,33,[.v (.int .i64 0)]⟩),(7,⟨false,1,29,[zn D,zm D]⟩)])) (aE ⟨.refl _,.refl _,.refl _,.refl _,.refl _,.refl _,trivial⟩ ⟨rfl,rfl,rfl,rfl,rfl,trivial⟩) ?_
 refine ql (l:=[(1,Z (m:Int)),(2,.loc 2 0),(4,.loc 4 0),(5,.loc 5 0),(7,.loc 7 0)]) (o:=da ((72,⟨false,1,3,[.v (.int .i64 ((m:Nat):Int))]⟩) :: [(2,⟨false,1,46,[zn f.a,zm f.a,zn f.b,zm f.b,zn f.c,zm f.c]⟩),(4,⟨false,1,42,bsC none⟩),(5,⟨false,1,33,[.v (.int .i64 0)]⟩),(7,⟨false,1,29,[zn D,zm D]⟩)])) 73 (fun _=>da [(2,⟨false,1,46,[zn f.a,zm f.a,zn f.b,zm f.b,zn f.c,zm f.c]⟩),(4,⟨false,1,42,bsC none⟩),(5,⟨false,1,33,[.v (.int .i64 0)]⟩),(7,⟨false,1,29,[zn D,zm D]⟩)]) (PtR D m) (uc m hm) rfl rfl rfl rfl (ug rfl) zS rfl rfl rfl PtR.start (fun k x hx hI=>?_) (fun hI=>?_)
 ·obtain ⟨q,hq,rfl⟩:=Ex hx
  refine aw hP<|aj rfl<|ag<|aC<|ae hP<|av hT rfl<|ak rfl<|ab (ah (rT D q hD (yf hm hq))) ?_
  refine ag ?_
  refine ay rfl (fun hb13=>?_) (fun hb13=>?_)
  ·have hrq:=dT0 hb13
   refine ae hP<|ak rfl<|ab (ah (fh (q:Int) (by have:=yf hm hq;unfold bu;omega))) ?_
   refine ab (aR hT rfl rfl rfl (es:=[_,_,_,_,_,_,_,_,_]) rfl)<|aG hT rfl<|aG hT rfl<|ag<|am ?_
   refine ⟨_,GW.forget fun _=>.inl rfl,?_⟩
   refine cp rfl (.inr rfl) (aP hT rfl rfl rfl rfl (cs:=[_,_,_,_,_,_,_,_,_]) rfl rfl) (cy hT rfl rfl rfl rfl rfl) ?_ bt
   exact aF (congrArg (fun d=>AV.t [.a d,PE 0]) (N2 h0b hI hq hrq))
  have hrq:=dF0 hb13
  refine au ?_
  exact ⟨GW.forget fun x=>SubO.own (l:=[(2,⟨false,1,46,[zn f.a,zm f.a,zn f.b,zm f.b,zn f.c,zm f.c]⟩),(4,⟨false,1,42,bsC none⟩),(5,⟨false,1,33,[.v (.int .i64 0)]⟩),(7,⟨false,1,29,[zn D,zm D]⟩)]) ⟨rfl,rfl,rfl,rfl,trivial⟩ x,hI.next hq hrq⟩
 have h1b:=hI.done (JV rfl)
 refine ao<|ae hP<|br hT rfl rfl rfl rfl rfl rfl<|ak rfl<|ab (ah (rU f m)) ?_
 refine ag<|aC<|dz (t:=stL [(1,Z (m:Int)),(2,.loc 2 0),(4,.loc 4 0),(5,.loc 5 0),(7,.loc 7 0),(82,.fn 137 [[zn f.a,zm f.a,zn f.b,zm f.b,zn f.c,zm f.c],[.v (.int .i64 (m:Int))]])] [(2,⟨false,1,46,[zn f.a,zm f.a,zn f.b,zm f.b,zn f.c,zm f.c]⟩),(4,⟨false,1,42,bsC none⟩),(5,⟨false,1,33,[.v (.int .i64 0)]⟩),(7,⟨false,1,29,[zn D,zm D]⟩)]) (aE ⟨.refl _,.refl _,.refl _,.refl _,.refl _,.refl _,trivial⟩ ⟨rfl,rfl,rfl,rfl,trivial⟩) ?_
 refine fF 83 (fun _=>da [(2,⟨false,1,46,[zn f.a,zm f.a,zn f.b,zm f.b,zn f.c,zm f.c]⟩),(4,⟨false,1,42,bsC none⟩),(5,⟨false,1,33,[.v (.int .i64 0)]⟩),(7,⟨false,1,29,[zn D,zm D]⟩)]) (fun k=>k=0) rfl (pQ f D m hfa hfb hfc hf hD hm hE) A1 rfl rfl rfl rfl (fun k x hx hk=>?_) (fun hk=>?_)
 ·obtain ⟨c,hc,rfl⟩:=E0 hx
  refine aw hP<|aj rfl<|ag<|aC<|ae hP<|ak rfl<|ab (ah (fh c (by have:=Lo hD hc;unfold bu;omega))) ?_
  refine ab (aR hT rfl rfl rfl (es:=[_,_,_,_,_,_,_,_,_]) rfl)<|aG hT rfl<|aG hT rfl<|ag<|am ?_
  refine ⟨_,GW.forget fun _=>.inl rfl,?_⟩
  refine cp rfl (.inr rfl) (aP hT rfl rfl rfl rfl (cs:=[_,_,_,_,_,_,_,_,_]) rfl rfl) (cy hT rfl rfl rfl rfl rfl) ?_ bt
  exact aF (congrArg (fun d=>AV.t [.a d,PE 0]) (N1 h0b h1b hc hk))
 refine ae hP<|av hT rfl<|ak rfl<|ab (ah (ue D m hD hm)) ?_
 refine av hT rfl<|ak rfl<|ab (ah (rS D m hD hm)) ?_
 refine ab (aR hT rfl rfl rfl (es:=[_,_,_,_,_,_,_,_,_]) rfl)<|aG hT rfl<|aG hT rfl<|ag<|am ?_
 refine cp rfl (.inr rfl) (aP hT rfl rfl rfl rfl (cs:=[_,_,_,_,_,_,_,_,_]) rfl rfl) (cy hT rfl rfl rfl rfl rfl) ?_ bt
 exact aF (congrArg (fun d=>AV.t [.a d,PE 0]) (N0 h0b h1b hk))
end
section
open Go Go.AM
theorem Ao (r:Rw) :
  aH Tryz.prog 58 [.p (.a [.v (.bool r.1),W r.2])] (Z (rsg r)):=by
 refine aM Tryz.func58 rfl rfl rfl rfl ?_
 refine ae hP<|aq ai (aL rfl rfl)<|aj rfl<|ag<|ao<|aC<|ae hP<|aI hT rfl<|bi hT rfl rfl rfl rfl ?_
 refine ab (aX hT rfl rfl rfl rfl)<|ab (bj rfl rfl)<|aj rfl<|ag ?_
 refine ay rfl (fun hb1=>?_) (fun hb1=>?_)
 ·have hb1_:=bT hb1
  refine ae hP<|aj rfl<|ag<|am<|E1 rfl rfl ?_
  exact aK (LZ hb1_)
 have hb1_:=bF hb1
 refine ae hP<|aI hT rfl<|bi hT rfl rfl rfl rfl ?_
 refine aj rfl<|ag ?_
 refine ay rfl (fun hb2=>?_) (fun hb2=>?_)
 ·refine ae hP<|aj rfl<|ag<|am<|E1 rfl rfl ?_
  exact aK (LY hb1_ hb2)
 refine au<|ae hP<|aj rfl<|ag<|am<|E1 rfl rfl ?_
 exact aK (LX hb1_ hb2)
theorem yJ (r:Rw) (hl:r.2.length≤1000000000) :
  aH Tryz.prog 100 [.p (.a [.v (.bool r.1),W r.2])] (B (rV r)):=by
 refine aM Tryz.func100 rfl rfl rfl rfl ?_
 refine ae hP<|aq ai (aL rfl rfl)<|aj rfl<|ag<|ao<|ae hP<|aI hT rfl<|bi hT rfl rfl rfl rfl ?_
 refine ab (aX hT rfl rfl rfl rfl)<|ab (bj rfl rfl)<|ag ?_
 refine ay rfl (fun hb1=>?_) (fun hb1=>?_)
 ·have hb1_:=bT hb1
  refine ae hP<|aI hT rfl<|bi hT rfl rfl rfl rfl ?_
  refine ab (bw rfl)<|aj rfl<|ag<|am<|E1 rfl rfl ?_
  exact bd (NA hb1_)
 have hb1_:=bF hb1
 refine au<|ae hP<|aI hT rfl<|bi hT rfl rfl rfl rfl ?_
 refine aI hT rfl<|bi hT rfl rfl rfl rfl ?_
 refine ab (aX hT rfl rfl rfl rfl)<|ab (bE rfl rfl (by first | exact iW0 _ (by omega) | rfl)) ?_
 refine c7 ?_
 refine cO hT rfl rfl rfl ?_
 refine ab (bq rfl rfl)<|aj rfl<|ag<|am<|E1 rfl rfl ?_
 exact bd (Nz hb1_)
theorem kL (r:Rw) :
  aH Tryz.prog 67 [.p (.a [.v (.bool r.1),W r.2])] (B (decide (r.2=[]))):=by
 refine aM Tryz.func67 rfl rfl rfl rfl ?_
 refine ae hP<|aq ai (aL rfl rfl)<|aj rfl<|ag<|ae hP<|av hT rfl<|ab (ah (Ao r)) ?_
 refine ab (bj rfl rfl)<|aj rfl<|ag<|am<|E1 rfl rfl ?_
 exact bd LV
theorem sI (l m:List Int) (hl:(l.length:Int)≤1000000000) :
  aH Tryz.prog 163 [.p (.c (SL enI l)),.p (.c (SL enI m)),.p (.c (.v (.func (.func 138) #[] #[])))] (B (decide (l=m))):=by
 refine aM Tryz.func163 rfl rfl rfl rfl ?_
 refine ae hP<|aj rfl<|ag<|ao<|ae hP<|ak rfl<|ab (aX hT rfl rfl rfl (by rfl)) ?_
 refine ak rfl<|ab (aX hT rfl rfl rfl (by rfl)) ?_
 refine ab (bq rfl rfl)<|ag ?_
 refine ay rfl (fun hb1=>?_) (fun hb1=>?_)
 ·have hb1_:=b8 hb1
  refine ae hP<|aj rfl<|ag<|am<|E1 rfl rfl ?_
  exact bd (decide_eq_false (fun e=>hb1_ (by rw [e]))).symm
 have hb1_:=bU hb1
 have hlen:l.length=m.length:=by have:=hb1_;omega
 refine au<|ao<|ae hP<|ak rfl<|ab (aX hT rfl rfl rfl (by rfl)) ?_
 refine ak rfl<|ag<|aC<|bl (ι:=Nat) (fun k=>stL [(0,.p (.c (SL enI l))),(1,.p (.c (SL enI m))),(2,.p (.c (.v (.func (.func 138) #[] #[])))),(15,.p (.c (SL enI l))),(16,Z (l.length:Int)),(17,Z (k:Int))] []) (fun k=>SmG l m k) (fun k=>l.length - k) 0 (SmG.start hlen) (aE ⟨.refl _,.refl _,.refl _,.refl _,.refl _,.refl _,trivial⟩ trivial) ?_
 intro k hI
 have hk:=hI.le
 refine ae hP<|ab (bh rfl rfl)<|ag<|ao ?_
 refine ay rfl (fun hb2=>?_) (fun hb2=>?_)
 ·have hb2_:=dT0 hb2
  refine au<|ao<|aC<|ae hP<|ak rfl<|ab (b9 hT dI (by decide) 0 (n:=(k:Int)) (l:=l) rfl rfl rfl rfl rfl rfl (by omega)) ?_
  refine ab (bf hT rfl rfl rfl (cs:=enI (l.getD k 0)) rfl rfl) ?_
  refine aq ai (aB hT rfl rfl)<|aj rfl<|aG hT rfl<|ag<|ae hP<|ak rfl<|ak rfl<|ab (b9 hT dI (by decide) 0 (n:=(k:Int)) (l:=m) rfl rfl rfl rfl rfl rfl (by omega)) ?_
  refine ab (bf hT rfl rfl rfl (cs:=enI (m.getD k 0)) rfl rfl) ?_
  refine aq ai (aB hT rfl rfl)<|aG hT rfl<|ag<|ae hP<|ak rfl<|av hT rfl<|av hT rfl<|ab (Eff.callF rfl (fN _ _)) ?_
  refine ab (bw rfl)<|ag ?_
  refine ay rfl (fun hb3=>?_) (fun hb3=>?_)
  ·have hb3_:=(bY hb3)
   refine ae hP<|aj rfl<|ag<|am<|E1 rfl rfl ?_
   exact bd (decide_eq_false (SmG.no (d:=0) (fun e=>dF0 (bY hb3) e))).symm
  have hb3_:=(bW hb3)
  refine au<|aw hP<|bA rfl rfl ?_
  refine ak rfl<|ag ?_
  refine ⟨k+1,hI.next (d:=0) (by omega) (dT0 (bW hb3)),by omega,aE ⟨.refl _,.refl _,.refl _,.refl _,.refl _,aK (by omega),trivial⟩ trivial⟩
 have hb2_:=dF0 hb2
 refine aW<|ae hP<|aj rfl<|ag<|am<|E1 rfl rfl ?_
 exact bd (decide_eq_true (hI.yes (by omega))).symm
theorem sJ (l m:List Fm) (hl:(l.length:Int)≤1000000000) :
  aH Tryz.prog 164 [.p (.c (FS l)),.p (.c (FS m)),.p (.c (.v (.func (.func 165) #[] #[])))] (B (decide (l=m))):=by
 refine aM Tryz.func164 rfl rfl rfl rfl ?_
 refine ae hP<|aj rfl<|ag<|ao<|ae hP<|ak rfl<|ab (aX hT rfl rfl rfl (by rfl)) ?_
 refine ak rfl<|ab (aX hT rfl rfl rfl (by rfl)) ?_
 refine ab (bq rfl rfl)<|ag ?_
 refine ay rfl (fun hb1=>?_) (fun hb1=>?_)
 ·have hb1_:=b8 hb1
  refine ae hP<|aj rfl<|ag<|am<|E1 rfl rfl ?_
  exact bd (decide_eq_false (fun e=>hb1_ (by rw [e]))).symm
 have hb1_:=bU hb1
 have hlen:l.length=m.length:=by have:=hb1_;omega
 refine au<|ao<|ae hP<|ak rfl<|ab (aX hT rfl rfl rfl (by rfl)) ?_
 refine ak rfl<|ag<|aC<|bl (ι:=Nat) (fun k=>stL [(0,.p (.c (FS l))),(1,.p (.c (FS m))),(2,.p (.c (.v (.func (.func 165) #[] #[])))),(15,.p (.c (FS l))),(16,Z (l.length:Int)),(17,Z (k:Int))] []) (fun k=>SmG l m k) (fun k=>l.length - k) 0 (SmG.start hlen) (aE ⟨.refl _,.refl _,.refl _,.refl _,.refl _,.refl _,trivial⟩ trivial) ?_
 intro k hI
 have hk:=hI.le
 refine ae hP<|ab (bh rfl rfl)<|ag<|ao ?_
 refine ay rfl (fun hb2=>?_) (fun hb2=>?_)
 ·have hb2_:=dT0 hb2
  refine au<|ao<|aC<|ae hP<|ak rfl<|ab (iE hT (n:=(k:Int)) rfl rfl rfl rfl rfl rfl (by omega)) ?_
  refine ab (bf hT rfl rfl rfl (cs:=FC (l.getD k ⟨0,0,0⟩)) rfl rfl) ?_
  refine aq ai (aB hT rfl rfl)<|aj rfl<|aG hT rfl<|ag<|ae hP<|ak rfl<|ak rfl<|ab (iE hT (n:=(k:Int)) rfl rfl rfl rfl rfl rfl (by omega)) ?_
  refine ab (bf hT rfl rfl rfl (cs:=FC (m.getD k ⟨0,0,0⟩)) rfl rfl) ?_
  refine aq ai (aB hT rfl rfl)<|aG hT rfl<|ag<|ae hP<|ak rfl<|br hT rfl rfl rfl rfl rfl rfl<|br hT rfl rfl rfl rfl rfl rfl<|ab (Eff.callF rfl (pP _ _ _ _ _ _)) ?_
  refine ab (bw rfl)<|ag ?_
  refine ay rfl (fun hb3=>?_) (fun hb3=>?_)
  ·have hb3_:=(bY hb3)
   refine ae hP<|aj rfl<|ag<|am<|E1 rfl rfl ?_
   exact bd (decide_eq_false (SmG.no (d:=⟨0,0,0⟩) (fun e=>dF0 (bY hb3) ⟨congrArg Fm.a e,congrArg Fm.b e,congrArg Fm.c e⟩))).symm
  have hb3_:=(bW hb3)
  refine au<|aw hP<|bA rfl rfl ?_
  refine ak rfl<|ag ?_
  refine ⟨k+1,hI.next (d:=⟨0,0,0⟩) (by omega) (Fm.ext (dT0 (bW hb3)).1 (dT0 (bW hb3)).2.1 (dT0 (bW hb3)).2.2),by omega,aE ⟨.refl _,.refl _,.refl _,.refl _,.refl _,aK (by omega),trivial⟩ trivial⟩
 have hb2_:=dF0 hb2
 refine aW<|ae hP<|aj rfl<|ag<|am<|E1 rfl rfl ?_
 exact bd (decide_eq_true (hI.yes (by omega))).symm
theorem sH (l:List Fm) (F:FuncId) (caps:List (List DV)) (p:Fm→Bool) (hc:∀ g:Fm,aH Tryz.prog F ([FA g.a g.b g.c] ++ caps.map .ip) (B (p g))) (hl:(l.length:Int)≤1000000000) :
  aH Tryz.prog 204 [.p (.c (FS l)),.fn F caps] (Z (jT p l 0)):=by
 refine aM Tryz.func204 rfl rfl rfl rfl ?_
 refine ae hP<|aj rfl<|ag<|ao<|ae hP<|ak rfl<|ab (aX hT rfl rfl rfl (by rfl)) ?_
 refine ak rfl<|ag<|aC<|bl (ι:=Nat) (fun k=>stL [(0,.p (.c (FS l))),(1,.fn F caps),(7,Z (l.length:Int)),(8,Z (k:Int))] []) (fun k=>k≤l.length∧jT p l 0=jT p (l.drop k) k) (fun k=>l.length - k) 0 ⟨Nat.zero_le _,rfl⟩ (aE ⟨.refl _,.refl _,.refl _,.refl _,trivial⟩ trivial) ?_
 rintro k ⟨hk,hI⟩
 refine ae hP<|ab (bh rfl rfl)<|ag<|ao ?_
 refine ay rfl (fun hb1=>?_) (fun hb1=>?_)
 ·have hb1_:=dT0 hb1
  refine au<|ao<|aC<|ae hP<|ak rfl<|aj rfl<|ag<|ae hP<|ab (az (rfl:_=AV.fn _ _))<|ak rfl<|ak rfl<|ab (iE hT (n:=(k:Int)) rfl rfl rfl rfl rfl rfl (by omega)) ?_
  refine ab (bf hT rfl rfl rfl (cs:=FC (l.getD k ⟨0,0,0⟩)) rfl rfl) ?_
  refine ab (Eff.callC rfl (hc (l.getD k ⟨0,0,0⟩))) ?_
  refine ag ?_
  refine ay rfl (fun hb2=>?_) (fun hb2=>?_)
  ·refine ae hP<|ak rfl<|aj rfl<|ag<|am<|E1 rfl rfl ?_
   exact aK (hI.trans (C9 (by omega) hb2)).symm
  refine au<|aw hP<|bA rfl rfl ?_
  refine ak rfl<|ag ?_
  refine ⟨k+1,⟨by omega,hI.trans (Az (by omega) hb2)⟩,by omega,aE ⟨.refl _,.refl _,.refl _,aK (by omega),trivial⟩ trivial⟩
 have hb1_:=dF0 hb1
 refine aW<|ae hP<|aj rfl<|ag<|am<|E1 rfl rfl ?_
 exact aK (hI.trans (Da (by omega))).symm
theorem oJ (l:List Fm) (F:FuncId) (caps:List (List DV)) (p:Fm→Bool) (hc:∀ g:Fm,aH Tryz.prog F ([FA g.a g.b g.c] ++ caps.map .ip) (B (p g))) (hl:(l.length:Int)≤1000000000) :
  aH Tryz.prog 166 [.p (.c (FS l)),.fn F caps] (B (l.any p)):=by
 refine aM Tryz.func166 rfl rfl rfl rfl ?_
 refine ae hP<|aj rfl<|ag<|ae hP<|ak rfl<|ab (az (rfl:_=AV.fn _ _))<|ab (ah (sH l F caps p hc hl)) ?_
 refine ab (dp rfl rfl)<|aj rfl<|ag<|am<|E1 rfl rfl ?_
 exact bd (uY l 0)
theorem ua (a:Ans) (x:Int) (hx:bu x) :
  aH Tryz.prog 162 [Z x,.ip (anS a)] (B (decide (a.m=x))):=by
 refine aM Tryz.func162 rfl rfl rfl rfl ?_
 refine ae hP<|aj rfl<|ag<|ae hP<|ab (vV hT rfl rfl rfl rfl rfl rfl)<|ab (bf hT rfl rfl rfl (cs:=enI a.m) rfl rfl)<|ak rfl<|ab (ah (fh x hx)) ?_
 refine ab (ah (fN _ _)) ?_
 refine aj rfl<|ag<|am<|E1 rfl rfl ?_
 exact .refl _
theorem Cq (g o:Fm) :
  aH Tryz.prog 167 [FA g.a g.b g.c,.ip [zn o.a,zm o.a,zn o.b,zm o.b,zn o.c,zm o.c]] (B (decide (g.a=o.a∧g.b=o.b∧g.c=o.c))):=by
 refine aM Tryz.func167 rfl rfl rfl rfl ?_
 refine ae hP<|aq ai (aL rfl rfl)<|aj rfl<|ag<|ae hP<|br hT rfl rfl rfl rfl rfl rfl<|ab (bf hT rfl rfl rfl (cs:=[_,_,_,_,_,_]) rfl rfl)<|ab (ah (pP _ _ _ _ _ _)) ?_
 refine aj rfl<|ag<|am<|E1 rfl rfl ?_
 exact .refl _
theorem GT (f:Fm) (D:Int) (m:Nat) (hfa:L 6 f.a) (hfb:L 6 f.b) (hfc:L 6 f.c) (hf:Cl D f) (hD:-4194304≤D∧D < 0) (hm:1≤m∧m≤65536) (hE:szE D=0) (a:Ans) (hax:L 30 a.x) (hay:L 30 a.y) (hlr:(a.roots.length:Int)≤1000000) (hlf:(a.forms.length:Int)≤1000000) :
  aH Tryz.prog 101 [FA f.a f.b f.c,Z (m:Int),.p (.a (anS a))] (B (rgV D m f a)):=by
 have fa:LB f.a 6:=⟨hfa⟩
 have fb:LB f.b 6:=⟨hfb⟩
 have fc:LB f.c 6:=⟨hfc⟩
 have iD:LB D 6:=⟨by unfold L;omega⟩
 have hdf:dsc f.a f.b f.c=D:=hf.disc
 have iax:LB a.x 30:=⟨hax⟩
 have iay:LB a.y 30:=⟨hay⟩
 have cDs:aH Tryz.prog 40 [FA f.a f.b f.c] (I D):=by rw [← hdf];exact gh f.a f.b f.c lz lz lz
 have cRd:aH Tryz.prog 41 [FA f.a f.b f.c] (.t [PF f.rd,PM (rdM f.a f.b f.c),PE (rdE f.a f.b f.c)]):=jk f.a f.b f.c lz lz lz
 have hfl:=MR (D:=D) (hm:=hm.2)
 have cFn:=fun g=>Cq g f.rd
 refine aM Tryz.func101 rfl rfl rfl rfl ?_
 refine ae hP<|aq ai (aL rfl rfl)<|aq ai (aL rfl rfl)<|aq ai (aB hT rfl rfl)<|ag<|ae hP<|br hT rfl rfl rfl rfl rfl rfl<|ab (ah cDs) ?_
 refine aq ai (aB hT rfl rfl)<|aG hT rfl<|ag<|ao<|ae hP<|aI hT rfl<|bi hT rfl rfl rfl rfl ?_
 refine ag<|aC<|ae hP<|ab (bj rfl rfl)<|aj rfl<|ag ?_
 refine ay rfl (fun hb1=>?_) (fun hb1=>?_)
 ·have hb1_:=bT hb1
  have k1:=bT hb1
  refine ae hP<|aI hT rfl<|av hT rfl<|aI hT rfl<|av hT rfl<|ab (ah (nW a.x a.y lz lz)) ?_
  refine ab (ah (fh 1 (by decide))) ?_
  refine ab (ah (fN _ _)) ?_
  refine ak rfl ?_
  refine aY (t:=28) rfl (fun hg2=>?_) (fun hg2=>?_)
  ·have hgc:=hg2
   refine aA hg2 (aJ hT rfl rfl rfl rfl (cs:=[_,_,_,_,_,_]) rfl rfl) ?_
   refine aA hg2 (aT hT rfl rfl rfl rfl rfl rfl) ?_
   refine aA hg2 (aJ hT rfl rfl rfl rfl (cs:=[_,_]) rfl rfl) ?_
   refine aA hg2 (aT hT rfl rfl rfl rfl rfl rfl) ?_
   refine aA hg2 (aJ hT rfl rfl rfl rfl (cs:=[_,_]) rfl rfl) ?_
   refine aA hg2 (ah (qD f.a f.b f.c a.x a.y lz lz lz lz lz)) ?_
   refine aA hg2 (az (rfl:_=AV.p (.c _))) ?_
   refine aA hg2 (ah (fh (m:Int) (by unfold bu;omega))) ?_
   refine aA hg2 (ah (fN _ _)) ?_
   refine ab (aO rfl hg2 (rfl:_=AV.p (.c _)))<|aG hT rfl<|ag<|am ?_
   refine bI rfl (.inr rfl) (cy hT rfl rfl rfl rfl rfl) ?_ bt
   exact bd (Nv k1 hgc)
  have hgc:=hg2
  iterate 9 refine aZ hg2 ?_
  refine ab (aN rfl hg2 (rfl:_=AV.p (.c _)))<|aG hT rfl<|ag<|am ?_
  refine bI rfl (.inr rfl) (cy hT rfl rfl rfl rfl rfl) ?_ bt
  exact bd (LU k1 hgc)
 have hb1_:=bF hb1
 have k1:=bF hb1
 refine ae hP<|ab (bj rfl rfl)<|aj rfl<|ag ?_
 refine ay rfl (fun hb3=>?_) (fun hb3=>?_)
 ·have hb3_:=bT hb3
  have k2:=bT hb3
  refine c9 (t:=5) rfl rfl ?_
  refine ae hP<|ab (ky rfl)<|aq ai (aB hT rfl rfl)<|aG hT rfl<|ag<|ao<|ae hP<|br hT rfl rfl rfl rfl rfl rfl<|ak rfl<|ab (ah (rU f m)) ?_
  refine ag<|aC<|dz (t:=stL [(1,Z (m:Int)),(3,.loc 3 0),(6,.loc 6 0),(7,.loc 7 0),(8,.loc 8 0),(44,.fn 137 [[zn f.a,zm f.a,zn f.b,zm f.b,zn f.c,zm f.c],[.v (.int .i64 (m:Int))]])] [(3,⟨false,1,46,[zn f.a,zm f.a,zn f.b,zm f.b,zn f.c,zm f.c]⟩),(6,⟨false,1,4,[.v (.bool false)]⟩),(7,⟨false,1,29,[zn D,zm D]⟩),(8,⟨false,1,183,[.fn 162 [.ip (anS a)]]⟩)]) (aE ⟨.refl _,.refl _,.refl _,.refl _,.refl _,.refl _,trivial⟩ ⟨rfl,rfl,rfl,rfl,trivial⟩) ?_
  refine fF 9 (fun _=>da [(3,⟨false,1,46,[zn f.a,zm f.a,zn f.b,zm f.b,zn f.c,zm f.c]⟩),(6,⟨false,1,4,[.v (.bool false)]⟩),(7,⟨false,1,29,[zn D,zm D]⟩),(8,⟨false,1,183,[.fn 162 [.ip (anS a)]]⟩)]) (AgN D m f a.m) rfl (pQ f D m hfa hfb hfc hf hD hm hE) A1 rfl rfl rfl AgN.start (fun k x hx hI=>?_) (fun hI=>?_)
  ·obtain ⟨c,hc,rfl⟩:=E0 hx
   refine aw hP<|aj rfl<|ag<|aC<|ae hP<|bi hT rfl rfl rfl rfl ?_
   refine ak rfl<|ab (Eff.callD (caps:=[anS a]) rfl (ua a c (by have:=Lo hD hc;unfold bu;omega))) ?_
   refine ag ?_
   refine ay rfl (fun hb4=>?_) (fun hb4=>?_)
   ·have he:=dT0 hb4
    refine ae hP<|aG hT rfl<|ag<|am ?_
    refine ⟨_,GW.forget fun _=>.inl rfl,?_⟩
    refine bI rfl (.inr rfl) (cy hT rfl rfl rfl rfl rfl) ?_ bt
    exact bd (BV k1 k2 (Ju hc he))
   have he:=dF0 hb4
   refine au ?_
   exact ⟨GW.forget fun x=>SubO.own (l:=[(3,⟨false,1,46,[zn f.a,zm f.a,zn f.b,zm f.b,zn f.c,zm f.c]⟩),(6,⟨false,1,4,[.v (.bool false)]⟩),(7,⟨false,1,29,[zn D,zm D]⟩),(8,⟨false,1,183,[.fn 162 [.ip (anS a)]]⟩)]) ⟨rfl,rfl,rfl,rfl,trivial⟩ x,hI.next hc he⟩
  have hna:=hI.done rfl
  clear hI
  refine ao<|ae hP<|ak rfl<|aq ai (Eff.callG (wM m)) ?_
  refine ag<|aC<|dz (t:=stL [(50,.fnl 135 50),(1,Z (m:Int)),(3,.loc 3 0),(6,.loc 6 0),(7,.loc 7 0),(8,.loc 8 0)] ((50,⟨false,1,3,[.v (.int .i64 ((m:Nat):Int))]⟩) :: [(3,⟨false,1,46,[zn f.a,zm f.a,zn f.b,zm f.b,zn f.c,zm f.c]⟩),(6,⟨false,1,4,[.v (.bool false)]⟩),(7,⟨false,1,29,[zn D,zm D]⟩),(8,⟨false,1,183,[.fn 162 [.ip (anS a)]]⟩)])) (aE ⟨.refl _,.refl _,.refl _,.refl _,.refl _,.refl _,trivial⟩ ⟨rfl,rfl,rfl,rfl,rfl,trivial⟩) ?_
  refine ql (l:=[(1,Z (m:Int)),(3,.loc 3 0),(6,.loc 6 0),(7,.loc 7 0),(8,.loc 8 0)]) (o:=da ((50,⟨false,1,3,[.v (.int .i64 ((m:Nat):Int))]⟩) :: [(3,⟨false,1,46,[zn f.a,zm f.a,zn f.b,zm f.b,zn f.c,zm f.c]⟩),(6,⟨false,1,4,[.v (.bool false)]⟩),(7,⟨false,1,29,[zn D,zm D]⟩),(8,⟨false,1,183,[.fn 162 [.ip (anS a)]]⟩)])) 51 (fun _=>da [(3,⟨false,1,46,[zn f.a,zm f.a,zn f.b,zm f.b,zn f.c,zm f.c]⟩),(6,⟨false,1,4,[.v (.bool false)]⟩),(7,⟨false,1,29,[zn D,zm D]⟩),(8,⟨false,1,183,[.fn 162 [.ip (anS a)]]⟩)]) (PtX m a.m) (uc m hm) rfl rfl rfl rfl (ug rfl) zS rfl rfl rfl PtX.start (fun k x hx hI=>?_) (fun hI=>?_)
  ·obtain ⟨q,hq,rfl⟩:=Ex hx
   refine aw hP<|aj rfl<|ag<|aC<|ae hP<|bi hT rfl rfl rfl rfl ?_
   refine ak rfl<|ab (Eff.callD (caps:=[anS a]) rfl (ua a (q:Int) (by have:=yf hm hq;unfold bu;omega))) ?_
   refine ag ?_
   refine ay rfl (fun hb5=>?_) (fun hb5=>?_)
   ·have he:=dT0 hb5
    refine ae hP<|av hT rfl<|ak rfl<|ab (ah (rT D q hD (yf hm hq))) ?_
    refine aG hT rfl<|ag<|am ?_
    refine ⟨_,GW.forget fun _=>.inl rfl,?_⟩
    refine bI rfl (.inr rfl) (cy hT rfl rfl rfl rfl rfl) ?_ bt
    exact bd (BV k1 k2 (Js hna hq he))
   have he:=dF0 hb5
   refine au ?_
   exact ⟨GW.forget fun x=>SubO.own (l:=[(3,⟨false,1,46,[zn f.a,zm f.a,zn f.b,zm f.b,zn f.c,zm f.c]⟩),(6,⟨false,1,4,[.v (.bool false)]⟩),(7,⟨false,1,29,[zn D,zm D]⟩),(8,⟨false,1,183,[.fn 162 [.ip (anS a)]]⟩)]) ⟨rfl,rfl,rfl,rfl,trivial⟩ x,hI.next hq he⟩
  refine ae hP<|aG hT rfl<|ag<|am ?_
  refine bI rfl (.inr rfl) (cy hT rfl rfl rfl rfl rfl) ?_ bt
  exact bd (BV k1 k2 (Jt hna hI rfl))
 have hb3_:=bF hb3
 have k2:=bF hb3
 refine au<|ae hP<|br hT rfl rfl rfl rfl rfl rfl<|ab (ah cRd) ?_
 refine ab (az (rfl:_=AV.t _))<|ab (aD rfl (v:=.a _) rfl)<|ab (aD rfl (v:=.a _) rfl)<|ab (aD rfl (v:=.c _) rfl)<|aq ai (aB hT rfl rfl)<|aq ai (aB hT rfl rfl)<|aG hT rfl<|aG hT rfl<|aj rfl<|ag<|ae hP<|av hT rfl<|ak rfl<|ab (ah (rS D m hD hm)) ?_
 refine aj rfl<|ag<|c9 (t:=11) rfl rfl ?_
 refine ae hP<|ak rfl<|ab (aX hT rfl rfl rfl (by rfl)) ?_
 refine ab (bJ rfl rfl)<|ak rfl ?_
 refine aY (t:=70) rfl (fun hg6=>?_) (fun hg6=>?_)
 ·have hg6_:=dT0 hg6
  have q1:=hg6
  refine aA hg6 (aT hT rfl rfl rfl rfl rfl rfl) ?_
  refine aA hg6 (bL hT rfl rfl rfl rfl (by first | rfl | exact eh (by omega))) ?_
  refine aA hg6 (aJ hT rfl rfl rfl rfl (cs:=[_,_]) rfl rfl) ?_
  refine aA hg6 (az (rfl:_=AV.p (.c _))) ?_
  refine aA hg6 (ah (ue D m hD hm)) ?_
  refine aA hg6 (ah (sI a.roots (rbL D m) (by omega))) ?_
  refine ab (aO rfl hg6 (rfl:_=AV.p (.c _)))<|ak rfl ?_
  refine aY (t:=78) rfl (fun hg7=>?_) (fun hg7=>?_)
  ·have q2:=hg7
   refine aA hg7 (aT hT rfl rfl rfl rfl rfl rfl) ?_
   refine aA hg7 (bL hT rfl rfl rfl rfl (by first | rfl | exact eh (by omega))) ?_
   refine aA hg7 (az (rfl:_=AV.p (.c _))) ?_
   refine aA hg7 (ah (sJ a.forms (fmL D m) (by omega))) ?_
   refine ab (aO rfl hg7 (rfl:_=AV.p (.c _)))<|ak rfl ?_
   refine aY (t:=84) rfl (fun hg8=>?_) (fun hg8=>?_)
   ·have q3:=hg8
    refine aA hg8 (az (rfl:_=AV.p (.c _))) ?_
    refine aA hg8 (oz rfl) ?_
    refine aA hg8 (ah (oJ (fmL D m) 167 [[zn f.rd.a,zm f.rd.a,zn f.rd.b,zm f.rd.b,zn f.rd.c,zm f.rd.c]] _ cFn (by omega))) ?_
    refine aA hg8 (bw rfl) ?_
    refine ab (aO rfl hg8 (rfl:_=AV.p (.c _)))<|aG hT rfl<|ag<|am ?_
    refine bI rfl (.inr rfl) (cy hT rfl rfl rfl rfl rfl) ?_ bt
    exact bd (xT k1 k2 (by rw [rg3 q1 q2 q3,Lk]))
   have q3:=hg8
   iterate 4 refine aZ hg8 ?_
   refine ab (aN rfl hg8 (rfl:_=AV.p (.c _)))<|aG hT rfl<|ag<|am ?_
   refine bI rfl (.inr rfl) (cy hT rfl rfl rfl rfl rfl) ?_ bt
   exact bd (xT k1 k2 (L1 q3))
  have q2:=hg7
  iterate 4 refine aZ hg7 ?_
  refine ab (aN rfl hg7 (rfl:_=AV.p (.c _)))<|ak rfl<|aZ rfl ?_
  iterate 3 refine aZ rfl ?_
  refine ab (aN rfl rfl (rfl:_=AV.p (.c _)))<|aG hT rfl<|ag<|am ?_
  refine bI rfl (.inr rfl) (cy hT rfl rfl rfl rfl rfl) ?_ bt
  exact bd (xT k1 k2 (L2 q2))
 have hg6_:=dF0 hg6
 have q1:=hg6
 iterate 6 refine aZ hg6 ?_
 refine ab (aN rfl hg6 (rfl:_=AV.p (.c _)))<|ak rfl<|aZ rfl ?_
 iterate 3 refine aZ rfl ?_
 refine ab (aN rfl rfl (rfl:_=AV.p (.c _)))<|ak rfl<|aZ rfl ?_
 iterate 3 refine aZ rfl ?_
 refine ab (aN rfl rfl (rfl:_=AV.p (.c _)))<|aG hT rfl<|ag<|am ?_
 refine bI rfl (.inr rfl) (cy hT rfl rfl rfl rfl rfl) ?_ bt
 exact bd (xT k1 k2 (L3 q1))
end
end Go.Proofs.YthaiejfjnllglaaGreatDoor
