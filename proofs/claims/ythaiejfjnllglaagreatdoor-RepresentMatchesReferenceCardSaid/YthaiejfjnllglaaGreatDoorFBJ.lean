import Derived.Test.YthaiejfjnllglaaGreatDoorFBF
import Derived.Test.YthaiejfjnllglaaGreatDoorFBE
import Derived.Test.YthaiejfjnllglaaGreatDoorFBI
set_option maxRecDepth 100000
set_option maxHeartbeats 16000000
namespace Go.Proofs.YthaiejfjnllglaaGreatDoor
section
open Go Go.AM
theorem Ct (f:Fm) (m:Int) (hfa:L 6 f.a) (hfb:L 6 f.b) (hfc:L 6 f.c) (hE:¬ alE f m=0) (a:Ans) :
  aH Tryz.prog 34 [FA f.a f.b f.c,Z m,.p (.a (anS a))] (.t [PB false,PE (alE f m)]):=by
 have fa:LB f.a 6:=⟨hfa⟩
 have fb:LB f.b 6:=⟨hfb⟩
 have fc:LB f.c 6:=⟨hfc⟩
 refine aM Tryz.func34 rfl rfl rfl rfl ?_
 refine ae hP<|aq ai (aL rfl rfl)<|aq ai (aL rfl rfl)<|aj rfl<|aj rfl<|ag<|ao<|ae hP<|br hT rfl rfl rfl rfl rfl rfl<|ak rfl<|ab (ah (iA f m hfa hfb hfc)) ?_
 refine aj rfl<|ag<|ae hP<|ak rfl<|ab (bq rfl rfl)<|ag<|aU rfl (by simpa using hE) ?_
 refine ae hP<|ak rfl<|aj rfl<|aj rfl<|ag<|am<|E11 rfl rfl rfl ?_
 exact .refl _
theorem CQ (f:Fm) (D:Int) (hfa:L 6 f.a) (hfb:L 6 f.b) (hfc:L 6 f.c) (hf:Cl D f) (hD:-4194304≤D∧D < 0) (hE:szE D=0) (x:Int):∃ (a:Ans) (e:Int),aH Tryz.prog 30 [FA f.a f.b f.c,Z x] (.p (.a (anS a ++ [.v (.int .i64 e)])))∧aH Tryz.prog 31 [FA f.a f.b f.c,Z x] (.p (.a (anS a ++ [.v (.int .i64 e)])))∧a.roots.length≤131072∧a.forms.length≤131072:=by
 by_cases hx:1≤x∧x≤65536
 ·obtain ⟨m,rfl⟩:∃ m:Nat,x=(m:Int):=⟨x.toNat,by omega⟩
  have hm:1≤m∧m≤65536:=by omega
  exact ⟨fnd D m f,0,jr f D m hfa hfb hfc hf hD hm hE,pM f D m hfa hfb hfc hf hD hm hE,xo hm.2⟩
 have hb:=Lm (f:=f) hx
 exact ⟨⟨0,0,0,0,[],[]⟩,alE f x,se f x hfa hfb hfc hb,vO f x hfa hfb hfc hb,Nat.zero_le _,Nat.zero_le _⟩
theorem jL (D i0 i1 i2 i3 m0 m1 m2 m3:Nat) (hD:D < 65536) (g0:i0 < 65536) (g1:i1 < 65536) (g2:i2 < 65536) (g3:i3 < 65536) (k0:m0 < 256) (k1:m1 < 256) (k2:m2 < 256) (k3:m3 < 256) (p0 p1 p2 p3 p4 p5 p6:Bool) (u0 u1 u2 u3 u4 u5 u6:List Nat) (hu0:okW u0) (hu1:okW u1) (hu2:okW u2) (hu3:okW u3) (hu4:okW u4) (hu5:okW u5) (hu6:okW u6) (nn:Int) :
  aH Tryz.prog 4 [.p (.a [.v (.int .u16 (D:Int)),.v (.int .u16 (i0:Int)),.v (.int .u16 (i1:Int)),.v (.int .u16 (i2:Int)),.v (.int .u16 (i3:Int)),.v (.int .u8 (m0:Int)),.v (.int .u8 (m1:Int)),.v (.int .u8 (m2:Int)),.v (.int .u8 (m3:Int))]),.p (.a [.v (.bool p0),W u0,.v (.bool p1),W u1,.v (.bool p2),W u2,.v (.bool p3),W u3,.v (.bool p4),W u4,.v (.bool p5),W u5,.v (.bool p6),W u6]),Z nn] (B true):=by
 have c0:=Cc _ _ _ _ _ _ _ _ _ hD g0 g1 g2 g3 k0 k1 k2 k3
 have hf:=Kh D i0 m0
 obtain ⟨fa,fb,fc⟩:=Ki (D:=D) (i:=i0) k0
 obtain ⟨hD1,hD2⟩:=LH D
 obtain ⟨s1,s2,s3,s4,s5⟩:=fg D
 have hE:=wj D
 have h4:=F6 D
 obtain ⟨m,hmE⟩:∃ m:Nat,(m:Int)=1+(i2:Int) % 200:=⟨1+i2 % 200,by omega⟩
 have hm:1≤m∧m≤65536:=by omega
 have hmw:IntKind.i64.wrap (1+(i2:Int) % 200)=(m:Int):=by rw [← hmE];exact iW0 _ (by omega)
 generalize mkF D i0 m0=f at *
 have hdN:-szz D=-szz D:=rfl
 generalize hdd:-szz D=d at *
 clear hdN
 have jfa:LB f.a 6:=⟨fa⟩
 have jfb:LB f.b 6:=⟨fb⟩
 have jfc:LB f.c 6:=⟨fc⟩
 have idl:LB d 6:=⟨by unfold L;omega⟩
 have hdB:-4194304≤d∧d < 0:=by omega
 have hdf:dsc f.a f.b f.c=d:=hf.disc
 have cDs:aH Tryz.prog 40 [FA f.a f.b f.c] (I d):=by rw [← hdf];exact gh f.a f.b f.c lz lz lz
 have cDr:aH Tryz.prog 24 [FA f.a f.b f.c] (I d):=by rw [← hdf];exact gx f.a f.b f.c lz lz lz
 have cA:=JQ p0 p1 p2 p3 p4 p5 p6 u0 u1 u2 u3 u4 u5 u6 hu0 hu1 hu2 hu3 hu4 hu5 hu6
 obtain ⟨o,e1,e2,e3⟩:∃ o:Fm,md p0 u0=o.a∧md p1 u1=o.b∧md p2 u2=o.c:=⟨⟨_,_,_⟩,rfl,rfl,rfl⟩
 have oa:L 6 o.a:=e1 ▸ CF (n:=p0) hu0
 have ob:L 6 o.b:=e2 ▸ CF (n:=p1) hu1
 have oc:L 6 o.c:=e3 ▸ CF (n:=p2) hu2
 rw [e1,e2,e3] at cA
 clear e1 e2 e3
 have ioa:LB o.a 6:=⟨oa⟩
 have iob:LB o.b 6:=⟨ob⟩
 have ioc:LB o.c 6:=⟨oc⟩
 have cRo:=wP d m hdB h4 hm
 have cRi:=vN d m hdB hm h4
 have cAl:=EB f d m fa fb fc hf hdB hm
 have cPr:=rH f d m fa fb fc hf hdB hm
 have cFd:=jr f d m fa fb fc hf hdB hm hE
 have cFi:=pM f d m fa fb fc hf hdB hm hE
 have hbt:=fun x=>CQ f d fa fb fc hf hdB hE x
 have hrl:=lr d m hm.2
 have hpl:(prS d m f).length≤1000000:=by rw [pO];exact tV hm
 have hfl:=xo (D:=d) (f:=f) hm.2
 generalize rbL d m=rl at *
 generalize prS d m f=pl at *
 generalize fnd d m f=an at *
 have cDo:=gx o.a o.b o.c lz lz lz
 have hdo:L 40 (dsc o.a o.b o.c):=lz
 have cBd:=fun x=>kU o x oa ob oc
 have cFo:=fun x h=>se o x oa ob oc h
 have cAo:=fun x h=>J2 o x oa ob oc h
 have cCo:=fun x h=>Ct o x oa ob oc h an
 have cR0:=Cs (dsc o.a o.b o.c) 0 hdo zB
 have cI0:=tR (dsc o.a o.b o.c) 0 hdo zB
 generalize dsc o.a o.b o.c=od at *
 refine aM Tryz.func4 rfl rfl rfl rfl ?_
 refine ae hP<|aq ai (aL rfl rfl)<|aq ai (aL rfl rfl)<|aj rfl<|ag<|ae hP<|ab (ah uD) ?_
 refine aj rfl<|ag<|ao<|ae hP<|ak rfl<|ab (bw rfl)<|ag<|aQ rfl rfl<|au<|ae hP<|ab (aJ hT rfl rfl rfl rfl (cs:=[_,_,_,_,_,_,_,_,_]) rfl rfl)<|ab (ah c0) ?_
 refine ab (aJ hT rfl rfl rfl rfl (cs:=[_,_,_,_,_,_,_,_,_,_,_,_,_,_]) rfl rfl)<|ab (ah cA) ?_
 refine aI hT rfl<|ab (aV hT rfl rfl rfl rfl rfl (by first | decide | omega)) ?_
 refine bi hT rfl rfl rfl rfl ?_
 refine ab (bM rfl rfl (by decide) (c:=(i2:Int) % 200) (Int.tmod_eq_emod_of_nonneg (by omega))) ?_
 refine ab (bn hT rfl rfl rfl rfl (iW0 _ (by omega))) ?_
 refine ab (bN rfl rfl (c:=(m:Int)) hmw) ?_
 refine aq ai (aB hT rfl rfl)<|aq ai (aB hT rfl rfl)<|aG hT rfl<|aG hT rfl<|aj rfl<|ag<|cH (ι:=Int) (fun x=>stL [(2,Z x),(7,.p (.c (.v (.bool true)))),(8,.loc 8 0),(9,.loc 9 0),(10,Z (m:Int))] [(8,⟨false,1,46,[zn f.a,zm f.a,zn f.b,zm f.b,zn f.c,zm f.c]⟩),(9,⟨false,1,46,[zn o.a,zm o.a,zn o.b,zm o.b,zn o.c,zm o.c]⟩)]) (fun _=>True) ?_ ?_
 ·refine ae hP<|ak rfl<|ab (dp rfl rfl)<|ak rfl ?_
  refine aY (t:=44) rfl (fun hg1=>?_) (fun hg1=>?_)
  ·have hg1_:=dT0 hg1
   refine aA hg1 (az (rfl:_=AV.p (.c _))) ?_
   refine aA hg1 (ej rfl rfl) ?_
   refine ab (aO rfl hg1 (rfl:_=AV.p (.c _)))<|ag ?_
   refine ay rfl (fun hb2=>?_) (fun hb2=>?_)
   ·have hb2_:=dT0 hb2
    refine aw hP<|ak rfl<|ab (bM rfl rfl (by decide) (c:=nn % 50) (Int.tmod_eq_emod_of_nonneg (by omega))) ?_
    refine bA rfl rfl ?_
    refine aj rfl<|ag ?_
    refine ⟨1+nn % 50,trivial,aE ⟨.refl _,.refl _,.refl _,.refl _,.refl _,trivial⟩ ⟨rfl,rfl,trivial⟩⟩
   have hb2_:=dF0 hb2
   refine au ?_
   refine ⟨nn,trivial,aE ⟨.refl _,.refl _,.refl _,.refl _,.refl _,trivial⟩ ⟨rfl,rfl,trivial⟩⟩
  have hg1_:=dF0 hg1
  refine aZ hg1 ?_
  refine aZ hg1 ?_
  refine ab (aN rfl hg1 (rfl:_=AV.p (.c _)))<|ag<|aQ rfl rfl<|au ?_
  refine ⟨nn,trivial,aE ⟨.refl _,.refl _,.refl _,.refl _,.refl _,trivial⟩ ⟨rfl,rfl,trivial⟩⟩
 intro x _
 refine (hbt x).elim (fun a2 hx2=>hx2.elim (fun e2 hx3=>?_))
 refine ae hP<|br hT rfl rfl rfl rfl rfl rfl<|ab (ah cDr) ?_
 refine aq ai (aB hT rfl rfl)<|aG hT rfl<|ag<|ae hP<|av hT rfl<|ak rfl<|ab (ah cRo) ?_
 refine ab (az (rfl:_=AV.t _))<|ab (aD rfl (v:=.c _) rfl)<|ab (aD rfl (v:=.c _) rfl)<|aj rfl<|aj rfl<|ag<|ae hP<|av hT rfl<|ak rfl<|ab (ah cRi) ?_
 refine aq ai (aB hT rfl rfl)<|aG hT rfl<|ag<|ae hP<|br hT rfl rfl rfl rfl rfl rfl<|ak rfl<|ab (ah cAl) ?_
 refine ab (az (rfl:_=AV.t _))<|ab (aD rfl (v:=.c _) rfl)<|ab (aD rfl (v:=.c _) rfl)<|aj rfl<|aj rfl<|ag<|ao<|ae hP<|ak rfl<|aI hT rfl<|bi hT rfl rfl rfl rfl ?_
 refine ab (bq rfl rfl)<|ak rfl<|aA rfl (az (rfl:_=AV.p (.c _))) ?_
 refine aA rfl (aT hT rfl rfl rfl rfl rfl rfl) ?_
 refine aA rfl (bL hT rfl rfl rfl rfl (by first | rfl | exact eh (by omega))) ?_
 refine aA rfl (ah (mY rl rl (by omega))) ?_
 refine aA rfl (bw rfl) ?_
 refine ab (aN rfl rfl (rfl:_=AV.p (.c _)))<|ak rfl<|aA nnL (az (rfl:_=AV.p (.c _))) ?_
 refine aA nnL (bq rfl rfl) ?_
 refine ab (aN rfl nnL (rfl:_=AV.p (.c _))) ?_
 refine ak rfl<|aA rfl (az (rfl:_=AV.p (.c _))) ?_
 refine aA rfl (aJ hT rfl rfl rfl rfl (cs:=[_,_,_,_,_,_]) rfl rfl) ?_
 refine aA rfl (az (rfl:_=AV.p (.c _))) ?_
 refine aA rfl (ah cPr) ?_
 refine aA rfl (ah (sM pl (by omega))) ?_
 refine aA rfl (bw rfl) ?_
 refine ab (aN rfl rfl (rfl:_=AV.p (.c _)))<|ag<|aQ rfl rfl<|au<|dz (t:=stL [(2,Z x),(7,.p (.c (.v (.bool true)))),(8,.loc 8 0),(9,.loc 9 0),(10,Z (m:Int))] [(8,⟨false,1,46,[zn f.a,zm f.a,zn f.b,zm f.b,zn f.c,zm f.c]⟩),(9,⟨false,1,46,[zn o.a,zm o.a,zn o.b,zm o.b,zn o.c,zm o.c]⟩)]) (aE ⟨.refl _,.refl _,.refl _,.refl _,.refl _,trivial⟩ ⟨rfl,rfl,trivial⟩) ?_
 refine ae hP<|br hT rfl rfl rfl rfl rfl rfl<|ak rfl<|ab (ah cFd) ?_
 refine br hT rfl rfl rfl rfl rfl rfl<|ak rfl<|ab (ah cFi) ?_
 refine aq ai (aB hT rfl rfl)<|aq ai (aB hT rfl rfl)<|aG hT rfl<|aG hT rfl<|ag<|ae hP<|br hT rfl rfl rfl rfl rfl rfl<|ak rfl<|ab (ah hx3.1) ?_
 refine br hT rfl rfl rfl rfl rfl rfl<|ak rfl<|ab (ah hx3.2.1) ?_
 refine aq ai (aB hT rfl rfl)<|aq ai (aB hT rfl rfl)<|aG hT rfl<|aG hT rfl<|ag<|ao<|ae hP<|aI hT rfl<|bi hT rfl rfl rfl rfl ?_
 refine aI hT rfl<|bi hT rfl rfl rfl rfl ?_
 refine ab (bq rfl rfl)<|ak rfl<|aA rfl (aT hT rfl rfl rfl rfl rfl rfl) ?_
 refine aA rfl (aJ hT rfl rfl rfl rfl (cs:=anS an) rfl rfl) ?_
 refine aA rfl (aT hT rfl rfl rfl rfl rfl rfl) ?_
 refine aA rfl (aJ hT rfl rfl rfl rfl (cs:=anS an) rfl rfl) ?_
 refine aA rfl (ah (gW an an (by omega) (by omega))) ?_
 refine aA rfl (bw rfl) ?_
 refine ab (aN rfl rfl (rfl:_=AV.p (.c _)))<|ak rfl<|bv (a7 rfl rfl (cz an)) (aT hT rfl rfl rfl rfl rfl rfl) ?_
 refine bv (a7 rfl rfl (cz an)) (bL hT rfl rfl rfl rfl (by first | rfl | exact eh (by omega))) ?_
 refine bv (a7 rfl rfl (cz an)) (aT hT rfl rfl rfl rfl rfl rfl) ?_
 refine bv (a7 rfl rfl (cz an)) (bL hT rfl rfl rfl rfl (by first | rfl | exact eh (by omega))) ?_
 refine bv (a7 rfl rfl (cz an)) (bq rfl rfl) ?_
 refine ab (aN rfl (cz an) (rfl:_=AV.p (.c _))) ?_
 refine ak rfl<|bv (a7 rfl rfl (neI rfl)) (aT hT rfl rfl rfl rfl rfl rfl) ?_
 refine bv (a7 rfl rfl (neI rfl)) (aJ hT rfl rfl rfl rfl (cs:=anS a2) rfl rfl) ?_
 refine bv (a7 rfl rfl (neI rfl)) (aT hT rfl rfl rfl rfl rfl rfl) ?_
 refine bv (a7 rfl rfl (neI rfl)) (aJ hT rfl rfl rfl rfl (cs:=anS a2) rfl rfl) ?_
 refine bv (a7 rfl rfl (neI rfl)) (ah (gW a2 a2 (by have:=hx3.2.2;omega) (by have:=hx3.2.2;omega))) ?_
 refine bv (a7 rfl rfl (neI rfl)) (bw rfl) ?_
 refine ab (aN rfl (neI rfl) (rfl:_=AV.p (.c _))) ?_
 refine ag<|aQ rfl (cz a2) ?_
 refine au<|dz (t:=stL [(2,Z x),(7,.p (.c (.v (.bool true)))),(9,.loc 9 0),(17,.loc 17 0)] [(9,⟨false,1,46,[zn o.a,zm o.a,zn o.b,zm o.b,zn o.c,zm o.c]⟩),(17,⟨false,1,72,anS an ++ [.v (.int .i64 0)]⟩)]) (aE ⟨.refl _,.refl _,.refl _,.refl _,trivial⟩ ⟨rfl,rfl,trivial⟩) ?_
 refine ae hP<|br hT rfl rfl rfl rfl rfl rfl<|ak rfl<|ab (ah (cBd x)) ?_
 refine aj rfl<|ag<|ao<|ae hP<|ak rfl<|ab (bj rfl rfl)<|ag ?_
 refine ay rfl (fun hb9=>?_) (fun hb9=>?_)
 ·have hb9_:=bT hb9
  have hbd:=bT hb9
  refine ae hP<|ak rfl<|aj rfl<|ag<|am<|E1 rfl rfl ?_
  exact .refl _
 have hb9_:=bF hb9
 have hbd:=bF hb9
 refine au<|dz (t:=stL [(2,Z x),(7,.p (.c (.v (.bool true)))),(9,.loc 9 0),(17,.loc 17 0),(21,Z (alE o x))] [(9,⟨false,1,46,[zn o.a,zm o.a,zn o.b,zm o.b,zn o.c,zm o.c]⟩),(17,⟨false,1,72,anS an ++ [.v (.int .i64 0)]⟩)]) (aE ⟨.refl _,.refl _,.refl _,.refl _,.refl _,trivial⟩ ⟨rfl,rfl,trivial⟩) ?_
 refine ae hP<|br hT rfl rfl rfl rfl rfl rfl<|ak rfl<|ab (ah (cFo x hbd)) ?_
 refine aq ai (aB hT rfl rfl)<|aG hT rfl<|ag<|ae hP<|br hT rfl rfl rfl rfl rfl rfl<|ak rfl<|ab (ah (cAo x hbd)) ?_
 refine ab (az (rfl:_=AV.t _))<|ab (aD rfl (v:=.c _) rfl)<|ab (aD rfl (v:=.c _) rfl)<|aj rfl<|aj rfl<|ag<|ae hP<|br hT rfl rfl rfl rfl rfl rfl<|ak rfl<|aI hT rfl<|ab (aJ hT rfl rfl rfl rfl (cs:=anS an) rfl rfl)<|ab (ah (cCo x hbd)) ?_
 refine ab (az (rfl:_=AV.t _))<|ab (aD rfl (v:=.c _) rfl)<|ab (aD rfl (v:=.c _) rfl)<|aj rfl<|aj rfl<|ag<|ae hP<|br hT rfl rfl rfl rfl rfl rfl<|ab (ah cDo) ?_
 refine ab (ah cR0) ?_
 refine ab (az (rfl:_=AV.t _))<|ab (aD rfl (v:=.c _) rfl)<|ab (aD rfl (v:=.c _) rfl)<|aj rfl<|aj rfl<|ag<|ae hP<|aI hT rfl<|bi hT rfl rfl rfl rfl ?_
 refine ak rfl<|ab (bj rfl rfl)<|ak rfl<|bv (a7 rfl rfl (beq_self_eq_true _)) (aT hT rfl rfl rfl rfl rfl rfl) ?_
 refine bv (a7 rfl rfl (beq_self_eq_true _)) (aJ hT rfl rfl rfl rfl (cs:=anS (⟨0,0,0,0,[],[]⟩:Ans)) rfl rfl) ?_
 refine bv (a7 rfl rfl (beq_self_eq_true _)) (aR hT rfl rfl rfl (es:=[_,_,_,_,_,_,_,_,_]) rfl) ?_
 refine bv (a7 rfl rfl (beq_self_eq_true _)) (ah (gW (⟨0,0,0,0,[],[]⟩:Ans) (⟨0,0,0,0,[],[]⟩:Ans) (by decide) (by decide))) ?_
 refine ab (aO rfl (beq_self_eq_true _) (rfl:_=AV.p (.c _))) ?_
 refine ak rfl<|bv (a7 rfl rfl (xR _)) (az (rfl:_=AV.p (.c _))) ?_
 refine bv (a7 rfl rfl (xR _)) (az (rfl:_=AV.p (.c _))) ?_
 refine bv (a7 rfl rfl (xR _)) (bj rfl rfl) ?_
 refine ab (aO rfl (xR _) (rfl:_=AV.p (.c _))) ?_
 refine ak rfl<|bv (a7 rfl rfl (beq_self_eq_true _)) (az (rfl:_=AV.p (.c _))) ?_
 refine bv (a7 rfl rfl (beq_self_eq_true _)) (aX hT rfl rfl rfl (by rfl)) ?_
 refine bv (a7 rfl rfl (beq_self_eq_true _)) (bj rfl rfl) ?_
 refine ab (aO rfl (beq_self_eq_true _) (rfl:_=AV.p (.c _))) ?_
 refine ak rfl<|aA rfl (az (rfl:_=AV.p (.c _))) ?_
 refine aA rfl (az (rfl:_=AV.p (.c _))) ?_
 refine aA rfl (bj rfl rfl) ?_
 refine ab (aO rfl rfl (rfl:_=AV.p (.c _)))<|ak rfl<|bv (a7 rfl rfl (beq_self_eq_true _)) (az (rfl:_=AV.p (.c _))) ?_
 refine bv (a7 rfl rfl (beq_self_eq_true _)) (bw rfl) ?_
 refine ab (aO rfl (beq_self_eq_true _) (rfl:_=AV.p (.c _))) ?_
 refine ak rfl<|aA rfl (az (rfl:_=AV.p (.c _))) ?_
 refine aA rfl (aJ hT rfl rfl rfl rfl (cs:=[_,_,_,_,_,_]) rfl rfl) ?_
 refine aA rfl (ah cDo) ?_
 refine aA rfl (ah cI0) ?_
 refine aA rfl (un hT rfl rfl rfl rfl rfl rfl rfl) ?_
 refine aA rfl (bj rfl rfl) ?_
 refine ab (aO rfl rfl (rfl:_=AV.p (.c _)))<|ak rfl<|bv (a7 rfl rfl (beq_self_eq_true _)) (az (rfl:_=AV.p (.c _))) ?_
 refine bv (a7 rfl rfl (beq_self_eq_true _)) (aX hT rfl rfl rfl (by rfl)) ?_
 refine bv (a7 rfl rfl (beq_self_eq_true _)) (bj rfl rfl) ?_
 refine ab (aO rfl (beq_self_eq_true _) (rfl:_=AV.p (.c _))) ?_
 refine ak rfl<|aA rfl (az (rfl:_=AV.p (.c _))) ?_
 refine ab (aO rfl rfl (rfl:_=AV.p (.c _)))<|aj rfl<|ag<|am<|E1 rfl rfl ?_
 exact .refl _
end
end Go.Proofs.YthaiejfjnllglaaGreatDoor
