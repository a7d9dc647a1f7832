import Derived.Test.YthaiejfjnllglaaGreatDoorABF
import Derived.Test.YthaiejfjnllglaaGreatDoorABE
import Derived.Test.YthaiejfjnllglaaGreatDoorABH
import Derived.Test.YthaiejfjnllglaaGreatDoorABC
import Derived.Test.YthaiejfjnllglaaGreatDoorABG
import Derived.Test.YthaiejfjnllglaaGreatDoorABD
import Derived.Shelf.SlLaysF0
set_option maxRecDepth 100000
set_option maxHeartbeats 16000000
namespace Go.Proofs.YthaiejfjnllglaaGreatDoor
section
open Go Go.AM
theorem Gw (f:Fm) (D:Int) (m:Nat) (hfa:L 6 f.a) (hfb:L 6 f.b) (hfc:L 6 f.c) (hf:Cl D f) (hD:-4194304≤D∧D < 0) (hm:1≤m∧m≤65536) (hE:szE D=0) (a:RA) (hok:∀ r∈a.nums,okW r.2) (hsz:∀ r∈a.nums,r.2.length≤1000) (hlr:a.roots.length≤100000) (hlf:a.forms.length≤100000) :
  aJ Tryz.prog 34 [FA f.a f.b f.c,Z (m:Int),.p (.a (raS a))] (.t [PB (rgA D m f a),PE 0]):=by
 have fa:LB f.a 6:=⟨hfa⟩
 have fb:LB f.b 6:=⟨hfb⟩
 have fc:LB f.c 6:=⟨hfc⟩
 have hdf:dsc f.a f.b f.c=D:=hf.disc
 have h0m:0 < (m:Int):=by omega
 have cRf:aJ Tryz.prog 65 [FA f.a f.b f.c,Z (m:Int)] (Z 0):=by
  have h:=mN f m hfa hfb hfc
  rwa [yH hf hm] at h
 refine aO Tryz.func34 rfl rfl rfl rfl ?_
 refine ae hP<|aq ai (aL rfl rfl)<|aq ai (aL rfl rfl)<|aj rfl<|aj rfl<|ag<|ao<|ae hP<|br hT rfl rfl rfl rfl rfl rfl<|ak rfl<|ab (ah cRf) ?_
 refine aj rfl<|ag<|ae hP<|ak rfl<|ab (bq rfl rfl)<|ag<|aQ rfl rfl<|au<|cy (ι:=Unit) (fun _=>stL [(1,Z (m:Int)),(3,.loc 3 0),(5,.loc 5 0),(9,B (decide (a.x.2=[]) && decide (a.y.2=[]))),(10,B (decide (a.m.2=[]))),(11,B (decide (((a.roots.length+a.forms.length:Nat):Int)=0)))] [(3,⟨false,1,46,[zn f.a,zm f.a,zn f.b,zm f.b,zn f.c,zm f.c]⟩),(5,⟨false,1,42,raS a⟩)]) (fun _=>True) ?_ ?_
 ·refine aw hP<|aG hT rfl<|av hT rfl<|ab (ah (kK a.x)) ?_
  refine ak rfl ?_
  refine aW (t:=27) rfl (fun hg1=>?_) (fun hg1=>?_)
  ·refine ay hg1 (aP hT rfl rfl rfl rfl rfl rfl) ?_
   refine ay hg1 (aF hT rfl rfl rfl rfl (cs:=[_,_]) rfl rfl) ?_
   refine ay hg1 (ah (kK a.y)) ?_
   refine ab (aN rfl hg1 (rfl:_=AV.p (.c _)))<|aG hT rfl<|av hT rfl<|ab (ah (kK a.m)) ?_
   refine aG hT rfl<|a8 hT rfl rfl rfl rfl ?_
   refine ab (aU hT rfl rfl rfl (by rfl)) ?_
   refine aG hT rfl<|a8 hT rfl rfl rfl rfl ?_
   refine ab (aU hT rfl rfl rfl (by rfl)) ?_
   refine bv rfl rfl ?_
   refine ab (bh rfl rfl)<|aj rfl<|aj rfl<|aj rfl<|ag ?_
   refine ⟨(),trivial,aD ⟨.refl _,.refl _,.refl _,aT (by rw [hg1,Bool.true_and]),.refl _,aT wI,trivial⟩ ⟨rfl,rfl,trivial⟩⟩
  iterate 3 refine aX hg1 ?_
  refine ab (aK rfl hg1 (rfl:_=AV.p (.c _)))<|aG hT rfl<|av hT rfl<|ab (ah (kK a.m)) ?_
  refine aG hT rfl<|a8 hT rfl rfl rfl rfl ?_
  refine ab (aU hT rfl rfl rfl (by rfl)) ?_
  refine aG hT rfl<|a8 hT rfl rfl rfl rfl ?_
  refine ab (aU hT rfl rfl rfl (by rfl)) ?_
  refine bv rfl rfl ?_
  refine ab (bh rfl rfl)<|aj rfl<|aj rfl<|aj rfl<|ag ?_
  refine ⟨(),trivial,aD ⟨.refl _,.refl _,.refl _,aT (by rw [hg1,Bool.false_and]),.refl _,aT wI,trivial⟩ ⟨rfl,rfl,trivial⟩⟩
 intro _ _
 refine ae hP<|aG hT rfl<|av hT rfl<|aG hT rfl<|av hT rfl<|aG hT rfl<|av hT rfl<|aq ai (dB hT rfl rfl rfl (es:=[_,_,_,_,_,_]) rfl rfl rfl) ?_
 refine aG hT rfl<|a8 hT rfl rfl rfl rfl ?_
 refine RK.app ai (eY hT rfl rfl rfl rfl rfl rfl rfl rfl rfl rfl (dC iH _) rfl (by show 32*(6+a.roots.length*2)≤_;omega) rfl (by decide)) ?_
 refine ab (a7 (rfl:_=AV.vec _))<|ag<|cr 52 1000 rfl rfl rfl ?_
 refine ao<|ae hP<|aG hT rfl<|a8 hT rfl rfl rfl rfl ?_
 refine ab (aU hT rfl rfl rfl (by rfl)) ?_
 refine ak rfl<|ag<|aA<|bg (ι:=Nat) (fun k=>stL [(1,Z (m:Int)),(3,.loc 3 0),(5,.loc 5 0),(9,B (decide (a.x.2=[]) && decide (a.y.2=[]))),(10,B (decide (a.m.2=[]))),(11,B (decide (((a.roots.length+a.forms.length:Nat):Int)=0))),(12,.vec 1000),(54,.p (.c (SL rfC a.forms))),(55,Z (a.forms.length:Int)),(56,Z (k:Int))] [(3,⟨false,1,46,[zn f.a,zm f.a,zn f.b,zm f.b,zn f.c,zm f.c]⟩),(5,⟨false,1,42,raS a⟩),(1000,VB 2 29 rC (eR a k))]) (fun k=>k≤a.forms.length) (fun k=>a.forms.length - k) 0 (Nat.zero_le _) (aD ⟨.refl _,.refl _,.refl _,.refl _,.refl _,.refl _,.refl _,.refl _,.refl _,.refl _,trivial⟩ ⟨rfl,rfl,Eq.trans rfl (congrArg (fun cs=>some (⟨true,2,29,cs⟩:Blk)) (zI a)),trivial⟩) ?_
 intro k hk
 refine ae hP<|ab (bi rfl rfl)<|ag<|ao ?_
 refine az rfl (fun hb2=>?_) (fun hb2=>?_)
 ·have hb2_:=dT0 hb2
  have hfk:=gR (l:=a.forms) (k:=k) (by omega) ((false,[]),(false,[]),(false,[]))
  refine au<|ao<|aA<|ae hP<|ab (b5 hT nG (by decide) ((false,[]),(false,[]),(false,[])) (n:=(k:Int)) (l:=a.forms) rfl rfl rfl rfl rfl rfl (by omega)) ?_
  refine ab (bf hT rfl rfl rfl (cs:=rfC (a.forms.getD k ((false,[]),(false,[]),(false,[])))) rfl rfl) ?_
  refine aq ai (aC hT rfl rfl)<|aI hT rfl<|ag<|aw hP<|ab (aB (rfl:_=AV.vec _))<|aG hT rfl<|av hT rfl<|aG hT rfl<|av hT rfl<|aG hT rfl<|av hT rfl<|ab (bd hT rfl rfl rfl (es:=[_,_,_,_,_,_]) rfl rfl rfl)<|RK.app ai (eY hT rfl rfl rfl rfl rfl rfl rfl rfl rfl rfl rfl rfl (by show 32*(((eR a k).flatMap rC).length+3*2)≤_;rw [dC iH];have:=l8 (a:=a) (k:=k);omega) rfl (by decide)) ?_
  refine ab (a7 (rfl:_=AV.vec _))<|ag<|cr 68 1000 rfl rfl rfl ?_
  refine aw hP<|bv rfl rfl ?_
  refine ak rfl<|ag ?_
  refine ⟨k+1,by omega,by omega,aD ⟨.refl _,.refl _,.refl _,.refl _,.refl _,.refl _,.refl _,.refl _,.refl _,aM (by omega),trivial⟩ ⟨rfl,rfl,Eq.trans rfl (congrArg (fun cs=>some (⟨true,2,29,cs⟩:Blk)) (zH hfk)),trivial⟩⟩
 have hb2_:=dF0 hb2
 have hnk:=oR (a:=a) (k:=k) (by omega)
 have hnl:=l8 (a:=a) (k:=k)
 refine aZ<|fi (encD:=rC) iH rfl (t:=12) rfl rfl ?_
 refine ao<|ae hP<|ak rfl<|ab (aU hT rfl rfl rfl (by rfl)) ?_
 refine ak rfl<|ag<|aA<|bg (ι:=Nat) (fun j=>stL [(1,Z (m:Int)),(3,.loc 3 0),(5,.loc 5 0),(9,B (decide (a.x.2=[]) && decide (a.y.2=[]))),(10,B (decide (a.m.2=[]))),(11,B (decide (((a.roots.length+a.forms.length:Nat):Int)=0))),(70,.p (.c (SL rC (eR a k)))),(71,Z ((eR a k).length:Int)),(72,Z (j:Int))] [(3,⟨false,1,46,[zn f.a,zm f.a,zn f.b,zm f.b,zn f.c,zm f.c]⟩),(5,⟨false,1,42,raS a⟩)]) (fun j=>j≤(eR a k).length∧VaK (eR a k) j) (fun j=>(eR a k).length - j) 0 ⟨Nat.zero_le _,VaK.start⟩ (aD ⟨.refl _,.refl _,.refl _,.refl _,.refl _,.refl _,.refl _,.refl _,.refl _,trivial⟩ ⟨rfl,rfl,trivial⟩) ?_
 rintro j ⟨hj,hI⟩
 refine ae hP<|ab (bi rfl rfl)<|ag<|ao ?_
 refine az rfl (fun hb3=>?_) (fun hb3=>?_)
 ·have hb3_:=dT0 hb3
  have hmj:((eR a k).getD j (false,[]))∈a.nums:=hnk ▸ fp (by omega)
  refine au<|ao<|aA<|ae hP<|ab (b5 hT iH (by decide) (false,[]) (n:=(j:Int)) (l:=(eR a k)) rfl rfl rfl rfl rfl rfl (by omega)) ?_
  refine ab (bf hT rfl rfl rfl (cs:=rC ((eR a k).getD j (false,[]))) rfl rfl) ?_
  refine aq ai (aC hT rfl rfl)<|aI hT rfl<|ag<|ae hP<|av hT rfl<|ab (ah (yn ((eR a k).getD j (false,[])) (by have:=hsz _ hmj;omega))) ?_
  refine ab (bt rfl)<|ag ?_
  refine az rfl (fun hb4=>?_) (fun hb4=>?_)
  ·have hb4_:=(bX hb4)
   refine ae hP<|aj rfl<|aj rfl<|ag<|am<|E11 rfl rfl rfl ?_
   exact aH (congrArg (fun b=>AV.t [PB b,PE 0]) (Aw hmj (bX hb4)))
  have hb4_:=(bU hb4)
  refine au<|aw hP<|bv rfl rfl ?_
  refine ak rfl<|ag ?_
  refine ⟨j+1,⟨by omega,hI.next (d:=(false,[])) (by omega) (bU hb4)⟩,by omega,aD ⟨.refl _,.refl _,.refl _,.refl _,.refl _,.refl _,.refl _,.refl _,aM (by omega),trivial⟩ ⟨rfl,rfl,trivial⟩⟩
 have hb3_:=dF0 hb3
 have hva:=hI.done (by omega)
 rw [hnk] at hva
 have hall:=fun r hr=>And.intro (hok r hr) (hva r hr)
 have hax:L 30 a.ans.x:=xI (hok _ xF) (hsz _ xF)
 have hay:L 30 a.ans.y:=xI (hok _ xE) (hsz _ xE)
 refine aZ<|ao<|dq (t:=stL [(1,Z (m:Int)),(3,.loc 3 0),(5,.loc 5 0),(9,B (decide (a.x.2=[]) && decide (a.y.2=[]))),(10,B (decide (a.m.2=[]))),(11,B (decide (((a.roots.length+a.forms.length:Nat):Int)=0)))] [(3,⟨false,1,46,[zn f.a,zm f.a,zn f.b,zm f.b,zn f.c,zm f.c]⟩),(5,⟨false,1,42,anS a.ans⟩)]) (aD ⟨.refl _,.refl _,.refl _,.refl _,.refl _,.refl _,trivial⟩ ⟨rfl,Eq.trans rfl (congrArg (fun cs=>some (⟨false,1,42,cs⟩:Blk)) (qt hall)),trivial⟩) ?_
 refine vG rfl ?_
 refine RM.mv (.inl rfl) rfl ?_
 refine RM.mv (.inl rfl) rfl ?_
 refine RM.and rfl rfl rfl rfl ?_
 refine RM.insert Tryz.underlying156 Tryz.underlying3 rfl rfl ?_
 refine RM.mv (.inl rfl) rfl ?_
 refine RM.mv (.inl rfl) rfl ?_
 refine RM.and rfl rfl rfl rfl ?_
 refine RM.insert Tryz.underlying156 Tryz.underlying3 rfl rfl ?_
 refine RM.mv (.inl rfl) rfl ?_
 refine RM.mv (.inl rfl) rfl ?_
 refine RM.and rfl rfl rfl rfl ?_
 refine RM.insert Tryz.underlying156 Tryz.underlying3 rfl rfl ?_
 refine RM.freeze ?_
 refine RT.mv (.inl rfl) rfl ?_
 refine RT.mv (.inr rfl) rfl ?_
 refine RT.done ?_
 refine ae hP<|ab (aB (rfl:_=AV.ax _))<|aG hT rfl<|a8 hT rfl rfl rfl rfl ?_
 refine ab (xV (l:=pp a) (n:=a.kind) Tryz.underlying156 Tryz.underlying3 (fun _=>by kernel_rfl) rfl rfl rfl) ?_
 refine ak rfl ?_
 refine aW (t:=98) rfl (fun hg5=>?_) (fun hg5=>?_)
 ·have hu:=hg5
  refine ay hg5 (aF hT rfl rfl rfl rfl (cs:=[_,_,_,_,_,_]) rfl rfl) ?_
  refine ay hg5 (aB (rfl:_=AV.p (.c _))) ?_
  refine ay hg5 (aF hT rfl rfl rfl rfl (cs:=[_,_,_,_,_,_,_,_,_]) rfl rfl) ?_
  refine ay hg5 (ah (Gu f D m hfa hfb hfc hf hD hm hE a.ans hax hay (by rw [ra_len.1];omega) (by rw [ra_len.2];omega))) ?_
  refine ab (aN rfl hg5 (rfl:_=AV.p (.c _)))<|aj rfl<|aj rfl<|ag<|am<|E11 rfl rfl rfl ?_
  exact aH (congrArg (fun b=>AV.t [PB b,PE 0]) (MD hva rfl hu))
 have hu:=hg5
 iterate 4 refine aX hg5 ?_
 refine ab (aK rfl hg5 (rfl:_=AV.p (.c _)))<|aj rfl<|aj rfl<|ag<|am<|E11 rfl rfl rfl ?_
 exact aH (congrArg (fun b=>AV.t [PB b,PE 0]) (ME hva rfl hu))
end
section
open Go Go.AM
theorem pJ (a b c:Int) (ha:L 25 a) (hb:L 25 b) (hc:L 25 c) :
  aJ Tryz.prog 105 [FA a b c] (FA (rdF a b c).a (rdF a b c).b (rdF a b c).c):=by
 have ia:LB a 25:=⟨ha⟩
 have ib:LB b 25:=⟨hb⟩
 have ic:LB c 25:=⟨hc⟩
 refine aO Tryz.func105 rfl rfl rfl rfl ?_
 refine ae hP<|aq ai (aL rfl rfl)<|aq ai (aC hT rfl rfl)<|ag<|ae hP<|br hT rfl rfl rfl rfl rfl rfl<|ab (ah (ry _ _ _ lz lz lz)) ?_
 refine ab (aB (rfl:_=AV.t _))<|ab (aE rfl (v:=.a _) rfl)<|ab (aE rfl (v:=.a _) rfl)<|ab (aE rfl (v:=.c _) rfl)<|aq ai (aC hT rfl rfl)<|aq ai (aC hT rfl rfl)<|aI hT rfl<|aI hT rfl<|aj rfl<|ag<|ae hP<|br hT rfl rfl rfl rfl rfl rfl<|aI hT rfl<|ag<|am ?_
 refine bW rfl (.inr rfl) (aS hT rfl rfl rfl rfl (cs:=[_,_,_,_,_,_]) rfl rfl) ?_ bu
 exact .refl _
end
section
open Go Go.AM
end
section
open Go Go.AM
end
section
open Go Go.AM
theorem oi (l m:List Fm) (hl:(l.length:Int)≤1000000000) :
  aJ Tryz.prog 49 [.p (.c (FS l)),.p (.c (FS m))] (B (decide (l=m))):=by
 refine aO Tryz.func49 rfl rfl rfl rfl ?_
 refine ae hP<|aj rfl<|ag<|ao<|ae hP<|ak rfl<|ab (aU hT rfl rfl rfl (by rfl)) ?_
 refine ak rfl<|ab (aU hT rfl rfl rfl (by rfl)) ?_
 refine ab (bq rfl rfl)<|ag ?_
 refine az rfl (fun hb1=>?_) (fun hb1=>?_)
 ·have hb1_:=bY hb1
  refine ae hP<|aj rfl<|ag<|am<|E1 rfl rfl ?_
  exact aT (J0 hb1_)
 have hb1_:=bS hb1
 refine au<|ao<|ae hP<|aj rfl<|ag<|aA<|bg (ι:=Nat) (fun k=>stL [(0,.p (.c (FS l))),(1,.p (.c (FS m))),(5,Z (k:Int))] []) (fun k=>SmI l m k) (fun k=>l.length - k) 0 (SmI.start l m) (aD ⟨.refl _,.refl _,.refl _,trivial⟩ trivial) ?_
 intro k hI
 have hk:=hI.k1
 refine ao<|ae hP<|ak rfl<|ak rfl<|ab (aU hT rfl rfl rfl (by rfl)) ?_
 refine ab (bi rfl rfl)<|ag ?_
 refine az rfl (fun hb2=>?_) (fun hb2=>?_)
 ·have hb2_:=dT0 hb2
  refine au<|ao<|aA<|ae hP<|ak rfl<|ak rfl<|ab (fX hT rfl rfl rfl rfl rfl rfl (by omega)) ?_
  refine ab (bf hT rfl rfl rfl (cs:=FC (l.getD k ⟨0,0,0⟩)) rfl rfl) ?_
  refine ak rfl<|ak rfl<|ab (fX hT rfl rfl rfl rfl rfl rfl (by omega)) ?_
  refine ab (bf hT rfl rfl rfl (cs:=FC (m.getD k ⟨0,0,0⟩)) rfl rfl) ?_
  refine ab (ah (tB ((l.getD k ⟨0,0,0⟩)).a ((l.getD k ⟨0,0,0⟩)).b ((l.getD k ⟨0,0,0⟩)).c (m.getD k ⟨0,0,0⟩).a (m.getD k ⟨0,0,0⟩).b (m.getD k ⟨0,0,0⟩).c)) ?_
  refine ab (bt rfl)<|ag ?_
  refine az rfl (fun hb3=>?_) (fun hb3=>?_)
  ·have hb3_:=(bX hb3)
   refine ae hP<|aj rfl<|ag<|am<|E1 rfl rfl ?_
   exact aT (SmI.no (l:=l) (m:=m) (k:=k) (bX hb3))
  have hb3_:=(bU hb3)
  refine au<|aw hP<|ak rfl<|bv rfl rfl ?_
  refine aj rfl<|ag ?_
  refine ⟨k+1,hI.next (by omega) (bU hb3),by omega,aD ⟨.refl _,.refl _,aM (by omega),trivial⟩ trivial⟩
 have hb2_:=dF0 hb2
 refine aZ<|ae hP<|aj rfl<|ag<|am<|E1 rfl rfl ?_
 exact aT (hI.yes hb1_ hb2_)
end
section
open Go Go.AM
theorem kx (f:Fm) (D:Int) (m:Nat) (hfa:L 6 f.a) (hfb:L 6 f.b) (hfc:L 6 f.c) (hf:Cl D f) (hD:-4194304≤D∧D < 0) (hm:1≤m∧m≤65536) (hE:szE D=0) :
  aJ Tryz.prog 30 [FA f.a f.b f.c,Z (m:Int)] (.p (.a (anS (fnd D m f) ++ [.v (.int .i64 0)]))):=by
 have cF:aJ Tryz.prog 17 [FA f.a f.b f.c,Z (m:Int)] (.t [.a (anS (fnd D m f)),PE 0]):=JH f D m hfa hfb hfc hf hD hm hE
 refine aO Tryz.func30 rfl rfl rfl rfl ?_
 refine ae hP<|aq ai (aL rfl rfl)<|aq ai (aC hT rfl rfl)<|ag<|ae hP<|br hT rfl rfl rfl rfl rfl rfl<|ak rfl<|ab (ah cF) ?_
 refine ab (aB (rfl:_=AV.t _))<|ab (aE rfl (v:=.a _) rfl)<|ab (aE rfl (v:=.c _) rfl)<|aq ai (aC hT rfl rfl)<|aI hT rfl<|aj rfl<|ag<|ae hP<|ab (aF hT rfl rfl rfl rfl (cs:=[_,_,_,_,_,_,_,_,_]) rfl rfl)<|ak rfl<|ab (a6 hT rfl rfl rfl (es:=[_,_,_,_,_,_,_,_,_,_]) rfl)<|aI hT rfl<|ag<|am ?_
 refine bW rfl (.inr rfl) (aS hT rfl rfl rfl rfl (cs:=[_,_,_,_,_,_,_,_,_,_]) rfl rfl) ?_ bu
 exact .refl _
theorem mU (f:Fm) (D:Int) (m:Nat) (hfa:L 6 f.a) (hfb:L 6 f.b) (hfc:L 6 f.c) (hf:Cl D f) (hD:-4194304≤D∧D < 0) (hm:1≤m∧m≤65536) (hE:szE D=0) (a:RA) (hok:∀ r∈a.nums,okW r.2) (hsz:∀ r∈a.nums,r.2.length≤1000) (hlr:a.roots.length≤100000) (hlf:a.forms.length≤100000) :
  aJ Tryz.prog 36 [FA f.a f.b f.c,Z (m:Int),.p (.a (raS a))] (B (rgA D m f a)):=by
 refine aO Tryz.func36 rfl rfl rfl rfl ?_
 refine ae hP<|aq ai (aL rfl rfl)<|aq ai (aL rfl rfl)<|aj rfl<|ag<|ae hP<|br hT rfl rfl rfl rfl rfl rfl<|ak rfl<|ab (aF hT rfl rfl rfl rfl (cs:=[_,_,_,_,_,_,_,_,_]) rfl rfl)<|ab (ah (Gw f D m hfa hfb hfc hf hD hm hE a hok hsz hlr hlf)) ?_
 refine ab (aB (rfl:_=AV.t _))<|ab (aE rfl (v:=.c _) rfl)<|ab (aE rfl (v:=.c _) rfl)<|aj rfl<|aj rfl<|ag<|ae hP<|ak rfl<|ak rfl ?_
 refine aW (t:=17) rfl (fun hg1=>?_) (fun hg1=>?_)
 ·have hv:=hg1
  refine ay hg1 (aB (rfl:_=AV.p (.c _))) ?_
  refine ay hg1 (bh rfl rfl) ?_
  refine ab (aN rfl hg1 (rfl:_=AV.p (.c _)))<|aj rfl<|ag<|am<|E1 rfl rfl ?_
  exact aT hv.symm
 have hv:=hg1
 refine aX hg1 ?_
 refine aX hg1 ?_
 refine ab (aK rfl hg1 (rfl:_=AV.p (.c _)))<|aj rfl<|ag<|am<|E1 rfl rfl ?_
 exact aT hv.symm
theorem jC (f:Fm) (D:Int) (m:Nat) (hfa:L 6 f.a) (hfb:L 6 f.b) (hfc:L 6 f.c) (hf:Cl D f) (hD:-4194304≤D∧D < 0) (hm:1≤m∧m≤65536) (hE:szE D=0) (a:Ans) (hx:L 8 a.x) (hy:L 8 a.y) (hz:L 8 a.m) (hr:∀ z∈a.roots,L 8 z) (hg:∀ g∈a.forms,L 8 g.a∧L 8 g.b∧L 8 g.c) (hlr:a.roots.length≤100000) (hlf:a.forms.length≤100000) :
  aJ Tryz.prog 36 [FA f.a f.b f.c,Z (m:Int),.p (.a (anS a))] (B (rgt D m f a)):=by
 have h:=mU f D m hfa hfb hfc hf hD hm hE (gP a) (fun r hr=>(nK a r hr).1) (wc hx hy hz hr hg) (by unfold gP;simpa using hlr) (by unfold gP;simpa using hlf)
 rw [zl,ze] at h
 exact h
theorem uo (l m:List Int) (hl:(l.length:Int)≤1000000000) :
  aJ Tryz.prog 27 [.p (.c (SL enI l)),.p (.c (SL enI m))] (B (decide (l=m))):=by
 refine aO Tryz.func27 rfl rfl rfl rfl ?_
 refine ae hP<|aj rfl<|ag<|ao<|ae hP<|ak rfl<|ab (aU hT rfl rfl rfl (by rfl)) ?_
 refine ak rfl<|ab (aU hT rfl rfl rfl (by rfl)) ?_
 refine ab (bq rfl rfl)<|ag ?_
 refine az rfl (fun hb1=>?_) (fun hb1=>?_)
 ·have hb1_:=bY hb1
  refine ae hP<|aj rfl<|ag<|am<|E1 rfl rfl ?_
  exact aT (decide_eq_false (fun e=>hb1_ (by rw [e]))).symm
 have hb1_:=bS hb1
 have hlen:l.length=m.length:=by have:=hb1_;omega
 refine au<|ao<|ae hP<|aj rfl<|ag<|aA<|bg (ι:=Nat) (fun k=>stL [(0,.p (.c (SL enI l))),(1,.p (.c (SL enI m))),(5,Z (k:Int))] []) (fun k=>SmG l m k) (fun k=>l.length - k) 0 (SmG.start hlen) (aD ⟨.refl _,.refl _,.refl _,trivial⟩ trivial) ?_
 intro k hI
 have hk:=hI.le
 refine ao<|ae hP<|ak rfl<|ak rfl<|ab (aU hT rfl rfl rfl (by rfl)) ?_
 refine ab (bi rfl rfl)<|ag ?_
 refine az rfl (fun hb2=>?_) (fun hb2=>?_)
 ·have hb2_:=dT0 hb2
  refine au<|ao<|aA<|ae hP<|ak rfl<|ak rfl<|ab (b5 hT dj (by decide) 0 (n:=(k:Int)) (l:=l) rfl rfl rfl rfl rfl rfl (by omega)) ?_
  refine ab (bf hT rfl rfl rfl (cs:=enI (l.getD k 0)) rfl rfl) ?_
  refine ak rfl<|ak rfl<|ab (b5 hT dj (by decide) 0 (n:=(k:Int)) (l:=m) rfl rfl rfl rfl rfl rfl (by omega)) ?_
  refine ab (bf hT rfl rfl rfl (cs:=enI (m.getD k 0)) rfl rfl) ?_
  refine ab (ah (dI _ _)) ?_
  refine ab (bt rfl)<|ag ?_
  refine az rfl (fun hb3=>?_) (fun hb3=>?_)
  ·have hb3_:=(bX hb3)
   refine ae hP<|aj rfl<|ag<|am<|E1 rfl rfl ?_
   exact aT (decide_eq_false (SmG.no (d:=0) (fun e=>dF0 (bX hb3) e))).symm
  have hb3_:=(bU hb3)
  refine au<|aw hP<|ak rfl<|bv rfl rfl ?_
  refine aj rfl<|ag ?_
  refine ⟨k+1,hI.next (d:=0) (by omega) (dT0 (bU hb3)),by omega,aD ⟨.refl _,.refl _,aM (by omega),trivial⟩ trivial⟩
 have hb2_:=dF0 hb2
 refine aZ<|ae hP<|aj rfl<|ag<|am<|E1 rfl rfl ?_
 exact aT (decide_eq_true (hI.yes (by omega))).symm
theorem lY (a b:Ans) (hr:(a.roots.length:Int)≤1000000000) (hg:(a.forms.length:Int)≤1000000000) :
  aJ Tryz.prog 32 [.p (.a (anS a)),.p (.a (anS b))] (B (sA a b)):=by
 refine aO Tryz.func32 rfl rfl rfl rfl ?_
 refine ae hP<|aq ai (aL rfl rfl)<|aq ai (aL rfl rfl)<|aj rfl<|ag<|ao<|ae hP<|aG hT rfl<|a8 hT rfl rfl rfl rfl ?_
 refine aG hT rfl<|a8 hT rfl rfl rfl rfl ?_
 refine ab (bq rfl rfl)<|ak rfl ?_
 refine aW (t:=11) rfl (fun hg1=>?_) (fun hg1=>?_)
 ·have hg1_:=bY hg1
  have k0:=bY hg1
  iterate 6 refine aX hg1 ?_
  refine ab (aN rfl hg1 (rfl:_=AV.p (.c _)))<|ak rfl<|aX rfl ?_
  iterate 5 refine aX rfl ?_
  refine ab (aN rfl rfl (rfl:_=AV.p (.c _)))<|ak rfl<|aX rfl ?_
  iterate 5 refine aX rfl ?_
  refine ab (aN rfl rfl (rfl:_=AV.p (.c _)))<|ak rfl<|aX rfl ?_
  iterate 6 refine aX rfl ?_
  refine ab (aN rfl rfl (rfl:_=AV.p (.c _)))<|ag<|aV rfl rfl<|ae hP<|aj rfl<|ag<|am<|E1 rfl rfl ?_
  exact aT (decide_eq_false (fun z=>k0 z.1)).symm
 have hg1_:=bS hg1
 have k0:=bS hg1
 refine ay hg1 (aP hT rfl rfl rfl rfl rfl rfl) ?_
 refine ay hg1 (aF hT rfl rfl rfl rfl (cs:=[_,_]) rfl rfl) ?_
 refine ay hg1 (aP hT rfl rfl rfl rfl rfl rfl) ?_
 refine ay hg1 (aF hT rfl rfl rfl rfl (cs:=[_,_]) rfl rfl) ?_
 refine ay hg1 (ah (dI _ _)) ?_
 refine ay hg1 (bt rfl) ?_
 refine ab (aK rfl hg1 (rfl:_=AV.p (.c _)))<|ak rfl ?_
 refine aW (t:=19) rfl (fun hg2=>?_) (fun hg2=>?_)
 ·have hg2_:=(bX hg2)
  have k1:=dF0 (bX hg2)
  iterate 6 refine aX hg2 ?_
  refine ab (aN rfl hg2 (rfl:_=AV.p (.c _)))<|ak rfl<|aX rfl ?_
  iterate 5 refine aX rfl ?_
  refine ab (aN rfl rfl (rfl:_=AV.p (.c _)))<|ak rfl<|aX rfl ?_
  iterate 6 refine aX rfl ?_
  refine ab (aN rfl rfl (rfl:_=AV.p (.c _)))<|ag<|aV rfl rfl<|ae hP<|aj rfl<|ag<|am<|E1 rfl rfl ?_
  exact aT (decide_eq_false (fun z=>k1 z.2.1)).symm
 have hg2_:=(bU hg2)
 have k1:=dT0 (bU hg2)
 refine ay hg2 (aP hT rfl rfl rfl rfl rfl rfl) ?_
 refine ay hg2 (aF hT rfl rfl rfl rfl (cs:=[_,_]) rfl rfl) ?_
 refine ay hg2 (aP hT rfl rfl rfl rfl rfl rfl) ?_
 refine ay hg2 (aF hT rfl rfl rfl rfl (cs:=[_,_]) rfl rfl) ?_
 refine ay hg2 (ah (dI _ _)) ?_
 refine ay hg2 (bt rfl) ?_
 refine ab (aK rfl hg2 (rfl:_=AV.p (.c _)))<|ak rfl ?_
 refine aW (t:=27) rfl (fun hg3=>?_) (fun hg3=>?_)
 ·have hg3_:=(bX hg3)
  have k2:=dF0 (bX hg3)
  iterate 6 refine aX hg3 ?_
  refine ab (aN rfl hg3 (rfl:_=AV.p (.c _)))<|ak rfl<|aX rfl ?_
  iterate 6 refine aX rfl ?_
  refine ab (aN rfl rfl (rfl:_=AV.p (.c _)))<|ag<|aV rfl rfl<|ae hP<|aj rfl<|ag<|am<|E1 rfl rfl ?_
  exact aT (decide_eq_false (fun z=>k2 z.2.2.1)).symm
 have hg3_:=(bU hg3)
 have k2:=dT0 (bU hg3)
 refine ay hg3 (aP hT rfl rfl rfl rfl rfl rfl) ?_
 refine ay hg3 (aF hT rfl rfl rfl rfl (cs:=[_,_]) rfl rfl) ?_
 refine ay hg3 (aP hT rfl rfl rfl rfl rfl rfl) ?_
 refine ay hg3 (aF hT rfl rfl rfl rfl (cs:=[_,_]) rfl rfl) ?_
 refine ay hg3 (ah (dI _ _)) ?_
 refine ay hg3 (bt rfl) ?_
 refine ab (aK rfl hg3 (rfl:_=AV.p (.c _)))<|ak rfl ?_
 refine aW (t:=35) rfl (fun hg4=>?_) (fun hg4=>?_)
 ·have hg4_:=(bX hg4)
  have k3:=dF0 (bX hg4)
  iterate 7 refine aX hg4 ?_
  refine ab (aN rfl hg4 (rfl:_=AV.p (.c _)))<|ag<|aV rfl rfl<|ae hP<|aj rfl<|ag<|am<|E1 rfl rfl ?_
  exact aT (decide_eq_false (fun z=>k3 z.2.2.2.1)).symm
 have hg4_:=(bU hg4)
 have k3:=dT0 (bU hg4)
 refine ay hg4 (aP hT rfl rfl rfl rfl rfl rfl) ?_
 refine ay hg4 (bC hT rfl rfl rfl rfl (by first | rfl | exact dw (by omega))) ?_
 refine ay hg4 (aU hT rfl rfl rfl (by rfl)) ?_
 refine ay hg4 (aP hT rfl rfl rfl rfl rfl rfl) ?_
 refine ay hg4 (bC hT rfl rfl rfl rfl (by first | rfl | exact dw (by omega))) ?_
 refine ay hg4 (aU hT rfl rfl rfl (by rfl)) ?_
 refine ay hg4 (bq rfl rfl) ?_
 refine ab (aK rfl hg4 (rfl:_=AV.p (.c _)))<|ag ?_
 refine az rfl (fun hb5=>?_) (fun hb5=>?_)
 ·have hb5_:=bY hb5
  have k4:=bY hb5
  refine ae hP<|aj rfl<|ag<|am<|E1 rfl rfl ?_
  exact aT (decide_eq_false (fun z=>k4 (by rw [z.2.2.2.2.1]))).symm
 have hb5_:=bS hb5
 have k4:a.roots.length=b.roots.length:=by have:=bS hb5;omega
 refine au<|ao<|ae hP<|aj rfl<|ag<|aA<|bg (ι:=Nat) (fun k=>stL [(2,.loc 2 0),(3,.loc 3 0),(5,Z (k:Int))] [(2,⟨false,1,42,anS a⟩),(3,⟨false,1,42,anS b⟩)]) (fun k=>SmG a.roots b.roots k) (fun k=>a.roots.length - k) 0 (SmG.start k4) (aD ⟨.refl _,.refl _,.refl _,trivial⟩ ⟨rfl,rfl,trivial⟩) ?_
 intro k hI
 have hk:=hI.le
 refine ao<|ae hP<|ak rfl<|aG hT rfl<|a8 hT rfl rfl rfl rfl ?_
 refine ab (aU hT rfl rfl rfl (by rfl)) ?_
 refine ab (bi rfl rfl)<|ag ?_
 refine az rfl (fun hb6=>?_) (fun hb6=>?_)
 ·have hb6_:=dT0 hb6
  refine au<|ao<|aA<|ae hP<|aG hT rfl<|a8 hT rfl rfl rfl rfl ?_
  refine ak rfl<|ab (b5 hT dj (by decide) 0 (n:=(k:Int)) (l:=a.roots) rfl rfl rfl rfl rfl rfl (by omega)) ?_
  refine ab (bf hT rfl rfl rfl (cs:=enI (a.roots.getD k 0)) rfl rfl) ?_
  refine aG hT rfl<|a8 hT rfl rfl rfl rfl ?_
  refine ak rfl<|ab (b5 hT dj (by decide) 0 (n:=(k:Int)) (l:=b.roots) rfl rfl rfl rfl rfl rfl (by omega)) ?_
  refine ab (bf hT rfl rfl rfl (cs:=enI (b.roots.getD k 0)) rfl rfl) ?_
  refine ab (ah (dI _ _)) ?_
  refine ab (bt rfl)<|ag ?_
  refine az rfl (fun hb7=>?_) (fun hb7=>?_)
  ·have hb7_:=(bX hb7)
   have k6:=dF0 (bX hb7)
   refine ae hP<|aj rfl<|ag<|am<|E1 rfl rfl ?_
   exact aT (decide_eq_false (fun z=>SmG.no (d:=0) k6 z.2.2.2.2.1)).symm
  have hb7_:=(bU hb7)
  have k6:=dT0 (bU hb7)
  refine au<|aw hP<|ak rfl<|bv rfl rfl ?_
  refine aj rfl<|ag ?_
  refine ⟨k+1,hI.next (d:=0) (by omega) k6,by omega,aD ⟨.refl _,.refl _,aM (by omega),trivial⟩ ⟨rfl,rfl,trivial⟩⟩
 have hb6_:=dF0 hb6
 refine aZ<|ae hP<|aG hT rfl<|a8 hT rfl rfl rfl rfl ?_
 refine aG hT rfl<|a8 hT rfl rfl rfl rfl ?_
 refine ab (ah (oi a.forms b.forms hg)) ?_
 refine aj rfl<|ag<|am<|E1 rfl rfl ?_
 exact aT (M3 k0 k1 k2 k3 (hI.yes (by omega)))
theorem pL (D:Int) (m:Nat) (b:Int) (hD:-4194304≤D∧D < 0) (hm:1≤m∧m≤65536) (hb:0≤b∧b≤131072) :
  aJ Tryz.prog 42 [I D,Z (m:Int),I b] (FA (m:Int) b ((b*b - D) / (4*(m:Int)))):=by
 have iD:LB D 6:=⟨by unfold L;omega⟩
 have im:LB (m:Int) 6:=⟨by unfold L;omega⟩
 have ib:LB b 6:=⟨by unfold L;omega⟩
 refine aO Tryz.func42 rfl rfl rfl rfl ?_
 refine ae hP<|aq ai (aL rfl rfl)<|aq ai (aL rfl rfl)<|aq ai (aC hT rfl rfl)<|ag<|ae hP<|ak rfl<|ab (ah (cg (m:Int) (by unfold bp;omega))) ?_
 refine aq ai (aC hT rfl rfl)<|aI hT rfl<|ag<|ae hP<|av hT rfl<|av hT rfl<|av hT rfl<|av hT rfl<|ab (ah (dY _ _ lz lz)) ?_
 refine av hT rfl<|ab (ah (pG _ _ lz lz)) ?_
 refine ab (ah (cg 4 (by decide))) ?_
 refine av hT rfl<|ab (ah (dY _ _ lz lz)) ?_
 refine ab (ah (pI (b*b - D) (4*(m:Int)) lz lz (by omega))) ?_
 refine ab (a6 hT rfl rfl rfl (es:=[_,_,_,_,_,_]) rfl)<|aI hT rfl<|ag<|am ?_
 refine bW rfl (.inr rfl) (aS hT rfl rfl rfl rfl (cs:=[_,_,_,_,_,_]) rfl rfl) ?_ bu
 exact .refl _
theorem uq  :
  aJ Tryz.prog 21 [] (B true):=by
 have q1:aJ Tryz.prog 30 [FA 2 1 3,Z 3] (.p (.a (anS ⟨1,0,1,0,[],[]⟩ ++ [.v (.int .i64 0)]))):=by
  have h:=kx ⟨2,1,3⟩ (-23) 3 (by unfold L;decide) (by unfold L;decide) (by unfold L;decide) na (by decide) (by decide) (by decide)
  rw [CG] at h
  exact h
 have q2:aJ Tryz.prog 30 [FA 2 1 3,Z 5] (.p (.a (anS ⟨2,0,0,5,[],[]⟩ ++ [.v (.int .i64 0)]))):=by
  have h:=kx ⟨2,1,3⟩ (-23) 5 (by unfold L;decide) (by unfold L;decide) (by unfold L;decide) na (by decide) (by decide) (by decide)
  rw [Hm] at h
  exact h
 have q3:aJ Tryz.prog 30 [FA 2 1 3,Z 1] (.p (.a (anS ⟨3,0,0,0,[1],[⟨1,1,6⟩]⟩ ++ [.v (.int .i64 0)]))):=by
  have h:=kx ⟨2,1,3⟩ (-23) 1 (by unfold L;decide) (by unfold L;decide) (by unfold L;decide) na (by decide) (by decide) (by decide)
  rw [Kz] at h
  exact h
 have q4:aJ Tryz.prog 30 [FA 1 0 5,Z 3] (.p (.a (anS ⟨2,0,0,5,[],[]⟩ ++ [.v (.int .i64 0)]))):=by
  have h:=kx ⟨1,0,5⟩ (-20) 3 (by unfold L;decide) (by unfold L;decide) (by unfold L;decide) KA (by decide) (by decide) (by decide)
  rw [CI] at h
  exact h
 have q5:aJ Tryz.prog 26 [FA 1 0 1,Z 5] (.t [.c (SL enP (prS (-4) (5:Nat) ⟨1,0,1⟩)),PE 0]):=L4 ⟨1,0,1⟩ (-4) 5 (by unfold L;decide) (by unfold L;decide) (by unfold L;decide) Mw (by decide) (by decide)
 have q6:aJ Tryz.prog 13 [I (-23),Z 6] (.t [.c (SL enI [1,5,7,11]),PE 0]):=by
  have h:=Gv (-23) 6 (by decide) (by decide) (by decide)
  rw [show ((6:Nat):Int)=6 from rfl,CH] at h
  exact h
 have q7:aJ Tryz.prog 36 [FA 2 1 3,Z 3,.p (.a (anS ⟨1,0,1,0,[],[]⟩))] (B true):=by
  have h:=jC ⟨2,1,3⟩ (-23) 3 (by unfold L;decide) (by unfold L;decide) (by unfold L;decide) na (by decide) (by decide) (by decide) ⟨1,0,1,0,[],[]⟩ (by decide) (by decide) (by decide) (by decide) (by decide) (by decide) (by decide)
  rw [Ky] at h
  exact h
 have q8:aJ Tryz.prog 36 [FA 2 1 3,Z 3,.p (.a (anS ⟨3,0,0,0,[1],[⟨1,1,6⟩]⟩))] (B false):=by
  have h:=jC ⟨2,1,3⟩ (-23) 3 (by unfold L;decide) (by unfold L;decide) (by unfold L;decide) na (by decide) (by decide) (by decide) ⟨3,0,0,0,[1],[⟨1,1,6⟩]⟩ (by decide) (by decide) (by decide) (by decide) (by decide) (by decide) (by decide)
  rw [Mv] at h
  exact h
 obtain ⟨h8,h80⟩:=KB
 rw [show (prS (-4) 5 ⟨1,0,1⟩)=prS (-4) (5:Nat) ⟨1,0,1⟩ from rfl] at h8 h80
 generalize prS (-4) (5:Nat) ⟨1,0,1⟩=L8 at *
 refine aO Tryz.func21 rfl rfl rfl rfl ?_
 refine ae hP<|aj rfl<|ag<|ae hP<|ab (ah (pK _ _ _ (by first | assumption | decide) (by first | assumption | decide) (by first | assumption | decide))) ?_
 refine aq ai (aC hT rfl rfl)<|aI hT rfl<|ag<|ae hP<|br hT rfl rfl rfl rfl rfl rfl<|ab (ah q1) ?_
 refine br hT rfl rfl rfl rfl rfl rfl<|ab (ah q2) ?_
 refine br hT rfl rfl rfl rfl rfl rfl<|ab (ah q3) ?_
 refine ab (ah (pK _ _ _ (by first | assumption | decide) (by first | assumption | decide) (by first | assumption | decide))) ?_
 refine ab (ah q4) ?_
 refine aq ai (aC hT rfl rfl)<|aq ai (aC hT rfl rfl)<|aq ai (aC hT rfl rfl)<|aq ai (aC hT rfl rfl)<|aI hT rfl<|aI hT rfl<|aI hT rfl<|aI hT rfl<|ag<|ae hP<|ab (ah (pK _ _ _ (by first | assumption | decide) (by first | assumption | decide) (by first | assumption | decide))) ?_
 refine ab (ah q5) ?_
 refine ab (aB (rfl:_=AV.t _))<|ab (aE rfl (v:=.c _) rfl)<|ab (aE rfl (v:=.c _) rfl)<|aj rfl<|aj rfl<|ag<|ae hP<|ab (ah (cg _ (by first | assumption | decide))) ?_
 refine ab (ah q6) ?_
 refine ab (aB (rfl:_=AV.t _))<|ab (aE rfl (v:=.c _) rfl)<|ab (aE rfl (v:=.c _) rfl)<|aj rfl<|aj rfl<|ag<|ao<|ae hP<|aG hT rfl<|a8 hT rfl rfl rfl rfl ?_
 refine ab (bq rfl rfl)<|ak rfl<|ay rfl (aP hT rfl rfl rfl rfl rfl rfl) ?_
 refine ay rfl (bC hT rfl rfl rfl rfl (by first | rfl | exact dw (by omega))) ?_
 refine ay rfl (bq rfl rfl) ?_
 refine ab (aK rfl rfl (rfl:_=AV.p (.c _)))<|ak rfl<|ay rfl (aP hT rfl rfl rfl rfl rfl rfl) ?_
 refine ay rfl (bC hT rfl rfl rfl rfl (by first | rfl | exact dw (by omega))) ?_
 refine ay rfl (bq rfl rfl) ?_
 refine ab (aK rfl rfl (rfl:_=AV.p (.c _)))<|ak rfl<|ay rfl (aP hT rfl rfl rfl rfl rfl rfl) ?_
 refine ay rfl (bC hT rfl rfl rfl rfl (by first | rfl | exact dw (by omega))) ?_
 refine ay rfl (bq rfl rfl) ?_
 refine ab (aK rfl rfl (rfl:_=AV.p (.c _)))<|ak rfl<|ay rfl (aB (rfl:_=AV.p (.c _))) ?_
 refine ay rfl (bq rfl rfl) ?_
 refine ab (aK rfl rfl (rfl:_=AV.p (.c _)))<|ak rfl<|ay rfl (aB (rfl:_=AV.p (.c _))) ?_
 refine ay rfl (bq rfl rfl) ?_
 refine ab (aK rfl rfl (rfl:_=AV.p (.c _)))<|ak rfl<|ay rfl (aB (rfl:_=AV.p (.c _))) ?_
 refine ay rfl (aU hT rfl rfl rfl (by rfl)) ?_
 refine ay rfl (bq rfl rfl) ?_
 refine ab (aK rfl rfl (rfl:_=AV.p (.c _)))<|ag<|aQ rfl (by rw [h8];rfl) ?_
 refine au<|ae hP<|ab (ah (cg _ (by first | assumption | decide))) ?_
 refine ab (bd hT rfl rfl rfl (es:=[_,_]) rfl rfl rfl)<|ab (ah (pK _ _ _ (by first | assumption | decide) (by first | assumption | decide) (by first | assumption | decide))) ?_
 refine ab (bd hT rfl rfl rfl (es:=[_,_,_,_,_,_]) rfl rfl rfl)<|ab (a6 hT rfl rfl rfl (es:=[_,_,_,_,_,_,_,_,_]) rfl)<|aq ai (aC hT rfl rfl)<|aI hT rfl<|ag<|ao<|ae hP<|aG hT rfl<|ab (aF hT rfl rfl rfl rfl (cs:=[_,_,_,_,_,_,_,_,_]) rfl rfl)<|ab (ah (cg _ (by first | assumption | decide))) ?_
 refine ab (a6 hT rfl rfl rfl (es:=[_,_,_,_,_,_,_,_,_]) rfl)<|ab (ah (lY ⟨1,0,1,0,[],[]⟩ ⟨1,0,1,0,[],[]⟩ (by decide) (by decide))) ?_
 refine ab (bt rfl)<|ak rfl<|bB (bj rfl rfl (cW _)) (aP hT rfl rfl rfl rfl rfl rfl) ?_
 refine bB (bj rfl rfl (cW _)) (aF hT rfl rfl rfl rfl (cs:=[_,_,_,_,_,_,_,_,_]) rfl rfl) ?_
 refine bB (bj rfl rfl (cW _)) (ah (cg _ (by first | assumption | decide))) ?_
 refine bB (bj rfl rfl (cW _)) (a6 hT rfl rfl rfl (es:=[_,_,_,_,_,_,_,_,_]) rfl) ?_
 refine bB (bj rfl rfl (cW _)) (ah (lY ⟨2,0,0,5,[],[]⟩ ⟨2,0,0,5,[],[]⟩ (by decide) (by decide))) ?_
 refine bB (bj rfl rfl (cW _)) (bt rfl) ?_
 refine ab (aK rfl (cW _) (rfl:_=AV.p (.c _))) ?_
 refine ak rfl<|bB (bj rfl rfl (cW _)) (aP hT rfl rfl rfl rfl rfl rfl) ?_
 refine bB (bj rfl rfl (cW _)) (aF hT rfl rfl rfl rfl (cs:=[_,_,_,_,_,_,_,_,_]) rfl rfl) ?_
 refine bB (bj rfl rfl (cW _)) (aF hT rfl rfl rfl rfl (cs:=[_,_,_,_,_,_,_,_,_]) rfl rfl) ?_
 refine bB (bj rfl rfl (cW _)) (ah (lY ⟨3,0,0,0,[1],[⟨1,1,6⟩]⟩ ⟨3,0,0,0,[1],[⟨1,1,6⟩]⟩ (by decide) (by decide))) ?_
 refine bB (bj rfl rfl (cW _)) (bt rfl) ?_
 refine ab (aK rfl (cW _) (rfl:_=AV.p (.c _))) ?_
 refine ak rfl<|bB (bj rfl rfl (cW _)) (aP hT rfl rfl rfl rfl rfl rfl) ?_
 refine bB (bj rfl rfl (cW _)) (aF hT rfl rfl rfl rfl (cs:=[_,_,_,_,_,_,_,_,_]) rfl rfl) ?_
 refine bB (bj rfl rfl (cW _)) (ah (cg _ (by first | assumption | decide))) ?_
 refine bB (bj rfl rfl (cW _)) (a6 hT rfl rfl rfl (es:=[_,_,_,_,_,_,_,_,_]) rfl) ?_
 refine bB (bj rfl rfl (cW _)) (ah (lY ⟨2,0,0,5,[],[]⟩ ⟨2,0,0,5,[],[]⟩ (by decide) (by decide))) ?_
 refine bB (bj rfl rfl (cW _)) (bt rfl) ?_
 refine ab (aK rfl (cW _) (rfl:_=AV.p (.c _))) ?_
 refine ag<|aQ rfl (cW _) ?_
 refine au<|ae hP<|ak rfl<|ab (b5 hT jt (by decide) (0,0) (n:=0) (l:=L8) rfl rfl rfl rfl rfl rfl (by omega)) ?_
 refine ab (kL hT rfl rfl rfl rfl rfl (by decide)) ?_
 refine ab (bf hT rfl rfl rfl (cs:=enI (L8.getD 0 (0,0)).1) rfl rfl) ?_
 refine ab (ah (cg _ (by first | assumption | decide))) ?_
 refine ab (ah (dI _ _)) ?_
 refine ak rfl<|bB (bj rfl rfl (by rw [h80];decide)) (aB (rfl:_=AV.p (.c _))) ?_
 refine bB (bj rfl rfl (by rw [h80];decide)) (b5 hT jt (by decide) (0,0) (n:=0) (l:=L8) rfl rfl rfl rfl rfl rfl (by omega)) ?_
 refine bB (bj rfl rfl (by rw [h80];decide)) (kL hT rfl rfl rfl rfl rfl (by decide)) ?_
 refine bB (bj rfl rfl (by rw [h80];decide)) (bf hT rfl rfl rfl (cs:=enI (L8.getD 0 (0,0)).2) rfl rfl) ?_
 refine bB (bj rfl rfl (by rw [h80];decide)) (ah (cg _ (by first | assumption | decide))) ?_
 refine bB (bj rfl rfl (by rw [h80];decide)) (ah (dI _ _)) ?_
 refine ab (aN rfl (by rw [h80];decide) (rfl:_=AV.p (.c _))) ?_
 refine ak rfl<|bB (bj rfl rfl (by rw [h80];decide)) (aB (rfl:_=AV.p (.c _))) ?_
 iterate 4 refine bB (bj rfl rfl (by rw [h80];decide)) (ah (cg _ (by first | assumption | decide))) ?_
 refine bB (bj rfl rfl (by rw [h80];decide)) (bd hT rfl rfl rfl (es:=[_,_,_,_,_,_,_,_]) rfl rfl rfl) ?_
 refine bB (bj rfl rfl (by rw [h80];decide)) (ah (uo [1,5,7,11] [1,5,7,11] (by decide))) ?_
 refine ab (aN rfl (by rw [h80];decide) (rfl:_=AV.p (.c _))) ?_
 refine ak rfl<|bB (bj rfl rfl (by decide)) (aF hT rfl rfl rfl rfl (cs:=[_,_,_,_,_,_]) rfl rfl) ?_
 refine bB (bj rfl rfl (by decide)) (aP hT rfl rfl rfl rfl rfl rfl) ?_
 refine bB (bj rfl rfl (by decide)) (aF hT rfl rfl rfl rfl (cs:=[_,_,_,_,_,_,_,_,_]) rfl rfl) ?_
 refine bB (bj rfl rfl (by decide)) (ah q7) ?_
 refine ab (aN rfl (by decide) (rfl:_=AV.p (.c _))) ?_
 refine ak rfl<|ay rfl (aF hT rfl rfl rfl rfl (cs:=[_,_,_,_,_,_]) rfl rfl) ?_
 refine ay rfl (aP hT rfl rfl rfl rfl rfl rfl) ?_
 refine ay rfl (aF hT rfl rfl rfl rfl (cs:=[_,_,_,_,_,_,_,_,_]) rfl rfl) ?_
 refine ay rfl (ah q8) ?_
 refine ay rfl (bt rfl) ?_
 refine ab (aN rfl rfl (rfl:_=AV.p (.c _)))<|aj rfl<|ag<|am<|E1 rfl rfl ?_
 exact .refl _
end
section
open Go Go.AM
end
section
open Go Go.AM
end
section
open Go Go.AM
end
section
open Go Go.AM
end
section
open Go Go.AM
end
section
open Go Go.AM
end
section
open Go Go.AM
end
section
open Go Go.AM
end
section
open Go Go.AM
end
section
open Go Go.AM
end
section
open Go Go.AM
end
section
open Go Go.AM
end
section
open Go Go.AM
end
section
open Go Go.AM
end
section
open Go Go.AM
end
section
open Go Go.AM
end
section
open Go Go.AM
end
section
open Go Go.AM
end
section
open Go Go.AM
theorem D6 (a:Int) (_ha:L 44 a) :
  aJ Tryz.prog 235 [I a] (.t [.c (.v (.int .i64 (lwV a))),.c (.v (.bool (lwO a)))]):=by
 have ok:=bG a.natAbs
 have hv:=K8 a.natAbs
 refine aO Tryz.func235 rfl rfl rfl rfl ?_
 refine ae hP<|aq ai (aL rfl rfl)<|aj rfl<|aj rfl<|ag<|ae hP<|aG hT rfl<|a8 hT rfl rfl rfl rfl ?_
 refine ab (ah (dH _ _ (by assumption))) ?_
 refine aG hT rfl<|a8 hT rfl rfl rfl rfl ?_
 refine ab (ah (dH _ _ (by assumption))) ?_
 refine ab (gZ (j:=32) rfl rfl (by decide) rfl) ?_
 refine ab (jX rfl rfl (Di _)) ?_
 refine aj rfl<|ag<|ao<|ae hP<|aG hT rfl<|a8 hT rfl rfl rfl rfl ?_
 refine ab (aU hT rfl rfl rfl (by rfl)) ?_
 refine ab (bK rfl rfl)<|ak rfl ?_
 refine aW (t:=17) rfl (fun hg1=>?_) (fun hg1=>?_)
 ·have hg1_:=dT0 hg1
  have e2:=GE (n:=a.natAbs) (by omega)
  refine aX hg1 ?_
  refine aX hg1 ?_
  refine ab (aN rfl hg1 (rfl:_=AV.p (.c _)))<|ak rfl<|aX rfl ?_
  refine aX rfl ?_
  refine aX rfl ?_
  iterate 3 refine fk ?_
  refine aX rfl ?_
  refine ab (aN rfl rfl (rfl:_=AV.p (.c _)))<|ag<|aV rfl rfl<|ae hP<|aj rfl<|aj rfl<|ag<|am<|E11 rfl rfl rfl ?_
  exact aH (sH (by omega))
 have hg1_:=dF0 hg1
 have e2:=K9 (n:=a.natAbs) (by omega)
 refine ay hg1 (aB (rfl:_=AV.p (.c _))) ?_
 refine ay hg1 (bK rfl rfl) ?_
 refine ab (aK rfl hg1 (rfl:_=AV.p (.c _)))<|ak rfl ?_
 refine aW (t:=21) rfl (fun hg2=>?_) (fun hg2=>?_)
 ·have hg2_:=dT0 hg2
  iterate 3 refine aX hg2 ?_
  iterate 3 refine fk ?_
  refine aX hg2 ?_
  refine ab (aN rfl hg2 (rfl:_=AV.p (.c _)))<|ag<|aV rfl rfl<|ae hP<|aj rfl<|aj rfl<|ag<|am<|E11 rfl rfl rfl ?_
  exact aH (sH (by omega))
 have hg2_:=dF0 hg2
 refine ay hg2 (aB (rfl:_=AV.p (.c _))) ?_
 refine ay hg2 (bh rfl rfl) ?_
 refine ay hg2 (aB (rfl:_=AV.p (.c _))) ?_
 refine aW (t:=24) rfl (fun hg3=>?_) (fun hg3=>?_)
 ·have hg3_:=bT hg3
  refine ay hg3 (aP hT rfl rfl rfl rfl rfl rfl) ?_
  refine ay hg3 (bC hT rfl rfl rfl rfl (by first | rfl | exact dw (by omega))) ?_
  refine ay hg3 (bt rfl) ?_
  refine ay hg2 (aN rfl hg3 (rfl:_=AV.p (.c _))) ?_
  refine ab (aK rfl hg2 (rfl:_=AV.p (.c _)))<|ag ?_
  refine az rfl (fun hb4=>?_) (fun hb4=>?_)
  ·have hb4_:=(bX hb4)
   have hz:¬ a < 0:=dF0 (bX hb4)
   refine ae hP<|aj rfl<|aj rfl<|ag<|am<|E11 rfl rfl rfl ?_
   exact aH (sH (by omega))
  have hb4_:=(bU hb4)
  have hz:a < 0:=dT0 (bU hb4)
  refine au<|ao<|ae hP<|aG hT rfl<|a8 hT rfl rfl rfl rfl ?_
  refine ag ?_
  refine az rfl (fun hb5=>?_) (fun hb5=>?_)
  ·have hs:a < 0:=dT0 (by assumption)
   refine ae hP<|ak rfl<|ab (bl hT rfl rfl rfl rfl (sR (by omega))) ?_
   refine ab (ew rfl (sS (by omega))) ?_
   refine aj rfl<|aj rfl<|ag<|am<|E11 rfl rfl rfl ?_
   exact aH (pV (by omega) (by omega))
  have hs:¬ a < 0:=dF0 (by assumption)
  refine au<|ae hP<|ak rfl<|ab (bl hT rfl rfl rfl rfl (by first | exact iW0 _ (by omega) | rfl)) ?_
  refine aj rfl<|aj rfl<|ag<|am<|E11 rfl rfl rfl ?_
  exact aH (pV (by omega) (by omega))
 have hg3_:=bF hg3
 iterate 3 refine aX hg3 ?_
 refine ay hg2 (aK rfl hg3 (rfl:_=AV.p (.c _))) ?_
 refine ab (aK rfl hg2 (rfl:_=AV.p (.c _)))<|ag<|aQ rfl rfl<|au<|ao<|ae hP<|aG hT rfl<|a8 hT rfl rfl rfl rfl ?_
 refine ag ?_
 refine az rfl (fun hb6=>?_) (fun hb6=>?_)
 ·have hs:a < 0:=dT0 (by assumption)
  refine ae hP<|ak rfl<|ab (bl hT rfl rfl rfl rfl (sR (by omega))) ?_
  refine ab (ew rfl (sS (by omega))) ?_
  refine aj rfl<|aj rfl<|ag<|am<|E11 rfl rfl rfl ?_
  exact aH (pV (by omega) (by omega))
 have hs:¬ a < 0:=dF0 (by assumption)
 refine au<|ae hP<|ak rfl<|ab (bl hT rfl rfl rfl rfl (by first | exact iW0 _ (by omega) | rfl)) ?_
 refine aj rfl<|aj rfl<|ag<|am<|E11 rfl rfl rfl ?_
 exact aH (pV (by omega) (by omega))
theorem ko (a m:Int) (ha:L 44 a) (hm:2≤m∧m≤8) :
  aJ Tryz.prog 236 [I a,Z m] (Z (a % m)):=by
 have ia:LB a 44:=⟨ha⟩
 have jm:bp m:=by unfold bp;omega
 have im:LB m 6:=⟨by unfold L;omega⟩
 have h1:=Int.emod_nonneg a (show m≠0 by omega)
 have h2:=Int.emod_lt_of_pos a (show 0 < m by omega)
 have cl:=D6 (a % m) lz
 rw [Eh (x:=a % m) (by omega) (by omega)] at cl
 refine aO Tryz.func236 rfl rfl rfl rfl ?_
 refine ae hP<|aq ai (aL rfl rfl)<|aj rfl<|ag<|ae hP<|av hT rfl<|ak rfl<|ab (ah (cg _ (by first | assumption | decide))) ?_
 refine ab (ah (kF _ _ lz lz (by omega))) ?_
 refine ab (ah cl) ?_
 refine ab (aB (rfl:_=AV.t _))<|ab (aE rfl (v:=.c _) rfl)<|ab (aE rfl (v:=.c _) rfl)<|aj rfl<|aj rfl<|ag<|ae hP<|ak rfl<|aj rfl<|ag<|am<|E1 rfl rfl ?_
 exact .refl _
theorem Jm (a:Int) (ha:L 44 a) :
  aJ Tryz.prog 237 [I a] (Z (if a % 2=0 then 0 else sg8 a)):=by
 have ia:LB a 44:=⟨ha⟩
 have h1:=Int.emod_nonneg a (show (8:Int)≠0 by decide)
 have h2:=Int.emod_lt_of_pos a (show (0:Int) < 8 by decide)
 refine aO Tryz.func237 rfl rfl rfl rfl ?_
 refine ae hP<|aq ai (aL rfl rfl)<|aj rfl<|ag<|ae hP<|av hT rfl<|ab (ah (ko _ _ lz (by decide))) ?_
 refine aj rfl<|ag<|ao<|ae hP<|ak rfl<|ab (bJ rfl rfl (by decide) (c:=a % 8 % 2) (Int.tmod_eq_emod_of_nonneg (by omega))) ?_
 refine ab (bh rfl rfl)<|ag ?_
 refine az rfl (fun hb1=>?_) (fun hb1=>?_)
 ·have hb1_:=bT hb1
  refine ae hP<|aj rfl<|ag<|am<|E1 rfl rfl ?_
  exact aM (Lc hb1_)
 have hb1_:=bF hb1
 refine au<|ao<|ae hP<|ak rfl<|ab (bh rfl rfl)<|ak rfl ?_
 refine aW (t:=11) rfl (fun hg2=>?_) (fun hg2=>?_)
 ·have hg2_:=bT hg2
  refine aX hg2 ?_
  refine aX hg2 ?_
  refine ab (aN rfl hg2 (rfl:_=AV.p (.c _)))<|ag<|aV rfl rfl<|ae hP<|aj rfl<|ag<|am<|E1 rfl rfl ?_
  exact aM (DO hb1_ (.inl hg2_))
 have hg2_:=bF hg2
 refine ay hg2 (aB (rfl:_=AV.p (.c _))) ?_
 refine ay hg2 (bh rfl rfl) ?_
 refine ab (aK rfl hg2 (rfl:_=AV.p (.c _)))<|ag ?_
 refine az rfl (fun hb3=>?_) (fun hb3=>?_)
 ·have hb3_:=bT hb3
  refine ae hP<|aj rfl<|ag<|am<|E1 rfl rfl ?_
  exact aM (DO hb1_ (.inr hb3_))
 have hb3_:=bF hb3
 refine au<|ae hP<|aj rfl<|ag<|am<|E1 rfl rfl ?_
 exact aM (Lb hb1_ (fun x=>x.elim hg2_ hb3_))
theorem iI (a n:Int) (ha:L 40 a) (hn:L 40 n) (h0:0 < n) (ho:n % 2=1) :
  aJ Tryz.prog 203 [I a,I n] (Z (kr a n)):=by
 have ia:LB a 40:=⟨ha⟩
 have im:LB n 40:=⟨hn⟩
 have hna:((n.natAbs:Nat):Int)=n:=by omega
 have imn:LB (n.natAbs:Int) 40:=⟨by rw [hna];exact hn⟩
 have cA:=nM n
 rw [hna] at cA
 have hn0:n≠0:=by omega
 refine aO Tryz.func203 rfl rfl rfl rfl ?_
 refine ae hP<|aq ai (aL rfl rfl)<|aq ai (aL rfl rfl)<|aj rfl<|ag<|ao<|ae hP<|av hT rfl<|ab (ah (eF _)) ?_
 refine ab (bh rfl rfl)<|ag<|aQ rfl (decide_eq_false (fun e=>by rw [sgn_zero_iff] at e;omega)) ?_
 refine au<|ae hP<|aj rfl<|ag<|ao<|ae hP<|av hT rfl<|ab (ah (eF _)) ?_
 refine ab (bi rfl rfl)<|ak rfl<|lJ (ga rfl rfl (decide_eq_false (fun e=>by rw [sgn_lt_iff] at e;omega))) ?_
 refine lJ (ga rfl rfl (decide_eq_false (fun e=>by rw [sgn_lt_iff] at e;omega))) ?_
 refine lJ (ga rfl rfl (decide_eq_false (fun e=>by rw [sgn_lt_iff] at e;omega))) ?_
 refine ab (aK rfl (decide_eq_false (fun e=>by rw [sgn_lt_iff] at e;omega)) (rfl:_=AV.p (.c _))) ?_
 refine ag<|aQ rfl rfl<|au<|ae hP<|av hT rfl<|ab (ah cA) ?_
 refine aI hT rfl<|ag<|ao<|aA<|dT 1 ?_
 refine ao<|ae hP<|av hT rfl<|ab (ah (ko _ _ lz (by decide))) ?_
 refine ab (bh rfl rfl)<|ag<|aQ rfl (decide_eq_false (by omega)) ?_
 refine aZ<|ae hP<|av hT rfl<|av hT rfl<|ab (ah (kF _ _ lz lz (by omega))) ?_
 refine aI hT rfl<|ag<|ao<|aA<|bg (ι:=(Int × Int × Int) × Nat) (fun i=>stL [(2,.loc 2 0),(3,.loc 3 0),(5,Z i.1.1)] [(2,⟨false,1,29,[zn (i.1.2.1),zm (i.1.2.1)]⟩),(3,⟨false,1,29,[zn (i.1.2.2),zm (i.1.2.2)]⟩)]) (fun i=>KrI (RK_ a n) i.2 i.1.1 i.1.2.1 i.1.2.2∧i.1.2.2 % 2=1) (fun i=>i.1.2.1.natAbs) ((1,a % n,n),_) ⟨KrI.startO h0 ho ha hn,ho⟩ (aD ⟨.refl _,.refl _,.refl _,trivial⟩ ⟨rfl,rfl,trivial⟩) ?_
 rintro i ⟨hI,hIo⟩
 have h5:=hI.hk
 have hs8:=DU i.1.2.2
 have j1:LB i.1.2.1 40:=⟨hI.la⟩
 have j2:LB i.1.2.2 40:=⟨hI.ln⟩
 have ct:=Jm i.1.2.2 lz
 rw [if_neg (show ¬ i.1.2.2 % 2=0 by omega)] at ct
 refine ao<|ae hP<|av hT rfl<|ab (ah (eF _)) ?_
 refine ab (bq rfl rfl)<|ag ?_
 refine az rfl (fun hb2=>?_) (fun hb2=>?_)
 ·have hb2_:=bY hb2
  have hapos:0 < i.1.2.1:=by have:=hI.a0;have:i.1.2.1≠0:=fun e=>hb2_ (sgn_zero_iff.2 e);omega
  have hne:i.1.2.1≠0:=by omega
  refine au<|aA<|ao<|aA<|bg (ι:=Int × Int) (fun p=>stL [(2,.loc 2 0),(3,.loc 3 0),(5,Z (ow i.1.1 (sg8 i.1.2.2) p.2))] [(2,⟨false,1,29,[zn (p.1),zm (p.1)]⟩),(3,⟨false,1,29,[zn (i.1.2.2),zm (i.1.2.2)]⟩)]) (fun p=>TwI i.1.2.1 p.1 p.2) (fun p=>p.1.natAbs) (i.1.2.1,0) (TwI.start hI.la hne) (aD ⟨.refl _,.refl _,.refl _,trivial⟩ ⟨rfl,rfl,trivial⟩) ?_
  rintro p hJ
  have j3:LB p.1 40:=⟨hJ.lb⟩
  have hob:=Nk (k:=p.2) h5 hs8
  have hpk:=qJ (x:=i.1.2.2) hob
  have hp0:=hJ.ne
  refine ao<|ae hP<|av hT rfl<|ab (ah (ko _ _ lz (by decide))) ?_
  refine ab (bh rfl rfl)<|ag ?_
  refine az rfl (fun hb3=>?_) (fun hb3=>?_)
  ·have hb3_:=bT hb3
   refine au<|aA<|ae hP<|av hT rfl<|ab (ah (cg _ (by first | assumption | decide))) ?_
   refine ab (ah (pI _ _ lz lz (by decide))) ?_
   refine aI hT rfl<|ag<|aw hP<|ak rfl<|av hT rfl<|ab (ah ct) ?_
   refine ab (bQ rfl rfl (by first | exact iW0 _ (by omega) | rfl)) ?_
   refine aj rfl<|ag ?_
   refine ⟨(p.1 / 2,p.2+1),(hJ.next (Ee hb3_)).1,(hJ.next (Ee hb3_)).2,aD ⟨.refl _,.refl _,aM (by rw [← Gx (nE hIo)]),trivial⟩ ⟨rfl,rfl,trivial⟩⟩
  have hb3_:=bF hb3
  have htw:=vP (xY (pT hb3_)) hJ.tw
  refine aZ<|ao<|ae hP<|av hT rfl<|ab (ah (ko _ _ lz (by decide))) ?_
  refine ab (bh rfl rfl)<|ak rfl ?_
  refine aW (t:=55) rfl (fun hg4=>?_) (fun hg4=>?_)
  ·have hg4_:=bT hg4
   refine ay hg4 (aF hT rfl rfl rfl rfl (cs:=[_,_]) rfl rfl) ?_
   refine ay hg4 (ah (ko _ _ lz (by decide))) ?_
   refine ay hg4 (bh rfl rfl) ?_
   refine ab (aN rfl hg4 (rfl:_=AV.p (.c _)))<|ag ?_
   refine az rfl (fun hb5=>?_) (fun hb5=>?_)
   ·have hb5_:=bT hb5
    refine aw hP<|ak rfl<|ab (ew rfl (by first | exact iW0 _ (by omega) | rfl)) ?_
    refine aj rfl<|ag<|ae hP<|av hT rfl<|av hT rfl<|ab (ah (kF _ _ lz lz (by omega))) ?_
    refine aq ai (aC hT rfl rfl)<|aI hT rfl<|ag<|ae hP<|av hT rfl<|aI hT rfl<|ag<|aw hP<|av hT rfl<|aI hT rfl<|ag ?_
    refine ⟨((k2F (k1F i.1.1 i.1.2.1 i.1.2.2) i.1.2.1 i.1.2.2,i.1.2.2 % p.1,p.1),i.2 - 1),⟨(hI.nextO hapos htw).1,pT hb3_⟩,(hI.nextO hapos htw).2,aD ⟨.refl _,.refl _,aM (by rw [← Ka htw hg4_ hb5_]),trivial⟩ ⟨rfl,rfl,trivial⟩⟩
   have hb5_:=bF hb5
   refine au<|ae hP<|av hT rfl<|av hT rfl<|ab (ah (kF _ _ lz lz (by omega))) ?_
   refine aq ai (aC hT rfl rfl)<|aI hT rfl<|ag<|ae hP<|av hT rfl<|aI hT rfl<|ag<|aw hP<|av hT rfl<|aI hT rfl<|ag ?_
   refine ⟨((k2F (k1F i.1.1 i.1.2.1 i.1.2.2) i.1.2.1 i.1.2.2,i.1.2.2 % p.1,p.1),i.2 - 1),⟨(hI.nextO hapos htw).1,pT hb3_⟩,(hI.nextO hapos htw).2,aD ⟨.refl _,.refl _,aM (Ek htw (fun x=>hb5_ x.2)),trivial⟩ ⟨rfl,rfl,trivial⟩⟩
  have hg4_:=bF hg4
  iterate 3 refine aX hg4 ?_
  refine ab (aK rfl hg4 (rfl:_=AV.p (.c _)))<|ag<|aQ rfl rfl<|au<|ae hP<|av hT rfl<|av hT rfl<|ab (ah (kF _ _ lz lz (by omega))) ?_
  refine aq ai (aC hT rfl rfl)<|aI hT rfl<|ag<|ae hP<|av hT rfl<|aI hT rfl<|ag<|aw hP<|av hT rfl<|aI hT rfl<|ag ?_
  refine ⟨((k2F (k1F i.1.1 i.1.2.1 i.1.2.2) i.1.2.1 i.1.2.2,i.1.2.2 % p.1,p.1),i.2 - 1),⟨(hI.nextO hapos htw).1,pT hb3_⟩,(hI.nextO hapos htw).2,aD ⟨.refl _,.refl _,aM (Ek htw (fun x=>hg4_ x.1)),trivial⟩ ⟨rfl,rfl,trivial⟩⟩
 have hb2_:=bS hb2
 refine aZ<|ao<|ae hP<|av hT rfl<|ab (ah (cg _ (by first | assumption | decide))) ?_
 refine ab (ah (dI _ _)) ?_
 refine ab (bt rfl)<|ag ?_
 refine az rfl (fun hb6=>?_) (fun hb6=>?_)
 ·have hb6_:=(bX hb6)
  refine ae hP<|aj rfl<|ag<|am<|E1 rfl rfl ?_
  exact aM (by rw [zX h0 ho,hI.stop (fun h=>by have:=sgn_zero_iff.1 hb2_;omega),if_neg (dF0 (bX hb6))])
 have hb6_:=(bU hb6)
 refine au<|ae hP<|ak rfl<|aj rfl<|ag<|am<|E1 rfl rfl ?_
 exact aM (by rw [zX h0 ho,hI.stop (fun h=>by have:=sgn_zero_iff.1 hb2_;omega),if_pos (dT0 (bU hb6))])
end
section
open Go Go.AM
theorem rA (c n:Int) (hc:(c=-4∨c=8∨c=-8)∨(3≤c∧c % 2=1)) (hcb:-8≤c∧c≤4194304) (hn:L 40 n) (h0:0 < n) (ho:n % 2=1) :
  aJ Tryz.prog 161 [Z c,I n] (Z (cv c n)):=by
 have jc:bp c:=by unfold bp;omega
 have ic:LB c 6:=⟨by unfold L;omega⟩
 have inn:LB n 40:=⟨hn⟩
 refine aO Tryz.func161 rfl rfl rfl rfl ?_
 refine ae hP<|aq ai (aL rfl rfl)<|aj rfl<|ag<|ao<|ae hP<|ak rfl<|ab (bh rfl rfl)<|ak rfl ?_
 refine aW (t:=7) rfl (fun hg1=>?_) (fun hg1=>?_)
 ·have hg1_:=bT hg1
  refine aX hg1 ?_
  refine aX hg1 ?_
  refine ab (aN rfl hg1 (rfl:_=AV.p (.c _)))<|ak rfl<|aX rfl ?_
  refine aX rfl ?_
  refine ab (aN rfl rfl (rfl:_=AV.p (.c _)))<|ag<|aV rfl rfl<|ae hP<|ak rfl<|ab (ah (cg c jc)) ?_
  refine av hT rfl<|ab (ah (iI c n lz lz h0 ho)) ?_
  refine aj rfl<|ag<|am<|E1 rfl rfl ?_
  exact aM (mf h0 ho (.inl hg1_))
 have hg1_:=bF hg1
 refine ay hg1 (aB (rfl:_=AV.p (.c _))) ?_
 refine ay hg1 (bh rfl rfl) ?_
 refine ab (aK rfl hg1 (rfl:_=AV.p (.c _)))<|ak rfl ?_
 refine aW (t:=11) rfl (fun hg2=>?_) (fun hg2=>?_)
 ·have hg2_:=bT hg2
  refine aX hg2 ?_
  refine aX hg2 ?_
  refine ab (aN rfl hg2 (rfl:_=AV.p (.c _)))<|ag<|aV rfl rfl<|ae hP<|ak rfl<|ab (ah (cg c jc)) ?_
  refine av hT rfl<|ab (ah (iI c n lz lz h0 ho)) ?_
  refine aj rfl<|ag<|am<|E1 rfl rfl ?_
  exact aM (mf h0 ho (.inr (.inl hg2_)))
 have hg2_:=bF hg2
 refine ay hg2 (aB (rfl:_=AV.p (.c _))) ?_
 refine ay hg2 (bh rfl rfl) ?_
 refine ab (aK rfl hg2 (rfl:_=AV.p (.c _)))<|ag ?_
 refine az rfl (fun hb3=>?_) (fun hb3=>?_)
 ·have hb3_:=bT hb3
  refine ae hP<|ak rfl<|ab (ah (cg c jc)) ?_
  refine av hT rfl<|ab (ah (iI c n lz lz h0 ho)) ?_
  refine aj rfl<|ag<|am<|E1 rfl rfl ?_
  exact aM (mf h0 ho (.inr (.inr hb3_)))
 have hb3_:=bF hb3
 refine au<|ae hP<|av hT rfl<|ak rfl<|ab (ah (cg c jc)) ?_
 refine ab (ah (iI n c lz lz (by omega) (by omega))) ?_
 refine aj rfl<|ag<|am<|E1 rfl rfl ?_
 exact aM (p8 (fun x=>x.elim hg1_ (fun x=>x.elim hg2_ hb3_)))
theorem vx (n d:Int) (hn:L 40 n) (hd:L 40 d) :
  aJ Tryz.prog 201 [I n,I d] (B (decide (((Int.gcd n (2*d):Nat):Int)=1))):=by
 have i1:LB n 40:=⟨hn⟩
 have i2:LB d 40:=⟨hd⟩
 refine aO Tryz.func201 rfl rfl rfl rfl ?_
 refine ae hP<|aq ai (aL rfl rfl)<|aq ai (aL rfl rfl)<|aj rfl<|ag<|ae hP<|av hT rfl<|ab (ah (cg _ (by first | assumption | decide))) ?_
 refine av hT rfl<|ab (ah (dY _ _ lz lz)) ?_
 refine ab (ah (pH _ _ lz lz)) ?_
 refine ab (ah (cg _ (by first | assumption | decide))) ?_
 refine ab (ah (dI _ _)) ?_
 refine aj rfl<|ag<|am<|E1 rfl rfl ?_
 exact .refl _
end
section
open Go Go.AM
theorem ol (d:Int) (hd:L 40 d) :
  aJ Tryz.prog 198 [I d] (.t [PE (gnV d),PE (szE d)]):=by
 have id0:LB d 40:=⟨hd⟩
 have hm0:=Int.emod_nonneg d (show (4:Int)≠0 by omega)
 have hm1:=Int.emod_lt_of_pos d (show (0:Int) < 4 by omega)
 refine aO Tryz.func198 rfl rfl rfl rfl ?_
 refine ae hP<|aq ai (aL rfl rfl)<|aj rfl<|aj rfl<|ag<|ao<|ae hP<|av hT rfl<|ab (ah (eF _)) ?_
 refine ab (dm rfl rfl)<|ag ?_
 refine az rfl (fun hb1=>?_) (fun hb1=>?_)
 ·have hb1_:=dT0 hb1
  refine ae hP<|aj rfl<|aj rfl<|ag<|am<|E11 rfl rfl rfl ?_
  exact aH (yo (.inl (sgn_ge_iff.1 hb1_)))
 have hb1_:=dF0 hb1
 refine au<|ae hP<|av hT rfl<|ab (ah (cg 4 (by decide))) ?_
 refine ab (ah (kF _ _ lz lz (by decide))) ?_
 refine aq ai (aC hT rfl rfl)<|aI hT rfl<|ag<|ao<|ae hP<|av hT rfl<|ab (ah (cg 1 (by decide))) ?_
 refine ab (ah (lU _ _)) ?_
 refine ab (bK rfl rfl)<|ag ?_
 refine az rfl (fun hb2=>?_) (fun hb2=>?_)
 ·have hb2_:=dT0 hb2
  refine ae hP<|aj rfl<|aj rfl<|ag<|am<|E11 rfl rfl rfl ?_
  exact aH (yo (.inr (cmpI_gt_zero.1 hb2_)))
 have hb2_:=dF0 hb2
 have hn:¬ (0≤d∨d % 4 > 1):=fun h=>h.elim (fun x=>hb1_ (sgn_ge_iff.2 x)) (fun x=>hb2_ (cmpI_gt_zero.2 x))
 refine au<|ae hP<|av hT rfl<|ab (ah (D6 d lz)) ?_
 refine ab (aB (rfl:_=AV.t _))<|ab (aE rfl (v:=.c _) rfl)<|ab (aE rfl (v:=.c _) rfl)<|aj rfl<|aj rfl<|ag<|ao<|ae hP<|av hT rfl<|ab (ah (cg (-4194304) (by decide))) ?_
 refine ab (ah (lU _ _)) ?_
 refine ab (bi rfl rfl)<|ag ?_
 refine az rfl (fun hb3=>?_) (fun hb3=>?_)
 ·have hb3_:=dT0 hb3
  refine ae hP<|aj rfl<|aj rfl<|ag<|am<|E11 rfl rfl rfl ?_
  exact aH (Cw hn (by have:=cmpI_lt_zero.1 hb3_;omega))
 have hb3_:=dF0 hb3
 have hlt:¬ d < -4194304:=fun h=>hb3_ (cmpI_lt_zero.2 h)
 have hly:=qI (a:=d) (by omega)
 refine au<|ae hP<|ak rfl<|aj rfl<|aj rfl<|ag<|am<|E11 rfl rfl rfl ?_
 exact aH (by rw [hly.2];exact Kl hn (by omega))
theorem zw (f:Fm) (hfa:L 6 f.a) (hfb:L 6 f.b) (hfc:L 6 f.c) :
  aJ Tryz.prog 200 [FA f.a f.b f.c] (.t [PE (gpV f),PE (gpE f)]):=by
 have ifa:LB f.a 6:=⟨hfa⟩
 have ifb:LB f.b 6:=⟨hfb⟩
 have ifc:LB f.c 6:=⟨hfc⟩
 refine aO Tryz.func200 rfl rfl rfl rfl ?_
 refine ae hP<|aq ai (aL rfl rfl)<|aj rfl<|aj rfl<|ag<|ae hP<|br hT rfl rfl rfl rfl rfl rfl<|ab (ah (oK f.a f.b f.c lz lz lz)) ?_
 refine aj rfl<|ag<|ao<|ae hP<|ak rfl<|ab (bq rfl rfl)<|ag ?_
 refine az rfl (fun hb1=>?_) (fun hb1=>?_)
 ·have hb1_:=bY hb1
  refine ae hP<|ak rfl<|aj rfl<|aj rfl<|ag<|am<|E11 rfl rfl rfl ?_
  exact aH (Kk hb1_)
 have hb1_:=bS hb1
 refine au<|ae hP<|br hT rfl rfl rfl rfl rfl rfl<|ab (ah (jf f.a f.b f.c lz lz lz)) ?_
 refine ab (ah (ol _ lz)) ?_
 refine ab (aB (rfl:_=AV.t _))<|ab (aE rfl (v:=.c _) rfl)<|ab (aE rfl (v:=.c _) rfl)<|aj rfl<|aj rfl<|ag<|ao<|ae hP<|ak rfl<|ab (bq rfl rfl)<|ag ?_
 refine az rfl (fun hb2=>?_) (fun hb2=>?_)
 ·have hb2_:=bY hb2
  refine ae hP<|ak rfl<|aj rfl<|aj rfl<|ag<|am<|E11 rfl rfl rfl ?_
  exact aH (Mm hb1_ hb2_)
 have hb2_:=bS hb2
 refine au<|ao<|ae hP<|br hT rfl rfl rfl rfl rfl rfl<|ab (ah (kn f.a f.b f.c lz lz lz)) ?_
 refine ab (bt rfl)<|ag ?_
 refine az rfl (fun hb3=>?_) (fun hb3=>?_)
 ·have hb3_:=(bX hb3)
  refine ae hP<|aj rfl<|aj rfl<|ag<|am<|E11 rfl rfl rfl ?_
  exact aH (Kj hb1_ hb2_ (bX hb3))
 have hb3_:=(bU hb3)
 refine au<|ae hP<|ak rfl<|aj rfl<|aj rfl<|ag<|am<|E11 rfl rfl rfl ?_
 exact aH (Mn hb1_ hb2_ (bU hb3))
theorem lp (d:Int) (h0:d < 0) (h1:-4194304≤d) :
  aJ Tryz.prog 199 [Z d] (.p (.c (IS (chs d)))):=by
 refine aO Tryz.func199 rfl rfl rfl rfl ?_
 refine ae hP<|aj rfl<|ag<|ae hP<|aq ai (dB hT rfl rfl rfl (es:=[]) rfl rfl rfl) ?_
 refine ab (a7 (rfl:_=AV.vec _))<|ag<|cr 7 1000 rfl rfl rfl ?_
 refine ae hP<|ak rfl<|ab (ew rfl (c:=-d) (by rw [iW0 _ (by omega)];omega)) ?_
 refine aj rfl<|ag<|ao<|aA<|bg (ι:=Int) (fun m=>stL [(0,Z d),(3,.vec 1000),(4,Z m)] [(1000,IB 3 ([]))]) (fun m=>(0 < m∧m≤4194304)∧rmp m 2=(rmp (-d) 2)) (fun m=>m.toNat) (-d) ⟨by omega,rfl⟩ (aD ⟨.refl _,.refl _,.refl _,trivial⟩ ⟨rfl,trivial⟩) ?_
 rintro m ⟨hm,hr⟩
 refine ao<|ae hP<|ak rfl<|ab (bJ rfl rfl (by omega) (c:=m % 2) (Int.tmod_eq_emod_of_nonneg (by omega))) ?_
 refine ab (bh rfl rfl)<|ag ?_
 refine az rfl (fun hb1=>?_) (fun hb1=>?_)
 ·have hb1_:=bT hb1
  refine au<|aA<|aw hP<|ak rfl<|ab (cO rfl rfl (by omega) (c:=m / 2) (by rw [Int.tdiv_eq_ediv_of_nonneg (by omega),iW0 _ (by omega)])) ?_
  refine aj rfl<|ag ?_
  have hdd:=gw hm.1 (by decide) hb1_
  refine ⟨m / 2,⟨by omega,by rw [gV (by decide) hm.1 hb1_,hr]⟩,by omega,aD ⟨.refl _,.refl _,.refl _,trivial⟩ ⟨rfl,trivial⟩⟩
 have hb1_:=bF hb1
 refine aZ<|ao<|ae hP<|aj rfl<|ag<|aA ?_
 have hm2:m=(rmp (-d) 2):=by rw [← hr,iF hb1_]
 refine bg (ι:=Int × Int × List Int) (fun q=>stL [(0,Z d),(3,.vec 1000),(4,Z q.1),(5,Z q.2.1)] [(1000,IB 3 (q.2.2))]) (fun q=>OcI (rmp (-d) 2) q.1 q.2.1 q.2.2∧q.2.1≤2051) (fun q=>(5000 - q.2.1).toNat) (m,3,[]) ⟨by have:=OcI.start (n:=m) (by omega) (by omega) (by omega);rw [hm2] at this ⊢;exact this,by simp only;omega⟩ (aD ⟨.refl _,.refl _,.refl _,.refl _,trivial⟩ ⟨rfl,trivial⟩) ?_
 rintro q ⟨i,hp51⟩
 have in1:=i.n1
 have inb:=i.nb
 have ip3:=i.p3
 have il:=i.len.1
 have hsq:=ki (x:=q.2.1) (m:=2051) (by omega)
 refine ao<|ae hP<|ak rfl<|ak rfl<|ab (bQ rfl rfl (by first | exact iW0 _ (by omega) | rfl)) ?_
 refine ak rfl<|ab (eX rfl rfl)<|ag ?_
 refine az rfl (fun hb2=>?_) (fun hb2=>?_)
 ·have hb2_:=dT0 hb2
  have hst:=i.stepR hb2_
  have hp48:q.2.1≤2048:=by
   have h9:3*3≤q.2.1*q.2.1:=Int.mul_le_mul ip3 ip3 (by omega) (by omega)
   exact i.sq (by omega) hb2_
  refine au<|ao<|aA<|gj 29 1000 (ι:=Unit) (fun _=>stL [(0,Z d),(3,.vec 1000),(4,Z q.1),(5,Z q.2.1)] [(1000,IB 3 (oP q.1 q.2.1 q.2.2))]) (fun _=>True) rfl rfl ?_ ?_
  ·refine ae hP<|ak rfl<|ak rfl<|ab (bJ rfl rfl (by omega) (c:=q.1 % q.2.1) (Int.tmod_eq_emod_of_nonneg (by omega))) ?_
   refine ab (bh rfl rfl)<|ag ?_
   refine az rfl (fun hb3=>?_) (fun hb3=>?_)
   ·have hb3_:=bT hb3
    refine aw hP<|ab (aB (rfl:_=AV.vec _))<|ak rfl<|ab (bd hT rfl rfl rfl (es:=[_]) rfl rfl rfl)<|RK.app ai (dJ (z:=q.2.1) hT rfl rfl rfl rfl rfl rfl rfl rfl (by omega) (by decide)) ?_
    refine ab (a7 (rfl:_=AV.vec _))<|ag ?_
    refine ⟨(),trivial,.inr ⟨_,rfl,rfl,aD ⟨.refl _,.refl _,.refl _,.refl _,trivial⟩ ⟨Eq.trans rfl (congrArg (fun x=>some (IB 3 x)) (show q.2.2 ++ [q.2.1]=oP q.1 q.2.1 q.2.2 from (if_pos hb3_).symm)),trivial⟩⟩⟩
   have hb3_:=bF hb3
   refine au ?_
   refine ⟨(),trivial,.inl (aD ⟨.refl _,.refl _,.refl _,.refl _,trivial⟩ ⟨Eq.trans rfl (congrArg (fun x=>some (IB 3 x)) (show q.2.2=oP q.1 q.2.1 q.2.2 from (if_neg hb3_).symm)),trivial⟩)⟩
  intro _ _
  refine aA<|bg (ι:=Int) (fun m=>stL [(0,Z d),(3,.vec 1000),(4,Z m),(5,Z q.2.1)] [(1000,IB 3 (oP q.1 q.2.1 q.2.2))]) (fun m=>(0 < m∧m≤4194304)∧rmp m q.2.1=rmp q.1 q.2.1) (fun m=>m.toNat) q.1 ⟨by omega,rfl⟩ (aD ⟨.refl _,.refl _,.refl _,.refl _,trivial⟩ ⟨rfl,trivial⟩) ?_
  rintro m ⟨hm,hrm⟩
  refine ao<|ae hP<|ak rfl<|ak rfl<|ab (bJ rfl rfl (by omega) (c:=m % q.2.1) (Int.tmod_eq_emod_of_nonneg (by omega))) ?_
  refine ab (bh rfl rfl)<|ag ?_
  refine az rfl (fun hb4=>?_) (fun hb4=>?_)
  ·have hb4_:=bT hb4
   have hdd:=gw hm.1 (by omega) ‹m % q.2.1=0›
   refine au<|aA<|aw hP<|ak rfl<|ak rfl<|ab (cO rfl rfl (by omega) (c:=m / q.2.1) (by rw [Int.tdiv_eq_ediv_of_nonneg (by omega),iW0 _ (by omega)])) ?_
   refine aj rfl<|ag ?_
   refine ⟨m / q.2.1,⟨by omega,by rw [gV (by omega) hm.1 ‹m % q.2.1=0›,hrm]⟩,by omega,aD ⟨.refl _,.refl _,.refl _,.refl _,trivial⟩ ⟨rfl,trivial⟩⟩
  have hb4_:=bF hb4
  refine aZ<|aw hP<|ak rfl<|bv rfl rfl ?_
  refine aj rfl<|ag ?_
  refine ⟨(rmp q.1 q.2.1,q.2.1+2,oP q.1 q.2.1 q.2.2),⟨hst,by simp only;omega⟩,by simp only;omega,aD ⟨.refl _,.refl _,aM (by rw [← hrm,iF ‹m % q.2.1≠0›]),.refl _,trivial⟩ ⟨rfl,trivial⟩⟩
 have hb2_:=dF0 hb2
 have hend:=i.endR hb2_
 refine aZ<|gj 42 1000 (ι:=Unit) (fun _=>stL [(0,Z d),(3,.vec 1000)] [(1000,IB 3 (fY (rmp (-d) 2)))]) (fun _=>True) rfl rfl ?_ ?_
 ·refine ae hP<|ak rfl<|ab (bK rfl rfl)<|ag ?_
  refine az rfl (fun hb5=>?_) (fun hb5=>?_)
  ·have hb5_:=dT0 hb5
   refine aw hP<|ab (aB (rfl:_=AV.vec _))<|ak rfl<|ab (bd hT rfl rfl rfl (es:=[_]) rfl rfl rfl)<|RK.app ai (dJ (z:=q.1) hT rfl rfl rfl rfl rfl rfl rfl rfl (by omega) (by decide)) ?_
   refine ab (a7 (rfl:_=AV.vec _))<|ag ?_
   refine ⟨(),trivial,.inr ⟨_,rfl,rfl,aD ⟨.refl _,.refl _,trivial⟩ ⟨Eq.trans rfl (congrArg (fun x=>some (IB 3 x)) (by rw [← hend,if_pos ‹q.1 > 1›])),trivial⟩⟩⟩
  have hb5_:=dF0 hb5
  refine au ?_
  refine ⟨(),trivial,.inl (aD ⟨.refl _,.refl _,trivial⟩ ⟨Eq.trans rfl (congrArg (fun x=>some (IB 3 x)) (by rw [← hend,if_neg ‹¬ q.1 > 1›])),trivial⟩)⟩
 intro _ _
 refine ao<|ae hP<|ak rfl<|ab (bJ rfl rfl (by decide) (c:=d.tmod 4) rfl) ?_
 refine ab (bq rfl rfl)<|ag ?_
 refine az rfl (fun hb6=>?_) (fun hb6=>?_)
 ·have hb6_:=bY hb6
  refine ae hP<|ab (aB (rfl:_=AV.vec _))<|ab (a7 (rfl:_=AV.vec _))<|ag<|gK (t:=2) rfl rfl ?_
  refine am<|E1 rfl rfl ?_
  exact aH (by rw [Ex ‹d.tmod 4≠0›])
 have hb6_:=bS hb6
 refine au<|ae hP<|ak rfl<|ab (ew rfl (c:=-d) (by rw [iW0 _ (by omega)];omega)) ?_
 refine ab (cO rfl rfl (by omega) (c:=-d / 4) (by rw [Int.tdiv_eq_ediv_of_nonneg (by omega),iW0 _ (by omega)])) ?_
 refine aj rfl<|ag<|gj 65 1000 (ι:=Unit) (fun _=>stL [(3,.vec 1000),(6,Z (-d / 4))] [(1000,IB 3 (fY (rmp (-d) 2) ++ sA1 (-d / 4)))]) (fun _=>True) rfl rfl ?_ ?_
 ·refine ae hP<|ak rfl<|ab (bJ rfl rfl (by omega) (c:=-d / 4 % 4) (Int.tmod_eq_emod_of_nonneg (by omega))) ?_
  refine ab (bh rfl rfl)<|ak rfl ?_
  refine aW (t:=53) rfl (fun hg7=>?_) (fun hg7=>?_)
  ·have hg7_:=bT hg7
   iterate 3 refine aX hg7 ?_
   refine ab (aN rfl hg7 (rfl:_=AV.p (.c _)))<|ak rfl<|aX rfl ?_
   refine aX rfl ?_
   refine aX rfl ?_
   refine ab (aN rfl rfl (rfl:_=AV.p (.c _)))<|ag<|aV rfl rfl<|aw hP<|ab (aB (rfl:_=AV.vec _))<|ab (bd hT rfl rfl rfl (es:=[_]) rfl rfl rfl)<|RK.app ai (dJ (z:=-4) hT rfl rfl rfl rfl rfl rfl rfl rfl (by have:=jj (rmp (-d) 2);omega) (by decide)) ?_
   refine ab (a7 (rfl:_=AV.vec _))<|ag ?_
   refine ⟨(),trivial,.inr ⟨_,rfl,rfl,aD ⟨.refl _,.refl _,trivial⟩ ⟨Eq.trans rfl (congrArg (fun x=>some (IB 3 x)) (lG (m:=sA1 (-d / 4)) (if_pos (by omega)))),trivial⟩⟩⟩
  have hg7_:=bF hg7
  refine ay hg7 (aB (rfl:_=AV.p (.c _))) ?_
  refine ay hg7 (bJ rfl rfl (by omega) (c:=-d / 4 % 8) (Int.tmod_eq_emod_of_nonneg (by omega))) ?_
  refine ay hg7 (bh rfl rfl) ?_
  refine ab (aK rfl hg7 (rfl:_=AV.p (.c _)))<|ak rfl ?_
  refine aW (t:=58) rfl (fun hg8=>?_) (fun hg8=>?_)
  ·have hg8_:=bT hg8
   iterate 3 refine aX hg8 ?_
   refine ab (aN rfl hg8 (rfl:_=AV.p (.c _)))<|ag<|aV rfl rfl<|aw hP<|ab (aB (rfl:_=AV.vec _))<|ab (bd hT rfl rfl rfl (es:=[_]) rfl rfl rfl)<|RK.app ai (dJ (z:=-4) hT rfl rfl rfl rfl rfl rfl rfl rfl (by have:=jj (rmp (-d) 2);omega) (by decide)) ?_
   refine ab (a7 (rfl:_=AV.vec _))<|ag ?_
   refine ⟨(),trivial,.inr ⟨_,rfl,rfl,aD ⟨.refl _,.refl _,trivial⟩ ⟨Eq.trans rfl (congrArg (fun x=>some (IB 3 x)) (lG (m:=sA1 (-d / 4)) (if_pos (by omega)))),trivial⟩⟩⟩
  have hg8_:=bF hg8
  refine ay hg8 (aB (rfl:_=AV.p (.c _))) ?_
  refine ay hg8 (bJ rfl rfl (by omega) (c:=-d / 4 % 8) (Int.tmod_eq_emod_of_nonneg (by omega))) ?_
  refine ay hg8 (bh rfl rfl) ?_
  refine ab (aK rfl hg8 (rfl:_=AV.p (.c _)))<|ag ?_
  refine az rfl (fun hb9=>?_) (fun hb9=>?_)
  ·have hb9_:=bT hb9
   refine aw hP<|ab (aB (rfl:_=AV.vec _))<|ab (bd hT rfl rfl rfl (es:=[_]) rfl rfl rfl)<|RK.app ai (dJ (z:=-4) hT rfl rfl rfl rfl rfl rfl rfl rfl (by have:=jj (rmp (-d) 2);omega) (by decide)) ?_
   refine ab (a7 (rfl:_=AV.vec _))<|ag ?_
   refine ⟨(),trivial,.inr ⟨_,rfl,rfl,aD ⟨.refl _,.refl _,trivial⟩ ⟨Eq.trans rfl (congrArg (fun x=>some (IB 3 x)) (lG (m:=sA1 (-d / 4)) (if_pos (by omega)))),trivial⟩⟩⟩
  have hb9_:=bF hb9
  refine au ?_
  refine ⟨(),trivial,.inl (aD ⟨.refl _,.refl _,trivial⟩ ⟨Eq.trans rfl (congrArg (fun x=>some (IB 3 x)) (vf (m:=sA1 (-d / 4)) (if_neg (by omega)))),trivial⟩)⟩
 intro _ _
 refine gj 76 1000 (ι:=Unit) (fun _=>stL [(3,.vec 1000),(6,Z (-d / 4))] [(1000,IB 3 (fY (rmp (-d) 2) ++ sA1 (-d / 4) ++ sA2 (-d / 4)))]) (fun _=>True) rfl rfl ?_ ?_
 ·refine ae hP<|ak rfl<|ab (bJ rfl rfl (by omega) (c:=-d / 4 % 8) (Int.tmod_eq_emod_of_nonneg (by omega))) ?_
  refine ab (bh rfl rfl)<|ak rfl ?_
  refine aW (t:=69) rfl (fun hg10=>?_) (fun hg10=>?_)
  ·have hg10_:=bT hg10
   iterate 3 refine aX hg10 ?_
   refine ab (aN rfl hg10 (rfl:_=AV.p (.c _)))<|ag<|aV rfl rfl<|aw hP<|ab (aB (rfl:_=AV.vec _))<|ab (bd hT rfl rfl rfl (es:=[_]) rfl rfl rfl)<|RK.app ai (dJ (z:=8) hT rfl rfl rfl rfl rfl rfl rfl rfl (by have:=jj (rmp (-d) 2);rw [List.length_append];unfold sA1;split <;> simp <;> omega) (by decide)) ?_
   refine ab (a7 (rfl:_=AV.vec _))<|ag ?_
   refine ⟨(),trivial,.inr ⟨_,rfl,rfl,aD ⟨.refl _,.refl _,trivial⟩ ⟨Eq.trans rfl (congrArg (fun x=>some (IB 3 x)) (lG (m:=sA2 (-d / 4)) (if_pos (by omega)))),trivial⟩⟩⟩
  have hg10_:=bF hg10
  refine ay hg10 (aB (rfl:_=AV.p (.c _))) ?_
  refine ay hg10 (bJ rfl rfl (by omega) (c:=-d / 4 % 8) (Int.tmod_eq_emod_of_nonneg (by omega))) ?_
  refine ay hg10 (bh rfl rfl) ?_
  refine ab (aK rfl hg10 (rfl:_=AV.p (.c _)))<|ag ?_
  refine az rfl (fun hb11=>?_) (fun hb11=>?_)
  ·have hb11_:=bT hb11
   refine aw hP<|ab (aB (rfl:_=AV.vec _))<|ab (bd hT rfl rfl rfl (es:=[_]) rfl rfl rfl)<|RK.app ai (dJ (z:=8) hT rfl rfl rfl rfl rfl rfl rfl rfl (by have:=jj (rmp (-d) 2);rw [List.length_append];unfold sA1;split <;> simp <;> omega) (by decide)) ?_
   refine ab (a7 (rfl:_=AV.vec _))<|ag ?_
   refine ⟨(),trivial,.inr ⟨_,rfl,rfl,aD ⟨.refl _,.refl _,trivial⟩ ⟨Eq.trans rfl (congrArg (fun x=>some (IB 3 x)) (lG (m:=sA2 (-d / 4)) (if_pos (by omega)))),trivial⟩⟩⟩
  have hb11_:=bF hb11
  refine au ?_
  refine ⟨(),trivial,.inl (aD ⟨.refl _,.refl _,trivial⟩ ⟨Eq.trans rfl (congrArg (fun x=>some (IB 3 x)) (vf (m:=sA2 (-d / 4)) (if_neg (by omega)))),trivial⟩)⟩
 intro _ _
 refine gj 82 1000 (ι:=Unit) (fun _=>stL [(3,.vec 1000)] [(1000,IB 3 (fY (rmp (-d) 2) ++ sA1 (-d / 4) ++ sA2 (-d / 4) ++ sA3 (-d / 4)))]) (fun _=>True) rfl rfl ?_ ?_
 ·refine ae hP<|ak rfl<|ab (bJ rfl rfl (by omega) (c:=-d / 4 % 8) (Int.tmod_eq_emod_of_nonneg (by omega))) ?_
  refine ab (bh rfl rfl)<|ag ?_
  refine az rfl (fun hb12=>?_) (fun hb12=>?_)
  ·have hb12_:=bT hb12
   refine aw hP<|ab (aB (rfl:_=AV.vec _))<|ab (bd hT rfl rfl rfl (es:=[_]) rfl rfl rfl)<|RK.app ai (dJ (z:=-8) hT rfl rfl rfl rfl rfl rfl rfl rfl (by have:=jj (rmp (-d) 2);simp only [List.length_append];unfold sA1 sA2;split <;> split <;> simp <;> omega) (by decide)) ?_
   refine ab (a7 (rfl:_=AV.vec _))<|ag ?_
   refine ⟨(),trivial,.inr ⟨_,rfl,rfl,aD ⟨.refl _,trivial⟩ ⟨Eq.trans rfl (congrArg (fun x=>some (IB 3 x)) (lG (m:=sA3 (-d / 4)) (if_pos (by omega)))),trivial⟩⟩⟩
  have hb12_:=bF hb12
  refine au ?_
  refine ⟨(),trivial,.inl (aD ⟨.refl _,trivial⟩ ⟨Eq.trans rfl (congrArg (fun x=>some (IB 3 x)) (vf (m:=sA3 (-d / 4)) (if_neg (by omega)))),trivial⟩)⟩
 intro _ _
 refine ae hP<|ab (aB (rfl:_=AV.vec _))<|ab (a7 (rfl:_=AV.vec _))<|ag<|gK (t:=2) rfl rfl ?_
 refine am<|E1 rfl rfl ?_
 exact aH (by rw [IY ‹d.tmod 4=0›])
theorem qv (d:Int) (hd:L 40 d) :
  aJ Tryz.prog 158 [I d] (.t [.c (IS (chE d)),PE (szE d)]):=by
 have id0:LB d 40:=⟨hd⟩
 refine aO Tryz.func158 rfl rfl rfl rfl ?_
 refine ae hP<|aq ai (aL rfl rfl)<|aj rfl<|aj rfl<|ag<|ae hP<|av hT rfl<|ab (ah (ol d hd)) ?_
 refine ab (aB (rfl:_=AV.t _))<|ab (aE rfl (v:=.c _) rfl)<|ab (aE rfl (v:=.c _) rfl)<|aj rfl<|aj rfl<|ag<|ao<|ae hP<|ak rfl<|ab (bq rfl rfl)<|ag ?_
 refine az rfl (fun hb1=>?_) (fun hb1=>?_)
 ·have hb1_:=bY hb1
  refine ae hP<|ak rfl<|aj rfl<|aj rfl<|ag<|am<|E11 rfl rfl rfl ?_
  exact (by rw [Ey hb1_];exact Sub.tup ⟨DSub.nil_sl,DSub.refl _,trivial⟩)
 have hb1_:=bS hb1
 have he:szE d=0:=hb1_
 obtain ⟨e1,e2,e3⟩:=pX he
 have cC:=lp d e2 e3
 rw [e1]
 refine au<|ae hP<|ak rfl<|ab (ah cC) ?_
 refine aj rfl<|aj rfl<|ag<|am<|E11 rfl rfl rfl ?_
 exact aH (by rw [he,sN he])
theorem Jq (d N:Int) (h0:d < 0) (h1:-4194304≤d) (hN:L 40 N) (hp:0 < N) (ho:N % 2=1) :
  aJ Tryz.prog 202 [Z d,I N] (.p (.c (IS ((chs d).map (fun c=>cv c N))))):=by
 have iN:LB N 40:=⟨hN⟩
 have cC:=lp d h0 h1
 have hcl:=ke h0 h1
 have hkd:=fun c hc=>uZ (c:=c) h0 hc
 have hkb:=fun c hc=>qa (c:=c) h0 h1 hc
 generalize chs d=l at *
 refine aO Tryz.func202 rfl rfl rfl rfl ?_
 refine ae hP<|aq ai (aL rfl rfl)<|aj rfl<|ag<|ae hP<|ak rfl<|ab (ah cC) ?_
 refine aj rfl<|ag<|ae hP<|aq ai (dB hT rfl rfl rfl (es:=[]) rfl rfl rfl) ?_
 refine ab (a7 (rfl:_=AV.vec _))<|ag<|cr 10 1000 rfl rfl rfl ?_
 refine ao<|ae hP<|aj rfl<|ag<|aA<|bg (ι:=Nat) (fun k=>stL [(3,.loc 3 0),(5,.p (.c (IS l))),(6,.vec 1000),(7,Z (k:Int))] [(3,⟨false,1,29,[zn (N),zm (N)]⟩),(1000,IB 3 ((l.take k).map (fun c=>cv c N)))]) (fun k=>k≤l.length) (fun k=>l.length - k) 0 (Nat.zero_le _) (aD ⟨.refl _,.refl _,.refl _,.refl _,trivial⟩ ⟨rfl,rfl,trivial⟩) ?_
 intro k hk
 refine ao<|ae hP<|ak rfl<|ak rfl<|ab (aU hT rfl rfl rfl (by rfl)) ?_
 refine ab (bi rfl rfl)<|ag ?_
 refine az rfl (fun hb1=>?_) (fun hb1=>?_)
 ·have hb1_:=dT0 hb1
  have hmk:=jK hb1_
  have cX:=rA (l.getD k 0) N (hkd _ hmk) (hkb _ hmk) hN hp ho
  refine au<|ao<|aA<|aw hP<|ab (aB (rfl:_=AV.vec _))<|ak rfl<|ak rfl<|ab (fW hT (n:=(k:Int)) rfl rfl rfl rfl rfl rfl (by omega)) ?_
  refine ab (bI hT rfl rfl rfl rfl)<|av hT rfl<|ab (ah cX) ?_
  refine ab (bd hT rfl rfl rfl (es:=[_]) rfl rfl rfl)<|RK.app ai (dJ (z:=cv (l.getD k 0) N) hT rfl rfl rfl rfl rfl rfl rfl rfl (by rw [List.length_map,List.length_take];omega) (by decide)) ?_
  refine ab (a7 (rfl:_=AV.vec _))<|ag<|cr 25 1000 rfl rfl rfl ?_
  refine aw hP<|ak rfl<|bv rfl rfl ?_
  refine aj rfl<|ag ?_
  refine ⟨k+1,by omega,by omega,aD ⟨.refl _,.refl _,.refl _,aM (by omega),trivial⟩ ⟨rfl,Eq.trans rfl (congrArg (fun x=>some (IB 3 x)) (ug hb1_)),trivial⟩⟩
 have hb1_:=dF0 hb1
 refine aZ<|gK (t:=6) rfl rfl ?_
 refine ae hP<|ak rfl<|aj rfl<|ag<|am<|E1 rfl rfl ?_
 exact aH (by rw [oD hb1_])
end
section
open Go Go.AM
theorem xM (f:Fm) (hfa:L 6 f.a) (hfb:L 6 f.b) (hfc:L 6 f.c) :
  aJ Tryz.prog 159 [FA f.a f.b f.c] (.t [.c (IS (gvL f)),PE (gpE f)]):=by
 have ifa:LB f.a 6:=⟨hfa⟩
 have ifb:LB f.b 6:=⟨hfb⟩
 have ifc:LB f.c 6:=⟨hfc⟩
 have cP:=zw f hfa hfb hfc
 have cR:aJ Tryz.prog 91 [FA f.a f.b f.c] (.t [PF f.rd,PM (rdM f.a f.b f.c),PE (rdE f.a f.b f.c)]):=ry f.a f.b f.c lz lz lz
 refine aO Tryz.func159 rfl rfl rfl rfl ?_
 refine ae hP<|aq ai (aL rfl rfl)<|aj rfl<|aj rfl<|ag<|ae hP<|br hT rfl rfl rfl rfl rfl rfl<|ab (ah cP) ?_
 refine ab (aB (rfl:_=AV.t _))<|ab (aE rfl (v:=.c _) rfl)<|ab (aE rfl (v:=.c _) rfl)<|aj rfl<|aj rfl<|ag<|ao<|ae hP<|ak rfl<|ab (bq rfl rfl)<|ag ?_
 refine az rfl (fun hb1=>?_) (fun hb1=>?_)
 ·have hb1_:=bY hb1
  refine ae hP<|ak rfl<|aj rfl<|aj rfl<|ag<|am<|E11 rfl rfl rfl ?_
  exact (by rw [Em hb1_];exact Sub.tup ⟨DSub.nil_sl,DSub.refl _,trivial⟩)
 have hb1_:=bS hb1
 have he:gpE f=0:=hb1_
 obtain ⟨hf,hE⟩:=uz he
 obtain ⟨hgn,hd0,hd1⟩:=pX hE
 have hxx:=En he
 have eV:gpV f=dsc f.a f.b f.c:=by unfold gpV;rw [if_pos he]
 have hmap:=fun (N:Int) (h1:RpN f.rd N) (h2:Int.gcd N (2*dsc f.a f.b f.c)=1)=>ux hf hd1 hd0 hE h1 h2
 obtain ⟨⟨s1,s2⟩,⟨s3,s4⟩,s5,s6⟩:=oI hf.rd hf.rd_rd hd1
 have hg:=hf.rd
 have hpe:rdE f.a f.b f.c=0:=jh hf.pos
 rw [hpe] at cR
 have hat0:=fun (N:Int)=>Jq (dsc f.a f.b f.c) N hd0 hd1
 generalize rdM f.a f.b f.c=M0 at *
 rw [eV]
 generalize dsc f.a f.b f.c=d at *
 generalize f.rd=g at *
 have jd:bp d:=by unfold bp;omega
 have hdL:L 40 d:=(show L 6 d by unfold L;omega).mono (by decide)
 have iga:LB g.a 6:=⟨by unfold L;omega⟩
 have igb:LB g.b 6:=⟨by unfold L;omega⟩
 have igc:LB g.c 6:=⟨by unfold L;omega⟩
 refine au<|ae hP<|br hT rfl rfl rfl rfl rfl rfl<|ab (ah cR) ?_
 refine ab (aB (rfl:_=AV.t _))<|ab (aE rfl (v:=.a _) rfl)<|ab (aE rfl (v:=.a _) rfl)<|ab (aE rfl (v:=.c _) rfl)<|aq ai (aC hT rfl rfl)<|aq ai (aC hT rfl rfl)<|aI hT rfl<|aI hT rfl<|aj rfl<|ag<|ae hP<|aj rfl<|ag<|aA<|bg (ι:=Int) (fun s=>stL [(4,Z d),(6,.loc 6 0),(9,Z s)] [(6,⟨false,1,46,FL g.a g.b g.c⟩)]) (fun s=>1≤s∧NoS g d s) (fun s=>(2800001 - s).toNat) 1 ⟨by decide,NoS.start⟩ (aD ⟨.refl _,.refl _,.refl _,trivial⟩ ⟨rfl,trivial⟩) ?_
 rintro s ⟨hs1,hs2⟩
 have hle0:=hs2.le hd0 hxx
 refine ao<|aA<|ae hP<|aj rfl<|ag<|aA<|bg (ι:=Int) (fun x=>stL [(4,Z d),(6,.loc 6 0),(9,Z s),(10,Z x)] [(6,⟨false,1,46,FL g.a g.b g.c⟩)]) (fun x=>(0≤x∧x≤s+1)∧NoT g d s x) (fun x=>(s+1 - x).toNat) 0 ⟨by omega,NoT.start⟩ (aD ⟨.refl _,.refl _,.refl _,.refl _,trivial⟩ ⟨rfl,trivial⟩) ?_
 rintro x ⟨hx1,hx2⟩
 refine ao<|ae hP<|ak rfl<|ak rfl<|ab (eX rfl rfl)<|ag ?_
 refine az rfl (fun hb2=>?_) (fun hb2=>?_)
 ·have hb2_:=dT0 hb2
  have hle:=hs2.le hd0 hxx
  have jx:bp x:=by unfold bp;omega
  have jsx:bp (s - x):=by unfold bp;omega
  have ix6:LB x 6:=⟨by unfold L;omega⟩
  have isx:LB (s - x) 6:=⟨by unfold L;omega⟩
  have cV:=lV g.a g.b g.c x (s - x) lz lz lz lz lz
  have hVL:L 40 (vl g.a g.b g.c x (s - x)):=lz
  have hVr:RpN g (vl g.a g.b g.c x (s - x)):=⟨x,s - x,rfl⟩
  have hVn:=fun h=>hx2.next (x:=x) h
  generalize (vl g.a g.b g.c x (s - x))=V at cV hVL hVr hVn
  refine au<|ao<|aA<|ae hP<|br hT rfl rfl rfl rfl rfl rfl<|ak rfl<|ab (ah (cg x jx)) ?_
  refine ak rfl<|ak rfl<|ab (bD rfl rfl (by first | exact iW0 _ (by omega) | rfl)) ?_
  refine ab (ah (cg (s - x) jsx)) ?_
  refine ab (ah cV) ?_
  refine aq ai (aC hT rfl rfl)<|aI hT rfl<|ag<|ae hP<|av hT rfl<|ak rfl<|ab (ah (cg d jd)) ?_
  refine ab (ah (vx V d hVL hdL)) ?_
  refine ag ?_
  refine az rfl (fun hb3=>?_) (fun hb3=>?_)
  ·have hc1:Int.gcd V (2*d)=1:=Mo ‹decide (((Int.gcd V (2*d):Nat):Int)=1)=true›
   have p01:=IZ hg hd0 hVr hc1
   have cAt:=hat0 V hVL p01.1 p01.2
   have hfin:=hmap V hVr hc1
   refine ae hP<|ak rfl<|av hT rfl<|ab (ah cAt) ?_
   refine aj rfl<|aj rfl<|ag<|am<|E11 rfl rfl rfl ?_
   exact aH (by rw [hfin,he])
  have hc1:Int.gcd V (2*d)≠1:=Mp ‹decide (((Int.gcd V (2*d):Nat):Int)=1)=false›
  refine au<|aw hP<|ak rfl<|bv rfl rfl ?_
  refine aj rfl<|ag ?_
  refine ⟨x+1,⟨by omega,hVn hc1⟩,by omega,aD ⟨.refl _,.refl _,.refl _,.refl _,trivial⟩ ⟨rfl,trivial⟩⟩
 have hb2_:=dF0 hb2
 refine aZ<|aw hP<|ak rfl<|bv rfl rfl ?_
 refine aj rfl<|ag ?_
 refine ⟨s+1,⟨by omega,hs2.next hx2 ‹¬ x≤s›⟩,by omega,aD ⟨.refl _,.refl _,.refl _,trivial⟩ ⟨rfl,trivial⟩⟩
end
section
open Go Go.AM
theorem mL (D:Int) (m:Nat) (hD:-4194304≤D∧D < 0) (hm:1≤m∧m≤65536) :
  aJ Tryz.prog 88 [I D,Z (m:Int)] (.p (.c (SL enI (rbL D (m:Int))))):=by
 have iD:LB D 6:=⟨by unfold L;omega⟩
 have i4:LB (4*(m:Int)) 6:=⟨by unfold L;omega⟩
 have im:LB (m:Int) 6:=⟨by unfold L;omega⟩
 refine aO Tryz.func88 rfl rfl rfl rfl ?_
 refine ae hP<|aq ai (aL rfl rfl)<|aj rfl<|ag<|ae hP<|aq ai (dB hT rfl rfl rfl (es:=[]) rfl rfl rfl) ?_
 refine ab (a7 (rfl:_=AV.vec _))<|ag<|cr 9 1000 rfl rfl rfl ?_
 refine ae hP<|ak rfl<|ab (bQ rfl rfl (by first | exact iW0 _ (by omega) | rfl)) ?_
 refine ab (ah (cg (4*(m:Int)) (by unfold bp;omega))) ?_
 refine aq ai (aC hT rfl rfl)<|aI hT rfl<|ag<|ao<|ae hP<|aj rfl<|ag<|aA<|bg (ι:=Nat) (fun i=>stL [(1,Z (m:Int)),(2,.loc 2 0),(5,.vec 1000),(6,.loc 6 0),(7,Z (i:Int))] [(2,⟨false,1,29,[zn D,zm D]⟩),(6,⟨false,1,29,[zn (4*(m:Int)),zm (4*(m:Int))]⟩),(1000,VB 2 29 enI (rbT D m i))]) (fun i=>(i:Int)≤2*(m:Int)) (fun i=>(2*m) - i) 0 (by omega) (aD ⟨.refl _,.refl _,.refl _,.refl _,.refl _,trivial⟩ ⟨rfl,rfl,rfl,trivial⟩) ?_
 intro i hi
 refine ao<|ae hP<|ak rfl<|ak rfl<|ab (bQ rfl rfl (by first | exact iW0 _ (by omega) | rfl)) ?_
 refine ab (bi rfl rfl)<|ag ?_
 refine az rfl (fun hb1=>?_) (fun hb1=>?_)
 ·have hb1_:=dT0 hb1
  have hsq:=ki (x:=(i:Int)) (m:=131073) (by omega)
  have isq:LB ((i:Int)*(i:Int)) 6:=⟨by unfold L;omega⟩
  have ii:LB (i:Int) 6:=⟨by unfold L;omega⟩
  refine au<|ao<|aA<|ae hP<|ak rfl<|ab (ah (cg (i:Int) (by unfold bp;omega))) ?_
  refine aq ai (aC hT rfl rfl)<|aI hT rfl<|ag<|ae hP<|av hT rfl<|av hT rfl<|ab (ah (dY (i:Int) (i:Int) lz lz)) ?_
  refine av hT rfl<|ab (ah (pG ((i:Int)*(i:Int)) D lz lz)) ?_
  refine av hT rfl<|ab (ah (kF ((i:Int)*(i:Int) - D) (4*(m:Int)) lz lz (by omega))) ?_
  refine ab (ah (eF _)) ?_
  refine ab (bh rfl rfl)<|ak rfl ?_
  refine aW (t:=30) rfl (fun hg2=>?_) (fun hg2=>?_)
  ·have hg2_:=bT hg2
   have hmd:=(wQ hm.1).1 (sgn_0.1 hg2)
   refine ay hg2 (aF hT rfl rfl rfl rfl (cs:=[_,_]) rfl rfl) ?_
   refine ay hg2 (aB (rfl:_=AV.p (.c _))) ?_
   refine ay hg2 (aF hT rfl rfl rfl rfl (cs:=[_,_]) rfl rfl) ?_
   refine ay hg2 (ah (pL D m (i:Int) hD hm (by omega))) ?_
   refine ay hg2 (ah (kn (m:Int) (i:Int) (((i:Int)*(i:Int) - D) / (4*(m:Int))) lz lz lz)) ?_
   refine ab (aN rfl hg2 (rfl:_=AV.p (.c _)))<|ag ?_
   refine az rfl (fun hb3=>?_) (fun hb3=>?_)
   ·have hyes:=wM hmd hb3
    refine aw hP<|ab (aB (rfl:_=AV.vec _))<|av hT rfl<|ab (bd hT rfl rfl rfl (es:=[_,_]) rfl rfl rfl)<|RK.app ai (jY (encD:=enI) hT dj (by decide) rfl rfl rfl rfl rfl rfl rfl (b:=(i:Int)) rfl (by have:=FV (D:=D) (m:=m) (i:=i);omega) (by decide) (by decide)) ?_
    refine ab (a7 (rfl:_=AV.vec _))<|ag<|cr 40 1000 rfl rfl rfl ?_
    refine aw hP<|ak rfl<|bv rfl rfl ?_
    refine aj rfl<|ag ?_
    refine ⟨i+1,by omega,by omega,aD ⟨.refl _,.refl _,.refl _,.refl _,aM (by omega),trivial⟩ ⟨rfl,rfl,Eq.trans rfl (congrArg (fun l=>some (VB 2 29 enI l)) ((LO hyes).symm)),trivial⟩⟩
   have hno:isR D m i=false:=wO hb3
   refine au<|aw hP<|ak rfl<|bv rfl rfl ?_
   refine aj rfl<|ag ?_
   refine ⟨i+1,by omega,by omega,aD ⟨.refl _,.refl _,.refl _,.refl _,aM (by omega),trivial⟩ ⟨rfl,rfl,Eq.trans rfl (congrArg (fun l=>some (VB 2 29 enI l)) ((D5 hno).symm)),trivial⟩⟩
  have hg2_:=bF hg2
  have hno:isR D m i=false:=wP (fun e=>Bool.false_ne_true (hg2.symm.trans (sgn_0.2 ((wQ hm.1).2 e))))
  iterate 5 refine aX hg2 ?_
  refine ab (aK rfl hg2 (rfl:_=AV.p (.c _)))<|ag<|aQ rfl rfl<|au<|aw hP<|ak rfl<|bv rfl rfl ?_
  refine aj rfl<|ag ?_
  refine ⟨i+1,by omega,by omega,aD ⟨.refl _,.refl _,.refl _,.refl _,aM (by omega),trivial⟩ ⟨rfl,rfl,Eq.trans rfl (congrArg (fun l=>some (VB 2 29 enI l)) ((D5 hno).symm)),trivial⟩⟩
 have hb1_:=dF0 hb1
 refine aZ<|fi (encD:=enI) dj rfl (t:=5) rfl rfl ?_
 refine ae hP<|ak rfl<|aj rfl<|ag<|am<|E1 rfl rfl ?_
 exact aH (by rw [FX (by omega)])
theorem xL (f:Fm) (n x y:Int) (hfa:L 30 f.a) (hfb:L 30 f.b) (hfc:L 30 f.c) (hn:bp n) (hx:L 30 x) (hy:L 30 y) :
  aJ Tryz.prog 92 [FA f.a f.b f.c,Z n,I x,I y] (B (iJ f n (x,y))):=by
 have fa:LB f.a 30:=⟨hfa⟩
 have fb:LB f.b 30:=⟨hfb⟩
 have fc:LB f.c 30:=⟨hfc⟩
 have ix:LB x 30:=⟨hx⟩
 have iy:LB y 30:=⟨hy⟩
 refine aO Tryz.func92 rfl rfl rfl rfl ?_
 refine ae hP<|aq ai (aL rfl rfl)<|aq ai (aL rfl rfl)<|aq ai (aL rfl rfl)<|aj rfl<|ag<|ae hP<|av hT rfl<|av hT rfl<|ab (ah (pH x y lz lz)) ?_
 refine ab (ah (cg 1 (by decide))) ?_
 refine ab (ah (dI _ _)) ?_
 refine ak rfl ?_
 refine aW (t:=14) rfl (fun hg1=>?_) (fun hg1=>?_)
 ·refine ay hg1 (aF hT rfl rfl rfl rfl (cs:=[_,_,_,_,_,_]) rfl rfl) ?_
  refine ay hg1 (aF hT rfl rfl rfl rfl (cs:=[_,_]) rfl rfl) ?_
  refine ay hg1 (aF hT rfl rfl rfl rfl (cs:=[_,_]) rfl rfl) ?_
  refine ay hg1 (ah (lV f.a f.b f.c x y lz lz lz lz lz)) ?_
  refine ay hg1 (aB (rfl:_=AV.p (.c _))) ?_
  refine ay hg1 (ah (cg n hn)) ?_
  refine ay hg1 (ah (dI _ _)) ?_
  refine ab (aN rfl hg1 (rfl:_=AV.p (.c _)))<|aj rfl<|ag<|am<|E1 rfl rfl ?_
  exact aT (Ng hg1)
 iterate 7 refine aX hg1 ?_
 refine ab (aK rfl hg1 (rfl:_=AV.p (.c _)))<|aj rfl<|ag<|am<|E1 rfl rfl ?_
 exact aT (Nh hg1)
theorem tC (m p:Nat) (hn:1≤m∧m≤65536) (hp:2≤p) :
  aJ Tryz.prog 157 [Z (m:Int),Z (p:Int)] (Z (((ptN p m).2:Nat):Int)):=by
 refine aO Tryz.func157 rfl rfl rfl rfl ?_
 refine ae hP<|aj rfl<|ag<|ae hP<|aj rfl<|ag<|ao<|aA<|bg (ι:=Nat × Nat) (fun q=>stL [(0,Z ((q.1:Nat):Int)),(1,Z (p:Int)),(5,Z ((q.2:Nat):Int))] []) (fun q=>PtI p m q.1 q.2) (fun q=>q.1) (m,1) (PtI.start (by omega)) (aD ⟨.refl _,.refl _,.refl _,trivial⟩ trivial) ?_
 intro q hq
 obtain ⟨b1,b2,b3,b4⟩:=hq.b
 refine ao<|ae hP<|ak rfl<|ak rfl<|ab (bJ rfl rfl (by omega) (c:=((q.1 % p:Nat):Int)) I7) ?_
 refine ab (bh rfl rfl)<|ag ?_
 refine az rfl (fun hb1=>?_) (fun hb1=>?_)
 ·have hb1_:=bT hb1
  have hnx:=hq.next hp (by omega)
  have hqp:q.2*p≤1000000000:=by have:=hnx.2.2;omega
  refine au<|aA<|ae hP<|ak rfl<|ak rfl<|ab (cO rfl rfl (by omega) (c:=((q.1 / p:Nat):Int)) (Jr (by omega) (by omega))) ?_
  refine aj rfl<|ag<|aw hP<|ak rfl<|ak rfl<|ab (bQ rfl rfl (c:=((q.2*p:Nat):Int)) (Cd hqp)) ?_
  refine aj rfl<|ag ?_
  refine ⟨(q.1 / p,q.2*p),hnx.1,hnx.2.1,aD ⟨.refl _,.refl _,.refl _,trivial⟩ trivial⟩
 have hb1_:=bF hb1
 have hpt:=hq.done (by omega)
 refine aZ<|ae hP<|ak rfl<|aj rfl<|ag<|am<|E1 rfl rfl ?_
 exact aM (by rw [hpt.2])
theorem vu (D:Int) (x:Int) (hD:L 30 D) (hx:bp x) :
  aJ Tryz.prog 160 [I D,Z x] (B (decide (Int.gcd (2*D) x=1))):=by
 have iD:LB D 30:=⟨hD⟩
 have ix:LB x 6:=⟨by unfold bp at hx;unfold L;omega⟩
 refine aO Tryz.func160 rfl rfl rfl rfl ?_
 refine ae hP<|aq ai (aL rfl rfl)<|aj rfl<|ag<|ae hP<|ab (ah (cg 2 (by decide))) ?_
 refine av hT rfl<|ab (ah (dY 2 D lz lz)) ?_
 refine ak rfl<|ab (ah (cg x hx)) ?_
 refine ab (ah (pH (2*D) x lz lz)) ?_
 refine ab (ah (cg 1 (by decide))) ?_
 refine ab (ah (dI _ _)) ?_
 refine aj rfl<|ag<|am<|E1 rfl rfl ?_
 exact aT Hv
theorem vw (f:Fm) (D:Int) (m:Nat) (hfa:L 6 f.a) (hfb:L 6 f.b) (hfc:L 6 f.c) (hf:Cl D f) (hD:-4194304≤D∧D < 0) (hm:1≤m∧m≤65536) (hE:szE D=0) :
  aJ Tryz.prog 97 [FA f.a f.b f.c,Z (m:Int)] (.p (.c (SL enI (agL D m f)))):=by
 have fa:LB f.a 6:=⟨hfa⟩
 have fb:LB f.b 6:=⟨hfb⟩
 have fc:LB f.c 6:=⟨hfc⟩
 have iD:LB D 6:=⟨by unfold L;omega⟩
 have im:LB (m:Int) 6:=⟨by unfold L;omega⟩
 have hdf:dsc f.a f.b f.c=D:=hf.disc
 have jm:bp (m:Int):=by unfold bp;omega
 have cDs:aJ Tryz.prog 24 [FA f.a f.b f.c] (I D):=by rw [← hdf];exact jf f.a f.b f.c lz lz lz
 have cCh:aJ Tryz.prog 158 [I D] (.t [.c (IS (chs D)),PE 0]):=by
  have h:=qv D lz
  rwa [sN hE,hE] at h
 have cVa:aJ Tryz.prog 159 [FA f.a f.b f.c] (.t [.c (IS (gvL f)),PE 0]):=by
  have h:=xM f hfa hfb hfc
  rwa [p9 hf hD.1 hE] at h
 have hln:=uy hf hD.1 hE
 have hcb:=fun c hc=>qa (c:=c) hD.2 hD.1 hc
 have hck:=fun c hc=>uZ (c:=c) hD.2 hc
 have hlc:=ke hD.2 hD.1
 have hyy:=fun (k:Nat) (hk:k < (chs D).length) (hne)=>MN (n:=(m:Int)) (f:=f) hln hk hne
 have hnn:=fun (k:Nat) (hk:k < (chs D).length) (he)=>MO (n:=(m:Int)) (f:=f) hln hk he
 have hall:=fun (h:Int.gcd (2*D) m=1) (k:Nat) (hk:(chs D).length≤k)=>HM (f:=f) h hln hk
 have hkl:=fun k=>HL (D:=D) (f:=f) (n:=(m:Int)) (k:=k)
 have hk0:agK D f m 0=[]:=MP
 generalize chs D=ls at *
 generalize gvL f=vs at *
 generalize agK D f m=K at *
 refine aO Tryz.func97 rfl rfl rfl rfl ?_
 refine ae hP<|aq ai (aL rfl rfl)<|aj rfl<|ag<|ae hP<|br hT rfl rfl rfl rfl rfl rfl<|ab (ah cDs) ?_
 refine aq ai (dB hT rfl rfl rfl (es:=[]) rfl rfl rfl) ?_
 refine aq ai (aC hT rfl rfl)<|aI hT rfl<|ab (a7 (rfl:_=AV.vec _))<|ag<|ae hP<|av hT rfl<|ab (ah cCh) ?_
 refine ab (aB (rfl:_=AV.t _))<|ab (aE rfl (v:=.c _) rfl)<|ab (aE rfl (v:=.c _) rfl)<|aj rfl<|aj rfl<|ag<|ae hP<|br hT rfl rfl rfl rfl rfl rfl<|ab (ah cVa) ?_
 refine ab (aB (rfl:_=AV.t _))<|ab (aE rfl (v:=.c _) rfl)<|ab (aE rfl (v:=.c _) rfl)<|aj rfl<|aj rfl<|ag<|ao<|ae hP<|av hT rfl<|ak rfl<|ab (ah (vu D (m:Int) lz jm)) ?_
 refine ab (bt rfl)<|ak rfl ?_
 refine aW (t:=29) rfl (fun hg1=>?_) (fun hg1=>?_)
 ·have hg1_:=(bX hg1)
  have hnc:=dF0 (bX hg1)
  refine aX hg1 ?_
  refine aX hg1 ?_
  refine ab (aN rfl hg1 (rfl:_=AV.p (.c _)))<|ak rfl<|aX rfl ?_
  refine aX rfl ?_
  refine ab (aN rfl rfl (rfl:_=AV.p (.c _)))<|ag<|aV rfl rfl<|fi (encD:=enI) (l:=[]) dj rfl (t:=6) rfl rfl ?_
  refine ae hP<|ak rfl<|aj rfl<|ag<|am<|E1 rfl rfl ?_
  exact aH (by rw [ED hnc])
 have hg1_:=(bU hg1)
 have hgc:=dT0 (bU hg1)
 have hmo:(m:Int) % 2=1:=uE hgc
 refine ay hg1 (aB (rfl:_=AV.p (.c _))) ?_
 refine ay hg1 (bq rfl rfl) ?_
 refine ab (aK rfl hg1 (rfl:_=AV.p (.c _)))<|ak rfl<|ay rfl (aB (rfl:_=AV.p (.c _))) ?_
 refine ay rfl (bq rfl rfl) ?_
 refine ab (aK rfl rfl (rfl:_=AV.p (.c _)))<|ag<|aQ rfl rfl<|au<|cr 14 1000 rfl rfl rfl ?_
 refine ao<|ae hP<|aj rfl<|ag<|aA<|bg (ι:=Nat) (fun k=>stL [(1,Z (m:Int)),(6,.vec 1000),(7,.p (.c (IS ls))),(9,.p (.c (IS vs))),(11,Z (k:Int))] [(1000,VB 2 29 enI (K k))]) (fun k=>k≤ls.length) (fun k=>ls.length - k) 0 (Nat.zero_le _) (aD ⟨.refl _,.refl _,.refl _,.refl _,.refl _,trivial⟩ ⟨Eq.trans rfl (congrArg (fun l=>some (VB 2 29 enI l)) (hk0.symm)),trivial⟩) ?_
 intro k hk
 refine ao<|ae hP<|ak rfl<|ak rfl<|ab (aU hT rfl rfl rfl (by rfl)) ?_
 refine ab (bi rfl rfl)<|ag ?_
 refine az rfl (fun hb3=>?_) (fun hb3=>?_)
 ·have hb3_:=dT0 hb3
  have hcm:=jK (l:=ls) (k:=k) (by omega)
  refine au<|ao<|aA<|ae hP<|ak rfl<|ak rfl<|ab (fW hT (n:=(k:Int)) (l:=ls) rfl rfl rfl rfl rfl rfl (by omega)) ?_
  refine ab (bI hT rfl rfl rfl (dv:=.v (.int .i64 (ls.getD k 0))) rfl) ?_
  refine ak rfl<|ab (ah (cg (m:Int) jm)) ?_
  refine ab (ah (rA (ls.getD k 0) (m:Int) (hck _ hcm) (hcb _ hcm) lz (by omega) hmo)) ?_
  refine ak rfl<|ak rfl<|ab (fW hT (n:=(k:Int)) (l:=vs) rfl rfl rfl rfl rfl rfl (by omega)) ?_
  refine ab (bI hT rfl rfl rfl (dv:=.v (.int .i64 (vs.getD k 0))) rfl) ?_
  refine ab (bq rfl rfl)<|ag ?_
  refine az rfl (fun hb4=>?_) (fun hb4=>?_)
  ·have hb4_:=bY hb4
   have hne:=bY hb4
   refine aw hP<|ab (aB (rfl:_=AV.vec _))<|ak rfl<|ak rfl<|ab (fW hT (n:=(k:Int)) (l:=ls) rfl rfl rfl rfl rfl rfl (by omega)) ?_
   refine ab (bI hT rfl rfl rfl (dv:=.v (.int .i64 (ls.getD k 0))) rfl) ?_
   refine ab (ah (cg (ls.getD k 0) (by have:=hcb _ hcm;unfold bp;omega))) ?_
   refine ab (bd hT rfl rfl rfl (es:=[_,_]) rfl rfl rfl)<|RK.app ai (jY (encD:=enI) hT dj (by decide) rfl rfl rfl rfl rfl rfl rfl (b:=ls.getD k 0) rfl (by have:=hkl k;omega) (by decide) (by decide)) ?_
   refine ab (a7 (rfl:_=AV.vec _))<|ag<|cr 63 1000 rfl rfl rfl ?_
   refine aw hP<|ak rfl<|bv rfl rfl ?_
   refine aj rfl<|ag ?_
   refine ⟨k+1,by omega,by omega,aD ⟨.refl _,.refl _,.refl _,.refl _,aM (by omega),trivial⟩ ⟨Eq.trans rfl (congrArg (fun l=>some (VB 2 29 enI l)) ((hyy k (by omega) hne).symm)),trivial⟩⟩
  have hb4_:=bS hb4
  have heq:=bS hb4
  refine au<|aw hP<|ak rfl<|bv rfl rfl ?_
  refine aj rfl<|ag ?_
  refine ⟨k+1,by omega,by omega,aD ⟨.refl _,.refl _,.refl _,.refl _,aM (by omega),trivial⟩ ⟨Eq.trans rfl (congrArg (fun l=>some (VB 2 29 enI l)) ((hnn k (by omega) heq).symm)),trivial⟩⟩
 have hb3_:=dF0 hb3
 refine aZ<|fi (encD:=enI) dj rfl (t:=6) rfl rfl ?_
 refine ae hP<|ak rfl<|aj rfl<|ag<|am<|E1 rfl rfl ?_
 exact aH (by rw [hall hgc k (by omega)])
theorem vv (D:Int) (m:Nat) (hD:-4194304≤D∧D < 0) (hm:1≤m∧m≤65536) :
  aJ Tryz.prog 98 [I D,Z (m:Int),.p (.c (SL enI (rbL D (m:Int))))] (.p (.c (FS (fmL D (m:Int))))):=by
 have hrl:=ll D m hm.2
 have hcB:∀ b∈rbL D m,aJ Tryz.prog 42 [I D,Z (m:Int),I b] (FA (m:Int) b ((b*b - D) / (4*(m:Int))))∧aJ Tryz.prog 105 [FA (m:Int) b ((b*b - D) / (4*(m:Int)))] (FA (frq D m b).rd.a (frq D m b).rd.b (frq D m b).rd.c):=fun b hb=>by
  have hb2:=(rbL_mem.1 hb)
  have hsq:=ki (x:=b) (m:=131073) (by omega)
  have iD:LB D 6:=⟨by unfold L;omega⟩
  have ib:LB b 6:=⟨by unfold L;omega⟩
  have im:LB (m:Int) 6:=⟨by unfold L;omega⟩
  have i4:LB (4*(m:Int)) 6:=⟨by unfold L;omega⟩
  have isq:LB (b*b) 6:=⟨by unfold L;omega⟩
  exact ⟨pL D m b hD hm (by omega),pJ (m:Int) b ((b*b - D) / (4*(m:Int))) lz lz lz⟩
 have hks:=fun k (hk:k < (rbL D m).length)=>Mu hk
 have hka:=fun k (hk:(rbL D m).length≤k)=>Hk hk
 have hkl:∀ k,((fmL D m).take k).length≤131072:=fun k=>by have:=uI D m hm.2;rw [List.length_take];omega
 have hk0:(fmL D m).take 0=[]:=rfl
 generalize rbL D m=rl at *
 generalize hK:(fun k=>(fmL D m).take k)=K
 have hK':∀ k,(fmL D m).take k=K k:=fun k=>by rw [← hK]
 simp only [hK'] at hks hka hkl hk0
 refine aO Tryz.func98 rfl rfl rfl rfl ?_
 refine ae hP<|aq ai (aL rfl rfl)<|aj rfl<|ag<|ae hP<|aq ai (dB hT rfl rfl rfl (es:=[]) rfl rfl rfl) ?_
 refine ab (a7 (rfl:_=AV.vec _))<|ag<|cr 9 1000 rfl rfl rfl ?_
 refine ao<|ae hP<|aj rfl<|ag<|aA<|bg (ι:=Nat) (fun k=>stL [(1,Z (m:Int)),(2,.p (.c (SL enI rl))),(3,.loc 3 0),(7,.vec 1000),(8,Z (k:Int))] [(3,⟨false,1,29,[zn D,zm D]⟩),(1000,FB 46 (K k))]) (fun k=>k≤rl.length) (fun k=>rl.length - k) 0 (Nat.zero_le _) (aD ⟨.refl _,.refl _,.refl _,.refl _,.refl _,trivial⟩ ⟨rfl,Eq.trans rfl (congrArg (fun l=>some (FB 46 l)) (hk0.symm)),trivial⟩) ?_
 intro k hk
 refine ao<|ae hP<|ak rfl<|ak rfl<|ab (aU hT rfl rfl rfl (by rfl)) ?_
 refine ab (bi rfl rfl)<|ag ?_
 refine az rfl (fun hb1=>?_) (fun hb1=>?_)
 ·have hb1_:=dT0 hb1
  have hbm:=jK (l:=rl) (k:=k) (by omega)
  refine au<|ao<|aA<|aw hP<|ab (aB (rfl:_=AV.vec _))<|av hT rfl<|ak rfl<|ak rfl<|ak rfl<|ab (b5 hT dj (by decide) 0 (n:=(k:Int)) (l:=rl) rfl rfl rfl rfl rfl rfl (by omega)) ?_
  refine ab (bf hT rfl rfl rfl (cs:=enI (rl.getD k 0)) rfl rfl) ?_
  refine ab (ah (hcB _ hbm).1) ?_
  refine ab (ah (hcB _ hbm).2) ?_
  refine ab (bd hT rfl rfl rfl (es:=[_,_,_,_,_,_]) rfl rfl rfl)<|RK.app ai (l7 hT rfl rfl rfl rfl rfl rfl rfl (f:=(frq D m (rl.getD k 0)).rd) rfl (by have:=hkl k;omega) (by decide)) ?_
  refine ab (a7 (rfl:_=AV.vec _))<|ag<|cr 26 1000 rfl rfl rfl ?_
  refine aw hP<|ak rfl<|bv rfl rfl ?_
  refine aj rfl<|ag ?_
  refine ⟨k+1,by omega,by omega,aD ⟨.refl _,.refl _,.refl _,.refl _,aM (by omega),trivial⟩ ⟨rfl,Eq.trans rfl (congrArg (fun l=>some (FB 46 l)) ((hks k (by omega)).symm)),trivial⟩⟩
 have hb1_:=dF0 hb1
 refine aZ<|k9 (t:=7) rfl rfl ?_
 refine ae hP<|ak rfl<|aj rfl<|ag<|am<|E1 rfl rfl ?_
 exact aH (by rw [hka k (by omega)])
end
section
open Go Go.AM
end
section
open Go Go.AM
end
section
open Go Go.AM
end
section
open Go Go.AM
theorem oj (a:RA) (hlr:a.roots.length≤100000) (hlf:a.forms.length≤100000) :
  aJ Tryz.prog 35 [.p (.a (raS a))] (.p (.c (SL rC a.nums))):=by
 refine aO Tryz.func35 rfl rfl rfl rfl ?_
 refine ae hP<|aq ai (aL rfl rfl)<|aj rfl<|ag<|ae hP<|aG hT rfl<|av hT rfl<|aG hT rfl<|av hT rfl<|aG hT rfl<|av hT rfl<|aq ai (dB hT rfl rfl rfl (es:=[_,_,_,_,_,_]) rfl rfl rfl) ?_
 refine aG hT rfl<|a8 hT rfl rfl rfl rfl ?_
 refine RK.app ai (eY hT rfl rfl rfl rfl rfl rfl rfl rfl rfl rfl (dC iH _) rfl (by show 32*(6+a.roots.length*2)≤_;omega) rfl (by decide)) ?_
 refine ab (a7 (rfl:_=AV.vec _))<|ag<|cr 14 1000 rfl rfl rfl ?_
 refine ao<|ae hP<|aj rfl<|ag<|aA<|bg (ι:=Nat) (fun k=>stL [(1,.loc 1 0),(3,.vec 1000),(4,Z (k:Int))] [(1,⟨false,1,42,raS a⟩),(1000,VB 2 29 rC (eR a k))]) (fun k=>k≤a.forms.length) (fun k=>a.forms.length - k) 0 (Nat.zero_le _) (aD ⟨.refl _,.refl _,.refl _,trivial⟩ ⟨rfl,Eq.trans rfl (congrArg (fun cs=>some (⟨true,2,29,cs⟩:Blk)) (zI a)),trivial⟩) ?_
 intro k hk
 refine ao<|ae hP<|ak rfl<|aG hT rfl<|a8 hT rfl rfl rfl rfl ?_
 refine ab (aU hT rfl rfl rfl (by rfl)) ?_
 refine ab (bi rfl rfl)<|ag ?_
 refine az rfl (fun hb1=>?_) (fun hb1=>?_)
 ·have hb1_:=dT0 hb1
  have hfk:=gR (l:=a.forms) (k:=k) (by omega) ((false,[]),(false,[]),(false,[]))
  refine au<|ao<|aA<|aw hP<|ab (aB (rfl:_=AV.vec _))<|aG hT rfl<|a8 hT rfl rfl rfl rfl ?_
  refine ak rfl<|ab (b5 hT nG (by decide) ((false,[]),(false,[]),(false,[])) (n:=(k:Int)) (l:=a.forms) rfl rfl rfl rfl rfl rfl (by omega)) ?_
  refine ab (fJ hT rfl rfl rfl rfl rfl rfl)<|ab (bf hT rfl rfl rfl (cs:=rC ((a.forms.getD k ((false,[]),(false,[]),(false,[]))).1)) rfl rfl) ?_
  refine aG hT rfl<|a8 hT rfl rfl rfl rfl ?_
  refine ak rfl<|ab (b5 hT nG (by decide) ((false,[]),(false,[]),(false,[])) (n:=(k:Int)) (l:=a.forms) rfl rfl rfl rfl rfl rfl (by omega)) ?_
  refine ab (fJ hT rfl rfl rfl rfl rfl rfl)<|ab (bf hT rfl rfl rfl (cs:=rC ((a.forms.getD k ((false,[]),(false,[]),(false,[]))).2.1)) rfl rfl) ?_
  refine aG hT rfl<|a8 hT rfl rfl rfl rfl ?_
  refine ak rfl<|ab (b5 hT nG (by decide) ((false,[]),(false,[]),(false,[])) (n:=(k:Int)) (l:=a.forms) rfl rfl rfl rfl rfl rfl (by omega)) ?_
  refine ab (fJ hT rfl rfl rfl rfl rfl rfl)<|ab (bf hT rfl rfl rfl (cs:=rC ((a.forms.getD k ((false,[]),(false,[]),(false,[]))).2.2)) rfl rfl) ?_
  refine ab (bd hT rfl rfl rfl (es:=[_,_,_,_,_,_]) rfl rfl rfl)<|RK.app ai (eY hT rfl rfl rfl rfl rfl rfl rfl rfl rfl rfl rfl rfl (by show 32*(((eR a k).flatMap rC).length+3*2)≤_;rw [dC iH];have:=l8 (a:=a) (k:=k);omega) rfl (by decide)) ?_
  refine ab (a7 (rfl:_=AV.vec _))<|ag<|cr 42 1000 rfl rfl rfl ?_
  refine aw hP<|ak rfl<|bv rfl rfl ?_
  refine aj rfl<|ag ?_
  refine ⟨k+1,by omega,by omega,aD ⟨.refl _,.refl _,aM (by omega),trivial⟩ ⟨rfl,Eq.trans rfl (congrArg (fun cs=>some (⟨true,2,29,cs⟩:Blk)) (zH hfk)),trivial⟩⟩
 have hb1_:=dF0 hb1
 have hnk:=oR (a:=a) (k:=k) (by omega)
 refine aZ<|fi (encD:=rC) iH rfl (t:=3) rfl rfl ?_
 refine ae hP<|ak rfl<|aj rfl<|ag<|am<|E1 rfl rfl ?_
 exact aH (by rw [hnk])
theorem tD (l:List Int) (hl:l.length≤1000000000) :
  aJ Tryz.prog 103 [.p (.c (SL enI l))] (B (al0 l)):=by
 refine aO Tryz.func103 rfl rfl rfl rfl ?_
 refine ae hP<|aj rfl<|ag<|ao<|ae hP<|aj rfl<|ag<|aA<|bg (ι:=Nat) (fun k=>stL [(0,.p (.c (SL enI l))),(3,Z (k:Int))] []) (fun k=>k≤l.length∧∀ z∈l.take k,z=0) (fun k=>l.length - k) 0 ⟨Nat.zero_le _,xj⟩ (aD ⟨.refl _,.refl _,trivial⟩ trivial) ?_
 rintro k ⟨hk,hI⟩
 refine ao<|ae hP<|ak rfl<|ak rfl<|ab (aU hT rfl rfl rfl (by rfl)) ?_
 refine ab (bi rfl rfl)<|ag ?_
 refine az rfl (fun hb1=>?_) (fun hb1=>?_)
 ·have hb1_:=dT0 hb1
  refine au<|ao<|aA<|ae hP<|ak rfl<|ak rfl<|ab (b5 hT dj (by decide) 0 (n:=(k:Int)) (l:=l) rfl rfl rfl rfl rfl rfl (by omega)) ?_
  refine ab (bf hT rfl rfl rfl (cs:=enI (l.getD k 0)) rfl rfl) ?_
  refine ab (ah (eF _)) ?_
  refine ab (bq rfl rfl)<|ag ?_
  refine az rfl (fun hb2=>?_) (fun hb2=>?_)
  ·have hb2_:=bY hb2
   have hne:¬ l.getD k 0=0:=fun z=>bY hb2 (sgn_zero_iff.2 z)
   refine ae hP<|aj rfl<|ag<|am<|E1 rfl rfl ?_
   exact aT (KU (by omega) hne)
  have hb2_:=bS hb2
  have heq:l.getD k 0=0:=sgn_zero_iff.1 (bS hb2)
  refine au<|aw hP<|ak rfl<|bv rfl rfl ?_
  refine aj rfl<|ag ?_
  refine ⟨k+1,⟨by omega,nC (p:=fun z=>z=0) (d:=0) hI (by omega) heq⟩,by omega,aD ⟨.refl _,aM (by omega),trivial⟩ trivial⟩
 have hb1_:=dF0 hb1
 refine aZ<|ae hP<|aj rfl<|ag<|am<|E1 rfl rfl ?_
 exact aT (HI (by omega) hI)
theorem Gg (l:List Int) (x:Int) (hl:l.length≤1000000000) :
  aJ Tryz.prog 168 [.p (.c (SL enI l)),I x] (B (decide (x∈l))):=by
 refine aO Tryz.func168 rfl rfl rfl rfl ?_
 refine ae hP<|aq ai (aL rfl rfl)<|aj rfl<|ag<|ao<|ae hP<|aj rfl<|ag<|aA<|bg (ι:=Nat) (fun k=>stL [(0,.p (.c (SL enI l))),(3,.loc 3 0),(5,Z (k:Int))] [(3,⟨false,1,29,[zn x,zm x]⟩)]) (fun k=>k≤l.length∧∀ z∈l.take k,¬ z=x) (fun k=>l.length - k) 0 ⟨Nat.zero_le _,xj⟩ (aD ⟨.refl _,.refl _,.refl _,trivial⟩ ⟨rfl,trivial⟩) ?_
 rintro k ⟨hk,hI⟩
 refine ao<|ae hP<|ak rfl<|ak rfl<|ab (aU hT rfl rfl rfl (by rfl)) ?_
 refine ab (bi rfl rfl)<|ag ?_
 refine az rfl (fun hb1=>?_) (fun hb1=>?_)
 ·have hb1_:=dT0 hb1
  refine au<|ao<|aA<|ae hP<|ak rfl<|ak rfl<|ab (b5 hT dj (by decide) 0 (n:=(k:Int)) (l:=l) rfl rfl rfl rfl rfl rfl (by omega)) ?_
  refine ab (bf hT rfl rfl rfl (cs:=enI (l.getD k 0)) rfl rfl) ?_
  refine av hT rfl<|ab (ah (dI _ _)) ?_
  refine ag ?_
  refine az rfl (fun hb2=>?_) (fun hb2=>?_)
  ·have heq:=dT0 hb2
   refine ae hP<|aj rfl<|ag<|am<|E1 rfl rfl ?_
   exact aT (Mk (by omega) heq)
  have hne:=dF0 hb2
  refine au<|aw hP<|ak rfl<|bv rfl rfl ?_
  refine aj rfl<|ag ?_
  refine ⟨k+1,⟨by omega,nC (p:=fun z=>¬ z=x) (d:=0) hI (by omega) hne⟩,by omega,aD ⟨.refl _,.refl _,aM (by omega),trivial⟩ ⟨rfl,trivial⟩⟩
 have hb1_:=dF0 hb1
 refine aZ<|ae hP<|aj rfl<|ag<|am<|E1 rfl rfl ?_
 exact aT (Ml (by omega) hI)
theorem zu (f:Fm) (D:Int) (m:Nat) (hfa:L 6 f.a) (hfb:L 6 f.b) (hfc:L 6 f.c) (hf:Cl D f) (hD:-4194304≤D∧D < 0) (hm:1≤m∧m≤65536) (hE:szE D=0) (z:Int) :
  aJ Tryz.prog 104 [FA f.a f.b f.c,Z (m:Int),I z] (B (eQ D m f z)):=by
 have fa:LB f.a 6:=⟨hfa⟩
 have fb:LB f.b 6:=⟨hfb⟩
 have fc:LB f.c 6:=⟨hfc⟩
 have hdf:dsc f.a f.b f.c=D:=hf.disc
 have cDs:aJ Tryz.prog 24 [FA f.a f.b f.c] (I D):=by rw [← hdf];exact jf f.a f.b f.c lz lz lz
 have cAg:=vw f D m hfa hfb hfc hf hD hm hE
 have hal:=KV (f:=f) (n:=(m:Int)) hD
 have gy:=fun h=>v6 (D:=D) (n:=m) (f:=f) (m:=z) h
 have gp:=fun p ha hp e=>Nw (D:=D) (m:=m) (f:=f) (z:=z) (p:=p) hm.1 ha hp e
 have gn:=fun p (h:LcI m z p) hp ha=>LcI.done (D:=D) (n:=m) (f:=f) h (by omega) hp ha
 generalize agL D m f=al at *
 generalize eQ D m f z=rr at *
 refine aO Tryz.func104 rfl rfl rfl rfl ?_
 refine ae hP<|aq ai (aL rfl rfl)<|aq ai (aL rfl rfl)<|aj rfl<|ag<|ao<|ae hP<|br hT rfl rfl rfl rfl rfl rfl<|ak rfl<|ab (ah cAg) ?_
 refine av hT rfl<|ab (ah (Gg al z (by omega))) ?_
 refine ag ?_
 refine az rfl (fun hb1=>?_) (fun hb1=>?_)
 ·have ha:=dT0 hb1
  refine ae hP<|aj rfl<|ag<|am<|E1 rfl rfl ?_
  exact aT (gy ha).symm
 have ha:=dF0 hb1
 refine au<|ao<|ae hP<|aj rfl<|ag<|aA<|bg (ι:=Nat) (fun p=>stL [(1,Z (m:Int)),(3,.loc 3 0),(5,.loc 5 0),(7,Z (p:Int))] [(3,⟨false,1,46,[zn f.a,zm f.a,zn f.b,zm f.b,zn f.c,zm f.c]⟩),(5,⟨false,1,29,[zn z,zm z]⟩)]) (fun p=>2≤p∧p≤m+2∧LcI m z p) (fun p=>m+2 - p) 2 ⟨by decide,by omega,LcI.start m z⟩ (aD ⟨.refl _,.refl _,.refl _,.refl _,trivial⟩ ⟨rfl,rfl,trivial⟩) ?_
 rintro p ⟨hp2,hp3,hL⟩
 refine ao<|ae hP<|ak rfl<|ak rfl<|ab (eX rfl rfl)<|ag ?_
 refine az rfl (fun hb2=>?_) (fun hb2=>?_)
 ·have hb2_:=dT0 hb2
  have hpm:p≤m:=by have:=dT0 hb2;omega
  refine au<|ao<|aA<|ae hP<|ak rfl<|ak rfl<|ab (bJ rfl rfl (by omega) (c:=(m:Int) % (p:Int)) (Int.tmod_eq_emod_of_nonneg (by omega))) ?_
  refine ab (bh rfl rfl)<|aj rfl<|ag<|ao<|ae hP<|aj rfl<|ag<|aA<|bg (ι:=Nat × Bool) (fun q=>stL [(1,Z (m:Int)),(3,.loc 3 0),(5,.loc 5 0),(7,Z (p:Int)),(8,B q.2),(9,Z ((q.1:Nat):Int))] [(3,⟨false,1,46,[zn f.a,zm f.a,zn f.b,zm f.b,zn f.c,zm f.c]⟩),(5,⟨false,1,29,[zn z,zm z]⟩)]) (fun q=>PrI m p q.1 q.2∧2≤q.1∧(q.1=2∨(q.1 - 1)*(q.1 - 1)≤p)) (fun q=>p+1 - q.1) (2,decide ((m:Int) % (p:Int)=0)) ⟨PrI.start m p,Nat.le_refl 2,.inl rfl⟩ (aD ⟨.refl _,.refl _,.refl _,.refl _,.refl _,.refl _,trivial⟩ ⟨rfl,rfl,trivial⟩) ?_
  rintro q ⟨hI,hj2,hj3⟩
  refine ao<|ae hP<|ak rfl<|ak rfl<|ab (bQ rfl rfl (c:=((q.1*q.1:Nat):Int)) (Cd (Nx (by omega) hj2 hj3))) ?_
  refine ak rfl<|ab (eX rfl rfl)<|ag ?_
  refine az rfl (fun hb3=>?_) (fun hb3=>?_)
  ·have hb3_:=dT0 hb3
   have hjj:q.1*q.1≤p:=by have:=dT0 hb3;omega
   have hjj2:(q.1+1 - 1)*(q.1+1 - 1)≤p:=by rw [Nat.add_sub_cancel];exact hjj
   have hjp:=Me hj2 hjj
   refine au<|ao<|aA<|aw hP<|ak rfl<|ak rfl ?_
   refine aW (t:=32) rfl (fun hg4=>?_) (fun hg4=>?_)
   ·have hb1:q.2=true:=hg4
    refine ay hg4 (aB (rfl:_=AV.p (.c _))) ?_
    refine ay hg4 (aB (rfl:_=AV.p (.c _))) ?_
    refine ay hg4 (bJ rfl rfl (by omega) (c:=(p:Int) % ((q.1:Nat):Int)) (Int.tmod_eq_emod_of_nonneg (by omega))) ?_
    refine ay hg4 (bq rfl rfl) ?_
    refine ab (aN rfl hg4 (rfl:_=AV.p (.c _)))<|aj rfl<|ag<|aw hP<|ak rfl<|bv rfl rfl ?_
    refine aj rfl<|ag ?_
    refine ⟨(q.1+1,((p:Int) % ((q.1:Nat):Int)) != 0),⟨hI.next hj2 (by rw [hb1];rfl),(by show 2≤q.1+1;omega),.inr hjj2⟩,(by show p+1 - (q.1+1) < p+1 - q.1;omega),aD ⟨.refl _,.refl _,.refl _,.refl _,.refl _,aM (by show ((q.1:Nat):Int)+1=((q.1+1:Nat):Int);omega),trivial⟩ ⟨rfl,rfl,trivial⟩⟩
   have hb1:q.2=false:=hg4
   iterate 4 refine aX hg4 ?_
   refine ab (aK rfl hg4 (rfl:_=AV.p (.c _)))<|aj rfl<|ag<|aw hP<|ak rfl<|bv rfl rfl ?_
   refine aj rfl<|ag ?_
   refine ⟨(q.1+1,false),⟨hI.next hj2 (by rw [hb1];rfl),(by show 2≤q.1+1;omega),.inr hjj2⟩,(by show p+1 - (q.1+1) < p+1 - q.1;omega),aD ⟨.refl _,.refl _,.refl _,.refl _,.refl _,aM (by show ((q.1:Nat):Int)+1=((q.1+1:Nat):Int);omega),trivial⟩ ⟨rfl,rfl,trivial⟩⟩
  have hb3_:=dF0 hb3
  have hjj:p < q.1*q.1:=by have:=dF0 hb3;omega
  have hpr:=hI.done hp2 hjj hj3
  refine aZ<|ae hP<|ak rfl<|ak rfl ?_
  refine aW (t:=39) rfl (fun hg5=>?_) (fun hg5=>?_)
  ·have hpp:=hpr.1 hg5
   refine ay hg5 (aF hT rfl rfl rfl rfl (cs:=[_,_]) rfl rfl) ?_
   refine ay hg5 (aB (rfl:_=AV.p (.c _))) ?_
   refine ay hg5 (aB (rfl:_=AV.p (.c _))) ?_
   refine ay hg5 (ah (tC m p hm hp2)) ?_
   refine ay hg5 (ah (cg (((ptN p m).2:Nat):Int) (by have:=J1 hm hpp;unfold bp;omega))) ?_
   refine ay hg5 (ah (dI _ _)) ?_
   refine ab (aN rfl hg5 (rfl:_=AV.p (.c _)))<|ag ?_
   refine az rfl (fun hb6=>?_) (fun hb6=>?_)
   ·have he:=dT0 hb6
    refine ae hP<|br hT rfl rfl rfl rfl rfl rfl<|ab (ah cDs) ?_
    refine ak rfl<|ak rfl<|ab (ah (tC m p hm hp2)) ?_
    refine ab (ah (mL D (ptN p m).2 hD (J1 hm hpp))) ?_
    refine ab (aU hT rfl rfl rfl (by rfl)) ?_
    refine ab (bh rfl rfl)<|aj rfl<|ag<|am<|E1 rfl rfl ?_
    exact aT (gp p ha hpp he)
   have he:=dF0 hb6
   refine au<|aw hP<|ak rfl<|bv rfl rfl ?_
   refine aj rfl<|ag ?_
   refine ⟨p+1,⟨by omega,by omega,hL.next (.inr he)⟩,by omega,aD ⟨.refl _,.refl _,.refl _,aM (by omega),trivial⟩ ⟨rfl,rfl,trivial⟩⟩
  have hpp:¬ (Prm p∧p ∣ m):=fun z=>Bool.false_ne_true (hg5.symm.trans (hpr.2 z))
  iterate 6 refine aX hg5 ?_
  refine ab (aK rfl hg5 (rfl:_=AV.p (.c _)))<|ag<|aQ rfl rfl<|au<|aw hP<|ak rfl<|bv rfl rfl ?_
  refine aj rfl<|ag ?_
  refine ⟨p+1,⟨by omega,by omega,hL.next (.inl hpp)⟩,by omega,aD ⟨.refl _,.refl _,.refl _,aM (by omega),trivial⟩ ⟨rfl,rfl,trivial⟩⟩
 have hb2_:=dF0 hb2
 have hpm:m < p:=by have:=dF0 hb2;omega
 refine aZ<|ae hP<|aj rfl<|ag<|am<|E1 rfl rfl ?_
 exact aT (gn p hL hpm ha).symm
end
section
open Go Go.AM
theorem rz (f:Fm) (D:Int) (m:Nat) (hfa:L 6 f.a) (hfb:L 6 f.b) (hfc:L 6 f.c) (hf:Cl D f) (hD:-4194304≤D∧D < 0) (hm:1≤m∧m≤65536) (hE:szE D=0) (a:RA) (hok:∀ r∈a.nums,okW r.2) (hsz:∀ r∈a.nums,r.2.length≤1000) (hlr:a.roots.length≤100000) (hlf:a.forms.length≤100000) :
  aJ Tryz.prog 37 [FA f.a f.b f.c,Z (m:Int),.p (.a (raS a))] (B (rgA D m f a)):=by
 have fa:LB f.a 6:=⟨hfa⟩
 have fb:LB f.b 6:=⟨hfb⟩
 have fc:LB f.c 6:=⟨hfc⟩
 have jm:bp (m:Int):=by unfold bp;omega
 have hdf:dsc f.a f.b f.c=D:=hf.disc
 have cDs:aJ Tryz.prog 24 [FA f.a f.b f.c] (I D):=by rw [← hdf];exact jf f.a f.b f.c lz lz lz
 have cRd:aJ Tryz.prog 105 [FA f.a f.b f.c] (FA f.rd.a f.rd.b f.rd.c):=pJ f.a f.b f.c lz lz lz
 have hrl:=ll D m hm.2
 have hfl:=qU (D:=D) (m:=m)
 refine aO Tryz.func37 rfl rfl rfl rfl ?_
 refine ae hP<|aq ai (aL rfl rfl)<|aq ai (aL rfl rfl)<|aj rfl<|ag<|ae hP<|ab (aF hT rfl rfl rfl rfl (cs:=raS a) rfl rfl)<|ab (ah (oj a hlr hlf)) ?_
 refine aj rfl<|ag<|ao<|ae hP<|aj rfl<|ag<|aA<|bg (ι:=Nat) (fun k=>stL [(1,Z (m:Int)),(3,.loc 3 0),(5,.loc 5 0),(7,.p (.c (SL rC a.nums))),(8,Z (k:Int))] [(3,⟨false,1,46,[zn f.a,zm f.a,zn f.b,zm f.b,zn f.c,zm f.c]⟩),(5,⟨false,1,42,raS a⟩)]) (fun k=>k≤a.nums.length∧VaK a.nums k) (fun k=>a.nums.length - k) 0 ⟨Nat.zero_le _,VaK.start⟩ (aD ⟨.refl _,.refl _,.refl _,.refl _,.refl _,trivial⟩ ⟨rfl,rfl,trivial⟩) ?_
 rintro k ⟨hk,hI⟩
 have hnl:=ud a
 refine ao<|ae hP<|ak rfl<|ak rfl<|ab (aU hT rfl rfl rfl (by rfl)) ?_
 refine ab (bi rfl rfl)<|ag ?_
 refine az rfl (fun hb1=>?_) (fun hb1=>?_)
 ·have hb1_:=dT0 hb1
  have hmk:(a.nums.getD k (false,[]))∈a.nums:=fp (by omega)
  refine au<|ao<|aA<|ae hP<|ak rfl<|ak rfl<|ab (b5 hT iH (by decide) (false,[]) (n:=(k:Int)) (l:=a.nums) rfl rfl rfl rfl rfl rfl (by omega)) ?_
  refine ab (bf hT rfl rfl rfl (cs:=rC (a.nums.getD k (false,[]))) rfl rfl) ?_
  refine ab (ah (BT (a.nums.getD k (false,[])) (by have:=hsz _ hmk;omega))) ?_
  refine ab (bt rfl)<|ag ?_
  refine az rfl (fun hb2=>?_) (fun hb2=>?_)
  ·have hb2_:=(bX hb2)
   refine ae hP<|aj rfl<|ag<|am<|E1 rfl rfl ?_
   exact aT (Aw hmk (bX hb2))
  have hb2_:=(bU hb2)
  refine au<|aw hP<|ak rfl<|bv rfl rfl ?_
  refine aj rfl<|ag ?_
  refine ⟨k+1,⟨by omega,hI.next (d:=(false,[])) (by omega) (bU hb2)⟩,by omega,aD ⟨.refl _,.refl _,.refl _,.refl _,aM (by omega),trivial⟩ ⟨rfl,rfl,trivial⟩⟩
 have hb1_:=dF0 hb1
 have hva:=hI.done (by omega)
 have hall:=fun r hr=>And.intro (hok r hr) (hva r hr)
 have hax:L 30 a.ans.x:=xI (hok _ xF) (hsz _ xF)
 have hay:L 30 a.ans.y:=xI (hok _ xE) (hsz _ xE)
 have hrg:=M5 (D:=D) (m:=m) (f:=f) hva
 refine aZ<|dq (t:=stL [(1,Z (m:Int)),(3,.loc 3 0),(5,.loc 5 0)] [(3,⟨false,1,46,[zn f.a,zm f.a,zn f.b,zm f.b,zn f.c,zm f.c]⟩),(5,⟨false,1,42,anS a.ans⟩)]) (aD ⟨.refl _,.refl _,.refl _,trivial⟩ ⟨rfl,Eq.trans rfl (congrArg (fun cs=>some (⟨false,1,42,cs⟩:Blk)) (qt hall)),trivial⟩) ?_
 generalize a.ans=X at *
 refine cy (ι:=Unit) (fun _=>stL [(1,Z (m:Int)),(3,.loc 3 0),(5,.loc 5 0),(9,B (decide (X.roots=[]∧X.forms=[])))] [(3,⟨false,1,46,[zn f.a,zm f.a,zn f.b,zm f.b,zn f.c,zm f.c]⟩),(5,⟨false,1,42,anS X⟩)]) (fun _=>True) ?_ ?_
 ·refine aw hP<|aG hT rfl<|a8 hT rfl rfl rfl rfl ?_
  refine ab (aU hT rfl rfl rfl (by rfl)) ?_
  refine ab (bh rfl rfl)<|ak rfl ?_
  refine aW (t:=32) rfl (fun hg3=>?_) (fun hg3=>?_)
  ·have hg3_:=bT hg3
   have h32:=hg3
   refine ay hg3 (aP hT rfl rfl rfl rfl rfl rfl) ?_
   refine ay hg3 (bC hT rfl rfl rfl rfl (by first | rfl | exact dw (by omega))) ?_
   refine ay hg3 (aU hT rfl rfl rfl (by rfl)) ?_
   refine ay hg3 (bh rfl rfl) ?_
   refine ab (aN rfl hg3 (rfl:_=AV.p (.c _)))<|aj rfl<|ag ?_
   refine ⟨(),trivial,aD ⟨.refl _,.refl _,.refl _,aT (Nt h32),trivial⟩ ⟨rfl,rfl,trivial⟩⟩
  have hg3_:=bF hg3
  have h32:=hg3
  iterate 4 refine aX hg3 ?_
  refine ab (aK rfl hg3 (rfl:_=AV.p (.c _)))<|aj rfl<|ag ?_
  refine ⟨(),trivial,aD ⟨.refl _,.refl _,.refl _,aT (Nu h32),trivial⟩ ⟨rfl,rfl,trivial⟩⟩
 intro _ _
 refine ao<|ae hP<|aG hT rfl<|a8 hT rfl rfl rfl rfl ?_
 refine ab (bh rfl rfl)<|ag ?_
 refine az rfl (fun hb4=>?_) (fun hb4=>?_)
 ·have hb4_:=bT hb4
  have k1:=bT hb4
  refine ae hP<|ak rfl<|ak rfl ?_
  refine aW (t:=42) rfl (fun hg5=>?_) (fun hg5=>?_)
  ·have hls:=hg5
   refine ay hg5 (aP hT rfl rfl rfl rfl rfl rfl) ?_
   refine ay hg5 (aF hT rfl rfl rfl rfl (cs:=[_,_]) rfl rfl) ?_
   refine ay hg5 (ah (eF _)) ?_
   refine ay hg5 (bh rfl rfl) ?_
   refine ab (aN rfl hg5 (rfl:_=AV.p (.c _)))<|ak rfl ?_
   refine aW (t:=48) rfl (fun hg6=>?_) (fun hg6=>?_)
   ·have hg6_:=bT hg6
    have h48:=hg6
    refine ay hg6 (aF hT rfl rfl rfl rfl (cs:=[_,_,_,_,_,_]) rfl rfl) ?_
    refine ay hg6 (aB (rfl:_=AV.p (.c _))) ?_
    refine ay hg6 (aP hT rfl rfl rfl rfl rfl rfl) ?_
    refine ay hg6 (aF hT rfl rfl rfl rfl (cs:=[_,_]) rfl rfl) ?_
    refine ay hg6 (aP hT rfl rfl rfl rfl rfl rfl) ?_
    refine ay hg6 (aF hT rfl rfl rfl rfl (cs:=[_,_]) rfl rfl) ?_
    refine ay hg6 (ah (xL f (m:Int) X.x X.y lz lz lz jm hax hay)) ?_
    refine ab (aN rfl hg6 (rfl:_=AV.p (.c _)))<|aj rfl<|ag<|am<|E1 rfl rfl ?_
    exact aT (by rw [hrg,xv k1,decide_eq_true (sgn_0.1 h48),hls];rfl)
   have hg6_:=bF hg6
   have h48:=hg6
   iterate 7 refine aX hg6 ?_
   refine ab (aK rfl hg6 (rfl:_=AV.p (.c _)))<|aj rfl<|ag<|am<|E1 rfl rfl ?_
   exact aT (by rw [hrg,xv k1,decide_eq_false (fun z=>Bool.false_ne_true (h48.symm.trans (sgn_0.2 z)))];rfl)
  have hls:=hg5
  iterate 4 refine aX hg5 ?_
  refine ab (aK rfl hg5 (rfl:_=AV.p (.c _)))<|ak rfl<|aX rfl ?_
  iterate 6 refine aX rfl ?_
  refine ab (aK rfl rfl (rfl:_=AV.p (.c _)))<|aj rfl<|ag<|am<|E1 rfl rfl ?_
  exact aT (by rw [hrg,xv k1,hls,Bool.and_false];rfl)
 have hb4_:=bF hb4
 have k1:=bF hb4
 refine au<|ao<|ae hP<|aG hT rfl<|a8 hT rfl rfl rfl rfl ?_
 refine ab (bh rfl rfl)<|ag ?_
 refine az rfl (fun hb7=>?_) (fun hb7=>?_)
 ·have hb7_:=bT hb7
  have k2:=bT hb7
  refine ae hP<|ak rfl<|ak rfl ?_
  refine aW (t:=61) rfl (fun hg8=>?_) (fun hg8=>?_)
  ·have hls:=hg8
   refine ay hg8 (aP hT rfl rfl rfl rfl rfl rfl) ?_
   refine ay hg8 (aF hT rfl rfl rfl rfl (cs:=[_,_]) rfl rfl) ?_
   refine ay hg8 (aP hT rfl rfl rfl rfl rfl rfl) ?_
   refine ay hg8 (aF hT rfl rfl rfl rfl (cs:=[_,_]) rfl rfl) ?_
   refine ay hg8 (bd hT rfl rfl rfl (es:=[_,_,_,_]) rfl rfl rfl) ?_
   refine ay hg8 (ah (tD [X.x,X.y] (show 2≤1000000000 by decide))) ?_
   refine ab (aN rfl hg8 (rfl:_=AV.p (.c _)))<|ak rfl ?_
   refine aW (t:=69) rfl (fun hg9=>?_) (fun hg9=>?_)
   ·have h69:=hg9
    refine ay hg9 (aF hT rfl rfl rfl rfl (cs:=[_,_,_,_,_,_]) rfl rfl) ?_
    refine ay hg9 (aB (rfl:_=AV.p (.c _))) ?_
    refine ay hg9 (aP hT rfl rfl rfl rfl rfl rfl) ?_
    refine ay hg9 (aF hT rfl rfl rfl rfl (cs:=[_,_]) rfl rfl) ?_
    refine ay hg9 (ah (zu f D m hfa hfb hfc hf hD hm hE X.m)) ?_
    refine ab (aN rfl hg9 (rfl:_=AV.p (.c _)))<|aj rfl<|ag<|am<|E1 rfl rfl ?_
    exact aT (by rw [hrg,xu k1 k2,← EB,h69,hls];rfl)
   have h69:=hg9
   iterate 5 refine aX hg9 ?_
   refine ab (aK rfl hg9 (rfl:_=AV.p (.c _)))<|aj rfl<|ag<|am<|E1 rfl rfl ?_
   exact aT (by rw [hrg,xu k1 k2,← EB,h69];rfl)
  have hls:=hg8
  iterate 6 refine aX hg8 ?_
  refine ab (aK rfl hg8 (rfl:_=AV.p (.c _)))<|ak rfl<|aX rfl ?_
  iterate 4 refine aX rfl ?_
  refine ab (aK rfl rfl (rfl:_=AV.p (.c _)))<|aj rfl<|ag<|am<|E1 rfl rfl ?_
  exact aT (by rw [hrg,xu k1 k2,hls,Bool.and_false];rfl)
 have hb7_:=bF hb7
 have k2:=bF hb7
 refine au<|ao<|ae hP<|aG hT rfl<|a8 hT rfl rfl rfl rfl ?_
 refine ab (bq rfl rfl)<|ak rfl ?_
 refine aW (t:=79) rfl (fun hg10=>?_) (fun hg10=>?_)
 ·have hg10_:=bY hg10
  have k3:=bY hg10
  iterate 9 refine aX hg10 ?_
  refine ab (aN rfl hg10 (rfl:_=AV.p (.c _)))<|ag<|aV rfl rfl<|ae hP<|aj rfl<|ag<|am<|E1 rfl rfl ?_
  exact aT (by rw [hrg,Lp k1 k2 k3])
 have hg10_:=bS hg10
 have k3:=bS hg10
 refine ay hg10 (aP hT rfl rfl rfl rfl rfl rfl) ?_
 refine ay hg10 (aF hT rfl rfl rfl rfl (cs:=[_,_]) rfl rfl) ?_
 refine ay hg10 (aP hT rfl rfl rfl rfl rfl rfl) ?_
 refine ay hg10 (aF hT rfl rfl rfl rfl (cs:=[_,_]) rfl rfl) ?_
 refine ay hg10 (aP hT rfl rfl rfl rfl rfl rfl) ?_
 refine ay hg10 (aF hT rfl rfl rfl rfl (cs:=[_,_]) rfl rfl) ?_
 refine ay hg10 (bd hT rfl rfl rfl (es:=[_,_,_,_,_,_]) rfl rfl rfl) ?_
 refine ay hg10 (ah (tD [X.x,X.y,X.m] (show 3≤1000000000 by decide))) ?_
 refine ay hg10 (bt rfl) ?_
 refine ab (aK rfl hg10 (rfl:_=AV.p (.c _)))<|ag ?_
 refine az rfl (fun hb11=>?_) (fun hb11=>?_)
 ·have hb11_:=(bX hb11)
  have h89:al0 [X.x,X.y,X.m]=false:=bX hb11
  refine ae hP<|aj rfl<|ag<|am<|E1 rfl rfl ?_
  exact aT (by rw [hrg,DW k1 k2 k3,← EA,h89];rfl)
 have hb11_:=(bU hb11)
 have h89:al0 [X.x,X.y,X.m]=true:=bU hb11
 have hr3:rgA D m f a=eP D m f X.roots X.forms:=by rw [hrg,DW k1 k2 k3,← EA,h89];rfl
 refine au<|ae hP<|br hT rfl rfl rfl rfl rfl rfl<|ab (ah cDs) ?_
 refine ak rfl<|ab (ah (mL D m hD hm)) ?_
 refine aj rfl<|ag<|ao<|ae hP<|ak rfl<|ab (aU hT rfl rfl rfl (by rfl)) ?_
 refine ab (bh rfl rfl)<|ak rfl ?_
 refine aW (t:=97) rfl (fun hg12=>?_) (fun hg12=>?_)
 ·have hg12_:=bT hg12
  have h97:=hg12
  iterate 6 refine aX hg12 ?_
  refine ab (aN rfl hg12 (rfl:_=AV.p (.c _)))<|ag<|aV rfl rfl<|ae hP<|aj rfl<|ag<|am<|E1 rfl rfl ?_
  exact aT (hr3.trans (M8 h97)).symm
 have hg12_:=bF hg12
 have h97:=hg12
 refine ay hg12 (aB (rfl:_=AV.p (.c _))) ?_
 refine ay hg12 (aU hT rfl rfl rfl (by rfl)) ?_
 refine ay hg12 (aP hT rfl rfl rfl rfl rfl rfl) ?_
 refine ay hg12 (bC hT rfl rfl rfl rfl (by first | rfl | exact dw (by omega))) ?_
 refine ay hg12 (aU hT rfl rfl rfl (by rfl)) ?_
 refine ay hg12 (bq rfl rfl) ?_
 refine ab (aK rfl hg12 (rfl:_=AV.p (.c _)))<|ag ?_
 refine az rfl (fun hb13=>?_) (fun hb13=>?_)
 ·have hb13_:=bY hb13
  have hln:=bY hb13
  refine ae hP<|aj rfl<|ag<|am<|E1 rfl rfl ?_
  exact aT (hr3.trans (Jp (fun e=>hln (by rw [e])))).symm
 have hb13_:=bS hb13
 have hln:(rbL D m).length=X.roots.length:=by have:=bS hb13;omega
 refine au<|ae hP<|br hT rfl rfl rfl rfl rfl rfl<|ab (ah cDs) ?_
 refine ak rfl<|ak rfl<|ab (ah (vv D m hD hm)) ?_
 refine br hT rfl rfl rfl rfl rfl rfl<|ab (ah cRd) ?_
 refine aq ai (aC hT rfl rfl)<|aj rfl<|aI hT rfl<|ag<|ao<|ae hP<|aj rfl<|ag<|aA<|bg (ι:=Nat) (fun k=>stL [(5,.loc 5 0),(10,.p (.c (SL enI (rbL D m)))),(11,.p (.c (FS (fmL D m)))),(12,.loc 12 0),(13,Z (k:Int))] [(5,⟨false,1,42,anS X⟩),(12,⟨false,1,46,FL f.rd.a f.rd.b f.rd.c⟩)]) (fun k=>SmG (rbL D m) X.roots k∧∀ g∈(fmL D m).take k,¬ g=f.rd) (fun k=>(rbL D m).length - k) 0 ⟨SmG.start hln,xj⟩ (aD ⟨.refl _,.refl _,.refl _,.refl _,.refl _,trivial⟩ ⟨rfl,rfl,trivial⟩) ?_
 rintro k ⟨hS,hN⟩
 have hk:=hS.le
 refine ao<|ae hP<|ak rfl<|ak rfl<|ab (aU hT rfl rfl rfl (by rfl)) ?_
 refine ab (bi rfl rfl)<|ag ?_
 refine az rfl (fun hb14=>?_) (fun hb14=>?_)
 ·have hb14_:=dT0 hb14
  refine au<|ao<|aA<|ae hP<|ak rfl<|ak rfl<|ab (b5 hT dj (by decide) 0 (n:=(k:Int)) (l:=(rbL D m)) rfl rfl rfl rfl rfl rfl (by omega)) ?_
  refine ab (bf hT rfl rfl rfl (cs:=enI ((rbL D m).getD k 0)) rfl rfl) ?_
  refine aG hT rfl<|a8 hT rfl rfl rfl rfl ?_
  refine ak rfl<|ab (b5 hT dj (by decide) 0 (n:=(k:Int)) (l:=X.roots) rfl rfl rfl rfl rfl rfl (by omega)) ?_
  refine ab (bf hT rfl rfl rfl (cs:=enI (X.roots.getD k 0)) rfl rfl) ?_
  refine ab (ah (dI _ _)) ?_
  refine ab (bt rfl)<|ak rfl ?_
  refine aW (t:=129) rfl (fun hg15=>?_) (fun hg15=>?_)
  ·have hg15_:=(bX hg15)
   have hdf2:=dF0 (bX hg15)
   iterate 6 refine aX hg15 ?_
   refine ab (aN rfl hg15 (rfl:_=AV.p (.c _)))<|ag<|aV rfl rfl<|ae hP<|aj rfl<|ag<|am<|E1 rfl rfl ?_
   exact aT (hr3.trans (Jp (SmG.no (d:=0) hdf2))).symm
  have hg15_:=(bU hg15)
  have hsm:=dT0 (bU hg15)
  refine ay hg15 (aB (rfl:_=AV.p (.c _))) ?_
  refine ay hg15 (aB (rfl:_=AV.p (.c _))) ?_
  refine ay hg15 (fX hT (n:=(k:Int)) rfl rfl rfl rfl rfl rfl (by omega)) ?_
  refine ay hg15 (bf hT rfl rfl rfl (cs:=FC ((fmL D m).getD k ⟨0,0,0⟩)) rfl rfl) ?_
  refine ay hg15 (aF hT rfl rfl rfl rfl (cs:=[_,_,_,_,_,_]) rfl rfl) ?_
  refine ay hg15 (ah (tB ((fmL D m).getD k ⟨0,0,0⟩).a ((fmL D m).getD k ⟨0,0,0⟩).b ((fmL D m).getD k ⟨0,0,0⟩).c f.rd.a f.rd.b f.rd.c)) ?_
  refine ab (aK rfl hg15 (rfl:_=AV.p (.c _)))<|ag ?_
  refine az rfl (fun hb16=>?_) (fun hb16=>?_)
  ·have heq:((fmL D m).getD k ⟨0,0,0⟩)=f.rd:=Fm.ext (dT0 hb16).1 (dT0 hb16).2.1 (dT0 hb16).2.2
   refine ae hP<|aj rfl<|ag<|am<|E1 rfl rfl ?_
   exact aT (hr3.trans (Jn (by omega) heq)).symm
  have hne:¬ ((fmL D m).getD k ⟨0,0,0⟩)=f.rd:=fun z=>dF0 hb16 (by rw [z];exact ⟨rfl,rfl,rfl⟩)
  refine au<|aw hP<|ak rfl<|bv rfl rfl ?_
  refine aj rfl<|ag ?_
  refine ⟨k+1,⟨hS.next (d:=0) (by omega) hsm,nC (p:=fun g=>¬ g=f.rd) (d:=⟨0,0,0⟩) hN (by omega) hne⟩,by omega,aD ⟨.refl _,.refl _,.refl _,.refl _,aM (by omega),trivial⟩ ⟨rfl,rfl,trivial⟩⟩
 have hb14_:=dF0 hb14
 refine aZ<|ae hP<|ak rfl<|aG hT rfl<|a8 hT rfl rfl rfl rfl ?_
 refine ab (ah (oi (fmL D m) X.forms (by omega))) ?_
 refine aj rfl<|ag<|am<|E1 rfl rfl ?_
 exact aT ((Jo h97 (hS.yes (by omega)) (by omega) hN).trans hr3.symm)
end
section
open Go Go.AM
theorem xK (f:Fm) (D:Int) (m:Nat) (hfa:L 6 f.a) (hfb:L 6 f.b) (hfc:L 6 f.c) (hf:Cl D f) (hD:-4194304≤D∧D < 0) (hm:1≤m∧m≤65536) (hE:szE D=0) (a:Ans) (h:OKA a):aJ Tryz.prog 37 [FA f.a f.b f.c,Z (m:Int),.p (.a (anS a))] (B (rgt D m f a)):=by
 have h:=rz f D m hfa hfb hfc hf hD hm hE (gP a) (fun r hr=>(nK a r hr).1) h.sz (by unfold gP;simpa using h.lr) (by unfold gP;simpa using h.lf)
 rw [zl,ze] at h
 exact h
theorem mT (D i0 i1 i2 i3 m0 m1 m2 m3:Nat) (hD:D < 65536) (g0:i0 < 65536) (g1:i1 < 65536) (g2:i2 < 65536) (g3:i3 < 65536) (k0:m0 < 256) (k1:m1 < 256) (k2:m2 < 256) (k3:m3 < 256) (a:RA) (hok:∀ r∈a.nums,okW r.2) :
  aJ Tryz.prog 5 [.p (.a [.v (.int .u16 (D:Int)),.v (.int .u16 (i0:Int)),.v (.int .u16 (i1:Int)),.v (.int .u16 (i2:Int)),.v (.int .u16 (i3:Int)),.v (.int .u8 (m0:Int)),.v (.int .u8 (m1:Int)),.v (.int .u8 (m2:Int)),.v (.int .u8 (m3:Int))]),.p (.a (raS a))] (B true):=by
 have c0:=BW _ _ _ _ _ _ _ _ _ hD g0 g1 g2 g3 k0 k1 k2 k3
 have hf:=JQ D i0 m0
 obtain ⟨fa,fb,fc⟩:=JR (D:=D) (i:=i0) k0
 obtain ⟨hD1,hD2⟩:=Ld D
 obtain ⟨s1,s2,s3,s4,s5⟩:=e9 D
 have hE:=vQ D
 have h4:=Fz D
 obtain ⟨m,hmE⟩:∃ m:Nat,(m:Int)=1+(i2:Int) % 100:=⟨1+i2 % 100,by omega⟩
 have hm:1≤m∧m≤65536:=by omega
 have hmw:IntKind.i64.wrap (1+(i2:Int) % 100)=(m:Int):=by rw [← hmE];exact iW0 _ (by omega)
 generalize mkF D i0 m0=f at *
 have hdN:-szz D=-szz D:=rfl
 generalize hdd:-szz D=d at *
 clear hdN
 have jfa:LB f.a 6:=⟨fa⟩
 have jfb:LB f.b 6:=⟨fb⟩
 have jfc:LB f.c 6:=⟨fc⟩
 have idl:LB d 6:=⟨by unfold L;omega⟩
 have hdB:-4194304≤d∧d < 0:=by omega
 have hdf:dsc f.a f.b f.c=d:=hf.disc
 have cDs:aJ Tryz.prog 40 [FA f.a f.b f.c] (I d):=by rw [← hdf];exact fV f.a f.b f.c lz lz lz
 have cFd:=kx f d m fa fb fc hf hdB hm hE
 have hfo:=Kv (m:=m) hf fa fc hdB (by omega)
 have hrt:=Hh (D:=d) (n:=m) hf (by omega)
 have hone:=fun h (b:Ans) hk=>FQ (D:=d) (n:=m) (f:=f) hf (by omega) hdB.1 hE h (a:=b) hk
 generalize fnd d m f=an at *
 have cAn:aJ Tryz.prog 36 [FA f.a f.b f.c,Z (m:Int),.p (.a (anS an))] (B true):=by
  have h:=jC f d m fa fb fc hf hdB hm hE an hfo.1.x hfo.1.y hfo.1.m hfo.1.r hfo.1.g hfo.1.lr hfo.1.lf
  rwa [hrt] at h
 have cAa:=fun h1 h2 h3=>mU f d m fa fb fc hf hdB hm hE a hok h1 h2 h3
 have cRa:=fun h1 h2 h3=>rz f d m fa fb fc hf hdB hm hE a hok h1 h2 h3
 obtain ⟨ls,hls⟩:∃ ls,ls=yt an i3:=⟨_,rfl⟩
 have hln:ls.length=4:=by rw [hls];rfl
 have hlo:∀ b∈ls,OKA b:=by rw [hls];exact Hg hfo.1 hfo.2.1 hfo.2.2.1 i3
 have cAl:∀ k,k < ls.length→aJ Tryz.prog 36 [FA f.a f.b f.c,Z (m:Int),.p (.a (anS (ls.getD k zA)))] (B (rgt d m f (ls.getD k zA))):=fun k hk=>by
  have h:=hlo _ (fp (d:=zA) hk)
  exact jC f d m fa fb fc hf hdB hm hE _ h.x h.y h.m h.r h.g h.lr h.lf
 have cRl:∀ k,k < ls.length→aJ Tryz.prog 37 [FA f.a f.b f.c,Z (m:Int),.p (.a (anS (ls.getD k zA)))] (B (rgt d m f (ls.getD k zA))):=fun k hk=>xK f d m fa fb fc hf hdB hm hE _ (hlo _ (fp (d:=zA) hk))
 have iAm:LB an.m 8:=⟨hfo.1.m⟩
 have hkb:=hfo.2.2.2
 refine aO Tryz.func5 rfl rfl rfl rfl ?_
 refine ae hP<|aq ai (aL rfl rfl)<|aq ai (aL rfl rfl)<|aj rfl<|ag<|ae hP<|ab (ah uq) ?_
 refine aj rfl<|ag<|ao<|ae hP<|ak rfl<|ab (bt rfl)<|ag<|aQ rfl rfl<|au<|ao<|ae hP<|aG hT rfl<|a8 hT rfl rfl rfl rfl ?_
 refine ab (aU hT rfl rfl rfl (by rfl)) ?_
 refine ab (bK rfl rfl)<|ak rfl ?_
 refine aW (t:=23) rfl (fun hg1=>?_) (fun hg1=>?_)
 ·have hg1_:=dT0 hg1
  have h23:=hg1
  iterate 4 refine aX hg1 ?_
  refine ab (aN rfl hg1 (rfl:_=AV.p (.c _)))<|ag<|aV rfl rfl<|ae hP<|ak rfl<|aj rfl<|ag<|am<|E1 rfl rfl ?_
  exact .refl _
 have hg1_:=dF0 hg1
 have h23:=dF0 hg1
 refine ay hg1 (aP hT rfl rfl rfl rfl rfl rfl) ?_
 refine ay hg1 (bC hT rfl rfl rfl rfl (by first | rfl | exact dw (by omega))) ?_
 refine ay hg1 (aU hT rfl rfl rfl (by rfl)) ?_
 refine ay hg1 (bK rfl rfl) ?_
 refine ab (aK rfl hg1 (rfl:_=AV.p (.c _)))<|ag ?_
 refine az rfl (fun hb2=>?_) (fun hb2=>?_)
 ·have hb2_:=dT0 hb2
  refine ae hP<|ak rfl<|aj rfl<|ag<|am<|E1 rfl rfl ?_
  exact .refl _
 have hb2_:=dF0 hb2
 have h28:=dF0 hb2
 refine au<|ae hP<|ab (aF hT rfl rfl rfl rfl (cs:=raS a) rfl rfl)<|ab (ah (oj a (by omega) (by omega))) ?_
 refine aj rfl<|ag<|ao<|ae hP<|aj rfl<|ag<|aA ?_
 have hnl:=ud a
 refine bg (ι:=Nat) (fun k=>stL [(2,.loc 2 0),(3,.loc 3 0),(5,.p (.c (.v (.bool true)))),(6,.p (.c (SL rC a.nums))),(7,Z (k:Int))] [(2,⟨false,1,26,[.v (.int .u16 (D:Int)),.v (.int .u16 (i0:Int)),.v (.int .u16 (i1:Int)),.v (.int .u16 (i2:Int)),.v (.int .u16 (i3:Int)),.v (.int .u8 (m0:Int)),.v (.int .u8 (m1:Int)),.v (.int .u8 (m2:Int)),.v (.int .u8 (m3:Int))]⟩),(3,⟨false,1,42,raS a⟩)]) (fun k=>k≤a.nums.length∧∀ r∈a.nums.take k,r.2.length≤8) (fun k=>a.nums.length - k) 0 ⟨Nat.zero_le _,xj⟩ (aD ⟨.refl _,.refl _,.refl _,.refl _,.refl _,trivial⟩ ⟨rfl,rfl,trivial⟩) ?_
 rintro k ⟨hk,hI⟩
 refine ao<|ae hP<|ak rfl<|ak rfl<|ab (aU hT rfl rfl rfl (by rfl)) ?_
 refine ab (bi rfl rfl)<|ag ?_
 refine az rfl (fun hb3=>?_) (fun hb3=>?_)
 ·have hb3_:=dT0 hb3
  have hkn:k < a.nums.length:=by omega
  refine au<|ao<|aA<|ae hP<|ak rfl<|ak rfl<|ab (b5 hT iH (by decide) (false,[]) (n:=(k:Int)) (l:=a.nums) rfl rfl rfl rfl rfl rfl (by omega)) ?_
  refine ab (fJ hT rfl rfl rfl rfl rfl rfl)<|ab (bI hT rfl rfl rfl (dv:=W (a.nums.getD k (false,[])).2) rfl) ?_
  refine ab (aU hT rfl rfl rfl (by rfl)) ?_
  refine ab (bK rfl rfl)<|ag ?_
  refine az rfl (fun hb4=>?_) (fun hb4=>?_)
  ·have hb4_:=dT0 hb4
   refine ae hP<|ak rfl<|aj rfl<|ag<|am<|E1 rfl rfl ?_
   exact .refl _
  have hb4_:=dF0 hb4
  have hn8:(a.nums.getD k (false,[])).2.length≤8:=by have:=dF0 hb4;omega
  refine au<|aw hP<|ak rfl<|bv rfl rfl ?_
  refine aj rfl<|ag ?_
  refine ⟨k+1,⟨by omega,nC (p:=fun r:Rw=>r.2.length≤8) (d:=(false,[])) hI hkn hn8⟩,by omega,aD ⟨.refl _,.refl _,.refl _,.refl _,aM (by omega),trivial⟩ ⟨rfl,rfl,trivial⟩⟩
 have hb3_:=dF0 hb3
 have hsz:∀ r∈a.nums,r.2.length≤1000:=by
  rw [List.take_of_length_le (by omega)] at hI
  exact fun r hr=>Nat.le_trans (hI r hr) (by decide)
 refine aZ<|ae hP<|ab (aF hT rfl rfl rfl rfl (cs:=[_,_,_,_,_,_,_,_,_]) rfl rfl)<|ab (ah c0) ?_
 refine aG hT rfl<|ab (aY hT rfl rfl rfl rfl rfl (by first | decide | omega)) ?_
 refine a8 hT rfl rfl rfl rfl ?_
 refine ab (bJ rfl rfl (by decide) (c:=(i2:Int) % 100) (Int.tmod_eq_emod_of_nonneg (by omega))) ?_
 refine ab (bl hT rfl rfl rfl rfl (iW0 _ (by omega))) ?_
 refine ab (bL rfl rfl (c:=(m:Int)) hmw) ?_
 refine aq ai (aC hT rfl rfl)<|aI hT rfl<|aj rfl<|ag<|ae hP<|br hT rfl rfl rfl rfl rfl rfl<|ak rfl<|ab (ah cFd) ?_
 refine aq ai (aC hT rfl rfl)<|aI hT rfl<|ag<|dq (t:=stL [(2,.loc 2 0),(3,.loc 3 0),(5,.p (.c (.v (.bool true)))),(8,.loc 8 0),(9,Z (m:Int)),(10,.loc 10 0)] [(2,⟨false,1,26,[.v (.int .u16 (D:Int)),.v (.int .u16 (i0:Int)),.v (.int .u16 (i1:Int)),.v (.int .u16 (i2:Int)),.v (.int .u16 (i3:Int)),.v (.int .u8 (m0:Int)),.v (.int .u8 (m1:Int)),.v (.int .u8 (m2:Int)),.v (.int .u8 (m3:Int))]⟩),(3,⟨false,1,42,raS a⟩),(8,⟨false,1,46,[zn f.a,zm f.a,zn f.b,zm f.b,zn f.c,zm f.c]⟩),(10,⟨false,1,72,anS an ++ [.v (.int .i64 0)]⟩)]) (aD ⟨.refl _,.refl _,.refl _,.refl _,.refl _,.refl _,trivial⟩ ⟨rfl,rfl,rfl,rfl,trivial⟩) ?_
 refine ao<|ae hP<|aG hT rfl<|a8 hT rfl rfl rfl rfl ?_
 refine ab (bq rfl rfl)<|ak rfl<|ay rfl (aF hT rfl rfl rfl rfl (cs:=[_,_,_,_,_,_]) rfl rfl) ?_
 refine ay rfl (aB (rfl:_=AV.p (.c _))) ?_
 refine ay rfl (aP hT rfl rfl rfl rfl rfl rfl) ?_
 refine ay rfl (aF hT rfl rfl rfl rfl (cs:=anS an) rfl rfl) ?_
 refine ay rfl (ah cAn) ?_
 refine ay rfl (bt rfl) ?_
 refine ab (aK rfl rfl (rfl:_=AV.p (.c _)))<|ak rfl<|ay rfl (aF hT rfl rfl rfl rfl (cs:=[_,_,_,_,_,_]) rfl rfl) ?_
 refine ay rfl (aB (rfl:_=AV.p (.c _))) ?_
 refine ay rfl (aF hT rfl rfl rfl rfl (cs:=raS a) rfl rfl) ?_
 refine ay rfl (ah (cAa hsz (by omega) (by omega))) ?_
 refine ay rfl (aF hT rfl rfl rfl rfl (cs:=[_,_,_,_,_,_]) rfl rfl) ?_
 refine ay rfl (aB (rfl:_=AV.p (.c _))) ?_
 refine ay rfl (aF hT rfl rfl rfl rfl (cs:=raS a) rfl rfl) ?_
 refine ay rfl (ah (cRa hsz (by omega) (by omega))) ?_
 refine ay rfl (gE hT rfl rfl rfl rfl) ?_
 refine ab (aK rfl rfl (rfl:_=AV.p (.c _)))<|ag<|aQ rfl (bne_self_eq_false _) ?_
 refine au<|dq (t:=stL [(2,.loc 2 0),(5,.p (.c (.v (.bool true)))),(8,.loc 8 0),(9,Z (m:Int)),(10,.loc 10 0)] [(2,⟨false,1,26,[.v (.int .u16 (D:Int)),.v (.int .u16 (i0:Int)),.v (.int .u16 (i1:Int)),.v (.int .u16 (i2:Int)),.v (.int .u16 (i3:Int)),.v (.int .u8 (m0:Int)),.v (.int .u8 (m1:Int)),.v (.int .u8 (m2:Int)),.v (.int .u8 (m3:Int))]⟩),(8,⟨false,1,46,[zn f.a,zm f.a,zn f.b,zm f.b,zn f.c,zm f.c]⟩),(10,⟨false,1,72,anS an ++ [.v (.int .i64 0)]⟩)]) (aD ⟨.refl _,.refl _,.refl _,.refl _,.refl _,trivial⟩ ⟨rfl,rfl,rfl,trivial⟩) ?_
 refine ae hP<|aG hT rfl<|ab (aF hT rfl rfl rfl rfl (cs:=anS an) rfl rfl)<|aq ai (aC hT rfl rfl)<|aI hT rfl<|ag<|ae hP<|aG hT rfl<|a8 hT rfl rfl rfl rfl ?_
 refine aG hT rfl<|ab (aY hT rfl rfl rfl rfl rfl (by first | decide | omega)) ?_
 refine a8 hT rfl rfl rfl rfl ?_
 refine ab (bJ rfl rfl (by decide) (c:=(i3:Int) % 2) (Int.tmod_eq_emod_of_nonneg (by omega))) ?_
 refine ab (bl hT rfl rfl rfl rfl (iW0 _ (by omega))) ?_
 refine bv rfl rfl ?_
 refine ab (bJ rfl rfl (by decide) (c:=(an.kind+(i3:Int) % 2) % 3) (Int.tmod_eq_emod_of_nonneg (by omega))) ?_
 refine bv rfl rfl ?_
 refine aG hT rfl<|aI hT rfl<|ag<|ae hP<|aG hT rfl<|ab (aF hT rfl rfl rfl rfl (cs:=anS an) rfl rfl)<|aq ai (aC hT rfl rfl)<|aI hT rfl<|ag<|ae hP<|aG hT rfl<|av hT rfl<|ab (ah (cg 1 (by decide))) ?_
 refine ab (ah (dQ an.m 1 lz lz)) ?_
 refine aG hT rfl<|aI hT rfl<|ag<|ae hP<|aG hT rfl<|ab (aF hT rfl rfl rfl rfl (cs:=anS an) rfl rfl)<|aq ai (aC hT rfl rfl)<|aI hT rfl<|ag<|ae hP<|aG hT rfl<|av hT rfl<|ab (ah (jr an.y)) ?_
 refine aG hT rfl<|aI hT rfl<|ag<|ae hP<|ab (aF hT rfl rfl rfl rfl (cs:=anS { an with kind:=1+(an.kind+(i3:Int) % 2) % 3 }) rfl rfl) ?_
 refine ab (aF hT rfl rfl rfl rfl (cs:=anS { an with m:=an.m+1 }) rfl rfl)<|ab (aF hT rfl rfl rfl rfl (cs:=anS { an with y:=-an.y }) rfl rfl)<|ab (a6 hT rfl rfl rfl (es:=[_,_,_,_,_,_,_,_,_]) rfl)<|ab (bd hT rfl rfl rfl (es:=[_,_,_,_,_,_,_,_,_,_,_,_,_,_,_,_,_,_,_,_,_,_,_,_,_,_,_,_,_,_,_,_,_,_,_,_]) rfl rfl rfl)<|aj rfl<|ag<|ao<|ae hP<|aj rfl<|ag<|aA<|bg (ι:=Nat) (fun k=>stL [(5,.p (.c (.v (.bool true)))),(8,.loc 8 0),(9,Z (m:Int)),(10,.loc 10 0),(14,.p (.c (SL anS ls))),(15,Z (k:Int))] [(8,⟨false,1,46,[zn f.a,zm f.a,zn f.b,zm f.b,zn f.c,zm f.c]⟩),(10,⟨false,1,72,anS an ++ [.v (.int .i64 0)]⟩)]) (fun k=>k≤ls.length) (fun k=>ls.length - k) 0 (Nat.zero_le _) (aD ⟨.refl _,.refl _,.refl _,.refl _,aH (by rw [hls];rfl),.refl _,trivial⟩ ⟨rfl,rfl,trivial⟩) ?_
 intro k hk
 refine ao<|ae hP<|ak rfl<|ak rfl<|ab (aU hT rfl rfl rfl (by rfl)) ?_
 refine ab (bi rfl rfl)<|ag ?_
 refine az rfl (fun hb7=>?_) (fun hb7=>?_)
 ·have hb7_:=dT0 hb7
  have hkl:k < ls.length:=by omega
  refine au<|ao<|aA<|ae hP<|br hT rfl rfl rfl rfl rfl rfl<|ak rfl<|ak rfl<|ak rfl<|ab (b5 (encD:=anS) hT oc (by decide) zA (n:=(k:Int)) (l:=ls) rfl rfl rfl rfl rfl rfl (by omega)) ?_
  refine ab (bf hT rfl rfl rfl (cs:=anS (ls.getD k zA)) rfl rfl) ?_
  refine ab (ah (cAl k hkl)) ?_
  refine br hT rfl rfl rfl rfl rfl rfl<|ak rfl<|ak rfl<|ak rfl<|ab (b5 (encD:=anS) hT oc (by decide) zA (n:=(k:Int)) (l:=ls) rfl rfl rfl rfl rfl rfl (by omega)) ?_
  refine ab (bf hT rfl rfl rfl (cs:=anS (ls.getD k zA)) rfl rfl) ?_
  refine ab (ah (cRl k hkl)) ?_
  refine ab (gE hT rfl rfl rfl rfl)<|ak rfl<|bB (bj rfl rfl (bne_self_eq_false _)) (aP hT rfl rfl rfl rfl rfl rfl) ?_
  refine bB (bj rfl rfl (bne_self_eq_false _)) (aP hT rfl rfl rfl rfl rfl rfl) ?_
  refine bB (bj rfl rfl (bne_self_eq_false _)) (bC hT rfl rfl rfl rfl (by first | rfl | exact dw (by omega))) ?_
  refine bB (bj rfl rfl (bne_self_eq_false _)) (bh rfl rfl) ?_
  refine bB (bj rfl rfl (bne_self_eq_false _)) (aB (rfl:_=AV.p (.c _))) ?_
  refine aW (t:=136) rfl (fun hg9=>?_) (fun hg9=>?_)
  ·have hg9_:=bT hg9
   have hk1:=bT hg9
   refine ay hg9 (aB (rfl:_=AV.p (.c _))) ?_
   refine ay hg9 (aB (rfl:_=AV.p (.c _))) ?_
   refine ay hg9 (b5 (encD:=anS) hT oc (by decide) zA (n:=(k:Int)) (l:=ls) rfl rfl rfl rfl rfl rfl (by omega)) ?_
   refine ay hg9 (fJ hT rfl rfl rfl rfl rfl rfl) ?_
   refine ay hg9 (bI hT rfl rfl rfl (dv:=.v (.int .i64 (ls.getD k zA).kind)) rfl) ?_
   refine ay hg9 (bq rfl rfl) ?_
   refine bB (bj rfl rfl (bne_self_eq_false _)) (aN rfl hg9 (rfl:_=AV.p (.c _))) ?_
   refine bB (bj rfl rfl (bne_self_eq_false _)) (aB (rfl:_=AV.p (.c _))) ?_
   refine aW (t:=144) rfl (fun hg10=>?_) (fun hg10=>?_)
   ·have hg10_:=bY hg10
    have h153:rgt d m f (ls.getD k zA)=false:=hone hk1 _ (bY hg10)
    refine ay hg10 (aF hT rfl rfl rfl rfl (cs:=[_,_,_,_,_,_]) rfl rfl) ?_
    iterate 3 refine ay hg10 (aB (rfl:_=AV.p (.c _))) ?_
    refine ay hg10 (b5 (encD:=anS) hT oc (by decide) zA (n:=(k:Int)) (l:=ls) rfl rfl rfl rfl rfl rfl (by omega)) ?_
    refine ay hg10 (bf hT rfl rfl rfl (cs:=anS (ls.getD k zA)) rfl rfl) ?_
    refine ay hg10 (ah (cAl k hkl)) ?_
    refine bB (bj rfl rfl (bne_self_eq_false _)) (aN rfl hg10 (rfl:_=AV.p (.c _))) ?_
    refine ab (aK rfl (bne_self_eq_false _) (rfl:_=AV.p (.c _))) ?_
    refine ag<|aQ rfl h153<|au<|aw hP<|ak rfl<|bv rfl rfl ?_
    refine aj rfl<|ag ?_
    refine ⟨k+1,by omega,by omega,aD ⟨.refl _,.refl _,.refl _,.refl _,.refl _,aM (by omega),trivial⟩ ⟨rfl,rfl,trivial⟩⟩
   have hg10_:=bS hg10
   iterate 7 refine aX hg10 ?_
   refine bB (bj rfl rfl (bne_self_eq_false _)) (aK rfl hg10 (rfl:_=AV.p (.c _))) ?_
   refine ab (aK rfl (bne_self_eq_false _) (rfl:_=AV.p (.c _))) ?_
   refine ag<|aQ rfl rfl<|au<|aw hP<|ak rfl<|bv rfl rfl ?_
   refine aj rfl<|ag ?_
   refine ⟨k+1,by omega,by omega,aD ⟨.refl _,.refl _,.refl _,.refl _,.refl _,aM (by omega),trivial⟩ ⟨rfl,rfl,trivial⟩⟩
  have hg9_:=bF hg9
  iterate 6 refine aX hg9 ?_
  refine bB (bj rfl rfl (bne_self_eq_false _)) (aK rfl hg9 (rfl:_=AV.p (.c _))) ?_
  refine bB (bj rfl rfl (bne_self_eq_false _)) (aB (rfl:_=AV.p (.c _))) ?_
  iterate 7 refine aX rfl ?_
  refine bB (bj rfl rfl (bne_self_eq_false _)) (aK rfl rfl (rfl:_=AV.p (.c _))) ?_
  refine ab (aK rfl (bne_self_eq_false _) (rfl:_=AV.p (.c _))) ?_
  refine ag<|aQ rfl rfl<|au<|aw hP<|ak rfl<|bv rfl rfl ?_
  refine aj rfl<|ag ?_
  refine ⟨k+1,by omega,by omega,aD ⟨.refl _,.refl _,.refl _,.refl _,.refl _,aM (by omega),trivial⟩ ⟨rfl,rfl,trivial⟩⟩
 have hb7_:=dF0 hb7
 refine aZ<|ae hP<|ak rfl<|aj rfl<|ag<|am<|E1 rfl rfl ?_
 exact .refl _
end
end Go.Proofs.YthaiejfjnllglaaGreatDoor
