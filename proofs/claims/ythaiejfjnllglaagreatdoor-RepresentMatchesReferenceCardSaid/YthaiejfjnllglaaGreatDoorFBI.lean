import Derived.Test.YthaiejfjnllglaaGreatDoorFBF
import Derived.Test.YthaiejfjnllglaaGreatDoorFBE
import Derived.Test.YthaiejfjnllglaaGreatDoorFBH
import Derived.Test.YthaiejfjnllglaaGreatDoorFBC
import Derived.Test.YthaiejfjnllglaaGreatDoorFBG
import Derived.Test.YthaiejfjnllglaaGreatDoorFBD
import Derived.Shelf.SlLaysF0
set_option maxRecDepth 100000
set_option maxHeartbeats 16000000
namespace Go.Proofs.YthaiejfjnllglaaGreatDoor
section
open Go Go.AM
theorem GV (f:Fm) (D:Int) (m:Nat) (hfa:L 6 f.a) (hfb:L 6 f.b) (hfc:L 6 f.c) (hf:Cl D f) (hD:-4194304≤D∧D < 0) (hm:1≤m∧m≤65536) (hE:szE D=0) (a:RA) (hok:∀ r∈a.nums,okW r.2) (hsz:∀ r∈a.nums,r.2.length≤1000) (hlr:a.roots.length≤100000) (hlf:a.forms.length≤100000) :
  aH Tryz.prog 34 [FA f.a f.b f.c,Z (m:Int),.p (.a (raS a))] (.t [PB (rgA D m f a),PE 0]):=by
 have fa:LB f.a 6:=⟨hfa⟩
 have fb:LB f.b 6:=⟨hfb⟩
 have fc:LB f.c 6:=⟨hfc⟩
 have hdf:dsc f.a f.b f.c=D:=hf.disc
 have h0m:0 < (m:Int):=by omega
 have cRf:aH Tryz.prog 65 [FA f.a f.b f.c,Z (m:Int)] (Z 0):=by
  have h:=iA f m hfa hfb hfc
  rwa [te hf hm] at h
 refine aM Tryz.func34 rfl rfl rfl rfl ?_
 refine ae hP<|aq ai (aL rfl rfl)<|aq ai (aL rfl rfl)<|aj rfl<|aj rfl<|ag<|ao<|ae hP<|br hT rfl rfl rfl rfl rfl rfl<|ak rfl<|ab (ah cRf) ?_
 refine aj rfl<|ag<|ae hP<|ak rfl<|ab (bq rfl rfl)<|ag<|aQ rfl rfl<|au<|cH (ι:=Unit) (fun _=>stL [(1,Z (m:Int)),(3,.loc 3 0),(5,.loc 5 0),(9,B (decide (a.x.2=[]) && decide (a.y.2=[]))),(10,B (decide (a.m.2=[]))),(11,B (decide (((a.roots.length+a.forms.length:Nat):Int)=0)))] [(3,⟨false,1,46,[zn f.a,zm f.a,zn f.b,zm f.b,zn f.c,zm f.c]⟩),(5,⟨false,1,42,raS a⟩)]) (fun _=>True) ?_ ?_
 ·refine aw hP<|aI hT rfl<|av hT rfl<|ab (ah (kL a.x)) ?_
  refine ak rfl ?_
  refine aY (t:=27) rfl (fun hg1=>?_) (fun hg1=>?_)
  ·refine aA hg1 (aT hT rfl rfl rfl rfl rfl rfl) ?_
   refine aA hg1 (aJ hT rfl rfl rfl rfl (cs:=[_,_]) rfl rfl) ?_
   refine aA hg1 (ah (kL a.y)) ?_
   refine ab (aO rfl hg1 (rfl:_=AV.p (.c _)))<|aI hT rfl<|av hT rfl<|ab (ah (kL a.m)) ?_
   refine aI hT rfl<|bi hT rfl rfl rfl rfl ?_
   refine ab (aX hT rfl rfl rfl (by rfl)) ?_
   refine aI hT rfl<|bi hT rfl rfl rfl rfl ?_
   refine ab (aX hT rfl rfl rfl (by rfl)) ?_
   refine bA rfl rfl ?_
   refine ab (bj rfl rfl)<|aj rfl<|aj rfl<|aj rfl<|ag ?_
   refine ⟨(),trivial,aE ⟨.refl _,.refl _,.refl _,bd (by rw [hg1,Bool.true_and]),.refl _,bd w8,trivial⟩ ⟨rfl,rfl,trivial⟩⟩
  iterate 3 refine aZ hg1 ?_
  refine ab (aN rfl hg1 (rfl:_=AV.p (.c _)))<|aI hT rfl<|av hT rfl<|ab (ah (kL a.m)) ?_
  refine aI hT rfl<|bi hT rfl rfl rfl rfl ?_
  refine ab (aX hT rfl rfl rfl (by rfl)) ?_
  refine aI hT rfl<|bi hT rfl rfl rfl rfl ?_
  refine ab (aX hT rfl rfl rfl (by rfl)) ?_
  refine bA rfl rfl ?_
  refine ab (bj rfl rfl)<|aj rfl<|aj rfl<|aj rfl<|ag ?_
  refine ⟨(),trivial,aE ⟨.refl _,.refl _,.refl _,bd (by rw [hg1,Bool.false_and]),.refl _,bd w8,trivial⟩ ⟨rfl,rfl,trivial⟩⟩
 intro _ _
 refine ae hP<|aI hT rfl<|av hT rfl<|aI hT rfl<|av hT rfl<|aI hT rfl<|av hT rfl<|aq ai (dB hT rfl rfl rfl (es:=[_,_,_,_,_,_]) rfl rfl rfl) ?_
 refine aI hT rfl<|bi hT rfl rfl rfl rfl ?_
 refine RK.app ai (fx hT rfl rfl rfl rfl rfl rfl rfl rfl rfl rfl (di pJ _) rfl (by show 32*(6+a.roots.length*2)≤_;omega) rfl (by decide)) ?_
 refine ab (a8 (rfl:_=AV.vec _))<|ag<|cL 52 1000 rfl rfl rfl ?_
 refine ao<|ae hP<|aI hT rfl<|bi hT rfl rfl rfl rfl ?_
 refine ab (aX hT rfl rfl rfl (by rfl)) ?_
 refine ak rfl<|ag<|aC<|bl (ι:=Nat) (fun k=>stL [(1,Z (m:Int)),(3,.loc 3 0),(5,.loc 5 0),(9,B (decide (a.x.2=[]) && decide (a.y.2=[]))),(10,B (decide (a.m.2=[]))),(11,B (decide (((a.roots.length+a.forms.length:Nat):Int)=0))),(12,.vec 1000),(54,.p (.c (SL rfC a.forms))),(55,Z (a.forms.length:Int)),(56,Z (k:Int))] [(3,⟨false,1,46,[zn f.a,zm f.a,zn f.b,zm f.b,zn f.c,zm f.c]⟩),(5,⟨false,1,42,raS a⟩),(1000,VB 2 29 rC (fv a k))]) (fun k=>k≤a.forms.length) (fun k=>a.forms.length - k) 0 (Nat.zero_le _) (aE ⟨.refl _,.refl _,.refl _,.refl _,.refl _,.refl _,.refl _,.refl _,.refl _,.refl _,trivial⟩ ⟨rfl,rfl,Eq.trans rfl (congrArg (fun cs=>some (⟨true,2,29,cs⟩:Blk)) (Kb a)),trivial⟩) ?_
 intro k hk
 refine ae hP<|ab (bh rfl rfl)<|ag<|ao ?_
 refine ay rfl (fun hb2=>?_) (fun hb2=>?_)
 ·have hb2_:=dT0 hb2
  have hfk:=jv (l:=a.forms) (k:=k) (by omega) ((false,[]),(false,[]),(false,[]))
  refine au<|ao<|aC<|ae hP<|ab (b9 hT Gn (by decide) ((false,[]),(false,[]),(false,[])) (n:=(k:Int)) (l:=a.forms) rfl rfl rfl rfl rfl rfl (by omega)) ?_
  refine ab (bf hT rfl rfl rfl (cs:=rfC (a.forms.getD k ((false,[]),(false,[]),(false,[])))) rfl rfl) ?_
  refine aq ai (aB hT rfl rfl)<|aG hT rfl<|ag<|aw hP<|ab (az (rfl:_=AV.vec _))<|aI hT rfl<|av hT rfl<|aI hT rfl<|av hT rfl<|aI hT rfl<|av hT rfl<|ab (bg hT rfl rfl rfl (es:=[_,_,_,_,_,_]) rfl rfl rfl)<|RK.app ai (fx hT rfl rfl rfl rfl rfl rfl rfl rfl rfl rfl rfl rfl (by show 32*(((fv a k).flatMap rC).length+3*2)≤_;rw [di pJ];have:=ur (a:=a) (k:=k);omega) rfl (by decide)) ?_
  refine ab (a8 (rfl:_=AV.vec _))<|ag<|cL 68 1000 rfl rfl rfl ?_
  refine aw hP<|bA rfl rfl ?_
  refine ak rfl<|ag ?_
  refine ⟨k+1,by omega,by omega,aE ⟨.refl _,.refl _,.refl _,.refl _,.refl _,.refl _,.refl _,.refl _,.refl _,aK (by omega),trivial⟩ ⟨rfl,rfl,Eq.trans rfl (congrArg (fun cs=>some (⟨true,2,29,cs⟩:Blk)) (Ka hfk)),trivial⟩⟩
 have hb2_:=dF0 hb2
 have hnk:=Cz (a:=a) (k:=k) (by omega)
 have hnl:=ur (a:=a) (k:=k)
 refine aW<|eJ (encD:=rC) pJ rfl (t:=12) rfl rfl ?_
 refine ao<|ae hP<|ak rfl<|ab (aX hT rfl rfl rfl (by rfl)) ?_
 refine ak rfl<|ag<|aC<|bl (ι:=Nat) (fun j=>stL [(1,Z (m:Int)),(3,.loc 3 0),(5,.loc 5 0),(9,B (decide (a.x.2=[]) && decide (a.y.2=[]))),(10,B (decide (a.m.2=[]))),(11,B (decide (((a.roots.length+a.forms.length:Nat):Int)=0))),(70,.p (.c (SL rC (fv a k)))),(71,Z ((fv a k).length:Int)),(72,Z (j:Int))] [(3,⟨false,1,46,[zn f.a,zm f.a,zn f.b,zm f.b,zn f.c,zm f.c]⟩),(5,⟨false,1,42,raS a⟩)]) (fun j=>j≤(fv a k).length∧VaK (fv a k) j) (fun j=>(fv a k).length - j) 0 ⟨Nat.zero_le _,VaK.start⟩ (aE ⟨.refl _,.refl _,.refl _,.refl _,.refl _,.refl _,.refl _,.refl _,.refl _,trivial⟩ ⟨rfl,rfl,trivial⟩) ?_
 rintro j ⟨hj,hI⟩
 refine ae hP<|ab (bh rfl rfl)<|ag<|ao ?_
 refine ay rfl (fun hb3=>?_) (fun hb3=>?_)
 ·have hb3_:=dT0 hb3
  have hmj:((fv a k).getD j (false,[]))∈a.nums:=hnk ▸ ss (by omega)
  refine au<|ao<|aC<|ae hP<|ab (b9 hT pJ (by decide) (false,[]) (n:=(j:Int)) (l:=(fv a k)) rfl rfl rfl rfl rfl rfl (by omega)) ?_
  refine ab (bf hT rfl rfl rfl (cs:=rC ((fv a k).getD j (false,[]))) rfl rfl) ?_
  refine aq ai (aB hT rfl rfl)<|aG hT rfl<|ag<|ae hP<|av hT rfl<|ab (ah (yJ ((fv a k).getD j (false,[])) (by have:=hsz _ hmj;omega))) ?_
  refine ab (bw rfl)<|ag ?_
  refine ay rfl (fun hb4=>?_) (fun hb4=>?_)
  ·have hb4_:=(bY hb4)
   refine ae hP<|aj rfl<|aj rfl<|ag<|am<|E11 rfl rfl rfl ?_
   exact aF (congrArg (fun b=>AV.t [PB b,PE 0]) (Lb hmj (bY hb4)))
  have hb4_:=(bW hb4)
  refine au<|aw hP<|bA rfl rfl ?_
  refine ak rfl<|ag ?_
  refine ⟨j+1,⟨by omega,hI.next (d:=(false,[])) (by omega) (bW hb4)⟩,by omega,aE ⟨.refl _,.refl _,.refl _,.refl _,.refl _,.refl _,.refl _,.refl _,aK (by omega),trivial⟩ ⟨rfl,rfl,trivial⟩⟩
 have hb3_:=dF0 hb3
 have hva:=hI.done (by omega)
 rw [hnk] at hva
 have hall:=fun r hr=>And.intro (hok r hr) (hva r hr)
 have hax:L 30 a.ans.x:=JL (hok _ JB) (hsz _ JB)
 have hay:L 30 a.ans.y:=JL (hok _ JA) (hsz _ JA)
 refine aW<|ao<|dz (t:=stL [(1,Z (m:Int)),(3,.loc 3 0),(5,.loc 5 0),(9,B (decide (a.x.2=[]) && decide (a.y.2=[]))),(10,B (decide (a.m.2=[]))),(11,B (decide (((a.roots.length+a.forms.length:Nat):Int)=0)))] [(3,⟨false,1,46,[zn f.a,zm f.a,zn f.b,zm f.b,zn f.c,zm f.c]⟩),(5,⟨false,1,42,anS a.ans⟩)]) (aE ⟨.refl _,.refl _,.refl _,.refl _,.refl _,.refl _,trivial⟩ ⟨rfl,Eq.trans rfl (congrArg (fun cs=>some (⟨false,1,42,cs⟩:Blk)) (wC hall)),trivial⟩) ?_
 refine v6 rfl ?_
 refine RM.mv (.inl rfl) rfl ?_
 refine RM.mv (.inl rfl) rfl ?_
 refine RM.and rfl rfl rfl rfl ?_
 refine RM.insert Tryz.underlying156 Tryz.underlying3 rfl rfl ?_
 refine RM.mv (.inl rfl) rfl ?_
 refine RM.mv (.inl rfl) rfl ?_
 refine RM.and rfl rfl rfl rfl ?_
 refine RM.insert Tryz.underlying156 Tryz.underlying3 rfl rfl ?_
 refine RM.mv (.inl rfl) rfl ?_
 refine RM.mv (.inl rfl) rfl ?_
 refine RM.and rfl rfl rfl rfl ?_
 refine RM.insert Tryz.underlying156 Tryz.underlying3 rfl rfl ?_
 refine RM.freeze ?_
 refine RT.mv (.inl rfl) rfl ?_
 refine RT.mv (.inr rfl) rfl ?_
 refine RT.done ?_
 refine ae hP<|ab (az (rfl:_=AV.ax _))<|aI hT rfl<|bi hT rfl rfl rfl rfl ?_
 refine ab (yo (l:=py a) (n:=a.kind) Tryz.underlying156 Tryz.underlying3 (fun _=>by kernel_rfl) rfl rfl rfl) ?_
 refine ak rfl ?_
 refine aY (t:=98) rfl (fun hg5=>?_) (fun hg5=>?_)
 ·have hu:=hg5
  refine aA hg5 (aJ hT rfl rfl rfl rfl (cs:=[_,_,_,_,_,_]) rfl rfl) ?_
  refine aA hg5 (az (rfl:_=AV.p (.c _))) ?_
  refine aA hg5 (aJ hT rfl rfl rfl rfl (cs:=[_,_,_,_,_,_,_,_,_]) rfl rfl) ?_
  refine aA hg5 (ah (GT f D m hfa hfb hfc hf hD hm hE a.ans hax hay (by rw [ra_len.1];omega) (by rw [ra_len.2];omega))) ?_
  refine ab (aO rfl hg5 (rfl:_=AV.p (.c _)))<|aj rfl<|aj rfl<|ag<|am<|E11 rfl rfl rfl ?_
  exact aF (congrArg (fun b=>AV.t [PB b,PE 0]) (M1 hva rfl hu))
 have hu:=hg5
 iterate 4 refine aZ hg5 ?_
 refine ab (aN rfl hg5 (rfl:_=AV.p (.c _)))<|aj rfl<|aj rfl<|ag<|am<|E11 rfl rfl rfl ?_
 exact aF (congrArg (fun b=>AV.t [PB b,PE 0]) (M2 hva rfl hu))
end
section
open Go Go.AM
theorem ya (a b c:Int) (ha:L 20 a) (hb:L 20 b) (hc:L 20 c) :
  aH Tryz.prog 99 [FA a b c] (.p (PE (rfE ⟨a,b,c⟩))):=by
 have ia:LB a 20:=⟨ha⟩
 have ib:LB b 20:=⟨hb⟩
 have ic:LB c 20:=⟨hc⟩
 refine aM Tryz.func99 rfl rfl rfl rfl ?_
 refine ae hP<|aq ai (aL rfl rfl)<|aj rfl<|ag<|ae hP<|br hT rfl rfl rfl rfl rfl rfl<|ab (ah (l4 _ _ _ lz lz lz)) ?_
 refine aj rfl<|ag<|ao<|ae hP<|ak rfl<|ab (bq rfl rfl)<|ag ?_
 refine ay rfl (fun hb1=>?_) (fun hb1=>?_)
 ·have hb1_:=b8 hb1
  refine ae hP<|ak rfl<|aj rfl<|ag<|am<|E1 rfl rfl ?_
  exact aF (congrArg (fun x=>AV.p (PE x)) (Eo (f:=⟨a,b,c⟩) (Ld hb1)))
 have hb1_:=bU hb1
 refine au<|ao<|ae hP<|br hT rfl rfl rfl rfl rfl rfl<|ab (ah (gx _ _ _ lz lz lz)) ?_
 refine ab (ah (dS _)) ?_
 refine ab (bJ rfl rfl)<|ag ?_
 refine ay rfl (fun hb2=>?_) (fun hb2=>?_)
 ·have hb2_:=dT0 hb2
  refine ae hP<|aj rfl<|ag<|am<|E1 rfl rfl ?_
  exact aF (congrArg (fun x=>AV.p (PE x)) (En (f:=⟨a,b,c⟩) (og hb1) hb2_))
 have hb2_:=dF0 hb2
 refine au<|ao<|ae hP<|br hT rfl rfl rfl rfl rfl rfl<|ab (ah (iP _ _ _ lz lz lz)) ?_
 refine ab (bw rfl)<|ag ?_
 refine ay rfl (fun hb3=>?_) (fun hb3=>?_)
 ·have hb3_:=(bY hb3)
  refine ae hP<|aj rfl<|ag<|am<|E1 rfl rfl ?_
  exact aF (congrArg (fun x=>AV.p (PE x)) (Em (f:=⟨a,b,c⟩) (og hb1) hb2_ (bY hb3)))
 have hb3_:=(bW hb3)
 refine au<|ae hP<|aj rfl<|ag<|am<|E1 rfl rfl ?_
 exact aF (congrArg (fun x=>AV.p (PE x)) (Ek (f:=⟨a,b,c⟩) (og hb1) hb2_ (bW hb3)))
theorem yb (a b c:Int) (ha:L 25 a) (hb:L 25 b) (hc:L 25 c) :
  aH Tryz.prog 105 [FA a b c] (FA (rdF a b c).a (rdF a b c).b (rdF a b c).c):=by
 have ia:LB a 25:=⟨ha⟩
 have ib:LB b 25:=⟨hb⟩
 have ic:LB c 25:=⟨hc⟩
 refine aM Tryz.func105 rfl rfl rfl rfl ?_
 refine ae hP<|aq ai (aL rfl rfl)<|aq ai (aB hT rfl rfl)<|ag<|ae hP<|br hT rfl rfl rfl rfl rfl rfl<|ab (ah (mQ _ _ _ lz lz lz)) ?_
 refine ab (az (rfl:_=AV.t _))<|ab (aD rfl (v:=.a _) rfl)<|ab (aD rfl (v:=.a _) rfl)<|ab (aD rfl (v:=.c _) rfl)<|aq ai (aB hT rfl rfl)<|aq ai (aB hT rfl rfl)<|aG hT rfl<|aG hT rfl<|aj rfl<|ag<|ae hP<|br hT rfl rfl rfl rfl rfl rfl<|aG hT rfl<|ag<|am ?_
 refine bI rfl (.inr rfl) (aP hT rfl rfl rfl rfl (cs:=[_,_,_,_,_,_]) rfl rfl) ?_ bt
 exact .refl _
theorem mR (d:Int) (hd:L 40 d) :
  aH Tryz.prog 85 [I d] (.t [PF (prF d),PE (prE d)]):=by
 have id_:LB d 40:=⟨hd⟩
 refine aM Tryz.func85 rfl rfl rfl rfl ?_
 refine ae hP<|aq ai (aL rfl rfl)<|aq ai (aB hT rfl rfl)<|aj rfl<|ag<|ae hP<|av hT rfl<|ab (ah (ce _ (by first | assumption | decide))) ?_
 refine ab (ah (j5 _ _ lz lz (by decide))) ?_
 refine aq ai (aB hT rfl rfl)<|aG hT rfl<|ag<|ao<|ae hP<|av hT rfl<|ab (ah (ce _ (by first | assumption | decide))) ?_
 refine ab (ah (gR _ _)) ?_
 refine ab (bJ rfl rfl)<|ak rfl ?_
 refine aY (t:=12) rfl (fun hg1=>?_) (fun hg1=>?_)
 ·have hg1_:=dT0 hg1
  refine aZ hg1 ?_
  refine aZ hg1 ?_
  refine ab (aO rfl hg1 (rfl:_=AV.p (.c _)))<|ag<|aU rfl rfl<|ae hP<|ab (aR hT rfl rfl rfl (es:=[_,_,_,_,_,_]) rfl)<|aG hT rfl<|aj rfl<|ag<|am ?_
  refine cp rfl (.inr rfl) (aP hT rfl rfl rfl rfl (cs:=[_,_,_,_,_,_]) rfl rfl) (bK rfl) ?_ bt
  exact aF (sS (.inl (cmpI_gt_zero.1 hg1_)))
 have hg1_:=dF0 hg1
 refine aA hg1 (aJ hT rfl rfl rfl rfl (cs:=[_,_]) rfl rfl) ?_
 refine aA hg1 (ah (rG _ lz)) ?_
 refine ab (aN rfl hg1 (rfl:_=AV.p (.c _)))<|ag ?_
 refine ay rfl (fun hb2=>?_) (fun hb2=>?_)
 ·refine ae hP<|ab (aR hT rfl rfl rfl (es:=[_,_,_,_,_,_]) rfl)<|aG hT rfl<|aj rfl<|ag<|am ?_
  refine cp rfl (.inr rfl) (aP hT rfl rfl rfl rfl (cs:=[_,_,_,_,_,_]) rfl rfl) (bK rfl) ?_ bt
  exact aF (sS (.inr hb2))
 refine au<|ae hP<|ab (ah (ce _ (by first | assumption | decide))) ?_
 refine av hT rfl<|av hT rfl<|av hT rfl<|ab (ah (nM _ _ lz lz)) ?_
 refine ab (ah (ce _ (by first | assumption | decide))) ?_
 refine ab (ah (nN _ _ lz lz (by decide))) ?_
 refine ab (aR hT rfl rfl rfl (es:=[_,_,_,_,_,_]) rfl)<|aG hT rfl<|aj rfl<|ag<|am ?_
 refine cp rfl (.inr rfl) (aP hT rfl rfl rfl rfl (cs:=[_,_,_,_,_,_]) rfl rfl) (bK rfl) ?_ bt
 exact aF (by rw [NJ];exact zV (fun x=>hg1_ (cmpI_gt_zero.2 x)) hb2)
end
section
open Go Go.AM
end
section
open Go Go.AM
end
section
open Go Go.AM
theorem vK (l m:List Fm) (hl:(l.length:Int)≤1000000000) :
  aH Tryz.prog 49 [.p (.c (FS l)),.p (.c (FS m))] (B (decide (l=m))):=by
 refine aM Tryz.func49 rfl rfl rfl rfl ?_
 refine ae hP<|aj rfl<|ag<|ao<|ae hP<|ak rfl<|ab (aX hT rfl rfl rfl (by rfl)) ?_
 refine ak rfl<|ab (aX hT rfl rfl rfl (by rfl)) ?_
 refine ab (bq rfl rfl)<|ag ?_
 refine ay rfl (fun hb1=>?_) (fun hb1=>?_)
 ·have hb1_:=b8 hb1
  refine ae hP<|aj rfl<|ag<|am<|E1 rfl rfl ?_
  exact bd (Kr hb1_)
 have hb1_:=bU hb1
 refine au<|ao<|ae hP<|aj rfl<|ag<|aC<|bl (ι:=Nat) (fun k=>stL [(0,.p (.c (FS l))),(1,.p (.c (FS m))),(5,Z (k:Int))] []) (fun k=>SmI l m k) (fun k=>l.length - k) 0 (SmI.start l m) (aE ⟨.refl _,.refl _,.refl _,trivial⟩ trivial) ?_
 intro k hI
 have hk:=hI.k1
 refine ao<|ae hP<|ak rfl<|ak rfl<|ab (aX hT rfl rfl rfl (by rfl)) ?_
 refine ab (bh rfl rfl)<|ag ?_
 refine ay rfl (fun hb2=>?_) (fun hb2=>?_)
 ·have hb2_:=dT0 hb2
  refine au<|ao<|aC<|ae hP<|ak rfl<|ak rfl<|ab (iE hT rfl rfl rfl rfl rfl rfl (by omega)) ?_
  refine ab (bf hT rfl rfl rfl (cs:=FC (l.getD k ⟨0,0,0⟩)) rfl rfl) ?_
  refine ak rfl<|ak rfl<|ab (iE hT rfl rfl rfl rfl rfl rfl (by omega)) ?_
  refine ab (bf hT rfl rfl rfl (cs:=FC (m.getD k ⟨0,0,0⟩)) rfl rfl) ?_
  refine ab (ah (Cd ((l.getD k ⟨0,0,0⟩)).a ((l.getD k ⟨0,0,0⟩)).b ((l.getD k ⟨0,0,0⟩)).c (m.getD k ⟨0,0,0⟩).a (m.getD k ⟨0,0,0⟩).b (m.getD k ⟨0,0,0⟩).c)) ?_
  refine ab (bw rfl)<|ag ?_
  refine ay rfl (fun hb3=>?_) (fun hb3=>?_)
  ·have hb3_:=(bY hb3)
   refine ae hP<|aj rfl<|ag<|am<|E1 rfl rfl ?_
   exact bd (SmI.no (l:=l) (m:=m) (k:=k) (bY hb3))
  have hb3_:=(bW hb3)
  refine au<|aw hP<|ak rfl<|bA rfl rfl ?_
  refine aj rfl<|ag ?_
  refine ⟨k+1,hI.next (by omega) (bW hb3),by omega,aE ⟨.refl _,.refl _,aK (by omega),trivial⟩ trivial⟩
 have hb2_:=dF0 hb2
 refine aW<|ae hP<|aj rfl<|ag<|am<|E1 rfl rfl ?_
 exact bd (hI.yes hb1_ hb2_)
end
section
open Go Go.AM
theorem GU (f:Fm) (m:Int) (hfa:L 6 f.a) (hfb:L 6 f.b) (hfc:L 6 f.c) (hE:¬ alE f m=0) :
  aH Tryz.prog 17 [FA f.a f.b f.c,Z m] (.t [.a (bsC none),PE (alE f m)]):=by
 have fa:LB f.a 6:=⟨hfa⟩
 have fb:LB f.b 6:=⟨hfb⟩
 have fc:LB f.c 6:=⟨hfc⟩
 refine aM Tryz.func17 rfl rfl rfl rfl ?_
 refine ae hP<|aq ai (aL rfl rfl)<|aq ai (aB hT rfl rfl)<|aq ai (aB hT rfl rfl)<|ag<|ao<|ae hP<|br hT rfl rfl rfl rfl rfl rfl<|ak rfl<|ab (ah (iA f m hfa hfb hfc)) ?_
 refine aj rfl<|ag<|ae hP<|ak rfl<|ab (bq rfl rfl)<|ag<|aU rfl (by simpa using hE) ?_
 refine ae hP<|ab (aR hT rfl rfl rfl (es:=[_,_,_,_,_,_,_,_,_]) rfl)<|ak rfl<|aG hT rfl<|aG hT rfl<|ag<|am ?_
 refine cp rfl (.inr rfl) (aP hT rfl rfl rfl rfl (cs:=[_,_,_,_,_,_,_,_,_]) rfl rfl) (cy hT rfl rfl rfl rfl rfl) ?_ bt
 exact .refl _
theorem jr (f:Fm) (D:Int) (m:Nat) (hfa:L 6 f.a) (hfb:L 6 f.b) (hfc:L 6 f.c) (hf:Cl D f) (hD:-4194304≤D∧D < 0) (hm:1≤m∧m≤65536) (hE:szE D=0) :
  aH Tryz.prog 30 [FA f.a f.b f.c,Z (m:Int)] (.p (.a (anS (fnd D m f) ++ [.v (.int .i64 0)]))):=by
 have cF:aH Tryz.prog 17 [FA f.a f.b f.c,Z (m:Int)] (.t [.a (anS (fnd D m f)),PE 0]):=J1 f D m hfa hfb hfc hf hD hm hE
 refine aM Tryz.func30 rfl rfl rfl rfl ?_
 refine ae hP<|aq ai (aL rfl rfl)<|aq ai (aB hT rfl rfl)<|ag<|ae hP<|br hT rfl rfl rfl rfl rfl rfl<|ak rfl<|ab (ah cF) ?_
 refine ab (az (rfl:_=AV.t _))<|ab (aD rfl (v:=.a _) rfl)<|ab (aD rfl (v:=.c _) rfl)<|aq ai (aB hT rfl rfl)<|aG hT rfl<|aj rfl<|ag<|ae hP<|ab (aJ hT rfl rfl rfl rfl (cs:=[_,_,_,_,_,_,_,_,_]) rfl rfl)<|ak rfl<|ab (aR hT rfl rfl rfl (es:=[_,_,_,_,_,_,_,_,_,_]) rfl)<|aG hT rfl<|ag<|am ?_
 refine bI rfl (.inr rfl) (aP hT rfl rfl rfl rfl (cs:=[_,_,_,_,_,_,_,_,_,_]) rfl rfl) ?_ bt
 exact .refl _
theorem se (f:Fm) (m:Int) (hfa:L 6 f.a) (hfb:L 6 f.b) (hfc:L 6 f.c) (hE:¬ alE f m=0) :
  aH Tryz.prog 30 [FA f.a f.b f.c,Z m] (.p (.a (bsC none ++ [.v (.int .i64 (alE f m))]))):=by
 refine aM Tryz.func30 rfl rfl rfl rfl ?_
 refine ae hP<|aq ai (aL rfl rfl)<|aq ai (aB hT rfl rfl)<|ag<|ae hP<|br hT rfl rfl rfl rfl rfl rfl<|ak rfl<|ab (ah (GU f m hfa hfb hfc hE)) ?_
 refine ab (az (rfl:_=AV.t _))<|ab (aD rfl (v:=.a _) rfl)<|ab (aD rfl (v:=.c _) rfl)<|aq ai (aB hT rfl rfl)<|aG hT rfl<|aj rfl<|ag<|ae hP<|ab (aJ hT rfl rfl rfl rfl (cs:=[_,_,_,_,_,_,_,_,_]) rfl rfl)<|ak rfl<|ab (aR hT rfl rfl rfl (es:=[_,_,_,_,_,_,_,_,_,_]) rfl)<|aG hT rfl<|ag<|am ?_
 refine bI rfl (.inr rfl) (aP hT rfl rfl rfl rfl (cs:=[_,_,_,_,_,_,_,_,_,_]) rfl rfl) ?_ bt
 exact .refl _
theorem uE (f:Fm) (D:Int) (m:Nat) (hfa:L 6 f.a) (hfb:L 6 f.b) (hfc:L 6 f.c) (hf:Cl D f) (hD:-4194304≤D∧D < 0) (hm:1≤m∧m≤65536) (hE:szE D=0) (a:RA) (hok:∀ r∈a.nums,okW r.2) (hsz:∀ r∈a.nums,r.2.length≤1000) (hlr:a.roots.length≤100000) (hlf:a.forms.length≤100000) :
  aH Tryz.prog 36 [FA f.a f.b f.c,Z (m:Int),.p (.a (raS a))] (B (rgA D m f a)):=by
 refine aM Tryz.func36 rfl rfl rfl rfl ?_
 refine ae hP<|aq ai (aL rfl rfl)<|aq ai (aL rfl rfl)<|aj rfl<|ag<|ae hP<|br hT rfl rfl rfl rfl rfl rfl<|ak rfl<|ab (aJ hT rfl rfl rfl rfl (cs:=[_,_,_,_,_,_,_,_,_]) rfl rfl)<|ab (ah (GV f D m hfa hfb hfc hf hD hm hE a hok hsz hlr hlf)) ?_
 refine ab (az (rfl:_=AV.t _))<|ab (aD rfl (v:=.c _) rfl)<|ab (aD rfl (v:=.c _) rfl)<|aj rfl<|aj rfl<|ag<|ae hP<|ak rfl<|ak rfl ?_
 refine aY (t:=17) rfl (fun hg1=>?_) (fun hg1=>?_)
 ·have hv:=hg1
  refine aA hg1 (az (rfl:_=AV.p (.c _))) ?_
  refine aA hg1 (bj rfl rfl) ?_
  refine ab (aO rfl hg1 (rfl:_=AV.p (.c _)))<|aj rfl<|ag<|am<|E1 rfl rfl ?_
  exact bd hv.symm
 have hv:=hg1
 refine aZ hg1 ?_
 refine aZ hg1 ?_
 refine ab (aN rfl hg1 (rfl:_=AV.p (.c _)))<|aj rfl<|ag<|am<|E1 rfl rfl ?_
 exact bd hv.symm
theorem oB (f:Fm) (D:Int) (m:Nat) (hfa:L 6 f.a) (hfb:L 6 f.b) (hfc:L 6 f.c) (hf:Cl D f) (hD:-4194304≤D∧D < 0) (hm:1≤m∧m≤65536) (hE:szE D=0) (a:Ans) (hx:L 8 a.x) (hy:L 8 a.y) (hz:L 8 a.m) (hr:∀ z∈a.roots,L 8 z) (hg:∀ g∈a.forms,L 8 g.a∧L 8 g.b∧L 8 g.c) (hlr:a.roots.length≤100000) (hlf:a.forms.length≤100000) :
  aH Tryz.prog 36 [FA f.a f.b f.c,Z (m:Int),.p (.a (anS a))] (B (rgt D m f a)):=by
 have h:=uE f D m hfa hfb hfc hf hD hm hE (ku a) (fun r hr=>(qz a r hr).1) (Gu hx hy hz hr hg) (by unfold ku;simpa using hlr) (by unfold ku;simpa using hlf)
 rw [JC,Jr] at h
 exact h
theorem mY (l m:List Int) (hl:(l.length:Int)≤1000000000) :
  aH Tryz.prog 27 [.p (.c (SL enI l)),.p (.c (SL enI m))] (B (decide (l=m))):=by
 refine aM Tryz.func27 rfl rfl rfl rfl ?_
 refine ae hP<|aj rfl<|ag<|ao<|ae hP<|ak rfl<|ab (aX hT rfl rfl rfl (by rfl)) ?_
 refine ak rfl<|ab (aX hT rfl rfl rfl (by rfl)) ?_
 refine ab (bq rfl rfl)<|ag ?_
 refine ay rfl (fun hb1=>?_) (fun hb1=>?_)
 ·have hb1_:=b8 hb1
  refine ae hP<|aj rfl<|ag<|am<|E1 rfl rfl ?_
  exact bd (decide_eq_false (fun e=>hb1_ (by rw [e]))).symm
 have hb1_:=bU hb1
 have hlen:l.length=m.length:=by have:=hb1_;omega
 refine au<|ao<|ae hP<|aj rfl<|ag<|aC<|bl (ι:=Nat) (fun k=>stL [(0,.p (.c (SL enI l))),(1,.p (.c (SL enI m))),(5,Z (k:Int))] []) (fun k=>SmG l m k) (fun k=>l.length - k) 0 (SmG.start hlen) (aE ⟨.refl _,.refl _,.refl _,trivial⟩ trivial) ?_
 intro k hI
 have hk:=hI.le
 refine ao<|ae hP<|ak rfl<|ak rfl<|ab (aX hT rfl rfl rfl (by rfl)) ?_
 refine ab (bh rfl rfl)<|ag ?_
 refine ay rfl (fun hb2=>?_) (fun hb2=>?_)
 ·have hb2_:=dT0 hb2
  refine au<|ao<|aC<|ae hP<|ak rfl<|ak rfl<|ab (b9 hT dI (by decide) 0 (n:=(k:Int)) (l:=l) rfl rfl rfl rfl rfl rfl (by omega)) ?_
  refine ab (bf hT rfl rfl rfl (cs:=enI (l.getD k 0)) rfl rfl) ?_
  refine ak rfl<|ak rfl<|ab (b9 hT dI (by decide) 0 (n:=(k:Int)) (l:=m) rfl rfl rfl rfl rfl rfl (by omega)) ?_
  refine ab (bf hT rfl rfl rfl (cs:=enI (m.getD k 0)) rfl rfl) ?_
  refine ab (ah (dT _ _)) ?_
  refine ab (bw rfl)<|ag ?_
  refine ay rfl (fun hb3=>?_) (fun hb3=>?_)
  ·have hb3_:=(bY hb3)
   refine ae hP<|aj rfl<|ag<|am<|E1 rfl rfl ?_
   exact bd (decide_eq_false (SmG.no (d:=0) (fun e=>dF0 (bY hb3) e))).symm
  have hb3_:=(bW hb3)
  refine au<|aw hP<|ak rfl<|bA rfl rfl ?_
  refine aj rfl<|ag ?_
  refine ⟨k+1,hI.next (d:=0) (by omega) (dT0 (bW hb3)),by omega,aE ⟨.refl _,.refl _,aK (by omega),trivial⟩ trivial⟩
 have hb2_:=dF0 hb2
 refine aW<|ae hP<|aj rfl<|ag<|am<|E1 rfl rfl ?_
 exact bd (decide_eq_true (hI.yes (by omega))).symm
theorem gW (a b:Ans) (hr:(a.roots.length:Int)≤1000000000) (hg:(a.forms.length:Int)≤1000000000) :
  aH Tryz.prog 32 [.p (.a (anS a)),.p (.a (anS b))] (B (sA a b)):=by
 refine aM Tryz.func32 rfl rfl rfl rfl ?_
 refine ae hP<|aq ai (aL rfl rfl)<|aq ai (aL rfl rfl)<|aj rfl<|ag<|ao<|ae hP<|aI hT rfl<|bi hT rfl rfl rfl rfl ?_
 refine aI hT rfl<|bi hT rfl rfl rfl rfl ?_
 refine ab (bq rfl rfl)<|ak rfl ?_
 refine aY (t:=11) rfl (fun hg1=>?_) (fun hg1=>?_)
 ·have hg1_:=b8 hg1
  have k0:=b8 hg1
  iterate 6 refine aZ hg1 ?_
  refine ab (aO rfl hg1 (rfl:_=AV.p (.c _)))<|ak rfl<|aZ rfl ?_
  iterate 5 refine aZ rfl ?_
  refine ab (aO rfl rfl (rfl:_=AV.p (.c _)))<|ak rfl<|aZ rfl ?_
  iterate 5 refine aZ rfl ?_
  refine ab (aO rfl rfl (rfl:_=AV.p (.c _)))<|ak rfl<|aZ rfl ?_
  iterate 6 refine aZ rfl ?_
  refine ab (aO rfl rfl (rfl:_=AV.p (.c _)))<|ag<|aU rfl rfl<|ae hP<|aj rfl<|ag<|am<|E1 rfl rfl ?_
  exact bd (decide_eq_false (fun z=>k0 z.1)).symm
 have hg1_:=bU hg1
 have k0:=bU hg1
 refine aA hg1 (aT hT rfl rfl rfl rfl rfl rfl) ?_
 refine aA hg1 (aJ hT rfl rfl rfl rfl (cs:=[_,_]) rfl rfl) ?_
 refine aA hg1 (aT hT rfl rfl rfl rfl rfl rfl) ?_
 refine aA hg1 (aJ hT rfl rfl rfl rfl (cs:=[_,_]) rfl rfl) ?_
 refine aA hg1 (ah (dT _ _)) ?_
 refine aA hg1 (bw rfl) ?_
 refine ab (aN rfl hg1 (rfl:_=AV.p (.c _)))<|ak rfl ?_
 refine aY (t:=19) rfl (fun hg2=>?_) (fun hg2=>?_)
 ·have hg2_:=(bY hg2)
  have k1:=dF0 (bY hg2)
  iterate 6 refine aZ hg2 ?_
  refine ab (aO rfl hg2 (rfl:_=AV.p (.c _)))<|ak rfl<|aZ rfl ?_
  iterate 5 refine aZ rfl ?_
  refine ab (aO rfl rfl (rfl:_=AV.p (.c _)))<|ak rfl<|aZ rfl ?_
  iterate 6 refine aZ rfl ?_
  refine ab (aO rfl rfl (rfl:_=AV.p (.c _)))<|ag<|aU rfl rfl<|ae hP<|aj rfl<|ag<|am<|E1 rfl rfl ?_
  exact bd (decide_eq_false (fun z=>k1 z.2.1)).symm
 have hg2_:=(bW hg2)
 have k1:=dT0 (bW hg2)
 refine aA hg2 (aT hT rfl rfl rfl rfl rfl rfl) ?_
 refine aA hg2 (aJ hT rfl rfl rfl rfl (cs:=[_,_]) rfl rfl) ?_
 refine aA hg2 (aT hT rfl rfl rfl rfl rfl rfl) ?_
 refine aA hg2 (aJ hT rfl rfl rfl rfl (cs:=[_,_]) rfl rfl) ?_
 refine aA hg2 (ah (dT _ _)) ?_
 refine aA hg2 (bw rfl) ?_
 refine ab (aN rfl hg2 (rfl:_=AV.p (.c _)))<|ak rfl ?_
 refine aY (t:=27) rfl (fun hg3=>?_) (fun hg3=>?_)
 ·have hg3_:=(bY hg3)
  have k2:=dF0 (bY hg3)
  iterate 6 refine aZ hg3 ?_
  refine ab (aO rfl hg3 (rfl:_=AV.p (.c _)))<|ak rfl<|aZ rfl ?_
  iterate 6 refine aZ rfl ?_
  refine ab (aO rfl rfl (rfl:_=AV.p (.c _)))<|ag<|aU rfl rfl<|ae hP<|aj rfl<|ag<|am<|E1 rfl rfl ?_
  exact bd (decide_eq_false (fun z=>k2 z.2.2.1)).symm
 have hg3_:=(bW hg3)
 have k2:=dT0 (bW hg3)
 refine aA hg3 (aT hT rfl rfl rfl rfl rfl rfl) ?_
 refine aA hg3 (aJ hT rfl rfl rfl rfl (cs:=[_,_]) rfl rfl) ?_
 refine aA hg3 (aT hT rfl rfl rfl rfl rfl rfl) ?_
 refine aA hg3 (aJ hT rfl rfl rfl rfl (cs:=[_,_]) rfl rfl) ?_
 refine aA hg3 (ah (dT _ _)) ?_
 refine aA hg3 (bw rfl) ?_
 refine ab (aN rfl hg3 (rfl:_=AV.p (.c _)))<|ak rfl ?_
 refine aY (t:=35) rfl (fun hg4=>?_) (fun hg4=>?_)
 ·have hg4_:=(bY hg4)
  have k3:=dF0 (bY hg4)
  iterate 7 refine aZ hg4 ?_
  refine ab (aO rfl hg4 (rfl:_=AV.p (.c _)))<|ag<|aU rfl rfl<|ae hP<|aj rfl<|ag<|am<|E1 rfl rfl ?_
  exact bd (decide_eq_false (fun z=>k3 z.2.2.2.1)).symm
 have hg4_:=(bW hg4)
 have k3:=dT0 (bW hg4)
 refine aA hg4 (aT hT rfl rfl rfl rfl rfl rfl) ?_
 refine aA hg4 (bL hT rfl rfl rfl rfl (by first | rfl | exact eh (by omega))) ?_
 refine aA hg4 (aX hT rfl rfl rfl (by rfl)) ?_
 refine aA hg4 (aT hT rfl rfl rfl rfl rfl rfl) ?_
 refine aA hg4 (bL hT rfl rfl rfl rfl (by first | rfl | exact eh (by omega))) ?_
 refine aA hg4 (aX hT rfl rfl rfl (by rfl)) ?_
 refine aA hg4 (bq rfl rfl) ?_
 refine ab (aN rfl hg4 (rfl:_=AV.p (.c _)))<|ag ?_
 refine ay rfl (fun hb5=>?_) (fun hb5=>?_)
 ·have hb5_:=b8 hb5
  have k4:=b8 hb5
  refine ae hP<|aj rfl<|ag<|am<|E1 rfl rfl ?_
  exact bd (decide_eq_false (fun z=>k4 (by rw [z.2.2.2.2.1]))).symm
 have hb5_:=bU hb5
 have k4:a.roots.length=b.roots.length:=by have:=bU hb5;omega
 refine au<|ao<|ae hP<|aj rfl<|ag<|aC<|bl (ι:=Nat) (fun k=>stL [(2,.loc 2 0),(3,.loc 3 0),(5,Z (k:Int))] [(2,⟨false,1,42,anS a⟩),(3,⟨false,1,42,anS b⟩)]) (fun k=>SmG a.roots b.roots k) (fun k=>a.roots.length - k) 0 (SmG.start k4) (aE ⟨.refl _,.refl _,.refl _,trivial⟩ ⟨rfl,rfl,trivial⟩) ?_
 intro k hI
 have hk:=hI.le
 refine ao<|ae hP<|ak rfl<|aI hT rfl<|bi hT rfl rfl rfl rfl ?_
 refine ab (aX hT rfl rfl rfl (by rfl)) ?_
 refine ab (bh rfl rfl)<|ag ?_
 refine ay rfl (fun hb6=>?_) (fun hb6=>?_)
 ·have hb6_:=dT0 hb6
  refine au<|ao<|aC<|ae hP<|aI hT rfl<|bi hT rfl rfl rfl rfl ?_
  refine ak rfl<|ab (b9 hT dI (by decide) 0 (n:=(k:Int)) (l:=a.roots) rfl rfl rfl rfl rfl rfl (by omega)) ?_
  refine ab (bf hT rfl rfl rfl (cs:=enI (a.roots.getD k 0)) rfl rfl) ?_
  refine aI hT rfl<|bi hT rfl rfl rfl rfl ?_
  refine ak rfl<|ab (b9 hT dI (by decide) 0 (n:=(k:Int)) (l:=b.roots) rfl rfl rfl rfl rfl rfl (by omega)) ?_
  refine ab (bf hT rfl rfl rfl (cs:=enI (b.roots.getD k 0)) rfl rfl) ?_
  refine ab (ah (dT _ _)) ?_
  refine ab (bw rfl)<|ag ?_
  refine ay rfl (fun hb7=>?_) (fun hb7=>?_)
  ·have hb7_:=(bY hb7)
   have k6:=dF0 (bY hb7)
   refine ae hP<|aj rfl<|ag<|am<|E1 rfl rfl ?_
   exact bd (decide_eq_false (fun z=>SmG.no (d:=0) k6 z.2.2.2.2.1)).symm
  have hb7_:=(bW hb7)
  have k6:=dT0 (bW hb7)
  refine au<|aw hP<|ak rfl<|bA rfl rfl ?_
  refine aj rfl<|ag ?_
  refine ⟨k+1,hI.next (d:=0) (by omega) k6,by omega,aE ⟨.refl _,.refl _,aK (by omega),trivial⟩ ⟨rfl,rfl,trivial⟩⟩
 have hb6_:=dF0 hb6
 refine aW<|ae hP<|aI hT rfl<|bi hT rfl rfl rfl rfl ?_
 refine aI hT rfl<|bi hT rfl rfl rfl rfl ?_
 refine ab (ah (vK a.forms b.forms hg)) ?_
 refine aj rfl<|ag<|am<|E1 rfl rfl ?_
 exact bd (Nu k0 k1 k2 k3 (hI.yes (by omega)))
theorem pL (D:Int) (m:Nat) (b:Int) (hD:-4194304≤D∧D < 0) (hm:1≤m∧m≤65536) (hb:0≤b∧b≤131072) :
  aH Tryz.prog 42 [I D,Z (m:Int),I b] (FA (m:Int) b ((b*b - D) / (4*(m:Int)))):=by
 have iD:LB D 6:=⟨by unfold L;omega⟩
 have im:LB (m:Int) 6:=⟨by unfold L;omega⟩
 have ib:LB b 6:=⟨by unfold L;omega⟩
 refine aM Tryz.func42 rfl rfl rfl rfl ?_
 refine ae hP<|aq ai (aL rfl rfl)<|aq ai (aL rfl rfl)<|aq ai (aB hT rfl rfl)<|ag<|ae hP<|ak rfl<|ab (ah (ce (m:Int) (by unfold bu;omega))) ?_
 refine aq ai (aB hT rfl rfl)<|aG hT rfl<|ag<|ae hP<|av hT rfl<|av hT rfl<|av hT rfl<|av hT rfl<|ab (ah (dJ _ _ lz lz)) ?_
 refine av hT rfl<|ab (ah (nM _ _ lz lz)) ?_
 refine ab (ah (ce 4 (by decide))) ?_
 refine av hT rfl<|ab (ah (dJ _ _ lz lz)) ?_
 refine ab (ah (nN (b*b - D) (4*(m:Int)) lz lz (by omega))) ?_
 refine ab (aR hT rfl rfl rfl (es:=[_,_,_,_,_,_]) rfl)<|aG hT rfl<|ag<|am ?_
 refine bI rfl (.inr rfl) (aP hT rfl rfl rfl rfl (cs:=[_,_,_,_,_,_]) rfl rfl) ?_ bt
 exact .refl _
theorem uD  :
  aH Tryz.prog 21 [] (B true):=by
 have q1:aH Tryz.prog 30 [FA 2 1 3,Z 3] (.p (.a (anS ⟨1,0,1,0,[],[]⟩ ++ [.v (.int .i64 0)]))):=by
  have h:=jr ⟨2,1,3⟩ (-23) 3 (by unfold L;decide) (by unfold L;decide) (by unfold L;decide) ng (by decide) (by decide) (by decide)
  rw [Db] at h
  exact h
 have q2:aH Tryz.prog 30 [FA 2 1 3,Z 5] (.p (.a (anS ⟨2,0,0,5,[],[]⟩ ++ [.v (.int .i64 0)]))):=by
  have h:=jr ⟨2,1,3⟩ (-23) 5 (by unfold L;decide) (by unfold L;decide) (by unfold L;decide) ng (by decide) (by decide) (by decide)
  rw [HM] at h
  exact h
 have q3:aH Tryz.prog 30 [FA 2 1 3,Z 1] (.p (.a (anS ⟨3,0,0,0,[1],[⟨1,1,6⟩]⟩ ++ [.v (.int .i64 0)]))):=by
  have h:=jr ⟨2,1,3⟩ (-23) 1 (by unfold L;decide) (by unfold L;decide) (by unfold L;decide) ng (by decide) (by decide) (by decide)
  rw [KY] at h
  exact h
 have q4:aH Tryz.prog 30 [FA 1 0 5,Z 3] (.p (.a (anS ⟨2,0,0,5,[],[]⟩ ++ [.v (.int .i64 0)]))):=by
  have h:=jr ⟨1,0,5⟩ (-20) 3 (by unfold L;decide) (by unfold L;decide) (by unfold L;decide) KZ (by decide) (by decide) (by decide)
  rw [Dd] at h
  exact h
 have q5:aH Tryz.prog 26 [FA 1 0 1,Z 5] (.t [.c (SL enP (prS (-4) (5:Nat) ⟨1,0,1⟩)),PE 0]):=EB ⟨1,0,1⟩ (-4) 5 (by unfold L;decide) (by unfold L;decide) (by unfold L;decide) MU (by decide) (by decide)
 have q6:aH Tryz.prog 13 [I (-23),Z 6] (.t [.c (SL enI [1,5,7,11]),PE 0]):=by
  have h:=wP (-23) 6 (by decide) (by decide) (by decide)
  rw [show ((6:Nat):Int)=6 from rfl,Dc] at h
  exact h
 have q7:aH Tryz.prog 36 [FA 2 1 3,Z 3,.p (.a (anS ⟨1,0,1,0,[],[]⟩))] (B true):=by
  have h:=oB ⟨2,1,3⟩ (-23) 3 (by unfold L;decide) (by unfold L;decide) (by unfold L;decide) ng (by decide) (by decide) (by decide) ⟨1,0,1,0,[],[]⟩ (by decide) (by decide) (by decide) (by decide) (by decide) (by decide) (by decide)
  rw [KX] at h
  exact h
 have q8:aH Tryz.prog 36 [FA 2 1 3,Z 3,.p (.a (anS ⟨3,0,0,0,[1],[⟨1,1,6⟩]⟩))] (B false):=by
  have h:=oB ⟨2,1,3⟩ (-23) 3 (by unfold L;decide) (by unfold L;decide) (by unfold L;decide) ng (by decide) (by decide) (by decide) ⟨3,0,0,0,[1],[⟨1,1,6⟩]⟩ (by decide) (by decide) (by decide) (by decide) (by decide) (by decide) (by decide)
  rw [MT] at h
  exact h
 obtain ⟨h8,h80⟩:=K1
 rw [show (prS (-4) 5 ⟨1,0,1⟩)=prS (-4) (5:Nat) ⟨1,0,1⟩ from rfl] at h8 h80
 generalize prS (-4) (5:Nat) ⟨1,0,1⟩=L8 at *
 refine aM Tryz.func21 rfl rfl rfl rfl ?_
 refine ae hP<|aj rfl<|ag<|ae hP<|ab (ah (pK _ _ _ (by first | assumption | decide) (by first | assumption | decide) (by first | assumption | decide))) ?_
 refine aq ai (aB hT rfl rfl)<|aG hT rfl<|ag<|ae hP<|br hT rfl rfl rfl rfl rfl rfl<|ab (ah q1) ?_
 refine br hT rfl rfl rfl rfl rfl rfl<|ab (ah q2) ?_
 refine br hT rfl rfl rfl rfl rfl rfl<|ab (ah q3) ?_
 refine ab (ah (pK _ _ _ (by first | assumption | decide) (by first | assumption | decide) (by first | assumption | decide))) ?_
 refine ab (ah q4) ?_
 refine aq ai (aB hT rfl rfl)<|aq ai (aB hT rfl rfl)<|aq ai (aB hT rfl rfl)<|aq ai (aB hT rfl rfl)<|aG hT rfl<|aG hT rfl<|aG hT rfl<|aG hT rfl<|ag<|ae hP<|ab (ah (pK _ _ _ (by first | assumption | decide) (by first | assumption | decide) (by first | assumption | decide))) ?_
 refine ab (ah q5) ?_
 refine ab (az (rfl:_=AV.t _))<|ab (aD rfl (v:=.c _) rfl)<|ab (aD rfl (v:=.c _) rfl)<|aj rfl<|aj rfl<|ag<|ae hP<|ab (ah (ce _ (by first | assumption | decide))) ?_
 refine ab (ah q6) ?_
 refine ab (az (rfl:_=AV.t _))<|ab (aD rfl (v:=.c _) rfl)<|ab (aD rfl (v:=.c _) rfl)<|aj rfl<|aj rfl<|ag<|ao<|ae hP<|aI hT rfl<|bi hT rfl rfl rfl rfl ?_
 refine ab (bq rfl rfl)<|ak rfl<|aA rfl (aT hT rfl rfl rfl rfl rfl rfl) ?_
 refine aA rfl (bL hT rfl rfl rfl rfl (by first | rfl | exact eh (by omega))) ?_
 refine aA rfl (bq rfl rfl) ?_
 refine ab (aN rfl rfl (rfl:_=AV.p (.c _)))<|ak rfl<|aA rfl (aT hT rfl rfl rfl rfl rfl rfl) ?_
 refine aA rfl (bL hT rfl rfl rfl rfl (by first | rfl | exact eh (by omega))) ?_
 refine aA rfl (bq rfl rfl) ?_
 refine ab (aN rfl rfl (rfl:_=AV.p (.c _)))<|ak rfl<|aA rfl (aT hT rfl rfl rfl rfl rfl rfl) ?_
 refine aA rfl (bL hT rfl rfl rfl rfl (by first | rfl | exact eh (by omega))) ?_
 refine aA rfl (bq rfl rfl) ?_
 refine ab (aN rfl rfl (rfl:_=AV.p (.c _)))<|ak rfl<|aA rfl (az (rfl:_=AV.p (.c _))) ?_
 refine aA rfl (bq rfl rfl) ?_
 refine ab (aN rfl rfl (rfl:_=AV.p (.c _)))<|ak rfl<|aA rfl (az (rfl:_=AV.p (.c _))) ?_
 refine aA rfl (bq rfl rfl) ?_
 refine ab (aN rfl rfl (rfl:_=AV.p (.c _)))<|ak rfl<|aA rfl (az (rfl:_=AV.p (.c _))) ?_
 refine aA rfl (aX hT rfl rfl rfl (by rfl)) ?_
 refine aA rfl (bq rfl rfl) ?_
 refine ab (aN rfl rfl (rfl:_=AV.p (.c _)))<|ag<|aQ rfl (by rw [h8];rfl) ?_
 refine au<|ae hP<|ab (ah (ce _ (by first | assumption | decide))) ?_
 refine ab (bg hT rfl rfl rfl (es:=[_,_]) rfl rfl rfl)<|ab (ah (pK _ _ _ (by first | assumption | decide) (by first | assumption | decide) (by first | assumption | decide))) ?_
 refine ab (bg hT rfl rfl rfl (es:=[_,_,_,_,_,_]) rfl rfl rfl)<|ab (aR hT rfl rfl rfl (es:=[_,_,_,_,_,_,_,_,_]) rfl)<|aq ai (aB hT rfl rfl)<|aG hT rfl<|ag<|ao<|ae hP<|aI hT rfl<|ab (aJ hT rfl rfl rfl rfl (cs:=[_,_,_,_,_,_,_,_,_]) rfl rfl)<|ab (ah (ce _ (by first | assumption | decide))) ?_
 refine ab (aR hT rfl rfl rfl (es:=[_,_,_,_,_,_,_,_,_]) rfl)<|ab (ah (gW ⟨1,0,1,0,[],[]⟩ ⟨1,0,1,0,[],[]⟩ (by decide) (by decide))) ?_
 refine ab (bw rfl)<|ak rfl<|bv (a7 rfl rfl (cz _)) (aT hT rfl rfl rfl rfl rfl rfl) ?_
 refine bv (a7 rfl rfl (cz _)) (aJ hT rfl rfl rfl rfl (cs:=[_,_,_,_,_,_,_,_,_]) rfl rfl) ?_
 refine bv (a7 rfl rfl (cz _)) (ah (ce _ (by first | assumption | decide))) ?_
 refine bv (a7 rfl rfl (cz _)) (aR hT rfl rfl rfl (es:=[_,_,_,_,_,_,_,_,_]) rfl) ?_
 refine bv (a7 rfl rfl (cz _)) (ah (gW ⟨2,0,0,5,[],[]⟩ ⟨2,0,0,5,[],[]⟩ (by decide) (by decide))) ?_
 refine bv (a7 rfl rfl (cz _)) (bw rfl) ?_
 refine ab (aN rfl (cz _) (rfl:_=AV.p (.c _))) ?_
 refine ak rfl<|bv (a7 rfl rfl (cz _)) (aT hT rfl rfl rfl rfl rfl rfl) ?_
 refine bv (a7 rfl rfl (cz _)) (aJ hT rfl rfl rfl rfl (cs:=[_,_,_,_,_,_,_,_,_]) rfl rfl) ?_
 refine bv (a7 rfl rfl (cz _)) (aJ hT rfl rfl rfl rfl (cs:=[_,_,_,_,_,_,_,_,_]) rfl rfl) ?_
 refine bv (a7 rfl rfl (cz _)) (ah (gW ⟨3,0,0,0,[1],[⟨1,1,6⟩]⟩ ⟨3,0,0,0,[1],[⟨1,1,6⟩]⟩ (by decide) (by decide))) ?_
 refine bv (a7 rfl rfl (cz _)) (bw rfl) ?_
 refine ab (aN rfl (cz _) (rfl:_=AV.p (.c _))) ?_
 refine ak rfl<|bv (a7 rfl rfl (cz _)) (aT hT rfl rfl rfl rfl rfl rfl) ?_
 refine bv (a7 rfl rfl (cz _)) (aJ hT rfl rfl rfl rfl (cs:=[_,_,_,_,_,_,_,_,_]) rfl rfl) ?_
 refine bv (a7 rfl rfl (cz _)) (ah (ce _ (by first | assumption | decide))) ?_
 refine bv (a7 rfl rfl (cz _)) (aR hT rfl rfl rfl (es:=[_,_,_,_,_,_,_,_,_]) rfl) ?_
 refine bv (a7 rfl rfl (cz _)) (ah (gW ⟨2,0,0,5,[],[]⟩ ⟨2,0,0,5,[],[]⟩ (by decide) (by decide))) ?_
 refine bv (a7 rfl rfl (cz _)) (bw rfl) ?_
 refine ab (aN rfl (cz _) (rfl:_=AV.p (.c _))) ?_
 refine ag<|aQ rfl (cz _) ?_
 refine au<|ae hP<|ak rfl<|ab (b9 hT cf (by decide) (0,0) (n:=0) (l:=L8) rfl rfl rfl rfl rfl rfl (by omega)) ?_
 refine ab (cE hT rfl rfl rfl rfl rfl (by decide)) ?_
 refine ab (bf hT rfl rfl rfl (cs:=enI (L8.getD 0 (0,0)).1) rfl rfl) ?_
 refine ab (ah (ce _ (by first | assumption | decide))) ?_
 refine ab (ah (dT _ _)) ?_
 refine ak rfl<|bv (a7 rfl rfl (by rw [h80];decide)) (az (rfl:_=AV.p (.c _))) ?_
 refine bv (a7 rfl rfl (by rw [h80];decide)) (b9 hT cf (by decide) (0,0) (n:=0) (l:=L8) rfl rfl rfl rfl rfl rfl (by omega)) ?_
 refine bv (a7 rfl rfl (by rw [h80];decide)) (cE hT rfl rfl rfl rfl rfl (by decide)) ?_
 refine bv (a7 rfl rfl (by rw [h80];decide)) (bf hT rfl rfl rfl (cs:=enI (L8.getD 0 (0,0)).2) rfl rfl) ?_
 refine bv (a7 rfl rfl (by rw [h80];decide)) (ah (ce _ (by first | assumption | decide))) ?_
 refine bv (a7 rfl rfl (by rw [h80];decide)) (ah (dT _ _)) ?_
 refine ab (aO rfl (by rw [h80];decide) (rfl:_=AV.p (.c _))) ?_
 refine ak rfl<|bv (a7 rfl rfl (by rw [h80];decide)) (az (rfl:_=AV.p (.c _))) ?_
 iterate 4 refine bv (a7 rfl rfl (by rw [h80];decide)) (ah (ce _ (by first | assumption | decide))) ?_
 refine bv (a7 rfl rfl (by rw [h80];decide)) (bg hT rfl rfl rfl (es:=[_,_,_,_,_,_,_,_]) rfl rfl rfl) ?_
 refine bv (a7 rfl rfl (by rw [h80];decide)) (ah (mY [1,5,7,11] [1,5,7,11] (by decide))) ?_
 refine ab (aO rfl (by rw [h80];decide) (rfl:_=AV.p (.c _))) ?_
 refine ak rfl<|bv (a7 rfl rfl (by decide)) (aJ hT rfl rfl rfl rfl (cs:=[_,_,_,_,_,_]) rfl rfl) ?_
 refine bv (a7 rfl rfl (by decide)) (aT hT rfl rfl rfl rfl rfl rfl) ?_
 refine bv (a7 rfl rfl (by decide)) (aJ hT rfl rfl rfl rfl (cs:=[_,_,_,_,_,_,_,_,_]) rfl rfl) ?_
 refine bv (a7 rfl rfl (by decide)) (ah q7) ?_
 refine ab (aO rfl (by decide) (rfl:_=AV.p (.c _))) ?_
 refine ak rfl<|aA rfl (aJ hT rfl rfl rfl rfl (cs:=[_,_,_,_,_,_]) rfl rfl) ?_
 refine aA rfl (aT hT rfl rfl rfl rfl rfl rfl) ?_
 refine aA rfl (aJ hT rfl rfl rfl rfl (cs:=[_,_,_,_,_,_,_,_,_]) rfl rfl) ?_
 refine aA rfl (ah q8) ?_
 refine aA rfl (bw rfl) ?_
 refine ab (aO rfl rfl (rfl:_=AV.p (.c _)))<|aj rfl<|ag<|am<|E1 rfl rfl ?_
 exact .refl _
end
section
open Go Go.AM
end
section
open Go Go.AM
end
section
open Go Go.AM
end
section
open Go Go.AM
end
section
open Go Go.AM
end
section
open Go Go.AM
end
section
open Go Go.AM
end
section
open Go Go.AM
end
section
open Go Go.AM
end
section
open Go Go.AM
end
section
open Go Go.AM
end
section
open Go Go.AM
end
section
open Go Go.AM
end
section
open Go Go.AM
end
section
open Go Go.AM
end
section
open Go Go.AM
end
section
open Go Go.AM
end
section
open Go Go.AM
end
section
open Go Go.AM
theorem Ew (a:Int) (_ha:L 44 a) :
  aH Tryz.prog 235 [I a] (.t [.c (.v (.int .i64 (lwV a))),.c (.v (.bool (lwO a)))]):=by
 have ok:=bG a.natAbs
 have hv:=Lz a.natAbs
 refine aM Tryz.func235 rfl rfl rfl rfl ?_
 refine ae hP<|aq ai (aL rfl rfl)<|aj rfl<|aj rfl<|ag<|ae hP<|aI hT rfl<|bi hT rfl rfl rfl rfl ?_
 refine ab (ah (dM _ _ (by assumption))) ?_
 refine aI hT rfl<|bi hT rfl rfl rfl rfl ?_
 refine ab (ah (dM _ _ (by assumption))) ?_
 refine ab (iB (j:=32) rfl rfl (by decide) rfl) ?_
 refine ab (j6 rfl rfl (DF _)) ?_
 refine aj rfl<|ag<|ao<|ae hP<|aI hT rfl<|bi hT rfl rfl rfl rfl ?_
 refine ab (aX hT rfl rfl rfl (by rfl)) ?_
 refine ab (bJ rfl rfl)<|ak rfl ?_
 refine aY (t:=17) rfl (fun hg1=>?_) (fun hg1=>?_)
 ·have hg1_:=dT0 hg1
  have e2:=G7 (n:=a.natAbs) (by omega)
  refine aZ hg1 ?_
  refine aZ hg1 ?_
  refine ab (aO rfl hg1 (rfl:_=AV.p (.c _)))<|ak rfl<|aZ rfl ?_
  refine aZ rfl ?_
  refine aZ rfl ?_
  iterate 3 refine ff ?_
  refine aZ rfl ?_
  refine ab (aO rfl rfl (rfl:_=AV.p (.c _)))<|ag<|aU rfl rfl<|ae hP<|aj rfl<|aj rfl<|ag<|am<|E11 rfl rfl rfl ?_
  exact aF (sW (by omega))
 have hg1_:=dF0 hg1
 have e2:=LA (n:=a.natAbs) (by omega)
 refine aA hg1 (az (rfl:_=AV.p (.c _))) ?_
 refine aA hg1 (bJ rfl rfl) ?_
 refine ab (aN rfl hg1 (rfl:_=AV.p (.c _)))<|ak rfl ?_
 refine aY (t:=21) rfl (fun hg2=>?_) (fun hg2=>?_)
 ·have hg2_:=dT0 hg2
  iterate 3 refine aZ hg2 ?_
  iterate 3 refine ff ?_
  refine aZ hg2 ?_
  refine ab (aO rfl hg2 (rfl:_=AV.p (.c _)))<|ag<|aU rfl rfl<|ae hP<|aj rfl<|aj rfl<|ag<|am<|E11 rfl rfl rfl ?_
  exact aF (sW (by omega))
 have hg2_:=dF0 hg2
 refine aA hg2 (az (rfl:_=AV.p (.c _))) ?_
 refine aA hg2 (bj rfl rfl) ?_
 refine aA hg2 (az (rfl:_=AV.p (.c _))) ?_
 refine aY (t:=24) rfl (fun hg3=>?_) (fun hg3=>?_)
 ·have hg3_:=bT hg3
  refine aA hg3 (aT hT rfl rfl rfl rfl rfl rfl) ?_
  refine aA hg3 (bL hT rfl rfl rfl rfl (by first | rfl | exact eh (by omega))) ?_
  refine aA hg3 (bw rfl) ?_
  refine aA hg2 (aO rfl hg3 (rfl:_=AV.p (.c _))) ?_
  refine ab (aN rfl hg2 (rfl:_=AV.p (.c _)))<|ag ?_
  refine ay rfl (fun hb4=>?_) (fun hb4=>?_)
  ·have hb4_:=(bY hb4)
   have hz:¬ a < 0:=dF0 (bY hb4)
   refine ae hP<|aj rfl<|aj rfl<|ag<|am<|E11 rfl rfl rfl ?_
   exact aF (sW (by omega))
  have hb4_:=(bW hb4)
  have hz:a < 0:=dT0 (bW hb4)
  refine au<|ao<|ae hP<|aI hT rfl<|bi hT rfl rfl rfl rfl ?_
  refine ag ?_
  refine ay rfl (fun hb5=>?_) (fun hb5=>?_)
  ·have hs:a < 0:=dT0 (by assumption)
   refine ae hP<|ak rfl<|ab (bn hT rfl rfl rfl rfl (tj (by omega))) ?_
   refine ab (dV rfl (tm (by omega))) ?_
   refine aj rfl<|aj rfl<|ag<|am<|E11 rfl rfl rfl ?_
   exact aF (pV (by omega) (by omega))
  have hs:¬ a < 0:=dF0 (by assumption)
  refine au<|ae hP<|ak rfl<|ab (bn hT rfl rfl rfl rfl (by first | exact iW0 _ (by omega) | rfl)) ?_
  refine aj rfl<|aj rfl<|ag<|am<|E11 rfl rfl rfl ?_
  exact aF (pV (by omega) (by omega))
 have hg3_:=bF hg3
 iterate 3 refine aZ hg3 ?_
 refine aA hg2 (aN rfl hg3 (rfl:_=AV.p (.c _))) ?_
 refine ab (aN rfl hg2 (rfl:_=AV.p (.c _)))<|ag<|aQ rfl rfl<|au<|ao<|ae hP<|aI hT rfl<|bi hT rfl rfl rfl rfl ?_
 refine ag ?_
 refine ay rfl (fun hb6=>?_) (fun hb6=>?_)
 ·have hs:a < 0:=dT0 (by assumption)
  refine ae hP<|ak rfl<|ab (bn hT rfl rfl rfl rfl (tj (by omega))) ?_
  refine ab (dV rfl (tm (by omega))) ?_
  refine aj rfl<|aj rfl<|ag<|am<|E11 rfl rfl rfl ?_
  exact aF (pV (by omega) (by omega))
 have hs:¬ a < 0:=dF0 (by assumption)
 refine au<|ae hP<|ak rfl<|ab (bn hT rfl rfl rfl rfl (by first | exact iW0 _ (by omega) | rfl)) ?_
 refine aj rfl<|aj rfl<|ag<|am<|E11 rfl rfl rfl ?_
 exact aF (pV (by omega) (by omega))
theorem kv (a m:Int) (ha:L 44 a) (hm:2≤m∧m≤8) :
  aH Tryz.prog 236 [I a,Z m] (Z (a % m)):=by
 have ia:LB a 44:=⟨ha⟩
 have jm:bu m:=by unfold bu;omega
 have im:LB m 6:=⟨by unfold L;omega⟩
 have h1:=Int.emod_nonneg a (show m≠0 by omega)
 have h2:=Int.emod_lt_of_pos a (show 0 < m by omega)
 have cl:=Ew (a % m) lz
 rw [EI (x:=a % m) (by omega) (by omega)] at cl
 refine aM Tryz.func236 rfl rfl rfl rfl ?_
 refine ae hP<|aq ai (aL rfl rfl)<|aj rfl<|ag<|ae hP<|av hT rfl<|ak rfl<|ab (ah (ce _ (by first | assumption | decide))) ?_
 refine ab (ah (j5 _ _ lz lz (by omega))) ?_
 refine ab (ah cl) ?_
 refine ab (az (rfl:_=AV.t _))<|ab (aD rfl (v:=.c _) rfl)<|ab (aD rfl (v:=.c _) rfl)<|aj rfl<|aj rfl<|ag<|ae hP<|ak rfl<|aj rfl<|ag<|am<|E1 rfl rfl ?_
 exact .refl _
theorem JR (a:Int) (ha:L 44 a) :
  aH Tryz.prog 237 [I a] (Z (if a % 2=0 then 0 else sg8 a)):=by
 have ia:LB a 44:=⟨ha⟩
 have h1:=Int.emod_nonneg a (show (8:Int)≠0 by decide)
 have h2:=Int.emod_lt_of_pos a (show (0:Int) < 8 by decide)
 refine aM Tryz.func237 rfl rfl rfl rfl ?_
 refine ae hP<|aq ai (aL rfl rfl)<|aj rfl<|ag<|ae hP<|av hT rfl<|ab (ah (kv _ _ lz (by decide))) ?_
 refine aj rfl<|ag<|ao<|ae hP<|ak rfl<|ab (bM rfl rfl (by decide) (c:=a % 8 % 2) (Int.tmod_eq_emod_of_nonneg (by omega))) ?_
 refine ab (bj rfl rfl)<|ag ?_
 refine ay rfl (fun hb1=>?_) (fun hb1=>?_)
 ·have hb1_:=bT hb1
  refine ae hP<|aj rfl<|ag<|am<|E1 rfl rfl ?_
  exact aK (LG hb1_)
 have hb1_:=bF hb1
 refine au<|ao<|ae hP<|ak rfl<|ab (bj rfl rfl)<|ak rfl ?_
 refine aY (t:=11) rfl (fun hg2=>?_) (fun hg2=>?_)
 ·have hg2_:=bT hg2
  refine aZ hg2 ?_
  refine aZ hg2 ?_
  refine ab (aO rfl hg2 (rfl:_=AV.p (.c _)))<|ag<|aU rfl rfl<|ae hP<|aj rfl<|ag<|am<|E1 rfl rfl ?_
  exact aK (Eb hb1_ (.inl hg2_))
 have hg2_:=bF hg2
 refine aA hg2 (az (rfl:_=AV.p (.c _))) ?_
 refine aA hg2 (bj rfl rfl) ?_
 refine ab (aN rfl hg2 (rfl:_=AV.p (.c _)))<|ag ?_
 refine ay rfl (fun hb3=>?_) (fun hb3=>?_)
 ·have hb3_:=bT hb3
  refine ae hP<|aj rfl<|ag<|am<|E1 rfl rfl ?_
  exact aK (Eb hb1_ (.inr hb3_))
 have hb3_:=bF hb3
 refine au<|ae hP<|aj rfl<|ag<|am<|E1 rfl rfl ?_
 exact aK (LD hb1_ (fun x=>x.elim hg2_ hb3_))
theorem iQ (a n:Int) (ha:L 40 a) (hn:L 40 n) (h0:0 < n) (ho:n % 2=1) :
  aH Tryz.prog 203 [I a,I n] (Z (kr a n)):=by
 have ia:LB a 40:=⟨ha⟩
 have im:LB n 40:=⟨hn⟩
 have hna:((n.natAbs:Nat):Int)=n:=by omega
 have imn:LB (n.natAbs:Int) 40:=⟨by rw [hna];exact hn⟩
 have cA:=nO n
 rw [hna] at cA
 have hn0:n≠0:=by omega
 refine aM Tryz.func203 rfl rfl rfl rfl ?_
 refine ae hP<|aq ai (aL rfl rfl)<|aq ai (aL rfl rfl)<|aj rfl<|ag<|ao<|ae hP<|av hT rfl<|ab (ah (dS _)) ?_
 refine ab (bj rfl rfl)<|ag<|aQ rfl (decide_eq_false (fun e=>by rw [sgn_zero_iff] at e;omega)) ?_
 refine au<|ae hP<|aj rfl<|ag<|ao<|ae hP<|av hT rfl<|ab (ah (dS _)) ?_
 refine ab (bh rfl rfl)<|ak rfl<|lK (gq rfl rfl (decide_eq_false (fun e=>by rw [sgn_lt_iff] at e;omega))) ?_
 refine lK (gq rfl rfl (decide_eq_false (fun e=>by rw [sgn_lt_iff] at e;omega))) ?_
 refine lK (gq rfl rfl (decide_eq_false (fun e=>by rw [sgn_lt_iff] at e;omega))) ?_
 refine ab (aN rfl (decide_eq_false (fun e=>by rw [sgn_lt_iff] at e;omega)) (rfl:_=AV.p (.c _))) ?_
 refine ag<|aQ rfl rfl<|au<|ae hP<|av hT rfl<|ab (ah cA) ?_
 refine aG hT rfl<|ag<|ao<|aC<|ee 1 ?_
 refine ao<|ae hP<|av hT rfl<|ab (ah (kv _ _ lz (by decide))) ?_
 refine ab (bj rfl rfl)<|ag<|aQ rfl (decide_eq_false (by omega)) ?_
 refine aW<|ae hP<|av hT rfl<|av hT rfl<|ab (ah (j5 _ _ lz lz (by omega))) ?_
 refine aG hT rfl<|ag<|ao<|aC<|bl (ι:=(Int × Int × Int) × Nat) (fun i=>stL [(2,.loc 2 0),(3,.loc 3 0),(5,Z i.1.1)] [(2,⟨false,1,29,[zn (i.1.2.1),zm (i.1.2.1)]⟩),(3,⟨false,1,29,[zn (i.1.2.2),zm (i.1.2.2)]⟩)]) (fun i=>KrI (RK_ a n) i.2 i.1.1 i.1.2.1 i.1.2.2∧i.1.2.2 % 2=1) (fun i=>i.1.2.1.natAbs) ((1,a % n,n),_) ⟨KrI.startO h0 ho ha hn,ho⟩ (aE ⟨.refl _,.refl _,.refl _,trivial⟩ ⟨rfl,rfl,trivial⟩) ?_
 rintro i ⟨hI,hIo⟩
 have h5:=hI.hk
 have hs8:=Ei i.1.2.2
 have j1:LB i.1.2.1 40:=⟨hI.la⟩
 have j2:LB i.1.2.2 40:=⟨hI.ln⟩
 have ct:=JR i.1.2.2 lz
 rw [if_neg (show ¬ i.1.2.2 % 2=0 by omega)] at ct
 refine ao<|ae hP<|av hT rfl<|ab (ah (dS _)) ?_
 refine ab (bq rfl rfl)<|ag ?_
 refine ay rfl (fun hb2=>?_) (fun hb2=>?_)
 ·have hb2_:=b8 hb2
  have hapos:0 < i.1.2.1:=by have:=hI.a0;have:i.1.2.1≠0:=fun e=>hb2_ (sgn_zero_iff.2 e);omega
  have hne:i.1.2.1≠0:=by omega
  refine au<|aC<|ao<|aC<|bl (ι:=Int × Int) (fun p=>stL [(2,.loc 2 0),(3,.loc 3 0),(5,Z (ow i.1.1 (sg8 i.1.2.2) p.2))] [(2,⟨false,1,29,[zn (p.1),zm (p.1)]⟩),(3,⟨false,1,29,[zn (i.1.2.2),zm (i.1.2.2)]⟩)]) (fun p=>TwI i.1.2.1 p.1 p.2) (fun p=>p.1.natAbs) (i.1.2.1,0) (TwI.start hI.la hne) (aE ⟨.refl _,.refl _,.refl _,trivial⟩ ⟨rfl,rfl,trivial⟩) ?_
  rintro p hJ
  have j3:LB p.1 40:=⟨hJ.lb⟩
  have hob:=NO (k:=p.2) h5 hs8
  have hpk:=qS (x:=i.1.2.2) hob
  have hp0:=hJ.ne
  refine ao<|ae hP<|av hT rfl<|ab (ah (kv _ _ lz (by decide))) ?_
  refine ab (bj rfl rfl)<|ag ?_
  refine ay rfl (fun hb3=>?_) (fun hb3=>?_)
  ·have hb3_:=bT hb3
   refine au<|aC<|ae hP<|av hT rfl<|ab (ah (ce _ (by first | assumption | decide))) ?_
   refine ab (ah (nN _ _ lz lz (by decide))) ?_
   refine aG hT rfl<|ag<|aw hP<|ak rfl<|av hT rfl<|ab (ah ct) ?_
   refine ab (bQ rfl rfl (by first | exact iW0 _ (by omega) | rfl)) ?_
   refine aj rfl<|ag ?_
   refine ⟨(p.1 / 2,p.2+1),(hJ.next (EF hb3_)).1,(hJ.next (EF hb3_)).2,aE ⟨.refl _,.refl _,aK (by rw [← GX (nH hIo)]),trivial⟩ ⟨rfl,rfl,trivial⟩⟩
  have hb3_:=bF hb3
  have htw:=wi (yt (pT hb3_)) hJ.tw
  refine aW<|ao<|ae hP<|av hT rfl<|ab (ah (kv _ _ lz (by decide))) ?_
  refine ab (bj rfl rfl)<|ak rfl ?_
  refine aY (t:=55) rfl (fun hg4=>?_) (fun hg4=>?_)
  ·have hg4_:=bT hg4
   refine aA hg4 (aJ hT rfl rfl rfl rfl (cs:=[_,_]) rfl rfl) ?_
   refine aA hg4 (ah (kv _ _ lz (by decide))) ?_
   refine aA hg4 (bj rfl rfl) ?_
   refine ab (aO rfl hg4 (rfl:_=AV.p (.c _)))<|ag ?_
   refine ay rfl (fun hb5=>?_) (fun hb5=>?_)
   ·have hb5_:=bT hb5
    refine aw hP<|ak rfl<|ab (dV rfl (by first | exact iW0 _ (by omega) | rfl)) ?_
    refine aj rfl<|ag<|ae hP<|av hT rfl<|av hT rfl<|ab (ah (j5 _ _ lz lz (by omega))) ?_
    refine aq ai (aB hT rfl rfl)<|aG hT rfl<|ag<|ae hP<|av hT rfl<|aG hT rfl<|ag<|aw hP<|av hT rfl<|aG hT rfl<|ag ?_
    refine ⟨((k2F (k1F i.1.1 i.1.2.1 i.1.2.2) i.1.2.1 i.1.2.2,i.1.2.2 % p.1,p.1),i.2 - 1),⟨(hI.nextO hapos htw).1,pT hb3_⟩,(hI.nextO hapos htw).2,aE ⟨.refl _,.refl _,aK (by rw [← KA htw hg4_ hb5_]),trivial⟩ ⟨rfl,rfl,trivial⟩⟩
   have hb5_:=bF hb5
   refine au<|ae hP<|av hT rfl<|av hT rfl<|ab (ah (j5 _ _ lz lz (by omega))) ?_
   refine aq ai (aB hT rfl rfl)<|aG hT rfl<|ag<|ae hP<|av hT rfl<|aG hT rfl<|ag<|aw hP<|av hT rfl<|aG hT rfl<|ag ?_
   refine ⟨((k2F (k1F i.1.1 i.1.2.1 i.1.2.2) i.1.2.1 i.1.2.2,i.1.2.2 % p.1,p.1),i.2 - 1),⟨(hI.nextO hapos htw).1,pT hb3_⟩,(hI.nextO hapos htw).2,aE ⟨.refl _,.refl _,aK (EL htw (fun x=>hb5_ x.2)),trivial⟩ ⟨rfl,rfl,trivial⟩⟩
  have hg4_:=bF hg4
  iterate 3 refine aZ hg4 ?_
  refine ab (aN rfl hg4 (rfl:_=AV.p (.c _)))<|ag<|aQ rfl rfl<|au<|ae hP<|av hT rfl<|av hT rfl<|ab (ah (j5 _ _ lz lz (by omega))) ?_
  refine aq ai (aB hT rfl rfl)<|aG hT rfl<|ag<|ae hP<|av hT rfl<|aG hT rfl<|ag<|aw hP<|av hT rfl<|aG hT rfl<|ag ?_
  refine ⟨((k2F (k1F i.1.1 i.1.2.1 i.1.2.2) i.1.2.1 i.1.2.2,i.1.2.2 % p.1,p.1),i.2 - 1),⟨(hI.nextO hapos htw).1,pT hb3_⟩,(hI.nextO hapos htw).2,aE ⟨.refl _,.refl _,aK (EL htw (fun x=>hg4_ x.1)),trivial⟩ ⟨rfl,rfl,trivial⟩⟩
 have hb2_:=bU hb2
 refine aW<|ao<|ae hP<|av hT rfl<|ab (ah (ce _ (by first | assumption | decide))) ?_
 refine ab (ah (dT _ _)) ?_
 refine ab (bw rfl)<|ag ?_
 refine ay rfl (fun hb6=>?_) (fun hb6=>?_)
 ·have hb6_:=(bY hb6)
  refine ae hP<|aj rfl<|ag<|am<|E1 rfl rfl ?_
  exact aK (by rw [Ak h0 ho,hI.stop (fun h=>by have:=sgn_zero_iff.1 hb2_;omega),if_neg (dF0 (bY hb6))])
 have hb6_:=(bW hb6)
 refine au<|ae hP<|ak rfl<|aj rfl<|ag<|am<|E1 rfl rfl ?_
 exact aK (by rw [Ak h0 ho,hI.stop (fun h=>by have:=sgn_zero_iff.1 hb2_;omega),if_pos (dT0 (bW hb6))])
end
section
open Go Go.AM
theorem rI (c n:Int) (hc:(c=-4∨c=8∨c=-8)∨(3≤c∧c % 2=1)) (hcb:-8≤c∧c≤4194304) (hn:L 40 n) (h0:0 < n) (ho:n % 2=1) :
  aH Tryz.prog 161 [Z c,I n] (Z (cv c n)):=by
 have jc:bu c:=by unfold bu;omega
 have ic:LB c 6:=⟨by unfold L;omega⟩
 have inn:LB n 40:=⟨hn⟩
 refine aM Tryz.func161 rfl rfl rfl rfl ?_
 refine ae hP<|aq ai (aL rfl rfl)<|aj rfl<|ag<|ao<|ae hP<|ak rfl<|ab (bj rfl rfl)<|ak rfl ?_
 refine aY (t:=7) rfl (fun hg1=>?_) (fun hg1=>?_)
 ·have hg1_:=bT hg1
  refine aZ hg1 ?_
  refine aZ hg1 ?_
  refine ab (aO rfl hg1 (rfl:_=AV.p (.c _)))<|ak rfl<|aZ rfl ?_
  refine aZ rfl ?_
  refine ab (aO rfl rfl (rfl:_=AV.p (.c _)))<|ag<|aU rfl rfl<|ae hP<|ak rfl<|ab (ah (ce c jc)) ?_
  refine av hT rfl<|ab (ah (iQ c n lz lz h0 ho)) ?_
  refine aj rfl<|ag<|am<|E1 rfl rfl ?_
  exact aK (ml h0 ho (.inl hg1_))
 have hg1_:=bF hg1
 refine aA hg1 (az (rfl:_=AV.p (.c _))) ?_
 refine aA hg1 (bj rfl rfl) ?_
 refine ab (aN rfl hg1 (rfl:_=AV.p (.c _)))<|ak rfl ?_
 refine aY (t:=11) rfl (fun hg2=>?_) (fun hg2=>?_)
 ·have hg2_:=bT hg2
  refine aZ hg2 ?_
  refine aZ hg2 ?_
  refine ab (aO rfl hg2 (rfl:_=AV.p (.c _)))<|ag<|aU rfl rfl<|ae hP<|ak rfl<|ab (ah (ce c jc)) ?_
  refine av hT rfl<|ab (ah (iQ c n lz lz h0 ho)) ?_
  refine aj rfl<|ag<|am<|E1 rfl rfl ?_
  exact aK (ml h0 ho (.inr (.inl hg2_)))
 have hg2_:=bF hg2
 refine aA hg2 (az (rfl:_=AV.p (.c _))) ?_
 refine aA hg2 (bj rfl rfl) ?_
 refine ab (aN rfl hg2 (rfl:_=AV.p (.c _)))<|ag ?_
 refine ay rfl (fun hb3=>?_) (fun hb3=>?_)
 ·have hb3_:=bT hb3
  refine ae hP<|ak rfl<|ab (ah (ce c jc)) ?_
  refine av hT rfl<|ab (ah (iQ c n lz lz h0 ho)) ?_
  refine aj rfl<|ag<|am<|E1 rfl rfl ?_
  exact aK (ml h0 ho (.inr (.inr hb3_)))
 have hb3_:=bF hb3
 refine au<|ae hP<|av hT rfl<|ak rfl<|ab (ah (ce c jc)) ?_
 refine ab (ah (iQ n c lz lz (by omega) (by omega))) ?_
 refine aj rfl<|ag<|am<|E1 rfl rfl ?_
 exact aK (qe (fun x=>x.elim hg1_ (fun x=>x.elim hg2_ hb3_)))
theorem vS (n d:Int) (hn:L 40 n) (hd:L 40 d) :
  aH Tryz.prog 201 [I n,I d] (B (decide (((Int.gcd n (2*d):Nat):Int)=1))):=by
 have i1:LB n 40:=⟨hn⟩
 have i2:LB d 40:=⟨hd⟩
 refine aM Tryz.func201 rfl rfl rfl rfl ?_
 refine ae hP<|aq ai (aL rfl rfl)<|aq ai (aL rfl rfl)<|aj rfl<|ag<|ae hP<|av hT rfl<|ab (ah (ce _ (by first | assumption | decide))) ?_
 refine av hT rfl<|ab (ah (dJ _ _ lz lz)) ?_
 refine ab (ah (pI _ _ lz lz)) ?_
 refine ab (ah (ce _ (by first | assumption | decide))) ?_
 refine ab (ah (dT _ _)) ?_
 refine aj rfl<|ag<|am<|E1 rfl rfl ?_
 exact .refl _
end
section
open Go Go.AM
theorem ou (d:Int) (hd:L 40 d) :
  aH Tryz.prog 198 [I d] (.t [PE (gnV d),PE (szE d)]):=by
 have id0:LB d 40:=⟨hd⟩
 have hm0:=Int.emod_nonneg d (show (4:Int)≠0 by omega)
 have hm1:=Int.emod_lt_of_pos d (show (0:Int) < 4 by omega)
 refine aM Tryz.func198 rfl rfl rfl rfl ?_
 refine ae hP<|aq ai (aL rfl rfl)<|aj rfl<|aj rfl<|ag<|ao<|ae hP<|av hT rfl<|ab (ah (dS _)) ?_
 refine ab (dp rfl rfl)<|ag ?_
 refine ay rfl (fun hb1=>?_) (fun hb1=>?_)
 ·have hb1_:=dT0 hb1
  refine ae hP<|aj rfl<|aj rfl<|ag<|am<|E11 rfl rfl rfl ?_
  exact aF (yK (.inl (sgn_ge_iff.1 hb1_)))
 have hb1_:=dF0 hb1
 refine au<|ae hP<|av hT rfl<|ab (ah (ce 4 (by decide))) ?_
 refine ab (ah (j5 _ _ lz lz (by decide))) ?_
 refine aq ai (aB hT rfl rfl)<|aG hT rfl<|ag<|ao<|ae hP<|av hT rfl<|ab (ah (ce 1 (by decide))) ?_
 refine ab (ah (gR _ _)) ?_
 refine ab (bJ rfl rfl)<|ag ?_
 refine ay rfl (fun hb2=>?_) (fun hb2=>?_)
 ·have hb2_:=dT0 hb2
  refine ae hP<|aj rfl<|aj rfl<|ag<|am<|E11 rfl rfl rfl ?_
  exact aF (yK (.inr (cmpI_gt_zero.1 hb2_)))
 have hb2_:=dF0 hb2
 have hn:¬ (0≤d∨d % 4 > 1):=fun h=>h.elim (fun x=>hb1_ (sgn_ge_iff.2 x)) (fun x=>hb2_ (cmpI_gt_zero.2 x))
 refine au<|ae hP<|av hT rfl<|ab (ah (Ew d lz)) ?_
 refine ab (az (rfl:_=AV.t _))<|ab (aD rfl (v:=.c _) rfl)<|ab (aD rfl (v:=.c _) rfl)<|aj rfl<|aj rfl<|ag<|ao<|ae hP<|av hT rfl<|ab (ah (ce (-4194304) (by decide))) ?_
 refine ab (ah (gR _ _)) ?_
 refine ab (bh rfl rfl)<|ag ?_
 refine ay rfl (fun hb3=>?_) (fun hb3=>?_)
 ·have hb3_:=dT0 hb3
  refine ae hP<|aj rfl<|aj rfl<|ag<|am<|E11 rfl rfl rfl ?_
  exact aF (C3 hn (by have:=cmpI_lt_zero.1 hb3_;omega))
 have hb3_:=dF0 hb3
 have hlt:¬ d < -4194304:=fun h=>hb3_ (cmpI_lt_zero.2 h)
 have hly:=qR (a:=d) (by omega)
 refine au<|ae hP<|ak rfl<|aj rfl<|aj rfl<|ag<|am<|E11 rfl rfl rfl ?_
 exact aF (by rw [hly.2];exact KL hn (by omega))
theorem zP (f:Fm) (hfa:L 6 f.a) (hfb:L 6 f.b) (hfc:L 6 f.c) :
  aH Tryz.prog 200 [FA f.a f.b f.c] (.t [PE (gpV f),PE (gpE f)]):=by
 have ifa:LB f.a 6:=⟨hfa⟩
 have ifb:LB f.b 6:=⟨hfb⟩
 have ifc:LB f.c 6:=⟨hfc⟩
 refine aM Tryz.func200 rfl rfl rfl rfl ?_
 refine ae hP<|aq ai (aL rfl rfl)<|aj rfl<|aj rfl<|ag<|ae hP<|br hT rfl rfl rfl rfl rfl rfl<|ab (ah (l4 f.a f.b f.c lz lz lz)) ?_
 refine aj rfl<|ag<|ao<|ae hP<|ak rfl<|ab (bq rfl rfl)<|ag ?_
 refine ay rfl (fun hb1=>?_) (fun hb1=>?_)
 ·have hb1_:=b8 hb1
  refine ae hP<|ak rfl<|aj rfl<|aj rfl<|ag<|am<|E11 rfl rfl rfl ?_
  exact aF (KK hb1_)
 have hb1_:=bU hb1
 refine au<|ae hP<|br hT rfl rfl rfl rfl rfl rfl<|ab (ah (gx f.a f.b f.c lz lz lz)) ?_
 refine ab (ah (ou _ lz)) ?_
 refine ab (az (rfl:_=AV.t _))<|ab (aD rfl (v:=.c _) rfl)<|ab (aD rfl (v:=.c _) rfl)<|aj rfl<|aj rfl<|ag<|ao<|ae hP<|ak rfl<|ab (bq rfl rfl)<|ag ?_
 refine ay rfl (fun hb2=>?_) (fun hb2=>?_)
 ·have hb2_:=b8 hb2
  refine ae hP<|ak rfl<|aj rfl<|aj rfl<|ag<|am<|E11 rfl rfl rfl ?_
  exact aF (MK hb1_ hb2_)
 have hb2_:=bU hb2
 refine au<|ao<|ae hP<|br hT rfl rfl rfl rfl rfl rfl<|ab (ah (iP f.a f.b f.c lz lz lz)) ?_
 refine ab (bw rfl)<|ag ?_
 refine ay rfl (fun hb3=>?_) (fun hb3=>?_)
 ·have hb3_:=(bY hb3)
  refine ae hP<|aj rfl<|aj rfl<|ag<|am<|E11 rfl rfl rfl ?_
  exact aF (KJ hb1_ hb2_ (bY hb3))
 have hb3_:=(bW hb3)
 refine au<|ae hP<|ak rfl<|aj rfl<|aj rfl<|ag<|am<|E11 rfl rfl rfl ?_
 exact aF (MM hb1_ hb2_ (bW hb3))
theorem lu (d:Int) (h0:d < 0) (h1:-4194304≤d) :
  aH Tryz.prog 199 [Z d] (.p (.c (IS (chs d)))):=by
 refine aM Tryz.func199 rfl rfl rfl rfl ?_
 refine ae hP<|aj rfl<|ag<|ae hP<|aq ai (dB hT rfl rfl rfl (es:=[]) rfl rfl rfl) ?_
 refine ab (a8 (rfl:_=AV.vec _))<|ag<|cL 7 1000 rfl rfl rfl ?_
 refine ae hP<|ak rfl<|ab (dV rfl (c:=-d) (by rw [iW0 _ (by omega)];omega)) ?_
 refine aj rfl<|ag<|ao<|aC<|bl (ι:=Int) (fun m=>stL [(0,Z d),(3,.vec 1000),(4,Z m)] [(1000,IB 3 ([]))]) (fun m=>(0 < m∧m≤4194304)∧rmp m 2=(rmp (-d) 2)) (fun m=>m.toNat) (-d) ⟨by omega,rfl⟩ (aE ⟨.refl _,.refl _,.refl _,trivial⟩ ⟨rfl,trivial⟩) ?_
 rintro m ⟨hm,hr⟩
 refine ao<|ae hP<|ak rfl<|ab (bM rfl rfl (by omega) (c:=m % 2) (Int.tmod_eq_emod_of_nonneg (by omega))) ?_
 refine ab (bj rfl rfl)<|ag ?_
 refine ay rfl (fun hb1=>?_) (fun hb1=>?_)
 ·have hb1_:=bT hb1
  refine au<|aC<|aw hP<|ak rfl<|ab (cZ rfl rfl (by omega) (c:=m / 2) (by rw [Int.tdiv_eq_ediv_of_nonneg (by omega),iW0 _ (by omega)])) ?_
  refine aj rfl<|ag ?_
  have hdd:=gG hm.1 (by decide) hb1_
  refine ⟨m / 2,⟨by omega,by rw [gZ (by decide) hm.1 hb1_,hr]⟩,by omega,aE ⟨.refl _,.refl _,.refl _,trivial⟩ ⟨rfl,trivial⟩⟩
 have hb1_:=bF hb1
 refine aW<|ao<|ae hP<|aj rfl<|ag<|aC ?_
 have hm2:m=(rmp (-d) 2):=by rw [← hr,iM hb1_]
 refine bl (ι:=Int × Int × List Int) (fun q=>stL [(0,Z d),(3,.vec 1000),(4,Z q.1),(5,Z q.2.1)] [(1000,IB 3 (q.2.2))]) (fun q=>OcI (rmp (-d) 2) q.1 q.2.1 q.2.2∧q.2.1≤2051) (fun q=>(5000 - q.2.1).toNat) (m,3,[]) ⟨by have:=OcI.start (n:=m) (by omega) (by omega) (by omega);rw [hm2] at this ⊢;exact this,by simp only;omega⟩ (aE ⟨.refl _,.refl _,.refl _,.refl _,trivial⟩ ⟨rfl,trivial⟩) ?_
 rintro q ⟨i,hp51⟩
 have in1:=i.n1
 have inb:=i.nb
 have ip3:=i.p3
 have il:=i.len.1
 have hsq:=kP (x:=q.2.1) (m:=2051) (by omega)
 refine ao<|ae hP<|ak rfl<|ak rfl<|ab (bQ rfl rfl (by first | exact iW0 _ (by omega) | rfl)) ?_
 refine ak rfl<|ab (ej rfl rfl)<|ag ?_
 refine ay rfl (fun hb2=>?_) (fun hb2=>?_)
 ·have hb2_:=dT0 hb2
  have hst:=i.stepR hb2_
  have hp48:q.2.1≤2048:=by
   have h9:3*3≤q.2.1*q.2.1:=Int.mul_le_mul ip3 ip3 (by omega) (by omega)
   exact i.sq (by omega) hb2_
  refine au<|ao<|aC<|gw 29 1000 (ι:=Unit) (fun _=>stL [(0,Z d),(3,.vec 1000),(4,Z q.1),(5,Z q.2.1)] [(1000,IB 3 (oT q.1 q.2.1 q.2.2))]) (fun _=>True) rfl rfl ?_ ?_
  ·refine ae hP<|ak rfl<|ak rfl<|ab (bM rfl rfl (by omega) (c:=q.1 % q.2.1) (Int.tmod_eq_emod_of_nonneg (by omega))) ?_
   refine ab (bj rfl rfl)<|ag ?_
   refine ay rfl (fun hb3=>?_) (fun hb3=>?_)
   ·have hb3_:=bT hb3
    refine aw hP<|ab (az (rfl:_=AV.vec _))<|ak rfl<|ab (bg hT rfl rfl rfl (es:=[_]) rfl rfl rfl)<|RK.app ai (dN (z:=q.2.1) hT rfl rfl rfl rfl rfl rfl rfl rfl (by omega) (by decide)) ?_
    refine ab (a8 (rfl:_=AV.vec _))<|ag ?_
    refine ⟨(),trivial,.inr ⟨_,rfl,rfl,aE ⟨.refl _,.refl _,.refl _,.refl _,trivial⟩ ⟨Eq.trans rfl (congrArg (fun x=>some (IB 3 x)) (show q.2.2 ++ [q.2.1]=oT q.1 q.2.1 q.2.2 from (if_pos hb3_).symm)),trivial⟩⟩⟩
   have hb3_:=bF hb3
   refine au ?_
   refine ⟨(),trivial,.inl (aE ⟨.refl _,.refl _,.refl _,.refl _,trivial⟩ ⟨Eq.trans rfl (congrArg (fun x=>some (IB 3 x)) (show q.2.2=oT q.1 q.2.1 q.2.2 from (if_neg hb3_).symm)),trivial⟩)⟩
  intro _ _
  refine aC<|bl (ι:=Int) (fun m=>stL [(0,Z d),(3,.vec 1000),(4,Z m),(5,Z q.2.1)] [(1000,IB 3 (oT q.1 q.2.1 q.2.2))]) (fun m=>(0 < m∧m≤4194304)∧rmp m q.2.1=rmp q.1 q.2.1) (fun m=>m.toNat) q.1 ⟨by omega,rfl⟩ (aE ⟨.refl _,.refl _,.refl _,.refl _,trivial⟩ ⟨rfl,trivial⟩) ?_
  rintro m ⟨hm,hrm⟩
  refine ao<|ae hP<|ak rfl<|ak rfl<|ab (bM rfl rfl (by omega) (c:=m % q.2.1) (Int.tmod_eq_emod_of_nonneg (by omega))) ?_
  refine ab (bj rfl rfl)<|ag ?_
  refine ay rfl (fun hb4=>?_) (fun hb4=>?_)
  ·have hb4_:=bT hb4
   have hdd:=gG hm.1 (by omega) ‹m % q.2.1=0›
   refine au<|aC<|aw hP<|ak rfl<|ak rfl<|ab (cZ rfl rfl (by omega) (c:=m / q.2.1) (by rw [Int.tdiv_eq_ediv_of_nonneg (by omega),iW0 _ (by omega)])) ?_
   refine aj rfl<|ag ?_
   refine ⟨m / q.2.1,⟨by omega,by rw [gZ (by omega) hm.1 ‹m % q.2.1=0›,hrm]⟩,by omega,aE ⟨.refl _,.refl _,.refl _,.refl _,trivial⟩ ⟨rfl,trivial⟩⟩
  have hb4_:=bF hb4
  refine aW<|aw hP<|ak rfl<|bA rfl rfl ?_
  refine aj rfl<|ag ?_
  refine ⟨(rmp q.1 q.2.1,q.2.1+2,oT q.1 q.2.1 q.2.2),⟨hst,by simp only;omega⟩,by simp only;omega,aE ⟨.refl _,.refl _,aK (by rw [← hrm,iM ‹m % q.2.1≠0›]),.refl _,trivial⟩ ⟨rfl,trivial⟩⟩
 have hb2_:=dF0 hb2
 have hend:=i.endR hb2_
 refine aW<|gw 42 1000 (ι:=Unit) (fun _=>stL [(0,Z d),(3,.vec 1000)] [(1000,IB 3 (gj (rmp (-d) 2)))]) (fun _=>True) rfl rfl ?_ ?_
 ·refine ae hP<|ak rfl<|ab (bJ rfl rfl)<|ag ?_
  refine ay rfl (fun hb5=>?_) (fun hb5=>?_)
  ·have hb5_:=dT0 hb5
   refine aw hP<|ab (az (rfl:_=AV.vec _))<|ak rfl<|ab (bg hT rfl rfl rfl (es:=[_]) rfl rfl rfl)<|RK.app ai (dN (z:=q.1) hT rfl rfl rfl rfl rfl rfl rfl rfl (by omega) (by decide)) ?_
   refine ab (a8 (rfl:_=AV.vec _))<|ag ?_
   refine ⟨(),trivial,.inr ⟨_,rfl,rfl,aE ⟨.refl _,.refl _,trivial⟩ ⟨Eq.trans rfl (congrArg (fun x=>some (IB 3 x)) (by rw [← hend,if_pos ‹q.1 > 1›])),trivial⟩⟩⟩
  have hb5_:=dF0 hb5
  refine au ?_
  refine ⟨(),trivial,.inl (aE ⟨.refl _,.refl _,trivial⟩ ⟨Eq.trans rfl (congrArg (fun x=>some (IB 3 x)) (by rw [← hend,if_neg ‹¬ q.1 > 1›])),trivial⟩)⟩
 intro _ _
 refine ao<|ae hP<|ak rfl<|ab (bM rfl rfl (by decide) (c:=d.tmod 4) rfl) ?_
 refine ab (bq rfl rfl)<|ag ?_
 refine ay rfl (fun hb6=>?_) (fun hb6=>?_)
 ·have hb6_:=b8 hb6
  refine ae hP<|ab (az (rfl:_=AV.vec _))<|ab (a8 (rfl:_=AV.vec _))<|ag<|gQ (t:=2) rfl rfl ?_
  refine am<|E1 rfl rfl ?_
  exact aF (by rw [EX ‹d.tmod 4≠0›])
 have hb6_:=bU hb6
 refine au<|ae hP<|ak rfl<|ab (dV rfl (c:=-d) (by rw [iW0 _ (by omega)];omega)) ?_
 refine ab (cZ rfl rfl (by omega) (c:=-d / 4) (by rw [Int.tdiv_eq_ediv_of_nonneg (by omega),iW0 _ (by omega)])) ?_
 refine aj rfl<|ag<|gw 65 1000 (ι:=Unit) (fun _=>stL [(3,.vec 1000),(6,Z (-d / 4))] [(1000,IB 3 (gj (rmp (-d) 2) ++ sA1 (-d / 4)))]) (fun _=>True) rfl rfl ?_ ?_
 ·refine ae hP<|ak rfl<|ab (bM rfl rfl (by omega) (c:=-d / 4 % 4) (Int.tmod_eq_emod_of_nonneg (by omega))) ?_
  refine ab (bj rfl rfl)<|ak rfl ?_
  refine aY (t:=53) rfl (fun hg7=>?_) (fun hg7=>?_)
  ·have hg7_:=bT hg7
   iterate 3 refine aZ hg7 ?_
   refine ab (aO rfl hg7 (rfl:_=AV.p (.c _)))<|ak rfl<|aZ rfl ?_
   refine aZ rfl ?_
   refine aZ rfl ?_
   refine ab (aO rfl rfl (rfl:_=AV.p (.c _)))<|ag<|aU rfl rfl<|aw hP<|ab (az (rfl:_=AV.vec _))<|ab (bg hT rfl rfl rfl (es:=[_]) rfl rfl rfl)<|RK.app ai (dN (z:=-4) hT rfl rfl rfl rfl rfl rfl rfl rfl (by have:=jo (rmp (-d) 2);omega) (by decide)) ?_
   refine ab (a8 (rfl:_=AV.vec _))<|ag ?_
   refine ⟨(),trivial,.inr ⟨_,rfl,rfl,aE ⟨.refl _,.refl _,trivial⟩ ⟨Eq.trans rfl (congrArg (fun x=>some (IB 3 x)) (lI (m:=sA1 (-d / 4)) (if_pos (by omega)))),trivial⟩⟩⟩
  have hg7_:=bF hg7
  refine aA hg7 (az (rfl:_=AV.p (.c _))) ?_
  refine aA hg7 (bM rfl rfl (by omega) (c:=-d / 4 % 8) (Int.tmod_eq_emod_of_nonneg (by omega))) ?_
  refine aA hg7 (bj rfl rfl) ?_
  refine ab (aN rfl hg7 (rfl:_=AV.p (.c _)))<|ak rfl ?_
  refine aY (t:=58) rfl (fun hg8=>?_) (fun hg8=>?_)
  ·have hg8_:=bT hg8
   iterate 3 refine aZ hg8 ?_
   refine ab (aO rfl hg8 (rfl:_=AV.p (.c _)))<|ag<|aU rfl rfl<|aw hP<|ab (az (rfl:_=AV.vec _))<|ab (bg hT rfl rfl rfl (es:=[_]) rfl rfl rfl)<|RK.app ai (dN (z:=-4) hT rfl rfl rfl rfl rfl rfl rfl rfl (by have:=jo (rmp (-d) 2);omega) (by decide)) ?_
   refine ab (a8 (rfl:_=AV.vec _))<|ag ?_
   refine ⟨(),trivial,.inr ⟨_,rfl,rfl,aE ⟨.refl _,.refl _,trivial⟩ ⟨Eq.trans rfl (congrArg (fun x=>some (IB 3 x)) (lI (m:=sA1 (-d / 4)) (if_pos (by omega)))),trivial⟩⟩⟩
  have hg8_:=bF hg8
  refine aA hg8 (az (rfl:_=AV.p (.c _))) ?_
  refine aA hg8 (bM rfl rfl (by omega) (c:=-d / 4 % 8) (Int.tmod_eq_emod_of_nonneg (by omega))) ?_
  refine aA hg8 (bj rfl rfl) ?_
  refine ab (aN rfl hg8 (rfl:_=AV.p (.c _)))<|ag ?_
  refine ay rfl (fun hb9=>?_) (fun hb9=>?_)
  ·have hb9_:=bT hb9
   refine aw hP<|ab (az (rfl:_=AV.vec _))<|ab (bg hT rfl rfl rfl (es:=[_]) rfl rfl rfl)<|RK.app ai (dN (z:=-4) hT rfl rfl rfl rfl rfl rfl rfl rfl (by have:=jo (rmp (-d) 2);omega) (by decide)) ?_
   refine ab (a8 (rfl:_=AV.vec _))<|ag ?_
   refine ⟨(),trivial,.inr ⟨_,rfl,rfl,aE ⟨.refl _,.refl _,trivial⟩ ⟨Eq.trans rfl (congrArg (fun x=>some (IB 3 x)) (lI (m:=sA1 (-d / 4)) (if_pos (by omega)))),trivial⟩⟩⟩
  have hb9_:=bF hb9
  refine au ?_
  refine ⟨(),trivial,.inl (aE ⟨.refl _,.refl _,trivial⟩ ⟨Eq.trans rfl (congrArg (fun x=>some (IB 3 x)) (vx (m:=sA1 (-d / 4)) (if_neg (by omega)))),trivial⟩)⟩
 intro _ _
 refine gw 76 1000 (ι:=Unit) (fun _=>stL [(3,.vec 1000),(6,Z (-d / 4))] [(1000,IB 3 (gj (rmp (-d) 2) ++ sA1 (-d / 4) ++ sA2 (-d / 4)))]) (fun _=>True) rfl rfl ?_ ?_
 ·refine ae hP<|ak rfl<|ab (bM rfl rfl (by omega) (c:=-d / 4 % 8) (Int.tmod_eq_emod_of_nonneg (by omega))) ?_
  refine ab (bj rfl rfl)<|ak rfl ?_
  refine aY (t:=69) rfl (fun hg10=>?_) (fun hg10=>?_)
  ·have hg10_:=bT hg10
   iterate 3 refine aZ hg10 ?_
   refine ab (aO rfl hg10 (rfl:_=AV.p (.c _)))<|ag<|aU rfl rfl<|aw hP<|ab (az (rfl:_=AV.vec _))<|ab (bg hT rfl rfl rfl (es:=[_]) rfl rfl rfl)<|RK.app ai (dN (z:=8) hT rfl rfl rfl rfl rfl rfl rfl rfl (by have:=jo (rmp (-d) 2);rw [List.length_append];unfold sA1;split <;> simp <;> omega) (by decide)) ?_
   refine ab (a8 (rfl:_=AV.vec _))<|ag ?_
   refine ⟨(),trivial,.inr ⟨_,rfl,rfl,aE ⟨.refl _,.refl _,trivial⟩ ⟨Eq.trans rfl (congrArg (fun x=>some (IB 3 x)) (lI (m:=sA2 (-d / 4)) (if_pos (by omega)))),trivial⟩⟩⟩
  have hg10_:=bF hg10
  refine aA hg10 (az (rfl:_=AV.p (.c _))) ?_
  refine aA hg10 (bM rfl rfl (by omega) (c:=-d / 4 % 8) (Int.tmod_eq_emod_of_nonneg (by omega))) ?_
  refine aA hg10 (bj rfl rfl) ?_
  refine ab (aN rfl hg10 (rfl:_=AV.p (.c _)))<|ag ?_
  refine ay rfl (fun hb11=>?_) (fun hb11=>?_)
  ·have hb11_:=bT hb11
   refine aw hP<|ab (az (rfl:_=AV.vec _))<|ab (bg hT rfl rfl rfl (es:=[_]) rfl rfl rfl)<|RK.app ai (dN (z:=8) hT rfl rfl rfl rfl rfl rfl rfl rfl (by have:=jo (rmp (-d) 2);rw [List.length_append];unfold sA1;split <;> simp <;> omega) (by decide)) ?_
   refine ab (a8 (rfl:_=AV.vec _))<|ag ?_
   refine ⟨(),trivial,.inr ⟨_,rfl,rfl,aE ⟨.refl _,.refl _,trivial⟩ ⟨Eq.trans rfl (congrArg (fun x=>some (IB 3 x)) (lI (m:=sA2 (-d / 4)) (if_pos (by omega)))),trivial⟩⟩⟩
  have hb11_:=bF hb11
  refine au ?_
  refine ⟨(),trivial,.inl (aE ⟨.refl _,.refl _,trivial⟩ ⟨Eq.trans rfl (congrArg (fun x=>some (IB 3 x)) (vx (m:=sA2 (-d / 4)) (if_neg (by omega)))),trivial⟩)⟩
 intro _ _
 refine gw 82 1000 (ι:=Unit) (fun _=>stL [(3,.vec 1000)] [(1000,IB 3 (gj (rmp (-d) 2) ++ sA1 (-d / 4) ++ sA2 (-d / 4) ++ sA3 (-d / 4)))]) (fun _=>True) rfl rfl ?_ ?_
 ·refine ae hP<|ak rfl<|ab (bM rfl rfl (by omega) (c:=-d / 4 % 8) (Int.tmod_eq_emod_of_nonneg (by omega))) ?_
  refine ab (bj rfl rfl)<|ag ?_
  refine ay rfl (fun hb12=>?_) (fun hb12=>?_)
  ·have hb12_:=bT hb12
   refine aw hP<|ab (az (rfl:_=AV.vec _))<|ab (bg hT rfl rfl rfl (es:=[_]) rfl rfl rfl)<|RK.app ai (dN (z:=-8) hT rfl rfl rfl rfl rfl rfl rfl rfl (by have:=jo (rmp (-d) 2);simp only [List.length_append];unfold sA1 sA2;split <;> split <;> simp <;> omega) (by decide)) ?_
   refine ab (a8 (rfl:_=AV.vec _))<|ag ?_
   refine ⟨(),trivial,.inr ⟨_,rfl,rfl,aE ⟨.refl _,trivial⟩ ⟨Eq.trans rfl (congrArg (fun x=>some (IB 3 x)) (lI (m:=sA3 (-d / 4)) (if_pos (by omega)))),trivial⟩⟩⟩
  have hb12_:=bF hb12
  refine au ?_
  refine ⟨(),trivial,.inl (aE ⟨.refl _,trivial⟩ ⟨Eq.trans rfl (congrArg (fun x=>some (IB 3 x)) (vx (m:=sA3 (-d / 4)) (if_neg (by omega)))),trivial⟩)⟩
 intro _ _
 refine ae hP<|ab (az (rfl:_=AV.vec _))<|ab (a8 (rfl:_=AV.vec _))<|ag<|gQ (t:=2) rfl rfl ?_
 refine am<|E1 rfl rfl ?_
 exact aF (by rw [Jk ‹d.tmod 4=0›])
theorem qC (d:Int) (hd:L 40 d) :
  aH Tryz.prog 158 [I d] (.t [.c (IS (chE d)),PE (szE d)]):=by
 have id0:LB d 40:=⟨hd⟩
 refine aM Tryz.func158 rfl rfl rfl rfl ?_
 refine ae hP<|aq ai (aL rfl rfl)<|aj rfl<|aj rfl<|ag<|ae hP<|av hT rfl<|ab (ah (ou d hd)) ?_
 refine ab (az (rfl:_=AV.t _))<|ab (aD rfl (v:=.c _) rfl)<|ab (aD rfl (v:=.c _) rfl)<|aj rfl<|aj rfl<|ag<|ao<|ae hP<|ak rfl<|ab (bq rfl rfl)<|ag ?_
 refine ay rfl (fun hb1=>?_) (fun hb1=>?_)
 ·have hb1_:=b8 hb1
  refine ae hP<|ak rfl<|aj rfl<|aj rfl<|ag<|am<|E11 rfl rfl rfl ?_
  exact (by rw [EY hb1_];exact Sub.tup ⟨DSub.nil_sl,DSub.refl _,trivial⟩)
 have hb1_:=bU hb1
 have he:szE d=0:=hb1_
 obtain ⟨e1,e2,e3⟩:=pX he
 have cC:=lu d e2 e3
 rw [e1]
 refine au<|ae hP<|ak rfl<|ab (ah cC) ?_
 refine aj rfl<|aj rfl<|ag<|am<|E11 rfl rfl rfl ?_
 exact aF (by rw [he,s9 he])
theorem JS (d N:Int) (h0:d < 0) (h1:-4194304≤d) (hN:L 40 N) (hp:0 < N) (ho:N % 2=1) :
  aH Tryz.prog 202 [Z d,I N] (.p (.c (IS ((chs d).map (fun c=>cv c N))))):=by
 have iN:LB N 40:=⟨hN⟩
 have cC:=lu d h0 h1
 have hcl:=lE h0 h1
 have hkd:=fun c hc=>vn (c:=c) h0 hc
 have hkb:=fun c hc=>qh (c:=c) h0 h1 hc
 generalize chs d=l at *
 refine aM Tryz.func202 rfl rfl rfl rfl ?_
 refine ae hP<|aq ai (aL rfl rfl)<|aj rfl<|ag<|ae hP<|ak rfl<|ab (ah cC) ?_
 refine aj rfl<|ag<|ae hP<|aq ai (dB hT rfl rfl rfl (es:=[]) rfl rfl rfl) ?_
 refine ab (a8 (rfl:_=AV.vec _))<|ag<|cL 10 1000 rfl rfl rfl ?_
 refine ao<|ae hP<|aj rfl<|ag<|aC<|bl (ι:=Nat) (fun k=>stL [(3,.loc 3 0),(5,.p (.c (IS l))),(6,.vec 1000),(7,Z (k:Int))] [(3,⟨false,1,29,[zn (N),zm (N)]⟩),(1000,IB 3 ((l.take k).map (fun c=>cv c N)))]) (fun k=>k≤l.length) (fun k=>l.length - k) 0 (Nat.zero_le _) (aE ⟨.refl _,.refl _,.refl _,.refl _,trivial⟩ ⟨rfl,rfl,trivial⟩) ?_
 intro k hk
 refine ao<|ae hP<|ak rfl<|ak rfl<|ab (aX hT rfl rfl rfl (by rfl)) ?_
 refine ab (bh rfl rfl)<|ag ?_
 refine ay rfl (fun hb1=>?_) (fun hb1=>?_)
 ·have hb1_:=dT0 hb1
  have hmk:=jP hb1_
  have cX:=rI (l.getD k 0) N (hkd _ hmk) (hkb _ hmk) hN hp ho
  refine au<|ao<|aC<|aw hP<|ab (az (rfl:_=AV.vec _))<|ak rfl<|ak rfl<|ab (gi hT (n:=(k:Int)) rfl rfl rfl rfl rfl rfl (by omega)) ?_
  refine ab (bV hT rfl rfl rfl rfl)<|av hT rfl<|ab (ah cX) ?_
  refine ab (bg hT rfl rfl rfl (es:=[_]) rfl rfl rfl)<|RK.app ai (dN (z:=cv (l.getD k 0) N) hT rfl rfl rfl rfl rfl rfl rfl rfl (by rw [List.length_map,List.length_take];omega) (by decide)) ?_
  refine ab (a8 (rfl:_=AV.vec _))<|ag<|cL 25 1000 rfl rfl rfl ?_
  refine aw hP<|ak rfl<|bA rfl rfl ?_
  refine aj rfl<|ag ?_
  refine ⟨k+1,by omega,by omega,aE ⟨.refl _,.refl _,.refl _,aK (by omega),trivial⟩ ⟨rfl,Eq.trans rfl (congrArg (fun x=>some (IB 3 x)) (uv hb1_)),trivial⟩⟩
 have hb1_:=dF0 hb1
 refine aW<|gQ (t:=6) rfl rfl ?_
 refine ae hP<|ak rfl<|aj rfl<|ag<|am<|E1 rfl rfl ?_
 exact aF (by rw [oH hb1_])
end
section
open Go Go.AM
theorem ye (f:Fm) (hfa:L 6 f.a) (hfb:L 6 f.b) (hfc:L 6 f.c) :
  aH Tryz.prog 159 [FA f.a f.b f.c] (.t [.c (IS (gvL f)),PE (gpE f)]):=by
 have ifa:LB f.a 6:=⟨hfa⟩
 have ifb:LB f.b 6:=⟨hfb⟩
 have ifc:LB f.c 6:=⟨hfc⟩
 have cP:=zP f hfa hfb hfc
 have cR:aH Tryz.prog 91 [FA f.a f.b f.c] (.t [PF f.rd,PM (rdM f.a f.b f.c),PE (rdE f.a f.b f.c)]):=mQ f.a f.b f.c lz lz lz
 refine aM Tryz.func159 rfl rfl rfl rfl ?_
 refine ae hP<|aq ai (aL rfl rfl)<|aj rfl<|aj rfl<|ag<|ae hP<|br hT rfl rfl rfl rfl rfl rfl<|ab (ah cP) ?_
 refine ab (az (rfl:_=AV.t _))<|ab (aD rfl (v:=.c _) rfl)<|ab (aD rfl (v:=.c _) rfl)<|aj rfl<|aj rfl<|ag<|ao<|ae hP<|ak rfl<|ab (bq rfl rfl)<|ag ?_
 refine ay rfl (fun hb1=>?_) (fun hb1=>?_)
 ·have hb1_:=b8 hb1
  refine ae hP<|ak rfl<|aj rfl<|aj rfl<|ag<|am<|E11 rfl rfl rfl ?_
  exact (by rw [EM hb1_];exact Sub.tup ⟨DSub.nil_sl,DSub.refl _,trivial⟩)
 have hb1_:=bU hb1
 have he:gpE f=0:=hb1_
 obtain ⟨hf,hE⟩:=uK he
 obtain ⟨hgn,hd0,hd1⟩:=pX hE
 have hxx:=EN he
 have eV:gpV f=dsc f.a f.b f.c:=by unfold gpV;rw [if_pos he]
 have hmap:=fun (N:Int) (h1:RpN f.rd N) (h2:Int.gcd N (2*dsc f.a f.b f.c)=1)=>Au hf hd1 hd0 hE h1 h2
 obtain ⟨⟨s1,s2⟩,⟨s3,s4⟩,s5,s6⟩:=oO hf.rd hf.rd_rd hd1
 have hg:=hf.rd
 have hpe:rdE f.a f.b f.c=0:=ie hf.pos
 rw [hpe] at cR
 have hat0:=fun (N:Int)=>JS (dsc f.a f.b f.c) N hd0 hd1
 generalize rdM f.a f.b f.c=M0 at *
 rw [eV]
 generalize dsc f.a f.b f.c=d at *
 generalize f.rd=g at *
 have jd:bu d:=by unfold bu;omega
 have hdL:L 40 d:=(show L 6 d by unfold L;omega).mono (by decide)
 have iga:LB g.a 6:=⟨by unfold L;omega⟩
 have igb:LB g.b 6:=⟨by unfold L;omega⟩
 have igc:LB g.c 6:=⟨by unfold L;omega⟩
 refine au<|ae hP<|br hT rfl rfl rfl rfl rfl rfl<|ab (ah cR) ?_
 refine ab (az (rfl:_=AV.t _))<|ab (aD rfl (v:=.a _) rfl)<|ab (aD rfl (v:=.a _) rfl)<|ab (aD rfl (v:=.c _) rfl)<|aq ai (aB hT rfl rfl)<|aq ai (aB hT rfl rfl)<|aG hT rfl<|aG hT rfl<|aj rfl<|ag<|ae hP<|aj rfl<|ag<|aC<|bl (ι:=Int) (fun s=>stL [(4,Z d),(6,.loc 6 0),(9,Z s)] [(6,⟨false,1,46,FL g.a g.b g.c⟩)]) (fun s=>1≤s∧NoS g d s) (fun s=>(2800001 - s).toNat) 1 ⟨by decide,NoS.start⟩ (aE ⟨.refl _,.refl _,.refl _,trivial⟩ ⟨rfl,trivial⟩) ?_
 rintro s ⟨hs1,hs2⟩
 have hle0:=hs2.le hd0 hxx
 refine ao<|aC<|ae hP<|aj rfl<|ag<|aC<|bl (ι:=Int) (fun x=>stL [(4,Z d),(6,.loc 6 0),(9,Z s),(10,Z x)] [(6,⟨false,1,46,FL g.a g.b g.c⟩)]) (fun x=>(0≤x∧x≤s+1)∧NoT g d s x) (fun x=>(s+1 - x).toNat) 0 ⟨by omega,NoT.start⟩ (aE ⟨.refl _,.refl _,.refl _,.refl _,trivial⟩ ⟨rfl,trivial⟩) ?_
 rintro x ⟨hx1,hx2⟩
 refine ao<|ae hP<|ak rfl<|ak rfl<|ab (ej rfl rfl)<|ag ?_
 refine ay rfl (fun hb2=>?_) (fun hb2=>?_)
 ·have hb2_:=dT0 hb2
  have hle:=hs2.le hd0 hxx
  have jx:bu x:=by unfold bu;omega
  have jsx:bu (s - x):=by unfold bu;omega
  have ix6:LB x 6:=⟨by unfold L;omega⟩
  have isx:LB (s - x) 6:=⟨by unfold L;omega⟩
  have cV:=lX g.a g.b g.c x (s - x) lz lz lz lz lz
  have hVL:L 40 (vl g.a g.b g.c x (s - x)):=lz
  have hVr:RpN g (vl g.a g.b g.c x (s - x)):=⟨x,s - x,rfl⟩
  have hVn:=fun h=>hx2.next (x:=x) h
  generalize (vl g.a g.b g.c x (s - x))=V at cV hVL hVr hVn
  refine au<|ao<|aC<|ae hP<|br hT rfl rfl rfl rfl rfl rfl<|ak rfl<|ab (ah (ce x jx)) ?_
  refine ak rfl<|ak rfl<|ab (bE rfl rfl (by first | exact iW0 _ (by omega) | rfl)) ?_
  refine ab (ah (ce (s - x) jsx)) ?_
  refine ab (ah cV) ?_
  refine aq ai (aB hT rfl rfl)<|aG hT rfl<|ag<|ae hP<|av hT rfl<|ak rfl<|ab (ah (ce d jd)) ?_
  refine ab (ah (vS V d hVL hdL)) ?_
  refine ag ?_
  refine ay rfl (fun hb3=>?_) (fun hb3=>?_)
  ·have hc1:Int.gcd V (2*d)=1:=MN ‹decide (((Int.gcd V (2*d):Nat):Int)=1)=true›
   have p01:=Jo hg hd0 hVr hc1
   have cAt:=hat0 V hVL p01.1 p01.2
   have hfin:=hmap V hVr hc1
   refine ae hP<|ak rfl<|av hT rfl<|ab (ah cAt) ?_
   refine aj rfl<|aj rfl<|ag<|am<|E11 rfl rfl rfl ?_
   exact aF (by rw [hfin,he])
  have hc1:Int.gcd V (2*d)≠1:=MO ‹decide (((Int.gcd V (2*d):Nat):Int)=1)=false›
  refine au<|aw hP<|ak rfl<|bA rfl rfl ?_
  refine aj rfl<|ag ?_
  refine ⟨x+1,⟨by omega,hVn hc1⟩,by omega,aE ⟨.refl _,.refl _,.refl _,.refl _,trivial⟩ ⟨rfl,trivial⟩⟩
 have hb2_:=dF0 hb2
 refine aW<|aw hP<|ak rfl<|bA rfl rfl ?_
 refine aj rfl<|ag ?_
 refine ⟨s+1,⟨by omega,hs2.next hx2 ‹¬ x≤s›⟩,by omega,aE ⟨.refl _,.refl _,.refl _,trivial⟩ ⟨rfl,trivial⟩⟩
end
section
open Go Go.AM
theorem qB (m:Int) :
  aH Tryz.prog 87 [Z m] (Z (rgE m)):=by
 refine aM Tryz.func87 rfl rfl rfl rfl ?_
 refine ae hP<|aj rfl<|ag<|ao<|ae hP<|ak rfl<|ab (bh rfl rfl)<|ag ?_
 refine ay rfl (fun hb1=>?_) (fun hb1=>?_)
 ·have hb1_:=dT0 hb1
  refine ae hP<|aj rfl<|ag<|am<|E1 rfl rfl ?_
  exact aK (sR hb1_).symm
 have hb1_:=dF0 hb1
 refine au<|ao<|ae hP<|ak rfl<|ab (bJ rfl rfl)<|ag ?_
 refine ay rfl (fun hb2=>?_) (fun hb2=>?_)
 ·have hb2_:=dT0 hb2
  refine ae hP<|aj rfl<|ag<|am<|E1 rfl rfl ?_
  exact aK (xX hb2_).symm
 have hb2_:=dF0 hb2
 refine au<|ae hP<|aj rfl<|ag<|am<|E1 rfl rfl ?_
 exact aK (pB hb1_ hb2_).symm
theorem kU (f:Fm) (m:Int) (hfa:L 6 f.a) (hfb:L 6 f.b) (hfc:L 6 f.c) :
  aH Tryz.prog 33 [FA f.a f.b f.c,Z m] (Z (alE f m)):=by
 have fa:LB f.a 6:=⟨hfa⟩
 have fb:LB f.b 6:=⟨hfb⟩
 have fc:LB f.c 6:=⟨hfc⟩
 refine aM Tryz.func33 rfl rfl rfl rfl ?_
 refine ae hP<|aq ai (aL rfl rfl)<|aj rfl<|ag<|ae hP<|br hT rfl rfl rfl rfl rfl rfl<|ab (ah (ya f.a f.b f.c lz lz lz)) ?_
 refine aj rfl<|ag<|ao<|ae hP<|ak rfl<|ab (bj rfl rfl)<|ag ?_
 refine ay rfl (fun hb1=>?_) (fun hb1=>?_)
 ·have hb1_:=bT hb1
  refine aw hP<|ak rfl<|ab (ah (qB _)) ?_
  refine aj rfl<|ag<|ae hP<|ak rfl<|aj rfl<|ag<|am<|E1 rfl rfl ?_
  exact aK (y8 hb1_)
 have hb1_:=bF hb1
 refine au<|ae hP<|ak rfl<|aj rfl<|ag<|am<|E1 rfl rfl ?_
 exact aK (EZ hb1_)
theorem kw (D:Int) (m:Nat) (hD:-4194304≤D∧D < 0) (hm:1≤m∧m≤65536) :
  aH Tryz.prog 88 [I D,Z (m:Int)] (.p (.c (SL enI (rbL D (m:Int))))):=by
 have iD:LB D 6:=⟨by unfold L;omega⟩
 have i4:LB (4*(m:Int)) 6:=⟨by unfold L;omega⟩
 have im:LB (m:Int) 6:=⟨by unfold L;omega⟩
 refine aM Tryz.func88 rfl rfl rfl rfl ?_
 refine ae hP<|aq ai (aL rfl rfl)<|aj rfl<|ag<|ae hP<|aq ai (dB hT rfl rfl rfl (es:=[]) rfl rfl rfl) ?_
 refine ab (a8 (rfl:_=AV.vec _))<|ag<|cL 9 1000 rfl rfl rfl ?_
 refine ae hP<|ak rfl<|ab (bQ rfl rfl (by first | exact iW0 _ (by omega) | rfl)) ?_
 refine ab (ah (ce (4*(m:Int)) (by unfold bu;omega))) ?_
 refine aq ai (aB hT rfl rfl)<|aG hT rfl<|ag<|ao<|ae hP<|aj rfl<|ag<|aC<|bl (ι:=Nat) (fun i=>stL [(1,Z (m:Int)),(2,.loc 2 0),(5,.vec 1000),(6,.loc 6 0),(7,Z (i:Int))] [(2,⟨false,1,29,[zn D,zm D]⟩),(6,⟨false,1,29,[zn (4*(m:Int)),zm (4*(m:Int))]⟩),(1000,VB 2 29 enI (rbT D m i))]) (fun i=>(i:Int)≤2*(m:Int)) (fun i=>(2*m) - i) 0 (by omega) (aE ⟨.refl _,.refl _,.refl _,.refl _,.refl _,trivial⟩ ⟨rfl,rfl,rfl,trivial⟩) ?_
 intro i hi
 refine ao<|ae hP<|ak rfl<|ak rfl<|ab (bQ rfl rfl (by first | exact iW0 _ (by omega) | rfl)) ?_
 refine ab (bh rfl rfl)<|ag ?_
 refine ay rfl (fun hb1=>?_) (fun hb1=>?_)
 ·have hb1_:=dT0 hb1
  have hsq:=kP (x:=(i:Int)) (m:=131073) (by omega)
  have isq:LB ((i:Int)*(i:Int)) 6:=⟨by unfold L;omega⟩
  have ii:LB (i:Int) 6:=⟨by unfold L;omega⟩
  refine au<|ao<|aC<|ae hP<|ak rfl<|ab (ah (ce (i:Int) (by unfold bu;omega))) ?_
  refine aq ai (aB hT rfl rfl)<|aG hT rfl<|ag<|ae hP<|av hT rfl<|av hT rfl<|ab (ah (dJ (i:Int) (i:Int) lz lz)) ?_
  refine av hT rfl<|ab (ah (nM ((i:Int)*(i:Int)) D lz lz)) ?_
  refine av hT rfl<|ab (ah (j5 ((i:Int)*(i:Int) - D) (4*(m:Int)) lz lz (by omega))) ?_
  refine ab (ah (dS _)) ?_
  refine ab (bj rfl rfl)<|ak rfl ?_
  refine aY (t:=30) rfl (fun hg2=>?_) (fun hg2=>?_)
  ·have hg2_:=bT hg2
   have hmd:=(xf hm.1).1 (sgn_0.1 hg2)
   refine aA hg2 (aJ hT rfl rfl rfl rfl (cs:=[_,_]) rfl rfl) ?_
   refine aA hg2 (az (rfl:_=AV.p (.c _))) ?_
   refine aA hg2 (aJ hT rfl rfl rfl rfl (cs:=[_,_]) rfl rfl) ?_
   refine aA hg2 (ah (pL D m (i:Int) hD hm (by omega))) ?_
   refine aA hg2 (ah (iP (m:Int) (i:Int) (((i:Int)*(i:Int) - D) / (4*(m:Int))) lz lz lz)) ?_
   refine ab (aO rfl hg2 (rfl:_=AV.p (.c _)))<|ag ?_
   refine ay rfl (fun hb3=>?_) (fun hb3=>?_)
   ·have hyes:=xc hmd hb3
    refine aw hP<|ab (az (rfl:_=AV.vec _))<|av hT rfl<|ab (bg hT rfl rfl rfl (es:=[_,_]) rfl rfl rfl)<|RK.app ai (gE (encD:=enI) hT dI (by decide) rfl rfl rfl rfl rfl rfl rfl (b:=(i:Int)) rfl (by have:=Gr (D:=D) (m:=m) (i:=i);omega) (by decide) (by decide)) ?_
    refine ab (a8 (rfl:_=AV.vec _))<|ag<|cL 40 1000 rfl rfl rfl ?_
    refine aw hP<|ak rfl<|bA rfl rfl ?_
    refine aj rfl<|ag ?_
    refine ⟨i+1,by omega,by omega,aE ⟨.refl _,.refl _,.refl _,.refl _,aK (by omega),trivial⟩ ⟨rfl,rfl,Eq.trans rfl (congrArg (fun l=>some (VB 2 29 enI l)) ((Mf hyes).symm)),trivial⟩⟩
   have hno:isR D m i=false:=xd hb3
   refine au<|aw hP<|ak rfl<|bA rfl rfl ?_
   refine aj rfl<|ag ?_
   refine ⟨i+1,by omega,by omega,aE ⟨.refl _,.refl _,.refl _,.refl _,aK (by omega),trivial⟩ ⟨rfl,rfl,Eq.trans rfl (congrArg (fun l=>some (VB 2 29 enI l)) ((Ev hno).symm)),trivial⟩⟩
  have hg2_:=bF hg2
  have hno:isR D m i=false:=xe (fun e=>Bool.false_ne_true (hg2.symm.trans (sgn_0.2 ((xf hm.1).2 e))))
  iterate 5 refine aZ hg2 ?_
  refine ab (aN rfl hg2 (rfl:_=AV.p (.c _)))<|ag<|aQ rfl rfl<|au<|aw hP<|ak rfl<|bA rfl rfl ?_
  refine aj rfl<|ag ?_
  refine ⟨i+1,by omega,by omega,aE ⟨.refl _,.refl _,.refl _,.refl _,aK (by omega),trivial⟩ ⟨rfl,rfl,Eq.trans rfl (congrArg (fun l=>some (VB 2 29 enI l)) ((Ev hno).symm)),trivial⟩⟩
 have hb1_:=dF0 hb1
 refine aW<|eJ (encD:=enI) dI rfl (t:=5) rfl rfl ?_
 refine ae hP<|ak rfl<|aj rfl<|ag<|am<|E1 rfl rfl ?_
 exact aF (by rw [Gt (by omega)])
theorem vN (D:Int) (m:Nat) (hD:-4194304≤D∧D < 0) (hm:1≤m∧m≤65536) (h4:D % 4=0∨D % 4=1) :
  aH Tryz.prog 25 [I D,Z (m:Int)] (.p (.a [SL enI (rbL D (m:Int)),.v (.int .i64 0)])):=by
 have iD:LB D 6:=⟨by unfold L;omega⟩
 have cPr:aH Tryz.prog 85 [I D] (.t [PF (prF D),PE 0]):=by
  have h:=mR D lz
  rwa [Ey hD.2 h4] at h
 have cRg:aH Tryz.prog 87 [Z (m:Int)] (Z 0):=by
  have h:=qB m
  rwa [pB (by omega) (by omega)] at h
 refine aM Tryz.func25 rfl rfl rfl rfl ?_
 refine ae hP<|aq ai (aL rfl rfl)<|aq ai (aB hT rfl rfl)<|ag<|ae hP<|av hT rfl<|ab (ah cPr) ?_
 refine ab (az (rfl:_=AV.t _))<|ab (aD rfl (v:=.a _) rfl)<|ab (aD rfl (v:=.c _) rfl)<|aq ai (aB hT rfl rfl)<|aG hT rfl<|aj rfl<|ag<|ao<|ae hP<|ak rfl<|ab (bq rfl rfl)<|ak rfl<|aA rfl (aJ hT rfl rfl rfl rfl (cs:=[_,_]) rfl rfl) ?_
 refine aA rfl (ah (dS _)) ?_
 refine aA rfl (bJ rfl rfl) ?_
 refine ab (aN rfl rfl (rfl:_=AV.p (.c _)))<|ag<|aQ rfl (decide_eq_false (fun h=>by have:=sgn_gt_iff.1 h;omega)) ?_
 refine au<|ae hP<|ak rfl<|ab (ah cRg) ?_
 refine aj rfl<|ag<|ao<|ae hP<|ak rfl<|ab (bq rfl rfl)<|ag<|aQ rfl rfl<|au<|ae hP<|av hT rfl<|ak rfl<|ab (ah (kw D m hD hm)) ?_
 refine ab (aR hT rfl rfl rfl (es:=[_,_]) rfl)<|aG hT rfl<|ag<|am<|E2 hT rfl rfl rfl rfl rfl rfl rfl ?_
 exact .refl _
theorem tR (D:Int) (m:Int) (hD:L 40 D) (hE:¬ iL D m=0) :
  aH Tryz.prog 25 [I D,Z m] (.p (.a [SL enI [],.v (.int .i64 (iL D m))])):=by
 have iD:LB D 40:=⟨hD⟩
 refine aM Tryz.func25 rfl rfl rfl rfl ?_
 refine ae hP<|aq ai (aL rfl rfl)<|aq ai (aB hT rfl rfl)<|ag<|ae hP<|av hT rfl<|ab (ah (mR D lz)) ?_
 refine ab (az (rfl:_=AV.t _))<|ab (aD rfl (v:=.a _) rfl)<|ab (aD rfl (v:=.c _) rfl)<|aq ai (aB hT rfl rfl)<|aG hT rfl<|aj rfl<|ag<|ao<|ae hP<|ak rfl<|ab (bq rfl rfl)<|ak rfl ?_
 refine aY (t:=14) rfl (fun hg1=>?_) (fun hg1=>?_)
 ·have hg1_:=b8 hg1
  iterate 3 refine aZ hg1 ?_
  refine ab (aO rfl hg1 (rfl:_=AV.p (.c _)))<|ag<|aU rfl rfl<|ae hP<|ab (aR hT rfl rfl rfl (es:=[_,_]) rfl)<|aG hT rfl<|ag<|am<|E2 hT rfl rfl rfl rfl rfl rfl rfl ?_
  exact Sub.agg ⟨.refl _,nE (Jn hg1_),trivial⟩
 have hg1_:=bU hg1
 refine aA hg1 (aJ hT rfl rfl rfl rfl (cs:=[_,_]) rfl rfl) ?_
 refine aA hg1 (ah (dS _)) ?_
 refine aA hg1 (bJ rfl rfl) ?_
 refine ab (aN rfl hg1 (rfl:_=AV.p (.c _)))<|ag ?_
 refine ay rfl (fun hb2=>?_) (fun hb2=>?_)
 ·have hb2_:=dT0 hb2
  refine ae hP<|ab (aR hT rfl rfl rfl (es:=[_,_]) rfl)<|aG hT rfl<|ag<|am<|E2 hT rfl rfl rfl rfl rfl rfl rfl ?_
  exact Sub.agg ⟨.refl _,nE (Nw hb2_),trivial⟩
 have hb2_:=dF0 hb2
 refine au<|ae hP<|ak rfl<|ab (ah (qB m)) ?_
 refine aj rfl<|ag<|ao<|ae hP<|ak rfl<|ab (bq rfl rfl)<|ag ?_
 refine ay rfl (fun hb3=>?_) (fun hb3=>?_)
 ·have hb3_:=b8 hb3
  refine ae hP<|ak rfl<|ab (aR hT rfl rfl rfl (es:=[_,_]) rfl)<|aG hT rfl<|ag<|am<|E2 hT rfl rfl rfl rfl rfl rfl rfl ?_
  exact Sub.agg ⟨.refl _,nE (Jl hg1_ hb2_),trivial⟩
 have hb3_:=bU hb3
 exact absurd ((Jl hg1_ hb2_).symm.trans hb3_) hE
theorem yd (f:Fm) (n x y:Int) (hfa:L 30 f.a) (hfb:L 30 f.b) (hfc:L 30 f.c) (hn:bu n) (hx:L 30 x) (hy:L 30 y) :
  aH Tryz.prog 92 [FA f.a f.b f.c,Z n,I x,I y] (B (dP f n (x,y))):=by
 have fa:LB f.a 30:=⟨hfa⟩
 have fb:LB f.b 30:=⟨hfb⟩
 have fc:LB f.c 30:=⟨hfc⟩
 have ix:LB x 30:=⟨hx⟩
 have iy:LB y 30:=⟨hy⟩
 refine aM Tryz.func92 rfl rfl rfl rfl ?_
 refine ae hP<|aq ai (aL rfl rfl)<|aq ai (aL rfl rfl)<|aq ai (aL rfl rfl)<|aj rfl<|ag<|ae hP<|av hT rfl<|av hT rfl<|ab (ah (pI x y lz lz)) ?_
 refine ab (ah (ce 1 (by decide))) ?_
 refine ab (ah (dT _ _)) ?_
 refine ak rfl ?_
 refine aY (t:=14) rfl (fun hg1=>?_) (fun hg1=>?_)
 ·refine aA hg1 (aJ hT rfl rfl rfl rfl (cs:=[_,_,_,_,_,_]) rfl rfl) ?_
  refine aA hg1 (aJ hT rfl rfl rfl rfl (cs:=[_,_]) rfl rfl) ?_
  refine aA hg1 (aJ hT rfl rfl rfl rfl (cs:=[_,_]) rfl rfl) ?_
  refine aA hg1 (ah (lX f.a f.b f.c x y lz lz lz lz lz)) ?_
  refine aA hg1 (az (rfl:_=AV.p (.c _))) ?_
  refine aA hg1 (ah (ce n hn)) ?_
  refine aA hg1 (ah (dT _ _)) ?_
  refine ab (aO rfl hg1 (rfl:_=AV.p (.c _)))<|aj rfl<|ag<|am<|E1 rfl rfl ?_
  exact bd (NK hg1)
 iterate 7 refine aZ hg1 ?_
 refine ab (aN rfl hg1 (rfl:_=AV.p (.c _)))<|aj rfl<|ag<|am<|E1 rfl rfl ?_
 exact bd (NL hg1)
theorem tQ (p q:Pr2) :
  aH Tryz.prog 94 [.p (.a [zn p.1,zm p.1,zn p.2,zm p.2]),.p (.a [zn q.1,zm q.1,zn q.2,zm q.2])] (B (lt2 p q)):=by
 refine aM Tryz.func94 rfl rfl rfl rfl ?_
 refine ae hP<|aq ai (aL rfl rfl)<|aq ai (aL rfl rfl)<|aj rfl<|ag<|ae hP<|ab (aV hT rfl rfl rfl rfl rfl (by first | decide | omega)) ?_
 refine av hT rfl<|ab (aV hT rfl rfl rfl rfl rfl (by first | decide | omega)) ?_
 refine av hT rfl<|ab (ah (gR _ _)) ?_
 refine aj rfl<|ag<|ae hP<|ak rfl<|ab (bh rfl rfl)<|ak rfl ?_
 refine aY (t:=13) rfl (fun hg1=>?_) (fun hg1=>?_)
 ·have hg1_:=dT0 hg1
  iterate 3 refine aZ hg1 ?_
  iterate 6 refine ff ?_
  refine aZ hg1 ?_
  refine ab (aO rfl hg1 (rfl:_=AV.p (.c _)))<|aj rfl<|ag<|am<|E1 rfl rfl ?_
  exact bd (NU hg1_)
 have hg1_:=dF0 hg1
 refine aA hg1 (az (rfl:_=AV.p (.c _))) ?_
 refine aA hg1 (bj rfl rfl) ?_
 refine aA hg1 (az (rfl:_=AV.p (.c _))) ?_
 refine aY (t:=16) rfl (fun hg2=>?_) (fun hg2=>?_)
 ·have hg2_:=bT hg2
  refine aA hg2 (aV hT rfl rfl rfl rfl rfl (by first | decide | omega)) ?_
  refine aA hg2 (aJ hT rfl rfl rfl rfl (cs:=[_,_]) rfl rfl) ?_
  refine aA hg2 (aV hT rfl rfl rfl rfl rfl (by first | decide | omega)) ?_
  refine aA hg2 (aJ hT rfl rfl rfl rfl (cs:=[_,_]) rfl rfl) ?_
  refine aA hg2 (ah (gR _ _)) ?_
  refine aA hg2 (bh rfl rfl) ?_
  refine aA hg1 (aO rfl hg2 (rfl:_=AV.p (.c _))) ?_
  refine ab (aN rfl hg1 (rfl:_=AV.p (.c _)))<|aj rfl<|ag<|am<|E1 rfl rfl ?_
  exact bd (NT hg1_ hg2)
 have hg2_:=bF hg2
 iterate 6 refine aZ hg2 ?_
 refine aA hg1 (aN rfl hg2 (rfl:_=AV.p (.c _))) ?_
 refine ab (aN rfl hg1 (rfl:_=AV.p (.c _)))<|aj rfl<|ag<|am<|E1 rfl rfl ?_
 exact bd (NS hg1_ hg2)
theorem Ce (m p:Nat) (hn:1≤m∧m≤65536) (hp:2≤p) :
  aH Tryz.prog 157 [Z (m:Int),Z (p:Int)] (Z (((ptN p m).2:Nat):Int)):=by
 refine aM Tryz.func157 rfl rfl rfl rfl ?_
 refine ae hP<|aj rfl<|ag<|ae hP<|aj rfl<|ag<|ao<|aC<|bl (ι:=Nat × Nat) (fun q=>stL [(0,Z ((q.1:Nat):Int)),(1,Z (p:Int)),(5,Z ((q.2:Nat):Int))] []) (fun q=>PtI p m q.1 q.2) (fun q=>q.1) (m,1) (PtI.start (by omega)) (aE ⟨.refl _,.refl _,.refl _,trivial⟩ trivial) ?_
 intro q hq
 obtain ⟨b1,b2,b3,b4⟩:=hq.b
 refine ao<|ae hP<|ak rfl<|ak rfl<|ab (bM rfl rfl (by omega) (c:=((q.1 % p:Nat):Int)) B5) ?_
 refine ab (bj rfl rfl)<|ag ?_
 refine ay rfl (fun hb1=>?_) (fun hb1=>?_)
 ·have hb1_:=bT hb1
  have hnx:=hq.next hp (by omega)
  have hqp:q.2*p≤1000000000:=by have:=hnx.2.2;omega
  refine au<|aC<|ae hP<|ak rfl<|ak rfl<|ab (cZ rfl rfl (by omega) (c:=((q.1 / p:Nat):Int)) (Cf (by omega) (by omega))) ?_
  refine aj rfl<|ag<|aw hP<|ak rfl<|ak rfl<|ab (bQ rfl rfl (c:=((q.2*p:Nat):Int)) (Kf hqp)) ?_
  refine aj rfl<|ag ?_
  refine ⟨(q.1 / p,q.2*p),hnx.1,hnx.2.1,aE ⟨.refl _,.refl _,.refl _,trivial⟩ trivial⟩
 have hb1_:=bF hb1
 have hpt:=hq.done (by omega)
 refine aW<|ae hP<|ak rfl<|aj rfl<|ag<|am<|E1 rfl rfl ?_
 exact aK (by rw [hpt.2])
theorem vQ (D:Int) (m:Nat) (hD:-4194304≤D∧D < 0) (hm:1≤m∧m≤65536) :
  aH Tryz.prog 96 [I D,Z (m:Int)] (Z (bkZ D m)):=by
 refine aM Tryz.func96 rfl rfl rfl rfl ?_
 refine ae hP<|aq ai (aL rfl rfl)<|aj rfl<|ag<|ae hP<|ak rfl<|aj rfl<|ag<|ao<|ae hP<|aj rfl<|ag<|aC<|bl (ι:=Nat × Nat) (fun q=>stL [(1,Z (m:Int)),(2,.loc 2 0),(5,Z ((q.1:Nat):Int)),(6,Z ((q.2:Nat):Int))] [(2,⟨false,1,29,[zn D,zm D]⟩)]) (fun q=>BkI D m q.1 q.2) (fun q=>m+1 - q.2) (m,2) (BkI.start (by omega)) (aE ⟨.refl _,.refl _,.refl _,.refl _,trivial⟩ ⟨rfl,trivial⟩) ?_
 intro q hI
 have hle:=hI.le
 have h2p:=hI.two
 have h0p:=hI.pos
 refine ao<|ae hP<|ak rfl<|ak rfl<|ab (ej rfl rfl)<|ag ?_
 refine ay rfl (fun hb1=>?_) (fun hb1=>?_)
 ·have hb1_:=dT0 hb1
  have hple:q.2≤q.1:=by omega
  refine au<|ao<|aC<|ao<|ae hP<|ak rfl<|ak rfl<|ab (bM rfl rfl (by omega) (c:=((q.1 % q.2:Nat):Int)) B5) ?_
  refine ab (bq rfl rfl)<|ag ?_
  refine ay rfl (fun hb2=>?_) (fun hb2=>?_)
  ·have hb2_:=b8 hb2
   have hsk:=hI.skip hple (by omega)
   refine aW<|aw hP<|ak rfl<|bA rfl rfl ?_
   refine aj rfl<|ag ?_
   refine ⟨(q.1,q.2+1),hsk,(by show m+1 - (q.2+1) < m+1 - q.2;omega),aE ⟨.refl _,.refl _,.refl _,aK (by show ((q.2:Nat):Int)+1=((q.2+1:Nat):Int);omega),trivial⟩ ⟨rfl,trivial⟩⟩
  have hb2_:=bU hb2
  have hm0:q.1 % q.2=0:=by omega
  have hpe:=hI.part hm0
  have hqb:1≤(ptN q.2 m).2∧(ptN q.2 m).2≤65536:=by have h1:=hI.big hm0;have h2:=Mo (p:=q.2) (n:=m) h2p (by omega);rw [← hpe] at h1;omega
  refine au<|ae hP<|ak rfl<|ak rfl<|ab (ah (Ce m q.2 hm hI.two)) ?_
  refine aj rfl<|ag<|ao<|ae hP<|av hT rfl<|ak rfl<|ab (ah (kw D (ptN q.2 m).2 hD hqb)) ?_
  refine ab (aX hT rfl rfl rfl (by rfl)) ?_
  refine ab (bj rfl rfl)<|ag ?_
  refine ay rfl (fun hb3=>?_) (fun hb3=>?_)
  ·have hb3_:=bT hb3
   have hht:=hI.hit hple hm0 (by rw [← hpe];exact List.length_eq_zero_iff.1 (by omega))
   refine ae hP<|ak rfl<|aj rfl<|ag<|am<|E1 rfl rfl ?_
   exact aK (M5 (hpe ▸ hht))
  have hb3_:=bF hb3
  have hnx:=hI.next hple hm0 (by rw [← hpe];exact fun e=>by rw [e] at hb3_;exact hb3_ rfl)
  rw [← hpe] at hnx
  refine au<|aw hP<|ak rfl<|ak rfl<|ab (cZ rfl rfl (by omega) (c:=((q.1 / (ptN q.2 m).2:Nat):Int)) (Cf (by omega) (by omega))) ?_
  refine aj rfl<|ag<|aw hP<|ak rfl<|bA rfl rfl ?_
  refine aj rfl<|ag ?_
  refine ⟨(q.1 / (ptN q.2 m).2,q.2+1),hnx.1,(by show m+1 - (q.2+1) < m+1 - q.2;omega),aE ⟨.refl _,.refl _,.refl _,aK (by show ((q.2:Nat):Int)+1=((q.2+1:Nat):Int);omega),trivial⟩ ⟨rfl,trivial⟩⟩
 have hb1_:=dF0 hb1
 have hend:=hI.done (by omega)
 refine aW<|ae hP<|aj rfl<|ag<|am<|E1 rfl rfl ?_
 exact aK (M6 hend)
theorem vM (D:Int) (x:Int) (hD:L 30 D) (hx:bu x) :
  aH Tryz.prog 160 [I D,Z x] (B (decide (Int.gcd (2*D) x=1))):=by
 have iD:LB D 30:=⟨hD⟩
 have ix:LB x 6:=⟨by unfold bu at hx;unfold L;omega⟩
 refine aM Tryz.func160 rfl rfl rfl rfl ?_
 refine ae hP<|aq ai (aL rfl rfl)<|aj rfl<|ag<|ae hP<|ab (ah (ce 2 (by decide))) ?_
 refine av hT rfl<|ab (ah (dJ 2 D lz lz)) ?_
 refine ak rfl<|ab (ah (ce x hx)) ?_
 refine ab (ah (pI (2*D) x lz lz)) ?_
 refine ab (ah (ce 1 (by decide))) ?_
 refine ab (ah (dT _ _)) ?_
 refine aj rfl<|ag<|am<|E1 rfl rfl ?_
 exact bd HU
theorem vR (f:Fm) (D:Int) (m:Nat) (hfa:L 6 f.a) (hfb:L 6 f.b) (hfc:L 6 f.c) (hf:Cl D f) (hD:-4194304≤D∧D < 0) (hm:1≤m∧m≤65536) (hE:szE D=0) :
  aH Tryz.prog 97 [FA f.a f.b f.c,Z (m:Int)] (.p (.c (SL enI (agL D m f)))):=by
 have fa:LB f.a 6:=⟨hfa⟩
 have fb:LB f.b 6:=⟨hfb⟩
 have fc:LB f.c 6:=⟨hfc⟩
 have iD:LB D 6:=⟨by unfold L;omega⟩
 have im:LB (m:Int) 6:=⟨by unfold L;omega⟩
 have hdf:dsc f.a f.b f.c=D:=hf.disc
 have jm:bu (m:Int):=by unfold bu;omega
 have cDs:aH Tryz.prog 24 [FA f.a f.b f.c] (I D):=by rw [← hdf];exact gx f.a f.b f.c lz lz lz
 have cCh:aH Tryz.prog 158 [I D] (.t [.c (IS (chs D)),PE 0]):=by
  have h:=qC D lz
  rwa [s9 hE,hE] at h
 have cVa:aH Tryz.prog 159 [FA f.a f.b f.c] (.t [.c (IS (gvL f)),PE 0]):=by
  have h:=ye f hfa hfb hfc
  rwa [qg hf hD.1 hE] at h
 have hln:=Av hf hD.1 hE
 have hcb:=fun c hc=>qh (c:=c) hD.2 hD.1 hc
 have hck:=fun c hc=>vn (c:=c) hD.2 hc
 have hlc:=lE hD.2 hD.1
 have hyy:=fun (k:Nat) (hk:k < (chs D).length) (hne)=>Nc (n:=(m:Int)) (f:=f) hln hk hne
 have hnn:=fun (k:Nat) (hk:k < (chs D).length) (he)=>Nf (n:=(m:Int)) (f:=f) hln hk he
 have hall:=fun (h:Int.gcd (2*D) m=1) (k:Nat) (hk:(chs D).length≤k)=>Ia (f:=f) h hln hk
 have hkl:=fun k=>H9 (D:=D) (f:=f) (n:=(m:Int)) (k:=k)
 have hk0:agK D f m 0=[]:=Ng
 generalize chs D=ls at *
 generalize gvL f=vs at *
 generalize agK D f m=K at *
 refine aM Tryz.func97 rfl rfl rfl rfl ?_
 refine ae hP<|aq ai (aL rfl rfl)<|aj rfl<|ag<|ae hP<|br hT rfl rfl rfl rfl rfl rfl<|ab (ah cDs) ?_
 refine aq ai (dB hT rfl rfl rfl (es:=[]) rfl rfl rfl) ?_
 refine aq ai (aB hT rfl rfl)<|aG hT rfl<|ab (a8 (rfl:_=AV.vec _))<|ag<|ae hP<|av hT rfl<|ab (ah cCh) ?_
 refine ab (az (rfl:_=AV.t _))<|ab (aD rfl (v:=.c _) rfl)<|ab (aD rfl (v:=.c _) rfl)<|aj rfl<|aj rfl<|ag<|ae hP<|br hT rfl rfl rfl rfl rfl rfl<|ab (ah cVa) ?_
 refine ab (az (rfl:_=AV.t _))<|ab (aD rfl (v:=.c _) rfl)<|ab (aD rfl (v:=.c _) rfl)<|aj rfl<|aj rfl<|ag<|ao<|ae hP<|av hT rfl<|ak rfl<|ab (ah (vM D (m:Int) lz jm)) ?_
 refine ab (bw rfl)<|ak rfl ?_
 refine aY (t:=29) rfl (fun hg1=>?_) (fun hg1=>?_)
 ·have hg1_:=(bY hg1)
  have hnc:=dF0 (bY hg1)
  refine aZ hg1 ?_
  refine aZ hg1 ?_
  refine ab (aO rfl hg1 (rfl:_=AV.p (.c _)))<|ak rfl<|aZ rfl ?_
  refine aZ rfl ?_
  refine ab (aO rfl rfl (rfl:_=AV.p (.c _)))<|ag<|aU rfl rfl<|eJ (encD:=enI) (l:=[]) dI rfl (t:=6) rfl rfl ?_
  refine ae hP<|ak rfl<|aj rfl<|ag<|am<|E1 rfl rfl ?_
  exact aF (by rw [E5 hnc])
 have hg1_:=(bW hg1)
 have hgc:=dT0 (bW hg1)
 have hmo:(m:Int) % 2=1:=uP hgc
 refine aA hg1 (az (rfl:_=AV.p (.c _))) ?_
 refine aA hg1 (bq rfl rfl) ?_
 refine ab (aN rfl hg1 (rfl:_=AV.p (.c _)))<|ak rfl<|aA rfl (az (rfl:_=AV.p (.c _))) ?_
 refine aA rfl (bq rfl rfl) ?_
 refine ab (aN rfl rfl (rfl:_=AV.p (.c _)))<|ag<|aQ rfl rfl<|au<|cL 14 1000 rfl rfl rfl ?_
 refine ao<|ae hP<|aj rfl<|ag<|aC<|bl (ι:=Nat) (fun k=>stL [(1,Z (m:Int)),(6,.vec 1000),(7,.p (.c (IS ls))),(9,.p (.c (IS vs))),(11,Z (k:Int))] [(1000,VB 2 29 enI (K k))]) (fun k=>k≤ls.length) (fun k=>ls.length - k) 0 (Nat.zero_le _) (aE ⟨.refl _,.refl _,.refl _,.refl _,.refl _,trivial⟩ ⟨Eq.trans rfl (congrArg (fun l=>some (VB 2 29 enI l)) (hk0.symm)),trivial⟩) ?_
 intro k hk
 refine ao<|ae hP<|ak rfl<|ak rfl<|ab (aX hT rfl rfl rfl (by rfl)) ?_
 refine ab (bh rfl rfl)<|ag ?_
 refine ay rfl (fun hb3=>?_) (fun hb3=>?_)
 ·have hb3_:=dT0 hb3
  have hcm:=jP (l:=ls) (k:=k) (by omega)
  refine au<|ao<|aC<|ae hP<|ak rfl<|ak rfl<|ab (gi hT (n:=(k:Int)) (l:=ls) rfl rfl rfl rfl rfl rfl (by omega)) ?_
  refine ab (bV hT rfl rfl rfl (dv:=.v (.int .i64 (ls.getD k 0))) rfl) ?_
  refine ak rfl<|ab (ah (ce (m:Int) jm)) ?_
  refine ab (ah (rI (ls.getD k 0) (m:Int) (hck _ hcm) (hcb _ hcm) lz (by omega) hmo)) ?_
  refine ak rfl<|ak rfl<|ab (gi hT (n:=(k:Int)) (l:=vs) rfl rfl rfl rfl rfl rfl (by omega)) ?_
  refine ab (bV hT rfl rfl rfl (dv:=.v (.int .i64 (vs.getD k 0))) rfl) ?_
  refine ab (bq rfl rfl)<|ag ?_
  refine ay rfl (fun hb4=>?_) (fun hb4=>?_)
  ·have hb4_:=b8 hb4
   have hne:=b8 hb4
   refine aw hP<|ab (az (rfl:_=AV.vec _))<|ak rfl<|ak rfl<|ab (gi hT (n:=(k:Int)) (l:=ls) rfl rfl rfl rfl rfl rfl (by omega)) ?_
   refine ab (bV hT rfl rfl rfl (dv:=.v (.int .i64 (ls.getD k 0))) rfl) ?_
   refine ab (ah (ce (ls.getD k 0) (by have:=hcb _ hcm;unfold bu;omega))) ?_
   refine ab (bg hT rfl rfl rfl (es:=[_,_]) rfl rfl rfl)<|RK.app ai (gE (encD:=enI) hT dI (by decide) rfl rfl rfl rfl rfl rfl rfl (b:=ls.getD k 0) rfl (by have:=hkl k;omega) (by decide) (by decide)) ?_
   refine ab (a8 (rfl:_=AV.vec _))<|ag<|cL 63 1000 rfl rfl rfl ?_
   refine aw hP<|ak rfl<|bA rfl rfl ?_
   refine aj rfl<|ag ?_
   refine ⟨k+1,by omega,by omega,aE ⟨.refl _,.refl _,.refl _,.refl _,aK (by omega),trivial⟩ ⟨Eq.trans rfl (congrArg (fun l=>some (VB 2 29 enI l)) ((hyy k (by omega) hne).symm)),trivial⟩⟩
  have hb4_:=bU hb4
  have heq:=bU hb4
  refine au<|aw hP<|ak rfl<|bA rfl rfl ?_
  refine aj rfl<|ag ?_
  refine ⟨k+1,by omega,by omega,aE ⟨.refl _,.refl _,.refl _,.refl _,aK (by omega),trivial⟩ ⟨Eq.trans rfl (congrArg (fun l=>some (VB 2 29 enI l)) ((hnn k (by omega) heq).symm)),trivial⟩⟩
 have hb3_:=dF0 hb3
 refine aW<|eJ (encD:=enI) dI rfl (t:=6) rfl rfl ?_
 refine ae hP<|ak rfl<|aj rfl<|ag<|am<|E1 rfl rfl ?_
 exact aF (by rw [hall hgc k (by omega)])
theorem vP (D:Int) (m:Nat) (hD:-4194304≤D∧D < 0) (hm:1≤m∧m≤65536) :
  aH Tryz.prog 98 [I D,Z (m:Int),.p (.c (SL enI (rbL D (m:Int))))] (.p (.c (FS (fmL D (m:Int))))):=by
 have hrl:=lr D m hm.2
 have hcB:∀ b∈rbL D m,aH Tryz.prog 42 [I D,Z (m:Int),I b] (FA (m:Int) b ((b*b - D) / (4*(m:Int))))∧aH Tryz.prog 105 [FA (m:Int) b ((b*b - D) / (4*(m:Int)))] (FA (frq D m b).rd.a (frq D m b).rd.b (frq D m b).rd.c):=fun b hb=>by
  have hb2:=(rbL_mem.1 hb)
  have hsq:=kP (x:=b) (m:=131073) (by omega)
  have iD:LB D 6:=⟨by unfold L;omega⟩
  have ib:LB b 6:=⟨by unfold L;omega⟩
  have im:LB (m:Int) 6:=⟨by unfold L;omega⟩
  have i4:LB (4*(m:Int)) 6:=⟨by unfold L;omega⟩
  have isq:LB (b*b) 6:=⟨by unfold L;omega⟩
  exact ⟨pL D m b hD hm (by omega),yb (m:Int) b ((b*b - D) / (4*(m:Int))) lz lz lz⟩
 have hks:=fun k (hk:k < (rbL D m).length)=>MS hk
 have hka:=fun k (hk:(rbL D m).length≤k)=>HK hk
 have hkl:∀ k,((fmL D m).take k).length≤131072:=fun k=>by have:=qa D m hm.2;rw [List.length_take];omega
 have hk0:(fmL D m).take 0=[]:=rfl
 generalize rbL D m=rl at *
 generalize hK:(fun k=>(fmL D m).take k)=K
 have hK':∀ k,(fmL D m).take k=K k:=fun k=>by rw [← hK]
 simp only [hK'] at hks hka hkl hk0
 refine aM Tryz.func98 rfl rfl rfl rfl ?_
 refine ae hP<|aq ai (aL rfl rfl)<|aj rfl<|ag<|ae hP<|aq ai (dB hT rfl rfl rfl (es:=[]) rfl rfl rfl) ?_
 refine ab (a8 (rfl:_=AV.vec _))<|ag<|cL 9 1000 rfl rfl rfl ?_
 refine ao<|ae hP<|aj rfl<|ag<|aC<|bl (ι:=Nat) (fun k=>stL [(1,Z (m:Int)),(2,.p (.c (SL enI rl))),(3,.loc 3 0),(7,.vec 1000),(8,Z (k:Int))] [(3,⟨false,1,29,[zn D,zm D]⟩),(1000,FB 46 (K k))]) (fun k=>k≤rl.length) (fun k=>rl.length - k) 0 (Nat.zero_le _) (aE ⟨.refl _,.refl _,.refl _,.refl _,.refl _,trivial⟩ ⟨rfl,Eq.trans rfl (congrArg (fun l=>some (FB 46 l)) (hk0.symm)),trivial⟩) ?_
 intro k hk
 refine ao<|ae hP<|ak rfl<|ak rfl<|ab (aX hT rfl rfl rfl (by rfl)) ?_
 refine ab (bh rfl rfl)<|ag ?_
 refine ay rfl (fun hb1=>?_) (fun hb1=>?_)
 ·have hb1_:=dT0 hb1
  have hbm:=jP (l:=rl) (k:=k) (by omega)
  refine au<|ao<|aC<|aw hP<|ab (az (rfl:_=AV.vec _))<|av hT rfl<|ak rfl<|ak rfl<|ak rfl<|ab (b9 hT dI (by decide) 0 (n:=(k:Int)) (l:=rl) rfl rfl rfl rfl rfl rfl (by omega)) ?_
  refine ab (bf hT rfl rfl rfl (cs:=enI (rl.getD k 0)) rfl rfl) ?_
  refine ab (ah (hcB _ hbm).1) ?_
  refine ab (ah (hcB _ hbm).2) ?_
  refine ab (bg hT rfl rfl rfl (es:=[_,_,_,_,_,_]) rfl rfl rfl)<|RK.app ai (ma hT rfl rfl rfl rfl rfl rfl rfl (f:=(frq D m (rl.getD k 0)).rd) rfl (by have:=hkl k;omega) (by decide)) ?_
  refine ab (a8 (rfl:_=AV.vec _))<|ag<|cL 26 1000 rfl rfl rfl ?_
  refine aw hP<|ak rfl<|bA rfl rfl ?_
  refine aj rfl<|ag ?_
  refine ⟨k+1,by omega,by omega,aE ⟨.refl _,.refl _,.refl _,.refl _,aK (by omega),trivial⟩ ⟨rfl,Eq.trans rfl (congrArg (fun l=>some (FB 46 l)) ((hks k (by omega)).symm)),trivial⟩⟩
 have hb1_:=dF0 hb1
 refine aW<|lg (t:=7) rfl rfl ?_
 refine ae hP<|ak rfl<|aj rfl<|ag<|am<|E1 rfl rfl ?_
 exact aF (by rw [hka k (by omega)])
end
section
open Go Go.AM
theorem rH (f:Fm) (D:Int) (m:Nat) (hfa:L 6 f.a) (hfb:L 6 f.b) (hfc:L 6 f.c) (hf:Cl D f) (_hD:-4194304≤D∧D < 0) (hm:1≤m∧m≤65536) :
  aH Tryz.prog 29 [FA f.a f.b f.c,Z (m:Int)] (.p (.c (SL enP (prS D m f)))):=by
 have fa:LB f.a 6:=⟨hfa⟩
 have fb:LB f.b 6:=⟨hfb⟩
 have fc:LB f.c 6:=⟨hfc⟩
 have h0m:0 < (m:Int):=by omega
 have jm:bu (m:Int):=by unfold bu;omega
 have hpos:=hf.pos
 have cR:aH Tryz.prog 91 [FA f.a f.b f.c] (.t [PF f.rd,PM (rdM f.a f.b f.c),PE 0]):=by
  have h:=mQ f.a f.b f.c lz lz lz
  rwa [ie hf.pos] at h
 obtain ⟨hdet,happ⟩:=qw hpos
 obtain ⟨⟨ga,gb,gc⟩,⟨Ma,Mb,Mc,Md⟩⟩:=Er hfa hfb hfc
 have hRd:Rd f.rd:=hf.rd_Rd
 have hfin:∀ k:Nat,4*(m:Int) < 3*((k:Int)*k)→rfP f.rd (rdM f.a f.b f.c) m k=prS D m f:=fun k hk=>by
  have e:f.rd=f.app (rdM f.a f.b f.c):=happ
  rw [e] at hRd ⊢
  exact Gm hf h0m hdet hRd hk
 have ga':LB f.rd.a 7:=⟨ga⟩
 have gb':LB f.rd.b 7:=⟨gb⟩
 have gc':LB f.rd.c 7:=⟨gc⟩
 have Ma':LB (rdM f.a f.b f.c).a 7:=⟨Ma⟩
 have Mb':LB (rdM f.a f.b f.c).b 7:=⟨Mb⟩
 have Mc':LB (rdM f.a f.b f.c).c 7:=⟨Mc⟩
 have Md':LB (rdM f.a f.b f.c).d 7:=⟨Md⟩
 clear ga gb gc Ma Mb Mc Md hRd happ hdet
 generalize f.rd=g at *
 generalize rdM f.a f.b f.c=M at *
 refine aM Tryz.func29 rfl rfl rfl rfl ?_
 refine ae hP<|aq ai (aL rfl rfl)<|aj rfl<|ag<|ae hP<|br hT rfl rfl rfl rfl rfl rfl<|ab (ah cR) ?_
 refine ab (az (rfl:_=AV.t _))<|ab (aD rfl (v:=.a _) rfl)<|ab (aD rfl (v:=.a _) rfl)<|ab (aD rfl (v:=.c _) rfl)<|aq ai (aB hT rfl rfl)<|aq ai (aB hT rfl rfl)<|aG hT rfl<|aG hT rfl<|aj rfl<|ag<|ae hP<|ab (bg hT rfl rfl rfl (es:=[]) rfl rfl rfl)<|aj rfl<|ag<|ae hP<|aj rfl<|ag<|ao<|aC<|bl (ι:=Nat) (fun k=>stL [(1,Z (m:Int)),(5,.loc 5 0),(6,.loc 6 0),(8,.p (.c (SL enP []))),(9,Z (k:Int))] [(5,⟨false,1,46,FL g.a g.b g.c⟩),(6,⟨false,1,87,ML M.a M.b M.c M.d⟩)]) (fun k=>MsI m k) (fun k=>301 - k) 1 MsI.start (aE ⟨.refl _,.refl _,.refl _,.refl _,.refl _,trivial⟩ ⟨rfl,rfl,trivial⟩) ?_
 intro k hK
 have hk:=hK.le hm.2
 have hk1:=hK.1
 refine ao<|ae hP<|ak rfl<|ab (bQ rfl rfl (by first | exact iW0 _ (by omega) | rfl)) ?_
 refine ak rfl<|ab (bQ rfl rfl (c:=3*(k:Int)*k) (Kg hK (by omega))) ?_
 refine ak rfl<|ab (bQ rfl rfl (by first | exact iW0 _ (by omega) | rfl)) ?_
 refine ab (ej rfl rfl)<|ag ?_
 refine ay rfl (fun hb1=>?_) (fun hb1=>?_)
 ·have hb1_:=dT0 hb1
  have hms:=hK.next (dT0 hb1)
  refine au<|aC<|aw hP<|ak rfl<|bA rfl rfl ?_
  refine aj rfl<|ag ?_
  refine ⟨k+1,hms,(by have:=hms.le hm.2;omega),aE ⟨.refl _,.refl _,.refl _,.refl _,aK (by omega),trivial⟩ ⟨rfl,rfl,trivial⟩⟩
 have hb1_:=dF0 hb1
 have hend:=hfin k (Hf (dF0 hb1))
 refine aW<|ao<|ae hP<|ak rfl<|ab (dV rfl (by first | exact iW0 _ (by omega) | rfl)) ?_
 refine aj rfl<|ag<|aC<|bl (ι:=Nat) (fun i=>stL [(1,Z (m:Int)),(5,.loc 5 0),(6,.loc 6 0),(8,.p (.c (SL enP (rP g M m k i)))),(9,Z (k:Int)),(10,Z ((i:Int) - k))] [(5,⟨false,1,46,FL g.a g.b g.c⟩),(6,⟨false,1,87,ML M.a M.b M.c M.d⟩)]) (fun i=>i≤2*k+1) (fun i=>2*k+1 - i) 0 (Nat.zero_le _) (aE ⟨.refl _,.refl _,.refl _,aF (congrArg (fun l=>(.p (.c (SL enP l)):AV)) (rP_0.symm)),.refl _,aK (by omega),trivial⟩ ⟨rfl,rfl,trivial⟩) ?_
 intro i hi
 refine ao<|ae hP<|ak rfl<|ak rfl<|ab (ej rfl rfl)<|ag ?_
 refine ay rfl (fun hb2=>?_) (fun hb2=>?_)
 ·have hb2_:=dT0 hb2
  have hi1:i < 2*k+1:=by omega
  refine au<|ao<|aC<|ae hP<|ak rfl<|ab (dV rfl (by first | exact iW0 _ (by omega) | rfl)) ?_
  refine aj rfl<|ag<|aC<|bl (ι:=Nat) (fun j=>stL [(1,Z (m:Int)),(5,.loc 5 0),(6,.loc 6 0),(8,.p (.c (SL enP (rQ g M m k i j)))),(9,Z (k:Int)),(10,Z ((i:Int) - k)),(11,Z ((j:Int) - k))] [(5,⟨false,1,46,FL g.a g.b g.c⟩),(6,⟨false,1,87,ML M.a M.b M.c M.d⟩)]) (fun j=>j≤2*k+1) (fun j=>2*k+1 - j) 0 (Nat.zero_le _) (aE ⟨.refl _,.refl _,.refl _,aF (congrArg (fun l=>(.p (.c (SL enP l)):AV)) (rQ_0.symm)),.refl _,.refl _,aK (by omega),trivial⟩ ⟨rfl,rfl,trivial⟩) ?_
  intro j hj
  have hlen:=JN (g:=g) (m:=M) (n:=(m:Int)) (i:=i) (j:=j) (show k≤400 by omega)
  generalize hl:rQ g M m k i j=l at *
  refine ao<|ae hP<|ak rfl<|ak rfl<|ab (ej rfl rfl)<|ag ?_
  refine ay rfl (fun hb3=>?_) (fun hb3=>?_)
  ·have hb3_:=dT0 hb3
   have hj1:j < 2*k+1:=by omega
   have iu:LB ((i:Int) - k) 6:=⟨by unfold L;omega⟩
   have iv:LB ((j:Int) - k) 6:=⟨by unfold L;omega⟩
   refine au<|ao<|aC<|ae hP<|ak rfl<|ab (ah (ce ((i:Int) - k) (by unfold bu;omega))) ?_
   refine ak rfl<|ab (ah (ce ((j:Int) - k) (by unfold bu;omega))) ?_
   refine aq ai (aB hT rfl rfl)<|aq ai (aB hT rfl rfl)<|aG hT rfl<|aG hT rfl<|ag<|ao<|ae hP<|br hT rfl rfl rfl rfl rfl rfl<|ak rfl<|av hT rfl<|av hT rfl<|ab (ah (yd g (m:Int) ((i:Int) - k) ((j:Int) - k) lz lz lz jm lz lz)) ?_
   refine ab (bw rfl)<|ag ?_
   refine ay rfl (fun hb4=>?_) (fun hb4=>?_)
   ·have hb4_:=(bY hb4)
    have hpr:dP g m ((i:Int) - k,(j:Int) - k)=false:=bY hb4
    refine aW<|aw hP<|ak rfl<|bA rfl rfl ?_
    refine aj rfl<|ag ?_
    refine ⟨j+1,hj1,by omega,aE ⟨.refl _,.refl _,.refl _,aF (congrArg (fun l=>(.p (.c (SL enP l)):AV)) (((NC hj1 hpr).trans hl).symm)),.refl _,.refl _,aK (by omega),trivial⟩ ⟨rfl,rfl,trivial⟩⟩
   have hb4_:=(bW hb4)
   have hpr:dP g m ((i:Int) - k,(j:Int) - k)=true:=bW hb4
   have hQy:=NB (m:=M) hj1 hpr
   generalize hp:(mvM M ((i:Int) - k,(j:Int) - k))=p at hQy
   have e1:M.a*((i:Int) - k)+M.b*((j:Int) - k)=p.1:=congrArg Prod.fst hp
   have e2:M.c*((i:Int) - k)+M.d*((j:Int) - k)=p.2:=congrArg Prod.snd hp
   have hA1:aH Tryz.prog 93 [I (M.a*((i:Int) - k)),I (M.b*((j:Int) - k))] (I p.1):=by
    rw [← e1]
    exact jB _ _ lz lz
   have hA2:aH Tryz.prog 93 [I (M.c*((i:Int) - k)),I (M.d*((j:Int) - k))] (I p.2):=by
    rw [← e2]
    exact jB _ _ lz lz
   refine au<|ae hP<|aI hT rfl<|av hT rfl<|av hT rfl<|ab (ah (dJ M.a ((i:Int) - k) lz lz)) ?_
   refine aI hT rfl<|av hT rfl<|av hT rfl<|ab (ah (dJ M.b ((j:Int) - k) lz lz)) ?_
   refine ab (ah hA1) ?_
   refine aI hT rfl<|av hT rfl<|av hT rfl<|ab (ah (dJ M.c ((i:Int) - k) lz lz)) ?_
   refine aI hT rfl<|av hT rfl<|av hT rfl<|ab (ah (dJ M.d ((j:Int) - k) lz lz)) ?_
   refine ab (ah hA2) ?_
   refine ab (dA hT rfl rfl rfl (es:=[_,_,_,_]) rfl)<|aq ai (aB hT rfl rfl)<|aG hT rfl<|ag<|ae hP<|aj rfl<|ag<|ao<|aC<|bl (ι:=Nat) (fun q=>stL [(1,Z (m:Int)),(5,.loc 5 0),(6,.loc 6 0),(8,.p (.c (SL enP l))),(9,Z (k:Int)),(10,Z ((i:Int) - k)),(11,Z ((j:Int) - k)),(14,.loc 14 0),(15,Z (q:Int))] [(5,⟨false,1,46,FL g.a g.b g.c⟩),(6,⟨false,1,87,ML M.a M.b M.c M.d⟩),(14,⟨false,1,93,enP p⟩)]) (fun q=>InI p l q) (fun q=>l.length - q) 0 InI.start (aE ⟨.refl _,.refl _,.refl _,.refl _,.refl _,.refl _,.refl _,.refl _,.refl _,trivial⟩ ⟨rfl,rfl,rfl,trivial⟩) ?_
   intro q hI
   have hq:=hI.1
   refine ao<|ae hP<|ak rfl<|ak rfl<|ab (aX hT rfl rfl rfl (by rfl)) ?_
   refine ab (bh rfl rfl)<|ak rfl ?_
   refine aY (t:=79) rfl (fun hg5=>?_) (fun hg5=>?_)
   ·have hg5_:=dT0 hg5
    have hql:q < l.length:=by have:=dT0 hg5;omega
    refine aA hg5 (az (rfl:_=AV.p (.c _))) ?_
    refine aA hg5 (az (rfl:_=AV.p (.c _))) ?_
    refine aA hg5 (b9 hT cf (by decide) (0,0) (n:=(q:Int)) (l:=l) rfl rfl rfl rfl rfl rfl (by omega)) ?_
    refine aA hg5 (bf hT rfl rfl rfl (cs:=enP (l.getD q (0,0))) rfl rfl) ?_
    refine aA hg5 (aJ hT rfl rfl rfl rfl (cs:=enP p) rfl rfl) ?_
    refine aA hg5 (ah (tQ (l.getD q (0,0)) p)) ?_
    refine ab (aO rfl hg5 (rfl:_=AV.p (.c _)))<|ag ?_
    refine ay rfl (fun hb6=>?_) (fun hb6=>?_)
    ·have hlt:lt2 (l.getD q (0,0)) p=true:=hb6
     refine au<|aC<|aw hP<|ak rfl<|bA rfl rfl ?_
     refine aj rfl<|ag ?_
     refine ⟨q+1,hI.next hql hlt,by omega,aE ⟨.refl _,.refl _,.refl _,.refl _,.refl _,.refl _,.refl _,.refl _,aK (by omega),trivial⟩ ⟨rfl,rfl,rfl,trivial⟩⟩
    have hnl:lt2 (l.getD q (0,0)) p=false:=hb6
    refine aW<|aw hP<|aq ai (dB hT rfl rfl rfl (es:=[]) rfl rfl rfl) ?_
    refine ak rfl<|ak rfl<|ab (oy hT cf (n:=q) (l:=l) rfl rfl rfl rfl rfl rfl hI.1) ?_
    refine RK.app ai (j7 hT cf (by decide) (l:=[]) (l':=l.take q) rfl rfl rfl rfl rfl rfl rfl rfl (by have:=List.length_take_le q l;simp only [List.length_nil];omega) (by decide) (by decide)) ?_
    refine ab (aJ hT rfl rfl rfl rfl (cs:=enP p) rfl rfl)<|ab (bg hT rfl rfl rfl (es:=[_,_,_,_]) rfl rfl rfl)<|RK.app ai (gE (encD:=enP) hT cf (by decide) (l:=l.take q) rfl rfl rfl rfl rfl rfl rfl (b:=p) rfl (by have:=List.length_take_le q l;omega) (by decide) (by decide)) ?_
    refine ak rfl<|ak rfl<|ab (ox hT cf (n:=q) (l:=l) rfl rfl rfl rfl rfl rfl hI.1) ?_
    refine RK.app ai (j7 hT cf (by decide) (l:=l.take q ++ [p]) (l':=l.drop q) rfl rfl rfl rfl rfl rfl rfl rfl (by have:=List.length_take_le q l;rw [List.length_append,List.length_drop];simp only [List.length_singleton];omega) (by decide) (by decide)) ?_
    refine ab (a8 (rfl:_=AV.vec _))<|ag<|eJ (encD:=enP) cf rfl (t:=8) rfl rfl ?_
    refine aw hP<|ak rfl<|bA rfl rfl ?_
    refine aj rfl<|ag ?_
    refine ⟨j+1,hj1,by omega,aE ⟨.refl _,.refl _,.refl _,aF (congrArg (fun l=>(.p (.c (SL enP l)):AV)) ((hI.done (fun _=>hnl)).trans (hQy.trans (by rw [hl])).symm)),.refl _,.refl _,aK (by omega),trivial⟩ ⟨rfl,rfl,trivial⟩⟩
   have hg5_:=dF0 hg5
   have hql:¬ q < l.length:=fun z=>dF0 hg5 (by omega)
   iterate 6 refine aZ hg5 ?_
   refine ab (aN rfl hg5 (rfl:_=AV.p (.c _)))<|ag<|aQ rfl rfl<|aW<|aw hP<|aq ai (dB hT rfl rfl rfl (es:=[]) rfl rfl rfl) ?_
   refine ak rfl<|ak rfl<|ab (oy hT cf (n:=q) (l:=l) rfl rfl rfl rfl rfl rfl hI.1) ?_
   refine RK.app ai (j7 hT cf (by decide) (l:=[]) (l':=l.take q) rfl rfl rfl rfl rfl rfl rfl rfl (by have:=List.length_take_le q l;simp only [List.length_nil];omega) (by decide) (by decide)) ?_
   refine ab (aJ hT rfl rfl rfl rfl (cs:=enP p) rfl rfl)<|ab (bg hT rfl rfl rfl (es:=[_,_,_,_]) rfl rfl rfl)<|RK.app ai (gE (encD:=enP) hT cf (by decide) (l:=l.take q) rfl rfl rfl rfl rfl rfl rfl (b:=p) rfl (by have:=List.length_take_le q l;omega) (by decide) (by decide)) ?_
   refine ak rfl<|ak rfl<|ab (ox hT cf (n:=q) (l:=l) rfl rfl rfl rfl rfl rfl hI.1) ?_
   refine RK.app ai (j7 hT cf (by decide) (l:=l.take q ++ [p]) (l':=l.drop q) rfl rfl rfl rfl rfl rfl rfl rfl (by have:=List.length_take_le q l;rw [List.length_append,List.length_drop];simp only [List.length_singleton];omega) (by decide) (by decide)) ?_
   refine ab (a8 (rfl:_=AV.vec _))<|ag<|eJ (encD:=enP) cf rfl (t:=8) rfl rfl ?_
   refine aw hP<|ak rfl<|bA rfl rfl ?_
   refine aj rfl<|ag ?_
   refine ⟨j+1,hj1,by omega,aE ⟨.refl _,.refl _,.refl _,aF (congrArg (fun l=>(.p (.c (SL enP l)):AV)) ((hI.done (fun z=>absurd z hql)).trans (hQy.trans (by rw [hl])).symm)),.refl _,.refl _,aK (by omega),trivial⟩ ⟨rfl,rfl,trivial⟩⟩
  have hb3_:=dF0 hb3
  refine aW<|aw hP<|ak rfl<|bA rfl rfl ?_
  refine aj rfl<|ag ?_
  refine ⟨i+1,hi1,by omega,aE ⟨.refl _,.refl _,.refl _,aF (congrArg (fun l=>(.p (.c (SL enP l)):AV)) (hl.symm.trans (ND (j:=j) hi1 (by omega)).symm)),.refl _,aK (by omega),trivial⟩ ⟨rfl,rfl,trivial⟩⟩
 have hb2_:=dF0 hb2
 refine aW<|ae hP<|ak rfl<|aj rfl<|ag<|am<|E1 rfl rfl ?_
 exact aF (by rw [JO (by omega),hend])
theorem zO (l:List Pr2) (p:Pr2) (hl:l.length≤1000000) (hs:fU l) (hb:cW l=some p) :
  aH Tryz.prog 95 [.p (.c (SL enP l))] (.p (.a (enP p))):=by
 refine aM Tryz.func95 rfl rfl rfl rfl ?_
 refine ae hP<|aq ai (aB hT rfl rfl)<|ag<|ae hP<|aj rfl<|ag<|ao<|ae hP<|aj rfl<|ag<|aC<|bl (ι:=Nat × Int) (fun q=>stL [(0,.p (.c (SL enP l))),(2,.loc 2 0),(3,Z q.2),(4,Z ((q.1:Nat):Int))] [(2,⟨false,1,93,enP (0,0)⟩)]) (fun q=>q.1≤l.length∧FsI l q.1 q.2) (fun q=>l.length - q.1) (0,-1) ⟨Nat.zero_le _,FsI.start l⟩ (aE ⟨.refl _,.refl _,.refl _,.refl _,trivial⟩ ⟨rfl,trivial⟩) ?_
 intro q hq
 obtain ⟨hk,hI⟩:=hq
 refine ao<|ae hP<|ak rfl<|ak rfl<|ab (aX hT rfl rfl rfl (by rfl)) ?_
 refine ab (bh rfl rfl)<|ag ?_
 refine ay rfl (fun hb1=>?_) (fun hb1=>?_)
 ·have hb1_:=dT0 hb1
  have hkl:q.1 < l.length:=by omega
  have hgk:=jv (l:=l) (k:=q.1) hkl (0,0)
  refine au<|ao<|aC<|ae hP<|ak rfl<|ak rfl<|ab (b9 hT cf (by decide) (0,0) (n:=((q.1:Nat):Int)) (l:=l) rfl rfl rfl rfl rfl rfl (by omega)) ?_
  refine ab (cE hT rfl rfl rfl rfl rfl (by decide)) ?_
  refine ab (bf hT rfl rfl rfl (cs:=enI ((l.getD q.1 (0,0)).2)) rfl rfl) ?_
  refine ab (ah (dS _)) ?_
  refine aj rfl<|ag<|ao<|ae hP<|ak rfl<|ab (bh rfl rfl)<|ak rfl ?_
  refine aY (t:=20) rfl (fun hg2=>?_) (fun hg2=>?_)
  ·have hg2_:=dT0 hg2
   have s1:(l.getD q.1 (0,0)).2 < 0:=sgn_lt_iff.1 (dT0 hg2)
   iterate 3 refine aZ hg2 ?_
   iterate 7 refine ff ?_
   refine aZ hg2 ?_
   refine ab (aO rfl hg2 (rfl:_=AV.p (.c _)))<|ag<|aU rfl rfl<|aW<|aw hP<|ak rfl<|bA rfl rfl ?_
   refine aj rfl<|ag ?_
   refine ⟨(q.1+1,q.2),⟨hkl,hI.skip hgk (.inl s1)⟩,(by show l.length - (q.1+1) < l.length - q.1;omega),aE ⟨.refl _,.refl _,.refl _,aK (by show ((q.1:Nat):Int)+1=((q.1+1:Nat):Int);omega),trivial⟩ ⟨rfl,trivial⟩⟩
  have hg2_:=dF0 hg2
  have s1:¬ (l.getD q.1 (0,0)).2 < 0:=fun z=>dF0 hg2 (sgn_lt_iff.2 z)
  refine aA hg2 (az (rfl:_=AV.p (.c _))) ?_
  refine aA hg2 (bj rfl rfl) ?_
  refine aA hg2 (az (rfl:_=AV.p (.c _))) ?_
  refine aY (t:=23) rfl (fun hg3=>?_) (fun hg3=>?_)
  ·have hg3_:=bT hg3
   have s2:(l.getD q.1 (0,0)).2=0:=sgn_0.1 hg3
   refine aA hg3 (az (rfl:_=AV.p (.c _))) ?_
   refine aA hg3 (az (rfl:_=AV.p (.c _))) ?_
   refine aA hg3 (b9 hT cf (by decide) (0,0) (n:=((q.1:Nat):Int)) (l:=l) rfl rfl rfl rfl rfl rfl (by omega)) ?_
   refine aA hg3 (cE hT rfl rfl rfl rfl rfl (by decide)) ?_
   refine aA hg3 (bf hT rfl rfl rfl (cs:=enI ((l.getD q.1 (0,0)).1)) rfl rfl) ?_
   refine aA hg3 (ah (dS _)) ?_
   refine aA hg3 (bh rfl rfl) ?_
   refine aA hg2 (aO rfl hg3 (rfl:_=AV.p (.c _))) ?_
   refine ab (aN rfl hg2 (rfl:_=AV.p (.c _)))<|ag ?_
   refine ay rfl (fun hb4=>?_) (fun hb4=>?_)
   ·have hb4_:=dT0 hb4
    have s3:(l.getD q.1 (0,0)).1 < 0:=sgn_lt_iff.1 (dT0 hb4)
    refine aW<|aw hP<|ak rfl<|bA rfl rfl ?_
    refine aj rfl<|ag ?_
    refine ⟨(q.1+1,q.2),⟨hkl,hI.skip hgk (.inr ⟨s2,s3⟩)⟩,(by show l.length - (q.1+1) < l.length - q.1;omega),aE ⟨.refl _,.refl _,.refl _,aK (by show ((q.1:Nat):Int)+1=((q.1+1:Nat):Int);omega),trivial⟩ ⟨rfl,trivial⟩⟩
   have hb4_:=dF0 hb4
   have s3:¬ (l.getD q.1 (0,0)).1 < 0:=fun z=>dF0 hb4 (sgn_lt_iff.2 z)
   have ho:=EQ s1 (.inr s3)
   refine au<|ae hP<|ak rfl<|ab (bh rfl rfl)<|ak rfl ?_
   refine aY (t:=35) rfl (fun hg5=>?_) (fun hg5=>?_)
   ·have hg5_:=dT0 hg5
    have s5:=dT0 hg5
    iterate 12 refine aZ hg5 ?_
    refine ab (aO rfl hg5 (rfl:_=AV.p (.c _)))<|ag<|aU rfl rfl<|aw hP<|ak rfl<|aj rfl<|ag<|aw hP<|ak rfl<|bA rfl rfl ?_
    refine aj rfl<|ag ?_
    refine ⟨(q.1+1,((q.1:Nat):Int)),⟨hkl,hI.first hgk ho s5⟩,(by show l.length - (q.1+1) < l.length - q.1;omega),aE ⟨.refl _,.refl _,.refl _,aK (by show ((q.1:Nat):Int)+1=((q.1+1:Nat):Int);omega),trivial⟩ ⟨rfl,trivial⟩⟩
   have hg5_:=dF0 hg5
   have s5:=dF0 hg5
   refine (FsI.get hI s5).elim (fun q' hqq=>?_)
   have hq1:=hqq.1
   have hq2:=hqq.2.1
   have hq3:=hqq.2.2
   have hqe:=uS hq1
   have hbl:0≤q.2∧q.2 < l.length:=by omega
   refine aA hg5 (az (rfl:_=AV.p (.c _))) ?_
   refine aA hg5 (az (rfl:_=AV.p (.c _))) ?_
   refine aA hg5 (b9 hT cf (by decide) (0,0) (n:=((q.1:Nat):Int)) (l:=l) rfl rfl rfl rfl rfl rfl (by omega)) ?_
   refine aA hg5 (cE hT rfl rfl rfl rfl rfl (by decide)) ?_
   refine aA hg5 (bf hT rfl rfl rfl (cs:=enI ((l.getD q.1 (0,0)).2)) rfl rfl) ?_
   refine aA hg5 (az (rfl:_=AV.p (.c _))) ?_
   refine aA hg5 (az (rfl:_=AV.p (.c _))) ?_
   refine aA hg5 (b9 hT cf (by decide) (0,0) (n:=q.2) (l:=l) rfl rfl rfl rfl rfl rfl (by omega)) ?_
   refine aA hg5 (cE hT rfl rfl rfl rfl rfl (by decide)) ?_
   refine aA hg5 (bf hT rfl rfl rfl (cs:=enI ((l.getD q.2.toNat (0,0)).2)) rfl rfl) ?_
   refine aA hg5 (ah (gR _ _)) ?_
   refine aA hg5 (bh rfl rfl) ?_
   refine ab (aN rfl hg5 (rfl:_=AV.p (.c _)))<|ag ?_
   refine ay rfl (fun hb6=>?_) (fun hb6=>?_)
   ·have hb6_:=dT0 hb6
    have s6:(l.getD q.1 (0,0)).2 < q'.2:=by rw [← hqe];exact cmpI_lt_zero.1 (dT0 hb6)
    refine aw hP<|ak rfl<|aj rfl<|ag<|aw hP<|ak rfl<|bA rfl rfl ?_
    refine aj rfl<|ag ?_
    refine ⟨(q.1+1,((q.1:Nat):Int)),⟨hkl,hI.lt hgk ho hq3 s6⟩,(by show l.length - (q.1+1) < l.length - q.1;omega),aE ⟨.refl _,.refl _,.refl _,aK (by show ((q.1:Nat):Int)+1=((q.1+1:Nat):Int);omega),trivial⟩ ⟨rfl,trivial⟩⟩
   have hb6_:=dF0 hb6
   have s6:¬ (l.getD q.1 (0,0)).2 < q'.2:=by rw [← hqe];exact fun z=>dF0 hb6 (cmpI_lt_zero.2 z)
   refine au<|aw hP<|ak rfl<|bA rfl rfl ?_
   refine aj rfl<|ag ?_
   refine ⟨(q.1+1,q.2),⟨hkl,hI.ge hgk ho s5 hq3 s6⟩,(by show l.length - (q.1+1) < l.length - q.1;omega),aE ⟨.refl _,.refl _,.refl _,aK (by show ((q.1:Nat):Int)+1=((q.1+1:Nat):Int);omega),trivial⟩ ⟨rfl,trivial⟩⟩
  have hg3_:=bF hg3
  have s2:¬ (l.getD q.1 (0,0)).2=0:=fun z=>Bool.false_ne_true (hg3.symm.trans (sgn_0.2 z))
  have ho:=EQ s1 (.inl s2)
  iterate 7 refine aZ hg3 ?_
  refine aA hg2 (aN rfl hg3 (rfl:_=AV.p (.c _))) ?_
  refine ab (aN rfl hg2 (rfl:_=AV.p (.c _)))<|ag<|aQ rfl rfl<|au<|ae hP<|ak rfl<|ab (bh rfl rfl)<|ak rfl ?_
  refine aY (t:=35) rfl (fun hg7=>?_) (fun hg7=>?_)
  ·have hg7_:=dT0 hg7
   have s5:=dT0 hg7
   iterate 12 refine aZ hg7 ?_
   refine ab (aO rfl hg7 (rfl:_=AV.p (.c _)))<|ag<|aU rfl rfl<|aw hP<|ak rfl<|aj rfl<|ag<|aw hP<|ak rfl<|bA rfl rfl ?_
   refine aj rfl<|ag ?_
   refine ⟨(q.1+1,((q.1:Nat):Int)),⟨hkl,hI.first hgk ho s5⟩,(by show l.length - (q.1+1) < l.length - q.1;omega),aE ⟨.refl _,.refl _,.refl _,aK (by show ((q.1:Nat):Int)+1=((q.1+1:Nat):Int);omega),trivial⟩ ⟨rfl,trivial⟩⟩
  have hg7_:=dF0 hg7
  have s5:=dF0 hg7
  refine (FsI.get hI s5).elim (fun q' hqq=>?_)
  have hq1:=hqq.1
  have hq2:=hqq.2.1
  have hq3:=hqq.2.2
  have hqe:=uS hq1
  have hbl:0≤q.2∧q.2 < l.length:=by omega
  refine aA hg7 (az (rfl:_=AV.p (.c _))) ?_
  refine aA hg7 (az (rfl:_=AV.p (.c _))) ?_
  refine aA hg7 (b9 hT cf (by decide) (0,0) (n:=((q.1:Nat):Int)) (l:=l) rfl rfl rfl rfl rfl rfl (by omega)) ?_
  refine aA hg7 (cE hT rfl rfl rfl rfl rfl (by decide)) ?_
  refine aA hg7 (bf hT rfl rfl rfl (cs:=enI ((l.getD q.1 (0,0)).2)) rfl rfl) ?_
  refine aA hg7 (az (rfl:_=AV.p (.c _))) ?_
  refine aA hg7 (az (rfl:_=AV.p (.c _))) ?_
  refine aA hg7 (b9 hT cf (by decide) (0,0) (n:=q.2) (l:=l) rfl rfl rfl rfl rfl rfl (by omega)) ?_
  refine aA hg7 (cE hT rfl rfl rfl rfl rfl (by decide)) ?_
  refine aA hg7 (bf hT rfl rfl rfl (cs:=enI ((l.getD q.2.toNat (0,0)).2)) rfl rfl) ?_
  refine aA hg7 (ah (gR _ _)) ?_
  refine aA hg7 (bh rfl rfl) ?_
  refine ab (aN rfl hg7 (rfl:_=AV.p (.c _)))<|ag ?_
  refine ay rfl (fun hb8=>?_) (fun hb8=>?_)
  ·have hb8_:=dT0 hb8
   have s6:(l.getD q.1 (0,0)).2 < q'.2:=by rw [← hqe];exact cmpI_lt_zero.1 (dT0 hb8)
   refine aw hP<|ak rfl<|aj rfl<|ag<|aw hP<|ak rfl<|bA rfl rfl ?_
   refine aj rfl<|ag ?_
   refine ⟨(q.1+1,((q.1:Nat):Int)),⟨hkl,hI.lt hgk ho hq3 s6⟩,(by show l.length - (q.1+1) < l.length - q.1;omega),aE ⟨.refl _,.refl _,.refl _,aK (by show ((q.1:Nat):Int)+1=((q.1+1:Nat):Int);omega),trivial⟩ ⟨rfl,trivial⟩⟩
  have hb8_:=dF0 hb8
  have s6:¬ (l.getD q.1 (0,0)).2 < q'.2:=by rw [← hqe];exact fun z=>dF0 hb8 (cmpI_lt_zero.2 z)
  refine au<|aw hP<|ak rfl<|bA rfl rfl ?_
  refine aj rfl<|ag ?_
  refine ⟨(q.1+1,q.2),⟨hkl,hI.ge hgk ho s5 hq3 s6⟩,(by show l.length - (q.1+1) < l.length - q.1;omega),aE ⟨.refl _,.refl _,.refl _,aK (by show ((q.1:Nat):Int)+1=((q.1+1:Nat):Int);omega),trivial⟩ ⟨rfl,trivial⟩⟩
 have hb1_:=dF0 hb1
 have hkl:q.1=l.length:=by omega
 have hdn:=FsI.done (hkl ▸ hI) hs hb
 have hbn:=KV hdn.2
 have hbl:0≤q.2∧q.2 < l.length:=by omega
 refine aW<|ae hP<|ak rfl<|ak rfl<|ab (b9 hT cf (by decide) (0,0) (n:=q.2) (l:=l) rfl rfl rfl rfl rfl rfl (by omega)) ?_
 refine ab (bf hT rfl rfl rfl (cs:=enP (l.getD q.2.toNat (0,0))) rfl rfl) ?_
 refine aG hT rfl<|ag<|am ?_
 refine bI rfl (.inr rfl) (aP hT rfl rfl rfl rfl (cs:=[_,_,_,_]) rfl rfl) ?_ bt
 exact aF (by rw [uS hdn.2])
end
section
open Go Go.AM
theorem pM (f:Fm) (D:Int) (m:Nat) (hfa:L 6 f.a) (hfb:L 6 f.b) (hfc:L 6 f.c) (hf:Cl D f) (hD:-4194304≤D∧D < 0) (hm:1≤m∧m≤65536) (hE:szE D=0) :
  aH Tryz.prog 31 [FA f.a f.b f.c,Z (m:Int)] (.p (.a (anS (fnd D m f) ++ [.v (.int .i64 0)]))):=by
 have fa:LB f.a 6:=⟨hfa⟩
 have fb:LB f.b 6:=⟨hfb⟩
 have fc:LB f.c 6:=⟨hfc⟩
 have hdf:dsc f.a f.b f.c=D:=hf.disc
 have iD:LB D 6:=⟨by unfold L;omega⟩
 have cRf:aH Tryz.prog 33 [FA f.a f.b f.c,Z (m:Int)] (Z 0):=by
  have h:=kU f m hfa hfb hfc
  rwa [te hf hm] at h
 have cDs:aH Tryz.prog 24 [FA f.a f.b f.c] (I D):=by rw [← hdf];exact gx f.a f.b f.c lz lz lz
 have cPs:=rH f D m hfa hfb hfc hf hD hm
 have cBl:=vQ D m hD hm
 have cAg:=vR f D m hfa hfb hfc hf hD hm hE
 have cAl:=kw D m hD hm
 have cCl:=vP D m hD hm
 have hpn:(prS D m f).length≤1000000:=by rw [pO];exact tV hm
 have hsr:=wK (n:=(m:Int)) hf (by omega)
 have hbb:=Oe (D:=D) hm
 have g0:=fun h=>Ob (D:=D) (m:=m) (f:=f) hf hm.1 h
 have gp:=fun h=>N5 (D:=D) (m:=m) (f:=f) hf hm.1 h
 have g1:=fun p h=>Oa (D:=D) (m:=m) (f:=f) (p:=p) h
 have g2:=fun h0 h=>N9 (D:=D) (m:=m) (f:=f) h0 h
 have gb:=fun h=>N6 (D:=D) (m:=m) hm h
 have g3:=fun h0 h1 h=>N8 (D:=D) (m:=m) (f:=f) h0 h1 h
 have g4:=fun h0 h1 h=>N7 (D:=D) (m:=m) (f:=f) h0 h1 h
 generalize hbz:bkZ D m=bz at *
 generalize agL D m f=al at *
 generalize prS D m f=pl at *
 generalize fnd D m f=an at *
 refine aM Tryz.func31 rfl rfl rfl rfl ?_
 refine ae hP<|aq ai (aL rfl rfl)<|aq ai (aB hT rfl rfl)<|ag<|ae hP<|br hT rfl rfl rfl rfl rfl rfl<|ak rfl<|ab (ah cRf) ?_
 refine aj rfl<|ag<|ao<|ae hP<|ak rfl<|ab (bq rfl rfl)<|ag<|aQ rfl rfl<|au<|ae hP<|br hT rfl rfl rfl rfl rfl rfl<|ak rfl<|ab (ah cPs) ?_
 refine br hT rfl rfl rfl rfl rfl rfl<|ab (ah cDs) ?_
 refine aq ai (aB hT rfl rfl)<|aj rfl<|aG hT rfl<|ag<|ao<|ae hP<|ak rfl<|ab (aX hT rfl rfl rfl (by rfl)) ?_
 refine ab (bJ rfl rfl)<|ag ?_
 refine ay rfl (fun hb1=>?_) (fun hb1=>?_)
 ·have hb1_:=dT0 hb1
  have hpl:pl.length > 0:=by omega
  refine (gp hpl).elim (fun p hp=>?_)
  refine ae hP<|ak rfl<|ab (ah (zO pl p hpn hsr hp)) ?_
  refine aq ai (aB hT rfl rfl)<|aG hT rfl<|ag<|ae hP<|ab (aV hT rfl rfl rfl rfl rfl (by first | decide | omega)) ?_
  refine av hT rfl<|ab (aV hT rfl rfl rfl rfl rfl (by first | decide | omega)) ?_
  refine av hT rfl<|ab (aR hT rfl rfl rfl (es:=[_,_,_,_,_,_,_,_,_]) rfl)<|ab (aR hT rfl rfl rfl (es:=[_,_,_,_,_,_,_,_,_,_]) rfl)<|aG hT rfl<|ag<|am ?_
  refine bI rfl (.inr rfl) (aP hT rfl rfl rfl rfl (cs:=[_,_,_,_,_,_,_,_,_,_]) rfl rfl) ?_ bt
  exact aF (congrArg (fun d:List DV=>(.p (.a (d ++ [.v (.int .i64 0)])):AV)) (g1 p hp))
 have hb1_:=dF0 hb1
 have h0:=g0 (by omega)
 refine au<|ae hP<|av hT rfl<|ak rfl<|ab (ah cBl) ?_
 refine br hT rfl rfl rfl rfl rfl rfl<|ak rfl<|ab (ah cAg) ?_
 refine aj rfl<|aj rfl<|ag<|ao<|ae hP<|ak rfl<|ab (bJ rfl rfl)<|ag ?_
 refine ay rfl (fun hb2=>?_) (fun hb2=>?_)
 ·have hb2_:=dT0 hb2
  have hq:=dT0 hb2
  refine ae hP<|ak rfl<|ab (ah (ce bz (by unfold bu;omega))) ?_
  refine ab (aR hT rfl rfl rfl (es:=[_,_,_,_,_,_,_,_,_]) rfl)<|ab (aR hT rfl rfl rfl (es:=[_,_,_,_,_,_,_,_,_,_]) rfl)<|aG hT rfl<|ag<|am ?_
  refine bI rfl (.inr rfl) (aP hT rfl rfl rfl rfl (cs:=[_,_,_,_,_,_,_,_,_,_]) rfl rfl) ?_ bt
  exact aF (congrArg (fun d:List DV=>(.p (.a (d ++ [.v (.int .i64 0)])):AV)) (g2 h0 hq))
 have hb2_:=dF0 hb2
 have h1:=gb (dF0 hb2)
 refine au<|ao<|ae hP<|ak rfl<|ab (aX hT rfl rfl rfl (by rfl)) ?_
 refine ab (bJ rfl rfl)<|ag ?_
 refine ay rfl (fun hb3=>?_) (fun hb3=>?_)
 ·have hb3_:=dT0 hb3
  have ha:al.length > 0:=by omega
  refine ae hP<|ak rfl<|ab (b9 hT dI (by decide) 0 (n:=0) (l:=al) rfl rfl rfl rfl rfl rfl (by omega)) ?_
  refine ab (bf hT rfl rfl rfl (cs:=enI (al.getD 0 0)) rfl rfl) ?_
  refine ab (aR hT rfl rfl rfl (es:=[_,_,_,_,_,_,_,_,_]) rfl)<|ab (aR hT rfl rfl rfl (es:=[_,_,_,_,_,_,_,_,_,_]) rfl)<|aG hT rfl<|ag<|am ?_
  refine bI rfl (.inr rfl) (aP hT rfl rfl rfl rfl (cs:=[_,_,_,_,_,_,_,_,_,_]) rfl rfl) ?_ bt
  exact aF (congrArg (fun d:List DV=>(.p (.a (d ++ [.v (.int .i64 0)])):AV)) (g3 h0 h1 ha))
 have hb3_:=dF0 hb3
 have ha:¬ al.length > 0:=by omega
 refine au<|ae hP<|av hT rfl<|ak rfl<|ab (ah cAl) ?_
 refine aj rfl<|ag<|ae hP<|ak rfl<|av hT rfl<|ak rfl<|ak rfl<|ab (ah cCl) ?_
 refine ab (aR hT rfl rfl rfl (es:=[_,_,_,_,_,_,_,_,_]) rfl)<|ab (aR hT rfl rfl rfl (es:=[_,_,_,_,_,_,_,_,_,_]) rfl)<|aG hT rfl<|ag<|am ?_
 refine bI rfl (.inr rfl) (aP hT rfl rfl rfl rfl (cs:=[_,_,_,_,_,_,_,_,_,_]) rfl rfl) ?_ bt
 exact aF (congrArg (fun d:List DV=>(.p (.a (d ++ [.v (.int .i64 0)])):AV)) (g4 h0 h1 ha))
theorem vO (f:Fm) (m:Int) (hfa:L 6 f.a) (hfb:L 6 f.b) (hfc:L 6 f.c) (hE:¬ alE f m=0) :
  aH Tryz.prog 31 [FA f.a f.b f.c,Z m] (.p (.a (bsC none ++ [.v (.int .i64 (alE f m))]))):=by
 refine aM Tryz.func31 rfl rfl rfl rfl ?_
 refine ae hP<|aq ai (aL rfl rfl)<|aq ai (aB hT rfl rfl)<|ag<|ae hP<|br hT rfl rfl rfl rfl rfl rfl<|ak rfl<|ab (ah (kU f m hfa hfb hfc)) ?_
 refine aj rfl<|ag<|ao<|ae hP<|ak rfl<|ab (bq rfl rfl)<|ag<|aU rfl (by simpa using hE) ?_
 refine ae hP<|ak rfl<|ab (aR hT rfl rfl rfl (es:=[_,_,_,_,_,_,_,_,_,_]) rfl)<|aG hT rfl<|ag<|am ?_
 refine bI rfl (.inr rfl) (aP hT rfl rfl rfl rfl (cs:=[_,_,_,_,_,_,_,_,_,_]) rfl rfl) ?_ bt
 exact .refl _
theorem sM (l:List Pr2) (hl:l.length≤1000000000) :
  aH Tryz.prog 28 [.p (.c (SL enP l)),.p (.c (SL enP l))] (B true):=by
 refine aM Tryz.func28 rfl rfl rfl rfl ?_
 refine ae hP<|aj rfl<|ag<|ao<|ae hP<|ak rfl<|ab (aX hT rfl rfl rfl (by rfl)) ?_
 refine ak rfl<|ab (aX hT rfl rfl rfl (by rfl)) ?_
 refine ab (bq rfl rfl)<|ag<|aQ rfl (by simp) ?_
 refine au<|ao<|ae hP<|aj rfl<|ag<|aC<|bl (ι:=Nat) (fun k=>stL [(0,.p (.c (SL enP l))),(1,.p (.c (SL enP l))),(5,Z (k:Int))] []) (fun k=>k≤l.length) (fun k=>l.length - k) 0 (Nat.zero_le _) (aE ⟨.refl _,.refl _,.refl _,trivial⟩ trivial) ?_
 intro k hk
 refine ao<|ae hP<|ak rfl<|ak rfl<|ab (aX hT rfl rfl rfl (by rfl)) ?_
 refine ab (bh rfl rfl)<|ag ?_
 refine ay rfl (fun hb1=>?_) (fun hb1=>?_)
 ·have hb1_:=dT0 hb1
  refine au<|ao<|aC<|ae hP<|ak rfl<|ak rfl<|ab (b9 hT cf (by decide) (0,0) (n:=(k:Int)) (l:=l) rfl rfl rfl rfl rfl rfl (by omega)) ?_
  refine ab (cE hT rfl rfl rfl rfl rfl (by decide)) ?_
  refine ab (bf hT rfl rfl rfl (cs:=enI ((l.getD k (0,0)).1)) rfl rfl) ?_
  refine ak rfl<|ak rfl<|ab (b9 hT cf (by decide) (0,0) (n:=(k:Int)) (l:=l) rfl rfl rfl rfl rfl rfl (by omega)) ?_
  refine ab (cE hT rfl rfl rfl rfl rfl (by decide)) ?_
  refine ab (bf hT rfl rfl rfl (cs:=enI ((l.getD k (0,0)).1)) rfl rfl) ?_
  refine ab (ah (dT _ _)) ?_
  refine ab (bw rfl)<|ak rfl<|aA e9 (az (rfl:_=AV.p (.c _))) ?_
  refine aA e9 (az (rfl:_=AV.p (.c _))) ?_
  refine aA e9 (b9 hT cf (by decide) (0,0) (n:=(k:Int)) (l:=l) rfl rfl rfl rfl rfl rfl (by omega)) ?_
  refine aA e9 (cE hT rfl rfl rfl rfl rfl (by decide)) ?_
  refine aA e9 (bf hT rfl rfl rfl (cs:=enI ((l.getD k (0,0)).2)) rfl rfl) ?_
  refine aA e9 (az (rfl:_=AV.p (.c _))) ?_
  refine aA e9 (az (rfl:_=AV.p (.c _))) ?_
  refine aA e9 (b9 hT cf (by decide) (0,0) (n:=(k:Int)) (l:=l) rfl rfl rfl rfl rfl rfl (by omega)) ?_
  refine aA e9 (cE hT rfl rfl rfl rfl rfl (by decide)) ?_
  refine aA e9 (bf hT rfl rfl rfl (cs:=enI ((l.getD k (0,0)).2)) rfl rfl) ?_
  refine aA e9 (ah (dT _ _)) ?_
  refine aA e9 (bw rfl) ?_
  refine ab (aN rfl e9 (rfl:_=AV.p (.c _))) ?_
  refine ag<|aQ rfl e9 ?_
  refine au<|aw hP<|ak rfl<|bA rfl rfl ?_
  refine aj rfl<|ag ?_
  refine ⟨k+1,by omega,by omega,aE ⟨.refl _,.refl _,aK (by omega),trivial⟩ trivial⟩
 have hb1_:=dF0 hb1
 refine aW<|ae hP<|aj rfl<|ag<|am<|E1 rfl rfl ?_
 exact .refl _
end
end Go.Proofs.YthaiejfjnllglaaGreatDoor
