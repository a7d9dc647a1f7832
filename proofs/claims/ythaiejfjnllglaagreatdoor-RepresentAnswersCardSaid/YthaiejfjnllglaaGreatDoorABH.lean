import Derived.Test.YthaiejfjnllglaaGreatDoorABF
import Derived.Test.YthaiejfjnllglaaGreatDoorABD
import Derived.Test.YthaiejfjnllglaaGreatDoorABG
import Derived.Test.YthaiejfjnllglaaGreatDoorABE
import Derived.Test.YthaiejfjnllglaaGreatDoorABB
import Derived.Shelf.SlLaysF0
set_option maxRecDepth 100000
set_option maxHeartbeats 16000000
namespace Go.Proofs.YthaiejfjnllglaaGreatDoor
section
open Go Go.AM
theorem fe (z:Int) (jz:bp z) :
  aJ Tryz.prog 70 [Z z] (I z):=by
 refine aO Tryz.func70 rfl rfl rfl rfl ?_
 refine ae hP<|aq ai (aC hT rfl rfl)<|ag<|ae hP<|ak rfl<|ab (ah (eK z jz)) ?_
 refine aI hT rfl<|ag<|am<|E2 hT rfl rfl rfl rfl rfl rfl rfl ?_
 exact .refl _
theorem l4 (D:Int) (m:Nat) (hD:-4194304≤D∧D < 0) (hm:1≤m∧m≤65536) :
  Iter2 Tryz.prog 179 [[.v (.int .i64 (m:Int))],[zn D,zm D]] ((rbL D m).map fun b=>[PI b,PF (frq D m b)]):=by
 have hDL:L 40 D:=(show L 6 D by unfold L;omega).mono (by decide)
 have iD:LB D 6:=⟨by unfold L;omega⟩
 have i4:LB (4*(m:Int)) 6:=⟨by unfold L;omega⟩
 have im:LB (m:Int) 6:=⟨by unfold L;omega⟩
 have r1:=Int.emod_nonneg D (show 4*(m:Int)≠0 by omega)
 have r2:=Int.emod_lt_of_pos D (show (0:Int) < 4*(m:Int) by omega)
 have cMd:=L9 D (4*(m:Int)) hDL ((show L 6 (4*(m:Int)) by unfold L;omega).mono (by decide)) (by omega)
 have cLw:=kb (D % (4*(m:Int))) (by omega) (by omega)
 have c4:=eK (4*(m:Int)) (by unfold bp;omega)
 have cm:=fe (m:Int) (by unfold bp;omega)
 generalize hxs:((rbL D m).map fun b=>[PI b,PF (frq D m b)])=xs
 refine oS Tryz.func179 (by kernel_rfl) rfl rfl (bL0 rfl) rfl ?_
 intro l n0 J hK
 refine yQ hK.toKeepsB ?_
 refine bM ?_
 refine bw hP ?_
 refine cH hT rfl rfl rfl ?_
 refine ab (bQ rfl rfl (by first | exact iW0 _ (by omega) | rfl)) ?_
 refine aj rfl<|ag<|bM ?_
 refine bw hP ?_
 refine ab (bf hT rfl rfl rfl (cs:=[_,_]) rfl rfl)<|ak rfl<|ab (ah c4) ?_
 refine ab (ah cMd) ?_
 refine ab (aB (rfl:_=AV.t _))<|ab (aE rfl (v:=.a _) rfl)<|ab (aE rfl (v:=.c _) rfl)<|aq ai (aC hT rfl rfl)<|aI hT rfl<|aj rfl<|ag<|bM ?_
 refine bw hP ?_
 refine av hT rfl<|ab (ah cLw) ?_
 refine ab (aB (rfl:_=AV.t _))<|ab (aE rfl (v:=.c _) rfl)<|ab (aE rfl (v:=.c _) rfl)<|aj rfl<|aj rfl<|ag<|bM ?_
 refine bw hP ?_
 refine cH hT rfl rfl rfl ?_
 refine ab (bQ rfl rfl (by first | exact iW0 _ (by omega) | rfl)) ?_
 refine ak rfl<|ag<|eL ?_
 refine lL (ι:=Nat) (fun i=>stL [(0,.p (.c (.v (.func (.yield l) #[] #[])))),(1,.ip [.v (.int .i64 (m:Int))]),(2,.ip [zn D,zm D]),(4,Z (4*(m:Int))),(7,Z (D % (4*(m:Int)))),(29,Z (2*(m:Int))),(30,Z (i:Int))] []) (fun i=>(rbT D m i).length) (fun i=>(i:Int)≤2*(m:Int)) (fun i=>(2*m) - i) 0 (by omega) rfl (aD ⟨.refl _,.refl _,.refl _,.refl _,.refl _,.refl _,.refl _,trivial⟩ trivial) ?_
 intro i hi
 refine bM ?_
 refine bw hP ?_
 refine ab (bi rfl rfl)<|ag<|bM ?_
 refine ez rfl (fun hb1=>?_) (fun hb1=>?_)
 ·have hb1_:=dT0 hb1
  have hsq:=ki (x:=(i:Int)) (m:=131073) (by omega)
  have isq:LB ((i:Int)*(i:Int)) 6:=⟨by unfold L;omega⟩
  have ii:LB (i:Int) 6:=⟨by unfold L;omega⟩
  refine dR ?_
  refine bM ?_
  refine eL ?_
  refine bM ?_
  refine bw hP ?_
  refine ak rfl<|aj rfl<|ag<|bM ?_
  refine bM ?_
  refine bw hP ?_
  refine ak rfl<|ak rfl<|ab (bQ rfl rfl (by first | exact iW0 _ (by omega) | rfl)) ?_
  refine ak rfl<|ab (bJ rfl rfl (by omega) (c:=(i:Int)*(i:Int) % (4*(m:Int))) (Int.tmod_eq_emod_of_nonneg (by omega))) ?_
  refine ak rfl<|ab (bq rfl rfl)<|ag ?_
  refine ez rfl (fun hb2=>?_) (fun hb2=>?_)
  ·have hb2_:=bY hb2
   refine jy ?_
   refine bw hP ?_
   refine bv rfl rfl ?_
   refine ak rfl<|ag ?_
   refine ⟨i+1,by omega,by omega,zj (wP hb2_),aD ⟨.refl _,.refl _,.refl _,.refl _,.refl _,.refl _,aM (by omega),trivial⟩ trivial⟩
  have hb2_:=bS hb2
  refine dR ?_
  refine bM ?_
  refine bw hP ?_
  refine ak rfl<|ak rfl<|ab (bQ rfl rfl (by first | exact iW0 _ (by omega) | rfl)) ?_
  refine ab (ah (eK ((i:Int)*(i:Int)) (by unfold bp;omega))) ?_
  refine ab (bf hT rfl rfl rfl (cs:=[_,_]) rfl rfl)<|ab (ah (ka ((i:Int)*(i:Int)) D lz lz)) ?_
  refine ak rfl<|ab (ah c4) ?_
  refine ab (ah (dS ((i:Int)*(i:Int) - D) (4*(m:Int)) lz lz (by omega))) ?_
  refine ab (aB (rfl:_=AV.t _))<|ab (aE rfl (v:=.a _) rfl)<|ab (aE rfl (v:=.a _) rfl)<|ab (aE rfl (v:=.c _) rfl)<|aq ai (aC hT rfl rfl)<|aq ai (aC hT rfl rfl)<|aI hT rfl<|aI hT rfl<|aj rfl<|ag<|bM ?_
  refine bw hP ?_
  refine cH hT rfl rfl rfl ?_
  refine ab (ah cm) ?_
  refine ak rfl<|ab (ah (eK (i:Int) (by unfold bp;omega))) ?_
  refine av hT rfl<|ab (a6 hT rfl rfl rfl (es:=[_,_,_,_,_,_]) rfl)<|aq ai (aC hT rfl rfl)<|aI hT rfl<|ag<|bM ?_
  refine ms ?_
  refine RY.val ai (aF hT rfl rfl rfl rfl (cs:=[_,_,_,_,_,_]) rfl rfl) ?_
  refine RY.val ai (ah (kQ (m:Int) (i:Int) (((i:Int)*(i:Int) - D) / (4*(m:Int))) lz lz lz)) ?_
  refine RY.val ai (aB (rfl:_=AV.p (.c _))) ?_
  refine RY.split (t:=61) rfl (fun hg3=>?_) (fun hg3=>?_)
  ·have hyes:=wM hb2_ hg3
   have hgt:xs[(rbT D m i).length]?=some [PI (i:Int),PF (frq D m (i:Int))]:=by rw [← hxs,List.getElem?_map,FW hyes (by omega)];rfl
   refine RY.val (bj rfl rfl hg3) (aB (rfl:_=AV.p (.c _))) ?_
   refine RY.val (bj rfl rfl hg3) (aP hT rfl rfl rfl rfl rfl rfl) ?_
   refine RY.val (bj rfl rfl hg3) (aF hT rfl rfl rfl rfl (cs:=[_,_]) rfl rfl) ?_
   refine RY.val (bj rfl rfl hg3) (aF hT rfl rfl rfl rfl (cs:=[_,_,_,_,_,_]) rfl rfl) ?_
   refine RY.yield hK (bj rfl rfl hg3) rfl rfl hgt ?_
   intro b
   refine RY.val (bj rfl rfl hg3) (bt rfl) ?_
   refine RY.val ai (aN rfl hg3 (rfl:_=AV.p (.c _))) ?_
   refine RY.done ?_
   refine ez rfl (fun hb4=>?_) (fun hb4=>?_)
   ·have hb4_:=(bX hb4)
    refine nu ?_
    refine ⟨.inr rfl,?_⟩
    exact x8 (bX hb4)
   have hb4_:=(bU hb4)
   refine dR ?_
   refine bw hP ?_
   refine bv rfl rfl ?_
   refine ak rfl<|ag ?_
   refine ⟨i+1,by omega,by omega,(FT hyes).trans (x7 (bU hb4)).symm,aD ⟨.refl _,.refl _,.refl _,.refl _,.refl _,.refl _,aM (by omega),trivial⟩ trivial⟩
  iterate 6 refine RY.skip (ga rfl rfl hg3) ?_
  refine RY.val ai (aK rfl hg3 (rfl:_=AV.p (.c _))) ?_
  refine RY.done ?_
  refine jS rfl rfl ?_
  refine dR ?_
  refine bw hP ?_
  refine bv rfl rfl ?_
  refine ak rfl<|ag ?_
  refine ⟨i+1,by omega,by omega,zj (wO hg3),aD ⟨.refl _,.refl _,.refl _,.refl _,.refl _,.refl _,aM (by omega),trivial⟩ trivial⟩
 have hb1_:=dF0 hb1
 refine jy ?_
 refine ⟨.inl rfl,?_⟩
 have e:i=2*m:=by omega
 subst e
 rw [← hxs,List.length_map,← qp,show (2*(m:Int)).toNat=2*m by omega]
 exact Nat.le_refl _
theorem nR (D:Int) (m:Nat) :
  aJ Tryz.prog 127 [I D,Z (m:Int)] (.fn 179 [[.v (.int .i64 (m:Int))],[zn D,zm D]]):=by
 refine mp Tryz.func127 (by kernel_rfl) rfl rfl (bL0 rfl) rfl ?_
 refine ae hP<|aq ai (aL rfl rfl)<|aq ai (aL rfl rfl)<|aj rfl<|ag<|cT (t:=2) rfl rfl ?_
 refine cT (t:=3) rfl rfl ?_
 refine ae hP<|ab (ku rfl rfl)<|ab (a7 (rfl:_=AV.fn _ _))<|ag<|am ?_
 exact ⟨.inr rfl,4,rfl,rfl⟩
theorem rH (D:Int) (m:Nat) (hD:-4194304≤D∧D < 0) (hm:1≤m∧m≤65536) :
  aJ Tryz.prog 69 [I D,Z (m:Int)] (B (decide (rbL D (m:Int)=[]))):=by
 refine aO Tryz.func69 rfl rfl rfl rfl ?_
 refine ae hP<|aq ai (aL rfl rfl)<|aq ai (aC hT rfl rfl)<|ag<|ao<|ae hP<|av hT rfl<|ak rfl<|ab (ah (nR D m)) ?_
 refine ag<|aA<|dq (t:=stL [(4,.loc 4 0),(7,.fn 179 [[.v (.int .i64 (m:Int))],[zn D,zm D]])] [(4,⟨false,1,4,[.v (.bool false)]⟩)]) (aD ⟨.refl _,.refl _,trivial⟩ ⟨rfl,trivial⟩) ?_
 refine fC 5 (fun _=>cU [(4,⟨false,1,4,[.v (.bool false)]⟩)]) (fun k=>k=0) rfl (l4 D m hD hm) pC rfl rfl rfl rfl (fun k x hx hk=>?_) (fun hk=>?_)
 ·have hne:=LN hx
  obtain ⟨b,hb,rfl⟩:=pD hx
  refine au<|aA<|ae hP<|aI hT rfl<|ag<|am ?_
  refine ⟨_,GW.forget fun _=>.inl rfl,?_⟩
  refine bW rfl (.inr rfl) (cq hT rfl rfl rfl rfl rfl) ?_ bu
  exact aT hne.symm
 refine ae hP<|aI hT rfl<|ag<|am ?_
 refine bW rfl (.inr rfl) (cq hT rfl rfl rfl rfl rfl) ?_ bu
 exact aT (Jb hk).symm
theorem tM (m:Int) :
  aJ Tryz.prog 55 [Z m] (Z (rgE m)):=by
 refine aO Tryz.func55 rfl rfl rfl rfl ?_
 refine ae hP<|aj rfl<|ag<|ao<|aA<|ae hP<|ak rfl<|ab (bi rfl rfl)<|aj rfl<|ag ?_
 refine az rfl (fun hb1=>?_) (fun hb1=>?_)
 ·have hb1_:=dT0 hb1
  refine ae hP<|aj rfl<|ag<|am<|E1 rfl rfl ?_
  exact aM (Lw hb1_).symm
 have hb1_:=dF0 hb1
 refine ae hP<|ak rfl<|ab (bK rfl rfl)<|aj rfl<|ag ?_
 refine az rfl (fun hb2=>?_) (fun hb2=>?_)
 ·have hb2_:=dT0 hb2
  refine ae hP<|aj rfl<|ag<|am<|E1 rfl rfl ?_
  exact aM (Lv hb2_).symm
 have hb2_:=dF0 hb2
 refine au<|ae hP<|aj rfl<|ag<|am<|E1 rfl rfl ?_
 exact aM (xA hb1_ hb2_).symm
theorem tP (D:Int) (m:Nat) (hD:-4194304≤D∧D < 0) (hm:1≤m∧m≤65536) :
  aJ Tryz.prog 56 [I D,Z (m:Int)] (.p (.c (SL enI (rbL D (m:Int))))):=by
 refine aO Tryz.func56 rfl rfl rfl rfl ?_
 refine ae hP<|aq ai (aL rfl rfl)<|aj rfl<|ag<|ae hP<|aq ai (mS hT rfl rfl)<|ag<|ao<|ae hP<|av hT rfl<|ak rfl<|ab (ah (nR D m)) ?_
 refine ag<|aA<|mr 5 1000 2 29 rfl rfl rfl rfl ?_
 refine dq (t:=stL [(5,.loc 5 0),(9,.fn 179 [[.v (.int .i64 (m:Int))],[zn D,zm D]])] [(5,⟨false,1002,36,[.sl (((rbL D (m:Int)).take 0)).length []]⟩),(1000,VB 2 29 enI (((rbL D (m:Int)).take 0)))]) (aD ⟨.refl _,.refl _,trivial⟩ ⟨rfl,rfl,trivial⟩) ?_
 refine fC 6 (fun k=>cU [(5,⟨false,1002,36,[.sl (((rbL D (m:Int)).take k)).length []]⟩),(1000,VB 2 29 enI (((rbL D (m:Int)).take k)))]) (fun _=>True) rfl (l4 D m hD hm) pC rfl rfl rfl trivial (fun k x hx _=>?_) (fun _=>?_)
 ·obtain ⟨b,hb,rfl⟩:=pD hx
  refine aw hP<|aq ai (aC hT rfl rfl)<|aI hT rfl<|ag<|aA<|aw hP<|ab (hZ hT rfl rfl rfl rfl rfl)<|av hT rfl<|ab (bd hT rfl rfl rfl (es:=[_,_]) rfl rfl rfl)<|RK.app ai (jY (encD:=enI) hT dj (by decide) rfl rfl rfl rfl rfl rfl rfl (b:=b) rfl (by have:=ll D m hm.2;rw [List.length_take];omega) (by decide) (by decide)) ?_
  refine du ai (l6 hT rfl rfl rfl rfl rfl rfl rfl (dC dj _).symm (Nat.zero_lt_succ 1)) ?_
  refine ag ?_
  refine ⟨GW.rnL 5 15 1000 (((rbL D (m:Int)).take k) ++ [b]).length rfl rfl rfl (dC dj _).symm (Nat.zero_lt_succ 1) rfl rfl rfl rfl ?_,trivial⟩
  show ∀ m,cU _ m=_∨cU _ m=none
  rw [D4 hb]
  exact SubO.own ⟨rfl,rfl,trivial⟩
 refine ae hP<|ab (hZ hT rfl rfl rfl rfl rfl)<|ab (a7 (rfl:_=AV.vec _))<|ag<|fi (encD:=enI) dj rfl (t:=4) rfl rfl ?_
 refine am<|E1 rfl rfl ?_
 exact aH (by rw [Jc])
theorem fI (a b:Int) :
  aJ Tryz.prog 138 [I a,I b] (B (decide (a=b))):=by
 refine aO Tryz.func138 rfl rfl rfl rfl ?_
 refine ae hP<|aq ai (aL rfl rfl)<|aq ai (aL rfl rfl)<|aj rfl<|ag<|ae hP<|av hT rfl<|av hT rfl<|ab (ah (dL _ _)) ?_
 refine ab (bh rfl rfl)<|aj rfl<|ag<|am<|E1 rfl rfl ?_
 exact aT (Hy a b)
theorem B4 (a:Int) :
  aJ Tryz.prog 67 [I a] (B (decide (a=0))):=by
 refine aO Tryz.func67 rfl rfl rfl rfl ?_
 refine ae hP<|aq ai (aL rfl rfl)<|aj rfl<|ag<|ae hP<|av hT rfl<|ab (ah (dp _)) ?_
 refine ab (bh rfl rfl)<|aj rfl<|ag<|am<|E1 rfl rfl ?_
 exact aT (vV a)
theorem rG (D:Int) (m:Nat) (hD:-4194304≤D∧D < 0) (hm:1≤m∧m≤65536) :
  aJ Tryz.prog 72 [I D,Z (m:Int)] (.p (.c (FS (fmL D (m:Int))))):=by
 have iD:LB D 6:=⟨by unfold L;omega⟩
 have i4:LB (4*(m:Int)) 6:=⟨by unfold L;omega⟩
 have im:LB (m:Int) 6:=⟨by unfold L;omega⟩
 refine aO Tryz.func72 rfl rfl rfl rfl ?_
 refine ae hP<|aq ai (aL rfl rfl)<|aj rfl<|ag<|ae hP<|aq ai (mS hT rfl rfl)<|ag<|ao<|ae hP<|av hT rfl<|ak rfl<|ab (ah (nR D m)) ?_
 refine ag<|aA<|mr 5 1000 6 46 rfl rfl rfl rfl ?_
 refine dq (t:=stL [(5,.loc 5 0),(13,.fn 179 [[.v (.int .i64 (m:Int))],[zn D,zm D]])] [(5,⟨false,1002,32,[.sl (((fmL D (m:Int)).take 0)).length []]⟩),(1000,FB 46 (((fmL D (m:Int)).take 0)))]) (aD ⟨.refl _,.refl _,trivial⟩ ⟨rfl,rfl,trivial⟩) ?_
 refine fC 6 (fun k=>cU [(5,⟨false,1002,32,[.sl (((fmL D (m:Int)).take k)).length []]⟩),(1000,FB 46 (((fmL D (m:Int)).take k)))]) (fun _=>True) rfl (l4 D m hD hm) pC rfl rfl rfl trivial (fun k x hx _=>?_) (fun _=>?_)
 ·obtain ⟨b,hb,rfl⟩:=pD hx
  have hb2:=(rbL_mem.1 (List.mem_of_getElem? hb)).1
  have hsq:=ki (x:=b) (m:=131073) (by omega)
  have ib:LB b 6:=⟨by unfold L;omega⟩
  have isq:LB (b*b) 6:=⟨by unfold L;omega⟩
  have cRd:aJ Tryz.prog 41 [FA (m:Int) b ((b*b - D) / (4*(m:Int)))] (.t [PF (frq D m b).rd,PM (rdM (m:Int) b ((b*b - D) / (4*(m:Int)))),PE (rdE (m:Int) b ((b*b - D) / (4*(m:Int))))]):=jg (m:Int) b ((b*b - D) / (4*(m:Int))) lz lz lz
  have htk:=Er hb
  generalize (frq D m b).rd=g at cRd htk
  generalize rdM (m:Int) b ((b*b - D) / (4*(m:Int)))=M0 at cRd
  generalize rdE (m:Int) b ((b*b - D) / (4*(m:Int)))=e0 at cRd
  refine aw hP<|aq ai (aC hT rfl rfl)<|aI hT rfl<|ag<|aA<|ae hP<|br hT rfl rfl rfl rfl rfl rfl<|ab (ah cRd) ?_
  refine ab (aB (rfl:_=AV.t _))<|ab (aE rfl (v:=.a _) rfl)<|ab (aE rfl (v:=.a _) rfl)<|ab (aE rfl (v:=.c _) rfl)<|aq ai (aC hT rfl rfl)<|aq ai (aC hT rfl rfl)<|aI hT rfl<|aI hT rfl<|aj rfl<|ag<|aw hP<|ab (hZ hT rfl rfl rfl rfl rfl)<|br hT rfl rfl rfl rfl rfl rfl<|ab (bd hT rfl rfl rfl (es:=[_,_,_,_,_,_]) rfl rfl rfl)<|RK.app ai (l7 hT rfl rfl rfl rfl rfl rfl rfl (f:=g) rfl (by have:=uI D m hm.2;rw [List.length_take];omega) (by decide)) ?_
  refine du ai (l6 hT rfl rfl rfl rfl rfl rfl rfl (ns _).symm (Nat.zero_lt_succ 5)) ?_
  refine ag ?_
  refine ⟨GW.rnL 5 25 1000 (((fmL D (m:Int)).take k) ++ [g]).length rfl rfl rfl (ns _).symm (Nat.zero_lt_succ 5) rfl rfl rfl rfl ?_,trivial⟩
  show ∀ m,cU _ m=_∨cU _ m=none
  rw [htk]
  exact SubO.own ⟨rfl,rfl,trivial⟩
 refine ae hP<|ab (hZ hT rfl rfl rfl rfl rfl)<|ab (a7 (rfl:_=AV.vec _))<|ag<|k9 (t:=4) rfl rfl ?_
 refine am<|E1 rfl rfl ?_
 exact aH (by rw [Kx])
theorem zD (p q:Pr2) :
  aJ Tryz.prog 90 [.p (.a [zn p.1,zm p.1,zn p.2,zm p.2]),.p (.a [zn q.1,zm q.1,zn q.2,zm q.2])] (Z (cmP p q)):=by
 refine aO Tryz.func90 rfl rfl rfl rfl ?_
 refine ae hP<|aq ai (aL rfl rfl)<|aq ai (aL rfl rfl)<|aj rfl<|ag<|ao<|ae hP<|ab (aY hT rfl rfl rfl rfl rfl (by first | decide | omega)) ?_
 refine av hT rfl<|ab (aY hT rfl rfl rfl rfl rfl (by first | decide | omega)) ?_
 refine av hT rfl<|ab (ah (dL _ _)) ?_
 refine aj rfl<|ag<|ae hP<|ak rfl<|ab (bq rfl rfl)<|ag ?_
 refine az rfl (fun hb1=>?_) (fun hb1=>?_)
 ·have hb1_:=bY hb1
  refine ae hP<|ak rfl<|aj rfl<|ag<|am<|E1 rfl rfl ?_
  exact aM (by unfold cmP;rw [if_pos hb1_])
 have hb1_:=bS hb1
 refine au<|ae hP<|ab (aY hT rfl rfl rfl rfl rfl (by first | decide | omega)) ?_
 refine av hT rfl<|ab (aY hT rfl rfl rfl rfl rfl (by first | decide | omega)) ?_
 refine av hT rfl<|ab (ah (dL _ _)) ?_
 refine aj rfl<|ag<|am<|E1 rfl rfl ?_
 exact aM (by unfold cmP;rw [if_neg (fun x=>x hb1_)])
end
section
open Go Go.AM
theorem pP (a b c p q r:Int) :
  aJ Tryz.prog 165 [FA a b c,FA p q r] (B (decide (a=p∧b=q∧c=r))):=by
 refine aO Tryz.func165 rfl rfl rfl rfl ?_
 refine ae hP<|aq ai (aL rfl rfl)<|aq ai (aL rfl rfl)<|aj rfl<|ag<|ae hP<|aG hT rfl<|av hT rfl<|aG hT rfl<|av hT rfl<|ab (ah (fI _ _)) ?_
 refine ak rfl ?_
 refine aW (t:=10) rfl (fun hg1=>?_) (fun hg1=>?_)
 ·refine ay hg1 (aP hT rfl rfl rfl rfl rfl rfl) ?_
  refine ay hg1 (aF hT rfl rfl rfl rfl (cs:=[_,_]) rfl rfl) ?_
  refine ay hg1 (aP hT rfl rfl rfl rfl rfl rfl) ?_
  refine ay hg1 (aF hT rfl rfl rfl rfl (cs:=[_,_]) rfl rfl) ?_
  refine ay hg1 (ah (fI _ _)) ?_
  refine ab (aN rfl hg1 (rfl:_=AV.p (.c _)))<|ak rfl ?_
  refine aW (t:=17) rfl (fun hg2=>?_) (fun hg2=>?_)
  ·refine ay hg2 (aP hT rfl rfl rfl rfl rfl rfl) ?_
   refine ay hg2 (aF hT rfl rfl rfl rfl (cs:=[_,_]) rfl rfl) ?_
   refine ay hg2 (aP hT rfl rfl rfl rfl rfl rfl) ?_
   refine ay hg2 (aF hT rfl rfl rfl rfl (cs:=[_,_]) rfl rfl) ?_
   refine ay hg2 (ah (fI _ _)) ?_
   refine ab (aN rfl hg2 (rfl:_=AV.p (.c _)))<|aj rfl<|ag<|am<|E1 rfl rfl ?_
   exact aT (MZ hg1 hg2)
  iterate 5 refine aX hg2 ?_
  refine ab (aK rfl hg2 (rfl:_=AV.p (.c _)))<|aj rfl<|ag<|am<|E1 rfl rfl ?_
  exact aT (M1 hg1 hg2)
 iterate 5 refine aX hg1 ?_
 refine ab (aK rfl hg1 (rfl:_=AV.p (.c _)))<|ak rfl<|aX rfl ?_
 iterate 4 refine aX rfl ?_
 refine ab (aK rfl rfl (rfl:_=AV.p (.c _)))<|aj rfl<|ag<|am<|E1 rfl rfl ?_
 exact aT (M2 hg1)
theorem Gt (D:Int) :
  aJ Tryz.prog 134 [I D] (.p (.c (SL enU (unL D)))):=by
 refine aO Tryz.func134 rfl rfl rfl rfl ?_
 refine ae hP<|aq ai (aL rfl rfl)<|aj rfl<|ag<|ao<|aA<|ae hP<|av hT rfl<|ab (ah (fe _ (by decide))) ?_
 refine ab (ah (fI _ _)) ?_
 refine aj rfl<|ag ?_
 refine az rfl (fun hb1=>?_) (fun hb1=>?_)
 ·refine ae hP<|ab (dz hT rfl rfl rfl (es:=[_,_]) rfl) ?_
  iterate 5 refine ab (dz hT rfl rfl rfl (es:=[_,_]) rfl) ?_
  refine ab (bd hT rfl rfl rfl (es:=[_,_,_,_,_,_,_,_,_,_,_,_]) rfl rfl rfl)<|aj rfl<|ag<|am<|E1 rfl rfl ?_
  exact aH (by rw [← MW (dT0 hb1)];rfl)
 refine ae hP<|av hT rfl<|ab (ah (fe _ (by unfold bp;omega))) ?_
 refine ab (ah (fI _ _)) ?_
 refine aj rfl<|ag ?_
 refine az rfl (fun hb2=>?_) (fun hb2=>?_)
 ·refine ae hP<|ab (dz hT rfl rfl rfl (es:=[_,_]) rfl) ?_
  iterate 3 refine ab (dz hT rfl rfl rfl (es:=[_,_]) rfl) ?_
  refine ab (bd hT rfl rfl rfl (es:=[_,_,_,_,_,_,_,_]) rfl rfl rfl)<|aj rfl<|ag<|am<|E1 rfl rfl ?_
  exact aH (by rw [← MV (dF0 hb1) (dT0 hb2)];rfl)
 refine au<|ae hP<|ab (dz hT rfl rfl rfl (es:=[_,_]) rfl)<|ab (dz hT rfl rfl rfl (es:=[_,_]) rfl)<|ab (bd hT rfl rfl rfl (es:=[_,_,_,_]) rfl rfl rfl)<|aj rfl<|ag<|am<|E1 rfl rfl ?_
 exact aH (by rw [← MX (dF0 hb1) (dF0 hb2)];rfl)
theorem tO (f:Fm) (D:Int) (m:Nat) (hfa:L 6 f.a) (hfb:L 6 f.b) (hfc:L 6 f.c) (hf:dsc f.a f.b f.c=D) (hD:-4194304≤D∧D < 0) (hm:1≤m∧m≤65536) :
  Iter2 Tryz.prog 132 [[zn f.a,zm f.a,zn f.b,zm f.b,zn f.c,zm f.c],[.v (.int .i64 (m:Int))]] ((prL D m f).map fun p=>[PA p]):=by
 have iD:LB D 6:=⟨by unfold L;omega⟩
 have i4:LB (4*(m:Int)) 6:=⟨by unfold L;omega⟩
 have im:LB (m:Int) 6:=⟨by unfold L;omega⟩
 have fa:LB f.a 6:=⟨hfa⟩
 have fb:LB f.b 6:=⟨hfb⟩
 have fc:LB f.c 6:=⟨hfc⟩
 have cDs:aJ Tryz.prog 40 [FA f.a f.b f.c] (I D):=by rw [← hf];exact fV f.a f.b f.c lz lz lz
 have cUn:=Gt D
 have hus:∀ p∈unL D,(-2≤p.1∧p.1≤2)∧(-1≤p.2∧p.2≤1):=fun p hp=>La hp
 have hul:=yV D
 have hget:=fun (i j:Nat) (b:Int) (hb:(rbL D m)[i]?=some b) (hs:smf f (frq D m b)=true) (hj:j < (unL D).length)=>Jz (f:=f) (j:=j) hb hs hj
 have hkY:=fun (i:Nat) (b:Int) (hb:(rbL D m)[i]?=some b) (hs:smf f (frq D m b)=true)=>Nc (f:=f) hb hs
 have hkN:=fun (i:Nat) (b:Int) (hb:(rbL D m)[i]?=some b) (hs:smf f (frq D m b)=false)=>Nf (f:=f) hb hs
 have hall:=JB (D:=D) (m:=m) (f:=f)
 have hk0:0=(fmN (prQ D m f) (rbL D m)) 0:=fmN_0.symm
 generalize unL D=us at *
 generalize hxs:((prL D m f).map fun p=>([PA p]:List PV))=xs at *
 generalize fmN (prQ D m f) (rbL D m)=κ at *
 refine oS Tryz.func132 (by kernel_rfl) rfl rfl (bL0 rfl) rfl ?_
 intro l n0 J hK
 refine vm hK.toKeepsB ?_
 refine bw hP ?_
 refine aq ai (aL rfl rfl)<|ag<|vm hK.toKeepsB ?_
 refine bw hP ?_
 refine ab (bf hT rfl rfl rfl (cs:=[_,_,_,_,_,_]) rfl rfl)<|ab (ah cDs) ?_
 refine aq ai (aC hT rfl rfl)<|aI hT rfl<|ag<|vm hK.toKeepsB ?_
 refine bw hP ?_
 refine av hT rfl<|cH hT rfl rfl rfl ?_
 refine ab (ah (nR D m)) ?_
 refine ag<|De ?_
 refine MU (t:=stL [(1,.ip [zn f.a,zm f.a,zn f.b,zm f.b,zn f.c,zm f.c]),(2,.ip [.v (.int .i64 (m:Int))]),(3,.loc 3 0),(4,.loc 4 0),(21,.fn 179 [[.v (.int .i64 (m:Int))],[zn D,zm D]])] [(3,⟨false,1,187,[.v (.func (.yield l) #[] #[])]⟩),(4,⟨false,1,29,[zn D,zm D]⟩)]) (aD ⟨.refl _,.refl _,.refl _,.refl _,.refl _,trivial⟩ ⟨rfl,rfl,trivial⟩) ?_
 refine Dd 5 κ (cU [(3,⟨false,1,187,[.v (.func (.yield l) #[] #[])]⟩),(4,⟨false,1,29,[zn D,zm D]⟩)]) hK rfl (l4 D m hD hm) pC rfl rfl (fun i y hy=>?_) hall hk0
 obtain ⟨b,hb,rfl⟩:=pD hy
 have hb2:=(rbL_mem.1 (List.mem_of_getElem? hb)).1
 have hsq:=ki (x:=b) (m:=131073) (by omega)
 have ib:LB b 6:=⟨by unfold L;omega⟩
 have isq:LB (b*b) 6:=⟨by unfold L;omega⟩
 have cSm:aJ Tryz.prog 133 [FA f.a f.b f.c,FA (m:Int) b ((b*b - D) / (4*(m:Int)))] (.t [PM (smm f (frq D m b)),PB (smf f (frq D m b))]):=Js f.a f.b f.c (m:Int) b ((b*b - D) / (4*(m:Int))) lz lz lz lz lz lz
 obtain ⟨m1,m2,m3,m4⟩:LB (smm f (frq D m b)).a 23∧LB (smm f (frq D m b)).b 23∧LB (smm f (frq D m b)).c 23∧LB (smm f (frq D m b)).d 23:=MY (a:=f.a) (b:=f.b) (c:=f.c) (p:=(m:Int)) (q:=b) (r:=(b*b - D) / (4*(m:Int))) ⟨lz⟩ ⟨lz⟩ ⟨lz⟩ ⟨lz⟩ ⟨lz⟩ ⟨lz⟩
 have hgj:=fun j=>hget i j b hb
 have hY:=hkY i b hb
 have hN:=hkN i b hb
 generalize smm f (frq D m b)=M at cSm m1 m2 m3 m4 hgj
 generalize smf f (frq D m b)=sb at cSm hgj hY hN
 show AK _ _ _ _ _ _ _ (κ i) ⟨jV _ _ [PI b,.a [zn (m:Int),zm (m:Int),zn b,zm b,zn ((b*b - D) / (4*(m:Int))),zm ((b*b - D) / (4*(m:Int)))]],_⟩
 generalize (b*b - D) / (4*(m:Int))=C0 at cSm ⊢
 refine bM ?_
 refine bw hP ?_
 refine aq ai (aC hT rfl rfl)<|aI hT rfl<|ag<|bw hP ?_
 refine aq ai (aC hT rfl rfl)<|aI hT rfl<|ag<|eL ?_
 refine bM ?_
 refine bw hP ?_
 refine ab (bf hT rfl rfl rfl (cs:=[_,_,_,_,_,_]) rfl rfl)<|br hT rfl rfl rfl rfl rfl rfl<|ab (ah cSm) ?_
 refine ab (aB (rfl:_=AV.t _))<|ab (aE rfl (v:=.a _) rfl)<|ab (aE rfl (v:=.c _) rfl)<|aq ai (aC hT rfl rfl)<|aI hT rfl<|aj rfl<|ag<|bM ?_
 refine bM ?_
 refine bw hP ?_
 refine ak rfl<|ab (bt rfl)<|ag ?_
 refine ez rfl (fun hb1=>?_) (fun hb1=>?_)
 ·have hb1_:=(bX hb1)
  refine jy ?_
  exact .inl ⟨rfl,(hN (bX hb1)).symm,GW.forget fun x=>SubO.own (l:=[(3,⟨false,1,187,[.v (.func (.yield l) #[] #[])]⟩),(4,⟨false,1,29,[zn D,zm D]⟩)]) ⟨rfl,rfl,trivial⟩ x⟩
 have hb1_:=(bU hb1)
 have hsb:=bU hb1
 refine dR ?_
 refine bM ?_
 refine bw hP ?_
 refine av hT rfl<|ab (ah cUn) ?_
 refine ab (aU hT rfl rfl rfl (by rfl)) ?_
 refine ak rfl<|ag<|eL ?_
 refine lL (ι:=Nat) (fun j=>stL [(3,.loc 3 0),(5,.loc 5 0),(6,.loc 6 0),(7,.loc 7 0),(33,.p (.c (SL enU us))),(34,Z (us.length:Int)),(35,Z (j:Int))] [(3,⟨false,1,187,[.v (.func (.yield l) #[] #[])]⟩),(4,⟨false,1,29,[zn D,zm D]⟩),(5,⟨false,1,29,[zn b,zm b]⟩),(6,⟨false,1,46,[zn (m:Int),zm (m:Int),zn b,zm b,zn C0,zm C0]⟩),(7,⟨false,1,87,[zn M.a,zm M.a,zn M.b,zm M.b,zn M.c,zm M.c,zn M.d,zm M.d]⟩)]) (fun j=>κ i+j) (fun j=>j≤us.length) (fun j=>us.length - j) 0 (Nat.zero_le _) rfl (aD ⟨.refl _,.refl _,.refl _,.refl _,.refl _,.refl _,.refl _,trivial⟩ ⟨rfl,rfl,rfl,rfl,rfl,trivial⟩) ?_
 intro j hj
 refine bM ?_
 refine bw hP ?_
 refine ab (bi rfl rfl)<|ag<|bM ?_
 refine ez rfl (fun hb2=>?_) (fun hb2=>?_)
 ·have hb2_:=dT0 hb2
  have hjn:j < us.length:=by omega
  have hgt:=hgj j hsb hjn
  obtain ⟨⟨u1,u2⟩,u3,u4⟩:=hus _ (fp (d:=(0,0)) hjn)
  have iu1:LB (us.getD j (0,0)).1 3:=⟨by unfold L;omega⟩
  have iu2:LB (us.getD j (0,0)).2 3:=⟨by unfold L;omega⟩
  refine dR ?_
  refine bM ?_
  refine eL ?_
  refine bM ?_
  refine bw hP ?_
  refine ab (b5 hT Hn (by decide) (0,0) (n:=(j:Int)) (l:=us) rfl rfl rfl rfl rfl rfl (by omega)) ?_
  refine ab (bf hT rfl rfl rfl (cs:=enU (us.getD j (0,0))) rfl rfl) ?_
  refine aq ai (aC hT rfl rfl)<|aI hT rfl<|ag<|bM ?_
  refine bw hP ?_
  refine ab (aY hT rfl rfl rfl rfl rfl (by first | decide | omega)) ?_
  refine a8 hT rfl rfl rfl rfl ?_
  refine ab (ah (fe _ (by unfold bp;omega))) ?_
  refine av hT rfl<|ab (aY hT rfl rfl rfl rfl rfl (by first | decide | omega)) ?_
  refine a8 hT rfl rfl rfl rfl ?_
  refine ab (ah (fe _ (by unfold bp;omega))) ?_
  refine ab (ah (dP b (us.getD j (0,0)).2 lz lz)) ?_
  refine ab (ah (ka (us.getD j (0,0)).1 (b*(us.getD j (0,0)).2) lz lz)) ?_
  refine ab (ah (fe 2 (by decide))) ?_
  refine ab (ah (dS ((us.getD j (0,0)).1 - b*(us.getD j (0,0)).2) 2 lz lz (by omega))) ?_
  refine ab (aB (rfl:_=AV.t _))<|ab (aE rfl (v:=.a _) rfl)<|ab (aE rfl (v:=.a _) rfl)<|ab (aE rfl (v:=.c _) rfl)<|aq ai (aC hT rfl rfl)<|aq ai (aC hT rfl rfl)<|aI hT rfl<|aI hT rfl<|aj rfl<|ag<|bM ?_
  refine bw hP ?_
  refine aG hT rfl<|av hT rfl<|ab (aY hT rfl rfl rfl rfl rfl (by first | decide | omega)) ?_
  refine a8 hT rfl rfl rfl rfl ?_
  refine ab (ah (fe _ (by unfold bp;omega))) ?_
  refine ab (ah (dP (m:Int) (us.getD j (0,0)).2 lz lz)) ?_
  refine aq ai (aC hT rfl rfl)<|aI hT rfl<|ag<|bM ?_
  refine bw hP ?_
  refine aG hT rfl<|av hT rfl<|av hT rfl<|ab (ah (dP M.a (((us.getD j (0,0)).1 - b*(us.getD j (0,0)).2) / 2) lz lz)) ?_
  refine aG hT rfl<|av hT rfl<|av hT rfl<|ab (ah (dP M.b ((m:Int)*(us.getD j (0,0)).2) lz lz)) ?_
  refine ab (ah (dQ (M.a*(((us.getD j (0,0)).1 - b*(us.getD j (0,0)).2) / 2)) (M.b*((m:Int)*(us.getD j (0,0)).2)) lz lz)) ?_
  refine aq ai (aC hT rfl rfl)<|aI hT rfl<|ag<|bM ?_
  refine bw hP ?_
  refine aG hT rfl<|av hT rfl<|av hT rfl<|ab (ah (dP M.c (((us.getD j (0,0)).1 - b*(us.getD j (0,0)).2) / 2) lz lz)) ?_
  refine aG hT rfl<|av hT rfl<|av hT rfl<|ab (ah (dP M.d ((m:Int)*(us.getD j (0,0)).2) lz lz)) ?_
  refine ab (ah (dQ (M.c*(((us.getD j (0,0)).1 - b*(us.getD j (0,0)).2) / 2)) (M.d*((m:Int)*(us.getD j (0,0)).2)) lz lz)) ?_
  refine aq ai (aC hT rfl rfl)<|aI hT rfl<|ag<|bM ?_
  refine ms ?_
  refine RY.val ai (bC hT rfl rfl rfl rfl (by first | rfl | exact dw (by omega))) ?_
  refine RY.val ai (aF hT rfl rfl rfl rfl (cs:=[_,_]) rfl rfl) ?_
  refine RY.val ai (aF hT rfl rfl rfl rfl (cs:=[_,_]) rfl rfl) ?_
  refine RY.val ai (dz hT rfl rfl rfl (es:=[_,_,_,_]) rfl) ?_
  refine RY.yield hK ai rfl rfl hgt ?_
  intro bb
  refine RY.val ai (bt rfl) ?_
  refine RY.done ?_
  refine ez rfl (fun hb3=>?_) (fun hb3=>?_)
  ·have hb3_:=(bX hb3)
   refine nu ?_
   exact .inr ⟨rfl,x8 (bX hb3)⟩
  have hb3_:=(bU hb3)
  refine dR ?_
  refine bw hP ?_
  refine bv rfl rfl ?_
  refine ak rfl<|ag ?_
  refine ⟨j+1,by omega,by omega,(x7 (bU hb3)).symm,aD ⟨.refl _,.refl _,.refl _,.refl _,.refl _,.refl _,aM (by omega),trivial⟩ ⟨rfl,rfl,rfl,rfl,rfl,trivial⟩⟩
 have hb2_:=dF0 hb2
 have hjl:us.length=j:=by omega
 refine jy ?_
 exact .inl ⟨rfl,by rw [hY hsb,hjl],GW.forget fun x=>SubO.own (l:=[(3,⟨false,1,187,[.v (.func (.yield l) #[] #[])]⟩),(4,⟨false,1,29,[zn D,zm D]⟩)]) ⟨rfl,rfl,trivial⟩ x⟩
end
section
open Go Go.AM
theorem An (o x:Fm) (u:Value) :
  aJ Tryz.prog 214 [FA (o).a (o).b (o).c,FA (x).a (x).b (x).c,I 0,.p (.c (.v u))] (FA (o).a (o).b (o).c):=by
 refine aO Tryz.func214 rfl rfl rfl rfl ?_
 refine ae hP<|aq ai (aL rfl rfl)<|aq ai (aL rfl rfl)<|aq ai (aL rfl rfl)<|aq ai (aC hT rfl rfl)<|ag<|ao<|ae hP<|av hT rfl<|ab (ah (uv _)) ?_
 refine ak rfl<|ag<|aA<|dT 1 ?_
 refine ae hP<|ab (bi rfl rfl)<|ag<|ao<|aQ rfl (by decide) ?_
 refine aZ<|ae hP<|br hT rfl rfl rfl rfl rfl rfl<|aI hT rfl<|ag<|am ?_
 refine bW rfl (.inr rfl) (aS hT rfl rfl rfl rfl (cs:=[_,_,_,_,_,_]) rfl rfl) ?_ bu
 exact .refl _
theorem Ao (f:Fm) (hfa:L 6 f.a) (hfb:L 6 f.b) (hfc:L 6 f.c) :
  aJ Tryz.prog 183 [FA f.a f.b f.c,I 0] (FA ((prF (dsc f.a f.b f.c))).a ((prF (dsc f.a f.b f.c))).b ((prF (dsc f.a f.b f.c))).c):=by
 have fa:LB f.a 6:=⟨hfa⟩
 have fb:LB f.b 6:=⟨hfb⟩
 have fc:LB f.c 6:=⟨hfc⟩
 refine aO Tryz.func183 rfl rfl rfl rfl ?_
 refine ae hP<|aq ai (aL rfl rfl)<|aq ai (aL rfl rfl)<|aq ai (aC hT rfl rfl)<|ag<|ao<|ae hP<|aG hT rfl<|a8 hT rfl rfl rfl rfl ?_
 refine ag<|aQ rfl rfl<|au<|ae hP<|br hT rfl rfl rfl rfl rfl rfl<|ab (ah (uU _ _ _ lz lz lz)) ?_
 refine br hT rfl rfl rfl rfl rfl rfl<|ab (ah (yy _ _ _ lz lz lz)) ?_
 refine av hT rfl<|ab (ah (An _ _ _)) ?_
 refine aI hT rfl<|ag<|am ?_
 refine bW rfl (.inr rfl) (aS hT rfl rfl rfl rfl (cs:=[_,_,_,_,_,_]) rfl rfl) ?_ bu
 exact .refl _
theorem Ap (f:Fm) (hfa:L 6 f.a) (hfb:L 6 f.b) (hfc:L 6 f.c) :
  aJ Tryz.prog 131 [FA f.a f.b f.c,I 0] (.t [PF (pz0 f),PE (rfE f)]):=by
 have fa:LB f.a 6:=⟨hfa⟩
 have fb:LB f.b 6:=⟨hfb⟩
 have fc:LB f.c 6:=⟨hfc⟩
 refine aO Tryz.func131 rfl rfl rfl rfl ?_
 refine ae hP<|aq ai (aL rfl rfl)<|aq ai (aL rfl rfl)<|aq ai (aC hT rfl rfl)<|aj rfl<|ag<|ao<|ae hP<|br hT rfl rfl rfl rfl rfl rfl<|ab (ah (yx _ _ _ lz lz lz)) ?_
 refine aj rfl<|ag<|ae hP<|ak rfl<|ab (bq rfl rfl)<|ag ?_
 refine az rfl (fun hb1=>?_) (fun hb1=>?_)
 ·have hb1_:=bY hb1
  refine ae hP<|ab (a6 hT rfl rfl rfl (es:=[_,_,_,_,_,_]) rfl)<|ak rfl<|aI hT rfl<|aj rfl<|ag<|am ?_
  refine cz rfl (.inr rfl) (aS hT rfl rfl rfl rfl (cs:=[_,_,_,_,_,_]) rfl rfl) (bO rfl) ?_ bu
  exact aH (Nb hb1_)
 have hb1_:=bS hb1
 refine au<|ae hP<|br hT rfl rfl rfl rfl rfl rfl<|av hT rfl<|ab (ah (Ao f hfa hfb hfc)) ?_
 refine aI hT rfl<|aj rfl<|ag<|am ?_
 refine cz rfl (.inr rfl) (aS hT rfl rfl rfl rfl (cs:=[_,_,_,_,_,_]) rfl rfl) (bO rfl) ?_ bu
 exact aH (Na hb1_)
end
end Go.Proofs.YthaiejfjnllglaaGreatDoor
section
end
namespace Go.Proofs.YthaiejfjnllglaaGreatDoor
section
open Go Go.AM
theorem Gf (N:Int) (h3:3≤N) (h4:N≤2003) :
  aJ Tryz.prog 80 [Z N] (.p (.c (FS (lst N)))):=by
 refine aO Tryz.func80 rfl rfl rfl rfl ?_
 refine ae hP<|aj rfl<|ag<|ae hP<|aq ai (dB hT rfl rfl rfl (es:=[]) rfl rfl rfl) ?_
 refine ab (a7 (rfl:_=AV.vec _))<|ag<|cr 7 1000 rfl rfl rfl ?_
 refine ao<|ae hP<|aj rfl<|ag<|aA<|bg (ι:=List Fm × Int) (fun p=>stL [(0,Z N),(3,.vec 1000),(4,Z p.2)] [(1000,FB 46 p.1)]) (fun p=>p.1 ++ ef N (101 - p.2).toNat p.2=lst N∧1≤p.2∧p.2≤26∧(p.1.length:Int)≤60*p.2) (fun p=>(100 - p.2).toNat) ([],1) ⟨Ce N,by decide,by decide,by decide⟩ (aD ⟨.refl _,.refl _,.refl _,trivial⟩ ⟨rfl,trivial⟩) ?_
 rintro p ⟨hI,ha1,ha2,hlen⟩
 have hsq:=NN ⟨ha1,ha2⟩
 refine ao<|ae hP<|ak rfl<|ab (bQ rfl rfl (by first | exact iW0 _ (by omega) | rfl)) ?_
 refine ak rfl<|ab (bQ rfl rfl (by first | exact iW0 _ (by omega) | rfl)) ?_
 refine ak rfl<|ab (eX rfl rfl)<|ag ?_
 refine az rfl (fun hb1=>?_) (fun hb1=>?_)
 ·have hb1_:=dT0 hb1
  have ha3:=KY ha1 hb1_ h4
  refine au<|ao<|aA<|ae hP<|ak rfl<|ab (ew rfl (by first | exact iW0 _ (by omega) | rfl)) ?_
  refine aj rfl<|ag<|aA<|bg (ι:=List Fm × Int) (fun q=>stL [(0,Z N),(3,.vec 1000),(4,Z p.2),(5,Z q.2)] [(1000,FB 46 q.1)]) (fun q=>q.1 ++ (fj N p.2 (p.2+1 - q.2).toNat q.2 ++ ef N (100 - p.2).toNat (p.2+1))=lst N∧-p.2≤q.2∧q.2≤p.2+1∧(q.1.length:Int)≤60*p.2+(q.2+p.2)) (fun q=>(p.2+1 - q.2).toNat) (p.1,-p.2) ⟨Mc hI ⟨ha1,by omega⟩ hb1_,by simp,by simp only;omega,by simp only;omega⟩ (aD ⟨.refl _,.refl _,.refl _,aM (by omega),trivial⟩ ⟨rfl,trivial⟩) ?_
  rintro q ⟨hJ,hq1,hq2,hlen2⟩
  refine ao<|ae hP<|ak rfl<|ak rfl<|ab (eX rfl rfl)<|ag ?_
  refine az rfl (fun hb2=>?_) (fun hb2=>?_)
  ·have hb2_:=dT0 hb2
   have qs:=ki (x:=q.2) (m:=25) (by omega)
   have qc:=c_b (x:=q.2*q.2+N) (y:=4*p.2) (by omega) (by omega)
   have ja:bp p.2:=by unfold bp;omega
   have jb:bp q.2:=by unfold bp;omega
   have jc:bp ((q.2*q.2+N) / (4*p.2)):=by unfold bp;omega
   have ia:LB p.2 6:=⟨by unfold L;omega⟩
   have ib:LB q.2 6:=⟨by unfold L;omega⟩
   have ic:LB ((q.2*q.2+N) / (4*p.2)) 6:=⟨by unfold L;omega⟩
   refine au<|ao<|aA<|ao<|ae hP<|ak rfl<|ak rfl<|ab (bQ rfl rfl (by first | exact iW0 _ (by omega) | rfl)) ?_
   refine ak rfl<|bv rfl rfl ?_
   refine ak rfl<|ab (bQ rfl rfl (by first | exact iW0 _ (by omega) | rfl)) ?_
   refine ab (bJ rfl rfl (by omega) (c:=(q.2*q.2+N) % (4*p.2)) (Int.tmod_eq_emod_of_nonneg (by omega))) ?_
   refine ab (bq rfl rfl)<|ag ?_
   refine az rfl (fun hb3=>?_) (fun hb3=>?_)
   ·have hb3_:=bY hb3
    refine aZ<|aw hP<|ak rfl<|bv rfl rfl ?_
    refine aj rfl<|ag ?_
    refine ⟨(q.1,q.2+1),⟨yi hJ hb2_ (GB hb3_),by simp only;omega,by simp only;omega,by simp only;omega⟩,by simp only;omega,aD ⟨.refl _,.refl _,.refl _,.refl _,trivial⟩ ⟨rfl,trivial⟩⟩
   have hb3_:=bS hb3
   have hz:(q.2*q.2+N) % (4*p.2)=0:=bS hb3
   refine au<|ae hP<|ak rfl<|ak rfl<|ak rfl<|ak rfl<|ab (bQ rfl rfl (by first | exact iW0 _ (by omega) | rfl)) ?_
   refine ak rfl<|bv rfl rfl ?_
   refine ak rfl<|ab (bQ rfl rfl (by first | exact iW0 _ (by omega) | rfl)) ?_
   refine ab (cO rfl rfl (by omega) (c:=((q.2*q.2+N) / (4*p.2))) (by rw [Int.tdiv_eq_ediv_of_nonneg (by omega),iW0 _ (by omega)])) ?_
   refine ab (ah (pK _ _ _ (by first | assumption | decide) (by first | assumption | decide) (by first | assumption | decide))) ?_
   refine aq ai (aC hT rfl rfl)<|aI hT rfl<|ag<|ae hP<|br hT rfl rfl rfl rfl rfl rfl<|ab (ah (lX _ _ _ lz lz lz)) ?_
   refine ak rfl ?_
   refine aW (t:=45) rfl (fun hg4=>?_) (fun hg4=>?_)
   ·refine ay hg4 (aF hT rfl rfl rfl rfl (cs:=[_,_,_,_,_,_]) rfl rfl) ?_
    refine ay hg4 (ah (kn _ _ _ lz lz lz)) ?_
    refine ab (aN rfl hg4 (rfl:_=AV.p (.c _)))<|ag ?_
    refine az rfl (fun hb5=>?_) (fun hb5=>?_)
    ·refine aw hP<|ab (aB (rfl:_=AV.vec _))<|br hT rfl rfl rfl rfl rfl rfl<|ab (bd hT rfl rfl rfl (es:=[_,_,_,_,_,_]) rfl rfl rfl)<|RK.app ai (l7 hT rfl rfl rfl rfl rfl rfl rfl (f:=⟨p.2,q.2,((q.2*q.2+N) / (4*p.2))⟩) rfl (by omega) (by decide)) ?_
     refine ab (a7 (rfl:_=AV.vec _))<|ag<|cr 52 1000 rfl rfl rfl ?_
     refine aw hP<|ak rfl<|bv rfl rfl ?_
     refine aj rfl<|ag ?_
     refine ⟨(q.1 ++ [⟨p.2,q.2,((q.2*q.2+N) / (4*p.2))⟩],q.2+1),⟨JW hJ hb2_ (by rw [ua hz,hg4,hb5];rfl),by simp only;omega,by simp only;omega,by simp only [List.length_append,List.length_singleton];omega⟩,by simp only;omega,aD ⟨.refl _,.refl _,.refl _,.refl _,trivial⟩ ⟨rfl,trivial⟩⟩
    refine au<|aw hP<|ak rfl<|bv rfl rfl ?_
    refine aj rfl<|ag ?_
    refine ⟨(q.1,q.2+1),⟨yi hJ hb2_ (by rw [ua hz,hg4,hb5];rfl),by simp only;omega,by simp only;omega,by simp only;omega⟩,by simp only;omega,aD ⟨.refl _,.refl _,.refl _,.refl _,trivial⟩ ⟨rfl,trivial⟩⟩
   refine aX hg4 ?_
   refine aX hg4 ?_
   refine ab (aK rfl hg4 (rfl:_=AV.p (.c _)))<|ag<|aQ rfl rfl<|au<|aw hP<|ak rfl<|bv rfl rfl ?_
   refine aj rfl<|ag ?_
   refine ⟨(q.1,q.2+1),⟨yi hJ hb2_ (by rw [ua hz,hg4];rfl),by simp only;omega,by simp only;omega,by simp only;omega⟩,by simp only;omega,aD ⟨.refl _,.refl _,.refl _,.refl _,trivial⟩ ⟨rfl,trivial⟩⟩
  have hb2_:=dF0 hb2
  refine aZ<|aw hP<|ak rfl<|bv rfl rfl ?_
  refine aj rfl<|ag ?_
  refine ⟨(q.1,p.2+1),⟨JX hJ hb2_,by omega,by omega,by simp only;omega⟩,by simp only;omega,aD ⟨.refl _,.refl _,.refl _,trivial⟩ ⟨rfl,trivial⟩⟩
 have hb1_:=dF0 hb1
 refine aZ<|ae hP<|ab (aB (rfl:_=AV.vec _))<|ab (a7 (rfl:_=AV.vec _))<|ag<|k9 (t:=2) rfl rfl ?_
 refine am<|E1 rfl rfl ?_
 exact aH (by rw [JY hI hb1_])
theorem Ge (D i0 i1 i2 i3 m0 m1 m2 m3:Nat) (_hD:D < 65536) (_g0:i0 < 65536) (_g1:i1 < 65536) (_g2:i2 < 65536) (_g3:i3 < 65536) (_k0:m0 < 256) (_k1:m1 < 256) (_k2:m2 < 256) (_k3:m3 < 256) :
  aJ Tryz.prog 11 [.p (.a [.v (.int .u16 (D:Int)),.v (.int .u16 (i0:Int)),.v (.int .u16 (i1:Int)),.v (.int .u16 (i2:Int)),.v (.int .u16 (i3:Int)),.v (.int .u8 (m0:Int)),.v (.int .u8 (m1:Int)),.v (.int .u8 (m2:Int)),.v (.int .u8 (m3:Int))])] (Z (szz D)):=by
 obtain ⟨s1,s2,s3,s4,s5⟩:=e9 D
 have d1:=Int.emod_nonneg (D:Int) (show (2000:Int)≠0 by omega)
 have d2:=Int.emod_lt_of_pos (D:Int) (show (0:Int) < 2000 by omega)
 refine aO Tryz.func11 rfl rfl rfl rfl ?_
 refine ae hP<|aq ai (aL rfl rfl)<|aj rfl<|ag<|ae hP<|aG hT rfl<|a8 hT rfl rfl rfl rfl ?_
 refine ab (bJ rfl rfl (by decide) (c:=(D:Int) % 2000) (Int.tmod_eq_emod_of_nonneg (by omega))) ?_
 refine ab (bl hT rfl rfl rfl rfl (iW0 _ (by omega))) ?_
 refine bv rfl rfl ?_
 refine aj rfl<|ag<|ao<|aA<|bg (ι:=Int) (fun n=>stL [(3,Z n)] []) (fun n=>3+(D:Int) % 2000≤n∧n≤szz D) (fun n=>(szz D - n).toNat) (3+(D:Int) % 2000) ⟨Int.le_refl _,s1⟩ (aD ⟨.refl _,trivial⟩ trivial) ?_
 rintro n ⟨hn1,hn2⟩
 refine ao<|ae hP<|ak rfl<|ab (bJ rfl rfl (by decide) (c:=n % 4) (Int.tmod_eq_emod_of_nonneg (by omega))) ?_
 refine ab (bq rfl rfl)<|ak rfl ?_
 refine aW (t:=12) rfl (fun hg1=>?_) (fun hg1=>?_)
 ·have hg1_:=bY hg1
  refine ay hg1 (aB (rfl:_=AV.p (.c _))) ?_
  refine ay hg1 (bJ rfl rfl (by decide) (c:=n % 4) (Int.tmod_eq_emod_of_nonneg (by omega))) ?_
  refine ay hg1 (bq rfl rfl) ?_
  refine ab (aN rfl hg1 (rfl:_=AV.p (.c _)))<|ag ?_
  refine az rfl (fun hb2=>?_) (fun hb2=>?_)
  ·have hb2_:=bY hb2
   refine au<|aA<|aw hP<|ak rfl<|bv rfl rfl ?_
   refine aj rfl<|ag ?_
   have hne:n≠szz D:=by
    rintro rfl
    have:=bY hg1
    have:=bY hb2
    omega
   refine ⟨n+1,⟨by omega,by omega⟩,by omega,aD ⟨.refl _,trivial⟩ trivial⟩
  have hb2_:=bS hb2
  refine aZ<|ae hP<|ak rfl<|aj rfl<|ag<|am<|E1 rfl rfl ?_
  exact aM (s5 n hn1 hn2 (.inr (bS hb2)))
 have hg1_:=bS hg1
 iterate 3 refine aX hg1 ?_
 refine ab (aK rfl hg1 (rfl:_=AV.p (.c _)))<|ag<|aQ rfl rfl<|aZ<|ae hP<|ak rfl<|aj rfl<|ag<|am<|E1 rfl rfl ?_
 exact aM (s5 n hn1 hn2 (.inl (bS hg1)))
theorem BW (D i0 i1 i2 i3 m0 m1 m2 m3:Nat) (hD:D < 65536) (g0:i0 < 65536) (g1:i1 < 65536) (g2:i2 < 65536) (g3:i3 < 65536) (k0:m0 < 256) (k1:m1 < 256) (k2:m2 < 256) (k3:m3 < 256) :
  aJ Tryz.prog 22 [.p (.a [.v (.int .u16 (D:Int)),.v (.int .u16 (i0:Int)),.v (.int .u16 (i1:Int)),.v (.int .u16 (i2:Int)),.v (.int .u16 (i3:Int)),.v (.int .u8 (m0:Int)),.v (.int .u8 (m1:Int)),.v (.int .u8 (m2:Int)),.v (.int .u8 (m3:Int))]),Z 0] (FA (mkF D i0 m0).a (mkF D i0 m0).b (mkF D i0 m0).c):=by
 obtain ⟨_,s2,s3,s4,_⟩:=e9 D
 have hlp:=wH D
 obtain ⟨pa,pb,pc⟩:=L3 D i0
 obtain ⟨ta,tb,tc,td⟩:=IP k0
 have e1:=Int.emod_nonneg (i0:Int) (show (((lst (szz D)).length:Nat):Int)≠0 by omega)
 have e2:=Int.emod_lt_of_pos (i0:Int) (show (0:Int) < (((lst (szz D)).length:Nat):Int) by omega)
 have cu:=Gd m0 k0
 refine aO Tryz.func22 rfl rfl rfl rfl ?_
 refine ae hP<|aq ai (aL rfl rfl)<|aq ai (aC hT rfl rfl)<|ag<|ae hP<|ab (aF hT rfl rfl rfl rfl (cs:=[_,_,_,_,_,_,_,_,_]) rfl rfl)<|ab (ah (Ge _ _ _ _ _ _ _ _ _ hD g0 g1 g2 g3 k0 k1 k2 k3)) ?_
 refine ab (ah (Gf _ (by omega) (by omega))) ?_
 refine aj rfl<|ag<|ae hP<|ak rfl<|ak rfl<|ab (bJ rfl rfl (by decide) (c:=0) (by decide)) ?_
 refine aG hT rfl<|ab (aY hT rfl rfl rfl rfl rfl (by first | decide | omega)) ?_
 refine a8 hT rfl rfl rfl rfl ?_
 refine ab (bl hT rfl rfl rfl rfl (iW0 _ (by omega))) ?_
 refine ak rfl<|ab (aU hT rfl rfl rfl (by rfl)) ?_
 refine ab (bJ rfl rfl (by omega) (c:=(i0:Int) % ((lst (szz D)).length:Nat)) (Int.tmod_eq_emod_of_nonneg (by omega))) ?_
 refine ab (fX hT rfl rfl rfl rfl rfl rfl (by omega)) ?_
 refine ab (bf hT rfl rfl rfl (cs:=FC (pik D i0)) rfl rfl) ?_
 refine aq ai (aC hT rfl rfl)<|aI hT rfl<|ag<|ao<|ae hP<|ak rfl<|ab (bJ rfl rfl (by decide) (c:=0) (by decide)) ?_
 refine aG hT rfl<|ab (aY hT rfl rfl rfl rfl rfl (by first | decide | omega)) ?_
 refine a8 hT rfl rfl rfl rfl ?_
 refine ab (bJ rfl rfl (by decide) (c:=(m0:Int) % 4) (Int.tmod_eq_emod_of_nonneg (by omega))) ?_
 refine ab (bh rfl rfl)<|ag ?_
 refine az rfl (fun hb1=>?_) (fun hb1=>?_)
 ·have hb1_:=bT hb1
  refine ae hP<|br hT rfl rfl rfl rfl rfl rfl<|aI hT rfl<|ag<|am ?_
  refine bW rfl (.inr rfl) (aS hT rfl rfl rfl rfl (cs:=[_,_,_,_,_,_]) rfl rfl) ?_ bu
  exact aH (by rw [mkF,if_pos (by omega)])
 have hb1_:=bF hb1
 refine au<|ae hP<|br hT rfl rfl rfl rfl rfl rfl<|ak rfl<|ab (bJ rfl rfl (by decide) (c:=0) (by decide)) ?_
 refine aG hT rfl<|ab (aY hT rfl rfl rfl rfl rfl (by first | decide | omega)) ?_
 refine a8 hT rfl rfl rfl rfl ?_
 refine ab (ah cu) ?_
 refine ab (ah (oL _ _ _ _ _ _ _ lz lz lz lz lz lz lz)) ?_
 refine aI hT rfl<|ag<|am ?_
 refine bW rfl (.inr rfl) (aS hT rfl rfl rfl rfl (cs:=[_,_,_,_,_,_]) rfl rfl) ?_ bu
 exact aH (by rw [mkF,if_neg (by omega)];rfl)
end
section
open Go Go.AM
theorem Ko (b:Bool) :
  aJ Tryz.prog 188 [.p (.c (.v (.bool b)))] (Z (sgB b)):=by
 refine aO Tryz.func188 rfl rfl rfl rfl ?_
 refine ae hP<|aj rfl<|ag<|ao<|ae hP<|ak rfl<|ag ?_
 refine az rfl (fun hb1=>?_) (fun hb1=>?_)
 ·refine ae hP<|aj rfl<|ag<|am<|E1 rfl rfl ?_
  exact aM (Ll hb1)
 refine au<|ae hP<|aj rfl<|ag<|am<|E1 rfl rfl ?_
 exact aM (Lm hb1)
theorem xp (l:List Int) (x:Int) (hl:(l.length:Int)≤1000000) :
  aJ Tryz.prog 222 [.p (.c (IS l)),Z x] (Z (ixV l x)):=by
 refine aO Tryz.func222 rfl rfl rfl rfl ?_
 refine ae hP<|aj rfl<|ag<|ao<|ae hP<|ak rfl<|ab (aU hT rfl rfl rfl (by rfl)) ?_
 refine ak rfl<|ag<|aA<|bg (ι:=Nat) (fun k=>stL [(0,.p (.c (IS l))),(1,Z x),(7,Z (l.length:Int)),(8,Z (k:Int))] []) (fun k=>k≤l.length∧k≤l.findIdx (· == x)) (fun k=>l.length - k) 0 ⟨Nat.zero_le _,Nat.zero_le _⟩ (aD ⟨.refl _,.refl _,.refl _,.refl _,trivial⟩ trivial) ?_
 rintro k ⟨hk1,hk2⟩
 refine ae hP<|ab (bi rfl rfl)<|ag<|ao ?_
 refine az rfl (fun hb1=>?_) (fun hb1=>?_)
 ·have hb1_:=dT0 hb1
  refine au<|ao<|aA<|ae hP<|ak rfl<|aj rfl<|ag<|ae hP<|ak rfl<|ak rfl<|ak rfl<|ab (fW hT (n:=k) rfl rfl rfl rfl rfl rfl (by omega)) ?_
  refine ab (bI hT rfl rfl rfl rfl)<|ab (bh rfl rfl)<|ag ?_
  refine az rfl (fun hb2=>?_) (fun hb2=>?_)
  ·have hb2_:=bT hb2
   refine ae hP<|ak rfl<|aj rfl<|ag<|am<|E1 rfl rfl ?_
   exact aM (Kb hk2 hb1_ hb2_).symm
  have hb2_:=bF hb2
  refine au<|aw hP<|bv rfl rfl ?_
  refine ak rfl<|ag ?_
  have hn2:=yu hk2 hb1_ hb2_
  refine ⟨k+1,⟨by omega,hn2⟩,by omega,aD ⟨.refl _,.refl _,.refl _,aM (by omega),trivial⟩ trivial⟩
 have hb1_:=dF0 hb1
 refine aZ<|ae hP<|aj rfl<|ag<|am<|E1 rfl rfl ?_
 exact aM (Kc hk2 hb1_).symm
theorem ss (l:List Int) (x:Int) (hl:(l.length:Int)≤1000000) :
  aJ Tryz.prog 189 [.p (.c (IS l)),Z x] (B (qM l x)):=by
 refine aO Tryz.func189 rfl rfl rfl rfl ?_
 refine ae hP<|aj rfl<|ag<|ae hP<|ak rfl<|ak rfl<|ab (ah (xp l x hl)) ?_
 refine ab (dm rfl rfl)<|aj rfl<|ag<|am<|E1 rfl rfl ?_
 exact .refl _
theorem yq (m:Int) (l:List Int) (hm:0≤m) (hl:(l.length:Int)≤1000000) :
  aJ Tryz.prog 187 [Z m,.ip [IS l]] (Z (sgB (qM l (m % 8)))):=by
 refine aO Tryz.func187 rfl rfl rfl rfl ?_
 refine ae hP<|aj rfl<|ag<|ae hP<|cH hT rfl rfl rfl ?_
 refine ak rfl<|ab (bJ rfl rfl (by decide) (c:=m % 8) (Int.tmod_eq_emod_of_nonneg hm)) ?_
 refine ab (ah (ss l (m % 8) hl)) ?_
 refine ab (ah (Ko _)) ?_
 refine aj rfl<|ag<|am<|E1 rfl rfl ?_
 exact .refl _
theorem Kp (m p:Int) (hm:bp m) (hp:bp p) :
  aJ Tryz.prog 186 [Z m,.ip [IC p]] (Z (kr m p)):=by
 have im:LB m 6:=⟨by unfold L;unfold bp at hm;omega⟩
 have ip:LB p 6:=⟨by unfold L;unfold bp at hp;omega⟩
 refine aO Tryz.func186 rfl rfl rfl rfl ?_
 refine ae hP<|aj rfl<|ag<|ae hP<|ak rfl<|ab (ah (eK m hm)) ?_
 refine cH hT rfl rfl rfl ?_
 refine ab (ah (eK p hp)) ?_
 refine ab (ah (jA _ _ lz lz)) ?_
 refine aj rfl<|ag<|am<|E1 rfl rfl ?_
 exact .refl _
theorem mX (c:Int) (l:List Int) :
  aJ Tryz.prog 144 [Z c,.p (.c (IS l))] (.p (.a [IC c,.fn 187 [.ip [IS l]]])):=by
 refine aO Tryz.func144 rfl rfl rfl rfl ?_
 refine ae hP<|aq ai (aL rfl rfl)<|aq ai (aC hT rfl rfl)<|ag<|cT (t:=3) rfl rfl ?_
 refine ae hP<|ak rfl<|ab (kt rfl)<|ab (a6 hT rfl rfl rfl (es:=[_,_]) rfl)<|aI hT rfl<|ag<|am<|E2 hT rfl rfl rfl rfl rfl rfl rfl ?_
 exact .refl _
theorem Mq (p:Int) (h:3≤p) (ho:p % 2=1) :
  aJ Tryz.prog 143 [Z p] (.p (.a (chC 186 187 p))):=by
 refine aO Tryz.func143 rfl rfl rfl rfl ?_
 refine ae hP<|aq ai (aL rfl rfl)<|aq ai (aC hT rfl rfl)<|ag<|cT (t:=1) rfl rfl ?_
 refine ae hP<|cH hT rfl rfl rfl ?_
 refine ab (kt rfl)<|ab (a6 hT rfl rfl rfl (es:=[_,_]) rfl)<|aI hT rfl<|ag<|am<|E2 hT rfl rfl rfl rfl rfl rfl rfl ?_
 exact aH (by rw [← GD h ho];rfl)
end
section
open Go Go.AM
theorem p5 (d:Int) (h0:d < 0) (h1:-4194304≤d) :
  aJ Tryz.prog 78 [Z d] (.p (.c (CS 186 187 (chs d)))):=by
 refine aO Tryz.func78 rfl rfl rfl rfl ?_
 refine ae hP<|aj rfl<|ag<|ae hP<|aj rfl<|ag<|pd 3 1000 2 142 rfl rfl ?_
 refine ae hP<|ak rfl<|ab (ew rfl (c:=-d) (by rw [iW0 _ (by omega)];omega)) ?_
 refine aj rfl<|ag<|ao<|aA<|bg (ι:=Int) (fun m=>stL [(0,Z d),(3,.vec 1000),(4,Z m)] [(1000,CB 186 187 142 [])]) (fun m=>(0 < m∧m≤4194304)∧rmp m 2=(rmp (-d) 2)) (fun m=>m.toNat) (-d) ⟨by omega,rfl⟩ (aD ⟨.refl _,.refl _,.refl _,trivial⟩ ⟨rfl,trivial⟩) ?_
 rintro m ⟨hm,hr⟩
 refine ao<|ae hP<|ak rfl<|ab (bJ rfl rfl (by omega) (c:=m % 2) (Int.tmod_eq_emod_of_nonneg (by omega))) ?_
 refine ab (bh rfl rfl)<|ag ?_
 refine az rfl (fun hb1=>?_) (fun hb1=>?_)
 ·have hb1_:=bT hb1
  refine au<|aA<|aw hP<|ak rfl<|ab (cO rfl rfl (by omega) (c:=m / 2) (by rw [Int.tdiv_eq_ediv_of_nonneg (by omega),iW0 _ (by omega)])) ?_
  refine aj rfl<|ag ?_
  have hdd:=gw hm.1 (by decide) hb1_
  refine ⟨m / 2,⟨by omega,by rw [gV (by decide) hm.1 hb1_,hr]⟩,by omega,aD ⟨.refl _,.refl _,.refl _,trivial⟩ ⟨rfl,trivial⟩⟩
 have hb1_:=bF hb1
 refine aZ<|ao<|ae hP<|aj rfl<|ag<|aA ?_
 have hm2:m=(rmp (-d) 2):=by rw [← hr,iF hb1_]
 refine bg (ι:=Int × Int × List Int) (fun q=>stL [(0,Z d),(3,.vec 1000),(4,Z q.1),(5,Z q.2.1)] [(1000,CB 186 187 142 q.2.2)]) (fun q=>OcI (rmp (-d) 2) q.1 q.2.1 q.2.2) (fun q=>ocM q.1 q.2.1) (m,3,[]) (by have:=OcI.start (n:=m) (by omega) (by omega) (by omega);rw [hm2] at this ⊢;exact this) (aD ⟨.refl _,.refl _,.refl _,.refl _,trivial⟩ ⟨rfl,trivial⟩) ?_
 intro q i
 have in1:=i.n1
 have inb:=i.nb
 have ip3:=i.p3
 have il:=i.len.1
 refine ao<|ae hP<|ak rfl<|ab (bK rfl rfl)<|ag ?_
 refine az rfl (fun hb2=>?_) (fun hb2=>?_)
 ·have hb2_:=dT0 hb2
  have ipb:=i.pb hb2_
  have hsq:=ki (x:=q.2.1) (m:=2051) (by omega)
  refine au<|ao<|aA<|cy (ι:=Int) (fun r=>stL [(0,Z d),(3,.vec 1000),(4,Z q.1),(5,Z r)] [(1000,CB 186 187 142 q.2.2)]) (fun r=>QI q.1 q.2.1 r) ?_ ?_
  ·refine ae hP<|ak rfl<|ak rfl<|ab (bQ rfl rfl (by first | exact iW0 _ (by omega) | rfl)) ?_
   refine ak rfl<|ab (bK rfl rfl)<|ag ?_
   refine az rfl (fun hb3=>?_) (fun hb3=>?_)
   ·have hb3_:=dT0 hb3
    refine aw hP<|ak rfl<|aj rfl<|ag ?_
    refine ⟨q.1,.inl ⟨rfl,hb3_⟩,aD ⟨.refl _,.refl _,.refl _,.refl _,trivial⟩ ⟨rfl,trivial⟩⟩
   have hb3_:=dF0 hb3
   refine au ?_
   refine ⟨q.2.1,.inr ⟨rfl,hb3_⟩,aD ⟨.refl _,.refl _,.refl _,.refl _,trivial⟩ ⟨rfl,trivial⟩⟩
  intro r hQ
  obtain ⟨hq3,hqo,hqb⟩:=i.q3 hb2_ hQ
  refine ao<|ae hP<|ak rfl<|ak rfl<|ab (bJ rfl rfl (by omega) (c:=q.1 % r) (Int.tmod_eq_emod_of_nonneg (by omega))) ?_
  refine ab (bh rfl rfl)<|ag ?_
  refine az rfl (fun hb4=>?_) (fun hb4=>?_)
  ·have hb4_:=bT hb4
   obtain ⟨out',ho',hR⟩:∃ o,o=q.2.2 ++ [r]∧RI q.1 q.2.1 r q.2.2 o:=⟨_,rfl,hQ.yes hb4_⟩
   refine aw hP<|ab (aB (rfl:_=AV.vec _))<|ak rfl<|ab (ah (Mq r hq3 hqo)) ?_
   refine ab (bd hT rfl rfl rfl (es:=[_,_]) rfl rfl rfl)<|RK.app ai (fy (fo:=186) (fs:=187) (c:=[r]) hT rfl rfl rfl rfl rfl rfl rfl rfl rfl (by simp only [List.length_cons,List.length_nil];omega) (by decide)) ?_
   refine ab (a7 (rfl:_=AV.vec _))<|ag<|cr 34 1000 rfl rfl rfl ?_
   refine aA<|bg (ι:=Int) (fun m=>stL [(0,Z d),(3,.vec 1000),(4,Z m),(5,Z r)] [(1000,CB 186 187 142 out')]) (fun m=>(0 < m∧m≤4194304)∧rmp m r=rmp q.1 r) (fun m=>m.toNat) q.1 ⟨by omega,rfl⟩ (aD ⟨.refl _,.refl _,.refl _,.refl _,trivial⟩ ⟨Eq.trans rfl (congrArg (fun x=>some (CB 186 187 142 x)) ho'.symm),trivial⟩) ?_
   rintro m ⟨hm,hrm⟩
   refine ao<|ae hP<|ak rfl<|ak rfl<|ab (bJ rfl rfl (by omega) (c:=m % r) (Int.tmod_eq_emod_of_nonneg (by omega))) ?_
   refine ab (bh rfl rfl)<|ag ?_
   refine az rfl (fun hb5=>?_) (fun hb5=>?_)
   ·have hb5_:=bT hb5
    have hdd:=gw hm.1 (by omega) ‹m % r=0›
    refine au<|aA<|aw hP<|ak rfl<|ak rfl<|ab (cO rfl rfl (by omega) (c:=m / r) (by rw [Int.tdiv_eq_ediv_of_nonneg (by omega),iW0 _ (by omega)])) ?_
    refine aj rfl<|ag ?_
    refine ⟨m / r,⟨by omega,by rw [gV (by omega) hm.1 ‹m % r=0›,hrm]⟩,by omega,aD ⟨.refl _,.refl _,.refl _,.refl _,trivial⟩ ⟨rfl,trivial⟩⟩
   have hb5_:=bF hb5
   refine aZ<|aw hP<|ak rfl<|bv rfl rfl ?_
   refine aj rfl<|ag ?_
   have hcl:=i.close hb2_ hR
   have em:m=rmp q.1 r:=by rw [← hrm,iF ‹m % r≠0›]
   refine ⟨(rmp q.1 r,r+2,out'),hcl.1,hcl.2,aD ⟨.refl _,.refl _,aM em,.refl _,trivial⟩ ⟨rfl,trivial⟩⟩
  have hb4_:=bF hb4
  obtain ⟨out',ho',hR⟩:∃ o,o=q.2.2∧RI q.1 q.2.1 r q.2.2 o:=⟨_,rfl,hQ.no hb2_ hb4_⟩
  refine au<|aA<|bg (ι:=Int) (fun m=>stL [(0,Z d),(3,.vec 1000),(4,Z m),(5,Z r)] [(1000,CB 186 187 142 out')]) (fun m=>(0 < m∧m≤4194304)∧rmp m r=rmp q.1 r) (fun m=>m.toNat) q.1 ⟨by omega,rfl⟩ (aD ⟨.refl _,.refl _,.refl _,.refl _,trivial⟩ ⟨Eq.trans rfl (congrArg (fun x=>some (CB 186 187 142 x)) ho'.symm),trivial⟩) ?_
  rintro m ⟨hm,hrm⟩
  refine ao<|ae hP<|ak rfl<|ak rfl<|ab (bJ rfl rfl (by omega) (c:=m % r) (Int.tmod_eq_emod_of_nonneg (by omega))) ?_
  refine ab (bh rfl rfl)<|ag ?_
  refine az rfl (fun hb6=>?_) (fun hb6=>?_)
  ·have hb6_:=bT hb6
   have hdd:=gw hm.1 (by omega) ‹m % r=0›
   refine au<|aA<|aw hP<|ak rfl<|ak rfl<|ab (cO rfl rfl (by omega) (c:=m / r) (by rw [Int.tdiv_eq_ediv_of_nonneg (by omega),iW0 _ (by omega)])) ?_
   refine aj rfl<|ag ?_
   refine ⟨m / r,⟨by omega,by rw [gV (by omega) hm.1 ‹m % r=0›,hrm]⟩,by omega,aD ⟨.refl _,.refl _,.refl _,.refl _,trivial⟩ ⟨rfl,trivial⟩⟩
  have hb6_:=bF hb6
  refine aZ<|aw hP<|ak rfl<|bv rfl rfl ?_
  refine aj rfl<|ag ?_
  have hcl:=i.close hb2_ hR
  have em:m=rmp q.1 r:=by rw [← hrm,iF ‹m % r≠0›]
  refine ⟨(rmp q.1 r,r+2,out'),hcl.1,hcl.2,aD ⟨.refl _,.refl _,aM em,.refl _,trivial⟩ ⟨rfl,trivial⟩⟩
 have hb2_:=dF0 hb2
 refine aZ<|ao<|ae hP<|ak rfl<|ab (bJ rfl rfl (by decide) (c:=d.tmod 4) rfl) ?_
 refine ab (bq rfl rfl)<|ag ?_
 refine az rfl (fun hb7=>?_) (fun hb7=>?_)
 ·have hb7_:=bY hb7
  refine ae hP<|ab (aB (rfl:_=AV.vec _))<|ab (a7 (rfl:_=AV.vec _))<|ag<|ep (t:=2) rfl rfl ?_
  refine am<|E1 rfl rfl ?_
  exact aH (by rw [i.fin hb2_,Ex hb7_])
 have hb7_:=bS hb7
 refine au<|ae hP<|ab (bd hT rfl rfl rfl (es:=[_,_]) rfl rfl rfl)<|ab (ah (mX (-4) [1,5])) ?_
 refine ab (bd hT rfl rfl rfl (es:=[_,_]) rfl rfl rfl)<|ab (ah (mX 8 [1,7])) ?_
 refine ab (bd hT rfl rfl rfl (es:=[_,_]) rfl rfl rfl)<|ab (ah (mX (-8) [1,3])) ?_
 refine aq ai (aC hT rfl rfl)<|aq ai (aC hT rfl rfl)<|aq ai (aC hT rfl rfl)<|aI hT rfl<|aI hT rfl<|aI hT rfl<|ag<|ao<|ae hP<|ak rfl<|ab (ew rfl (c:=-d) (by rw [iW0 _ (by omega)];omega)) ?_
 refine ab (cO rfl rfl (by omega) (c:=-d / 4) (by rw [Int.tdiv_eq_ediv_of_nonneg (by omega),iW0 _ (by omega)])) ?_
 refine ab (bJ rfl rfl (by omega) (c:=-d / 4 % 8) (Int.tmod_eq_emod_of_nonneg (by omega))) ?_
 refine ag<|aA<|ae hP<|ab (bh rfl rfl)<|aj rfl<|ag ?_
 refine az rfl (fun hb8=>?_) (fun hb8=>?_)
 ·have hb8_:=bT hb8
  refine aw hP<|ab (aB (rfl:_=AV.vec _))<|av hT rfl<|av hT rfl<|ab (bd hT rfl rfl rfl (es:=[_,_,_,_]) rfl rfl rfl)<|RK.app ai (fy (fo:=186) (fs:=187) (c:=[-4,8]) hT rfl rfl rfl rfl rfl rfl rfl rfl rfl (by simp only [List.length_cons,List.length_nil];omega) (by decide)) ?_
  refine ab (a7 (rfl:_=AV.vec _))<|ag<|cr 62 1000 rfl rfl rfl ?_
  refine ae hP<|ab (aB (rfl:_=AV.vec _))<|ab (a7 (rfl:_=AV.vec _))<|ag<|ep (t:=2) rfl rfl ?_
  refine am<|E1 rfl rfl ?_
  exact aH (by rw [i.fin hb2_,nY hb7_ (Lj hb7_ hb8_)])
 have hb8_:=bF hb8
 refine ao<|ae hP<|ab (bh rfl rfl)<|aj rfl<|ag ?_
 refine az rfl (fun hb9=>?_) (fun hb9=>?_)
 ·have hb9_:=bT hb9
  refine au<|aV rfl hb9<|aw hP<|ab (aB (rfl:_=AV.vec _))<|av hT rfl<|ab (bd hT rfl rfl rfl (es:=[_,_]) rfl rfl rfl)<|RK.app ai (fy (fo:=186) (fs:=187) (c:=[-4]) hT rfl rfl rfl rfl rfl rfl rfl rfl rfl (by simp only [List.length_cons,List.length_nil];omega) (by decide)) ?_
  refine ab (a7 (rfl:_=AV.vec _))<|ag<|cr 70 1000 rfl rfl rfl ?_
  refine ae hP<|ab (aB (rfl:_=AV.vec _))<|ab (a7 (rfl:_=AV.vec _))<|ag<|ep (t:=2) rfl rfl ?_
  refine am<|E1 rfl rfl ?_
  exact aH (by rw [i.fin hb2_,nY hb7_ (xn hb7_ hb8_ (.inl hb9_))])
 have hb9_:=bF hb9
 refine ae hP<|ab (bh rfl rfl)<|aj rfl<|ag ?_
 refine az rfl (fun hb10=>?_) (fun hb10=>?_)
 ·have hb10_:=bT hb10
  refine au<|aV rfl hb10<|aw hP<|ab (aB (rfl:_=AV.vec _))<|av hT rfl<|ab (bd hT rfl rfl rfl (es:=[_,_]) rfl rfl rfl)<|RK.app ai (fy (fo:=186) (fs:=187) (c:=[-4]) hT rfl rfl rfl rfl rfl rfl rfl rfl rfl (by simp only [List.length_cons,List.length_nil];omega) (by decide)) ?_
  refine ab (a7 (rfl:_=AV.vec _))<|ag<|cr 70 1000 rfl rfl rfl ?_
  refine ae hP<|ab (aB (rfl:_=AV.vec _))<|ab (a7 (rfl:_=AV.vec _))<|ag<|ep (t:=2) rfl rfl ?_
  refine am<|E1 rfl rfl ?_
  exact aH (by rw [i.fin hb2_,nY hb7_ (xn hb7_ hb8_ (.inr (.inl hb10_)))])
 have hb10_:=bF hb10
 refine aw hP<|ab (bh rfl rfl)<|aj rfl<|ag ?_
 refine az rfl (fun hb11=>?_) (fun hb11=>?_)
 ·have hb11_:=bT hb11
  refine aw hP<|ab (aB (rfl:_=AV.vec _))<|av hT rfl<|ab (bd hT rfl rfl rfl (es:=[_,_]) rfl rfl rfl)<|RK.app ai (fy (fo:=186) (fs:=187) (c:=[-4]) hT rfl rfl rfl rfl rfl rfl rfl rfl rfl (by simp only [List.length_cons,List.length_nil];omega) (by decide)) ?_
  refine ab (a7 (rfl:_=AV.vec _))<|ag<|cr 70 1000 rfl rfl rfl ?_
  refine ae hP<|ab (aB (rfl:_=AV.vec _))<|ab (a7 (rfl:_=AV.vec _))<|ag<|ep (t:=2) rfl rfl ?_
  refine am<|E1 rfl rfl ?_
  exact aH (by rw [i.fin hb2_,nY hb7_ (xn hb7_ hb8_ (.inr (.inr hb11_)))])
 have hb11_:=bF hb11
 refine ae hP<|ab (bh rfl rfl)<|aj rfl<|ag ?_
 refine az rfl (fun hb12=>?_) (fun hb12=>?_)
 ·have hb12_:=bT hb12
  refine aw hP<|ab (aB (rfl:_=AV.vec _))<|av hT rfl<|ab (bd hT rfl rfl rfl (es:=[_,_]) rfl rfl rfl)<|RK.app ai (fy (fo:=186) (fs:=187) (c:=[-8]) hT rfl rfl rfl rfl rfl rfl rfl rfl rfl (by simp only [List.length_cons,List.length_nil];omega) (by decide)) ?_
  refine ab (a7 (rfl:_=AV.vec _))<|ag<|cr 76 1000 rfl rfl rfl ?_
  refine ae hP<|ab (aB (rfl:_=AV.vec _))<|ab (a7 (rfl:_=AV.vec _))<|ag<|ep (t:=2) rfl rfl ?_
  refine am<|E1 rfl rfl ?_
  exact aH (by rw [i.fin hb2_,nY hb7_ (Li hb7_ hb12_)])
 have hb12_:=bF hb12
 refine ae hP<|ab (bh rfl rfl)<|aj rfl<|ag ?_
 refine az rfl (fun hb13=>?_) (fun hb13=>?_)
 ·have hb13_:=bT hb13
  refine aw hP<|ab (aB (rfl:_=AV.vec _))<|av hT rfl<|ab (bd hT rfl rfl rfl (es:=[_,_]) rfl rfl rfl)<|RK.app ai (fy (fo:=186) (fs:=187) (c:=[8]) hT rfl rfl rfl rfl rfl rfl rfl rfl rfl (by simp only [List.length_cons,List.length_nil];omega) (by decide)) ?_
  refine ab (a7 (rfl:_=AV.vec _))<|ag<|cr 82 1000 rfl rfl rfl ?_
  refine ae hP<|ab (aB (rfl:_=AV.vec _))<|ab (a7 (rfl:_=AV.vec _))<|ag<|ep (t:=2) rfl rfl ?_
  refine am<|E1 rfl rfl ?_
  exact aH (by rw [i.fin hb2_,nY hb7_ (Lh hb7_ hb13_)])
 have hb13_:=bF hb13
 refine au<|ae hP<|ab (aB (rfl:_=AV.vec _))<|ab (a7 (rfl:_=AV.vec _))<|ag<|ep (t:=2) rfl rfl ?_
 refine am<|E1 rfl rfl ?_
 exact aH (by rw [i.fin hb2_,Lg hb7_ hb8_ hb9_ hb10_ hb11_ hb12_ hb13_])
end
section
open Go Go.AM
theorem Cs (x:Int) (hx:18446744073709551616≤x.natAbs) :
  aJ Tryz.prog 125 [I x] (.t [.c (.v (.int .i64 (lwV x))),PB (lwO x)]):=by
 have hl:¬ (wl x.natAbs).length≤2:=fun h=>by have:=lv h;omega
 refine aO Tryz.func125 rfl rfl rfl rfl ?_
 refine ae hP<|aq ai (aL rfl rfl)<|aj rfl<|aj rfl<|ag<|ao<|ae hP<|aG hT rfl<|a8 hT rfl rfl rfl rfl ?_
 refine ab (aU hT rfl rfl rfl rfl)<|ab (bK rfl rfl)<|ag<|aV rfl (decide_eq_true (by omega)) ?_
 refine ae hP<|aj rfl<|aj rfl<|ag<|am<|E11 rfl rfl rfl ?_
 exact aH (sH (by omega))
theorem Ct (x:Int):aJ Tryz.prog 125 [I x] (.t [.c (.v (.int .i64 (lwV x))),PB (lwO x)]):=by
 by_cases h:x.natAbs < 9223372036854775808
 ·have h1:=kb x (by omega) (by omega)
  have h2:=qI (a:=x) (by omega)
  rw [h2.1,h2.2];exact h1
 by_cases h1:x.natAbs < 18446744073709551616
 ·exact Cr x (by omega)
 exact Cs x (by omega)
theorem wU (d:Int) (hd:L 40 d) :
  aJ Tryz.prog 142 [I d] (.t [PE (gnV d),PE (szE d)]):=by
 have id0:LB d 40:=⟨hd⟩
 have hm0:=Int.emod_nonneg d (show (4:Int)≠0 by omega)
 have hm1:=Int.emod_lt_of_pos d (show (0:Int) < 4 by omega)
 refine aO Tryz.func142 rfl rfl rfl rfl ?_
 refine ae hP<|aq ai (aL rfl rfl)<|aj rfl<|aj rfl<|ag<|ae hP<|av hT rfl<|ab (ah (eK 4 (by decide))) ?_
 refine ab (ah (dS d 4 lz lz (by decide))) ?_
 refine ab (aB (rfl:_=AV.t _))<|ab (aE rfl (v:=.a _) rfl)<|ab (aE rfl (v:=.a _) rfl)<|ab (aE rfl (v:=.c _) rfl)<|aq ai (aC hT rfl rfl)<|aq ai (aC hT rfl rfl)<|aI hT rfl<|aI hT rfl<|aj rfl<|ag<|ae hP<|av hT rfl<|ab (ah (Ct d)) ?_
 refine ab (aB (rfl:_=AV.t _))<|ab (aE rfl (v:=.c _) rfl)<|ab (aE rfl (v:=.c _) rfl)<|aj rfl<|aj rfl<|ag<|ao<|aA<|ae hP<|av hT rfl<|ab (ah (dp _)) ?_
 refine ab (dm rfl rfl)<|ak rfl ?_
 refine aW (t:=25) rfl (fun hg1=>?_) (fun hg1=>?_)
 ·have hg1_:=dT0 hg1
  iterate 4 refine aX hg1 ?_
  refine ab (aN rfl hg1 (rfl:_=AV.p (.c _)))<|aj rfl<|ag<|aV rfl rfl<|ae hP<|aj rfl<|aj rfl<|ag<|am<|E11 rfl rfl rfl ?_
  exact aH (yo (.inl (sgn_ge_iff.1 hg1_)))
 have hg1_:=dF0 hg1
 refine ay hg1 (aF hT rfl rfl rfl rfl (cs:=[_,_]) rfl rfl) ?_
 refine ay hg1 (ah (eK 1 (by decide))) ?_
 refine ay hg1 (ah (dL _ _)) ?_
 refine ay hg1 (bK rfl rfl) ?_
 refine ab (aK rfl hg1 (rfl:_=AV.p (.c _)))<|aj rfl<|ag ?_
 refine az rfl (fun hb2=>?_) (fun hb2=>?_)
 ·have hb2_:=dT0 hb2
  refine ae hP<|aj rfl<|aj rfl<|ag<|am<|E11 rfl rfl rfl ?_
  exact aH (yo (.inr (cmpI_gt_zero.1 hb2_)))
 have hb2_:=dF0 hb2
 have hn:¬ (0≤d∨d % 4 > 1):=fun h=>h.elim (fun x=>hg1_ (sgn_ge_iff.2 x)) (fun x=>hb2_ (cmpI_gt_zero.2 x))
 refine ae hP<|ak rfl<|ab (bt rfl)<|ak rfl ?_
 refine aW (t:=34) rfl (fun hg3=>?_) (fun hg3=>?_)
 ·have hg3_:=(bX hg3)
  refine aX hg3 ?_
  refine aX hg3 ?_
  refine ab (aN rfl hg3 (rfl:_=AV.p (.c _)))<|aj rfl<|ag<|aV rfl rfl<|ae hP<|aj rfl<|aj rfl<|ag<|am<|E11 rfl rfl rfl ?_
  exact aH (Cw hn (by have:=Ma hg3_;omega))
 have hg3_:=(bU hg3)
 have hly:=qI (lwO_iff.1 hg3_)
 refine ay hg3 (aB (rfl:_=AV.p (.c _))) ?_
 refine ay hg3 (bi rfl rfl) ?_
 refine ab (aK rfl hg3 (rfl:_=AV.p (.c _)))<|aj rfl<|ag ?_
 refine az rfl (fun hb4=>?_) (fun hb4=>?_)
 ·have hb4_:=dT0 hb4
  refine ae hP<|aj rfl<|aj rfl<|ag<|am<|E11 rfl rfl rfl ?_
  exact aH (Cw hn (by have:=hly.2;omega))
 have hb4_:=dF0 hb4
 refine au<|ae hP<|ak rfl<|aj rfl<|aj rfl<|ag<|am<|E11 rfl rfl rfl ?_
 exact aH (by rw [hly.2];exact Kl hn (by have:=hly.2;omega))
theorem uG (d:Int) (hd:L 40 d) :
  aJ Tryz.prog 139 [I d] (.t [.c (IS (chE d)),PE (szE d)]):=by
 have id0:LB d 40:=⟨hd⟩
 refine aO Tryz.func139 rfl rfl rfl rfl ?_
 refine ae hP<|aq ai (aL rfl rfl)<|aj rfl<|aj rfl<|ag<|ae hP<|av hT rfl<|ab (ah (wU _ hd)) ?_
 refine ab (aB (rfl:_=AV.t _))<|ab (aE rfl (v:=.c _) rfl)<|ab (aE rfl (v:=.c _) rfl)<|aj rfl<|aj rfl<|ag<|ao<|ae hP<|ak rfl<|ab (bq rfl rfl)<|ag ?_
 refine az rfl (fun hb1=>?_) (fun hb1=>?_)
 ·have hb1_:=bY hb1
  refine ae hP<|ak rfl<|aj rfl<|aj rfl<|ag<|am<|E11 rfl rfl rfl ?_
  exact (by rw [Ey hb1_];exact Sub.tup ⟨DSub.nil_sl,DSub.refl _,trivial⟩)
 have hb1_:=bS hb1
 have he:szE d=0:=hb1_
 obtain ⟨e1,e2,e3⟩:=pX he
 have cAs:aJ Tryz.prog 78 [Z (gnV d)] (.p (.c (CS 186 187 (chs d)))):=by rw [e1];exact p5 d e2 e3
 have hcl:=ke e2 e3
 generalize hl:chs d=l at cAs hcl
 refine au<|ae hP<|aj rfl<|ag<|pd 6 1000 1 3 rfl rfl ?_
 refine ao<|ae hP<|ak rfl<|ab (ah cAs) ?_
 refine ab (aU hT rfl rfl rfl (by rfl)) ?_
 refine ak rfl<|ag<|aA<|bg (ι:=Nat) (fun k=>stL [(6,.vec 1000),(18,.p (.c (CS 186 187 l))),(19,Z (l.length:Int)),(20,Z (k:Int))] [(1000,IB 3 (l.take k))]) (fun k=>k≤l.length) (fun k=>l.length - k) 0 (Nat.zero_le _) (aD ⟨.refl _,.refl _,.refl _,.refl _,trivial⟩ ⟨rfl,trivial⟩) ?_
 intro k hk
 refine ae hP<|ab (bi rfl rfl)<|ag<|ao ?_
 refine az rfl (fun hb2=>?_) (fun hb2=>?_)
 ·have hb2_:=dT0 hb2
  refine au<|ao<|aA<|ae hP<|ab (rM (fo:=186) (fs:=187) (n:=(k:Int)) hT rfl rfl rfl rfl rfl rfl (by omega)) ?_
  refine ab (bf hT rfl rfl rfl (cs:=chC 186 187 (l.getD k 0)) rfl rfl) ?_
  refine aq ai (aC hT rfl rfl)<|aI hT rfl<|ag<|aw hP<|ab (aB (rfl:_=AV.vec _))<|aG hT rfl<|a8 hT rfl rfl rfl rfl ?_
  refine ab (bd hT rfl rfl rfl (es:=[_]) rfl rfl rfl)<|RK.app ai (dJ (z:=l.getD k 0) hT rfl rfl rfl rfl rfl rfl rfl rfl (by rw [List.length_take];omega) (by decide)) ?_
  refine ab (a7 (rfl:_=AV.vec _))<|ag<|cr 28 1000 rfl rfl rfl ?_
  refine aw hP<|bv rfl rfl ?_
  refine ak rfl<|ag ?_
  refine ⟨k+1,by omega,by omega,aD ⟨.refl _,.refl _,.refl _,aM (by omega),trivial⟩ ⟨Eq.trans rfl (congrArg (fun x=>some (IB 3 x)) (rc hb2_)),trivial⟩⟩
 have hb2_:=dF0 hb2
 refine aZ<|gK (t:=6) rfl rfl ?_
 refine ae hP<|ak rfl<|aj rfl<|aj rfl<|ag<|am<|E11 rfl rfl rfl ?_
 exact aH (by rw [oD hb2_,he,sN he,hl])
end
section
open Go Go.AM
theorem sK (a b:Int) (ha:bp a) (hb:bp b) :
  aJ Tryz.prog 76 [Z a,Z b] (Z (gg a b)):=by
 refine aO Tryz.func76 rfl rfl rfl rfl ?_
 refine ae hP<|aj rfl<|ag<|ao<|aA<|bg (ι:=Int × Int) (fun p=>stL [(0,Z p.1),(1,Z p.2)] []) (fun p=>gg p.1 p.2=gg a b∧bp p.1∧bp p.2) (fun p=>p.2.natAbs) (a,b) ⟨rfl,ha,hb⟩ (aD ⟨.refl _,.refl _,trivial⟩ trivial) ?_
 rintro p ⟨hG,hp1,hp2⟩
 refine ao<|ae hP<|ak rfl<|ab (bq rfl rfl)<|ag ?_
 refine az rfl (fun hb1=>?_) (fun hb1=>?_)
 ·have hb1_:=bY hb1
  refine au<|aA<|aw hP<|ak rfl<|ak rfl<|ak rfl<|ab (bJ rfl rfl hb1_ (c:=p.1.tmod p.2) rfl) ?_
  refine aj rfl<|aj rfl<|ag ?_
  have ht:=IQ hp1 hp2 hb1_
  refine ⟨(p.2,p.1.tmod p.2),⟨(He hb1_).trans hG,hp2,ht.1⟩,ht.2,aD ⟨.refl _,.refl _,trivial⟩ trivial⟩
 have hb1_:=bS hb1
 refine aZ<|ae hP<|ak rfl<|aj rfl<|ag<|am<|E1 rfl rfl ?_
 exact aM (by rw [← hG,NA hb1_])
theorem Ep (x:Int) (h:-9223372036854775808 < x∧x≤9223372036854775807) :
  aJ Tryz.prog 77 [Z x] (Z (x.natAbs:Int)):=by
 refine aO Tryz.func77 rfl rfl rfl rfl ?_
 refine ae hP<|aj rfl<|ag<|ae hP<|ak rfl<|ak rfl<|ab (ew rfl (by first | exact iW0 _ (by omega) | rfl)) ?_
 refine ab (pR rfl rfl)<|aj rfl<|ag<|am<|E1 rfl rfl ?_
 exact aM (by split <;> omega)
theorem vD (f:Fm) (hfa:L 6 f.a) (hfb:L 6 f.b) (hfc:L 6 f.c) :
  aJ Tryz.prog 74 [FA f.a f.b f.c] (.t [PE (gpV f),PE (gpE f)]):=by
 have ifa:LB f.a 6:=⟨hfa⟩
 have ifb:LB f.b 6:=⟨hfb⟩
 have ifc:LB f.c 6:=⟨hfc⟩
 refine aO Tryz.func74 rfl rfl rfl rfl ?_
 refine ae hP<|aq ai (aL rfl rfl)<|aj rfl<|aj rfl<|ag<|ao<|ae hP<|br hT rfl rfl rfl rfl rfl rfl<|ab (ah (nN f.a f.b f.c lz lz lz)) ?_
 refine aj rfl<|ag<|ae hP<|ak rfl<|ab (bq rfl rfl)<|ag ?_
 refine az rfl (fun hb1=>?_) (fun hb1=>?_)
 ·have hb1_:=bY hb1
  refine ae hP<|ak rfl<|aj rfl<|aj rfl<|ag<|am<|E11 rfl rfl rfl ?_
  exact aH (Kk hb1_)
 have hb1_:=bS hb1
 refine au<|ae hP<|br hT rfl rfl rfl rfl rfl rfl<|ab (ah (fV f.a f.b f.c lz lz lz)) ?_
 refine ab (ah (wU _ lz)) ?_
 refine ab (aB (rfl:_=AV.t _))<|ab (aE rfl (v:=.c _) rfl)<|ab (aE rfl (v:=.c _) rfl)<|aj rfl<|aj rfl<|ag<|ao<|ae hP<|ak rfl<|ab (bh rfl rfl)<|ak rfl ?_
 refine aW (t:=20) rfl (fun hg2=>?_) (fun hg2=>?_)
 ·have hg2_:=bT hg2
  refine ay hg2 (aF hT rfl rfl rfl rfl (cs:=[_,_,_,_,_,_]) rfl rfl) ?_
  refine ay hg2 (ah (kQ f.a f.b f.c lz lz lz)) ?_
  refine ay hg2 (bt rfl) ?_
  refine ab (aN rfl hg2 (rfl:_=AV.p (.c _)))<|ag ?_
  refine az rfl (fun hb3=>?_) (fun hb3=>?_)
  ·have hb3_:=(bX hb3)
   refine ae hP<|aj rfl<|aj rfl<|ag<|am<|E11 rfl rfl rfl ?_
   exact aH (Kj hb1_ hg2_ hb3_)
  have hb3_:=(bU hb3)
  refine au<|ae hP<|ak rfl<|ak rfl<|aj rfl<|aj rfl<|ag<|am<|E11 rfl rfl rfl ?_
  exact aH (Ki hb1_ hg2_ hb3_)
 have hg2_:=bF hg2
 iterate 3 refine aX hg2 ?_
 refine ab (aK rfl hg2 (rfl:_=AV.p (.c _)))<|ag<|aQ rfl rfl<|au<|ae hP<|ak rfl<|ak rfl<|aj rfl<|aj rfl<|ag<|am<|E11 rfl rfl rfl ?_
 exact aH (Kh hb1_ hg2_)
theorem Hf (f:Fm) (d:Int) (hf:Cl d f) (hd:-4194304≤d) (hfa:L 6 f.a) (hfb:L 6 f.b) (hfc:L 6 f.c) :
  aJ Tryz.prog 75 [FA f.a f.b f.c] (.t [PE f.rd.a,PE f.rd.b,PE f.rd.c]):=by
 have ifa:LB f.a 6:=⟨hfa⟩
 have ifb:LB f.b 6:=⟨hfb⟩
 have ifc:LB f.c 6:=⟨hfc⟩
 have cR:aJ Tryz.prog 41 [FA f.a f.b f.c] (.t [PF f.rd,PM (rdM f.a f.b f.c),PE (rdE f.a f.b f.c)]):=jg f.a f.b f.c lz lz lz
 rw [jh hf.pos] at cR
 obtain ⟨⟨s1,s2⟩,⟨s3,s4⟩,s5,s6⟩:=oI hf.rd hf.rd_rd hd
 generalize rdM f.a f.b f.c=M at cR
 generalize f.rd=g at *
 have l1:=kb g.a (by omega) (by omega)
 have l2:=kb g.b (by omega) (by omega)
 have l3:=kb g.c (by omega) (by omega)
 refine aO Tryz.func75 rfl rfl rfl rfl ?_
 refine ae hP<|aq ai (aL rfl rfl)<|aj rfl<|aj rfl<|aj rfl<|ag<|ae hP<|br hT rfl rfl rfl rfl rfl rfl<|ab (ah cR) ?_
 refine ab (aB (rfl:_=AV.t _))<|ab (aE rfl (v:=.a _) rfl)<|ab (aE rfl (v:=.a _) rfl)<|ab (aE rfl (v:=.c _) rfl)<|aq ai (aC hT rfl rfl)<|aq ai (aC hT rfl rfl)<|aI hT rfl<|aI hT rfl<|aj rfl<|ag<|ae hP<|aG hT rfl<|av hT rfl<|ab (ah l1) ?_
 refine ab (aB (rfl:_=AV.t _))<|ab (aE rfl (v:=.c _) rfl)<|ab (aE rfl (v:=.c _) rfl)<|aj rfl<|ag<|ae hP<|aG hT rfl<|av hT rfl<|ab (ah l2) ?_
 refine ab (aB (rfl:_=AV.t _))<|ab (aE rfl (v:=.c _) rfl)<|ab (aE rfl (v:=.c _) rfl)<|aj rfl<|ag<|ae hP<|aG hT rfl<|av hT rfl<|ab (ah l3) ?_
 refine ab (aB (rfl:_=AV.t _))<|ab (aE rfl (v:=.c _) rfl)<|ab (aE rfl (v:=.c _) rfl)<|aj rfl<|ag<|ae hP<|ak rfl<|ak rfl<|ak rfl<|aj rfl<|aj rfl<|aj rfl<|ag<|am ?_
 refine cG rfl (.inr rfl) (bO rfl) (bO rfl) (bO rfl) ?_ bu
 exact .refl _
theorem Cy (f:Fm) (hfa:L 6 f.a) (hfb:L 6 f.b) (hfc:L 6 f.c) (hx:gpE f=0→∃ x y:Int,0≤x∧x≤1400000∧0≤y∧y≤1400000∧Int.gcd (vl f.rd.a f.rd.b f.rd.c x y) (2*dsc f.a f.b f.c)=1) :
  aJ Tryz.prog 19 [FA f.a f.b f.c] (.t [.c (IS (gvL f)),PE (gpE f)]):=by
 have ifa:LB f.a 6:=⟨hfa⟩
 have ifb:LB f.b 6:=⟨hfb⟩
 have ifc:LB f.c 6:=⟨hfc⟩
 have cP:=vD f hfa hfb hfc
 refine aO Tryz.func19 rfl rfl rfl rfl ?_
 refine ae hP<|aq ai (aL rfl rfl)<|aj rfl<|aj rfl<|ag<|ae hP<|br hT rfl rfl rfl rfl rfl rfl<|ab (ah cP) ?_
 refine ab (aB (rfl:_=AV.t _))<|ab (aE rfl (v:=.c _) rfl)<|ab (aE rfl (v:=.c _) rfl)<|aj rfl<|aj rfl<|ag<|ao<|ae hP<|ak rfl<|ab (bq rfl rfl)<|ag ?_
 refine az rfl (fun hb1=>?_) (fun hb1=>?_)
 ·have hb1_:=bY hb1
  refine ae hP<|ak rfl<|aj rfl<|aj rfl<|ag<|am<|E11 rfl rfl rfl ?_
  exact (by rw [Em hb1_];exact Sub.tup ⟨DSub.nil_sl,DSub.refl _,trivial⟩)
 have hb1_:=bS hb1
 have he:gpE f=0:=hb1_
 obtain ⟨hf,hE⟩:=uz he
 obtain ⟨hgn,hd0,hd1⟩:=pX hE
 have hxx:=hx he
 have eV:gpV f=dsc f.a f.b f.c:=by unfold gpV;rw [if_pos he]
 have cS:=Hf f _ hf hd1 hfa hfb hfc
 have cA0:=p5 _ hd0 hd1
 have hmap:=fun (N:Int) (h1:RpN f.rd N) (h2:Int.gcd N (2*dsc f.a f.b f.c)=1)=>ux hf hd1 hd0 hE h1 h2
 have hcb:=fun (c:Int) (h:c∈chs (dsc f.a f.b f.c))=>qa hd0 hd1 h
 have hcl:=ke hd0 hd1
 obtain ⟨⟨s1,s2⟩,⟨s3,s4⟩,s5,s6⟩:=oI hf.rd hf.rd_rd hd1
 have hg:=hf.rd
 rw [eV]
 generalize dsc f.a f.b f.c=d at *
 generalize f.rd=g at *
 have j2:bp (2*d):=by unfold bp;omega
 refine au<|ae hP<|br hT rfl rfl rfl rfl rfl rfl<|ab (ah cS) ?_
 refine ab (aB (rfl:_=AV.t _))<|ab (aE rfl (v:=.c _) rfl)<|ab (aE rfl (v:=.c _) rfl)<|ab (aE rfl (v:=.c _) rfl)<|aj rfl<|aj rfl<|aj rfl<|ag<|ae hP<|ak rfl<|aj rfl<|ag<|cy (ι:=Int) (fun N=>stL [(4,Z d),(9,Z N)] []) (fun N=>RpN g N∧(-9000000000000000000≤N∧N≤9000000000000000000)∧Int.gcd N (2*d)=1) ?_ ?_
 ·refine ae hP<|aj rfl<|ag<|aA<|bg (ι:=Int × Int) (fun q=>stL [(4,Z d),(6,Z g.a),(7,Z g.b),(8,Z g.c),(9,Z q.1),(10,Z q.2)] []) (fun q=>(RpN g q.1∧(-9000000000000000000≤q.1∧q.1≤9000000000000000000)∧(1≤q.2∧q.2≤1400001)∧(Int.gcd q.1 (2*d)=1∨NoP g d q.2))) (fun q=>(1400001 - q.2).toNat) (g.a,1) ⟨⟨1,0,by unfold vl;simp⟩,by simp only;omega,by simp only;omega,.inr (NoP.start hd0)⟩ (aD ⟨.refl _,.refl _,.refl _,.refl _,.refl _,.refl _,trivial⟩ trivial) ?_
  rintro q ⟨hq1,hq2,hq3,hq4⟩
  have jn:bp q.1:=by unfold bp;omega
  refine ao<|ae hP<|ak rfl<|ak rfl<|ab (bQ rfl rfl (by first | exact iW0 _ (by omega) | rfl)) ?_
  refine ab (ah (sK _ _ jn j2)) ?_
  refine ab (bq rfl rfl)<|ak rfl ?_
  refine aW (t:=35) rfl (fun hg2=>?_) (fun hg2=>?_)
  ·have hg2_:=bY hg2
   refine ay hg2 (aB (rfl:_=AV.p (.c _))) ?_
   refine ay hg2 (aB (rfl:_=AV.p (.c _))) ?_
   refine ay hg2 (bQ rfl rfl (by first | exact iW0 _ (by omega) | rfl)) ?_
   refine ay hg2 (ah (sK _ _ jn j2)) ?_
   refine ay hg2 (bq rfl rfl) ?_
   refine ab (aN rfl hg2 (rfl:_=AV.p (.c _)))<|ag ?_
   refine az rfl (fun hb3=>?_) (fun hb3=>?_)
   ·have hb3_:=bY hb3
    have hNP:NoP g d q.2:=hq4.resolve_left (fun e=>(gg_one.1 e).elim hg2_ hb3_)
    have hle:=hNP.le hxx
    refine au<|cy (ι:=Int) (fun m=>stL [(4,Z d),(6,Z g.a),(7,Z g.b),(8,Z g.c),(9,Z m),(10,Z q.2)] []) (fun m=>(RpN g m∧(-9000000000000000000≤m∧m≤9000000000000000000)∧(Int.gcd m (2*d)=1∨NoX g d q.2 (q.2+1)))) ?_ ?_
    ·refine aA<|ae hP<|aj rfl<|ag<|aA<|bg (ι:=Int × Int) (fun r=>stL [(4,Z d),(6,Z g.a),(7,Z g.b),(8,Z g.c),(9,Z r.2),(10,Z q.2),(11,Z r.1)] []) (fun r=>(0≤r.1∧r.1≤q.2+1)∧RpN g r.2∧(-9000000000000000000≤r.2∧r.2≤9000000000000000000)∧NoX g d q.2 r.1) (fun r=>(q.2+1 - r.1).toNat) (0,q.1) ⟨by simp only;omega,hq1,hq2,NoX.start⟩ (aD ⟨.refl _,.refl _,.refl _,.refl _,.refl _,.refl _,.refl _,trivial⟩ trivial) ?_
     rintro r ⟨hr1,hr2,hr3,hr4⟩
     refine ao<|ae hP<|ak rfl<|ak rfl<|ab (eX rfl rfl)<|ag ?_
     refine az rfl (fun hb4=>?_) (fun hb4=>?_)
     ·have hb4_:=dT0 hb4
      have hG:=gb (a:=g.a) (b:=g.b) (c:=g.c) (x:=r.1) (y:=q.2) (by omega) (by omega) (by omega) (by omega) (by omega)
      have hH:=gb (a:=g.a) (b:=g.b) (c:=g.c) (x:=q.2) (y:=r.1) (by omega) (by omega) (by omega) (by omega) (by omega)
      have ev1:g.a*r.1*r.1+g.b*r.1*q.2+g.c*q.2*q.2=(vl g.a g.b g.c r.1 q.2):=rfl
      have ev2:g.a*q.2*q.2+g.b*r.1*q.2+g.c*r.1*r.1=(vl g.a g.b g.c q.2 r.1):=K7 g.a g.b g.c r.1 q.2
      have jv1:bp (g.a*r.1*r.1+g.b*r.1*q.2+g.c*q.2*q.2):=by unfold bp;omega
      have jv2:bp (g.a*q.2*q.2+g.b*r.1*q.2+g.c*r.1*r.1):=by unfold bp;omega
      have hv1b:-9000000000000000000≤(vl g.a g.b g.c r.1 q.2)∧(vl g.a g.b g.c r.1 q.2)≤9000000000000000000:=by rw [← ev1];omega
      have hv2b:-9000000000000000000≤(vl g.a g.b g.c q.2 r.1)∧(vl g.a g.b g.c q.2 r.1)≤9000000000000000000:=by rw [← ev2];omega
      have hab1:=Km (n:=g.a*r.1*r.1+g.b*r.1*q.2+g.c*q.2*q.2) hd0 hd1
      have hab2:=Km (n:=g.a*q.2*q.2+g.b*r.1*q.2+g.c*r.1*r.1) hd0 hd1
      refine au<|ao<|aA<|ao<|ae hP<|ak rfl<|ak rfl<|ab (bQ rfl rfl (by first | exact iW0 _ (by omega) | rfl)) ?_
      refine ak rfl<|ab (bQ rfl rfl (by first | exact iW0 _ (by omega) | rfl)) ?_
      refine ak rfl<|ak rfl<|ab (bQ rfl rfl (by first | exact iW0 _ (by omega) | rfl)) ?_
      refine ak rfl<|ab (bQ rfl rfl (by first | exact iW0 _ (by omega) | rfl)) ?_
      refine bv rfl rfl ?_
      refine ak rfl<|ak rfl<|ab (bQ rfl rfl (by first | exact iW0 _ (by omega) | rfl)) ?_
      refine ak rfl<|ab (bQ rfl rfl (by first | exact iW0 _ (by omega) | rfl)) ?_
      refine bv rfl rfl ?_
      refine aj rfl<|ag<|ae hP<|ak rfl<|ak rfl<|ab (bQ rfl rfl (by first | exact iW0 _ (by omega) | rfl)) ?_
      refine ab (ah (sK _ _ jv1 j2)) ?_
      refine ab (ah (Ep _ hab1)) ?_
      refine ab (bh rfl rfl)<|ag ?_
      refine az rfl (fun hb5=>?_) (fun hb5=>?_)
      ·have hb5_:=bT hb5
       refine aZ ?_
       refine ⟨(vl g.a g.b g.c r.1 q.2),⟨⟨r.1,q.2,rfl⟩,hv1b,.inl (gg1 (n:=(vl g.a g.b g.c r.1 q.2)) hb5_)⟩,aD ⟨.refl _,.refl _,.refl _,.refl _,.refl _,.refl _,trivial⟩ trivial⟩
      have hb5_:=bF hb5
      refine au<|ae hP<|ak rfl<|ak rfl<|ab (bQ rfl rfl (by first | exact iW0 _ (by omega) | rfl)) ?_
      refine ak rfl<|ab (bQ rfl rfl (by first | exact iW0 _ (by omega) | rfl)) ?_
      refine ak rfl<|ak rfl<|ab (bQ rfl rfl (by first | exact iW0 _ (by omega) | rfl)) ?_
      refine ak rfl<|ab (bQ rfl rfl (by first | exact iW0 _ (by omega) | rfl)) ?_
      refine bv rfl rfl ?_
      refine ak rfl<|ak rfl<|ab (bQ rfl rfl (by first | exact iW0 _ (by omega) | rfl)) ?_
      refine ak rfl<|ab (bQ rfl rfl (by first | exact iW0 _ (by omega) | rfl)) ?_
      refine bv rfl rfl ?_
      refine aj rfl<|ag<|ae hP<|ak rfl<|ak rfl<|ab (bQ rfl rfl (by first | exact iW0 _ (by omega) | rfl)) ?_
      refine ab (ah (sK _ _ jv2 j2)) ?_
      refine ab (ah (Ep _ hab2)) ?_
      refine ab (bh rfl rfl)<|ag ?_
      refine az rfl (fun hb6=>?_) (fun hb6=>?_)
      ·have hb6_:=bT hb6
       refine aZ ?_
       refine ⟨(vl g.a g.b g.c q.2 r.1),⟨⟨q.2,r.1,rfl⟩,hv2b,.inl (by rw [← ev2];exact gg1 hb6_)⟩,aD ⟨.refl _,.refl _,.refl _,.refl _,aM ev2,.refl _,trivial⟩ trivial⟩
      have hb6_:=bF hb6
      refine au<|aw hP<|ak rfl<|bv rfl rfl ?_
      refine aj rfl<|ag ?_
      refine ⟨(r.1+1,(vl g.a g.b g.c q.2 r.1)),⟨by simp only;omega,⟨q.2,r.1,rfl⟩,hv2b,hr4.next (Kn (n:=(vl g.a g.b g.c r.1 q.2)) hb5_) (by rw [← ev2];exact Kn hb6_)⟩,by simp only;omega,aD ⟨.refl _,.refl _,.refl _,.refl _,aM ev2,.refl _,.refl _,trivial⟩ trivial⟩
     have hb4_:=dF0 hb4
     refine aZ ?_
     refine ⟨r.2,⟨hr2,hr3,.inr ((show r.1=q.2+1 by omega) ▸ hr4)⟩,aD ⟨.refl _,.refl _,.refl _,.refl _,.refl _,.refl _,trivial⟩ trivial⟩
    rintro m ⟨hm1,hm2,hm3⟩
    refine aw hP<|ak rfl<|bv rfl rfl ?_
    refine aj rfl<|ag ?_
    refine ⟨(m,q.2+1),⟨hm1,hm2,by simp only;omega,hm3.imp id (fun h=>hNP.next h)⟩,by simp only;omega,aD ⟨.refl _,.refl _,.refl _,.refl _,.refl _,.refl _,trivial⟩ trivial⟩
   have hb3_:=bS hb3
   refine aZ ?_
   refine ⟨q.1,⟨hq1,hq2,gg_one.2 (.inr hb3_)⟩,aD ⟨.refl _,.refl _,trivial⟩ trivial⟩
  have hg2_:=bS hg2
  iterate 5 refine aX hg2 ?_
  refine ab (aK rfl hg2 (rfl:_=AV.p (.c _)))<|ag<|aQ rfl rfl<|aZ ?_
  refine ⟨q.1,⟨hq1,hq2,gg_one.2 (.inl hg2_)⟩,aD ⟨.refl _,.refl _,trivial⟩ trivial⟩
 rintro N ⟨hN1,hN2,hN3⟩
 have hN0:=DX hg hN1 hd0
 have jN:bp N:=by unfold bp;omega
 have hfin:=hmap N hN1 hN3
 have cAs:=cA0
 generalize chs d=l at cAs hcl hcb hfin
 refine ae hP<|aj rfl<|ag<|pd 12 1000 1 3 rfl rfl ?_
 refine ao<|ae hP<|ak rfl<|ab (ah cAs) ?_
 refine ab (aU hT rfl rfl rfl (by rfl)) ?_
 refine ak rfl<|ag<|aA<|bg (ι:=Nat) (fun k=>stL [(9,Z N),(12,.vec 1000),(96,.p (.c (CS 186 187 l))),(97,Z (l.length:Int)),(98,Z (k:Int))] [(1000,IB 3 ((l.take k).map fun c=>cv c N))]) (fun k=>k≤l.length) (fun k=>l.length - k) 0 (Nat.zero_le _) (aD ⟨.refl _,.refl _,.refl _,.refl _,.refl _,trivial⟩ ⟨rfl,trivial⟩) ?_
 intro k hk
 refine ae hP<|ab (bi rfl rfl)<|ag<|ao ?_
 refine az rfl (fun hb7=>?_) (fun hb7=>?_)
 ·have hb7_:=dT0 hb7
  have hmm:=hcb _ (jK hb7_)
  have jc:bp (l.getD k 0):=by unfold bp;omega
  refine au<|ao<|aA<|ae hP<|ab (rM (fo:=186) (fs:=187) (n:=(k:Int)) hT rfl rfl rfl rfl rfl rfl (by omega)) ?_
  refine ab (bf hT rfl rfl rfl (cs:=chC 186 187 (l.getD k 0)) rfl rfl) ?_
  refine aq ai (aC hT rfl rfl)<|aI hT rfl<|ag<|aw hP<|ab (aB (rfl:_=AV.vec _))<|aG hT rfl<|a8 hT rfl rfl rfl rfl ?_
  refine ak rfl<|ab (Eff.callCh rfl rfl (yq N _ hN0 (by unfold spR;split <;> (try split) <;> decide)) (Kp N (l.getD k 0) jN jc)) ?_
  refine ab (bd hT rfl rfl rfl (es:=[_]) rfl rfl rfl)<|RK.app ai (dJ (z:=cv (l.getD k 0) N) hT rfl rfl rfl rfl rfl rfl rfl rfl (by rw [List.length_map,List.length_take];omega) (by decide)) ?_
  refine ab (a7 (rfl:_=AV.vec _))<|ag<|cr 108 1000 rfl rfl rfl ?_
  refine aw hP<|bv rfl rfl ?_
  refine ak rfl<|ag ?_
  refine ⟨k+1,by omega,by omega,aD ⟨.refl _,.refl _,.refl _,.refl _,aM (by omega),trivial⟩ ⟨Eq.trans rfl (congrArg (fun x=>some (IB 3 x)) (ug hb7_)),trivial⟩⟩
 have hb7_:=dF0 hb7
 refine aZ<|gK (t:=12) rfl rfl ?_
 refine ae hP<|ak rfl<|aj rfl<|aj rfl<|ag<|am<|E11 rfl rfl rfl ?_
 exact aH (by rw [oD hb7_,hfin,he])
end
section
open Go Go.AM
end
section
open Go Go.AM
theorem vy (gf:FuncId) (caps:List (List DV)) (l:List Pr2) (hit:Iter2 Tryz.prog gf caps (l.map fun p=>[PA p])) (hl:l.length≤1000000) :
  CallV Tryz.prog 194 [.p (.c (.v (.slice none 0 0))),.fn gf caps] (VB 4 93 enP l):=by
 refine oZ Tryz.func194 (by kernel_rfl) rfl rfl (bL0 rfl) ?_
 refine ae hP<|aq ai (aL rfl rfl)<|aj rfl<|ag<|ao<|ae hP<|ab (aB (rfl:_=AV.fn _ _))<|ag<|aA<|mr 2 1000 4 93 rfl rfl rfl rfl ?_
 refine dq (t:=stL [(2,.loc 2 0),(6,.fn gf caps)] [(2,⟨false,1002,65,[.sl ((l.take 0)).length []]⟩),(1000,VB 4 93 enP ((l.take 0)))]) (aD ⟨.refl _,.refl _,trivial⟩ ⟨rfl,rfl,trivial⟩) ?_
 refine fC 3 (fun k=>cU [(2,⟨false,1002,65,[.sl ((l.take k)).length []]⟩),(1000,VB 4 93 enP ((l.take k)))]) (fun _=>True) rfl hit Gn rfl rfl rfl trivial (fun k x hx _=>?_) (fun _=>?_)
 ·obtain ⟨p,hp,rfl⟩:=JA hx
  refine aw hP<|aq ai (aC hT rfl rfl)<|aI hT rfl<|ag<|aA<|aw hP<|ab (hZ hT rfl rfl rfl rfl rfl)<|ab (aF hT rfl rfl rfl rfl (cs:=[_,_,_,_]) rfl rfl)<|ab (bd hT rfl rfl rfl (es:=[_,_,_,_]) rfl rfl rfl)<|RK.app ai (jY (encD:=enP) hT jt (by decide) rfl rfl rfl rfl rfl rfl rfl (b:=p) rfl (by rw [List.length_take];omega) (by decide) (by decide)) ?_
  refine du ai (l6 hT rfl rfl rfl rfl rfl rfl rfl (dC jt _).symm (Nat.zero_lt_succ 3)) ?_
  refine ag ?_
  refine ⟨GW.rnL 2 11 1000 (l.take k ++ [p]).length rfl rfl rfl (dC jt _).symm (Nat.zero_lt_succ 3) rfl rfl rfl rfl ?_,trivial⟩
  show ∀ m,cU _ m=_∨cU _ m=none
  rw [eE hp]
  exact SubO.own ⟨rfl,rfl,trivial⟩
 refine ae hP<|ab (hZ hT rfl rfl rfl rfl rfl)<|ab (a7 (rfl:_=AV.vec _))<|ag<|am ?_
 refine ⟨.inr rfl,_,_,rfl,rfl,?_⟩
 exact congrArg (fun x=>some (VB 4 93 enP x)) (List.take_of_length_le (by rw [List.length_map];exact Nat.le_refl _))
theorem zE (gf:FuncId) (caps:List (List DV)) (l:List Pr2) (hit:Iter2 Tryz.prog gf caps (l.map fun p=>[PA p])) (hl:l.length≤1000000) :
  CallV Tryz.prog 151 [.fn gf caps] (VB 4 93 enP l):=by
 refine oZ Tryz.func151 (by kernel_rfl) rfl rfl (bL0 rfl) ?_
 refine ae hP<|aj rfl<|ag<|ae hP<|ab (aB (rfl:_=AV.fn _ _))<|aq ai (Eff.callV (vy gf caps l hit hl)) ?_
 refine ab (a7 (rfl:_=AV.vec _))<|ag<|am ?_
 refine ⟨.inr rfl,_,_,rfl,rfl,?_⟩
 exact rfl
def y8:Go.Shelf.Ren:=⟨fun | 6=>152 | 15=>196 | 14=>195 | 28=>233 | 29=>234 | 20=>225 | 21=>226 | 22=>227 | 23=>228 | 24=>229 | 25=>230 | 26=>231 | 27=>232 | 46=>249 | 47=>250 | 48=>251 | 49=>252 | 50=>253 | 57=>257 | n=>n,fun | 22=>65 | 24=>93 | 25=>148 | 3=>3 | 39=>106 | 0=>0 | 53=>105 | 55=>103 | 4=>4 | 46=>250 | 45=>249 | 50=>254 | 5=>5 | 9=>9 | 66=>262 | 70=>266 | 76=>273 | 77=>274 | n=>n,fun | n=>n⟩
theorem Lk:Go.Proofs.SlLaysF0.n6 Tryz.prog y8:={
 mixed:=by kernel_rfl
 f6:=⟨Tryz.f152.name,by decide,Tryz.func152.trans (congrArg some (by kernel_rfl))⟩
 f14:=⟨Tryz.f195.name,by decide,Tryz.func195.trans (congrArg some (by kernel_rfl))⟩
 f15:=Tryz.func196.trans (congrArg some (by kernel_rfl))
 f20:=⟨Tryz.f225.name,by decide,Tryz.func225.trans (congrArg some (by kernel_rfl))⟩
 f21:=⟨Tryz.f226.name,by decide,Tryz.func226.trans (congrArg some (by kernel_rfl))⟩
 f22:=⟨Tryz.f227.name,by decide,Tryz.func227.trans (congrArg some (by kernel_rfl))⟩
 f23:=⟨Tryz.f228.name,by decide,Tryz.func228.trans (congrArg some (by kernel_rfl))⟩
 f24:=⟨Tryz.f229.name,by decide,Tryz.func229.trans (congrArg some (by kernel_rfl))⟩
 f25:=⟨Tryz.f230.name,by decide,Tryz.func230.trans (congrArg some (by kernel_rfl))⟩
 f26:=⟨Tryz.f231.name,by decide,Tryz.func231.trans (congrArg some (by kernel_rfl))⟩
 f27:=⟨Tryz.f232.name,by decide,Tryz.func232.trans (congrArg some (by kernel_rfl))⟩
 f28:=Tryz.func233.trans (congrArg some (by kernel_rfl))
 f29:=Tryz.func234.trans (congrArg some (by kernel_rfl))
 f46:=⟨Tryz.f249.name,by decide,Tryz.func249.trans (congrArg some (by kernel_rfl))⟩
 f47:=Tryz.func250.trans (congrArg some (by kernel_rfl))
 f48:=Tryz.func251.trans (congrArg some (by kernel_rfl))
 f49:=⟨Tryz.f252.name,by decide,Tryz.func252.trans (congrArg some (by kernel_rfl))⟩
 f50:=⟨Tryz.f253.name,by decide,Tryz.func253.trans (congrArg some (by kernel_rfl))⟩
 f57:=⟨Tryz.f257.name,by decide,Tryz.func257.trans (congrArg some (by kernel_rfl))⟩
 t0:=Tryz.underlying0
 a0:=Tryz.isAgg0
 z0:=Tryz.sizeOf0
 v0:=Tryz.zeroValue0
 t3:=Tryz.underlying3
 a3:=Tryz.isAgg3
 z3:=Tryz.sizeOf3
 v3:=Tryz.zeroValue3
 t4:=Tryz.underlying4
 a4:=Tryz.isAgg4
 z4:=Tryz.sizeOf4
 v4:=Tryz.zeroValue4
 t5:=Tryz.underlying5
 a5:=Tryz.isAgg5
 z5:=Tryz.sizeOf5
 v5:=Tryz.zeroValue5
 t9:=Tryz.underlying9
 a9:=Tryz.isAgg9
 z9:=Tryz.sizeOf9
 v9:=Tryz.zeroValue9
 t22:=Tryz.underlying65
 a22:=Tryz.isAgg65
 z22:=Tryz.sizeOf65
 v22:=Tryz.zeroValue65
 t25:=Tryz.underlying148
 a25:=Tryz.isAgg148
 z25:=Tryz.sizeOf148
 v25:=Tryz.zeroValue148
 t39:=Tryz.underlying106
 a39:=Tryz.isAgg106
 z39:=Tryz.sizeOf106
 v39:=Tryz.zeroValue106
 t45:=Tryz.underlying249
 a45:=Tryz.isAgg249
 z45:=Tryz.sizeOf249
 v45:=Tryz.zeroValue249
 t46:=Tryz.underlying250
 a46:=Tryz.isAgg250
 z46:=Tryz.sizeOf250
 v46:=Tryz.zeroValue250
 t50:=Tryz.underlying254
 a50:=Tryz.isAgg254
 z50:=Tryz.sizeOf254
 v50:=Tryz.zeroValue254
 t53:=Tryz.underlying105
 a53:=Tryz.isAgg105
 z53:=Tryz.sizeOf105
 v53:=Tryz.zeroValue105
 t55:=Tryz.underlying103
 a55:=Tryz.isAgg103
 z55:=Tryz.sizeOf103
 v55:=Tryz.zeroValue103
 t66:=Tryz.underlying262
 a66:=Tryz.isAgg262
 z66:=Tryz.sizeOf262
 v66:=Tryz.zeroValue262
 t70:=Tryz.underlying266
 a70:=Tryz.isAgg266
 z70:=Tryz.sizeOf266
 v70:=Tryz.zeroValue266
 t76:=Tryz.underlying273
 a76:=Tryz.isAgg273
 z76:=Tryz.sizeOf273
 v76:=Tryz.zeroValue273
 t77:=Tryz.underlying274
 a77:=Tryz.isAgg274
 z77:=Tryz.sizeOf274
 v77:=Tryz.zeroValue274 }
theorem JG (m:Nat) (l l':List Pr2) (hp:l'.Perm l) (hs:o7 l') :
  CallM Tryz.prog 152 [.vec m,.p (.c (.v (.func (.func 90) #[] #[])))] (upd O m (some (VB 4 93 enP l))) (.t []) (upd O m (some (VB 4 93 enP l'))) :=
 xo Lk hT (j:=A5) rfl rfl rfl (by decide) jt cmP Hz (fun x y=>zD x y) hp (FD hs) (fun _ _ _ _ h1 h2=>CW h1 h2)
theorem tQ (gf:FuncId) (caps:List (List DV)) (l:List Pr2) (hit:Iter2 Tryz.prog gf caps (l.map fun p=>[PA p])) (hl:l.length≤1000000) (l':List Pr2) (hp:l'.Perm l) (hs:o7 l') :
  aJ Tryz.prog 89 [.fn gf caps,.p (.c (.v (.func (.func 90) #[] #[])))] (.p (.c (SL enP l'))):=by
 refine aO Tryz.func89 rfl rfl rfl rfl ?_
 refine ae hP<|aj rfl<|ag<|ae hP<|ab (aB (rfl:_=AV.fn _ _))<|aq ai (Eff.callV (zE gf caps l hit hl)) ?_
 refine ab (a7 (rfl:_=AV.vec _))<|ag<|ae hP<|ab (aB (rfl:_=AV.vec _))<|ak rfl<|RK.mut ai (Eff.call (rd:=[7]) (JG 7 l l' hp hs) (kR rfl) iW) ?_
 refine ag<|fi (encD:=enP) jt rfl (t:=5) rfl rfl ?_
 refine ae hP<|ak rfl<|aj rfl<|ag<|am<|E1 rfl rfl ?_
 exact .refl _
theorem mN (f:Fm) (m:Int) (hfa:L 6 f.a) (hfb:L 6 f.b) (hfc:L 6 f.c) :
  aJ Tryz.prog 65 [FA f.a f.b f.c,Z m] (Z (alE f m)):=by
 have fa:LB f.a 6:=⟨hfa⟩
 have fb:LB f.b 6:=⟨hfb⟩
 have fc:LB f.c 6:=⟨hfc⟩
 refine aO Tryz.func65 rfl rfl rfl rfl ?_
 refine ae hP<|aq ai (aL rfl rfl)<|aj rfl<|ag<|ao<|ae hP<|br hT rfl rfl rfl rfl rfl rfl<|ab (a6 hT rfl rfl rfl (es:=[_,_]) rfl)<|ab (ah (Ap f hfa hfb hfc)) ?_
 refine ab (aB (rfl:_=AV.t _))<|ab (aE rfl (v:=.a _) rfl)<|ab (aE rfl (v:=.c _) rfl)<|aq ai (aC hT rfl rfl)<|aI hT rfl<|aj rfl<|ag<|ae hP<|ak rfl<|ab (bq rfl rfl)<|ag ?_
 refine az rfl (fun hb1=>?_) (fun hb1=>?_)
 ·have hb1_:=bY hb1
  refine ae hP<|ak rfl<|aj rfl<|ag<|am<|E1 rfl rfl ?_
  exact aM (MM hb1_)
 have hb1_:=bS hb1
 refine au<|ae hP<|ak rfl<|ab (ah (tM _)) ?_
 refine aj rfl<|ag<|am<|E1 rfl rfl ?_
 exact aM (Ez hb1_)
theorem wz (f:Fm) (m:Int) :
  aJ Tryz.prog 66 [FA f.a f.b f.c,Z m] (.fn 132 [[zn f.a,zm f.a,zn f.b,zm f.b,zn f.c,zm f.c],[.v (.int .i64 m)]]):=by
 refine mp Tryz.func66 (by kernel_rfl) rfl rfl (bL0 rfl) rfl ?_
 refine ae hP<|aq ai (aL rfl rfl)<|aq ai (aL rfl rfl)<|aj rfl<|ag<|cT (t:=2) rfl rfl ?_
 refine cT (t:=3) rfl rfl ?_
 refine ae hP<|ab (ku rfl rfl)<|ab (a7 (rfl:_=AV.fn _ _))<|ag<|am ?_
 exact ⟨.inr rfl,4,rfl,rfl⟩
theorem L4 (f:Fm) (D:Int) (m:Nat) (hfa:L 6 f.a) (hfb:L 6 f.b) (hfc:L 6 f.c) (hf:Cl D f) (hD:-4194304≤D∧D < 0) (hm:1≤m∧m≤65536) :
  aJ Tryz.prog 26 [FA f.a f.b f.c,Z (m:Int)] (.t [.c (SL enP (prS D m f)),PE 0]):=by
 have fa:LB f.a 6:=⟨hfa⟩
 have fb:LB f.b 6:=⟨hfb⟩
 have fc:LB f.c 6:=⟨hfc⟩
 have hdf:dsc f.a f.b f.c=D:=hf.disc
 have h0m:0 < (m:Int):=by omega
 have cRf:aJ Tryz.prog 65 [FA f.a f.b f.c,Z (m:Int)] (Z 0):=by
  have h:=mN f m hfa hfb hfc
  rwa [yH hf hm] at h
 refine aO Tryz.func26 rfl rfl rfl rfl ?_
 refine ae hP<|aq ai (aL rfl rfl)<|aj rfl<|aj rfl<|ag<|ao<|ae hP<|br hT rfl rfl rfl rfl rfl rfl<|ak rfl<|ab (ah cRf) ?_
 refine aj rfl<|ag<|ae hP<|ak rfl<|ab (bq rfl rfl)<|ag<|aQ rfl rfl<|au<|ae hP<|br hT rfl rfl rfl rfl rfl rfl<|ak rfl<|ab (ah (wz f m)) ?_
 refine ab (ah (tQ _ _ (prL D m f) (tO f D m hfa hfb hfc hdf hD hm) (Jy hm) (prS D m f) (te _) (Gp hf h0m))) ?_
 refine aj rfl<|aj rfl<|ag<|am<|E11 rfl rfl rfl ?_
 exact .refl _
theorem Gv (D:Int) (m:Nat) (hD:-4194304≤D∧D < 0) (h4:D % 4=0∨D % 4=1) (hm:1≤m∧m≤65536) :
  aJ Tryz.prog 13 [I D,Z (m:Int)] (.t [.c (SL enI (rbL D (m:Int))),PE 0]):=by
 have iD:LB D 6:=⟨by unfold L;omega⟩
 have cPr:aJ Tryz.prog 54 [I D] (.t [PF (prF D),PE 0]):=by
  have h:=om D lz
  rwa [L1 hD.2 h4] at h
 have cRg:aJ Tryz.prog 55 [Z (m:Int)] (Z 0):=by
  have h:=tM m
  rwa [xA (by omega) (by omega)] at h
 refine aO Tryz.func13 rfl rfl rfl rfl ?_
 refine ae hP<|aq ai (aL rfl rfl)<|aj rfl<|aj rfl<|ag<|ao<|ae hP<|av hT rfl<|ab (ah cPr) ?_
 refine ab (aB (rfl:_=AV.t _))<|ab (aE rfl (v:=.a _) rfl)<|ab (aE rfl (v:=.c _) rfl)<|aq ai (aC hT rfl rfl)<|aI hT rfl<|aj rfl<|ag<|ae hP<|ak rfl<|ab (bq rfl rfl)<|ak rfl<|ay rfl (aP hT rfl rfl rfl rfl rfl rfl) ?_
 refine ay rfl (bC hT rfl rfl rfl rfl (by first | rfl | exact dw (by omega))) ?_
 refine ay rfl (bt rfl) ?_
 refine ab (aK rfl rfl (rfl:_=AV.p (.c _)))<|ag<|aQ rfl (by simpa using hD.2) ?_
 refine au<|ao<|ae hP<|ak rfl<|ab (ah cRg) ?_
 refine aj rfl<|ag<|ae hP<|ak rfl<|ab (bq rfl rfl)<|ag<|aQ rfl rfl<|au<|ae hP<|av hT rfl<|ak rfl<|ab (ah (tP D m hD hm)) ?_
 refine aj rfl<|aj rfl<|ag<|am<|E11 rfl rfl rfl ?_
 exact .refl _
theorem tN (n:Nat) (hn:1≤n∧n≤65536) :
  Iter3 Tryz.prog 135 (⟨false,1,3,[.v (.int .i64 ((n:Nat):Int))]⟩) ((parts n).map fun (q:Nat)=>[PE (q:Int)]):=by
 generalize hxs:((parts n).map fun (q:Nat)=>([PE (q:Int)]:List PV))=xs
 refine Co Tryz.func135 (by kernel_rfl) rfl rfl (bL0 rfl) rfl rfl ?_
 intro l n0 J hK
 refine yQ hK.toKeepsB ?_
 refine bM ?_
 refine bw hP ?_
 refine aj rfl<|ag<|eL ?_
 refine lL (ι:=Nat × Nat × Nat) (fun i=>stL [(0,.p (.c (.v (.func (.yield l) #[] #[])))),(1,.loc 1 0),(3,Z ((i.2.1:Nat):Int))] [(1,⟨false,1,3,[.v (.int .i64 ((i.1:Nat):Int))]⟩)]) (fun i=>i.2.2) (fun i=>PaI n i.1 i.2.1 i.2.2) (fun i=>n+2 - i.2.1) (n,2,0) (PaI.start (by omega)) rfl (aD ⟨.refl _,.refl _,.refl _,trivial⟩ ⟨rfl,trivial⟩) ?_
 intro i hI
 have h2p:=hI.two
 have hmn:=hI.le
 have hm0:=hI.pos
 refine bM ?_
 refine bM ?_
 refine bw hP ?_
 refine a8 hT rfl rfl rfl rfl ?_
 refine ab (bK rfl rfl)<|ag ?_
 refine ez rfl (fun hb1=>?_) (fun hb1=>?_)
 ·have hb1_:=dT0 hb1
  have hm1:1 < i.1:=by omega
  have hpm:=hI.ple hm1
  refine dR ?_
  refine bM ?_
  refine eL ?_
  refine bM ?_
  refine bw hP ?_
  refine aj rfl<|ag<|bM ?_
  refine eL ?_
  refine lL (ι:=Nat × Nat) (fun q=>stL [(0,.p (.c (.v (.func (.yield l) #[] #[])))),(1,.loc 1 0),(3,Z ((i.2.1:Nat):Int)),(4,Z ((q.2:Nat):Int))] [(1,⟨false,1,3,[.v (.int .i64 ((q.1:Nat):Int))]⟩)]) (fun _=>i.2.2) (fun q=>PtI i.2.1 i.1 q.1 q.2) (fun q=>q.1) (i.1,1) (PtI.start hm0) rfl (aD ⟨.refl _,.refl _,.refl _,.refl _,trivial⟩ ⟨rfl,trivial⟩) ?_
  intro q hq
  obtain ⟨b1,b2,b3,b4⟩:=hq.b
  refine bM ?_
  refine bM ?_
  refine bw hP ?_
  refine a8 hT rfl rfl rfl rfl ?_
  refine ak rfl<|ab (bJ rfl rfl (by omega) (c:=((q.1 % i.2.1:Nat):Int)) I7) ?_
  refine ab (bh rfl rfl)<|ag ?_
  refine ez rfl (fun hb2=>?_) (fun hb2=>?_)
  ·have hb2_:=bT hb2
   have hnx:=hq.next h2p (by omega)
   have hqp:q.2*i.2.1≤1000000000:=by have:=hnx.2.2;omega
   refine dR ?_
   refine eL ?_
   refine bw hP ?_
   refine a8 hT rfl rfl rfl rfl ?_
   refine ak rfl<|ab (cO rfl rfl (by omega) (c:=((q.1 / i.2.1:Nat):Int)) (Jr (by omega) (by omega))) ?_
   refine ak rfl<|ak rfl<|ab (bQ rfl rfl (c:=((q.2*i.2.1:Nat):Int)) (Cd hqp)) ?_
   refine aI hT rfl<|aj rfl<|ag ?_
   refine ⟨(q.1 / i.2.1,q.2*i.2.1),hnx.1,hnx.2.1,rfl,aD ⟨.refl _,.refl _,.refl _,.refl _,trivial⟩ ⟨rfl,trivial⟩⟩
  have hb2_:=bF hb2
  have hpt:=hq.done (by omega)
  refine jy ?_
  refine bM ?_
  refine ms ?_
  refine RY.val ai (aB (rfl:_=AV.p (.c _))) ?_
  refine RY.val ai (bK rfl rfl) ?_
  refine RY.val ai (aB (rfl:_=AV.p (.c _))) ?_
  refine RY.split (t:=21) rfl (fun hg3=>?_) (fun hg3=>?_)
  ·have hg3_:=dT0 hg3
   have hq1:1 < (ptN i.2.1 i.1).2:=by have:=dT0 hg3;have:=hpt.2;omega
   have hgt:xs[i.2.2]?=some [PE ((q.2:Nat):Int)]:=by rw [← hxs,List.getElem?_map,(hI.yes hm1 hq1).1,hpt.2];rfl
   refine RY.val (bj rfl rfl hg3) (aB (rfl:_=AV.p (.c _))) ?_
   refine RY.val (bj rfl rfl hg3) (aB (rfl:_=AV.p (.c _))) ?_
   refine RY.yield hK (bj rfl rfl hg3) rfl rfl hgt ?_
   intro bb
   refine RY.val (bj rfl rfl hg3) (bt rfl) ?_
   refine RY.val ai (aN rfl hg3 (rfl:_=AV.p (.c _))) ?_
   refine RY.done ?_
   refine ez rfl (fun hb4=>?_) (fun hb4=>?_)
   ·have hb4_:=(bX hb4)
    refine nu ?_
    refine ⟨.inr rfl,?_⟩
    exact x8 (bX hb4)
   have hb4_:=(bU hb4)
   refine dR ?_
   refine bw hP ?_
   refine ak rfl<|bv rfl rfl ?_
   refine aj rfl<|ag ?_
   refine ⟨((ptN i.2.1 i.1).1,i.2.1+1,i.2.2+1),(hI.yes hm1 hq1).2,(by show n+2 - (i.2.1+1) < n+2 - i.2.1;omega),(x7 (bU hb4)).symm,aD ⟨.refl _,.refl _,aM (by show ((i.2.1:Nat):Int)+1=((i.2.1+1:Nat):Int);omega),trivial⟩ ⟨Eq.trans rfl (congrArg (fun x:Nat=>some (⟨false,1,3,[.v (.int .i64 (x:Int))]⟩:Blk)) hpt.1),trivial⟩⟩
  have hg3_:=dF0 hg3
  have hq1:¬ 1 < (ptN i.2.1 i.1).2:=by have:=dF0 hg3;have:=hpt.2;omega
  iterate 4 refine RY.skip (ga rfl rfl hg3) ?_
  refine RY.val ai (aK rfl hg3 (rfl:_=AV.p (.c _))) ?_
  refine RY.done ?_
  refine jS rfl rfl ?_
  refine dR ?_
  refine bw hP ?_
  refine ak rfl<|bv rfl rfl ?_
  refine aj rfl<|ag ?_
  refine ⟨((ptN i.2.1 i.1).1,i.2.1+1,i.2.2),hI.no hm1 hq1,(by show n+2 - (i.2.1+1) < n+2 - i.2.1;omega),rfl,aD ⟨.refl _,.refl _,aM (by show ((i.2.1:Nat):Int)+1=((i.2.1+1:Nat):Int);omega),trivial⟩ ⟨Eq.trans rfl (congrArg (fun x:Nat=>some (⟨false,1,3,[.v (.int .i64 (x:Int))]⟩:Blk)) hpt.1),trivial⟩⟩
 have hb1_:=dF0 hb1
 have hdn:=hI.done (by omega)
 refine jy ?_
 refine ⟨.inl rfl,?_⟩
 rw [← hxs,List.length_map,hdn]
 exact Nat.le_refl _
theorem ww (m:Nat) :
  CallG Tryz.prog 68 [Z (m:Int)] 135 (⟨false,1,3,[.v (.int .i64 ((m:Nat):Int))]⟩):=by
 refine CZ Tryz.func68 (by kernel_rfl) rfl rfl (bL0 rfl) ?_
 refine ae hP<|aq ai (aL rfl rfl)<|aj rfl<|ag<|ae hP<|ab (tW rfl)<|ab (a7 (rfl:_=AV.fnl _ _))<|ag<|am ?_
 exact ⟨.inr rfl,2,1,rfl,rfl,rfl⟩
theorem Ni (c x:Int) (hc:L 5 c) (hx:1≤x∧x≤65536) :
  aJ Tryz.prog 140 [Z c,Z x] (Z (atV c x)):=by
 have ic:LB c 6:=⟨hc.mono (by decide)⟩
 have ix:LB x 6:=⟨by unfold L;omega⟩
 have jc:bp c:=by unfold L at hc;unfold bp;omega
 refine aO Tryz.func140 rfl rfl rfl rfl ?_
 refine ae hP<|aj rfl<|ag<|ao<|ae hP<|ak rfl<|ag<|aA<|ae hP<|ab (bh rfl rfl)<|aj rfl<|ag ?_
 refine az rfl (fun hb1=>?_) (fun hb1=>?_)
 ·have hb1_:=bT hb1
  refine ae hP<|ak rfl<|ab (bJ rfl rfl (by omega) (c:=x % 4) (Int.tmod_eq_emod_of_nonneg (by omega))) ?_
  refine ab (bD rfl rfl (by first | exact iW0 _ (by omega) | rfl)) ?_
  refine aj rfl<|ag<|am<|E1 rfl rfl ?_
  exact aM (MK hb1_)
 have hb1_:=bF hb1
 refine ae hP<|ab (bh rfl rfl)<|aj rfl<|ag ?_
 refine az rfl (fun hb2=>?_) (fun hb2=>?_)
 ·have hb2_:=bT hb2
  refine ae hP<|ab (ah (fe 2 (by decide))) ?_
  refine ak rfl<|ab (ah (fe x (by unfold bp;omega))) ?_
  refine ab (ah (jA _ _ lz lz)) ?_
  refine aj rfl<|ag<|am<|E1 rfl rfl ?_
  exact aM (MJ hb2_)
 have hb2_:=bF hb2
 refine ae hP<|ab (bh rfl rfl)<|aj rfl<|ag ?_
 refine az rfl (fun hb3=>?_) (fun hb3=>?_)
 ·have hb3_:=bT hb3
  refine ae hP<|ab (ah (fe (-2) (by decide))) ?_
  refine ak rfl<|ab (ah (fe x (by unfold bp;omega))) ?_
  refine ab (ah (jA _ _ lz lz)) ?_
  refine aj rfl<|ag<|am<|E1 rfl rfl ?_
  exact aM (MI hb3_)
 have hb3_:=bF hb3
 refine au<|ae hP<|ak rfl<|ab (ah (fe x (by unfold bp;omega))) ?_
 refine ak rfl<|ab (ah (fe c jc)) ?_
 refine ab (ah (jA _ _ lz lz)) ?_
 refine aj rfl<|ag<|am<|E1 rfl rfl ?_
 exact aM (MH hb1_ hb2_ hb3_)
theorem pQ (f:Fm) (D:Int) (m:Nat) (hfa:L 6 f.a) (hfb:L 6 f.b) (hfc:L 6 f.c) (hf:Cl D f) (hD:-4194304≤D∧D < 0) (hm:1≤m∧m≤65536) (hE:szE D=0) :
  Iter2 Tryz.prog 137 [[zn f.a,zm f.a,zn f.b,zm f.b,zn f.c,zm f.c],[.v (.int .i64 (m:Int))]] ((agL D m f).map fun c=>[PE c]):=by
 have fa:LB f.a 6:=⟨hfa⟩
 have fb:LB f.b 6:=⟨hfb⟩
 have fc:LB f.c 6:=⟨hfc⟩
 have iD:LB D 6:=⟨by unfold L;omega⟩
 have im:LB (m:Int) 6:=⟨by unfold L;omega⟩
 have hdf:dsc f.a f.b f.c=D:=hf.disc
 have cDs:aJ Tryz.prog 40 [FA f.a f.b f.c] (I D):=by rw [← hdf];exact fV f.a f.b f.c lz lz lz
 have cCh:aJ Tryz.prog 139 [I D] (.t [.c (IS (chs D)),PE 0]):=by
  have h:=uG D lz
  rwa [sN hE,hE] at h
 have cVa:aJ Tryz.prog 19 [FA f.a f.b f.c] (.t [.c (IS (gvL f)),PE 0]):=by
  have h:=Cy f hfa hfb hfc En
  rwa [p9 hf hD.1 hE] at h
 have hln:=uy hf hD.1 hE
 have hcb:=fun c hc=>qa (c:=c) hD.2 hD.1 hc
 have hlc:=ke hD.2 hD.1
 have hgt_:=fun (h:Int.gcd (2*D) m=1) (k:Nat) (hk:k < (chs D).length) (hne)=>KW (f:=f) h hln hk hne
 have hyy:=fun (k:Nat) (hk:k < (chs D).length) (hne)=>NL (n:=(m:Int)) (f:=f) hln hk hne
 have hnn:=fun (k:Nat) (hk:k < (chs D).length) (he)=>NM (n:=(m:Int)) (f:=f) hln hk he
 have hall:=fun (h:Int.gcd (2*D) m=1) (k:Nat) (hk:(chs D).length≤k)=>KX (f:=f) h hln hk
 have hnone:=fun (h:¬ Int.gcd (2*D) m=1) (k:Nat)=>HJ (f:=f) h k
 have hk0:0=fA (agP m) (agZ D f) 0:=by unfold fA;simp
 generalize chs D=ls at *
 generalize gvL f=vs at *
 generalize fA (agP m) (agZ D f)=κ at *
 generalize ((agL D m f).map fun c=>([PE c]:List PV))=xs at *
 refine oS Tryz.func137 (by kernel_rfl) rfl rfl (bL0 rfl) rfl ?_
 intro l n0 J hK
 refine yQ hK.toKeepsB ?_
 refine bM ?_
 refine bw hP ?_
 refine ab (bf hT rfl rfl rfl (cs:=[_,_,_,_,_,_]) rfl rfl)<|ab (ah cDs) ?_
 refine aq ai (aC hT rfl rfl)<|aI hT rfl<|ag<|bM ?_
 refine bM ?_
 refine bw hP ?_
 refine ab (ah (fe 2 (by decide))) ?_
 refine av hT rfl<|ab (ah (dP 2 D lz lz)) ?_
 refine cH hT rfl rfl rfl ?_
 refine ab (ah (fe (m:Int) (by unfold bp;omega))) ?_
 refine ab (ah (nU (2*D) (m:Int) lz lz)) ?_
 refine ab (ah (fe 1 (by decide))) ?_
 refine ab (ah (fI _ _)) ?_
 refine ab (bt rfl)<|ag ?_
 refine ez rfl (fun hb1=>?_) (fun hb1=>?_)
 ·have hb1_:=(bX hb1)
  refine nu ?_
  refine ⟨.inr rfl,?_⟩
  exact hnone (fun e=>dF0 (bX hb1) (by rw [e];rfl)) _
 have hb1_:=(bU hb1)
 have hgc:Int.gcd (2*D) m=1:=by have:=dT0 (bU hb1);omega
 have hmo:(m:Int) % 2=1:=uE hgc
 refine dR ?_
 refine bM ?_
 refine bw hP ?_
 refine av hT rfl<|ab (ah cCh) ?_
 refine ab (aB (rfl:_=AV.t _))<|ab (aE rfl (v:=.c _) rfl)<|ab (aE rfl (v:=.c _) rfl)<|aj rfl<|aj rfl<|ag<|bM ?_
 refine bw hP ?_
 refine ab (bf hT rfl rfl rfl (cs:=[_,_,_,_,_,_]) rfl rfl)<|ab (ah cVa) ?_
 refine ab (aB (rfl:_=AV.t _))<|ab (aE rfl (v:=.c _) rfl)<|ab (aE rfl (v:=.c _) rfl)<|aj rfl<|aj rfl<|ag<|bM ?_
 refine bw hP ?_
 refine ak rfl<|ab (aU hT rfl rfl rfl (by rfl)) ?_
 refine ak rfl<|ag<|eL ?_
 refine lL (ι:=Nat) (fun j=>stL [(0,.p (.c (.v (.func (.yield l) #[] #[])))),(2,.ip [.v (.int .i64 (m:Int))]),(7,.p (.c (IS vs))),(32,.p (.c (IS ls))),(33,Z (ls.length:Int)),(34,Z (j:Int))] []) κ (fun j=>j≤ls.length) (fun j=>ls.length - j) 0 (Nat.zero_le _) hk0.symm (aD ⟨.refl _,.refl _,.refl _,.refl _,.refl _,.refl _,trivial⟩ trivial) ?_
 intro j hj
 refine bM ?_
 refine bw hP ?_
 refine ab (bi rfl rfl)<|ag<|bM ?_
 refine ez rfl (fun hb2=>?_) (fun hb2=>?_)
 ·have hb2_:=dT0 hb2
  have hjn:j < ls.length:=by omega
  have hcm:=jK (l:=ls) (k:=j) hb2_
  have hcL:L 5 (ls.getD j 0):=by have:=hcb _ hcm;unfold L;omega
  have hav:atV (ls.getD j 0) m=cv (ls.getD j 0) m:=KQ (by omega) hmo
  refine dR ?_
  refine bM ?_
  refine eL ?_
  refine bM ?_
  refine bw hP ?_
  refine ak rfl<|ab (fW hT (n:=(j:Int)) (l:=ls) rfl rfl rfl rfl rfl rfl (by omega)) ?_
  refine ab (bI hT rfl rfl rfl (dv:=.v (.int .i64 (ls.getD j 0))) rfl) ?_
  refine aj rfl<|aj rfl<|ag<|bM ?_
  refine vH hP 11 (by kernel_rfl) ?_
  refine ak rfl<|cH hT rfl rfl rfl ?_
  refine ab (ah (Ni (ls.getD j 0) (m:Int) hcL (by omega))) ?_
  refine ak rfl<|ak rfl<|ab (fW hT (n:=(j:Int)) (l:=vs) rfl rfl rfl rfl rfl rfl (by omega)) ?_
  refine ab (bI hT rfl rfl rfl (dv:=.v (.int .i64 (vs.getD j 0))) rfl) ?_
  refine ab (bq rfl rfl)<|ak rfl ?_
  refine aW (t:=47) rfl (fun hg3=>?_) (fun hg3=>?_)
  ·have hg3_:=bY hg3
   have hne:¬ cv (ls.getD j 0) m=(vs.getD j 0):=fun e=>bY hg3 (hav.trans e)
   refine ay hg3 (aB (rfl:_=AV.p (.c _))) ?_
   refine ay hg3 (aB (rfl:_=AV.p (.c _))) ?_
   refine ag<|RY.yield hK (bj rfl rfl hg3) rfl rfl (hgt_ hgc j hjn hne) ?_
   intro bb
   refine RY.val (bj rfl rfl hg3) (bt rfl) ?_
   refine RY.val ai (aN rfl hg3 (rfl:_=AV.p (.c _))) ?_
   refine RY.done ?_
   refine ez rfl (fun hb4=>?_) (fun hb4=>?_)
   ·have hb4_:=(bX hb4)
    refine nu ?_
    refine ⟨.inr rfl,?_⟩
    exact x8 (bX hb4)
   have hb4_:=(bU hb4)
   refine dR ?_
   refine bw hP ?_
   refine bv rfl rfl ?_
   refine ak rfl<|ag ?_
   refine ⟨j+1,by omega,by omega,(hyy j hjn hne).trans (x7 (bU hb4)).symm,aD ⟨.refl _,.refl _,.refl _,.refl _,.refl _,aM (by omega),trivial⟩ trivial⟩
  have hg3_:=bS hg3
  have heq:cv (ls.getD j 0) m=(vs.getD j 0):=hav.symm.trans (bS hg3)
  refine aX hg3 ?_
  refine aX hg3 ?_
  refine ag<|RY.skip (ga rfl rfl hg3) ?_
  refine RY.skip (ga rfl rfl hg3) ?_
  refine RY.val ai (aK rfl hg3 (rfl:_=AV.p (.c _))) ?_
  refine RY.done ?_
  refine jS rfl rfl ?_
  refine dR ?_
  refine bw hP ?_
  refine bv rfl rfl ?_
  refine ak rfl<|ag ?_
  refine ⟨j+1,by omega,by omega,hnn j hjn heq,aD ⟨.refl _,.refl _,.refl _,.refl _,.refl _,aM (by omega),trivial⟩ trivial⟩
 have hb2_:=dF0 hb2
 refine jy ?_
 refine ⟨.inl rfl,?_⟩
 exact hall hgc j (by omega)
theorem rI (f:Fm) (m:Int) :
  aJ Tryz.prog 71 [FA f.a f.b f.c,Z m] (.fn 137 [[zn f.a,zm f.a,zn f.b,zm f.b,zn f.c,zm f.c],[.v (.int .i64 m)]]):=by
 refine mp Tryz.func71 (by kernel_rfl) rfl rfl (bL0 rfl) rfl ?_
 refine ae hP<|aq ai (aL rfl rfl)<|aq ai (aL rfl rfl)<|aj rfl<|ag<|cT (t:=2) rfl rfl ?_
 refine cT (t:=3) rfl rfl ?_
 refine ae hP<|ab (ku rfl rfl)<|ab (a7 (rfl:_=AV.fn _ _))<|ag<|am ?_
 exact ⟨.inr rfl,4,rfl,rfl⟩
end
section
open Go Go.AM
theorem JH (f:Fm) (D:Int) (m:Nat) (hfa:L 6 f.a) (hfb:L 6 f.b) (hfc:L 6 f.c) (hf:Cl D f) (hD:-4194304≤D∧D < 0) (hm:1≤m∧m≤65536) (hE:szE D=0) :
  aJ Tryz.prog 17 [FA f.a f.b f.c,Z (m:Int)] (.t [.a (anS (fnd D m f)),PE 0]):=by
 have fa:LB f.a 6:=⟨hfa⟩
 have fb:LB f.b 6:=⟨hfb⟩
 have fc:LB f.c 6:=⟨hfc⟩
 have hdf:dsc f.a f.b f.c=D:=hf.disc
 have h0m:0 < (m:Int):=by omega
 have cRf:aJ Tryz.prog 65 [FA f.a f.b f.c,Z (m:Int)] (Z 0):=by
  have h:=mN f m hfa hfb hfc
  rwa [yH hf hm] at h
 have iD:LB D 6:=⟨by unfold L;omega⟩
 have cDs:aJ Tryz.prog 40 [FA f.a f.b f.c] (I D):=by rw [← hdf];exact fV f.a f.b f.c lz lz lz
 refine aO Tryz.func17 rfl rfl rfl rfl ?_
 refine ae hP<|aq ai (aL rfl rfl)<|aq ai (aC hT rfl rfl)<|aq ai (aC hT rfl rfl)<|ag<|ao<|ae hP<|br hT rfl rfl rfl rfl rfl rfl<|ak rfl<|ab (ah cRf) ?_
 refine aj rfl<|ag<|ae hP<|ak rfl<|ab (bq rfl rfl)<|ag<|aQ rfl rfl<|au<|ae hP<|br hT rfl rfl rfl rfl rfl rfl<|ab (ah cDs) ?_
 refine aq ai (aC hT rfl rfl)<|aI hT rfl<|ag<|ae hP<|aq ai (aC hT rfl rfl)<|ag<|ao<|ae hP<|br hT rfl rfl rfl rfl rfl rfl<|ak rfl<|ab (ah (wz f m)) ?_
 refine ag<|aA<|dq (t:=stL [(1,Z (m:Int)),(2,.loc 2 0),(4,.loc 4 0),(5,.loc 5 0),(7,.loc 7 0),(8,.loc 8 0),(26,.fn 132 [[zn f.a,zm f.a,zn f.b,zm f.b,zn f.c,zm f.c],[.v (.int .i64 (m:Int))]])] [(2,⟨false,1,46,[zn f.a,zm f.a,zn f.b,zm f.b,zn f.c,zm f.c]⟩),(4,⟨false,1,42,bsC none⟩),(5,⟨false,1,33,[.v (.int .i64 0)]⟩),(7,⟨false,1,29,[zn D,zm D]⟩),(8,⟨false,1,42,bsC (dM (prL D m f) 0)⟩)]) (aD ⟨.refl _,.refl _,.refl _,.refl _,.refl _,.refl _,.refl _,trivial⟩ ⟨rfl,rfl,rfl,rfl,Eq.trans rfl (congrArg (fun b=>some (⟨false,1,42,bsC b⟩:Blk)) (HE (prL D m f)).symm),trivial⟩) ?_
 refine fC 9 (fun k=>cU [(2,⟨false,1,46,[zn f.a,zm f.a,zn f.b,zm f.b,zn f.c,zm f.c]⟩),(4,⟨false,1,42,bsC none⟩),(5,⟨false,1,33,[.v (.int .i64 0)]⟩),(7,⟨false,1,29,[zn D,zm D]⟩),(8,⟨false,1,42,bsC (dM (prL D m f) k)⟩)]) (fun _=>True) rfl (tO f D m hfa hfb hfc hdf hD hm) Jx rfl rfl rfl trivial (fun k x hx _=>?_) (fun _=>?_)
 ·obtain ⟨p,hp,rfl⟩:=LZ hx
  refine aw hP<|aq ai (aC hT rfl rfl)<|aI hT rfl<|ag<|aA<|ae hP<|ab (aY hT rfl rfl rfl rfl rfl (by first | decide | omega)) ?_
  refine av hT rfl<|ab (aY hT rfl rfl rfl rfl rfl (by first | decide | omega)) ?_
  refine av hT rfl<|aq ai (aC hT rfl rfl)<|aq ai (aC hT rfl rfl)<|aI hT rfl<|aI hT rfl<|ag<|ao<|ae hP<|aG hT rfl<|a8 hT rfl rfl rfl rfl ?_
  refine ak rfl ?_
  refine aW (t:=34) rfl (fun hg1=>?_) (fun hg1=>?_)
  ·have hy1:p.2 < 0:=dT0 hg1
   iterate 3 refine aX hg1 ?_
   refine fk ?_
   refine fk ?_
   refine aX hg1 ?_
   refine ab (aN rfl hg1 (rfl:_=AV.p (.c _)))<|ag<|aV rfl rfl<|aZ ?_
   refine ⟨GW.forget fun x=>SubO.own (l:=[(2,⟨false,1,46,[zn f.a,zm f.a,zn f.b,zm f.b,zn f.c,zm f.c]⟩),(4,⟨false,1,42,bsC none⟩),(5,⟨false,1,33,[.v (.int .i64 0)]⟩),(7,⟨false,1,29,[zn D,zm D]⟩),(8,⟨false,1,42,bsC (dM (prL D m f) (k+1))⟩)]) ⟨rfl,rfl,rfl,rfl,Eq.trans rfl (congrArg (fun b=>some (⟨false,1,42,bsC b⟩:Blk)) ((eT hp).trans (s9 (.inl hy1))).symm),trivial⟩ x,trivial⟩
  have hy1:¬ p.2 < 0:=dF0 hg1
  refine ay hg1 (aF hT rfl rfl rfl rfl (cs:=[_,_]) rfl rfl) ?_
  refine ay hg1 (ah (B4 _)) ?_
  refine ay hg1 (aB (rfl:_=AV.p (.c _))) ?_
  refine aW (t:=37) rfl (fun hg2=>?_) (fun hg2=>?_)
  ·have hy0:p.2=0:=dT0 hg2
   refine ay hg2 (aP hT rfl rfl rfl rfl rfl rfl) ?_
   refine ay hg2 (bC hT rfl rfl rfl rfl (by first | rfl | exact dw (by omega))) ?_
   refine ay hg1 (aN rfl hg2 (rfl:_=AV.p (.c _))) ?_
   refine ab (aK rfl hg1 (rfl:_=AV.p (.c _)))<|ag ?_
   refine az rfl (fun hb3=>?_) (fun hb3=>?_)
   ·have hx1:p.1 < 0:=dT0 hb3
    refine aZ ?_
    refine ⟨GW.forget fun x=>SubO.own (l:=[(2,⟨false,1,46,[zn f.a,zm f.a,zn f.b,zm f.b,zn f.c,zm f.c]⟩),(4,⟨false,1,42,bsC none⟩),(5,⟨false,1,33,[.v (.int .i64 0)]⟩),(7,⟨false,1,29,[zn D,zm D]⟩),(8,⟨false,1,42,bsC (dM (prL D m f) (k+1))⟩)]) ⟨rfl,rfl,rfl,rfl,Eq.trans rfl (congrArg (fun b=>some (⟨false,1,42,bsC b⟩:Blk)) ((eT hp).trans (s9 (.inr ⟨hy0,hx1⟩))).symm),trivial⟩ x,trivial⟩
   have ho:okP p=true:=y6 hy1 (fun z=>dF0 hb3 z.2)
   refine au<|ae hP<|av hT rfl<|aG hT rfl<|av hT rfl<|ab (ah (dL _ _)) ?_
   refine aj rfl<|ag<|ae hP<|aG hT rfl<|a8 hT rfl rfl rfl rfl ?_
   refine ab (bh rfl rfl)<|ak rfl ?_
   refine aW (t:=49) rfl (fun hg4=>?_) (fun hg4=>?_)
   ·have hg4_:=bT hg4
    have hk:=bT hg4
    refine aX hg4 ?_
    refine aX hg4 ?_
    refine ab (aN rfl hg4 (rfl:_=AV.p (.c _)))<|ak rfl<|aX rfl ?_
    refine aX rfl ?_
    refine aX rfl ?_
    iterate 5 refine fk ?_
    refine aX rfl ?_
    refine ab (aN rfl rfl (rfl:_=AV.p (.c _)))<|ag<|aV rfl rfl<|aw hP<|av hT rfl<|av hT rfl<|ab (a6 hT rfl rfl rfl (es:=[_,_,_,_,_,_,_,_,_]) rfl)<|aI hT rfl<|ag ?_
    refine ⟨GW.forget fun x=>SubO.own (l:=[(2,⟨false,1,46,[zn f.a,zm f.a,zn f.b,zm f.b,zn f.c,zm f.c]⟩),(4,⟨false,1,42,bsC none⟩),(5,⟨false,1,33,[.v (.int .i64 0)]⟩),(7,⟨false,1,29,[zn D,zm D]⟩),(8,⟨false,1,42,bsC (dM (prL D m f) (k+1))⟩)]) ⟨rfl,rfl,rfl,rfl,Eq.trans rfl (congrArg (fun b=>some (⟨false,1,42,bsC b⟩:Blk)) ((eT hp).trans (DT ho hk)).symm),trivial⟩ x,trivial⟩
   have hg4_:=bF hg4
   have hk:=bF hg4
   refine ay hg4 (aB (rfl:_=AV.p (.c _))) ?_
   refine ay hg4 (bi rfl rfl) ?_
   refine ab (aK rfl hg4 (rfl:_=AV.p (.c _)))<|ak rfl ?_
   refine aW (t:=53) rfl (fun hg5=>?_) (fun hg5=>?_)
   ·have hg5_:=dT0 hg5
    have hc:=dT0 hg5
    iterate 3 refine aX hg5 ?_
    iterate 5 refine fk ?_
    refine aX hg5 ?_
    refine ab (aN rfl hg5 (rfl:_=AV.p (.c _)))<|ag<|aV rfl rfl<|aw hP<|av hT rfl<|av hT rfl<|ab (a6 hT rfl rfl rfl (es:=[_,_,_,_,_,_,_,_,_]) rfl)<|aI hT rfl<|ag ?_
    refine ⟨GW.forget fun x=>SubO.own (l:=[(2,⟨false,1,46,[zn f.a,zm f.a,zn f.b,zm f.b,zn f.c,zm f.c]⟩),(4,⟨false,1,42,bsC none⟩),(5,⟨false,1,33,[.v (.int .i64 0)]⟩),(7,⟨false,1,29,[zn D,zm D]⟩),(8,⟨false,1,42,bsC (dM (prL D m f) (k+1))⟩)]) ⟨rfl,rfl,rfl,rfl,Eq.trans rfl (congrArg (fun b=>some (⟨false,1,42,bsC b⟩:Blk)) ((eT hp).trans (sB ho hk (.inl (cmpI_lt_zero.1 hc)))).symm),trivial⟩ x,trivial⟩
   have hg5_:=dF0 hg5
   have hc:=dF0 hg5
   refine ay hg5 (aB (rfl:_=AV.p (.c _))) ?_
   refine ay hg5 (bh rfl rfl) ?_
   refine ay hg5 (aB (rfl:_=AV.p (.c _))) ?_
   refine aW (t:=56) rfl (fun hg6=>?_) (fun hg6=>?_)
   ·have hg6_:=bT hg6
    have hc0:=bT hg6
    refine ay hg6 (aF hT rfl rfl rfl rfl (cs:=[_,_]) rfl rfl) ?_
    refine ay hg6 (aP hT rfl rfl rfl rfl rfl rfl) ?_
    refine ay hg6 (aF hT rfl rfl rfl rfl (cs:=[_,_]) rfl rfl) ?_
    refine ay hg6 (ah (dL _ _)) ?_
    refine ay hg6 (bi rfl rfl) ?_
    refine ay hg5 (aN rfl hg6 (rfl:_=AV.p (.c _))) ?_
    refine ab (aK rfl hg5 (rfl:_=AV.p (.c _)))<|ag ?_
    refine az rfl (fun hb7=>?_) (fun hb7=>?_)
    ·have hb7_:=dT0 hb7
     have hx2:=dT0 hb7
     refine aw hP<|av hT rfl<|av hT rfl<|ab (a6 hT rfl rfl rfl (es:=[_,_,_,_,_,_,_,_,_]) rfl)<|aI hT rfl<|ag ?_
     refine ⟨GW.forget fun x=>SubO.own (l:=[(2,⟨false,1,46,[zn f.a,zm f.a,zn f.b,zm f.b,zn f.c,zm f.c]⟩),(4,⟨false,1,42,bsC none⟩),(5,⟨false,1,33,[.v (.int .i64 0)]⟩),(7,⟨false,1,29,[zn D,zm D]⟩),(8,⟨false,1,42,bsC (dM (prL D m f) (k+1))⟩)]) ⟨rfl,rfl,rfl,rfl,Eq.trans rfl (congrArg (fun b=>some (⟨false,1,42,bsC b⟩:Blk)) ((eT hp).trans (sB ho hk (.inr ⟨cmpI_eq_zero.1 hc0,cmpI_lt_zero.1 hx2⟩))).symm),trivial⟩ x,trivial⟩
    have hb7_:=dF0 hb7
    have hx2:=dF0 hb7
    refine au ?_
    refine ⟨GW.forget fun x=>SubO.own (l:=[(2,⟨false,1,46,[zn f.a,zm f.a,zn f.b,zm f.b,zn f.c,zm f.c]⟩),(4,⟨false,1,42,bsC none⟩),(5,⟨false,1,33,[.v (.int .i64 0)]⟩),(7,⟨false,1,29,[zn D,zm D]⟩),(8,⟨false,1,42,bsC (dM (prL D m f) (k+1))⟩)]) ⟨rfl,rfl,rfl,rfl,Eq.trans rfl (congrArg (fun b=>some (⟨false,1,42,bsC b⟩:Blk)) ((eT hp).trans (sC ho hk (fun z=>z.elim (fun z=>hc (cmpI_lt_zero.2 z)) fun z=>hx2 (cmpI_lt_zero.2 z.2)))).symm),trivial⟩ x,trivial⟩
   have hg6_:=bF hg6
   have hc0:=bF hg6
   iterate 5 refine aX hg6 ?_
   refine ay hg5 (aK rfl hg6 (rfl:_=AV.p (.c _))) ?_
   refine ab (aK rfl hg5 (rfl:_=AV.p (.c _)))<|ag<|aQ rfl rfl<|au ?_
   refine ⟨GW.forget fun x=>SubO.own (l:=[(2,⟨false,1,46,[zn f.a,zm f.a,zn f.b,zm f.b,zn f.c,zm f.c]⟩),(4,⟨false,1,42,bsC none⟩),(5,⟨false,1,33,[.v (.int .i64 0)]⟩),(7,⟨false,1,29,[zn D,zm D]⟩),(8,⟨false,1,42,bsC (dM (prL D m f) (k+1))⟩)]) ⟨rfl,rfl,rfl,rfl,Eq.trans rfl (congrArg (fun b=>some (⟨false,1,42,bsC b⟩:Blk)) ((eT hp).trans (sC ho hk (fun z=>z.elim (fun z=>hc (cmpI_lt_zero.2 z)) fun z=>hc0 (cmpI_eq_zero.2 z.1)))).symm),trivial⟩ x,trivial⟩
  have hy0:¬ p.2=0:=dF0 hg2
  have ho:okP p=true:=y6 hy1 (fun z=>hy0 z.1)
  refine aX hg2 ?_
  refine aX hg2 ?_
  refine ay hg1 (aK rfl hg2 (rfl:_=AV.p (.c _))) ?_
  refine ab (aK rfl hg1 (rfl:_=AV.p (.c _)))<|ag<|aQ rfl rfl<|au<|ae hP<|av hT rfl<|aG hT rfl<|av hT rfl<|ab (ah (dL _ _)) ?_
  refine aj rfl<|ag<|ae hP<|aG hT rfl<|a8 hT rfl rfl rfl rfl ?_
  refine ab (bh rfl rfl)<|ak rfl ?_
  refine aW (t:=49) rfl (fun hg8=>?_) (fun hg8=>?_)
  ·have hg8_:=bT hg8
   have hk:=bT hg8
   refine aX hg8 ?_
   refine aX hg8 ?_
   refine ab (aN rfl hg8 (rfl:_=AV.p (.c _)))<|ak rfl<|aX rfl ?_
   refine aX rfl ?_
   refine aX rfl ?_
   iterate 5 refine fk ?_
   refine aX rfl ?_
   refine ab (aN rfl rfl (rfl:_=AV.p (.c _)))<|ag<|aV rfl rfl<|aw hP<|av hT rfl<|av hT rfl<|ab (a6 hT rfl rfl rfl (es:=[_,_,_,_,_,_,_,_,_]) rfl)<|aI hT rfl<|ag ?_
   refine ⟨GW.forget fun x=>SubO.own (l:=[(2,⟨false,1,46,[zn f.a,zm f.a,zn f.b,zm f.b,zn f.c,zm f.c]⟩),(4,⟨false,1,42,bsC none⟩),(5,⟨false,1,33,[.v (.int .i64 0)]⟩),(7,⟨false,1,29,[zn D,zm D]⟩),(8,⟨false,1,42,bsC (dM (prL D m f) (k+1))⟩)]) ⟨rfl,rfl,rfl,rfl,Eq.trans rfl (congrArg (fun b=>some (⟨false,1,42,bsC b⟩:Blk)) ((eT hp).trans (DT ho hk)).symm),trivial⟩ x,trivial⟩
  have hg8_:=bF hg8
  have hk:=bF hg8
  refine ay hg8 (aB (rfl:_=AV.p (.c _))) ?_
  refine ay hg8 (bi rfl rfl) ?_
  refine ab (aK rfl hg8 (rfl:_=AV.p (.c _)))<|ak rfl ?_
  refine aW (t:=53) rfl (fun hg9=>?_) (fun hg9=>?_)
  ·have hg9_:=dT0 hg9
   have hc:=dT0 hg9
   iterate 3 refine aX hg9 ?_
   iterate 5 refine fk ?_
   refine aX hg9 ?_
   refine ab (aN rfl hg9 (rfl:_=AV.p (.c _)))<|ag<|aV rfl rfl<|aw hP<|av hT rfl<|av hT rfl<|ab (a6 hT rfl rfl rfl (es:=[_,_,_,_,_,_,_,_,_]) rfl)<|aI hT rfl<|ag ?_
   refine ⟨GW.forget fun x=>SubO.own (l:=[(2,⟨false,1,46,[zn f.a,zm f.a,zn f.b,zm f.b,zn f.c,zm f.c]⟩),(4,⟨false,1,42,bsC none⟩),(5,⟨false,1,33,[.v (.int .i64 0)]⟩),(7,⟨false,1,29,[zn D,zm D]⟩),(8,⟨false,1,42,bsC (dM (prL D m f) (k+1))⟩)]) ⟨rfl,rfl,rfl,rfl,Eq.trans rfl (congrArg (fun b=>some (⟨false,1,42,bsC b⟩:Blk)) ((eT hp).trans (sB ho hk (.inl (cmpI_lt_zero.1 hc)))).symm),trivial⟩ x,trivial⟩
  have hg9_:=dF0 hg9
  have hc:=dF0 hg9
  refine ay hg9 (aB (rfl:_=AV.p (.c _))) ?_
  refine ay hg9 (bh rfl rfl) ?_
  refine ay hg9 (aB (rfl:_=AV.p (.c _))) ?_
  refine aW (t:=56) rfl (fun hg10=>?_) (fun hg10=>?_)
  ·have hg10_:=bT hg10
   have hc0:=bT hg10
   refine ay hg10 (aF hT rfl rfl rfl rfl (cs:=[_,_]) rfl rfl) ?_
   refine ay hg10 (aP hT rfl rfl rfl rfl rfl rfl) ?_
   refine ay hg10 (aF hT rfl rfl rfl rfl (cs:=[_,_]) rfl rfl) ?_
   refine ay hg10 (ah (dL _ _)) ?_
   refine ay hg10 (bi rfl rfl) ?_
   refine ay hg9 (aN rfl hg10 (rfl:_=AV.p (.c _))) ?_
   refine ab (aK rfl hg9 (rfl:_=AV.p (.c _)))<|ag ?_
   refine az rfl (fun hb11=>?_) (fun hb11=>?_)
   ·have hb11_:=dT0 hb11
    have hx2:=dT0 hb11
    refine aw hP<|av hT rfl<|av hT rfl<|ab (a6 hT rfl rfl rfl (es:=[_,_,_,_,_,_,_,_,_]) rfl)<|aI hT rfl<|ag ?_
    refine ⟨GW.forget fun x=>SubO.own (l:=[(2,⟨false,1,46,[zn f.a,zm f.a,zn f.b,zm f.b,zn f.c,zm f.c]⟩),(4,⟨false,1,42,bsC none⟩),(5,⟨false,1,33,[.v (.int .i64 0)]⟩),(7,⟨false,1,29,[zn D,zm D]⟩),(8,⟨false,1,42,bsC (dM (prL D m f) (k+1))⟩)]) ⟨rfl,rfl,rfl,rfl,Eq.trans rfl (congrArg (fun b=>some (⟨false,1,42,bsC b⟩:Blk)) ((eT hp).trans (sB ho hk (.inr ⟨cmpI_eq_zero.1 hc0,cmpI_lt_zero.1 hx2⟩))).symm),trivial⟩ x,trivial⟩
   have hb11_:=dF0 hb11
   have hx2:=dF0 hb11
   refine au ?_
   refine ⟨GW.forget fun x=>SubO.own (l:=[(2,⟨false,1,46,[zn f.a,zm f.a,zn f.b,zm f.b,zn f.c,zm f.c]⟩),(4,⟨false,1,42,bsC none⟩),(5,⟨false,1,33,[.v (.int .i64 0)]⟩),(7,⟨false,1,29,[zn D,zm D]⟩),(8,⟨false,1,42,bsC (dM (prL D m f) (k+1))⟩)]) ⟨rfl,rfl,rfl,rfl,Eq.trans rfl (congrArg (fun b=>some (⟨false,1,42,bsC b⟩:Blk)) ((eT hp).trans (sC ho hk (fun z=>z.elim (fun z=>hc (cmpI_lt_zero.2 z)) fun z=>hx2 (cmpI_lt_zero.2 z.2)))).symm),trivial⟩ x,trivial⟩
  have hg10_:=bF hg10
  have hc0:=bF hg10
  iterate 5 refine aX hg10 ?_
  refine ay hg9 (aK rfl hg10 (rfl:_=AV.p (.c _))) ?_
  refine ab (aK rfl hg9 (rfl:_=AV.p (.c _)))<|ag<|aQ rfl rfl<|au ?_
  refine ⟨GW.forget fun x=>SubO.own (l:=[(2,⟨false,1,46,[zn f.a,zm f.a,zn f.b,zm f.b,zn f.c,zm f.c]⟩),(4,⟨false,1,42,bsC none⟩),(5,⟨false,1,33,[.v (.int .i64 0)]⟩),(7,⟨false,1,29,[zn D,zm D]⟩),(8,⟨false,1,42,bsC (dM (prL D m f) (k+1))⟩)]) ⟨rfl,rfl,rfl,rfl,Eq.trans rfl (congrArg (fun b=>some (⟨false,1,42,bsC b⟩:Blk)) ((eT hp).trans (sC ho hk (fun z=>z.elim (fun z=>hc (cmpI_lt_zero.2 z)) fun z=>hc0 (cmpI_eq_zero.2 z.1)))).symm),trivial⟩ x,trivial⟩
 refine dq (t:=stL [(1,Z (m:Int)),(2,.loc 2 0),(4,.loc 4 0),(5,.loc 5 0),(7,.loc 7 0),(8,.loc 8 0)] [(2,⟨false,1,46,[zn f.a,zm f.a,zn f.b,zm f.b,zn f.c,zm f.c]⟩),(4,⟨false,1,42,bsC none⟩),(5,⟨false,1,33,[.v (.int .i64 0)]⟩),(7,⟨false,1,29,[zn D,zm D]⟩),(8,⟨false,1,42,bsC (dK (prL D m f))⟩)]) (aD ⟨.refl _,.refl _,.refl _,.refl _,.refl _,.refl _,trivial⟩ ⟨rfl,rfl,rfl,rfl,Eq.trans rfl (congrArg (fun b=>some (⟨false,1,42,bsC b⟩:Blk)) (AB rfl)),trivial⟩) ?_
 refine ao<|ae hP<|aG hT rfl<|a8 hT rfl rfl rfl rfl ?_
 refine ab (bK rfl rfl)<|ag ?_
 refine az rfl (fun hb12=>?_) (fun hb12=>?_)
 ·have hb12_:=dT0 hb12
  have hkb:=dT0 hb12
  refine ae hP<|ab (aF hT rfl rfl rfl rfl (cs:=[_,_,_,_,_,_,_,_,_]) rfl rfl)<|aI hT rfl<|aI hT rfl<|ag<|am ?_
  refine cz rfl (.inr rfl) (aS hT rfl rfl rfl rfl (cs:=[_,_,_,_,_,_,_,_,_]) rfl rfl) (cq hT rfl rfl rfl rfl rfl) ?_ bu
  exact aH (congrArg (fun d=>AV.t [.a d,PE 0]) (NF hkb))
 have hb12_:=dF0 hb12
 have h0b:=NG (dF0 hb12)
 refine au<|ao<|ae hP<|ak rfl<|aq ai (Eff.callG (ww m)) ?_
 refine ag<|aA<|dq (t:=stL [(72,.fnl 135 72),(1,Z (m:Int)),(2,.loc 2 0),(4,.loc 4 0),(5,.loc 5 0),(7,.loc 7 0)] ((72,⟨false,1,3,[.v (.int .i64 ((m:Nat):Int))]⟩) :: [(2,⟨false,1,46,[zn f.a,zm f.a,zn f.b,zm f.b,zn f.c,zm f.c]⟩),(4,⟨false,1,42,bsC none⟩),(5,⟨false,1,33,[.v (.int .i64 0)]⟩),(7,⟨false,1,29,[zn D,zm D]⟩)])) (aD ⟨.refl _,.refl _,.refl _,.refl _,.refl _,.refl _,trivial⟩ ⟨rfl,rfl,rfl,rfl,rfl,trivial⟩) ?_
 refine qf (l:=[(1,Z (m:Int)),(2,.loc 2 0),(4,.loc 4 0),(5,.loc 5 0),(7,.loc 7 0)]) (o:=cU ((72,⟨false,1,3,[.v (.int .i64 ((m:Nat):Int))]⟩) :: [(2,⟨false,1,46,[zn f.a,zm f.a,zn f.b,zm f.b,zn f.c,zm f.c]⟩),(4,⟨false,1,42,bsC none⟩),(5,⟨false,1,33,[.v (.int .i64 0)]⟩),(7,⟨false,1,29,[zn D,zm D]⟩)])) 73 (fun _=>cU [(2,⟨false,1,46,[zn f.a,zm f.a,zn f.b,zm f.b,zn f.c,zm f.c]⟩),(4,⟨false,1,42,bsC none⟩),(5,⟨false,1,33,[.v (.int .i64 0)]⟩),(7,⟨false,1,29,[zn D,zm D]⟩)]) (PtR D m) (tN m hm) rfl rfl rfl rfl (tR rfl) zz rfl rfl rfl PtR.start (fun k x hx hI=>?_) (fun hI=>?_)
 ·obtain ⟨q,hq,rfl⟩:=D7 hx
  refine aw hP<|aj rfl<|ag<|aA<|ae hP<|av hT rfl<|ak rfl<|ab (ah (rH D q hD (xN hm hq))) ?_
  refine ag ?_
  refine az rfl (fun hb13=>?_) (fun hb13=>?_)
  ·have hrq:=dT0 hb13
   refine ae hP<|ak rfl<|ab (ah (fe (q:Int) (by have:=xN hm hq;unfold bp;omega))) ?_
   refine ab (a6 hT rfl rfl rfl (es:=[_,_,_,_,_,_,_,_,_]) rfl)<|aI hT rfl<|aI hT rfl<|ag<|am ?_
   refine ⟨_,GW.forget fun _=>.inl rfl,?_⟩
   refine cz rfl (.inr rfl) (aS hT rfl rfl rfl rfl (cs:=[_,_,_,_,_,_,_,_,_]) rfl rfl) (cq hT rfl rfl rfl rfl rfl) ?_ bu
   exact aH (congrArg (fun d=>AV.t [.a d,PE 0]) (NE h0b hI hq hrq))
  have hrq:=dF0 hb13
  refine au ?_
  exact ⟨GW.forget fun x=>SubO.own (l:=[(2,⟨false,1,46,[zn f.a,zm f.a,zn f.b,zm f.b,zn f.c,zm f.c]⟩),(4,⟨false,1,42,bsC none⟩),(5,⟨false,1,33,[.v (.int .i64 0)]⟩),(7,⟨false,1,29,[zn D,zm D]⟩)]) ⟨rfl,rfl,rfl,rfl,trivial⟩ x,hI.next hq hrq⟩
 have h1b:=hI.done (Jv rfl)
 refine ao<|ae hP<|br hT rfl rfl rfl rfl rfl rfl<|ak rfl<|ab (ah (rI f m)) ?_
 refine ag<|aA<|dq (t:=stL [(1,Z (m:Int)),(2,.loc 2 0),(4,.loc 4 0),(5,.loc 5 0),(7,.loc 7 0),(82,.fn 137 [[zn f.a,zm f.a,zn f.b,zm f.b,zn f.c,zm f.c],[.v (.int .i64 (m:Int))]])] [(2,⟨false,1,46,[zn f.a,zm f.a,zn f.b,zm f.b,zn f.c,zm f.c]⟩),(4,⟨false,1,42,bsC none⟩),(5,⟨false,1,33,[.v (.int .i64 0)]⟩),(7,⟨false,1,29,[zn D,zm D]⟩)]) (aD ⟨.refl _,.refl _,.refl _,.refl _,.refl _,.refl _,trivial⟩ ⟨rfl,rfl,rfl,rfl,trivial⟩) ?_
 refine fC 83 (fun _=>cU [(2,⟨false,1,46,[zn f.a,zm f.a,zn f.b,zm f.b,zn f.c,zm f.c]⟩),(4,⟨false,1,42,bsC none⟩),(5,⟨false,1,33,[.v (.int .i64 0)]⟩),(7,⟨false,1,29,[zn D,zm D]⟩)]) (fun k=>k=0) rfl (pQ f D m hfa hfb hfc hf hD hm hE) AH rfl rfl rfl rfl (fun k x hx hk=>?_) (fun hk=>?_)
 ·obtain ⟨c,hc,rfl⟩:=EC hx
  refine aw hP<|aj rfl<|ag<|aA<|ae hP<|ak rfl<|ab (ah (fe c (by have:=Db hD hc;unfold bp;omega))) ?_
  refine ab (a6 hT rfl rfl rfl (es:=[_,_,_,_,_,_,_,_,_]) rfl)<|aI hT rfl<|aI hT rfl<|ag<|am ?_
  refine ⟨_,GW.forget fun _=>.inl rfl,?_⟩
  refine cz rfl (.inr rfl) (aS hT rfl rfl rfl rfl (cs:=[_,_,_,_,_,_,_,_,_]) rfl rfl) (cq hT rfl rfl rfl rfl rfl) ?_ bu
  exact aH (congrArg (fun d=>AV.t [.a d,PE 0]) (ND h0b h1b hc hk))
 refine ae hP<|av hT rfl<|ak rfl<|ab (ah (tP D m hD hm)) ?_
 refine av hT rfl<|ak rfl<|ab (ah (rG D m hD hm)) ?_
 refine ab (a6 hT rfl rfl rfl (es:=[_,_,_,_,_,_,_,_,_]) rfl)<|aI hT rfl<|aI hT rfl<|ag<|am ?_
 refine cz rfl (.inr rfl) (aS hT rfl rfl rfl rfl (cs:=[_,_,_,_,_,_,_,_,_]) rfl rfl) (cq hT rfl rfl rfl rfl rfl) ?_ bu
 exact aH (congrArg (fun d=>AV.t [.a d,PE 0]) (NC h0b h1b hk))
end
section
open Go Go.AM
theorem z8 (r:Rw) :
  aJ Tryz.prog 58 [.p (.a [.v (.bool r.1),W r.2])] (Z (rsg r)):=by
 refine aO Tryz.func58 rfl rfl rfl rfl ?_
 refine ae hP<|aq ai (aL rfl rfl)<|aj rfl<|ag<|ao<|aA<|ae hP<|aG hT rfl<|a8 hT rfl rfl rfl rfl ?_
 refine ab (aU hT rfl rfl rfl rfl)<|ab (bh rfl rfl)<|aj rfl<|ag ?_
 refine az rfl (fun hb1=>?_) (fun hb1=>?_)
 ·have hb1_:=bT hb1
  refine ae hP<|aj rfl<|ag<|am<|E1 rfl rfl ?_
  exact aM (Lt hb1_)
 have hb1_:=bF hb1
 refine ae hP<|aG hT rfl<|a8 hT rfl rfl rfl rfl ?_
 refine aj rfl<|ag ?_
 refine az rfl (fun hb2=>?_) (fun hb2=>?_)
 ·refine ae hP<|aj rfl<|ag<|am<|E1 rfl rfl ?_
  exact aM (Ls hb1_ hb2)
 refine au<|ae hP<|aj rfl<|ag<|am<|E1 rfl rfl ?_
 exact aM (Lr hb1_ hb2)
theorem yn (r:Rw) (hl:r.2.length≤1000000000) :
  aJ Tryz.prog 100 [.p (.a [.v (.bool r.1),W r.2])] (B (rV r)):=by
 refine aO Tryz.func100 rfl rfl rfl rfl ?_
 refine ae hP<|aq ai (aL rfl rfl)<|aj rfl<|ag<|ao<|ae hP<|aG hT rfl<|a8 hT rfl rfl rfl rfl ?_
 refine ab (aU hT rfl rfl rfl rfl)<|ab (bh rfl rfl)<|ag ?_
 refine az rfl (fun hb1=>?_) (fun hb1=>?_)
 ·have hb1_:=bT hb1
  refine ae hP<|aG hT rfl<|a8 hT rfl rfl rfl rfl ?_
  refine ab (bt rfl)<|aj rfl<|ag<|am<|E1 rfl rfl ?_
  exact aT (BV hb1_)
 have hb1_:=bF hb1
 refine au<|ae hP<|aG hT rfl<|a8 hT rfl rfl rfl rfl ?_
 refine aG hT rfl<|a8 hT rfl rfl rfl rfl ?_
 refine ab (aU hT rfl rfl rfl rfl)<|ab (bD rfl rfl (by first | exact iW0 _ (by omega) | rfl)) ?_
 refine cK ?_
 refine cH hT rfl rfl rfl ?_
 refine ab (bq rfl rfl)<|aj rfl<|ag<|am<|E1 rfl rfl ?_
 exact aT (Jk hb1_)
theorem BT (r:Rw) (hl:r.2.length≤1000000000) :
  aJ Tryz.prog 102 [.p (.a [.v (.bool r.1),W r.2])] (B (rV r)):=by
 refine aO Tryz.func102 rfl rfl rfl rfl ?_
 refine ae hP<|aq ai (aL rfl rfl)<|aj rfl<|ag<|ae hP<|aG hT rfl<|a8 hT rfl rfl rfl rfl ?_
 refine ab (aU hT rfl rfl rfl rfl)<|ab (bh rfl rfl)<|ak rfl ?_
 refine aW (t:=7) rfl (fun hg1=>?_) (fun hg1=>?_)
 ·have hg1_:=bT hg1
  refine ay hg1 (aP hT rfl rfl rfl rfl rfl rfl) ?_
  refine ay hg1 (bC hT rfl rfl rfl rfl (by first | rfl | exact dw (by omega))) ?_
  refine ay hg1 (bt rfl) ?_
  refine ab (aN rfl hg1 (rfl:_=AV.p (.c _)))<|ak rfl ?_
  refine aW (t:=12) rfl (fun hg2=>?_) (fun hg2=>?_)
  ·have hg2_:=(bX hg2)
   iterate 5 refine aX hg2 ?_
   iterate 9 refine fk ?_
   refine aX hg2 ?_
   refine ab (aN rfl hg2 (rfl:_=AV.p (.c _)))<|aj rfl<|ag<|am<|E1 rfl rfl ?_
   exact aT (hg2.symm.trans (BV hg1_))
  have hg2_:=(bU hg2)
  refine ay hg2 (aP hT rfl rfl rfl rfl rfl rfl) ?_
  refine ay hg2 (bC hT rfl rfl rfl rfl (by first | rfl | exact dw (by omega))) ?_
  refine ay hg2 (aU hT rfl rfl rfl rfl) ?_
  refine ay hg2 (bK rfl rfl) ?_
  refine ay hg2 (aB (rfl:_=AV.p (.c _))) ?_
  refine aW (t:=17) rfl (fun hg3=>?_) (fun hg3=>?_)
  ·have hg3_:=dT0 hg3
   refine ay hg3 (aP hT rfl rfl rfl rfl rfl rfl) ?_
   refine ay hg3 (bC hT rfl rfl rfl rfl (by first | rfl | exact dw (by omega))) ?_
   refine ay hg3 (aP hT rfl rfl rfl rfl rfl rfl) ?_
   refine ay hg3 (bC hT rfl rfl rfl rfl (by first | rfl | exact dw (by omega))) ?_
   refine ay hg3 (aU hT rfl rfl rfl rfl) ?_
   refine ay hg3 (bD rfl rfl (by first | exact iW0 _ (by omega) | rfl)) ?_
   refine ay hg3 (by first | exact en hT rfl rfl rfl rfl rfl rfl (by omega) | exact b6 hT rfl rfl rfl rfl rfl rfl (by omega) (by first | exact gB (by omega) | simp)) ?_
   refine ay hg3 (bI hT rfl rfl rfl (by first | rfl | exact kN (by omega))) ?_
   refine ay hg3 (bq rfl rfl) ?_
   refine ay hg2 (aN rfl hg3 (rfl:_=AV.p (.c _))) ?_
   refine ab (aK rfl hg2 (rfl:_=AV.p (.c _)))<|aj rfl<|ag<|am<|E1 rfl rfl ?_
   exact absurd hg1_ (by omega)
  have hg3_:=dF0 hg3
  iterate 9 refine aX hg3 ?_
  refine ay hg2 (aK rfl hg3 (rfl:_=AV.p (.c _))) ?_
  refine ab (aK rfl hg2 (rfl:_=AV.p (.c _)))<|aj rfl<|ag<|am<|E1 rfl rfl ?_
  exact aT (hg2.symm.trans (BV hg1_))
 have hg1_:=bF hg1
 iterate 3 refine aX hg1 ?_
 refine ab (aK rfl hg1 (rfl:_=AV.p (.c _)))<|ak rfl<|ay rfl (aP hT rfl rfl rfl rfl rfl rfl) ?_
 refine ay rfl (bC hT rfl rfl rfl rfl (by first | rfl | exact dw (by omega))) ?_
 refine ay rfl (aU hT rfl rfl rfl rfl) ?_
 refine ay rfl (bK rfl rfl) ?_
 refine ay rfl (aB (rfl:_=AV.p (.c _))) ?_
 refine aW (t:=17) rfl (fun hg4=>?_) (fun hg4=>?_)
 ·have hg4_:=dT0 hg4
  refine ay hg4 (aP hT rfl rfl rfl rfl rfl rfl) ?_
  refine ay hg4 (bC hT rfl rfl rfl rfl (by first | rfl | exact dw (by omega))) ?_
  refine ay hg4 (aP hT rfl rfl rfl rfl rfl rfl) ?_
  refine ay hg4 (bC hT rfl rfl rfl rfl (by first | rfl | exact dw (by omega))) ?_
  refine ay hg4 (aU hT rfl rfl rfl rfl) ?_
  refine ay hg4 (bD rfl rfl (by first | exact iW0 _ (by omega) | rfl)) ?_
  refine ay hg4 (by first | exact en hT rfl rfl rfl rfl rfl rfl (by omega) | exact b6 hT rfl rfl rfl rfl rfl rfl (by omega) (by first | exact gB (by omega) | simp)) ?_
  refine ay hg4 (bI hT rfl rfl rfl (by first | rfl | exact kN (by omega))) ?_
  refine ay hg4 (bq rfl rfl) ?_
  refine ay rfl (aN rfl hg4 (rfl:_=AV.p (.c _))) ?_
  refine ab (aK rfl rfl (rfl:_=AV.p (.c _)))<|aj rfl<|ag<|am<|E1 rfl rfl ?_
  exact aT (Jk hg1_)
 have hg4_:=dF0 hg4
 iterate 9 refine aX hg4 ?_
 refine ay rfl (aK rfl hg4 (rfl:_=AV.p (.c _))) ?_
 refine ab (aK rfl rfl (rfl:_=AV.p (.c _)))<|aj rfl<|ag<|am<|E1 rfl rfl ?_
 exact absurd (show ((r.2.length:Nat):Int)=0 by omega) hg1_
theorem kK (r:Rw) :
  aJ Tryz.prog 67 [.p (.a [.v (.bool r.1),W r.2])] (B (decide (r.2=[]))):=by
 refine aO Tryz.func67 rfl rfl rfl rfl ?_
 refine ae hP<|aq ai (aL rfl rfl)<|aj rfl<|ag<|ae hP<|av hT rfl<|ab (ah (z8 r)) ?_
 refine ab (bh rfl rfl)<|aj rfl<|ag<|am<|E1 rfl rfl ?_
 exact aT Lq
theorem sn (l m:List Int) (hl:(l.length:Int)≤1000000000) :
  aJ Tryz.prog 163 [.p (.c (SL enI l)),.p (.c (SL enI m)),.p (.c (.v (.func (.func 138) #[] #[])))] (B (decide (l=m))):=by
 refine aO Tryz.func163 rfl rfl rfl rfl ?_
 refine ae hP<|aj rfl<|ag<|ao<|ae hP<|ak rfl<|ab (aU hT rfl rfl rfl (by rfl)) ?_
 refine ak rfl<|ab (aU hT rfl rfl rfl (by rfl)) ?_
 refine ab (bq rfl rfl)<|ag ?_
 refine az rfl (fun hb1=>?_) (fun hb1=>?_)
 ·have hb1_:=bY hb1
  refine ae hP<|aj rfl<|ag<|am<|E1 rfl rfl ?_
  exact aT (decide_eq_false (fun e=>hb1_ (by rw [e]))).symm
 have hb1_:=bS hb1
 have hlen:l.length=m.length:=by have:=hb1_;omega
 refine au<|ao<|ae hP<|ak rfl<|ab (aU hT rfl rfl rfl (by rfl)) ?_
 refine ak rfl<|ag<|aA<|bg (ι:=Nat) (fun k=>stL [(0,.p (.c (SL enI l))),(1,.p (.c (SL enI m))),(2,.p (.c (.v (.func (.func 138) #[] #[])))),(15,.p (.c (SL enI l))),(16,Z (l.length:Int)),(17,Z (k:Int))] []) (fun k=>SmG l m k) (fun k=>l.length - k) 0 (SmG.start hlen) (aD ⟨.refl _,.refl _,.refl _,.refl _,.refl _,.refl _,trivial⟩ trivial) ?_
 intro k hI
 have hk:=hI.le
 refine ae hP<|ab (bi rfl rfl)<|ag<|ao ?_
 refine az rfl (fun hb2=>?_) (fun hb2=>?_)
 ·have hb2_:=dT0 hb2
  refine au<|ao<|aA<|ae hP<|ak rfl<|ab (b5 hT dj (by decide) 0 (n:=(k:Int)) (l:=l) rfl rfl rfl rfl rfl rfl (by omega)) ?_
  refine ab (bf hT rfl rfl rfl (cs:=enI (l.getD k 0)) rfl rfl) ?_
  refine aq ai (aC hT rfl rfl)<|aj rfl<|aI hT rfl<|ag<|ae hP<|ak rfl<|ak rfl<|ab (b5 hT dj (by decide) 0 (n:=(k:Int)) (l:=m) rfl rfl rfl rfl rfl rfl (by omega)) ?_
  refine ab (bf hT rfl rfl rfl (cs:=enI (m.getD k 0)) rfl rfl) ?_
  refine aq ai (aC hT rfl rfl)<|aI hT rfl<|ag<|ae hP<|ak rfl<|av hT rfl<|av hT rfl<|ab (Eff.callF rfl (fI _ _)) ?_
  refine ab (bt rfl)<|ag ?_
  refine az rfl (fun hb3=>?_) (fun hb3=>?_)
  ·have hb3_:=(bX hb3)
   refine ae hP<|aj rfl<|ag<|am<|E1 rfl rfl ?_
   exact aT (decide_eq_false (SmG.no (d:=0) (fun e=>dF0 (bX hb3) e))).symm
  have hb3_:=(bU hb3)
  refine au<|aw hP<|bv rfl rfl ?_
  refine ak rfl<|ag ?_
  refine ⟨k+1,hI.next (d:=0) (by omega) (dT0 (bU hb3)),by omega,aD ⟨.refl _,.refl _,.refl _,.refl _,.refl _,aM (by omega),trivial⟩ trivial⟩
 have hb2_:=dF0 hb2
 refine aZ<|ae hP<|aj rfl<|ag<|am<|E1 rfl rfl ?_
 exact aT (decide_eq_true (hI.yes (by omega))).symm
theorem sr (l m:List Fm) (hl:(l.length:Int)≤1000000000) :
  aJ Tryz.prog 164 [.p (.c (FS l)),.p (.c (FS m)),.p (.c (.v (.func (.func 165) #[] #[])))] (B (decide (l=m))):=by
 refine aO Tryz.func164 rfl rfl rfl rfl ?_
 refine ae hP<|aj rfl<|ag<|ao<|ae hP<|ak rfl<|ab (aU hT rfl rfl rfl (by rfl)) ?_
 refine ak rfl<|ab (aU hT rfl rfl rfl (by rfl)) ?_
 refine ab (bq rfl rfl)<|ag ?_
 refine az rfl (fun hb1=>?_) (fun hb1=>?_)
 ·have hb1_:=bY hb1
  refine ae hP<|aj rfl<|ag<|am<|E1 rfl rfl ?_
  exact aT (decide_eq_false (fun e=>hb1_ (by rw [e]))).symm
 have hb1_:=bS hb1
 have hlen:l.length=m.length:=by have:=hb1_;omega
 refine au<|ao<|ae hP<|ak rfl<|ab (aU hT rfl rfl rfl (by rfl)) ?_
 refine ak rfl<|ag<|aA<|bg (ι:=Nat) (fun k=>stL [(0,.p (.c (FS l))),(1,.p (.c (FS m))),(2,.p (.c (.v (.func (.func 165) #[] #[])))),(15,.p (.c (FS l))),(16,Z (l.length:Int)),(17,Z (k:Int))] []) (fun k=>SmG l m k) (fun k=>l.length - k) 0 (SmG.start hlen) (aD ⟨.refl _,.refl _,.refl _,.refl _,.refl _,.refl _,trivial⟩ trivial) ?_
 intro k hI
 have hk:=hI.le
 refine ae hP<|ab (bi rfl rfl)<|ag<|ao ?_
 refine az rfl (fun hb2=>?_) (fun hb2=>?_)
 ·have hb2_:=dT0 hb2
  refine au<|ao<|aA<|ae hP<|ak rfl<|ab (fX hT (n:=(k:Int)) rfl rfl rfl rfl rfl rfl (by omega)) ?_
  refine ab (bf hT rfl rfl rfl (cs:=FC (l.getD k ⟨0,0,0⟩)) rfl rfl) ?_
  refine aq ai (aC hT rfl rfl)<|aj rfl<|aI hT rfl<|ag<|ae hP<|ak rfl<|ak rfl<|ab (fX hT (n:=(k:Int)) rfl rfl rfl rfl rfl rfl (by omega)) ?_
  refine ab (bf hT rfl rfl rfl (cs:=FC (m.getD k ⟨0,0,0⟩)) rfl rfl) ?_
  refine aq ai (aC hT rfl rfl)<|aI hT rfl<|ag<|ae hP<|ak rfl<|br hT rfl rfl rfl rfl rfl rfl<|br hT rfl rfl rfl rfl rfl rfl<|ab (Eff.callF rfl (pP _ _ _ _ _ _)) ?_
  refine ab (bt rfl)<|ag ?_
  refine az rfl (fun hb3=>?_) (fun hb3=>?_)
  ·have hb3_:=(bX hb3)
   refine ae hP<|aj rfl<|ag<|am<|E1 rfl rfl ?_
   exact aT (decide_eq_false (SmG.no (d:=⟨0,0,0⟩) (fun e=>dF0 (bX hb3) ⟨congrArg Fm.a e,congrArg Fm.b e,congrArg Fm.c e⟩))).symm
  have hb3_:=(bU hb3)
  refine au<|aw hP<|bv rfl rfl ?_
  refine ak rfl<|ag ?_
  refine ⟨k+1,hI.next (d:=⟨0,0,0⟩) (by omega) (Fm.ext (dT0 (bU hb3)).1 (dT0 (bU hb3)).2.1 (dT0 (bU hb3)).2.2),by omega,aD ⟨.refl _,.refl _,.refl _,.refl _,.refl _,aM (by omega),trivial⟩ trivial⟩
 have hb2_:=dF0 hb2
 refine aZ<|ae hP<|aj rfl<|ag<|am<|E1 rfl rfl ?_
 exact aT (decide_eq_true (hI.yes (by omega))).symm
theorem sk (l:List Fm) (F:FuncId) (caps:List (List DV)) (p:Fm→Bool) (hc:∀ g:Fm,aJ Tryz.prog F ([FA g.a g.b g.c] ++ caps.map .ip) (B (p g))) (hl:(l.length:Int)≤1000000000) :
  aJ Tryz.prog 204 [.p (.c (FS l)),.fn F caps] (Z (jP p l 0)):=by
 refine aO Tryz.func204 rfl rfl rfl rfl ?_
 refine ae hP<|aj rfl<|ag<|ao<|ae hP<|ak rfl<|ab (aU hT rfl rfl rfl (by rfl)) ?_
 refine ak rfl<|ag<|aA<|bg (ι:=Nat) (fun k=>stL [(0,.p (.c (FS l))),(1,.fn F caps),(7,Z (l.length:Int)),(8,Z (k:Int))] []) (fun k=>k≤l.length∧jP p l 0=jP p (l.drop k) k) (fun k=>l.length - k) 0 ⟨Nat.zero_le _,rfl⟩ (aD ⟨.refl _,.refl _,.refl _,.refl _,trivial⟩ trivial) ?_
 rintro k ⟨hk,hI⟩
 refine ae hP<|ab (bi rfl rfl)<|ag<|ao ?_
 refine az rfl (fun hb1=>?_) (fun hb1=>?_)
 ·have hb1_:=dT0 hb1
  refine au<|ao<|aA<|ae hP<|ak rfl<|aj rfl<|ag<|ae hP<|ab (aB (rfl:_=AV.fn _ _))<|ak rfl<|ak rfl<|ab (fX hT (n:=(k:Int)) rfl rfl rfl rfl rfl rfl (by omega)) ?_
  refine ab (bf hT rfl rfl rfl (cs:=FC (l.getD k ⟨0,0,0⟩)) rfl rfl) ?_
  refine ab (Eff.callC rfl (hc (l.getD k ⟨0,0,0⟩))) ?_
  refine ag ?_
  refine az rfl (fun hb2=>?_) (fun hb2=>?_)
  ·refine ae hP<|ak rfl<|aj rfl<|ag<|am<|E1 rfl rfl ?_
   exact aM (hI.trans (CE (by omega) hb2)).symm
  refine au<|aw hP<|bv rfl rfl ?_
  refine ak rfl<|ag ?_
  refine ⟨k+1,⟨by omega,hI.trans (Af (by omega) hb2)⟩,by omega,aD ⟨.refl _,.refl _,.refl _,aM (by omega),trivial⟩ trivial⟩
 have hb1_:=dF0 hb1
 refine aZ<|ae hP<|aj rfl<|ag<|am<|E1 rfl rfl ?_
 exact aM (hI.trans (CF (by omega))).symm
theorem oF (l:List Fm) (F:FuncId) (caps:List (List DV)) (p:Fm→Bool) (hc:∀ g:Fm,aJ Tryz.prog F ([FA g.a g.b g.c] ++ caps.map .ip) (B (p g))) (hl:(l.length:Int)≤1000000000) :
  aJ Tryz.prog 166 [.p (.c (FS l)),.fn F caps] (B (l.any p)):=by
 refine aO Tryz.func166 rfl rfl rfl rfl ?_
 refine ae hP<|aj rfl<|ag<|ae hP<|ak rfl<|ab (aB (rfl:_=AV.fn _ _))<|ab (ah (sk l F caps p hc hl)) ?_
 refine ab (dm rfl rfl)<|aj rfl<|ag<|am<|E1 rfl rfl ?_
 exact aT (uK l 0)
theorem tL (a:Ans) (x:Int) (hx:bp x) :
  aJ Tryz.prog 162 [Z x,.ip (anS a)] (B (decide (a.m=x))):=by
 refine aO Tryz.func162 rfl rfl rfl rfl ?_
 refine ae hP<|aj rfl<|ag<|ae hP<|ab (fJ hT rfl rfl rfl rfl rfl rfl)<|ab (bf hT rfl rfl rfl (cs:=enI a.m) rfl rfl)<|ak rfl<|ab (ah (fe x hx)) ?_
 refine ab (ah (fI _ _)) ?_
 refine aj rfl<|ag<|am<|E1 rfl rfl ?_
 exact .refl _
theorem B3 (g o:Fm) :
  aJ Tryz.prog 167 [FA g.a g.b g.c,.ip [zn o.a,zm o.a,zn o.b,zm o.b,zn o.c,zm o.c]] (B (decide (g.a=o.a∧g.b=o.b∧g.c=o.c))):=by
 refine aO Tryz.func167 rfl rfl rfl rfl ?_
 refine ae hP<|aq ai (aL rfl rfl)<|aj rfl<|ag<|ae hP<|br hT rfl rfl rfl rfl rfl rfl<|ab (bf hT rfl rfl rfl (cs:=[_,_,_,_,_,_]) rfl rfl)<|ab (ah (pP _ _ _ _ _ _)) ?_
 refine aj rfl<|ag<|am<|E1 rfl rfl ?_
 exact .refl _
theorem Gu (f:Fm) (D:Int) (m:Nat) (hfa:L 6 f.a) (hfb:L 6 f.b) (hfc:L 6 f.c) (hf:Cl D f) (hD:-4194304≤D∧D < 0) (hm:1≤m∧m≤65536) (hE:szE D=0) (a:Ans) (hax:L 30 a.x) (hay:L 30 a.y) (hlr:(a.roots.length:Int)≤1000000) (hlf:(a.forms.length:Int)≤1000000) :
  aJ Tryz.prog 101 [FA f.a f.b f.c,Z (m:Int),.p (.a (anS a))] (B (rgV D m f a)):=by
 have fa:LB f.a 6:=⟨hfa⟩
 have fb:LB f.b 6:=⟨hfb⟩
 have fc:LB f.c 6:=⟨hfc⟩
 have iD:LB D 6:=⟨by unfold L;omega⟩
 have hdf:dsc f.a f.b f.c=D:=hf.disc
 have iax:LB a.x 30:=⟨hax⟩
 have iay:LB a.y 30:=⟨hay⟩
 have cDs:aJ Tryz.prog 40 [FA f.a f.b f.c] (I D):=by rw [← hdf];exact fV f.a f.b f.c lz lz lz
 have cRd:aJ Tryz.prog 41 [FA f.a f.b f.c] (.t [PF f.rd,PM (rdM f.a f.b f.c),PE (rdE f.a f.b f.c)]):=jg f.a f.b f.c lz lz lz
 have hfl:=Ms (D:=D) (hm:=hm.2)
 have cFn:=fun g=>B3 g f.rd
 refine aO Tryz.func101 rfl rfl rfl rfl ?_
 refine ae hP<|aq ai (aL rfl rfl)<|aq ai (aL rfl rfl)<|aq ai (aC hT rfl rfl)<|ag<|ae hP<|br hT rfl rfl rfl rfl rfl rfl<|ab (ah cDs) ?_
 refine aq ai (aC hT rfl rfl)<|aI hT rfl<|ag<|ao<|ae hP<|aG hT rfl<|a8 hT rfl rfl rfl rfl ?_
 refine ag<|aA<|ae hP<|ab (bh rfl rfl)<|aj rfl<|ag ?_
 refine az rfl (fun hb1=>?_) (fun hb1=>?_)
 ·have hb1_:=bT hb1
  have k1:=bT hb1
  refine ae hP<|aG hT rfl<|av hT rfl<|aG hT rfl<|av hT rfl<|ab (ah (nU a.x a.y lz lz)) ?_
  refine ab (ah (fe 1 (by decide))) ?_
  refine ab (ah (fI _ _)) ?_
  refine ak rfl ?_
  refine aW (t:=28) rfl (fun hg2=>?_) (fun hg2=>?_)
  ·have hgc:=hg2
   refine ay hg2 (aF hT rfl rfl rfl rfl (cs:=[_,_,_,_,_,_]) rfl rfl) ?_
   refine ay hg2 (aP hT rfl rfl rfl rfl rfl rfl) ?_
   refine ay hg2 (aF hT rfl rfl rfl rfl (cs:=[_,_]) rfl rfl) ?_
   refine ay hg2 (aP hT rfl rfl rfl rfl rfl rfl) ?_
   refine ay hg2 (aF hT rfl rfl rfl rfl (cs:=[_,_]) rfl rfl) ?_
   refine ay hg2 (ah (qw f.a f.b f.c a.x a.y lz lz lz lz lz)) ?_
   refine ay hg2 (aB (rfl:_=AV.p (.c _))) ?_
   refine ay hg2 (ah (fe (m:Int) (by unfold bp;omega))) ?_
   refine ay hg2 (ah (fI _ _)) ?_
   refine ab (aN rfl hg2 (rfl:_=AV.p (.c _)))<|aI hT rfl<|ag<|am ?_
   refine bW rfl (.inr rfl) (cq hT rfl rfl rfl rfl rfl) ?_ bu
   exact aT (M4 k1 hgc)
  have hgc:=hg2
  iterate 9 refine aX hg2 ?_
  refine ab (aK rfl hg2 (rfl:_=AV.p (.c _)))<|aI hT rfl<|ag<|am ?_
  refine bW rfl (.inr rfl) (cq hT rfl rfl rfl rfl rfl) ?_ bu
  exact aT (Lo k1 hgc)
 have hb1_:=bF hb1
 have k1:=bF hb1
 refine ae hP<|ab (bh rfl rfl)<|aj rfl<|ag ?_
 refine az rfl (fun hb3=>?_) (fun hb3=>?_)
 ·have hb3_:=bT hb3
  have k2:=bT hb3
  refine cT (t:=5) rfl rfl ?_
  refine ae hP<|ab (kt rfl)<|aq ai (aC hT rfl rfl)<|aI hT rfl<|ag<|ao<|ae hP<|br hT rfl rfl rfl rfl rfl rfl<|ak rfl<|ab (ah (rI f m)) ?_
  refine ag<|aA<|dq (t:=stL [(1,Z (m:Int)),(3,.loc 3 0),(6,.loc 6 0),(7,.loc 7 0),(8,.loc 8 0),(44,.fn 137 [[zn f.a,zm f.a,zn f.b,zm f.b,zn f.c,zm f.c],[.v (.int .i64 (m:Int))]])] [(3,⟨false,1,46,[zn f.a,zm f.a,zn f.b,zm f.b,zn f.c,zm f.c]⟩),(6,⟨false,1,4,[.v (.bool false)]⟩),(7,⟨false,1,29,[zn D,zm D]⟩),(8,⟨false,1,183,[.fn 162 [.ip (anS a)]]⟩)]) (aD ⟨.refl _,.refl _,.refl _,.refl _,.refl _,.refl _,trivial⟩ ⟨rfl,rfl,rfl,rfl,trivial⟩) ?_
  refine fC 9 (fun _=>cU [(3,⟨false,1,46,[zn f.a,zm f.a,zn f.b,zm f.b,zn f.c,zm f.c]⟩),(6,⟨false,1,4,[.v (.bool false)]⟩),(7,⟨false,1,29,[zn D,zm D]⟩),(8,⟨false,1,183,[.fn 162 [.ip (anS a)]]⟩)]) (AgN D m f a.m) rfl (pQ f D m hfa hfb hfc hf hD hm hE) AH rfl rfl rfl AgN.start (fun k x hx hI=>?_) (fun hI=>?_)
  ·obtain ⟨c,hc,rfl⟩:=EC hx
   refine aw hP<|aj rfl<|ag<|aA<|ae hP<|a8 hT rfl rfl rfl rfl ?_
   refine ak rfl<|ab (Eff.callD (caps:=[anS a]) rfl (tL a c (by have:=Db hD hc;unfold bp;omega))) ?_
   refine ag ?_
   refine az rfl (fun hb4=>?_) (fun hb4=>?_)
   ·have he:=dT0 hb4
    refine ae hP<|aI hT rfl<|ag<|am ?_
    refine ⟨_,GW.forget fun _=>.inl rfl,?_⟩
    refine bW rfl (.inr rfl) (cq hT rfl rfl rfl rfl rfl) ?_ bu
    exact aT (BF k1 k2 (I5 hc he))
   have he:=dF0 hb4
   refine au ?_
   exact ⟨GW.forget fun x=>SubO.own (l:=[(3,⟨false,1,46,[zn f.a,zm f.a,zn f.b,zm f.b,zn f.c,zm f.c]⟩),(6,⟨false,1,4,[.v (.bool false)]⟩),(7,⟨false,1,29,[zn D,zm D]⟩),(8,⟨false,1,183,[.fn 162 [.ip (anS a)]]⟩)]) ⟨rfl,rfl,rfl,rfl,trivial⟩ x,hI.next hc he⟩
  have hna:=hI.done rfl
  clear hI
  refine ao<|ae hP<|ak rfl<|aq ai (Eff.callG (ww m)) ?_
  refine ag<|aA<|dq (t:=stL [(50,.fnl 135 50),(1,Z (m:Int)),(3,.loc 3 0),(6,.loc 6 0),(7,.loc 7 0),(8,.loc 8 0)] ((50,⟨false,1,3,[.v (.int .i64 ((m:Nat):Int))]⟩) :: [(3,⟨false,1,46,[zn f.a,zm f.a,zn f.b,zm f.b,zn f.c,zm f.c]⟩),(6,⟨false,1,4,[.v (.bool false)]⟩),(7,⟨false,1,29,[zn D,zm D]⟩),(8,⟨false,1,183,[.fn 162 [.ip (anS a)]]⟩)])) (aD ⟨.refl _,.refl _,.refl _,.refl _,.refl _,.refl _,trivial⟩ ⟨rfl,rfl,rfl,rfl,rfl,trivial⟩) ?_
  refine qf (l:=[(1,Z (m:Int)),(3,.loc 3 0),(6,.loc 6 0),(7,.loc 7 0),(8,.loc 8 0)]) (o:=cU ((50,⟨false,1,3,[.v (.int .i64 ((m:Nat):Int))]⟩) :: [(3,⟨false,1,46,[zn f.a,zm f.a,zn f.b,zm f.b,zn f.c,zm f.c]⟩),(6,⟨false,1,4,[.v (.bool false)]⟩),(7,⟨false,1,29,[zn D,zm D]⟩),(8,⟨false,1,183,[.fn 162 [.ip (anS a)]]⟩)])) 51 (fun _=>cU [(3,⟨false,1,46,[zn f.a,zm f.a,zn f.b,zm f.b,zn f.c,zm f.c]⟩),(6,⟨false,1,4,[.v (.bool false)]⟩),(7,⟨false,1,29,[zn D,zm D]⟩),(8,⟨false,1,183,[.fn 162 [.ip (anS a)]]⟩)]) (PtX m a.m) (tN m hm) rfl rfl rfl rfl (tR rfl) zz rfl rfl rfl PtX.start (fun k x hx hI=>?_) (fun hI=>?_)
  ·obtain ⟨q,hq,rfl⟩:=D7 hx
   refine aw hP<|aj rfl<|ag<|aA<|ae hP<|a8 hT rfl rfl rfl rfl ?_
   refine ak rfl<|ab (Eff.callD (caps:=[anS a]) rfl (tL a (q:Int) (by have:=xN hm hq;unfold bp;omega))) ?_
   refine ag ?_
   refine az rfl (fun hb5=>?_) (fun hb5=>?_)
   ·have he:=dT0 hb5
    refine ae hP<|av hT rfl<|ak rfl<|ab (ah (rH D q hD (xN hm hq))) ?_
    refine aI hT rfl<|ag<|am ?_
    refine ⟨_,GW.forget fun _=>.inl rfl,?_⟩
    refine bW rfl (.inr rfl) (cq hT rfl rfl rfl rfl rfl) ?_ bu
    exact aT (BF k1 k2 (I3 hna hq he))
   have he:=dF0 hb5
   refine au ?_
   exact ⟨GW.forget fun x=>SubO.own (l:=[(3,⟨false,1,46,[zn f.a,zm f.a,zn f.b,zm f.b,zn f.c,zm f.c]⟩),(6,⟨false,1,4,[.v (.bool false)]⟩),(7,⟨false,1,29,[zn D,zm D]⟩),(8,⟨false,1,183,[.fn 162 [.ip (anS a)]]⟩)]) ⟨rfl,rfl,rfl,rfl,trivial⟩ x,hI.next hq he⟩
  refine ae hP<|aI hT rfl<|ag<|am ?_
  refine bW rfl (.inr rfl) (cq hT rfl rfl rfl rfl rfl) ?_ bu
  exact aT (BF k1 k2 (I4 hna hI rfl))
 have hb3_:=bF hb3
 have k2:=bF hb3
 refine au<|ae hP<|br hT rfl rfl rfl rfl rfl rfl<|ab (ah cRd) ?_
 refine ab (aB (rfl:_=AV.t _))<|ab (aE rfl (v:=.a _) rfl)<|ab (aE rfl (v:=.a _) rfl)<|ab (aE rfl (v:=.c _) rfl)<|aq ai (aC hT rfl rfl)<|aq ai (aC hT rfl rfl)<|aI hT rfl<|aI hT rfl<|aj rfl<|ag<|ae hP<|av hT rfl<|ak rfl<|ab (ah (rG D m hD hm)) ?_
 refine aj rfl<|ag<|cT (t:=11) rfl rfl ?_
 refine ae hP<|ak rfl<|ab (aU hT rfl rfl rfl (by rfl)) ?_
 refine ab (bK rfl rfl)<|ak rfl ?_
 refine aW (t:=70) rfl (fun hg6=>?_) (fun hg6=>?_)
 ·have hg6_:=dT0 hg6
  have q1:=hg6
  refine ay hg6 (aP hT rfl rfl rfl rfl rfl rfl) ?_
  refine ay hg6 (bC hT rfl rfl rfl rfl (by first | rfl | exact dw (by omega))) ?_
  refine ay hg6 (aF hT rfl rfl rfl rfl (cs:=[_,_]) rfl rfl) ?_
  refine ay hg6 (aB (rfl:_=AV.p (.c _))) ?_
  refine ay hg6 (ah (tP D m hD hm)) ?_
  refine ay hg6 (ah (sn a.roots (rbL D m) (by omega))) ?_
  refine ab (aN rfl hg6 (rfl:_=AV.p (.c _)))<|ak rfl ?_
  refine aW (t:=78) rfl (fun hg7=>?_) (fun hg7=>?_)
  ·have q2:=hg7
   refine ay hg7 (aP hT rfl rfl rfl rfl rfl rfl) ?_
   refine ay hg7 (bC hT rfl rfl rfl rfl (by first | rfl | exact dw (by omega))) ?_
   refine ay hg7 (aB (rfl:_=AV.p (.c _))) ?_
   refine ay hg7 (ah (sr a.forms (fmL D m) (by omega))) ?_
   refine ab (aN rfl hg7 (rfl:_=AV.p (.c _)))<|ak rfl ?_
   refine aW (t:=84) rfl (fun hg8=>?_) (fun hg8=>?_)
   ·have q3:=hg8
    refine ay hg8 (aB (rfl:_=AV.p (.c _))) ?_
    refine ay hg8 (ou rfl) ?_
    refine ay hg8 (ah (oF (fmL D m) 167 [[zn f.rd.a,zm f.rd.a,zn f.rd.b,zm f.rd.b,zn f.rd.c,zm f.rd.c]] _ cFn (by omega))) ?_
    refine ay hg8 (bt rfl) ?_
    refine ab (aN rfl hg8 (rfl:_=AV.p (.c _)))<|aI hT rfl<|ag<|am ?_
    refine bW rfl (.inr rfl) (cq hT rfl rfl rfl rfl rfl) ?_ bu
    exact aT (xt k1 k2 (by rw [rg3 q1 q2 q3,KS]))
   have q3:=hg8
   iterate 4 refine aX hg8 ?_
   refine ab (aK rfl hg8 (rfl:_=AV.p (.c _)))<|aI hT rfl<|ag<|am ?_
   refine bW rfl (.inr rfl) (cq hT rfl rfl rfl rfl rfl) ?_ bu
   exact aT (xt k1 k2 (Lx q3))
  have q2:=hg7
  iterate 4 refine aX hg7 ?_
  refine ab (aK rfl hg7 (rfl:_=AV.p (.c _)))<|ak rfl<|aX rfl ?_
  iterate 3 refine aX rfl ?_
  refine ab (aK rfl rfl (rfl:_=AV.p (.c _)))<|aI hT rfl<|ag<|am ?_
  refine bW rfl (.inr rfl) (cq hT rfl rfl rfl rfl rfl) ?_ bu
  exact aT (xt k1 k2 (DY q2))
 have hg6_:=dF0 hg6
 have q1:=hg6
 iterate 6 refine aX hg6 ?_
 refine ab (aK rfl hg6 (rfl:_=AV.p (.c _)))<|ak rfl<|aX rfl ?_
 iterate 3 refine aX rfl ?_
 refine ab (aK rfl rfl (rfl:_=AV.p (.c _)))<|ak rfl<|aX rfl ?_
 iterate 3 refine aX rfl ?_
 refine ab (aK rfl rfl (rfl:_=AV.p (.c _)))<|aI hT rfl<|ag<|am ?_
 refine bW rfl (.inr rfl) (cq hT rfl rfl rfl rfl rfl) ?_ bu
 exact aT (xt k1 k2 (DZ q1))
end
end Go.Proofs.YthaiejfjnllglaaGreatDoor
