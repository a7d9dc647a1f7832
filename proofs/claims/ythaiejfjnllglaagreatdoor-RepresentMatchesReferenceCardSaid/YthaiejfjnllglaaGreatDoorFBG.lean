import Derived.Test.YthaiejfjnllglaaGreatDoorFBF
import Derived.Test.YthaiejfjnllglaaGreatDoorFBB
import Derived.Test.YthaiejfjnllglaaGreatDoorFBE
import Derived.Test.YthaiejfjnllglaaGreatDoorFBC
set_option maxRecDepth 100000
set_option maxHeartbeats 6000000
namespace Go.Proofs.YthaiejfjnllglaaGreatDoor
section
open Go Go.AM
theorem GI (a b c p q r s t u v w:Int) (ha:L 34 a) (hb:L 34 b) (hc:L 34 c) (hp:L 34 p) (hq:L 34 q) (hr:L 34 r) (hs:L 34 s) (ht:L 34 t) (hu:L 34 u) (hv:L 34 v) (hw:L 34 w) :
  CallM Tryz.prog 114 [.loc 0 0,I t,I u,I v,I w] (upd O 0 (some ⟨false,1,163,[zn (a),zm (a),zn (b),zm (b),zn (c),zm (c),zn (p),zm (p),zn (q),zm (q),zn (r),zm (r),zn (s),zm (s)]⟩)) (.t []) (upd O 0 (some ⟨false,1,163,[zn (vl a b c t v),zm (vl a b c t v),zn (apB a b c t u v w),zm (apB a b c t u v w),zn (vl a b c u w),zm (vl a b c u w),zn (p*t+q*v),zm (p*t+q*v),zn (p*u+q*w),zm (p*u+q*w),zn (r*t+s*v),zm (r*t+s*v),zn (r*u+s*w),zm (r*u+s*w)]⟩)):=by
 have ia:LB a 34:=⟨ha⟩
 have ib:LB b 34:=⟨hb⟩
 have ic:LB c 34:=⟨hc⟩
 have ip:LB p 34:=⟨hp⟩
 have iq:LB q 34:=⟨hq⟩
 have ir:LB r 34:=⟨hr⟩
 have is:LB s 34:=⟨hs⟩
 have it:LB t 34:=⟨ht⟩
 have iu:LB u 34:=⟨hu⟩
 have iv:LB v 34:=⟨hv⟩
 have iw:LB w 34:=⟨hw⟩
 refine mq (np:=1) Tryz.func114 (by kernel_rfl) rfl rfl (bL0 rfl) qn oG rfl ?_
 refine ae hP<|aq ai (aL rfl rfl)<|aq ai (aL rfl rfl)<|aq ai (aL rfl rfl)<|aq ai (aL rfl rfl)<|ag<|ae hP<|av hT rfl<|av hT rfl<|av hT rfl<|av hT rfl<|ab (aR hT rfl rfl rfl (es:=[_,_,_,_,_,_,_,_]) rfl)<|aq ai (aB hT rfl rfl)<|aG hT rfl<|ag<|aw hP<|ab (az (rfl:_=AV.loc _ _))<|ab (az (rfl:_=AV.loc _ _))<|ab (az (rfl:_=AV.loc _ _))<|ab (cJ rfl)<|aI hT rfl<|br hT rfl rfl rfl rfl rfl rfl<|ab (aJ hT rfl rfl rfl rfl (cs:=[_,_,_,_,_,_,_,_]) rfl rfl)<|ab (ah (GJ _ _ _ _ _ _ _ lz lz lz lz lz lz lz)) ?_
 refine ab (az (rfl:_=AV.loc _ _))<|ab (cJ rfl)<|aI hT rfl<|ab (aJ hT rfl rfl rfl rfl (cs:=[_,_,_,_,_,_,_,_]) rfl rfl)<|ab (aJ hT rfl rfl rfl rfl (cs:=[_,_,_,_,_,_,_,_]) rfl rfl)<|ab (ah (wH _ _ _ _ _ _ _ _ lz lz lz lz lz lz lz lz)) ?_
 refine ab (cJ rfl)<|aI hT rfl<|aG hT rfl<|ab (cJ rfl)<|aI hT rfl<|aG hT rfl<|ag ?_
 refine ni rfl (.inl rfl)  ?_ (oS rfl)
 exact .refl _
theorem zQ (m:Nat) (a b c p q r s t u v w:Int) (ha:L 34 a) (hb:L 34 b) (hc:L 34 c) (hp:L 34 p) (hq:L 34 q) (hr:L 34 r) (hs:L 34 s) (ht:L 34 t) (hu:L 34 u) (hv:L 34 v) (hw:L 34 w) :
  CallM Tryz.prog 114 [.loc m 0,I t,I u,I v,I w] (upd O m (some ⟨false,1,163,[zn (a),zm (a),zn (b),zm (b),zn (c),zm (c),zn (p),zm (p),zn (q),zm (q),zn (r),zm (r),zn (s),zm (s)]⟩)) (.t []) (upd O m (some ⟨false,1,163,[zn (vl a b c t v),zm (vl a b c t v),zn (apB a b c t u v w),zm (apB a b c t u v w),zn (vl a b c u w),zm (vl a b c u w),zn (p*t+q*v),zm (p*t+q*v),zn (p*u+q*w),zm (p*u+q*w),zn (r*t+s*v),zm (r*t+s*v),zn (r*u+s*w),zm (r*u+s*w)]⟩)):=CallM.ren1 m (GI a b c p q r s t u v w ha hb hc hp hq hr hs ht hu hv hw) rfl rfl
theorem jk (a b c:Int) (ha:L 26 a) (hb:L 26 b) (hc:L 26 c) :
  aH Tryz.prog 41 [FA a b c] (.t [PF (rdF a b c),PM (rdM a b c),PE (rdE a b c)]):=by
 have ia:LB a 26:=⟨ha⟩
 have ib:LB b 26:=⟨hb⟩
 have ic:LB c 26:=⟨hc⟩
 obtain ⟨M,hMa,hMc,hM0,hML⟩:=ha.max2 hc
 refine aM Tryz.func41 rfl rfl rfl rfl ?_
 refine ae hP<|aq ai (aL rfl rfl)<|aq ai (aB hT rfl rfl)<|aq ai (aB hT rfl rfl)<|aj rfl<|ag<|ae hP<|br hT rfl rfl rfl rfl rfl rfl<|ab (ah (nP _ _ _ lz lz lz)) ?_
 refine aj rfl<|ag<|ao<|ae hP<|ak rfl<|ab (bj rfl rfl)<|ak rfl ?_
 refine aY (t:=16) rfl (fun hg1=>?_) (fun hg1=>?_)
 ·have hg1_:=bT hg1
  refine aA hg1 (aJ hT rfl rfl rfl rfl (cs:=[_,_,_,_,_,_]) rfl rfl) ?_
  refine aA hg1 (ah (gh _ _ _ lz lz lz)) ?_
  refine aA hg1 (ah (dy _)) ?_
  refine aA hg1 (bJ rfl rfl) ?_
  refine ab (aO rfl hg1 (rfl:_=AV.p (.c _)))<|ag ?_
  refine ay rfl (fun hb2=>?_) (fun hb2=>?_)
  ·have hb2_:=dT0 hb2
   refine aw hP<|aj rfl<|ag<|ao<|ae hP<|ak rfl<|ab (bq rfl rfl)<|ag<|aU rfl rfl<|ae hP<|ab (aR hT rfl rfl rfl (es:=[_,_,_,_,_,_]) rfl)<|ab (aR hT rfl rfl rfl (es:=[_,_,_,_,_,_,_,_]) rfl)<|ak rfl<|aG hT rfl<|aG hT rfl<|aj rfl<|ag<|am ?_
   refine cK rfl (.inr rfl) (aP hT rfl rfl rfl rfl (cs:=[_,_,_,_,_,_]) rfl rfl) (aP hT rfl rfl rfl rfl (cs:=[_,_,_,_,_,_,_,_]) rfl rfl) (bK rfl) ?_ bt
   exact aF (nI (Es hg1 hb2_) (by decide))
  have hb2_:=dF0 hb2
  refine au<|ao<|ae hP<|ak rfl<|ab (bq rfl rfl)<|ag<|aQ rfl (by rw [bne,hg1];rfl) ?_
  refine au<|ae hP<|ab (ah (eQ _ (by first | assumption | decide))) ?_
  refine ab (ah (eQ _ (by first | assumption | decide))) ?_
  refine aq ai (aB hT rfl rfl)<|aq ai (aB hT rfl rfl)<|aG hT rfl<|aG hT rfl<|ag<|ae hP<|br hT rfl rfl rfl rfl rfl rfl<|av hT rfl<|av hT rfl<|av hT rfl<|av hT rfl<|ab (aR hT rfl rfl rfl (es:=[_,_,_,_,_,_,_,_]) rfl)<|ab (aR hT rfl rfl rfl (es:=[_,_,_,_,_,_,_,_,_,_,_,_,_,_]) rfl)<|aq ai (aL rfl rfl)<|ab (a8 (rfl:_=AV.loc _ _))<|ag<|ao<|aC ?_
  have he0:=Et hg1 hb2_
  have hp0:=lq he0
  refine bl (ι:=(Fm × Mt) × Nat) (fun i=>stL [(2,.loc 2 0),(3,.loc 3 0),(6,.loc 6 0),(7,.loc 7 0),(8,.loc 36 0)] [(2,⟨false,1,46,FL 0 0 0⟩),(3,⟨false,1,87,ML 0 0 0 0⟩),(6,⟨false,1,29,[zn 1,zm 1]⟩),(7,⟨false,1,29,[zn 0,zm 0]⟩),(36,⟨false,1,163,[zn (i.1.1.a),zm (i.1.1.a),zn (i.1.1.b),zm (i.1.1.b),zn (i.1.1.c),zm (i.1.1.c),zn (i.1.2.a),zm (i.1.2.a),zn (i.1.2.b),zm (i.1.2.b),zn (i.1.2.c),zm (i.1.2.c),zn (i.1.2.d),zm (i.1.2.d)]⟩)]) (fun i=>AM.Good ⟨a,b,c⟩ M i.1∧i.1.1.mu≤i.2∧eZ i.2 i.1=eZ (Fm.mu ⟨a,b,c⟩) (⟨a,b,c⟩,.one)) (fun i=>i.2) ((⟨a,b,c⟩,.one),Fm.mu ⟨a,b,c⟩) ⟨oZ hp0 hMa hMc,Nat.le_refl _,rfl⟩ (aE ⟨.refl _,.refl _,.refl _,.refl _,.refl _,trivial⟩ ⟨rfl,rfl,rfl,rfl,rfl,trivial⟩) ?_
  rintro ⟨s,k⟩ ⟨hG,hk,hR⟩
  have hL:=hG.L hp0 hMa hMc hML
  have i1:LB s.1.a 27:=⟨hL.1.a⟩
  have i2:LB s.1.b 27:=⟨hL.1.b⟩
  have i3:LB s.1.c 27:=⟨hL.1.c⟩
  have i4:LB s.2.a 27:=⟨hL.2.a⟩
  have i5:LB s.2.b 27:=⟨hL.2.b⟩
  have i6:LB s.2.c 27:=⟨hL.2.c⟩
  have i7:LB s.2.d 27:=⟨hL.2.d⟩
  have hs0:2*s.1.a≠0:=by
   have h9:0 < s.1.a:=hG.pos.1
   omega
  have i8:LB s.1.k 28:=⟨by unfold Fm.k;exact lz⟩
  refine ao<|ae hP<|ab (az (rfl:_=AV.loc _ _))<|ab (cJ rfl)<|aI hT rfl<|br hT rfl rfl rfl rfl rfl rfl<|ab (ah (rJ _ _ _ lz lz lz)) ?_
  refine ab (bw rfl)<|ag ?_
  refine ay rfl (fun hb3=>?_) (fun hb3=>?_)
  ·have hb3_:=(bY hb3)
   refine au<|aC<|ae hP<|ab (az (rfl:_=AV.loc _ _))<|ab (cJ rfl)<|aI hT rfl<|aI hT rfl<|av hT rfl<|ab (az (rfl:_=AV.loc _ _))<|ab (cJ rfl)<|aI hT rfl<|aI hT rfl<|av hT rfl<|ab (ah (ke _ _ lz lz)) ?_
   refine ab (ah (eQ _ (by first | assumption | decide))) ?_
   refine ab (az (rfl:_=AV.loc _ _))<|ab (cJ rfl)<|aI hT rfl<|aI hT rfl<|av hT rfl<|ab (bg hT rfl rfl rfl (es:=[_,_,_,_]) rfl rfl rfl)<|ab (ah (dm _ _ lz lz)) ?_
   refine ab (ah (dZ _ _ lz lz hs0)) ?_
   refine ab (az (rfl:_=AV.t _))<|ab (aD rfl (v:=.a _) rfl)<|ab (aD rfl (v:=.a _) rfl)<|ab (aD rfl (v:=.c _) rfl)<|aq ai (aB hT rfl rfl)<|aq ai (aB hT rfl rfl)<|aG hT rfl<|aG hT rfl<|aj rfl<|ag<|ae hP<|ab (az (rfl:_=AV.loc _ _))<|av hT rfl<|av hT rfl<|av hT rfl<|av hT rfl<|RK.mut ai (Eff.call (rd:=[36]) (zQ 36 (s.1.a) (s.1.b) (s.1.c) (s.2.a) (s.2.b) (s.2.c) (s.2.d) _ _ _ _ lz lz lz lz lz lz lz lz lz lz lz) (kX rfl) jf) ?_
   refine ag<|ae hP<|ab (az (rfl:_=AV.loc _ _))<|ab (cJ rfl)<|aI hT rfl<|br hT rfl rfl rfl rfl rfl rfl<|ab (ah (rJ _ _ _ lz lz lz)) ?_
   refine ab (bw rfl)<|ag ?_
   refine ay rfl (fun hb4=>?_) (fun hb4=>?_)
   ·have hb4_:=(bY hb4)
    refine aw hP<|ab (az (rfl:_=AV.loc _ _))<|av hT rfl<|ab (ah (eQ _ (by first | assumption | decide))) ?_
    refine av hT rfl<|av hT rfl<|RK.mut ai (Eff.call (rd:=[36]) (zQ 36 (vl s.1.a s.1.b s.1.c 1 0) (apB s.1.a s.1.b s.1.c 1 s.1.k 0 1) (vl s.1.a s.1.b s.1.c s.1.k 1) (s.2.a*1+s.2.b*0) (s.2.a*s.1.k+s.2.b*1) (s.2.c*1+s.2.d*0) (s.2.c*s.1.k+s.2.d*1) _ _ _ _ lz lz lz lz lz lz lz lz lz lz lz) (kX rfl) jf) ?_
    refine ag ?_
    have hx:=nJ hG hk hR hb3 (Ef hb4)
    refine ⟨(((s.1.app (.T s.1.k)).app .S,(s.2.mul (.T s.1.k)).mul .S),k - 1),hx.1,hx.2,aE ⟨.refl _,.refl _,.refl _,.refl _,.refl _,trivial⟩ ⟨rfl,rfl,rfl,rfl,rfl,trivial⟩⟩
   have hb4_:=(bW hb4)
   refine au ?_
   have hx:=nJ hG hk hR hb3 (Ee hb4)
   refine ⟨((s.1.app (.T s.1.k),s.2.mul (.T s.1.k)),k - 1),hx.1,hx.2,aE ⟨.refl _,.refl _,.refl _,.refl _,.refl _,trivial⟩ ⟨rfl,rfl,rfl,rfl,rfl,trivial⟩⟩
  have hb3_:=(bW hb3)
  refine aW<|ae hP<|ab (az (rfl:_=AV.loc _ _))<|ab (cJ rfl)<|aI hT rfl<|br hT rfl rfl rfl rfl rfl rfl<|ab (az (rfl:_=AV.loc _ _))<|ab (cJ rfl)<|aI hT rfl<|ab (aJ hT rfl rfl rfl rfl (cs:=[_,_,_,_,_,_,_,_]) rfl rfl)<|aG hT rfl<|aG hT rfl<|aj rfl<|ag<|am ?_
  refine cK rfl (.inr rfl) (aP hT rfl rfl rfl rfl (cs:=[_,_,_,_,_,_]) rfl rfl) (aP hT rfl rfl rfl rfl (cs:=[_,_,_,_,_,_,_,_]) rfl rfl) (bK rfl) ?_ bt
  exact aF (zG he0 (wA hR hb3))
 have hg1_:=bF hg1
 iterate 4 refine aZ hg1 ?_
 refine ab (aN rfl hg1 (rfl:_=AV.p (.c _)))<|ag<|aQ rfl rfl<|au<|ao<|ae hP<|ak rfl<|ab (bq rfl rfl)<|ag<|aU rfl (by rw [bne,hg1];rfl) ?_
 refine ae hP<|ab (aR hT rfl rfl rfl (es:=[_,_,_,_,_,_]) rfl)<|ab (aR hT rfl rfl rfl (es:=[_,_,_,_,_,_,_,_]) rfl)<|ak rfl<|aG hT rfl<|aG hT rfl<|aj rfl<|ag<|am ?_
 refine cK rfl (.inr rfl) (aP hT rfl rfl rfl rfl (cs:=[_,_,_,_,_,_]) rfl rfl) (aP hT rfl rfl rfl rfl (cs:=[_,_,_,_,_,_,_,_]) rfl rfl) (bK rfl) ?_ bt
 exact aF (nI (zH hg1).1 (fun e=>by rw [e] at hg1;cases hg1))
theorem JT (a b c p q r:Int) (ha:L 26 a) (hb:L 26 b) (hc:L 26 c) (hp:L 26 p) (hq:L 26 q) (hr:L 26 r) :
  aH Tryz.prog 133 [FA a b c,FA p q r] (.t [PM (smM a b c p q r),PB (smB a b c p q r)]):=by
 have ia:LB a 26:=⟨ha⟩
 have ib:LB b 26:=⟨hb⟩
 have ic:LB c 26:=⟨hc⟩
 have ip:LB p 26:=⟨hp⟩
 have iq:LB q 26:=⟨hq⟩
 have ir:LB r 26:=⟨hr⟩
 refine aM Tryz.func133 rfl rfl rfl rfl ?_
 refine ae hP<|aq ai (aL rfl rfl)<|aq ai (aL rfl rfl)<|aq ai (aB hT rfl rfl)<|aj rfl<|ag<|ae hP<|br hT rfl rfl rfl rfl rfl rfl<|ab (ah (jk _ _ _ lz lz lz)) ?_
 refine ab (az (rfl:_=AV.t _))<|ab (aD rfl (v:=.a _) rfl)<|ab (aD rfl (v:=.a _) rfl)<|ab (aD rfl (v:=.c _) rfl)<|aq ai (aB hT rfl rfl)<|aq ai (aB hT rfl rfl)<|aG hT rfl<|aG hT rfl<|aj rfl<|ag<|ae hP<|br hT rfl rfl rfl rfl rfl rfl<|ab (ah (jk _ _ _ lz lz lz)) ?_
 refine ab (az (rfl:_=AV.t _))<|ab (aD rfl (v:=.a _) rfl)<|ab (aD rfl (v:=.a _) rfl)<|ab (aD rfl (v:=.c _) rfl)<|aq ai (aB hT rfl rfl)<|aq ai (aB hT rfl rfl)<|aG hT rfl<|aG hT rfl<|aj rfl<|ag<|ao<|ae hP<|ak rfl<|ab (bq rfl rfl)<|ak rfl ?_
 refine aY (t:=27) rfl (fun hg1=>?_) (fun hg1=>?_)
 ·have hg1_:=b8 hg1
  refine aZ hg1 ?_
  refine aZ hg1 ?_
  refine ab (aO rfl hg1 (rfl:_=AV.p (.c _)))<|ak rfl<|aZ rfl ?_
  iterate 5 refine aZ rfl ?_
  refine ab (aO rfl rfl (rfl:_=AV.p (.c _)))<|ak rfl<|aZ rfl ?_
  iterate 5 refine aZ rfl ?_
  refine ab (aO rfl rfl (rfl:_=AV.p (.c _)))<|ak rfl<|aZ rfl ?_
  iterate 5 refine aZ rfl ?_
  refine ab (aO rfl rfl (rfl:_=AV.p (.c _)))<|ag<|aU rfl rfl<|ae hP<|ab (aR hT rfl rfl rfl (es:=[_,_,_,_,_,_,_,_]) rfl)<|aG hT rfl<|aj rfl<|ag<|am ?_
  refine cp rfl (.inr rfl) (aP hT rfl rfl rfl rfl (cs:=[_,_,_,_,_,_,_,_]) rfl rfl) (bK rfl) ?_ bt
  exact aF (px (fun x=>hg1_ x.1))
 have hg1_:=bU hg1
 refine aA hg1 (az (rfl:_=AV.p (.c _))) ?_
 refine aA hg1 (bq rfl rfl) ?_
 refine ab (aN rfl hg1 (rfl:_=AV.p (.c _)))<|ak rfl ?_
 refine aY (t:=31) rfl (fun hg2=>?_) (fun hg2=>?_)
 ·have hg2_:=b8 hg2
  iterate 6 refine aZ hg2 ?_
  refine ab (aO rfl hg2 (rfl:_=AV.p (.c _)))<|ak rfl<|aZ rfl ?_
  iterate 5 refine aZ rfl ?_
  refine ab (aO rfl rfl (rfl:_=AV.p (.c _)))<|ak rfl<|aZ rfl ?_
  iterate 5 refine aZ rfl ?_
  refine ab (aO rfl rfl (rfl:_=AV.p (.c _)))<|ag<|aU rfl rfl<|ae hP<|ab (aR hT rfl rfl rfl (es:=[_,_,_,_,_,_,_,_]) rfl)<|aG hT rfl<|aj rfl<|ag<|am ?_
  refine cp rfl (.inr rfl) (aP hT rfl rfl rfl rfl (cs:=[_,_,_,_,_,_,_,_]) rfl rfl) (bK rfl) ?_ bt
  exact aF (px (fun x=>hg2_ x.2.1))
 have hg2_:=bU hg2
 refine aA hg2 (aT hT rfl rfl rfl rfl rfl rfl) ?_
 refine aA hg2 (aJ hT rfl rfl rfl rfl (cs:=[_,_]) rfl rfl) ?_
 refine aA hg2 (aT hT rfl rfl rfl rfl rfl rfl) ?_
 refine aA hg2 (aJ hT rfl rfl rfl rfl (cs:=[_,_]) rfl rfl) ?_
 refine aA hg2 (ah (dO _ _)) ?_
 refine aA hg2 (bq rfl rfl) ?_
 refine ab (aN rfl hg2 (rfl:_=AV.p (.c _)))<|ak rfl ?_
 refine aY (t:=39) rfl (fun hg3=>?_) (fun hg3=>?_)
 ·have hg3_:=b8 hg3
  iterate 6 refine aZ hg3 ?_
  refine ab (aO rfl hg3 (rfl:_=AV.p (.c _)))<|ak rfl<|aZ rfl ?_
  iterate 5 refine aZ rfl ?_
  refine ab (aO rfl rfl (rfl:_=AV.p (.c _)))<|ag<|aU rfl rfl<|ae hP<|ab (aR hT rfl rfl rfl (es:=[_,_,_,_,_,_,_,_]) rfl)<|aG hT rfl<|aj rfl<|ag<|am ?_
  refine cp rfl (.inr rfl) (aP hT rfl rfl rfl rfl (cs:=[_,_,_,_,_,_,_,_]) rfl rfl) (bK rfl) ?_ bt
  exact aF (px (fun x=>vm hg3 (congrArg Fm.a x.2.2)))
 have hg3_:=bU hg3
 refine aA hg3 (aT hT rfl rfl rfl rfl rfl rfl) ?_
 refine aA hg3 (aJ hT rfl rfl rfl rfl (cs:=[_,_]) rfl rfl) ?_
 refine aA hg3 (aT hT rfl rfl rfl rfl rfl rfl) ?_
 refine aA hg3 (aJ hT rfl rfl rfl rfl (cs:=[_,_]) rfl rfl) ?_
 refine aA hg3 (ah (dO _ _)) ?_
 refine aA hg3 (bq rfl rfl) ?_
 refine ab (aN rfl hg3 (rfl:_=AV.p (.c _)))<|ak rfl ?_
 refine aY (t:=47) rfl (fun hg4=>?_) (fun hg4=>?_)
 ·have hg4_:=b8 hg4
  iterate 6 refine aZ hg4 ?_
  refine ab (aO rfl hg4 (rfl:_=AV.p (.c _)))<|ag<|aU rfl rfl<|ae hP<|ab (aR hT rfl rfl rfl (es:=[_,_,_,_,_,_,_,_]) rfl)<|aG hT rfl<|aj rfl<|ag<|am ?_
  refine cp rfl (.inr rfl) (aP hT rfl rfl rfl rfl (cs:=[_,_,_,_,_,_,_,_]) rfl rfl) (bK rfl) ?_ bt
  exact aF (px (fun x=>vm hg4 (congrArg Fm.b x.2.2)))
 have hg4_:=bU hg4
 refine aA hg4 (aT hT rfl rfl rfl rfl rfl rfl) ?_
 refine aA hg4 (aJ hT rfl rfl rfl rfl (cs:=[_,_]) rfl rfl) ?_
 refine aA hg4 (aT hT rfl rfl rfl rfl rfl rfl) ?_
 refine aA hg4 (aJ hT rfl rfl rfl rfl (cs:=[_,_]) rfl rfl) ?_
 refine aA hg4 (ah (dO _ _)) ?_
 refine aA hg4 (bq rfl rfl) ?_
 refine ab (aN rfl hg4 (rfl:_=AV.p (.c _)))<|ag ?_
 refine ay rfl (fun hb5=>?_) (fun hb5=>?_)
 ·have hb5_:=b8 hb5
  refine ae hP<|ab (aR hT rfl rfl rfl (es:=[_,_,_,_,_,_,_,_]) rfl)<|aG hT rfl<|aj rfl<|ag<|am ?_
  refine cp rfl (.inr rfl) (aP hT rfl rfl rfl rfl (cs:=[_,_,_,_,_,_,_,_]) rfl rfl) (bK rfl) ?_ bt
  exact aF (px (fun x=>vm hb5 (congrArg Fm.c x.2.2)))
 have hb5_:=bU hb5
 refine au<|ae hP<|aI hT rfl<|av hT rfl<|aI hT rfl<|av hT rfl<|ab (ah (kg _)) ?_
 refine aI hT rfl<|av hT rfl<|ab (ah (kg _)) ?_
 refine aI hT rfl<|av hT rfl<|ab (aR hT rfl rfl rfl (es:=[_,_,_,_,_,_,_,_]) rfl)<|aq ai (aB hT rfl rfl)<|aG hT rfl<|ag<|ae hP<|ab (aJ hT rfl rfl rfl rfl (cs:=[_,_,_,_,_,_,_,_]) rfl rfl)<|ab (aJ hT rfl rfl rfl rfl (cs:=[_,_,_,_,_,_,_,_]) rfl rfl)<|ab (ah (wH _ _ _ _ _ _ _ _ lz lz lz lz lz lz lz lz)) ?_
 refine aG hT rfl<|aj rfl<|ag<|am ?_
 refine cp rfl (.inr rfl) (aP hT rfl rfl rfl rfl (cs:=[_,_,_,_,_,_,_,_]) rfl rfl) (bK rfl) ?_ bt
 exact aF (Jh hg1 hg2 hg3 hg4 hb5)
end
section
open Go Go.AM
theorem BU (zs:List Nat) (hz:zs.length≤1000000) :
  Iter Tryz.prog 211 [[W zs]] (bkL zs):=by
 refine Hw Tryz.func211 (by kernel_rfl) rfl rfl (bL0 rfl) rfl ?_
 intro l n0 J hK
 refine nA ?_
 refine nB hP ?_
 refine cO hT rfl rfl rfl ?_
 refine ab (aX hT rfl rfl rfl (l:=zs.length) rfl) ?_
 refine ab (bE rfl rfl (by first | exact iW0 _ (by omega) | rfl)) ?_
 refine aj rfl<|ag<|vC ?_
 refine If (ι:=Nat) (fun k=>stL [(0,.p (.c (.v (.func (.yield l) #[] #[])))),(1,.ip [W zs]),(3,Z ((zs.length:Int) - 1 - (k:Int)))] []) (fun k=>k) (fun k=>k≤zs.length) (fun k=>zs.length - k) 0 (Nat.zero_le _) rfl (aE ⟨.refl _,.refl _,aK (by simp),trivial⟩ trivial) ?_
 intro k hk
 refine nA ?_
 refine nA ?_
 refine nB hP ?_
 refine ak rfl<|ab (dp rfl rfl)<|ag ?_
 refine xH rfl (fun hb1=>?_) (fun hb1=>?_)
 ·have hb1_:=dT0 hb1
  refine xG ?_
  refine nA ?_
  refine vC ?_
  refine nA ?_
  refine ze ?_
  refine RJ.val ai (az (rfl:_=AV.p (.c _))) ?_
  refine RJ.val ai (az (rfl:_=AV.p (.c _))) ?_
  refine RJ.val ai (bV hT rfl rfl rfl (by first | rfl | exact mH (by omega))) ?_
  refine RJ.val ai (az (rfl:_=AV.p (.c _))) ?_
  refine RJ.val ai (cq hT (l:=zs.length) (n:=((zs.length:Int) - 1 - (k:Int))) rfl rfl rfl rfl rfl rfl (by omega) (iY (by omega))) ?_
  refine RJ.val ai (bV hT rfl rfl rfl (dv:=w32 (zs.getD (zs.length - 1 - k) 0)) (by show ((zs.map w32).drop ((((zs.length:Int) - 1 - (k:Int))).toNat*1))[0]?=_;rw [show (((zs.length:Int) - 1 - (k:Int))).toNat=zs.length - 1 - k by omega];exact mH (by omega))) ?_
  refine RJ.yield hK ai rfl rfl (AU (by omega)) ?_
  refine RJ.val ai (bw rfl) ?_
  refine RJ.done ?_
  refine sO rfl rfl ?_
  refine xG ?_
  refine nB hP ?_
  refine ak rfl<|ab (bE rfl rfl (by first | exact iW0 _ (by omega) | rfl)) ?_
  refine aj rfl<|ag ?_
  refine ⟨k+1,by omega,by omega,rfl,aE ⟨.refl _,.refl _,aK (by omega),trivial⟩ trivial⟩
 have hb1_:=dF0 hb1
 refine Ih ?_
 refine ⟨.inl rfl,?_⟩
 exact (ri zs).symm ▸ (by omega)
theorem Gc (zs:List Nat) :
  aH Tryz.prog 177 [.p (.c (W zs))] (.fn 211 [[W zs]]):=by
 refine mr Tryz.func177 (by kernel_rfl) rfl rfl (bL0 rfl) rfl ?_
 refine ae hP<|aq ai (aL rfl rfl)<|aj rfl<|ag<|c9 (t:=1) rfl rfl ?_
 refine ae hP<|ab (oz rfl)<|ab (a8 (rfl:_=AV.fn _ _))<|ag<|am ?_
 exact ⟨.inr rfl,2,rfl,rfl⟩
theorem uH (x:Int) (hx:x.natAbs < 18446744073709551616) :
  aH Tryz.prog 125 [I x] (.t [PE (lwV x),PB (lwO x)]):=by
 have hlen:(wl x.natAbs).length≤2:=fY (k:=2) (by omega)
 have hok:=bG x.natAbs
 refine aM Tryz.func125 rfl rfl rfl rfl ?_
 refine ae hP<|aq ai (aL rfl rfl)<|aj rfl<|aj rfl<|ag<|ao<|ae hP<|aI hT rfl<|bi hT rfl rfl rfl rfl ?_
 refine ab (aX hT rfl rfl rfl (l:=(wl x.natAbs).length) rfl) ?_
 refine ab (bJ rfl rfl)<|ag<|aQ rfl (decide_eq_false (by omega)) ?_
 refine au<|ae hP<|aq ai (aB hT rfl rfl)<|ag<|ao<|ae hP<|aI hT rfl<|bi hT rfl rfl rfl rfl ?_
 refine ab (ah (Gc (wl x.natAbs))) ?_
 refine ag<|aC<|dz (t:=stL [(1,.loc 1 0),(4,.loc 4 0),(14,.fn 211 [[W (wl x.natAbs)]])] [(1,⟨false,1,29,[zn x,zm x]⟩),(4,⟨false,1,103,[.v (.int .u64 ((lwA (wl x.natAbs) 0:Nat):Int))]⟩)]) (aE ⟨.refl _,.refl _,.refl _,trivial⟩ ⟨rfl,by rw [yD];rfl,trivial⟩) ?_
 refine Bd 5 (fun k=>da [(1,⟨false,1,29,[zn x,zm x]⟩),(4,⟨false,1,103,[.v (.int .u64 ((lwA (wl x.natAbs) k:Nat):Int))]⟩)]) rfl (BU (wl x.natAbs) (by omega)) (H1 _) rfl rfl rfl (fun k xx hxx=>?_) ?_
 ·obtain ⟨hk,rfl⟩:=H3 hxx
  have hv:=MC hok hlen hk
  have hw:=hok.getD ((wl x.natAbs).length - 1 - k)
  refine aw hP<|aj rfl<|ag<|aC<|aw hP<|bi hT rfl rfl rfl rfl ?_
  refine ab (lv rfl rfl (by decide) (c:=((lwA (wl x.natAbs) k*4294967296:Nat):Int)) (by rw [show (2:Int) ^ (min (32:Int).toNat IntKind.u64.bits)=4294967296 from rfl,IntWalk.u64_in _ (by omega)];omega)) ?_
  refine ak rfl<|ab (bn hT rfl rfl rfl rfl (IntWalk.u64_in _ (by omega))) ?_
  refine ab (j6 rfl rfl (NQ hv hw)) ?_
  refine aG hT rfl<|ag ?_
  refine ⟨rfl,GW.forget_as (congrArg (fun y=>da [(1,⟨false,1,29,[zn x,zm x]⟩),(4,⟨false,1,103,[.v (.int .u64 ((y:Nat):Int))]⟩)]) (uw hk).symm) (SubO.own ⟨rfl,rfl,trivial⟩)⟩
 rw [ri,Hi,bH]
 refine ae hP<|bi hT rfl rfl rfl rfl ?_
 refine ab (bn hT rfl rfl rfl rfl (Jf hx)) ?_
 refine aj rfl<|ag<|ao<|ae hP<|aI hT rfl<|bi hT rfl rfl rfl rfl ?_
 refine ag ?_
 refine ay rfl (fun hb1=>?_) (fun hb1=>?_)
 ·have hn:x < 0:=dT0 hb1
  refine aw hP<|ak rfl<|ab (dV rfl (Ik hn)) ?_
  refine aj rfl<|ag<|ao<|ae hP<|ak rfl<|ab (bq rfl rfl)<|ak rfl ?_
  refine aY (t:=30) rfl (fun hg2=>?_) (fun hg2=>?_)
  ·have hg2_:=b8 hg2
   refine aA hg2 (aT hT rfl rfl rfl rfl rfl rfl) ?_
   refine aA hg2 (bL hT rfl rfl rfl rfl (by first | rfl | exact eh (by omega))) ?_
   refine aA hg2 (az (rfl:_=AV.p (.c _))) ?_
   refine aA hg2 (bh rfl rfl) ?_
   refine aA hg2 (jK hT rfl rfl rfl rfl) ?_
   refine ab (aO rfl hg2 (rfl:_=AV.p (.c _)))<|ag ?_
   refine ay rfl (fun hb3=>?_) (fun hb3=>?_)
   ·refine ae hP<|aj rfl<|aj rfl<|ag<|am<|E11 rfl rfl rfl ?_
    exact aF (w9 hx (by assumption))
   refine au<|ae hP<|ak rfl<|aj rfl<|aj rfl<|ag<|am<|E11 rfl rfl rfl ?_
   exact aF (ux hx (by assumption))
  have hg2_:=bU hg2
  iterate 5 refine aZ hg2 ?_
  refine ab (aN rfl hg2 (rfl:_=AV.p (.c _)))<|ag<|aQ rfl rfl<|au<|ae hP<|ak rfl<|aj rfl<|aj rfl<|ag<|am<|E11 rfl rfl rfl ?_
  exact aF (sd hx (by assumption))
 have hn:¬ x < 0:=dF0 hb1
 rw [Ij hn]
 refine au<|ao<|ae hP<|ak rfl<|ab (bq rfl rfl)<|ak rfl ?_
 refine aY (t:=30) rfl (fun hg4=>?_) (fun hg4=>?_)
 ·have hg4_:=b8 hg4
  refine aA hg4 (aT hT rfl rfl rfl rfl rfl rfl) ?_
  refine aA hg4 (bL hT rfl rfl rfl rfl (by first | rfl | exact eh (by omega))) ?_
  refine aA hg4 (az (rfl:_=AV.p (.c _))) ?_
  refine aA hg4 (bh rfl rfl) ?_
  refine aA hg4 (jK hT rfl rfl rfl rfl) ?_
  refine ab (aO rfl hg4 (rfl:_=AV.p (.c _)))<|ag ?_
  refine ay rfl (fun hb5=>?_) (fun hb5=>?_)
  ·refine ae hP<|aj rfl<|aj rfl<|ag<|am<|E11 rfl rfl rfl ?_
   exact aF (w9 hx (by assumption))
  refine au<|ae hP<|ak rfl<|aj rfl<|aj rfl<|ag<|am<|E11 rfl rfl rfl ?_
  exact aF (ux hx (by assumption))
 have hg4_:=bU hg4
 iterate 5 refine aZ hg4 ?_
 refine ab (aN rfl hg4 (rfl:_=AV.p (.c _)))<|ag<|aQ rfl rfl<|au<|ae hP<|ak rfl<|aj rfl<|aj rfl<|ag<|am<|E11 rfl rfl rfl ?_
 exact aF (sd hx (by assumption))
theorem EI {x:Int} (h1:-9223372036854775808 < x) (h2:x < 9223372036854775808):AV.t [PE (lwV x),PB (lwO x)]=.t [PE x,PB true]:=by
 have e:lwO x=true:=decide_eq_true ⟨by omega,h2⟩
 unfold lwV;rw [e];rfl
theorem kh (x:Int) (h1:-9223372036854775808 < x) (h2:x < 9223372036854775808):aH Tryz.prog 125 [I x] (.t [.c (.v (.int .i64 x)),PB true]):=EI h1 h2 ▸ uH x (by omega)
end
section
open Go Go.AM
theorem kV (d:Int) (hd:L 40 d) :
  aH Tryz.prog 54 [I d] (.t [PF (prF d),PE (prE d)]):=by
 have id:LB d 40:=⟨hd⟩
 have h4a:=Int.emod_nonneg d (show (4:Int)≠0 by decide)
 have h4b:=Int.emod_lt_of_pos d (show (0:Int) < 4 by decide)
 refine aM Tryz.func54 rfl rfl rfl rfl ?_
 refine ae hP<|aq ai (aL rfl rfl)<|aq ai (aB hT rfl rfl)<|aj rfl<|ag<|ae hP<|av hT rfl<|ab (ah (eQ _ (by first | assumption | decide))) ?_
 refine ab (ah (dZ _ 4 lz lz (by decide))) ?_
 refine ab (az (rfl:_=AV.t _))<|ab (aD rfl (v:=.a _) rfl)<|ab (aD rfl (v:=.a _) rfl)<|ab (aD rfl (v:=.c _) rfl)<|aq ai (aB hT rfl rfl)<|aq ai (aB hT rfl rfl)<|aG hT rfl<|aG hT rfl<|aj rfl<|ag<|ae hP<|av hT rfl<|ab (ah (kh (d % 4) (by omega) (by omega))) ?_
 refine ab (az (rfl:_=AV.t _))<|ab (aD rfl (v:=.c _) rfl)<|ab (aD rfl (v:=.c _) rfl)<|aj rfl<|aj rfl<|ag<|ao<|ae hP<|ak rfl<|ab (bw rfl)<|ak rfl<|aA rfl (az (rfl:_=AV.p (.c _))) ?_
 refine aA rfl (bJ rfl rfl) ?_
 refine ab (aN rfl rfl (rfl:_=AV.p (.c _)))<|ak rfl ?_
 refine aY (t:=27) rfl (fun hg2=>?_) (fun hg2=>?_)
 ·have hg2_:=dT0 hg2
  refine aZ hg2 ?_
  refine aZ hg2 ?_
  refine ab (aO rfl hg2 (rfl:_=AV.p (.c _)))<|ag<|aU rfl rfl<|ae hP<|ab (aR hT rfl rfl rfl (es:=[_,_,_,_,_,_]) rfl)<|aG hT rfl<|aj rfl<|ag<|am ?_
  refine cp rfl (.inr rfl) (aP hT rfl rfl rfl rfl (cs:=[_,_,_,_,_,_]) rfl rfl) (bK rfl) ?_ bt
  exact aF (sS (.inl hg2_))
 have hg2_:=dF0 hg2
 refine aA hg2 (aJ hT rfl rfl rfl rfl (cs:=[_,_]) rfl rfl) ?_
 refine aA hg2 (ah (pN _ lz)) ?_
 refine ab (aN rfl hg2 (rfl:_=AV.p (.c _)))<|ag ?_
 refine ay rfl (fun hb3=>?_) (fun hb3=>?_)
 ·refine ae hP<|ab (aR hT rfl rfl rfl (es:=[_,_,_,_,_,_]) rfl)<|aG hT rfl<|aj rfl<|ag<|am ?_
  refine cp rfl (.inr rfl) (aP hT rfl rfl rfl rfl (cs:=[_,_,_,_,_,_]) rfl rfl) (bK rfl) ?_ bt
  exact aF (sS (.inr hb3))
 refine au<|ae hP<|ab (ah (eQ _ (by first | assumption | decide))) ?_
 refine av hT rfl<|av hT rfl<|ab (ah (kg _)) ?_
 refine ab (aR hT rfl rfl rfl (es:=[_,_,_,_,_,_]) rfl)<|aG hT rfl<|aj rfl<|ag<|am ?_
 refine cp rfl (.inr rfl) (aP hT rfl rfl rfl rfl (cs:=[_,_,_,_,_,_]) rfl rfl) (bK rfl) ?_ bt
 exact aF (zV hg2_ hb3)
theorem JD (ws:List Nat) (hok:okW ws) :
  aH Tryz.prog 121 [.p (.c (W ws))] (.p (.c (nt (wv ws)))):=by
 refine aM Tryz.func121 rfl rfl rfl rfl ?_
 refine jy (t:=0) rfl rfl (fun hlen=>?_)
 refine ae hP<|aj rfl<|ag<|ao<|aC<|bl (ι:=List Nat) (fun l=>stL [(0,.p (.c (W l)))] []) (fun l=>okW l∧wv l=wv ws∧l.length≤140737488355328) (fun l=>l.length) ws ⟨hok,rfl,hlen⟩ (aE ⟨.refl _,trivial⟩ trivial) ?_
 rintro l ⟨hl,hv,hn⟩
 refine ao<|ae hP<|ak rfl<|ab (aX hT rfl rfl rfl rfl)<|ab (bJ rfl rfl)<|ak rfl ?_
 refine aY (t:=6) rfl (fun hg1=>?_) (fun hg1=>?_)
 ·have hg1_:=dT0 hg1
  refine aA hg1 (az (rfl:_=AV.p (.c _))) ?_
  refine aA hg1 (az (rfl:_=AV.p (.c _))) ?_
  refine aA hg1 (aX hT rfl rfl rfl rfl) ?_
  refine aA hg1 (bE rfl rfl (by first | exact iW0 _ (by omega) | rfl)) ?_
  refine aA hg1 (by first | exact fO hT rfl rfl rfl rfl rfl rfl (by omega) | exact cq hT rfl rfl rfl rfl rfl rfl (by omega) (by first | exact iY (by omega) | simp)) ?_
  refine aA hg1 (bV hT rfl rfl rfl (by first | rfl | exact mH (by omega))) ?_
  refine aA hg1 (bj rfl rfl) ?_
  refine ab (aO rfl hg1 (rfl:_=AV.p (.c _)))<|ag ?_
  refine ay rfl (fun hb2=>?_) (fun hb2=>?_)
  ·have hb2_:=bT hb2
   refine au<|aC<|aw hP<|ak rfl<|ak rfl<|ab (aX hT rfl rfl rfl rfl)<|ab (bE rfl rfl (by first | exact iW0 _ (by omega) | rfl)) ?_
   refine ab (jD hT rfl rfl rfl rfl rfl rfl (by omega)) ?_
   refine aj rfl<|ag ?_
   have e:((l.length:Int) - 1).toNat=l.length - 1:=by omega
   refine ⟨l.take (l.length - 1),⟨hl.take _,?_,?_⟩,?_,aE ⟨aF ?_,trivial⟩ trivial⟩
   ·rw [th (by omega) (by rw [← e];omega),hv]
   ·rw [List.length_take];omega
   ·rw [List.length_take];omega
   show AV.p (.c (W (l.take ((l.length:Int) - 1).toNat)))=_
   rw [e]
  have hb2_:=bF hb2
  refine aW<|ae hP<|ak rfl<|aj rfl<|ag<|am<|E1 rfl rfl ?_
  have e:((l.length:Int) - 1).toNat=l.length - 1:=by omega
  refine aF ?_
  rw [← hv,sT hl (.inr (by rw [← e];omega))]
 have hg1_:=dF0 hg1
 iterate 7 refine aZ hg1 ?_
 refine ab (aN rfl hg1 (rfl:_=AV.p (.c _)))<|ag<|aQ rfl rfl<|aW<|ae hP<|ak rfl<|aj rfl<|ag<|am<|E1 rfl rfl ?_
 refine aF ?_
 rw [← hv,sT hl (.inl (by omega))]
theorem fG (neg:Bool) (ws:List Nat) (h:okW ws) :
  aH Tryz.prog 51 [B neg,.p (.c (W ws))] (I (sg neg (wv ws))):=by
 refine aM Tryz.func51 rfl rfl rfl rfl ?_
 refine ae hP<|aq ai (aB hT rfl rfl)<|ag<|ae hP<|ak rfl<|ab (ah (JD _ h)) ?_
 refine aj rfl<|ag<|ao<|ae hP<|ak rfl<|ab (aX hT rfl rfl rfl rfl)<|ab (bj rfl rfl)<|ag ?_
 refine ay rfl (fun hb1=>?_) (fun hb1=>?_)
 ·have hb1_:=bT hb1
  refine ae hP<|ab (aR hT rfl rfl rfl (es:=[_,_]) rfl)<|aG hT rfl<|ag<|am<|E2 hT rfl rfl rfl rfl rfl rfl rfl ?_
  have h0:wv ws=0:=nC (by omega)
  rw [h0,wt]
  exact .refl _
 have hb1_:=bF hb1
 refine au<|ae hP<|ak rfl<|ak rfl<|ab (aR hT rfl rfl rfl (es:=[_,_]) rfl)<|aG hT rfl<|ag<|am<|E2 hT rfl rfl rfl rfl rfl rfl rfl ?_
 have h0:0 < wv ws:=by
  rcases Nat.eq_zero_or_pos (wv ws) with e | e
  ·rw [e] at hb1_;exact absurd rfl hb1_
  exact e
 exact aF (by show _=AV.p (.a [zn _,zm _]);rw [DC h0,DD])
theorem dM (ws:List Nat) (i:Int) (hok:okW ws) :
  aH Tryz.prog 197 [.p (.c (W ws)),Z i] (.p (.c (.v (.int .u64 ((wd ws i:Nat):Int))))):=by
 refine aM Tryz.func197 rfl rfl rfl rfl ?_
 refine ae hP<|aj rfl<|ag<|ao<|ae hP<|ak rfl<|ab (bh rfl rfl)<|ak rfl ?_
 refine aY (t:=7) rfl (fun hg1=>?_) (fun hg1=>?_)
 ·have hg1_:=dT0 hg1
  iterate 4 refine aZ hg1 ?_
  refine ab (aO rfl hg1 (rfl:_=AV.p (.c _)))<|ag<|aU rfl rfl<|ae hP<|aj rfl<|ag<|am<|E1 rfl rfl ?_
  exact aK (by rw [pp (.inl hg1_)];rfl)
 have hg1_:=dF0 hg1
 have hi0:=dF0 hg1
 refine aA hg1 (az (rfl:_=AV.p (.c _))) ?_
 refine aA hg1 (az (rfl:_=AV.p (.c _))) ?_
 refine aA hg1 (aX hT rfl rfl rfl rfl) ?_
 refine aA hg1 (dp rfl rfl) ?_
 refine ab (aN rfl hg1 (rfl:_=AV.p (.c _)))<|ag ?_
 refine ay rfl (fun hb2=>?_) (fun hb2=>?_)
 ·have hb2_:=dT0 hb2
  refine ae hP<|aj rfl<|ag<|am<|E1 rfl rfl ?_
  exact aK (by rw [pp (.inr hb2_)];rfl)
 have hb2_:=dF0 hb2
 refine au<|ae hP<|ak rfl<|ak rfl<|c7 ?_
 refine cO hT rfl rfl rfl ?_
 refine ab (bn hT rfl rfl rfl rfl (IntWalk.u64_in _ (by have:=hok.getD i.toNat;omega))) ?_
 refine aj rfl<|ag<|am<|E1 rfl rfl ?_
 exact aK (by rw [DE (by omega)])
theorem ce (z:Int) (hz:bu z) :
  aH Tryz.prog 10 [.p (.c (.v (.int .i64 z)))] (I z):=by
 have hz1:z.natAbs < 18446744073709551616:=by unfold bu at hz;omega
 refine aM Tryz.func10 rfl rfl rfl rfl ?_
 refine ae hP<|aq ai (aB hT rfl rfl)<|ag<|ae hP<|ak rfl<|ab (bn hT rfl rfl rfl rfl xK) ?_
 refine aj rfl<|ag<|ao<|ae hP<|ak rfl<|ab (bh rfl rfl)<|ag ?_
 refine ay rfl (fun hb1=>?_) (fun hb1=>?_)
 ·have hb1_:=dT0 hb1
  refine aw hP<|ak rfl<|ab (dV rfl (Bk hz hb1_)) ?_
  refine aj rfl<|ag<|ae hP<|ak rfl<|ab (bh rfl rfl)<|ak rfl<|ab (bn hT rfl rfl rfl rfl (c:=((z.natAbs % 4294967296:Nat):Int)) (by first | exact eP _ | exact ED hz hb1_)) ?_
  refine ak rfl<|ab (dw (j:=32) rfl rfl (by decide)) ?_
  refine ab (bn hT rfl rfl rfl rfl (c:=((z.natAbs / 2 ^ 32:Nat):Int)) (by first | exact z6 hz | exact EE hz hb1_)) ?_
  refine ab (bg hT rfl rfl rfl (es:=[_,_]) rfl rfl rfl)<|ab (ah (fG _ [z.natAbs % 4294967296,z.natAbs / 2 ^ 32] (qJ (by omega)))) ?_
  refine aG hT rfl<|ag<|am<|E2 hT rfl rfl rfl rfl rfl rfl rfl ?_
  exact Sub.I (by rw [tg];exact yr)
 have hb1_:=dF0 hb1
 refine au<|ae hP<|ak rfl<|ab (bh rfl rfl)<|ak rfl<|ab (bn hT rfl rfl rfl rfl (c:=((z.natAbs % 4294967296:Nat):Int)) (by first | exact eP _ | exact ED hz hb1_)) ?_
 refine ak rfl<|ab (dw (j:=32) rfl rfl (by decide)) ?_
 refine ab (bn hT rfl rfl rfl rfl (c:=((z.natAbs / 2 ^ 32:Nat):Int)) (by first | exact z6 hz | exact EE hz hb1_)) ?_
 refine ab (bg hT rfl rfl rfl (es:=[_,_]) rfl rfl rfl)<|ab (ah (fG _ [z.natAbs % 4294967296,z.natAbs / 2 ^ 32] (qJ (by omega)))) ?_
 refine aG hT rfl<|ag<|am<|E2 hT rfl rfl rfl rfl rfl rfl rfl ?_
 exact Sub.I (by rw [tg];exact yr)
theorem Mi (x:Int) :
  aH Tryz.prog 174 [I x] (I (-x)):=by
 refine aM Tryz.func174 rfl rfl rfl rfl ?_
 refine ae hP<|aq ai (aL rfl rfl)<|aq ai (aB hT rfl rfl)<|ag<|ae hP<|aI hT rfl<|bi hT rfl rfl rfl rfl ?_
 refine ab (bw rfl)<|aI hT rfl<|bi hT rfl rfl rfl rfl ?_
 refine ab (ah (fG _ (wl x.natAbs) (bG _))) ?_
 refine aG hT rfl<|ag<|am<|E2 hT rfl rfl rfl rfl rfl rfl rfl ?_
 exact Sub.I (z8 x)
theorem nO (x:Int) :
  aH Tryz.prog 191 [I x] (I x.natAbs):=by
 refine aM Tryz.func191 rfl rfl rfl rfl ?_
 refine ae hP<|aq ai (aL rfl rfl)<|aq ai (aB hT rfl rfl)<|ag<|ae hP<|aI hT rfl<|bi hT rfl rfl rfl rfl ?_
 refine ab (ah (fG _ (wl x.natAbs) (bG _))) ?_
 refine aG hT rfl<|ag<|am<|E2 hT rfl rfl rfl rfl rfl rfl rfl ?_
 exact Sub.I (A7 x)
theorem dS (x:Int) :
  aH Tryz.prog 86 [I x] (Z (sgn x)):=by
 refine aM Tryz.func86 rfl rfl rfl rfl ?_
 refine ae hP<|aq ai (aL rfl rfl)<|aj rfl<|ag<|ao<|ae hP<|aI hT rfl<|bi hT rfl rfl rfl rfl ?_
 refine ab (aX hT rfl rfl rfl rfl)<|ab (bj rfl rfl)<|ag ?_
 refine ay rfl (fun hb1=>?_) (fun hb1=>?_)
 ·have hb1_:=bT hb1
  refine ae hP<|aj rfl<|ag<|am<|E1 rfl rfl ?_
  have h0:=wl_len_zero.1 hb1_
  exact aK (by rw [h0];rfl)
 have hb1_:=bF hb1
 refine au<|ao<|ae hP<|aI hT rfl<|bi hT rfl rfl rfl rfl ?_
 refine ag ?_
 refine ay rfl (fun hb2=>?_) (fun hb2=>?_)
 ·refine ae hP<|aj rfl<|ag<|am<|E1 rfl rfl ?_
  exact aK (kd hb2).symm
 refine au<|ae hP<|aj rfl<|ag<|am<|E1 rfl rfl ?_
 have h0:x≠0:=fun e=>hb1_ (wl_len_zero.2 e)
 exact aK (qt h0 hb2).symm
theorem pH (m n:Nat) :
  aH Tryz.prog 119 [.p (.c (nt m)),.p (.c (nt n))] (Z (bB m n)):=by
 refine aM Tryz.func119 rfl rfl rfl rfl ?_
 refine jy (t:=0) rfl rfl (fun hlen=>?_)
 refine jy (t:=1) rfl rfl (fun hlen2=>?_)
 refine ae hP<|aj rfl<|ag<|ao<|ae hP<|ak rfl<|ab (aX hT rfl rfl rfl rfl)<|ak rfl<|ab (aX hT rfl rfl rfl rfl)<|ab (bq rfl rfl)<|ag ?_
 refine ay rfl (fun hb1=>?_) (fun hb1=>?_)
 ·have hb1_:=b8 hb1
  refine ao<|ae hP<|ak rfl<|ab (aX hT rfl rfl rfl rfl)<|ak rfl<|ab (aX hT rfl rfl rfl rfl)<|ab (bh rfl rfl)<|ag ?_
  refine ay rfl (fun hb2=>?_) (fun hb2=>?_)
  ·have hb2_:=dT0 hb2
   refine ae hP<|aj rfl<|ag<|am<|E1 rfl rfl ?_
   exact aK (yW hb1_ hb2_)
  have hb2_:=dF0 hb2
  refine au<|ae hP<|aj rfl<|ag<|am<|E1 rfl rfl ?_
  exact aK (yX hb1_ hb2_)
 have hb1_:=bU hb1
 refine au<|ao<|ae hP<|ak rfl<|ab (aX hT rfl rfl rfl rfl)<|ab (bE rfl rfl (by first | exact iW0 _ (by omega) | rfl)) ?_
 refine aj rfl<|ag<|aC ?_
 have hll:(wl m).length=(wl n).length:=by omega
 refine bl (ι:=Nat) (fun k=>stL [(0,.p (.c (nt m))),(1,.p (.c (nt n))),(5,Z ((k:Int) - 1))] []) (fun k=>k≤(wl m).length∧(wl m).drop k=(wl n).drop k) (fun k=>k) (wl m).length ⟨Nat.le_refl _,by rw [List.drop_length,hll,List.drop_length]⟩ (aE ⟨.refl _,.refl _,.refl _,trivial⟩ trivial) ?_
 rintro k ⟨hk,he⟩
 refine ao<|ae hP<|ak rfl<|ab (dp rfl rfl)<|ag ?_
 refine ay rfl (fun hb3=>?_) (fun hb3=>?_)
 ·have hb3_:=dT0 hb3
  refine au<|ao<|aC<|ao<|ae hP<|ak rfl<|ak rfl<|ab (cq hT rfl rfl rfl rfl rfl rfl (l:=(wl m).length) (xs:=(wl m).map w32) (by omega) (iY (by omega))) ?_
  refine cO hT rfl rfl rfl ?_
  refine ak rfl<|ak rfl<|ab (cq hT rfl rfl rfl rfl rfl rfl (l:=(wl n).length) (xs:=(wl n).map w32) (by omega) (iY (by omega))) ?_
  refine cO hT rfl rfl rfl ?_
  refine ab (bh rfl rfl)<|ag ?_
  refine ay rfl (fun hb4=>?_) (fun hb4=>?_)
  ·have hb4_:=dT0 hb4
   refine ae hP<|aj rfl<|ag<|am<|E1 rfl rfl ?_
   have hkk:((k:Int) - 1).toNat=k - 1:=by omega
   rw [hkk] at hb4_
   have h2:=sx hll (k:=k - 1) (by omega) (by rw [show k - 1+1=k by omega];exact he) (by rw [fR hb4_];decide)
   exact aK (by rw [← h2,fR hb4_])
  have hb4_:=dF0 hb4
  refine au<|ae hP<|ak rfl<|ak rfl<|ab (cq hT rfl rfl rfl rfl rfl rfl (l:=(wl m).length) (xs:=(wl m).map w32) (by omega) (iY (by omega))) ?_
  refine cO hT rfl rfl rfl ?_
  refine ak rfl<|ak rfl<|ab (cq hT rfl rfl rfl rfl rfl rfl (l:=(wl n).length) (xs:=(wl n).map w32) (by omega) (iY (by omega))) ?_
  refine cO hT rfl rfl rfl ?_
  refine ab (bJ rfl rfl)<|ag ?_
  refine ay rfl (fun hb5=>?_) (fun hb5=>?_)
  ·have hb5_:=dT0 hb5
   refine ae hP<|aj rfl<|ag<|am<|E1 rfl rfl ?_
   have hkk:((k:Int) - 1).toNat=k - 1:=by omega
   rw [hkk] at hb5_
   have h2:=sx hll (k:=k - 1) (by omega) (by rw [show k - 1+1=k by omega];exact he) (by rw [fS hb5_];decide)
   exact aK (by rw [← h2,fS hb5_])
  have hb5_:=dF0 hb5
  refine au<|aw hP<|ak rfl<|ab (bE rfl rfl (by first | exact iW0 _ (by omega) | rfl)) ?_
  refine aj rfl<|ag ?_
  have hkk:((k:Int) - 1).toNat=k - 1:=by omega
  rw [hkk] at hb4_ hb5_
  refine ⟨k - 1,⟨by omega,?_⟩,by omega,aE ⟨.refl _,.refl _,aK (by omega),trivial⟩ trivial⟩
  have e1:=el (ws:=wl m) (k:=k - 1) (by omega)
  have e2:=el (ws:=wl n) (k:=k - 1) (by omega)
  rw [e1,e2,show k - 1+1=k by omega,he]
  congr 1
  omega
 have hb3_:=dF0 hb3
 refine aW<|ae hP<|aj rfl<|ag<|am<|E1 rfl rfl ?_
 have h0:k=0:=by omega
 subst h0
 have:m=n:=by rw [← bH m,← bH n];exact congrArg wv he
 exact aK (by rw [this,iG])
theorem gR (x y:Int) :
  aH Tryz.prog 149 [I x,I y] (Z (bB x y)):=by
 refine aM Tryz.func149 rfl rfl rfl rfl ?_
 refine ae hP<|aq ai (aL rfl rfl)<|aq ai (aL rfl rfl)<|aj rfl<|ag<|ao<|ae hP<|aI hT rfl<|bi hT rfl rfl rfl rfl ?_
 refine aI hT rfl<|bi hT rfl rfl rfl rfl ?_
 refine ab (jK hT rfl rfl rfl rfl)<|ag ?_
 refine ay rfl (fun hb1=>?_) (fun hb1=>?_)
 ·refine ao<|ae hP<|aI hT rfl<|bi hT rfl rfl rfl rfl ?_
  refine ag ?_
  refine ay rfl (fun hb2=>?_) (fun hb2=>?_)
  ·refine ae hP<|aj rfl<|ag<|am<|E1 rfl rfl ?_
   exact aK (by rw [wz hb1,if_pos (dT0 hb2)])
  refine au<|ae hP<|aj rfl<|ag<|am<|E1 rfl rfl ?_
  exact aK (by rw [wz hb1,if_neg (dF0 hb2)])
 refine au<|ao<|ae hP<|aI hT rfl<|bi hT rfl rfl rfl rfl ?_
 refine ag ?_
 refine ay rfl (fun hb3=>?_) (fun hb3=>?_)
 ·refine ae hP<|aI hT rfl<|bi hT rfl rfl rfl rfl ?_
  refine aI hT rfl<|bi hT rfl rfl rfl rfl ?_
  refine ab (ah (pH y.natAbs x.natAbs)) ?_
  refine aj rfl<|ag<|am<|E1 rfl rfl ?_
  exact aK (vJ hb1 (dT0 hb3))
 refine au<|ae hP<|aI hT rfl<|bi hT rfl rfl rfl rfl ?_
 refine aI hT rfl<|bi hT rfl rfl rfl rfl ?_
 refine ab (ah (pH x.natAbs y.natAbs)) ?_
 refine aj rfl<|ag<|am<|E1 rfl rfl ?_
 exact aK (vI hb1 (dF0 hb3))
theorem dT (x y:Int) :
  aH Tryz.prog 48 [I x,I y] (B (decide (x=y))):=by
 refine aM Tryz.func48 rfl rfl rfl rfl ?_
 refine ae hP<|aq ai (aL rfl rfl)<|aq ai (aL rfl rfl)<|aj rfl<|ag<|ae hP<|aI hT rfl<|bi hT rfl rfl rfl rfl ?_
 refine aI hT rfl<|bi hT rfl rfl rfl rfl ?_
 refine ab (uo hT rfl rfl rfl rfl)<|ak rfl ?_
 refine aY (t:=10) rfl (fun hg1=>?_) (fun hg1=>?_)
 ·refine aA hg1 (aT hT rfl rfl rfl rfl rfl rfl) ?_
  refine aA hg1 (bL hT rfl rfl rfl rfl (by first | rfl | exact eh (by omega))) ?_
  refine aA hg1 (aT hT rfl rfl rfl rfl rfl rfl) ?_
  refine aA hg1 (bL hT rfl rfl rfl rfl (by first | rfl | exact eh (by omega))) ?_
  refine aA hg1 (ah (pH x.natAbs y.natAbs)) ?_
  refine aA hg1 (bj rfl rfl) ?_
  refine ab (aO rfl hg1 (rfl:_=AV.p (.c _)))<|aj rfl<|ag<|am<|E1 rfl rfl ?_
  exact bd (Gj hg1)
 iterate 6 refine aZ hg1 ?_
 refine ab (aN rfl hg1 (rfl:_=AV.p (.c _)))<|aj rfl<|ag<|am<|E1 rfl rfl ?_
 exact bd (Gi hg1)
end
section
open Go Go.AM
theorem JG (a b:List Nat) (ha:okW a) (hb:okW b) (hla:a.length≤1099511627776) (hlb:b.length≤1099511627776) :
  aH Tryz.prog 155 [.p (.c (W a)),.p (.c (W b))] (.p (.c (W (dgs ((if (b.length:Int) > a.length then (b.length:Int) else a.length).toNat+1) (wv a+wv b))))):=by
 obtain ⟨mx,hmx⟩:∃ mx:Int,mx=(if (b.length:Int) > a.length then (b.length:Int) else a.length):=⟨_,rfl⟩
 have hm1:(a.length:Int)≤mx∧(b.length:Int)≤mx∧mx≤1099511627776:=by rw [hmx];split <;> omega
 refine aM Tryz.func155 rfl rfl rfl rfl ?_
 refine ae hP<|aj rfl<|ag<|ae hP<|aq ai (gC hT rfl rfl rfl rfl (ws:=[]) rfl rfl rfl) ?_
 refine ab (a8 (rfl:_=AV.vec _))<|ag<|ae hP<|aj rfl<|ag<|cL 8 1000 rfl rfl rfl ?_
 refine ao<|ae hP<|aj rfl<|ag<|aC<|bl (ι:=List Nat × Nat) (fun p=>stL [(0,.p (.c (W a))),(1,.p (.c (W b))),(5,.vec 1000),(6,.p (.c (.v (.int .u64 ((p.2:Nat):Int))))),(7,Z ((p.1.length:Nat):Int))] [(1000,WB 105 p.1)]) (fun p=>okW p.1∧(p.1.length:Int)≤mx∧p.2≤1∧wv p.1+4294967296 ^ p.1.length*p.2=wv (a.take p.1.length)+wv (b.take p.1.length)) (fun p=>(mx - p.1.length).toNat) ([],0) ⟨okW.nil,by simp only [List.length_nil];omega,by decide,by simp [wv]⟩ (aE ⟨.refl _,.refl _,.refl _,.refl _,.refl _,trivial⟩ ⟨rfl,trivial⟩) ?_
 rintro p ⟨ho,hl,hc,hv⟩
 have hwa:=en ha (p.1.length:Nat)
 have hwb:=en hb (p.1.length:Nat)
 refine ao<|ae hP<|ak rfl<|ak rfl<|ab (aX hT rfl rfl rfl rfl)<|ak rfl<|ab (aX hT rfl rfl rfl rfl)<|ab (pS rfl rfl)<|ab (bh rfl rfl)<|ag ?_
 refine ay rfl (fun hb1=>?_) (fun hb1=>?_)
 ·have hb1_:=dT0 hb1
  have hlt:(p.1.length:Int) < mx:=by rw [hmx];exact hb1_
  refine au<|ao<|aC<|ae hP<|ak rfl<|ak rfl<|ak rfl<|ab (ah (dM _ _ (by assumption))) ?_
  refine ak rfl<|ak rfl<|ab (ah (dM _ _ (by assumption))) ?_
  refine ab (bN rfl rfl (c:=((wd a p.1.length+wd b p.1.length:Nat):Int)) (by rw [← Int.natCast_add,dc (by omega)])) ?_
  refine ab (bN rfl rfl (c:=((p.2+(wd a p.1.length+wd b p.1.length):Nat):Int)) (by rw [← Int.natCast_add,dc (by omega)])) ?_
  refine aj rfl<|ag<|ae hP<|ab (az (rfl:_=AV.vec _))<|ak rfl<|ab (bn hT rfl rfl rfl rfl (eP _)) ?_
  refine ab (bg hT rfl rfl rfl (es:=[_]) rfl rfl rfl)<|RK.app ai (gD hT rfl rfl rfl rfl rfl rfl rfl (xs:=[(p.2+(wd a p.1.length+wd b p.1.length)) % 4294967296]) rfl (by simp only [List.length_cons,List.length_nil];omega) (by decide)) ?_
  refine ab (a8 (rfl:_=AV.vec _))<|ag<|cL 31 1000 rfl rfl rfl ?_
  refine aw hP<|ak rfl<|ab (dw (j:=32) rfl rfl (by decide)) ?_
  refine aj rfl<|ag<|aw hP<|ak rfl<|bA rfl rfl ?_
  refine aj rfl<|ag ?_
  have hr:=yj hv
  have hq:(p.2+(wd a p.1.length+wd b p.1.length)) / 4294967296≤1:=by omega
  refine ⟨(p.1 ++ [(p.2+(wd a p.1.length+wd b p.1.length)) % 4294967296],(p.2+(wd a p.1.length+wd b p.1.length)) / 4294967296),⟨ho.snoc (Nat.mod_lt _ (by decide)),?_,hq,by simpa using hr⟩,?_,aE ⟨.refl _,.refl _,.refl _,.refl _,aK (by simp),trivial⟩ ⟨rfl,trivial⟩⟩
  ·simp only [List.length_append,List.length_cons,List.length_nil];omega
  simp only [List.length_append,List.length_cons,List.length_nil];omega
 have hb1_:=dF0 hb1
 have hge:(p.1.length:Int)=mx:=by
  have:¬ (p.1.length:Int) < mx:=by rw [hmx];exact hb1_
  omega
 refine aW<|ae hP<|ab (az (rfl:_=AV.vec _))<|ak rfl<|ab (bn hT rfl rfl rfl rfl (eP _)) ?_
 refine ab (bg hT rfl rfl rfl (es:=[_]) rfl rfl rfl)<|RK.app ai (gD hT rfl rfl rfl rfl rfl rfl rfl (xs:=[p.2 % 4294967296]) rfl (by simp only [List.length_cons,List.length_nil];omega) (by decide)) ?_
 refine ab (a8 (rfl:_=AV.vec _))<|ag<|cY (t:=4) rfl rfl ?_
 refine am<|E1 rfl rfl ?_
 have e:mx.toNat=p.1.length:=by omega
 exact aF (by rw [Cn ho (by omega) (by omega) (by omega) hv,← hmx,e])
theorem wE (a b:List Nat) (ha:okW a) (hb:okW b) (hla:a.length≤1099511627776) (hlb:b.length≤a.length) (hab:wv b≤wv a) :
  aH Tryz.prog 156 [.p (.c (W a)),.p (.c (W b))] (.p (.c (W (dgs a.length (wv a - wv b))))):=by
 refine aM Tryz.func156 rfl rfl rfl rfl ?_
 refine ae hP<|aj rfl<|ag<|ae hP<|aq ai (gC hT rfl rfl rfl rfl (ws:=[]) rfl rfl rfl) ?_
 refine ab (a8 (rfl:_=AV.vec _))<|ag<|ae hP<|aj rfl<|ag<|cL 9 1000 rfl rfl rfl ?_
 refine ao<|ae hP<|aj rfl<|ag<|aC<|bl (ι:=List Nat × Nat) (fun p=>stL [(0,.p (.c (W a))),(1,.p (.c (W b))),(5,.vec 1000),(6,.p (.c (.v (.int .u64 ((p.2:Nat):Int))))),(7,Z ((p.1.length:Nat):Int))] [(1000,WB 105 p.1)]) (fun p=>okW p.1∧p.1.length≤a.length∧p.2≤1∧wv p.1+wv (b.take p.1.length)=wv (a.take p.1.length)+4294967296 ^ p.1.length*p.2) (fun p=>a.length - p.1.length) ([],0) ⟨okW.nil,by simp,by decide,by simp [wv]⟩ (aE ⟨.refl _,.refl _,.refl _,.refl _,.refl _,trivial⟩ ⟨rfl,trivial⟩) ?_
 rintro p ⟨ho,hl,hc,hv⟩
 have hwa:=en ha (p.1.length:Nat)
 have hwb:=en hb (p.1.length:Nat)
 refine ao<|ae hP<|ak rfl<|ak rfl<|ab (aX hT rfl rfl rfl rfl)<|ab (bh rfl rfl)<|ag ?_
 refine ay rfl (fun hb1=>?_) (fun hb1=>?_)
 ·have hb1_:=dT0 hb1
  refine au<|ao<|aC<|ae hP<|ak rfl<|ak rfl<|ab (ah (dM _ _ (by assumption))) ?_
  refine ab (bN rfl rfl (c:=((4294967296+wd a p.1.length:Nat):Int)) (by rw [IntWalk.u64_in _ (by omega)];omega)) ?_
  refine ak rfl<|ak rfl<|ab (ah (dM _ _ (by assumption))) ?_
  refine ab (bE rfl rfl (c:=((4294967296+wd a p.1.length - wd b p.1.length:Nat):Int)) (by rw [IntWalk.u64_in _ (by omega)];omega)) ?_
  refine ak rfl<|ab (bE rfl rfl (c:=((4294967296+wd a p.1.length - wd b p.1.length - p.2:Nat):Int)) (by rw [IntWalk.u64_in _ (by omega)];omega)) ?_
  refine aj rfl<|ag<|ae hP<|ab (az (rfl:_=AV.vec _))<|ak rfl<|ab (bn hT rfl rfl rfl rfl (eP _)) ?_
  refine ab (bg hT rfl rfl rfl (es:=[_]) rfl rfl rfl)<|RK.app ai (gD hT rfl rfl rfl rfl rfl rfl rfl (xs:=[(4294967296+wd a p.1.length - wd b p.1.length - p.2) % 4294967296]) rfl (by simp only [List.length_cons,List.length_nil];omega) (by decide)) ?_
  refine ab (a8 (rfl:_=AV.vec _))<|ag<|cL 30 1000 rfl rfl rfl ?_
  refine aw hP<|ak rfl<|ab (dw (j:=32) rfl rfl (by decide)) ?_
  refine ab (bE rfl rfl (c:=((1 - (4294967296+wd a p.1.length - wd b p.1.length - p.2) / 4294967296:Nat):Int)) (by rw [IntWalk.u64_in _ (by omega)];omega)) ?_
  refine aj rfl<|ag<|aw hP<|ak rfl<|bA rfl rfl ?_
  refine aj rfl<|ag ?_
  have hr:=oA ha hb hc hv
  have hq:1 - (4294967296+wd a p.1.length - wd b p.1.length - p.2) / 4294967296≤1:=by omega
  refine ⟨(p.1 ++ [(4294967296+wd a p.1.length - wd b p.1.length - p.2) % 4294967296],1 - (4294967296+wd a p.1.length - wd b p.1.length - p.2) / 4294967296),⟨ho.snoc (Nat.mod_lt _ (by decide)),?_,hq,by simpa using hr⟩,?_,aE ⟨.refl _,.refl _,.refl _,.refl _,aK (by simp),trivial⟩ ⟨rfl,trivial⟩⟩
  ·simp only [List.length_append,List.length_cons,List.length_nil];omega
  simp only [List.length_append,List.length_cons,List.length_nil];omega
 have hb1_:=dF0 hb1
 refine aW<|ae hP<|ab (az (rfl:_=AV.vec _))<|ab (a8 (rfl:_=AV.vec _))<|ag<|cY (t:=4) rfl rfl ?_
 refine am<|E1 rfl rfl ?_
 have e:p.1.length=a.length:=by omega
 exact aF (by rw [Ae ho e hlb hab hv])
theorem jB (x y:Int) (hx:L 45 x) (hy:L 45 y) :
  aH Tryz.prog 93 [I x,I y] (I (x+y)):=by
 refine aM Tryz.func93 rfl rfl rfl rfl ?_
 refine ae hP<|aq ai (aL rfl rfl)<|aq ai (aL rfl rfl)<|aq ai (aB hT rfl rfl)<|ag<|ao<|ae hP<|aI hT rfl<|bi hT rfl rfl rfl rfl ?_
 refine aI hT rfl<|bi hT rfl rfl rfl rfl ?_
 refine ab (uo hT rfl rfl rfl rfl)<|ag ?_
 refine ay rfl (fun hb1=>?_) (fun hb1=>?_)
 ·refine ae hP<|aI hT rfl<|bi hT rfl rfl rfl rfl ?_
  refine aI hT rfl<|bi hT rfl rfl rfl rfl ?_
  refine aI hT rfl<|bi hT rfl rfl rfl rfl ?_
  refine ab (ah (JG (wl x.natAbs) (wl y.natAbs) (bG _) (bG _) (sz hx) (sz hy))) ?_
  refine ab (ah (fG _ _ (ew _ _))) ?_
  refine aG hT rfl<|ag<|am<|E2 hT rfl rfl rfl rfl rfl rfl rfl ?_
  exact Sub.I (by rw [Ck];exact A2 hb1)
 refine au<|ao<|ae hP<|aI hT rfl<|bi hT rfl rfl rfl rfl ?_
 refine aI hT rfl<|bi hT rfl rfl rfl rfl ?_
 refine ab (ah (pH x.natAbs y.natAbs)) ?_
 refine ab (dp rfl rfl)<|ag ?_
 refine ay rfl (fun hb2=>?_) (fun hb2=>?_)
 ·have hb2_:=dT0 hb2
  have hc:y.natAbs≤x.natAbs:=by have:=k9 hb2_;omega
  refine ae hP<|aI hT rfl<|bi hT rfl rfl rfl rfl ?_
  refine aI hT rfl<|bi hT rfl rfl rfl rfl ?_
  refine aI hT rfl<|bi hT rfl rfl rfl rfl ?_
  refine ab (ah (wE (wl x.natAbs) (wl y.natAbs) (bG _) (bG _) (sz hx) (fM hc) (by rw [bH,bH];exact hc))) ?_
  refine ab (ah (fG _ _ (ew _ _))) ?_
  refine aG hT rfl<|ag<|am<|E2 hT rfl rfl rfl rfl rfl rfl rfl ?_
  exact Sub.I (by rw [r6];exact Ic hb1 hc)
 have hb2_:=dF0 hb2
 have hc:x.natAbs < y.natAbs:=by have:=jV hb2_;omega
 refine au<|ae hP<|aI hT rfl<|bi hT rfl rfl rfl rfl ?_
 refine aI hT rfl<|bi hT rfl rfl rfl rfl ?_
 refine aI hT rfl<|bi hT rfl rfl rfl rfl ?_
 refine ab (ah (wE (wl y.natAbs) (wl x.natAbs) (bG _) (bG _) (sz hy) (fM (by omega)) (by rw [bH,bH];omega))) ?_
 refine ab (ah (fG _ _ (ew _ _))) ?_
 refine aG hT rfl<|ag<|am<|E2 hT rfl rfl rfl rfl rfl rfl rfl ?_
 exact Sub.I (by rw [r6];exact Ib hb1 hc)
theorem nM (x y:Int) (hx:L 45 x) (hy:L 45 y) :
  aH Tryz.prog 116 [I x,I y] (I (x - y)):=by
 have ix:LB x 45:=⟨hx⟩
 have iy:LB y 45:=⟨hy⟩
 refine aM Tryz.func116 rfl rfl rfl rfl ?_
 refine ae hP<|aq ai (aL rfl rfl)<|aq ai (aL rfl rfl)<|aq ai (aB hT rfl rfl)<|ag<|ae hP<|av hT rfl<|av hT rfl<|ab (ah (Mi _)) ?_
 refine ab (ah (jB _ _ lz lz)) ?_
 refine aG hT rfl<|ag<|am<|E2 hT rfl rfl rfl rfl rfl rfl rfl ?_
 exact Sub.I (by omega)
theorem dJ (x y:Int) (hx:L 45 x) (hy:L 45 y) :
  aH Tryz.prog 84 [I x,I y] (I (x*y)):=by
 have ha:=bG x.natAbs
 have hb:=bG y.natAbs
 have hla:=sz hx
 have hlb:=sz hy
 refine aM Tryz.func84 rfl rfl rfl rfl ?_
 refine ae hP<|aq ai (aL rfl rfl)<|aq ai (aL rfl rfl)<|aq ai (aB hT rfl rfl)<|ag<|ae hP<|aI hT rfl<|bi hT rfl rfl rfl rfl ?_
 refine ab (aX hT rfl rfl rfl rfl)<|aI hT rfl<|bi hT rfl rfl rfl rfl ?_
 refine ab (aX hT rfl rfl rfl rfl)<|bA rfl rfl ?_
 refine aq ai (eR hT rfl rfl rfl rfl rfl rfl rfl rfl (by omega)) ?_
 refine ab (a8 (rfl:_=AV.vec _))<|ag<|ao<|ae hP<|aj rfl<|ag<|aC<|bl (ι:=List Nat × Nat) (fun ⟨o,i⟩=>stL [(2,.loc 2 0),(3,.loc 3 0),(4,.loc 4 0),(5,.vec 16),(6,Z (i:Int))] [(2,⟨false,1,29,[zn (x),zm (x)]⟩),(3,⟨false,1,29,[zn (y),zm (y)]⟩),(4,⟨false,1,29,[zn (0),zm (0)]⟩),(16,WB 105 o)]) (fun ⟨o,i⟩=>i≤(wl x.natAbs).length∧o.length=(wl x.natAbs).length+(wl y.natAbs).length∧okW o∧wv o=wv ((wl x.natAbs).take i)*wv (wl y.natAbs)∧∀ j,i+(wl y.natAbs).length≤j→o.getD j 0=0) (fun ⟨_,i⟩=>(wl x.natAbs).length - i) (List.replicate (((wl x.natAbs).length:Int)+((wl y.natAbs).length:Int)).toNat 0,0) ⟨Nat.zero_le _,by simp;omega,okW.rep _,by rw [lh];simp [wv],fun j _=>me _ _⟩ (aE ⟨.refl _,.refl _,.refl _,.refl _,.refl _,trivial⟩ ⟨rfl,rfl,rfl,rfl,trivial⟩) ?_
 rintro ⟨o,i⟩ ⟨hi,hlo,ho,hv,hz⟩
 refine ao<|ae hP<|ak rfl<|aI hT rfl<|bi hT rfl rfl rfl rfl ?_
 refine ab (aX hT rfl rfl rfl rfl)<|ab (bh rfl rfl)<|ag ?_
 refine ay rfl (fun hb1=>?_) (fun hb1=>?_)
 ·have hb1_:=dT0 hb1
  have hlt0:i < (wl x.natAbs).length:=by omega
  refine au<|ao<|aC<|ae hP<|aj rfl<|ag<|ao<|ae hP<|aj rfl<|ag<|aC ?_
  obtain ⟨o0,ho0⟩:∃ o0,o0=o:=⟨_,rfl⟩
  have hv0:=hv
  rw [← ho0] at hv
  refine bl (ι:=List Nat × Nat × Nat) (fun ⟨o,k,c⟩=>stL [(2,.loc 2 0),(3,.loc 3 0),(4,.loc 4 0),(5,.vec 16),(6,Z (i:Int)),(7,.p (.c (.v (.int .u64 (c:Nat))))),(8,Z (k:Int))] [(2,⟨false,1,29,[zn (x),zm (x)]⟩),(3,⟨false,1,29,[zn (y),zm (y)]⟩),(4,⟨false,1,29,[zn (0),zm (0)]⟩),(16,WB 105 o)]) (fun ⟨o,k,c⟩=>k≤(wl y.natAbs).length∧o.length=(wl x.natAbs).length+(wl y.natAbs).length∧okW o∧c < 4294967296∧wv o+4294967296 ^ (i+k)*c=wv o0+4294967296 ^ i*((wl x.natAbs).getD i 0*wv ((wl y.natAbs).take k))∧∀ j,i+(wl y.natAbs).length≤j→o.getD j 0=0) (fun ⟨_,k,_⟩=>(wl y.natAbs).length - k) (o,0,0) ⟨Nat.zero_le _,hlo,ho,by omega,by rw [ho0];simp [wv],hz⟩ (aE ⟨.refl _,.refl _,.refl _,.refl _,.refl _,.refl _,.refl _,trivial⟩ ⟨rfl,rfl,rfl,rfl,trivial⟩) ?_
  clear hlo ho hz hv0 ho0
  rintro ⟨o,k,c⟩ ⟨hk,hlo,ho,hc,hkv,hz⟩
  refine ao<|ae hP<|ak rfl<|aI hT rfl<|bi hT rfl rfl rfl rfl ?_
  refine ab (aX hT rfl rfl rfl rfl)<|ab (bh rfl rfl)<|ag ?_
  refine ay rfl (fun hb2=>?_) (fun hb2=>?_)
  ·have hb2_:=dT0 hb2
   have hlt:k < (wl y.natAbs).length:=by omega
   have ha1:=ha.getD i
   have hb1v:=hb.getD k
   have hp1:=Nat.mul_le_mul (Nat.le_sub_one_of_lt (ha.getD i)) (Nat.le_sub_one_of_lt (hb.getD k))
   have ho1:=ho.getD (i+k)
   refine au<|ao<|aC<|ae hP<|ak rfl<|aI hT rfl<|bi hT rfl rfl rfl rfl ?_
   refine ak rfl<|c7 ?_
   refine cO hT rfl rfl rfl ?_
   refine ab (bn hT rfl rfl rfl rfl (dc (by omega))) ?_
   refine aI hT rfl<|bi hT rfl rfl rfl rfl ?_
   refine ak rfl<|c7 ?_
   refine cO hT rfl rfl rfl ?_
   refine ab (bn hT rfl rfl rfl rfl (dc (by omega))) ?_
   refine ab (bQ rfl rfl (c:=(((wl x.natAbs).getD i 0*(wl y.natAbs).getD k 0:Nat):Int)) (by rw [← Int.natCast_mul,dc (by omega)])) ?_
   refine ab (az (rfl:_=AV.vec _))<|ak rfl<|ak rfl<|ab (bN rfl rfl (c:=((i+k:Nat):Int)) (by rw [iW0 _ (by omega)];omega)) ?_
   refine du ?_
   refine ab (dF hT rfl rfl rfl rfl (by first | omega | (simp;omega)) rfl) ?_
   refine ab (bn hT rfl rfl rfl rfl (dc (by omega))) ?_
   refine ab (bN rfl rfl (c:=(((wl x.natAbs).getD i 0*(wl y.natAbs).getD k 0+o.getD (i+k) 0:Nat):Int)) (by rw [← Int.natCast_add,dc (by omega)])) ?_
   refine ab (bN rfl rfl (c:=(((wl x.natAbs).getD i 0*(wl y.natAbs).getD k 0+o.getD (i+k) 0+c:Nat):Int)) (by rw [← Int.natCast_add,Nat.add_comm,dc (by omega)])) ?_
   refine aj rfl<|ag<|ae hP<|ab (az (rfl:_=AV.vec _))<|ak rfl<|ak rfl<|ab (bN rfl rfl (c:=((i+k:Nat):Int)) (by rw [iW0 _ (by omega)];omega)) ?_
   refine ak rfl<|ab (bn hT rfl rfl rfl rfl (eP _)) ?_
   refine du ?_
   refine dC ai (cG hT rfl rfl rfl rfl rfl (by first | omega | (simp;omega)) rfl) ?_
   refine ag<|aw hP<|ak rfl<|ab (dw (j:=32) rfl rfl (by first | decide | omega)) ?_
   refine aj rfl<|ag<|aw hP<|ak rfl<|bA rfl rfl ?_
   refine aj rfl<|ag ?_
   have hr:=rY (b:=(wl y.natAbs)) (x:=(wl x.natAbs).getD i 0) (i:=i) (k:=k) (t:=(wl x.natAbs).getD i 0*(wl y.natAbs).getD k 0+o.getD (i+k) 0+c) (by omega) rfl hkv
   refine ⟨(o.set (i+k) (((wl x.natAbs).getD i 0*(wl y.natAbs).getD k 0+o.getD (i+k) 0+c) % 4294967296),k+1,((wl x.natAbs).getD i 0*(wl y.natAbs).getD k 0+o.getD (i+k) 0+c) / 4294967296),⟨by omega,by simpa using hlo,ho.set (Nat.mod_lt _ (by omega)),(Nat.div_lt_iff_lt_mul (by omega)).2 (by omega),hr,fun j hj=>?_⟩,by show (wl y.natAbs).length - (k+1) < (wl y.natAbs).length - k;omega,aE ⟨.refl _,.refl _,.refl _,.refl _,.refl _,.refl _,aK (by omega),trivial⟩ ⟨rfl,rfl,rfl,rfl,trivial⟩⟩
   rw [fC _ _ _ _ (by omega),if_neg (by omega)]
   exact hz j (by omega)
  have hb2_:=dF0 hb2
  have hke:k=(wl y.natAbs).length:=by omega
  subst hke
  refine aW<|aw hP<|ab (az (rfl:_=AV.vec _))<|ak rfl<|aI hT rfl<|bi hT rfl rfl rfl rfl ?_
  refine ab (aX hT rfl rfl rfl rfl)<|ab (bN rfl rfl (c:=((i+(wl y.natAbs).length:Nat):Int)) (by rw [iW0 _ (by omega)];omega)) ?_
  refine ak rfl<|ab (bn hT rfl rfl rfl rfl (kN (by omega))) ?_
  refine du ?_
  refine dC ai (cG hT rfl rfl rfl rfl rfl (by first | omega | (simp;omega)) rfl) ?_
  refine ag<|aw hP<|ak rfl<|bA rfl rfl ?_
  refine aj rfl<|ag ?_
  have hov:=r5 (o:=o0) (a:=(wl x.natAbs)) (by omega) (hz _ (Nat.le_refl _)) rfl hv hkv
  refine ⟨(o.set (i+(wl y.natAbs).length) c,i+1),⟨by omega,by simpa using hlo,ho.set (by omega),hov,fun j hj=>?_⟩,by show (wl x.natAbs).length - (i+1) < (wl x.natAbs).length - i;omega,aE ⟨.refl _,.refl _,.refl _,.refl _,aK (by omega),trivial⟩ ⟨rfl,rfl,rfl,rfl,trivial⟩⟩
  rw [fC _ _ _ _ (by omega),if_neg (by omega)]
  exact hz j (by omega)
 have hb1_:=dF0 hb1
 have hie:i=(wl x.natAbs).length:=by omega
 refine aW<|cY (t:=5) rfl rfl ?_
 refine ae hP<|aI hT rfl<|bi hT rfl rfl rfl rfl ?_
 refine aI hT rfl<|bi hT rfl rfl rfl rfl ?_
 refine ab (jK hT rfl rfl rfl rfl)<|ak rfl<|ab (ah (fG _ _ ho)) ?_
 refine aG hT rfl<|ag<|am<|E2 hT rfl rfl rfl rfl rfl rfl rfl ?_
 exact Sub.I (by rw [hv,hie,List.take_length,bH,bH];exact Hd x y)
end
section
open Go Go.AM
theorem zM (x:Int) (hx:L 45 x) :
  aH Tryz.prog 224 [I x] (Z (bo x.natAbs)):=by
 have hlen:=sz hx
 refine aM Tryz.func224 rfl rfl rfl rfl ?_
 refine ae hP<|aq ai (aL rfl rfl)<|aj rfl<|ag<|ao<|ae hP<|aI hT rfl<|bi hT rfl rfl rfl rfl ?_
 refine ab (aX hT rfl rfl rfl rfl)<|ab (bj rfl rfl)<|ag ?_
 refine ay rfl (fun hb1=>?_) (fun hb1=>?_)
 ·have hb1_:=bT hb1
  refine ae hP<|aj rfl<|ag<|am<|E1 rfl rfl ?_
  have h0:=wl_len_zero.1 hb1_
  exact aK (by rw [h0];rfl)
 have hb1_:=bF hb1
 have h1:(wl x.natAbs).length≠0:=fun e=>hb1_ (by rw [e];rfl)
 have hbt:=vp (m:=x.natAbs) (n:=(wl x.natAbs).length - 1) (by omega)
 have htl:=(bG x.natAbs).getD ((wl x.natAbs).length - 1)
 have hb32:=gH (k:=32) htl
 refine au<|ae hP<|aI hT rfl<|bi hT rfl rfl rfl rfl ?_
 refine ab (aX hT rfl rfl rfl rfl)<|ab (bE rfl rfl (c:=(((wl x.natAbs).length - 1:Nat):Int)) (by rw [iW0 _ (by omega)];omega)) ?_
 refine ab (bQ rfl rfl (c:=((32*((wl x.natAbs).length - 1):Nat):Int)) (by rw [iW0 _ (by omega)];omega)) ?_
 refine aj rfl<|ag<|ao<|ae hP<|aI hT rfl<|bi hT rfl rfl rfl rfl ?_
 refine aI hT rfl<|bi hT rfl rfl rfl rfl ?_
 refine ab (aX hT rfl rfl rfl rfl)<|ab (bE rfl rfl (c:=(((wl x.natAbs).length - 1:Nat):Int)) (by rw [iW0 _ (by omega)];omega)) ?_
 refine c7 ?_
 refine cO hT rfl rfl rfl ?_
 refine aj rfl<|ag<|aC<|bl (ι:=Nat × Nat) (fun p=>stL [(3,Z ((p.1:Nat):Int)),(4,.p (.c (w32 p.2)))] []) (fun p=>p.1+bo p.2=bo x.natAbs∧p.2 < 4294967296∧p.1≤bo x.natAbs) (fun p=>p.2) (32*((wl x.natAbs).length - 1),(wl x.natAbs).getD ((wl x.natAbs).length - 1) 0) ⟨hbt.symm,htl,show 32*((wl x.natAbs).length - 1)≤bo x.natAbs by omega⟩ (aE ⟨.refl _,.refl _,trivial⟩ trivial) ?_
 rintro p ⟨hp1,hp2,hp3⟩
 refine ao<|ae hP<|ak rfl<|ab (bJ rfl rfl)<|ag ?_
 refine ay rfl (fun hb2=>?_) (fun hb2=>?_)
 ·have hb2_:=dT0 hb2
  refine au<|ao<|aC<|aw hP<|ak rfl<|ab (bN rfl rfl (c:=((p.1+1:Nat):Int)) (by rw [iW0 _ (by omega)];omega)) ?_
  refine aj rfl<|ag<|aw hP<|ak rfl<|ab (cZ rfl rfl (by decide) (c:=((p.2 / 2 ^ 1:Nat):Int)) (by rw [Int.tdiv_eq_ediv_of_nonneg (by omega),IntWalk.u32_in _ (by omega)];omega)) ?_
  refine aj rfl<|ag ?_
  have hd:=AS (n:=p.2) (by omega)
  refine ⟨(p.1+1,p.2 / 2 ^ 1),⟨show p.1+1+bo (p.2 / 2 ^ 1)=bo x.natAbs by omega,show p.2 / 2 ^ 1 < 4294967296 by omega,show p.1+1≤bo x.natAbs by omega⟩,by show p.2 / 2 ^ 1 < p.2;omega,aE ⟨.refl _,.refl _,trivial⟩ trivial⟩
 have hb2_:=dF0 hb2
 refine aW<|ae hP<|ak rfl<|aj rfl<|ag<|am<|E1 rfl rfl ?_
 have h0:p.2=0:=by omega
 rw [h0] at hp1
 exact aK (by rw [← hp1];rfl)
theorem wF (l:List Nat) (n:Nat) (hl:okW l) (hll:l.length≤1099511627776) (hn:n≤35184372088832) :
  CallV Tryz.prog 223 [.p (.c (W l)),Z (n:Int)] (WB 105 (dgs (n / 32+l.length+1) (wv l*2 ^ n))):=by
 obtain ⟨q,hq⟩:∃ q,q=n / 32:=⟨_,rfl⟩
 obtain ⟨k,hk⟩:∃ k,k=n % 32:=⟨_,rfl⟩
 have hks:n=32*q+k:=by omega
 have hk32:k < 32:=by omega
 refine pd Tryz.func223 (by kernel_rfl) rfl rfl (bL0 rfl) ?_
 refine ae hP<|aj rfl<|ag<|ae hP<|ak rfl<|ab (cZ rfl rfl (by decide) (c:=((q:Nat):Int)) (by rw [Int.tdiv_eq_ediv_of_nonneg (by omega),iW0 _ (by omega)];omega)) ?_
 refine aq ai (eR hT rfl rfl rfl rfl rfl rfl rfl rfl (by omega)) ?_
 refine ab (a8 (rfl:_=AV.vec _))<|ag<|ae hP<|ak rfl<|ab (bM rfl rfl (by decide) (c:=((k:Nat):Int)) (by rw [Int.tmod_eq_emod_of_nonneg (by omega)];omega)) ?_
 refine ab (bn hT rfl rfl rfl rfl (dc (by omega))) ?_
 refine aj rfl<|ag<|cL 10 1000 rfl rfl rfl ?_
 refine ao<|ae hP<|aj rfl<|ag<|aC<|bl (ι:=List Nat × Nat) (fun ⟨o,i⟩=>stL [(0,.p (.c (W l))),(5,.vec 1000),(6,.p (.c (.v (.int .u64 ((k:Nat):Int))))),(7,Z (i:Int))] [(1000,WB 105 o)]) (fun ⟨o,i⟩=>i≤l.length+1∧okW o∧o.length=q+i∧wv o+4294967296 ^ o.length*(wd l ((i:Int) - 1)*2 ^ k / 2 ^ 32)=wv (l.take i)*2 ^ (32*q+k)) (fun ⟨_,i⟩=>l.length+1 - i) (List.replicate ((q:Nat):Int).toNat 0,0) ⟨Nat.zero_le _,okW.rep _,by simp,by rw [lh,pp (.inl (by decide))];simp [wv]⟩ (aE ⟨.refl _,.refl _,.refl _,.refl _,trivial⟩ ⟨rfl,trivial⟩) ?_
 rintro ⟨o,i⟩ ⟨hi,hok,hol,hv⟩
 have hwi:=en hl (i:Int)
 have hwj:=en hl ((i:Int) - 1)
 refine ao<|ae hP<|ak rfl<|ak rfl<|ab (aX hT rfl rfl rfl rfl)<|ab (ej rfl rfl)<|ag ?_
 refine ay rfl (fun hb1=>?_) (fun hb1=>?_)
 ·have hb1_:=dT0 hb1
  have hlt:i≤l.length:=by omega
  refine au<|ao<|aC<|aw hP<|ab (az (rfl:_=AV.vec _))<|ak rfl<|ak rfl<|ab (ah (dM _ _ hl)) ?_
  refine ak rfl<|ab (lv rfl rfl (by omega) (c:=((wd l i*2 ^ k:Nat):Int)) (xQ hwi hk32)) ?_
  refine ak rfl<|ak rfl<|ab (bE rfl rfl (by first | exact iW0 _ (by omega) | rfl)) ?_
  refine ab (ah (dM _ _ hl)) ?_
  refine ak rfl<|ab (lv rfl rfl (by omega) (c:=((wd l ((i:Int) - 1)*2 ^ k:Nat):Int)) (xQ hwj hk32)) ?_
  refine ab (dw (j:=32) rfl rfl (by decide)) ?_
  refine ab (mV rfl rfl rfl (gm (tF hwi hk32)) (gm (Nat.lt_of_le_of_lt (Nat.div_le_self _ _) (tF hwj hk32)))) ?_
  refine ab (bn hT rfl rfl rfl rfl (eP _)) ?_
  refine ab (bg hT rfl rfl rfl (es:=[_]) rfl rfl rfl)<|RK.app ai (gD hT rfl rfl rfl rfl rfl rfl rfl (xs:=[(wd l i*2 ^ k ||| wd l ((i:Int) - 1)*2 ^ k / 2 ^ 32) % 4294967296]) rfl (by simp only [List.length_cons,List.length_nil];omega) (by decide)) ?_
  refine ab (a8 (rfl:_=AV.vec _))<|ag<|cL 36 1000 rfl rfl rfl ?_
  refine aw hP<|ak rfl<|bA rfl rfl ?_
  refine aj rfl<|ag ?_
  have hr:=yG hl hk32 hol hv
  refine ⟨(o ++ [(wd l i*2 ^ k ||| wd l ((i:Int) - 1)*2 ^ k / 2 ^ 32) % 4294967296],i+1),⟨by omega,hok.snoc (Nat.mod_lt _ (by decide)),by simp;omega,?_⟩,by show l.length+1 - (i+1) < l.length+1 - i;omega,aE ⟨.refl _,.refl _,.refl _,.refl _,trivial⟩ ⟨rfl,trivial⟩⟩
  rw [List.length_append,List.length_cons,List.length_nil,show (((i+1:Nat):Int) - 1)=(i:Int) by omega]
  exact hr
 have hb1_:=dF0 hb1
 have hge:i=l.length+1:=by omega
 refine aW<|ae hP<|ab (az (rfl:_=AV.vec _))<|ab (a8 (rfl:_=AV.vec _))<|ag<|am ?_
 refine ⟨.inr rfl,_,_,rfl,rfl,?_⟩
 rw [← hq]
 exact congrArg (fun z=>some (WB 105 z)) (by rw [CP hok hol hge hv,hks])
theorem JH (l:List Nat) (n:Nat) (hl:okW l) (hll:l.length≤1099511627776) (hn:n≤35184372088832):aH Tryz.prog 223 [.p (.c (W l)),Z (n:Int)] (.p (.c (W (dgs (n / 32+l.length+1) (wv l*2 ^ n))))):=(wF l n hl hll hn).call0W
theorem zK (a b:List Nat) (ha:okW a) (hb:okW b) (hla:a.length≤4398046511104) (hlb:b.length≤4398046511104) :
  aH Tryz.prog 239 [.p (.c (W a)),.p (.c (W b))] (B (decide (wv b≤wv a))):=by
 obtain ⟨mx,hmx⟩:∃ mx:Int,mx=(if (b.length:Int) > a.length then (b.length:Int) else a.length):=⟨_,rfl⟩
 have hm1:(a.length:Int)≤mx∧(b.length:Int)≤mx∧mx≤4398046511104:=by rw [hmx];split <;> omega
 refine aM Tryz.func239 rfl rfl rfl rfl ?_
 refine ae hP<|aj rfl<|ag<|ao<|ae hP<|ak rfl<|ab (aX hT rfl rfl rfl rfl)<|ak rfl<|ab (aX hT rfl rfl rfl rfl)<|ab (pS rfl rfl)<|ab (bE rfl rfl (c:=(mx.toNat:Int) - 1) (by rw [← hmx,iW0 _ (by omega)];omega)) ?_
 refine aj rfl<|ag<|aC<|bl (ι:=Nat) (fun k=>stL [(0,.p (.c (W a))),(1,.p (.c (W b))),(5,Z ((k:Int) - 1))] []) (fun k=>k≤mx.toNat∧wv a / 4294967296 ^ k=wv b / 4294967296 ^ k) (fun k=>k) mx.toNat ⟨Nat.le_refl _,by rw [oq ha (by omega),oq hb (by omega)]⟩ (aE ⟨.refl _,.refl _,.refl _,trivial⟩ trivial) ?_
 rintro k ⟨hk,he⟩
 refine ao<|ae hP<|ak rfl<|ab (dp rfl rfl)<|ag ?_
 refine ay rfl (fun hb1=>?_) (fun hb1=>?_)
 ·have hb1_:=dT0 hb1
  refine au<|ao<|aC<|ae hP<|ak rfl<|ak rfl<|ab (ah (dM _ _ (by assumption))) ?_
  refine ak rfl<|ak rfl<|ab (ah (dM _ _ (by assumption))) ?_
  refine ab (bq rfl rfl)<|ag ?_
  refine ay rfl (fun hb2=>?_) (fun hb2=>?_)
  ·have hb2_:=b8 hb2
   refine ae hP<|ak rfl<|ak rfl<|ab (ah (dM _ _ (by assumption))) ?_
   refine ak rfl<|ak rfl<|ab (ah (dM _ _ (by assumption))) ?_
   refine ab (bJ rfl rfl)<|aj rfl<|ag<|am<|E1 rfl rfl ?_
   exact bd (zE ha hb hb1_ he hb2_)
  have hb2_:=bU hb2
  refine au<|aw hP<|ak rfl<|ab (bE rfl rfl (by first | exact iW0 _ (by omega) | rfl)) ?_
  refine aj rfl<|ag ?_
  exact ⟨k - 1,⟨by omega,x7 ha hb hb1_ he hb2_⟩,by omega,aE ⟨.refl _,.refl _,aK (by omega),trivial⟩ trivial⟩
 have hb1_:=dF0 hb1
 refine aW<|ae hP<|aj rfl<|ag<|am<|E1 rfl rfl ?_
 have h0:k=0:=by omega
 subst h0
 exact bd (decide_eq_true (by simpa using Nat.le_of_eq he.symm)).symm
theorem GC (l:List Nat) (hl:okW l) (hll:l.length≤4398046511104) :
  CallM Tryz.prog 241 [.vec 0] (upd O 0 (some (WB 105 l))) (.t []) (upd O 0 (some (WB 105 (dgs l.length (wv l / 2))))):=by
 refine mq (np:=1) Tryz.func241 (by kernel_rfl) rfl rfl (bL0 rfl) qn oG rfl ?_
 refine ae hP<|aj rfl<|ag<|aC<|bl (ι:=Nat) (fun i=>stL [(0,.vec 0),(2,Z (i:Int))] [(0,WB 105 (hlf l i))]) (fun i=>i≤l.length) (fun i=>l.length - i) 0 (Nat.zero_le _) (aE ⟨.refl _,.refl _,trivial⟩ ⟨congrArg (fun z=>some (WB 105 z)) (CY l).symm,trivial⟩) ?_
 intro i hi
 have hlen:=HB l hi
 have hok:=KF hl i
 have hwi:=en hok (i:Int)
 have hwj:=en hok ((i:Int)+1)
 refine ao<|ae hP<|ak rfl<|ab (az (rfl:_=AV.vec _))<|ab (fj hT rfl rfl rfl rfl)<|ab (bh rfl rfl)<|ag ?_
 refine ay rfl (fun hb1=>?_) (fun hb1=>?_)
 ·have hb1_:=dT0 hb1
  have hlt:i < l.length:=by omega
  refine au<|ao<|aC<|aw hP<|ab (az (rfl:_=AV.vec _))<|ak rfl<|ab (az (rfl:_=AV.vec _))<|ak rfl<|ab (Eff.borrow (.vecW rfl (.same .nil)) (dM (hlf l i) _ hok)) ?_
  refine ab (dw (j:=1) rfl rfl (by decide)) ?_
  refine ab (az (rfl:_=AV.vec _))<|ak rfl<|bA rfl rfl ?_
  refine ab (Eff.borrow (.vecW rfl (.same .nil)) (dM (hlf l i) _ hok)) ?_
  refine ab (iB (j:=31) rfl rfl (by decide) rfl) ?_
  refine ab (mV rfl rfl rfl (gm (by omega)) (gm (Nat.mod_lt _ (by decide)))) ?_
  refine ab (bn hT rfl rfl rfl rfl (eP _)) ?_
  refine du ?_
  refine dC ai (cG hT rfl rfl rfl rfl rfl (by first | omega | (simp;omega)) (show (hlf l i).set i _=hlf l (i+1) by rw [Aq (Int.le_refl _) (by omega),Aq (by omega) (by omega),Ar hl];exact HA hlt)) ?_
  refine ag<|aw hP<|ak rfl<|bA rfl rfl ?_
  refine aj rfl<|ag ?_
  exact ⟨i+1,by show i+1≤l.length;omega,by show l.length - (i+1) < l.length - i;omega,aE ⟨.refl _,aK (by omega),trivial⟩ ⟨rfl,trivial⟩⟩
 have hb1_:=dF0 hb1
 have hie:i=l.length:=by omega
 refine aW ?_
 refine ni rfl (.inl rfl)  ?_ (oS ?_)
 exact .refl _
 exact congrArg (fun z=>some (WB 105 z)) (by rw [hie,HD])
theorem Gv (a b:List Nat) (ha:okW a) (hb:okW b) (hla:a.length≤4398046511104) (hab:wv b≤wv a) :
  CallM Tryz.prog 240 [.vec 0,.vec 1] (upd (upd O 0 (some (WB 105 a))) 1 (some (WB 105 b))) (.t []) (upd (upd O 0 (some (WB 105 (dgs a.length (wv a - wv b))))) 1 (some (WB 105 b))):=by
 refine mq (np:=2) Tryz.func240 (by kernel_rfl) rfl rfl (bL0 rfl) Fc Bi rfl ?_
 refine ae hP<|aj rfl<|ag<|ae hP<|aj rfl<|ag<|aC<|bl (ι:=List Nat × Nat) (fun p=>stL [(0,.vec 0),(1,.vec 1),(4,.p (.c (.v (.int .u64 ((p.2:Nat):Int))))),(5,Z ((p.1.length:Nat):Int))] [(0,WB 105 (p.1 ++ a.drop p.1.length)),(1,WB 105 b)]) (fun p=>p.1.length≤a.length∧okW p.1∧p.2≤1∧wv p.1+wv (b.take p.1.length)=wv (a.take p.1.length)+4294967296 ^ p.1.length*p.2) (fun p=>a.length - p.1.length) ([],0) ⟨Nat.zero_le _,okW.nil,by decide,by simp [wv]⟩ (aE ⟨.refl _,.refl _,.refl _,.refl _,trivial⟩ ⟨rfl,rfl,trivial⟩) ?_
 rintro p ⟨hll,hol,hc,hv⟩
 have hmid:=qO hll
 have hwb:=en hb (p.1.length:Nat)
 refine ao<|ae hP<|ak rfl<|ab (az (rfl:_=AV.vec _))<|ab (fj hT rfl rfl rfl rfl)<|ab (bh rfl rfl)<|ag ?_
 refine ay rfl (fun hb1=>?_) (fun hb1=>?_)
 ·have hb1_:=dT0 hb1
  have hlt:p.1.length < a.length:=by omega
  have hal:=ha.getD p.1.length
  have htx:=(zl ha hb hc hlt).1
  refine au<|ao<|aC<|ae hP<|ab (az (rfl:_=AV.vec _))<|ak rfl<|du ?_
  refine ab (dF hT rfl rfl rfl rfl (by first | omega | (simp;omega)) (qP hlt)) ?_
  refine ab (bn hT rfl rfl rfl rfl (dc (by omega))) ?_
  refine ab (bN rfl rfl (c:=((4294967296+a.getD p.1.length 0:Nat):Int)) (by rw [IntWalk.u64_in _ (by omega)];omega)) ?_
  refine ab (az (rfl:_=AV.vec _))<|ak rfl<|ab (Eff.borrow (.vecW rfl (.same .nil)) (dM b _ hb)) ?_
  refine ab (bE rfl rfl (c:=((4294967296+a.getD p.1.length 0 - wd b (p.1.length:Nat):Nat):Int)) (by rw [IntWalk.u64_in _ (by omega)];omega)) ?_
  refine ak rfl<|ab (bE rfl rfl (c:=((4294967296+a.getD p.1.length 0 - wd b (p.1.length:Nat) - p.2:Nat):Int)) (by rw [IntWalk.u64_in _ (by omega)];omega)) ?_
  refine aj rfl<|ag<|ae hP<|ab (az (rfl:_=AV.vec _))<|ak rfl<|ak rfl<|ab (bn hT rfl rfl rfl rfl (eP _)) ?_
  refine du ?_
  refine dC ai (cG hT rfl rfl rfl rfl rfl (by first | omega | (simp;omega)) (qN hlt)) ?_
  refine ag<|aw hP<|ak rfl<|ab (dw (j:=32) rfl rfl (by decide)) ?_
  refine ab (bE rfl rfl (c:=((1 - (4294967296+a.getD p.1.length 0 - wd b (p.1.length:Nat) - p.2) / 4294967296:Nat):Int)) (by rw [IntWalk.u64_in _ (by omega)];omega)) ?_
  refine aj rfl<|ag<|aw hP<|ak rfl<|bA rfl rfl ?_
  refine aj rfl<|ag ?_
  have hx:=(zl ha hb hc hlt).2
  have hr:=oA ha hb hc hv
  rw [← hx] at hr
  refine ⟨(p.1 ++ [(4294967296+a.getD p.1.length 0 - wd b (p.1.length:Nat) - p.2) % 4294967296],1 - (4294967296+a.getD p.1.length 0 - wd b (p.1.length:Nat) - p.2) / 4294967296),⟨?_,hol.snoc (Nat.mod_lt _ (by decide)),Nat.sub_le _ _,by simpa using hr⟩,?_,aE ⟨.refl _,.refl _,.refl _,aK (by simp),trivial⟩ ⟨rfl,rfl,trivial⟩⟩
  ·simp only [List.length_append,List.length_cons,List.length_nil];omega
  simp only [List.length_append,List.length_cons,List.length_nil];omega
 have hb1_:=dF0 hb1
 have hge:p.1.length=a.length:=by omega
 refine aW ?_
 refine ni rfl (.inl rfl)  ?_ (Cu ?_ rfl)
 exact .refl _
 exact congrArg (fun z=>some (WB 105 z)) (BR ha hb hol hge hab hv)
theorem zL (m:Nat) (l:List Nat) (hl:okW l) (hll:l.length≤4398046511104):CallM Tryz.prog 241 [.vec m] (upd O m (some (WB 105 l))) (.t []) (upd O m (some (WB 105 (dgs l.length (wv l / 2))))):=CallM.ren1 m (GC l hl hll) rfl rfl
theorem JE (m k:Nat) (hmk:Nat.beq m k=false) (a b:List Nat) (ha:okW a) (hb:okW b) (hla:a.length≤4398046511104) (hab:wv b≤wv a):CallM Tryz.prog 240 [.vec m,.vec k] (upd (upd O m (some (WB 105 a))) k (some (WB 105 b))) (.t []) (upd (upd O m (some (WB 105 (dgs a.length (wv a - wv b))))) k (some (WB 105 b))):=CallM.ren2 m k hmk (Gv a b ha hb hla hab) rfl rfl
end
section
open Go Go.AM
theorem wG (a:Nat) (h:(wl a).length≤1099511627776):aH Tryz.prog 224 [.p (.a [zn 0,nt a])] (Z (bo a)):=by
 have h:aH Tryz.prog 224 [.p (.a [zn (a:Int),nt a])] (Z (bo a)):=zM (a:Int) (Dz h)
 rw [Ii] at h
 exact h
theorem B9 (a b:Nat) (hla:(wl a).length≤1099511627776) (hlb:(wl b).length≤1099511627776) (hb:0 < b) :
  aH Tryz.prog 210 [.p (.c (nt a)),.p (.c (nt b))] (.p (.a [W (qL a b),W (rL a b)])):=by
 have hba:=vr hla
 have hbb:=vr hlb
 refine aM Tryz.func210 rfl rfl rfl rfl ?_
 refine ae hP<|aq ai (aB hT rfl rfl)<|ag<|cH (ι:=Unit) (fun _=>stL [(0,.p (.c (nt a))),(1,.p (.c (nt b))),(4,.loc 4 0)] [(4,⟨false,1,236,[.sl 0 [],.sl 0 []]⟩)]) (fun _=>¬ ((wl a).length≤2∧(wl b).length≤2)) ?_ ?_
 ·refine ae hP<|ak rfl<|ab (aX hT rfl rfl rfl rfl)<|ab (ej rfl rfl)<|ak rfl ?_
  refine aY (t:=15) rfl (fun hg1=>?_) (fun hg1=>?_)
  ·have hg1_:=dT0 hg1
   have hl1:(wl a).length≤2:=by have:=dT0 hg1;omega
   refine aA hg1 (az (rfl:_=AV.p (.c _))) ?_
   refine aA hg1 (aX hT rfl rfl rfl rfl) ?_
   refine aA hg1 (ej rfl rfl) ?_
   refine ab (aO rfl hg1 (rfl:_=AV.p (.c _)))<|ag ?_
   refine ay rfl (fun hb2=>?_) (fun hb2=>?_)
   ·have hb2_:=dT0 hb2
    have hl2:(wl b).length≤2:=by have:=dT0 hb2;omega
    have ha64:=lx hl1
    have hb64:=lx hl2
    have hdv:=Nat.div_le_self a b
    have hmd:=Nat.mod_le a b
    refine ae hP<|ak rfl<|ab (ah (dM _ _ (bG _))) ?_
    refine ak rfl<|ab (ah (dM _ _ (bG _))) ?_
    refine ab (iB (j:=32) rfl rfl (by decide) rfl) ?_
    refine ab (j6 rfl rfl (CL hl1)) ?_
    refine aj rfl<|ag<|ae hP<|ak rfl<|ab (ah (dM _ _ (bG _))) ?_
    refine ak rfl<|ab (ah (dM _ _ (bG _))) ?_
    refine ab (iB (j:=32) rfl rfl (by decide) rfl) ?_
    refine ab (j6 rfl rfl (CL hl2)) ?_
    refine aj rfl<|ag<|ae hP<|ak rfl<|ak rfl<|ab (cZ rfl rfl (by omega) (c:=((a / b:Nat):Int)) (by rw [Int.tdiv_eq_ediv_of_nonneg (by omega),← Int.natCast_ediv,dc (by omega)])) ?_
    refine ab (bn hT rfl rfl rfl rfl (eP _)) ?_
    refine ak rfl<|ak rfl<|ab (cZ rfl rfl (by omega) (c:=((a / b:Nat):Int)) (by rw [Int.tdiv_eq_ediv_of_nonneg (by omega),← Int.natCast_ediv,dc (by omega)])) ?_
    refine ab (dw (j:=32) rfl rfl (by decide)) ?_
    refine ab (bn hT rfl rfl rfl rfl (kN (by omega))) ?_
    refine ab (bg hT rfl rfl rfl (es:=[_,_]) rfl rfl rfl)<|ak rfl<|ak rfl<|ab (bM rfl rfl (by omega) (c:=((a % b:Nat):Int)) (by rw [Int.tmod_eq_emod_of_nonneg (by omega),← Int.natCast_emod])) ?_
    refine ab (bn hT rfl rfl rfl rfl (eP _)) ?_
    refine ak rfl<|ak rfl<|ab (bM rfl rfl (by omega) (c:=((a % b:Nat):Int)) (by rw [Int.tmod_eq_emod_of_nonneg (by omega),← Int.natCast_emod])) ?_
    refine ab (dw (j:=32) rfl rfl (by decide)) ?_
    refine ab (bn hT rfl rfl rfl rfl (kN (by omega))) ?_
    refine ab (bg hT rfl rfl rfl (es:=[_,_]) rfl rfl rfl)<|ab (aR hT rfl rfl rfl (es:=[_,_]) rfl)<|aG hT rfl<|ag<|am<|E2 hT rfl rfl rfl rfl rfl rfl rfl ?_
    exact aF (by unfold qL rL;rw [if_pos ⟨hl1,hl2⟩,if_pos ⟨hl1,hl2⟩];rfl)
   have hb2_:=dF0 hb2
   have hl2:¬ (wl b).length≤2:=by have:=dF0 hb2;omega
   have hsm:¬ ((wl a).length≤2∧(wl b).length≤2):=fun x=>hl2 x.2
   refine au ?_
   exact ⟨(),hsm,aE ⟨.refl _,.refl _,.refl _,trivial⟩ ⟨rfl,trivial⟩⟩
  have hg1_:=dF0 hg1
  have hl1:¬ (wl a).length≤2:=by have:=dF0 hg1;omega
  have hsm:¬ ((wl a).length≤2∧(wl b).length≤2):=fun x=>hl1 x.1
  iterate 3 refine aZ hg1 ?_
  refine ab (aN rfl hg1 (rfl:_=AV.p (.c _)))<|ag<|aQ rfl rfl<|au ?_
  exact ⟨(),hsm,aE ⟨.refl _,.refl _,.refl _,trivial⟩ ⟨rfl,trivial⟩⟩
 rintro _ hsm
 refine ae hP<|aq ai (gC hT rfl rfl rfl rfl (ws:=[]) rfl rfl rfl) ?_
 refine ak rfl<|RK.app ai (gD hT rfl rfl rfl rfl rfl rfl rfl (xs:=wl a) rfl (by simp only [List.length_nil];omega) (by decide)) ?_
 refine ab (a8 (rfl:_=AV.vec _))<|ag<|ae hP<|ak rfl<|ab (aR hT rfl rfl rfl (es:=[_,_]) rfl)<|ab (ah (wG a hla)) ?_
 refine ak rfl<|ab (aR hT rfl rfl rfl (es:=[_,_]) rfl)<|ab (ah (wG b hlb)) ?_
 refine ab (bE rfl rfl (by first | exact iW0 _ (by omega) | rfl)) ?_
 refine aj rfl<|ag<|ao<|ae hP<|ak rfl<|ab (bh rfl rfl)<|ag ?_
 refine ay rfl (fun hb3=>?_) (fun hb3=>?_)
 ·have hb3_:=dT0 hb3
  have hneg:bo a < bo b:=by omega
  refine cY (t:=7) rfl rfl ?_
  refine ae hP<|ak rfl<|ab (aR hT rfl rfl rfl (es:=[_,_]) rfl)<|aG hT rfl<|ag<|am<|E2 hT rfl rfl rfl rfl rfl rfl rfl ?_
  exact Dg hsm hneg
 have hb3_:=dF0 hb3
 have hnn:bo b≤bo a:=by omega
 obtain ⟨N,hN⟩:∃ N,N=bo a - bo b:=⟨_,rfl⟩
 refine au<|dz (t:=stL [(0,.p (.c (nt a))),(1,.p (.c (nt b))),(4,.loc 4 0),(7,.vec 55),(8,Z (N:Int))] [(4,⟨false,1,236,[.sl 0 [],.sl 0 []]⟩),(55,WB 105 (wl a))]) (aE ⟨.refl _,.refl _,.refl _,.refl _,aK (by omega),trivial⟩ ⟨rfl,rfl,trivial⟩) ?_
 refine ae hP<|ak rfl<|ab (cZ rfl rfl (by decide) (c:=((N / 32:Nat):Int)) (by rw [Int.tdiv_eq_ediv_of_nonneg (by omega),iW0 _ (by omega)];omega)) ?_
 refine ab (bN rfl rfl (c:=((N / 32+1:Nat):Int)) (by rw [iW0 _ (by omega)];omega)) ?_
 refine aq ai (eR hT rfl rfl rfl rfl rfl rfl rfl rfl (by omega)) ?_
 refine ab (a8 (rfl:_=AV.vec _))<|ag<|ae hP<|ak rfl<|ak rfl<|aq ai (Eff.callV (wF (wl b) N (bG _) hlb (by omega))) ?_
 refine ab (a8 (rfl:_=AV.vec _))<|ag<|ao<|ae hP<|ak rfl<|aj rfl<|ag<|aC<|bl (ι:=Nat × Nat × Nat) (fun ⟨j,Q,R⟩=>stL [(4,.loc 4 0),(7,.vec 55),(9,.vec 70),(10,.vec 73),(11,Z ((j:Int) - 1))] [(4,⟨false,1,236,[.sl 0 [],.sl 0 []]⟩),(55,WB 105 (dgs (wl a).length R)),(70,WB 105 (dgs (N / 32+1) Q)),(73,WB 105 (dgs (N / 32+(wl b).length+1) (b*2 ^ j / 2)))]) (fun ⟨j,Q,R⟩=>j≤N+1∧Q < 4294967296 ^ (N / 32+1)∧Dv a b j Q R) (fun ⟨j,_,_⟩=>j) (N+1,0,a) ⟨Nat.le_refl _,Nat.pow_pos (by decide),hN ▸ Dv.start hb hnn⟩ (aE ⟨.refl _,.refl _,.refl _,.refl _,aK (by omega),trivial⟩ ⟨rfl,congrArg (fun z=>some (WB 105 z)) (AG a).symm,congrArg (fun z=>some (WB 105 z)) (by rw [Dj];rfl),congrArg (fun z=>some (WB 105 z)) (by rw [bH,gX (by omega),Nat.add_sub_cancel]),trivial⟩) ?_
 rintro ⟨j,Q,R⟩ ⟨hj,hQ,hD⟩
 have hRa:R < 4294967296 ^ (wl a).length:=Nat.lt_of_le_of_lt hD.le (dE a)
 have hDl:=Om hb hj
 refine ao<|ae hP<|ak rfl<|ab (dp rfl rfl)<|ag ?_
 refine ay rfl (fun hb4=>?_) (fun hb4=>?_)
 ·have hb4_:=dT0 hb4
  have hj0:0 < j:=by omega
  have hset:=Gh (m:=(N / 32+1)) (Q:=Q) (i:=j - 1) (by omega) (by rw [show j - 1+1=j by omega];exact hD.mul) hQ
  have hkk:((j:Int) - 1)=((j - 1:Nat):Int):=by omega
  refine au<|ao<|aC<|ao<|ae hP<|ab (az (rfl:_=AV.vec _))<|ab (az (rfl:_=AV.vec _))<|ab (Eff.borrow (.vecW rfl (.vecW rfl .nil)) (zK _ _ (ew _ _) (ew _ _) (by rw [bZ];omega) (by rw [bZ];omega))) ?_
  refine ag ?_
  refine ay rfl (fun hb5=>?_) (fun hb5=>?_)
  ·have hle:=zD hRa hDl hb5
   rw [gX hj0] at hle
   refine ae hP<|ab (az (rfl:_=AV.vec _))<|ab (az (rfl:_=AV.vec _))<|RK.mutL ai (Eff.call (rd:=[55,73]) (JE 55 73 rfl (dgs (wl a).length R) (dgs (N / 32+(wl b).length+1) (b*2 ^ j / 2)) (ew _ _) (ew _ _) (by rw [bZ];omega) (by rw [ef _ _ hRa,ef _ _ hDl,gX hj0];exact hle)) (NN rfl rfl rfl) Bh) ?_
   refine ag<|aw hP<|ab (az (rfl:_=AV.vec _))<|ak rfl<|ab (cZ rfl rfl (by decide) (c:=(((j - 1) / 32:Nat):Int)) (by rw [hkk,Int.tdiv_eq_ediv_of_nonneg (by omega),iW0 _ (by omega)];omega)) ?_
   refine ab (by first | exact gB hT rfl rfl rfl rfl rfl rfl rfl (by rw [bZ];omega) | exact fH hT rfl rfl rfl rfl rfl rfl rfl (by rw [bZ];omega)) ?_
   refine ab (dF hT rfl rfl rfl rfl (by rw [bZ];omega) rfl) ?_
   refine ak rfl<|ab (bM rfl rfl (by decide) (c:=(((j - 1) % 32:Nat):Int)) (by rw [hkk,Int.tmod_eq_emod_of_nonneg (by omega)];omega)) ?_
   refine ab (bn hT rfl rfl rfl rfl (dc (by omega))) ?_
   refine ab (lv rfl rfl (by omega) (c:=((2 ^ ((j - 1) % 32):Nat):Int)) (Ge (by omega))) ?_
   refine ab (mV rfl rfl rfl (iU ((ew _ _).getD _)) (iU (tX (by omega)))) ?_
   refine ab (by first | exact gB hT rfl rfl rfl rfl rfl rfl rfl (by rw [bZ];omega) | exact fH hT rfl rfl rfl rfl rfl rfl rfl (by rw [bZ];omega)) ?_
   refine dC ai (cG hT rfl rfl rfl rfl rfl (by rw [bZ];omega) rfl) ?_
   refine ag<|aw hP<|ab (az (rfl:_=AV.vec _))<|RK.mut ai (Eff.call (rd:=[73]) (zL 73 (dgs (N / 32+(wl b).length+1) (b*2 ^ j / 2)) (ew _ _) (by rw [bZ];omega)) (kX rfl) jf) ?_
   refine ag<|aw hP<|ak rfl<|ab (bE rfl rfl (by first | exact iW0 _ (by omega) | rfl)) ?_
   refine aj rfl<|ag ?_
   refine ⟨(j - 1,Q+2 ^ (j - 1),R - b*2 ^ (j - 1)),⟨by omega,hset.2.2,hD.yes hj0 hle⟩,by show j - 1 < j;omega,aE ⟨.refl _,.refl _,.refl _,.refl _,aK (by omega),trivial⟩ ⟨rfl,congrArg (fun z=>some (WB 105 z)) (by rw [bZ,ef _ _ hRa,ef _ _ hDl,gX hj0]),congrArg (fun z=>some (WB 105 z)) hset.1,congrArg (fun z=>some (WB 105 z)) (by rw [bZ,ef _ _ hDl,gX hj0]),trivial⟩⟩
  have hle:=B7 hRa hDl hb5
  rw [gX hj0] at hle
  refine au<|aw hP<|ab (az (rfl:_=AV.vec _))<|RK.mut ai (Eff.call (rd:=[73]) (zL 73 (dgs (N / 32+(wl b).length+1) (b*2 ^ j / 2)) (ew _ _) (by rw [bZ];omega)) (kX rfl) jf) ?_
  refine ag<|aw hP<|ak rfl<|ab (bE rfl rfl (by first | exact iW0 _ (by omega) | rfl)) ?_
  refine aj rfl<|ag ?_
  refine ⟨(j - 1,Q,R),⟨by omega,hQ,hD.no hj0 hle⟩,by show j - 1 < j;omega,aE ⟨.refl _,.refl _,.refl _,.refl _,aK (by omega),trivial⟩ ⟨rfl,rfl,rfl,congrArg (fun z=>some (WB 105 z)) (by rw [bZ,ef _ _ hDl,gX hj0]),trivial⟩⟩
 have hb4_:=dF0 hb4
 have hj0:j=0:=by omega
 subst hj0
 have hfin:=hD.done
 refine aW<|cY (t:=9) rfl rfl ?_
 refine cY (t:=7) rfl rfl ?_
 refine ae hP<|ak rfl<|ak rfl<|ab (aR hT rfl rfl rfl (es:=[_,_]) rfl)<|aG hT rfl<|ag<|am<|E2 hT rfl rfl rfl rfl rfl rfl rfl ?_
 exact Dh hsm hnn hN hfin
end
section
open Go Go.AM
theorem GB (neg:Bool) (a b:Nat) (hb:0 < b):aH Tryz.prog 51 [B neg,.p (.c (W (qL a b)))] (I (sg neg (a / b))):=by
 have h:=fG neg (qL a b) Mm
 rwa [JU hb] at h
theorem GA (neg:Bool) (a b:Nat):aH Tryz.prog 51 [B neg,.p (.c (W (rL a b)))] (I (sg neg (a % b))):=by
 have h:=fG neg (rL a b) Ml
 rwa [JP] at h
theorem tP (x y:Int) (hx:L 44 x) (hy:L 44 y) (h0:y≠0) :
  aH Tryz.prog 173 [I x,I y] (.t [PI (x / y),PI (x % y),PE 0]):=by
 have hq:L 44 (sg (!(decide (x < 0) == decide (y < 0))) (x.natAbs / y.natAbs)):=L.of_le hx (by rw [mN];exact Nat.div_le_self _ _)
 have hr:L 44 (sg (decide (x < 0)) (x.natAbs % y.natAbs)):=L.of_le hx (by rw [mN];exact Nat.mod_le _ _)
 have iq:LB _ 44:=⟨hq⟩
 have ir:LB _ 44:=⟨hr⟩
 have iy:LB y 44:=⟨hy⟩
 refine aM Tryz.func173 rfl rfl rfl rfl ?_
 refine ae hP<|aq ai (aL rfl rfl)<|aq ai (aL rfl rfl)<|aq ai (aB hT rfl rfl)<|aq ai (aB hT rfl rfl)<|aj rfl<|ag<|ao<|ae hP<|aI hT rfl<|bi hT rfl rfl rfl rfl ?_
 refine ab (aX hT rfl rfl rfl rfl)<|ab (bj rfl rfl)<|ag ?_
 refine ay rfl (fun hb1=>?_) (fun hb1=>?_)
 ·have hb1_:=bT hb1
  exact absurd (wl_len_zero.1 hb1_) h0
 have hb1_:=bF hb1
 refine au<|ae hP<|aI hT rfl<|bi hT rfl rfl rfl rfl ?_
 refine aI hT rfl<|bi hT rfl rfl rfl rfl ?_
 refine ab (ah (B9 x.natAbs y.natAbs (sz (hx.mono (by decide))) (sz (hy.mono (by decide))) (by omega))) ?_
 refine aq ai (aB hT rfl rfl)<|aG hT rfl<|ag<|ae hP<|aI hT rfl<|bi hT rfl rfl rfl rfl ?_
 refine aI hT rfl<|bi hT rfl rfl rfl rfl ?_
 refine ab (jK hT rfl rfl rfl rfl)<|aI hT rfl<|bi hT rfl rfl rfl rfl ?_
 refine ab (ah (GB _ _ _ (by omega))) ?_
 refine aq ai (aB hT rfl rfl)<|aG hT rfl<|ag<|ae hP<|aI hT rfl<|bi hT rfl rfl rfl rfl ?_
 refine aI hT rfl<|bi hT rfl rfl rfl rfl ?_
 refine ab (ah (GA _ _ _)) ?_
 refine aq ai (aB hT rfl rfl)<|aG hT rfl<|ag<|ao<|ae hP<|aI hT rfl<|bi hT rfl rfl rfl rfl ?_
 refine ag ?_
 refine ay rfl (fun hb2=>?_) (fun hb2=>?_)
 ·have e1:=(kb h0 (dT0 hb2)).1
  have e2:=(kb h0 (dT0 hb2)).2
  refine ae hP<|av hT rfl<|av hT rfl<|ab (ah (nO _)) ?_
  refine ab (ah (jB _ _ lz lz)) ?_
  refine aG hT rfl<|ag<|ae hP<|aI hT rfl<|bi hT rfl rfl rfl rfl ?_
  refine ag ?_
  refine ay rfl (fun hb3=>?_) (fun hb3=>?_)
  ·rw [kd hb3] at e1
   refine aw hP<|av hT rfl<|ab (ah (ce _ (by first | assumption | decide))) ?_
   refine ab (ah (jB _ _ lz lz)) ?_
   refine aG hT rfl<|ag<|ae hP<|av hT rfl<|av hT rfl<|aG hT rfl<|aG hT rfl<|aj rfl<|ag<|am ?_
   refine cK rfl (.inr rfl) (aP hT rfl rfl rfl rfl (cs:=[_,_]) rfl rfl) (aP hT rfl rfl rfl rfl (cs:=[_,_]) rfl rfl) (bK rfl) ?_ bt
   exact aF (by rw [← e1,e2];rfl)
  rw [qt h0 hb3] at e1
  refine aw hP<|av hT rfl<|ab (ah (ce _ (by first | assumption | decide))) ?_
  refine ab (ah (nM _ _ lz lz)) ?_
  refine aG hT rfl<|ag<|ae hP<|av hT rfl<|av hT rfl<|aG hT rfl<|aG hT rfl<|aj rfl<|ag<|am ?_
  refine cK rfl (.inr rfl) (aP hT rfl rfl rfl rfl (cs:=[_,_]) rfl rfl) (aP hT rfl rfl rfl rfl (cs:=[_,_]) rfl rfl) (bK rfl) ?_ bt
  exact aF (by rw [← e1,e2])
 have e1:=(ka h0 (dF0 hb2)).1
 have e2:=(ka h0 (dF0 hb2)).2
 refine au<|ae hP<|av hT rfl<|av hT rfl<|aG hT rfl<|aG hT rfl<|aj rfl<|ag<|am ?_
 refine cK rfl (.inr rfl) (aP hT rfl rfl rfl rfl (cs:=[_,_]) rfl rfl) (aP hT rfl rfl rfl rfl (cs:=[_,_]) rfl rfl) (bK rfl) ?_ bt
 exact aF (by rw [e1,e2])
theorem nN (x y:Int) (hx:L 44 x) (hy:L 44 y) (h0:y≠0) :
  aH Tryz.prog 115 [I x,I y] (I (x / y)):=by
 refine aM Tryz.func115 rfl rfl rfl rfl ?_
 refine ae hP<|aq ai (aL rfl rfl)<|aq ai (aL rfl rfl)<|aq ai (aB hT rfl rfl)<|ag<|ae hP<|av hT rfl<|av hT rfl<|ab (ah (tP x y hx hy h0)) ?_
 refine ab (az (rfl:_=AV.t _))<|ab (aD rfl (v:=.a _) rfl)<|ab (aD rfl (v:=.a _) rfl)<|ab (aD rfl (v:=.c _) rfl)<|aq ai (aB hT rfl rfl)<|aq ai (aB hT rfl rfl)<|aG hT rfl<|aG hT rfl<|aj rfl<|ag<|ae hP<|av hT rfl<|aG hT rfl<|ag<|am<|E2 hT rfl rfl rfl rfl rfl rfl rfl ?_
 exact .refl _
theorem j5 (x y:Int) (hx:L 44 x) (hy:L 44 y) (h0:y≠0) :
  aH Tryz.prog 148 [I x,I y] (I (x % y)):=by
 refine aM Tryz.func148 rfl rfl rfl rfl ?_
 refine ae hP<|aq ai (aL rfl rfl)<|aq ai (aL rfl rfl)<|aq ai (aB hT rfl rfl)<|ag<|ae hP<|av hT rfl<|av hT rfl<|ab (ah (tP x y hx hy h0)) ?_
 refine ab (az (rfl:_=AV.t _))<|ab (aD rfl (v:=.a _) rfl)<|ab (aD rfl (v:=.a _) rfl)<|ab (aD rfl (v:=.c _) rfl)<|aq ai (aB hT rfl rfl)<|aq ai (aB hT rfl rfl)<|aG hT rfl<|aG hT rfl<|aj rfl<|ag<|ae hP<|av hT rfl<|aG hT rfl<|ag<|am<|E2 hT rfl rfl rfl rfl rfl rfl rfl ?_
 exact .refl _
theorem pI (x y:Int) (hx:L 44 x) (hy:L 44 y) :
  aH Tryz.prog 154 [I x,I y] (I (Int.gcd x y)):=by
 refine aM Tryz.func154 rfl rfl rfl rfl ?_
 refine ae hP<|aq ai (aL rfl rfl)<|aq ai (aL rfl rfl)<|aq ai (aB hT rfl rfl)<|ag<|ae hP<|av hT rfl<|ab (ah (nO _)) ?_
 refine aG hT rfl<|ag<|ae hP<|av hT rfl<|ab (ah (nO _)) ?_
 refine aG hT rfl<|ag<|ao<|aC<|bl (ι:=Int × Int) (fun p=>stL [(2,.loc 2 0),(3,.loc 3 0),(4,.loc 4 0)] [(2,⟨false,1,29,[zn (p.1),zm (p.1)]⟩),(3,⟨false,1,29,[zn (p.2),zm (p.2)]⟩),(4,⟨false,1,29,[zn (0),zm (0)]⟩)]) (fun p=>L 44 p.1∧L 44 p.2∧0≤p.1∧0≤p.2∧Int.gcd p.1 p.2=Int.gcd x y) (fun p=>p.2.natAbs) ((x.natAbs:Int),(y.natAbs:Int)) ⟨hx.abs,hy.abs,Int.natCast_nonneg _,Int.natCast_nonneg _,by simp [Int.gcd]⟩ (aE ⟨.refl _,.refl _,.refl _,trivial⟩ ⟨rfl,rfl,rfl,trivial⟩) ?_
 rintro ⟨a,b⟩ ⟨ha,hb,ha0,hb0,hg⟩
 refine ao<|ae hP<|aI hT rfl<|bi hT rfl rfl rfl rfl ?_
 refine ab (aX hT rfl rfl rfl rfl)<|ab (bJ rfl rfl)<|ag ?_
 refine ay rfl (fun hb1=>?_) (fun hb1=>?_)
 ·have hb1_:=dT0 hb1
  have h0:b≠0:=fun e=>by
   have e2:0 < ((wl b.natAbs).length:Int):=hb1_
   rw [e] at e2;exact absurd e2 (by decide)
  refine au<|aC<|ae hP<|av hT rfl<|av hT rfl<|ab (ah (j5 a b ha hb h0)) ?_
  refine aq ai (aB hT rfl rfl)<|aG hT rfl<|ag<|ae hP<|av hT rfl<|aG hT rfl<|ag<|aw hP<|av hT rfl<|aG hT rfl<|ag ?_
  refine ⟨(b,a % b),⟨hb,(ha.emod hb).mono (by decide),hb0,Int.emod_nonneg a h0,?_⟩,?_,aE ⟨.refl _,.refl _,.refl _,trivial⟩ ⟨rfl,rfl,rfl,trivial⟩⟩
  ·rw [← hg];exact uN a b
  have h1:=Int.emod_nonneg a h0
  have h2:=Int.emod_lt a h0
  show (a % b).natAbs < b.natAbs
  omega
 have hb1_:=dF0 hb1
 refine aW<|ae hP<|av hT rfl<|aG hT rfl<|ag<|am<|E2 hT rfl rfl rfl rfl rfl rfl rfl ?_
 have h0:b=0:=by
  have e2:¬ 0 < ((wl b.natAbs).length:Int):=hb1_
  have:((wl b.natAbs).length:Int)=0:=by omega
  exact wl_len_zero.1 this
 exact Sub.I (by rw [← hg,h0];simp;omega)
theorem JK (x:Int) (hx:L 40 x) :
  aH Tryz.prog 193 [I x] (.t [PI (rootV x),PI (if x < 0 then 0 else x - rootV x*rootV x),PE (j0 x)]):=by
 have hbl:=AT hx
 have ix:LB x 40:=⟨hx⟩
 refine aM Tryz.func193 rfl rfl rfl rfl ?_
 refine ae hP<|aq ai (aL rfl rfl)<|aq ai (aB hT rfl rfl)<|aq ai (aB hT rfl rfl)<|aj rfl<|ag<|ao<|ae hP<|aI hT rfl<|bi hT rfl rfl rfl rfl ?_
 refine ag ?_
 refine ay rfl (fun hb1=>?_) (fun hb1=>?_)
 ·have hx0:=dT0 hb1
  refine ae hP<|ab (aR hT rfl rfl rfl (es:=[_,_]) rfl)<|ab (aR hT rfl rfl rfl (es:=[_,_]) rfl)<|aG hT rfl<|aG hT rfl<|aj rfl<|ag<|am ?_
  refine cK rfl (.inr rfl) (aP hT rfl rfl rfl rfl (cs:=[_,_]) rfl rfl) (aP hT rfl rfl rfl rfl (cs:=[_,_]) rfl rfl) (bK rfl) ?_ bt
  exact aF (by rw [(gU hx0).1,(gU hx0).2,if_pos hx0])
 have hx0:=dF0 hb1
 refine au<|ao<|ae hP<|aI hT rfl<|bi hT rfl rfl rfl rfl ?_
 refine ab (aX hT rfl rfl rfl rfl)<|ab (bj rfl rfl)<|ag ?_
 refine ay rfl (fun hb2=>?_) (fun hb2=>?_)
 ·have hb2_:=bT hb2
  have hz:=wl_len_zero.1 hb2_
  refine ae hP<|ab (aR hT rfl rfl rfl (es:=[_,_]) rfl)<|ab (aR hT rfl rfl rfl (es:=[_,_]) rfl)<|aG hT rfl<|aG hT rfl<|aj rfl<|ag<|am ?_
  refine cK rfl (.inr rfl) (aP hT rfl rfl rfl rfl (cs:=[_,_]) rfl rfl) (aP hT rfl rfl rfl rfl (cs:=[_,_]) rfl rfl) (bK rfl) ?_ bt
  exact aF (by rw [hz];rfl)
 have hb2_:=bF hb2
 have hx1:0 < x:=by
  rcases Int.lt_trichotomy x 0 with e | e | e
  ·exact absurd e hx0
  ·exact absurd (wl_len_zero.2 e) hb2_
  exact e
 refine au<|ae hP<|ab (bg hT rfl rfl rfl (es:=[_]) rfl rfl rfl)<|av hT rfl<|ab (ah (zM x lz)) ?_
 refine ab (bN rfl rfl (c:=((bo x.natAbs+1:Nat):Int)) (by rw [iW0 _ (by omega)];omega)) ?_
 refine ab (cZ rfl rfl (by decide) (c:=(((bo x.natAbs+1) / 2:Nat):Int)) (by rw [Int.tdiv_eq_ediv_of_nonneg (by omega),iW0 _ (by omega)];omega)) ?_
 refine ab (ah (JH [1] ((bo x.natAbs+1) / 2) wS (by decide) (by omega))) ?_
 refine ab (ah (fG _ _ (ew _ _))) ?_
 refine aq ai (aB hT rfl rfl)<|aG hT rfl<|ag<|aC<|bl (ι:=Int) (fun s=>stL [(1,.loc 1 0),(2,.loc 2 0),(3,.loc 3 0),(5,.loc 5 0)] [(1,⟨false,1,29,[zn (x),zm (x)]⟩),(2,⟨false,1,29,[zn (0),zm (0)]⟩),(3,⟨false,1,29,[zn (0),zm (0)]⟩),(5,⟨false,1,29,[zn (s),zm (s)]⟩)]) (fun s=>0 < s∧rootV x≤s∧s≤2*x) (fun s=>s.toNat) (2 ^ ((bo x.natAbs+1) / 2):Nat) ?_ (aE ⟨.refl _,.refl _,.refl _,.refl _,trivial⟩ ⟨rfl,rfl,rfl,?_,trivial⟩) ?_
 ·exact pA hx1
 ·exact congrArg (fun z=>some (⟨false,1,29,[zn z,zm z]⟩:Blk)) (show sg false (wv (dgs _ _))=_ by rw [CN];rfl)
 intro s hs
 have is:LB s 41:=⟨L.of_le (b:=2*x) (lz (by rfl)) (by omega)⟩
 refine aC<|ae hP<|av hT rfl<|av hT rfl<|av hT rfl<|ab (ah (nN x s lz lz (by omega))) ?_
 refine ab (ah (jB _ _ lz lz)) ?_
 refine ab (ah (ce _ (by first | assumption | decide))) ?_
 refine ab (ah (nN _ 2 lz lz (by decide))) ?_
 refine aq ai (aB hT rfl rfl)<|aG hT rfl<|ag<|ao<|ae hP<|av hT rfl<|av hT rfl<|ab (ah (gR _ _)) ?_
 refine ab (dp rfl rfl)<|ag ?_
 refine ay rfl (fun hb3=>?_) (fun hb3=>?_)
 ·have hb3_:=dT0 hb3
  have hge:=k9 hb3_
  refine ae hP<|av hT rfl<|av hT rfl<|av hT rfl<|av hT rfl<|ab (ah (dJ _ _ lz lz)) ?_
  refine ab (ah (nM _ _ lz lz)) ?_
  refine aG hT rfl<|aG hT rfl<|aj rfl<|ag<|am ?_
  refine cK rfl (.inr rfl) (aP hT rfl rfl rfl rfl (cs:=[_,_]) rfl rfl) (aP hT rfl rfl rfl rfl (cs:=[_,_]) rfl rfl) (bK rfl) ?_ bt
  have e:=xV hx1 hs.1 hs.2.1 hge
  exact aF (by rw [e,gV hx0,if_neg hx0])
 have hb3_:=dF0 hb3
 have hge:=jV hb3_
 refine au<|aw hP<|av hT rfl<|aG hT rfl<|ag ?_
 refine ⟨(s+x / s) / 2,⟨(lT hx1 hs.1).2,(lT hx1 hs.1).1,Int.le_trans (Int.le_of_lt hge) hs.2.2⟩,?_,aE ⟨.refl _,.refl _,.refl _,.refl _,trivial⟩ ⟨rfl,rfl,rfl,rfl,trivial⟩⟩
 have h3:=(lT hx1 hs.1).2
 show ((s+x / s) / 2).toNat < s.toNat
 omega
theorem tO (neg:Bool) (ws:List Nat) (k:Nat) (hw:okW ws) (hk:k≤1000) :
  aH Tryz.prog 82 [.p (.a [.v (.bool neg),W ws]),Z (k:Int)] (I (sg neg (wv (ws.take k)))):=by
 refine aM Tryz.func82 rfl rfl rfl rfl ?_
 refine ae hP<|aq ai (aL rfl rfl)<|aq ai (aB hT rfl rfl)<|ag<|ae hP<|aI hT rfl<|bi hT rfl rfl rfl rfl ?_
 refine aq ai (gC hT rfl rfl rfl rfl (ws:=[]) rfl rfl rfl) ?_
 refine aI hT rfl<|bi hT rfl rfl rfl rfl ?_
 refine aI hT rfl<|bi hT rfl rfl rfl rfl ?_
 refine ab (aX hT rfl rfl rfl rfl)<|ak rfl<|ab (J6 rfl rfl)<|ab (jD hT rfl rfl rfl rfl rfl rfl (by split <;> omega)) ?_
 refine RK.app ai (gD hT rfl rfl rfl rfl rfl rfl rfl (xs:=ws.take (if (k:Int) < (ws.length:Int) then (k:Int) else (ws.length:Int)).toNat) rfl (by simp only [List.length_nil,List.length_take];split <;> omega) (by decide)) ?_
 refine RK.mutL ai (Eff.give (.same (.vecW rfl .nil)) (fG _ _ (okW.nil.app (hw.take _))) (by intro m hm;rw [List.mem_singleton.1 hm];exact fun h=>by cases h)) ?_
 refine aG hT rfl<|ag<|am<|E2 hT rfl rfl rfl rfl rfl rfl rfl ?_
 exact Sub.I (by rw [List.nil_append,CE])
end
section
open Go Go.AM
theorem qA (x:Int) (hx:L 45 x) :
  aH Tryz.prog 102 [I x] (B true):=by
 have hlen:=sz hx
 refine aM Tryz.func102 rfl rfl rfl rfl ?_
 refine ae hP<|aq ai (aL rfl rfl)<|aj rfl<|ag<|ae hP<|aI hT rfl<|bi hT rfl rfl rfl rfl ?_
 refine ab (aX hT rfl rfl rfl rfl)<|ab (bj rfl rfl)<|ak rfl ?_
 refine aY (t:=7) rfl (fun hg1=>?_) (fun hg1=>?_)
 ·have hg1_:=bT hg1
  refine aA hg1 (aT hT rfl rfl rfl rfl rfl rfl) ?_
  refine aA hg1 (bL hT rfl rfl rfl rfl (by first | rfl | exact eh (by omega))) ?_
  refine aA hg1 (bw rfl) ?_
  refine ab (aO rfl hg1 (rfl:_=AV.p (.c _)))<|ak rfl ?_
  refine aY (t:=12) rfl (fun hg2=>?_) (fun hg2=>?_)
  ·have hg2_:=(bY hg2)
   iterate 5 refine aZ hg2 ?_
   iterate 9 refine ff ?_
   refine aZ hg2 ?_
   refine ab (aO rfl hg2 (rfl:_=AV.p (.c _)))<|aj rfl<|ag<|am<|E1 rfl rfl ?_
   exact .refl _
  have hg2_:=(bW hg2)
  have h0:=wl_len_zero.1 hg1_
  rw [h0] at hg2
  cases hg2
 have hg1_:=bF hg1
 iterate 3 refine aZ hg1 ?_
 refine ab (aN rfl hg1 (rfl:_=AV.p (.c _)))<|ak rfl<|aA rfl (aT hT rfl rfl rfl rfl rfl rfl) ?_
 refine aA rfl (bL hT rfl rfl rfl rfl (by first | rfl | exact eh (by omega))) ?_
 refine aA rfl (aX hT rfl rfl rfl rfl) ?_
 refine aA rfl (bJ rfl rfl) ?_
 refine aA rfl (az (rfl:_=AV.p (.c _))) ?_
 refine aY (t:=17) rfl (fun hg3=>?_) (fun hg3=>?_)
 ·have hg3_:=dT0 hg3
  refine aA hg3 (aT hT rfl rfl rfl rfl rfl rfl) ?_
  refine aA hg3 (bL hT rfl rfl rfl rfl (by first | rfl | exact eh (by omega))) ?_
  refine aA hg3 (aT hT rfl rfl rfl rfl rfl rfl) ?_
  refine aA hg3 (bL hT rfl rfl rfl rfl (by first | rfl | exact eh (by omega))) ?_
  refine aA hg3 (aX hT rfl rfl rfl rfl) ?_
  refine aA hg3 (bE rfl rfl (by first | exact iW0 _ (by omega) | rfl)) ?_
  refine aA hg3 (by first | exact fO hT rfl rfl rfl rfl rfl rfl (by omega) | exact cq hT rfl rfl rfl rfl rfl rfl (by omega) (by first | exact iY (by omega) | simp)) ?_
  refine aA hg3 (bV hT rfl rfl rfl (by first | rfl | exact mH (by omega))) ?_
  refine aA hg3 (bq rfl rfl) ?_
  refine aA rfl (aO rfl hg3 (rfl:_=AV.p (.c _))) ?_
  refine ab (aN rfl rfl (rfl:_=AV.p (.c _)))<|aj rfl<|ag<|am<|E1 rfl rfl ?_
  have h1:(wl x.natAbs).length≠0:=fun e=>hg1_ (by rw [e];rfl)
  have h2:(((wl x.natAbs).length:Int) - 1).toNat=(wl x.natAbs).length - 1:=by omega
  rw [h2]
  have h3:=pq (k:=x.natAbs) (n:=(wl x.natAbs).length - 1) (by omega)
  exact aF (by rw [show ((((wl x.natAbs).getD ((wl x.natAbs).length - 1) 0:Nat):Int) != 0)=true from bne_iff_ne.2 (by omega)])
 have hg3_:=dF0 hg3
 exact absurd (show ((wl x.natAbs).length:Int)=0 by omega) hg1_
theorem pK (a b c:Int) (ha:bu a) (hb:bu b) (hc:bu c) :
  aH Tryz.prog 79 [Z a,Z b,Z c] (FA a b c):=by
 refine aM Tryz.func79 rfl rfl rfl rfl ?_
 refine ae hP<|aq ai (aB hT rfl rfl)<|ag<|ae hP<|ak rfl<|ab (ah (ce _ (by first | assumption | decide))) ?_
 refine ak rfl<|ab (ah (ce _ (by first | assumption | decide))) ?_
 refine ak rfl<|ab (ah (ce _ (by first | assumption | decide))) ?_
 refine ab (aR hT rfl rfl rfl (es:=[_,_,_,_,_,_]) rfl)<|aG hT rfl<|ag<|am ?_
 refine bI rfl (.inr rfl) (aP hT rfl rfl rfl rfl (cs:=[_,_,_,_,_,_]) rfl rfl) ?_ bt
 exact .refl _
theorem jJ (a b c d:Int) (ha:bu a) (hb:bu b) (hc:bu c) (hd:bu d) :
  aH Tryz.prog 117 [Z a,Z b,Z c,Z d] (MA a b c d):=by
 refine aM Tryz.func117 rfl rfl rfl rfl ?_
 refine ae hP<|aq ai (aB hT rfl rfl)<|ag<|ae hP<|ak rfl<|ab (ah (ce _ (by first | assumption | decide))) ?_
 iterate 3 refine ak rfl<|ab (ah (ce _ (by first | assumption | decide))) ?_
 refine ab (aR hT rfl rfl rfl (es:=[_,_,_,_,_,_,_,_]) rfl)<|aG hT rfl<|ag<|am ?_
 refine bI rfl (.inr rfl) (aP hT rfl rfl rfl rfl (cs:=[_,_,_,_,_,_,_,_]) rfl rfl) ?_ bt
 exact .refl _
theorem mP (a b c d:Int) (ha:L 40 a) (hb:L 40 b) (hc:L 40 c) (hd:L 40 d) :
  aH Tryz.prog 83 [I a,I b,I c,I d] (I (a*b+c*d)):=by
 have ia:LB a 40:=⟨ha⟩
 have ib:LB b 40:=⟨hb⟩
 have ic:LB c 40:=⟨hc⟩
 have id:LB d 40:=⟨hd⟩
 refine aM Tryz.func83 rfl rfl rfl rfl ?_
 refine ae hP<|aq ai (aL rfl rfl)<|aq ai (aL rfl rfl)<|aq ai (aL rfl rfl)<|aq ai (aL rfl rfl)<|aq ai (aB hT rfl rfl)<|ag<|ae hP<|av hT rfl<|av hT rfl<|ab (ah (dJ _ _ lz lz)) ?_
 refine av hT rfl<|av hT rfl<|ab (ah (dJ _ _ lz lz)) ?_
 refine ab (ah (jB _ _ lz lz)) ?_
 refine aG hT rfl<|ag<|am<|E2 hT rfl rfl rfl rfl rfl rfl rfl ?_
 exact .refl _
theorem gx (a b c:Int) (ha:L 34 a) (hb:L 34 b) (hc:L 34 c) :
  aH Tryz.prog 24 [FA a b c] (I (dsc a b c)):=by
 have ia:LB a 34:=⟨ha⟩
 have ib:LB b 34:=⟨hb⟩
 have ic:LB c 34:=⟨hc⟩
 refine aM Tryz.func24 rfl rfl rfl rfl ?_
 refine ae hP<|aq ai (aL rfl rfl)<|aq ai (aB hT rfl rfl)<|ag<|ae hP<|aI hT rfl<|av hT rfl<|aI hT rfl<|av hT rfl<|ab (ah (ce _ (by first | assumption | decide))) ?_
 refine aI hT rfl<|av hT rfl<|ab (ah (dJ _ _ lz lz)) ?_
 refine aI hT rfl<|av hT rfl<|ab (ah (mP _ _ _ _ lz lz lz lz)) ?_
 refine aG hT rfl<|ag<|am<|E2 hT rfl rfl rfl rfl rfl rfl rfl ?_
 exact Sub.I (Mg a b c)
theorem rG (x:Int) (hx:L 40 x) :
  aH Tryz.prog 150 [I x] (B (fl x)):=by
 have ix:LB x 40:=⟨hx⟩
 refine aM Tryz.func150 rfl rfl rfl rfl ?_
 refine ae hP<|aq ai (aL rfl rfl)<|aj rfl<|ag<|ao<|ae hP<|av hT rfl<|ab (ah (dS _)) ?_
 refine ab (bh rfl rfl)<|ag ?_
 refine ay rfl (fun hb1=>?_) (fun hb1=>?_)
 ·have hb1_:=dT0 hb1
  refine ae hP<|aj rfl<|ag<|am<|E1 rfl rfl ?_
  exact bd (x8 hb1_)
 have hb1_:=dF0 hb1
 refine au<|ae hP<|av hT rfl<|ab (ah (JK _ lz)) ?_
 refine ab (az (rfl:_=AV.t _))<|ab (aD rfl (v:=.a _) rfl)<|ab (aD rfl (v:=.a _) rfl)<|ab (aD rfl (v:=.c _) rfl)<|aq ai (aB hT rfl rfl)<|aq ai (aB hT rfl rfl)<|aG hT rfl<|aG hT rfl<|aj rfl<|ag<|ae hP<|av hT rfl<|ab (ah (dS _)) ?_
 refine ab (bj rfl rfl)<|aj rfl<|ag<|am<|E1 rfl rfl ?_
 exact bd (JJ hb1_)
theorem l4 (a b c:Int) (ha:L 34 a) (hb:L 34 b) (hc:L 34 c) :
  aH Tryz.prog 153 [FA a b c] (Z (ck a b c)):=by
 have ia:LB a 34:=⟨ha⟩
 have ib:LB b 34:=⟨hb⟩
 have ic:LB c 34:=⟨hc⟩
 refine aM Tryz.func153 rfl rfl rfl rfl ?_
 refine ae hP<|aq ai (aL rfl rfl)<|aj rfl<|ag<|ao<|ae hP<|aI hT rfl<|av hT rfl<|ab (ah (qA _ lz)) ?_
 refine ab (bw rfl)<|ak rfl<|aA rfl (aT hT rfl rfl rfl rfl rfl rfl) ?_
 refine aA rfl (aJ hT rfl rfl rfl rfl (cs:=[_,_]) rfl rfl) ?_
 refine aA rfl (ah (qA _ lz)) ?_
 refine aA rfl (bw rfl) ?_
 refine ab (aN rfl rfl (rfl:_=AV.p (.c _)))<|ak rfl<|aA rfl (aT hT rfl rfl rfl rfl rfl rfl) ?_
 refine aA rfl (aJ hT rfl rfl rfl rfl (cs:=[_,_]) rfl rfl) ?_
 refine aA rfl (ah (qA _ lz)) ?_
 refine aA rfl (bw rfl) ?_
 refine ab (aN rfl rfl (rfl:_=AV.p (.c _)))<|ag<|aQ rfl rfl<|au<|ae hP<|br hT rfl rfl rfl rfl rfl rfl<|ab (ah (gx _ _ _ lz lz lz)) ?_
 refine aq ai (aB hT rfl rfl)<|aG hT rfl<|ag<|ao<|ae hP<|av hT rfl<|ab (ah (rG _ lz)) ?_
 refine ag ?_
 refine ay rfl (fun hb3=>?_) (fun hb3=>?_)
 ·refine ae hP<|aj rfl<|ag<|am<|E1 rfl rfl ?_
  exact aK (EV hb3)
 refine au<|ao<|ae hP<|av hT rfl<|ab (ah (dS _)) ?_
 refine ab (bh rfl rfl)<|ak rfl ?_
 refine aY (t:=27) rfl (fun hg4=>?_) (fun hg4=>?_)
 ·have hg4_:=dT0 hg4
  refine aA hg4 (aT hT rfl rfl rfl rfl rfl rfl) ?_
  refine aA hg4 (aJ hT rfl rfl rfl rfl (cs:=[_,_]) rfl rfl) ?_
  refine aA hg4 (ah (dS _)) ?_
  refine aA hg4 (bh rfl rfl) ?_
  refine ab (aO rfl hg4 (rfl:_=AV.p (.c _)))<|ag ?_
  refine ay rfl (fun hb5=>?_) (fun hb5=>?_)
  ·have hb5_:=dT0 hb5
   refine ae hP<|aj rfl<|ag<|am<|E1 rfl rfl ?_
   exact aK (Ca hb3 hg4_ hb5_)
  have hb5_:=dF0 hb5
  refine au<|ae hP<|aj rfl<|ag<|am<|E1 rfl rfl ?_
  exact aK (GD hb3 hg4_ hb5_)
 have hg4_:=dF0 hg4
 iterate 4 refine aZ hg4 ?_
 refine ab (aN rfl hg4 (rfl:_=AV.p (.c _)))<|ag<|aQ rfl rfl<|au<|ae hP<|aj rfl<|ag<|am<|E1 rfl rfl ?_
 exact aK (AP hb3 hg4_)
theorem yc (a b c:Int) (ha:L 44 a) (hb:L 44 b) (hc:L 44 c) :
  aH Tryz.prog 192 [FA a b c] (I (Int.gcd (Int.gcd a b:Int) c:Int)):=by
 have ia:LB a 44:=⟨ha⟩
 have ib:LB b 44:=⟨hb⟩
 have ic:LB c 44:=⟨hc⟩
 have ig:=Bc ha hb
 refine aM Tryz.func192 rfl rfl rfl rfl ?_
 refine ae hP<|aq ai (aL rfl rfl)<|aq ai (aB hT rfl rfl)<|ag<|ae hP<|aI hT rfl<|av hT rfl<|aI hT rfl<|av hT rfl<|ab (ah (pI _ _ lz lz)) ?_
 refine aI hT rfl<|av hT rfl<|ab (ah (pI _ _ lz lz)) ?_
 refine aG hT rfl<|ag<|am<|E2 hT rfl rfl rfl rfl rfl rfl rfl ?_
 exact .refl _
theorem iP (a b c:Int) (ha:L 44 a) (hb:L 44 b) (hc:L 44 c) :
  aH Tryz.prog 146 [FA a b c] (B (prim a b c)):=by
 have ia:LB a 44:=⟨ha⟩
 have ib:LB b 44:=⟨hb⟩
 have ic:LB c 44:=⟨hc⟩
 refine aM Tryz.func146 rfl rfl rfl rfl ?_
 refine ae hP<|aq ai (aL rfl rfl)<|aj rfl<|ag<|ae hP<|br hT rfl rfl rfl rfl rfl rfl<|ab (ah (yc _ _ _ lz lz lz)) ?_
 refine ab (ah (ce _ (by first | assumption | decide))) ?_
 refine ab (ah (dT _ _)) ?_
 refine aj rfl<|ag<|am<|E1 rfl rfl ?_
 exact bd (JF a b c)
theorem lX (a b c x y:Int) (ha:L 36 a) (hb:L 36 b) (hc:L 36 c) (hx:L 36 x) (hy:L 36 y) :
  aH Tryz.prog 147 [FA a b c,I x,I y] (I (vl a b c x y)):=by
 have ia:LB a 36:=⟨ha⟩
 have ib:LB b 36:=⟨hb⟩
 have ic:LB c 36:=⟨hc⟩
 have ix:LB x 36:=⟨hx⟩
 have iy:LB y 36:=⟨hy⟩
 refine aM Tryz.func147 rfl rfl rfl rfl ?_
 refine ae hP<|aq ai (aL rfl rfl)<|aq ai (aL rfl rfl)<|aq ai (aL rfl rfl)<|aq ai (aB hT rfl rfl)<|ag<|ae hP<|av hT rfl<|aI hT rfl<|av hT rfl<|av hT rfl<|aI hT rfl<|av hT rfl<|av hT rfl<|ab (ah (mP _ _ _ _ lz lz lz lz)) ?_
 refine ab (ah (dJ _ _ lz lz)) ?_
 refine aI hT rfl<|av hT rfl<|av hT rfl<|av hT rfl<|ab (ah (dJ _ _ lz lz)) ?_
 refine ab (ah (dJ _ _ lz lz)) ?_
 refine ab (ah (jB _ _ lz lz)) ?_
 refine aG hT rfl<|ag<|am<|E2 hT rfl rfl rfl rfl rfl rfl rfl ?_
 exact Sub.I (Ny a b c x y)
theorem oQ (a b c p q r s:Int) (ha:L 34 a) (hb:L 34 b) (hc:L 34 c) (hp:L 34 p) (hq:L 34 q) (hr:L 34 r) (hs:L 34 s) :
  aH Tryz.prog 81 [FA a b c,MA p q r s] (FA (vl a b c p r) (apB a b c p q r s) (vl a b c q s)):=by
 have ia:LB a 34:=⟨ha⟩
 have ib:LB b 34:=⟨hb⟩
 have ic:LB c 34:=⟨hc⟩
 have ip:LB p 34:=⟨hp⟩
 have iq:LB q 34:=⟨hq⟩
 have ir:LB r 34:=⟨hr⟩
 have is:LB s 34:=⟨hs⟩
 refine aM Tryz.func81 rfl rfl rfl rfl ?_
 refine ae hP<|aq ai (aL rfl rfl)<|aq ai (aL rfl rfl)<|aq ai (aB hT rfl rfl)<|ag<|ae hP<|ab (ah (ce _ (by first | assumption | decide))) ?_
 refine aq ai (aB hT rfl rfl)<|aG hT rfl<|ag<|ae hP<|av hT rfl<|aI hT rfl<|av hT rfl<|aI hT rfl<|av hT rfl<|aI hT rfl<|av hT rfl<|ab (ah (dJ _ _ lz lz)) ?_
 refine ab (ah (dJ _ _ lz lz)) ?_
 refine ab (ah (dJ _ _ lz lz)) ?_
 refine aI hT rfl<|av hT rfl<|aI hT rfl<|av hT rfl<|aI hT rfl<|av hT rfl<|aI hT rfl<|av hT rfl<|aI hT rfl<|av hT rfl<|ab (ah (mP _ _ _ _ lz lz lz lz)) ?_
 refine ab (ah (dJ _ _ lz lz)) ?_
 refine av hT rfl<|aI hT rfl<|av hT rfl<|aI hT rfl<|av hT rfl<|aI hT rfl<|av hT rfl<|ab (ah (dJ _ _ lz lz)) ?_
 refine ab (ah (dJ _ _ lz lz)) ?_
 refine ab (ah (dJ _ _ lz lz)) ?_
 refine ab (ah (jB _ _ lz lz)) ?_
 refine ab (ah (jB _ _ lz lz)) ?_
 refine aq ai (aB hT rfl rfl)<|aG hT rfl<|ag<|ae hP<|br hT rfl rfl rfl rfl rfl rfl<|aI hT rfl<|av hT rfl<|aI hT rfl<|av hT rfl<|ab (ah (lX _ _ _ _ _ lz lz lz lz lz)) ?_
 refine av hT rfl<|br hT rfl rfl rfl rfl rfl rfl<|aI hT rfl<|av hT rfl<|aI hT rfl<|av hT rfl<|ab (ah (lX _ _ _ _ _ lz lz lz lz lz)) ?_
 refine ab (aR hT rfl rfl rfl (es:=[_,_,_,_,_,_]) rfl)<|aG hT rfl<|ag<|am ?_
 refine bI rfl (.inr rfl) (aP hT rfl rfl rfl rfl (cs:=[_,_,_,_,_,_]) rfl rfl) ?_ bt
 exact aF (by rw [Mh])
theorem lY (p q r s t u v w:Int) (hp:L 38 p) (hq:L 38 q) (hr:L 38 r) (hs:L 38 s) (ht:L 38 t) (hu:L 38 u) (hv:L 38 v) (hw:L 38 w) :
  aH Tryz.prog 118 [MA p q r s,MA t u v w] (MA (p*t+q*v) (p*u+q*w) (r*t+s*v) (r*u+s*w)):=by
 have ip:LB p 38:=⟨hp⟩
 have iq:LB q 38:=⟨hq⟩
 have ir:LB r 38:=⟨hr⟩
 have is:LB s 38:=⟨hs⟩
 have it:LB t 38:=⟨ht⟩
 have iu:LB u 38:=⟨hu⟩
 have iv:LB v 38:=⟨hv⟩
 have iw:LB w 38:=⟨hw⟩
 refine aM Tryz.func118 rfl rfl rfl rfl ?_
 refine ae hP<|aq ai (aL rfl rfl)<|aq ai (aL rfl rfl)<|aq ai (aB hT rfl rfl)<|ag<|ae hP<|aI hT rfl<|av hT rfl<|aI hT rfl<|av hT rfl<|aI hT rfl<|av hT rfl<|aI hT rfl<|av hT rfl<|ab (ah (mP _ _ _ _ lz lz lz lz)) ?_
 iterate 3 refine aI hT rfl<|av hT rfl<|aI hT rfl<|av hT rfl<|aI hT rfl<|av hT rfl<|aI hT rfl<|av hT rfl<|ab (ah (mP _ _ _ _ lz lz lz lz)) ?_
 refine ab (aR hT rfl rfl rfl (es:=[_,_,_,_,_,_,_,_]) rfl)<|aG hT rfl<|ag<|am ?_
 refine bI rfl (.inr rfl) (aP hT rfl rfl rfl rfl (cs:=[_,_,_,_,_,_,_,_]) rfl rfl) ?_ bt
 exact .refl _
theorem vL (a b c:Int) (ha:L 34 a) (hb:L 34 b) (hc:L 34 c) :
  aH Tryz.prog 190 [FA a b c] (B (dfn a b c)):=by
 have ia:LB a 34:=⟨ha⟩
 have ib:LB b 34:=⟨hb⟩
 have ic:LB c 34:=⟨hc⟩
 refine aM Tryz.func190 rfl rfl rfl rfl ?_
 refine ae hP<|aq ai (aL rfl rfl)<|aj rfl<|ag<|ae hP<|br hT rfl rfl rfl rfl rfl rfl<|ab (ah (l4 _ _ _ lz lz lz)) ?_
 refine ab (bj rfl rfl)<|ak rfl ?_
 refine aY (t:=6) rfl (fun hg1=>?_) (fun hg1=>?_)
 ·have hg1_:=bT hg1
  refine aA hg1 (aJ hT rfl rfl rfl rfl (cs:=[_,_,_,_,_,_]) rfl rfl) ?_
  refine aA hg1 (ah (gx _ _ _ lz lz lz)) ?_
  refine aA hg1 (ah (dS _)) ?_
  refine aA hg1 (bh rfl rfl) ?_
  refine ab (aO rfl hg1 (rfl:_=AV.p (.c _)))<|aj rfl<|ag<|am<|E1 rfl rfl ?_
  exact bd (HQ hg1)
 have hg1_:=bF hg1
 iterate 4 refine aZ hg1 ?_
 refine ab (aN rfl hg1 (rfl:_=AV.p (.c _)))<|aj rfl<|ag<|am<|E1 rfl rfl ?_
 exact bd (K3 hg1)
theorem lZ (a b c:Int) (ha:L 34 a) (hb:L 34 b) (hc:L 34 c) :
  aH Tryz.prog 145 [FA a b c] (B (rdd a b c)):=by
 have ia:LB a 34:=⟨ha⟩
 have ib:LB b 34:=⟨hb⟩
 have ic:LB c 34:=⟨hc⟩
 refine aM Tryz.func145 rfl rfl rfl rfl ?_
 refine ae hP<|aq ai (aL rfl rfl)<|aj rfl<|ag<|ao<|ae hP<|br hT rfl rfl rfl rfl rfl rfl<|ab (ah (vL _ _ _ lz lz lz)) ?_
 refine ab (bw rfl)<|ak rfl ?_
 refine aY (t:=7) rfl (fun hg1=>?_) (fun hg1=>?_)
 ·have hg1_:=(bY hg1)
  iterate 7 refine aZ hg1 ?_
  refine ab (aO rfl hg1 (rfl:_=AV.p (.c _)))<|ak rfl<|aZ rfl ?_
  iterate 5 refine aZ rfl ?_
  refine ab (aO rfl rfl (rfl:_=AV.p (.c _)))<|ag<|aU rfl rfl<|ae hP<|aj rfl<|ag<|am<|E1 rfl rfl ?_
  exact bd (Gz hg1)
 have hg1_:=(bW hg1)
 refine aA hg1 (aT hT rfl rfl rfl rfl rfl rfl) ?_
 refine aA hg1 (aJ hT rfl rfl rfl rfl (cs:=[_,_]) rfl rfl) ?_
 refine aA hg1 (ah (nO _)) ?_
 refine aA hg1 (aT hT rfl rfl rfl rfl rfl rfl) ?_
 refine aA hg1 (aJ hT rfl rfl rfl rfl (cs:=[_,_]) rfl rfl) ?_
 refine aA hg1 (ah (gR _ _)) ?_
 refine aA hg1 (bJ rfl rfl) ?_
 refine ab (aN rfl hg1 (rfl:_=AV.p (.c _)))<|ak rfl ?_
 refine aY (t:=16) rfl (fun hg2=>?_) (fun hg2=>?_)
 ·have hg2_:=dT0 hg2
  iterate 6 refine aZ hg2 ?_
  refine ab (aO rfl hg2 (rfl:_=AV.p (.c _)))<|ag<|aU rfl rfl<|ae hP<|aj rfl<|ag<|am<|E1 rfl rfl ?_
  exact bd (Gy hg2)
 have hg2_:=dF0 hg2
 refine aA hg2 (aT hT rfl rfl rfl rfl rfl rfl) ?_
 refine aA hg2 (aJ hT rfl rfl rfl rfl (cs:=[_,_]) rfl rfl) ?_
 refine aA hg2 (aT hT rfl rfl rfl rfl rfl rfl) ?_
 refine aA hg2 (aJ hT rfl rfl rfl rfl (cs:=[_,_]) rfl rfl) ?_
 refine aA hg2 (ah (gR _ _)) ?_
 refine aA hg2 (bJ rfl rfl) ?_
 refine ab (aN rfl hg2 (rfl:_=AV.p (.c _)))<|ag ?_
 refine ay rfl (fun hb3=>?_) (fun hb3=>?_)
 ·have hb3_:=dT0 hb3
  refine ae hP<|aj rfl<|ag<|am<|E1 rfl rfl ?_
  exact bd (Gx hb3)
 have hb3_:=dF0 hb3
 refine au<|ae hP<|aI hT rfl<|av hT rfl<|ab (ah (nO _)) ?_
 refine aI hT rfl<|av hT rfl<|ab (ah (gR _ _)) ?_
 refine ab (bj rfl rfl)<|ak rfl ?_
 refine aY (t:=31) rfl (fun hg4=>?_) (fun hg4=>?_)
 ·have hg4_:=bT hg4
  iterate 6 refine aZ hg4 ?_
  refine ab (aO rfl hg4 (rfl:_=AV.p (.c _)))<|aj rfl<|ag<|ae hP<|ak rfl<|ab (bw rfl)<|ak rfl<|bv (a7 rfl rfl (congrArg not rfl)) (aT hT rfl rfl rfl rfl rfl rfl) ?_
  refine bv (a7 rfl rfl (congrArg not rfl)) (aJ hT rfl rfl rfl rfl (cs:=[_,_]) rfl rfl) ?_
  refine bv (a7 rfl rfl (congrArg not rfl)) (ah (dS _)) ?_
  refine bv (a7 rfl rfl (congrArg not rfl)) (dp rfl rfl) ?_
  refine ab (aN rfl (congrArg not rfl) (rfl:_=AV.p (.c _))) ?_
  refine aj rfl<|ag<|am<|E1 rfl rfl ?_
  exact bd (wD hg1 hg2 hb3 (.inl hg4_))
 have hg4_:=bF hg4
 refine aA hg4 (aT hT rfl rfl rfl rfl rfl rfl) ?_
 refine aA hg4 (aJ hT rfl rfl rfl rfl (cs:=[_,_]) rfl rfl) ?_
 refine aA hg4 (aT hT rfl rfl rfl rfl rfl rfl) ?_
 refine aA hg4 (aJ hT rfl rfl rfl rfl (cs:=[_,_]) rfl rfl) ?_
 refine aA hg4 (ah (gR _ _)) ?_
 refine aA hg4 (bj rfl rfl) ?_
 refine ab (aN rfl hg4 (rfl:_=AV.p (.c _)))<|aj rfl<|ag<|ae hP<|ak rfl<|ab (bw rfl)<|ak rfl ?_
 refine aY (t:=41) rfl (fun hg5=>?_) (fun hg5=>?_)
 ·have hg5_:=bF (bY hg5)
  iterate 4 refine aZ hg5 ?_
  refine ab (aO rfl hg5 (rfl:_=AV.p (.c _)))<|aj rfl<|ag<|am<|E1 rfl rfl ?_
  exact bd (Gw hg1 hg2 hb3 hg4_ hg5_)
 have hg5_:=bT (bW hg5)
 refine aA hg5 (aT hT rfl rfl rfl rfl rfl rfl) ?_
 refine aA hg5 (aJ hT rfl rfl rfl rfl (cs:=[_,_]) rfl rfl) ?_
 refine aA hg5 (ah (dS _)) ?_
 refine aA hg5 (dp rfl rfl) ?_
 refine ab (aN rfl hg5 (rfl:_=AV.p (.c _)))<|aj rfl<|ag<|am<|E1 rfl rfl ?_
 exact bd (wD hg1 hg2 hb3 (.inr hg5_))
theorem mQ (a b c:Int) (ha:L 26 a) (hb:L 26 b) (hc:L 26 c) :
  aH Tryz.prog 91 [FA a b c] (.t [PF (rdF a b c),PM (rdM a b c),PE (rdE a b c)]):=by
 have ia:LB a 26:=⟨ha⟩
 have ib:LB b 26:=⟨hb⟩
 have ic:LB c 26:=⟨hc⟩
 obtain ⟨M,hMa,hMc,hM0,hML⟩:=ha.max2 hc
 refine aM Tryz.func91 rfl rfl rfl rfl ?_
 refine ae hP<|aq ai (aL rfl rfl)<|aq ai (aB hT rfl rfl)<|aq ai (aB hT rfl rfl)<|aj rfl<|ag<|ae hP<|br hT rfl rfl rfl rfl rfl rfl<|ab (ah (l4 _ _ _ lz lz lz)) ?_
 refine aj rfl<|ag<|ao<|ae hP<|ak rfl<|ab (bj rfl rfl)<|ak rfl ?_
 refine aY (t:=13) rfl (fun hg1=>?_) (fun hg1=>?_)
 ·have hg1_:=bT hg1
  refine aA hg1 (aJ hT rfl rfl rfl rfl (cs:=[_,_,_,_,_,_]) rfl rfl) ?_
  refine aA hg1 (ah (gx _ _ _ lz lz lz)) ?_
  refine aA hg1 (ah (dS _)) ?_
  refine aA hg1 (bJ rfl rfl) ?_
  refine ab (aO rfl hg1 (rfl:_=AV.p (.c _)))<|ag ?_
  refine ay rfl (fun hb2=>?_) (fun hb2=>?_)
  ·have hb2_:=dT0 hb2
   refine aw hP<|aj rfl<|ag<|ao<|ae hP<|ak rfl<|ab (bq rfl rfl)<|ag<|aU rfl rfl<|ae hP<|ab (aR hT rfl rfl rfl (es:=[_,_,_,_,_,_]) rfl)<|ab (aR hT rfl rfl rfl (es:=[_,_,_,_,_,_,_,_]) rfl)<|ak rfl<|aG hT rfl<|aG hT rfl<|aj rfl<|ag<|am ?_
   refine cK rfl (.inr rfl) (aP hT rfl rfl rfl rfl (cs:=[_,_,_,_,_,_]) rfl rfl) (aP hT rfl rfl rfl rfl (cs:=[_,_,_,_,_,_,_,_]) rfl rfl) (bK rfl) ?_ bt
   exact aF (nI (Es hg1 hb2_) (by decide))
  have hb2_:=dF0 hb2
  refine au<|ao<|ae hP<|ak rfl<|ab (bq rfl rfl)<|ag<|aQ rfl (by rw [bne,hg1];rfl) ?_
  refine au<|ae hP<|ab (ah (jJ _ _ _ _ (by first | assumption | decide) (by first | assumption | decide) (by first | assumption | decide) (by first | assumption | decide))) ?_
  refine aq ai (aB hT rfl rfl)<|aG hT rfl<|ag<|ao<|aC ?_
  have he0:=Et hg1 hb2_
  have hp0:=lq he0
  refine bl (ι:=(Fm × Mt) × Nat) (fun i=>stL [(1,.loc 1 0),(2,.loc 2 0),(3,.loc 3 0),(6,.loc 6 0)] [(1,⟨false,1,46,FL i.1.1.a i.1.1.b i.1.1.c⟩),(2,⟨false,1,46,FL 0 0 0⟩),(3,⟨false,1,87,ML 0 0 0 0⟩),(6,⟨false,1,87,ML i.1.2.a i.1.2.b i.1.2.c i.1.2.d⟩)]) (fun i=>AM.Good ⟨a,b,c⟩ M i.1∧i.1.1.mu≤i.2∧eZ i.2 i.1=eZ (Fm.mu ⟨a,b,c⟩) (⟨a,b,c⟩,.one)) (fun i=>i.2) ((⟨a,b,c⟩,.one),Fm.mu ⟨a,b,c⟩) ⟨oZ hp0 hMa hMc,Nat.le_refl _,rfl⟩ (aE ⟨.refl _,.refl _,.refl _,.refl _,trivial⟩ ⟨rfl,rfl,rfl,rfl,trivial⟩) ?_
  rintro ⟨s,k⟩ ⟨hG,hk,hR⟩
  have hL:=hG.L hp0 hMa hMc hML
  have i1:LB s.1.a 27:=⟨hL.1.a⟩
  have i2:LB s.1.b 27:=⟨hL.1.b⟩
  have i3:LB s.1.c 27:=⟨hL.1.c⟩
  have i4:LB s.2.a 27:=⟨hL.2.a⟩
  have i5:LB s.2.b 27:=⟨hL.2.b⟩
  have i6:LB s.2.c 27:=⟨hL.2.c⟩
  have i7:LB s.2.d 27:=⟨hL.2.d⟩
  have hs0:2*s.1.a≠0:=by
   have h9:0 < s.1.a:=hG.pos.1
   omega
  have i8:LB s.1.k 28:=⟨by unfold Fm.k;exact lz⟩
  refine ao<|ae hP<|br hT rfl rfl rfl rfl rfl rfl<|ab (ah (lZ _ _ _ lz lz lz)) ?_
  refine ab (bw rfl)<|ag ?_
  refine ay rfl (fun hb3=>?_) (fun hb3=>?_)
  ·have hb3_:=(bY hb3)
   refine au<|aC<|ae hP<|aI hT rfl<|av hT rfl<|aI hT rfl<|av hT rfl<|ab (ah (nM _ _ lz lz)) ?_
   refine ab (ah (ce _ (by first | assumption | decide))) ?_
   refine aI hT rfl<|av hT rfl<|ab (ah (dJ _ _ lz lz)) ?_
   refine ab (ah (nN _ _ lz lz hs0)) ?_
   refine aq ai (aB hT rfl rfl)<|aG hT rfl<|ag<|ae hP<|ab (ah (ce _ (by first | assumption | decide))) ?_
   refine av hT rfl<|ab (ah (ce _ (by first | assumption | decide))) ?_
   refine ab (ah (ce _ (by first | assumption | decide))) ?_
   refine ab (aR hT rfl rfl rfl (es:=[_,_,_,_,_,_,_,_]) rfl)<|aq ai (aB hT rfl rfl)<|aG hT rfl<|ag<|ae hP<|br hT rfl rfl rfl rfl rfl rfl<|ab (aJ hT rfl rfl rfl rfl (cs:=[_,_,_,_,_,_,_,_]) rfl rfl)<|ab (ah (oQ _ _ _ _ _ _ _ lz lz lz lz lz lz lz)) ?_
   refine ab (aJ hT rfl rfl rfl rfl (cs:=[_,_,_,_,_,_,_,_]) rfl rfl)<|ab (aJ hT rfl rfl rfl rfl (cs:=[_,_,_,_,_,_,_,_]) rfl rfl)<|ab (ah (lY _ _ _ _ _ _ _ _ lz lz lz lz lz lz lz lz)) ?_
   refine aG hT rfl<|aG hT rfl<|ag<|ae hP<|br hT rfl rfl rfl rfl rfl rfl<|ab (ah (lZ _ _ _ lz lz lz)) ?_
   refine ab (bw rfl)<|ag ?_
   refine ay rfl (fun hb4=>?_) (fun hb4=>?_)
   ·have hb4_:=(bY hb4)
    refine ae hP<|ab (ah (jJ _ _ _ _ (by first | assumption | decide) (by first | assumption | decide) (by first | assumption | decide) (by first | assumption | decide))) ?_
    refine aG hT rfl<|ag<|aw hP<|br hT rfl rfl rfl rfl rfl rfl<|ab (aJ hT rfl rfl rfl rfl (cs:=[_,_,_,_,_,_,_,_]) rfl rfl)<|ab (ah (oQ _ _ _ _ _ _ _ lz lz lz lz lz lz lz)) ?_
    refine ab (aJ hT rfl rfl rfl rfl (cs:=[_,_,_,_,_,_,_,_]) rfl rfl)<|ab (aJ hT rfl rfl rfl rfl (cs:=[_,_,_,_,_,_,_,_]) rfl rfl)<|ab (ah (lY _ _ _ _ _ _ _ _ lz lz lz lz lz lz lz lz)) ?_
    refine aG hT rfl<|aG hT rfl<|ag ?_
    have hx:=nJ hG hk hR hb3 (Ef hb4)
    refine ⟨(((s.1.app (.T s.1.k)).app .S,(s.2.mul (.T s.1.k)).mul .S),k - 1),hx.1,hx.2,aE ⟨.refl _,.refl _,.refl _,.refl _,trivial⟩ ⟨rfl,rfl,rfl,rfl,trivial⟩⟩
   have hb4_:=(bW hb4)
   refine au ?_
   have hx:=nJ hG hk hR hb3 (Ee hb4)
   refine ⟨((s.1.app (.T s.1.k),s.2.mul (.T s.1.k)),k - 1),hx.1,hx.2,aE ⟨.refl _,.refl _,.refl _,.refl _,trivial⟩ ⟨rfl,rfl,rfl,rfl,trivial⟩⟩
  have hb3_:=(bW hb3)
  refine aW<|ae hP<|br hT rfl rfl rfl rfl rfl rfl<|ab (aJ hT rfl rfl rfl rfl (cs:=[_,_,_,_,_,_,_,_]) rfl rfl)<|aG hT rfl<|aG hT rfl<|aj rfl<|ag<|am ?_
  refine cK rfl (.inr rfl) (aP hT rfl rfl rfl rfl (cs:=[_,_,_,_,_,_]) rfl rfl) (aP hT rfl rfl rfl rfl (cs:=[_,_,_,_,_,_,_,_]) rfl rfl) (bK rfl) ?_ bt
  exact aF (zG he0 (wA hR hb3))
 have hg1_:=bF hg1
 iterate 4 refine aZ hg1 ?_
 refine ab (aN rfl hg1 (rfl:_=AV.p (.c _)))<|ag<|aQ rfl rfl<|au<|ao<|ae hP<|ak rfl<|ab (bq rfl rfl)<|ag<|aU rfl (by rw [bne,hg1];rfl) ?_
 refine ae hP<|ab (aR hT rfl rfl rfl (es:=[_,_,_,_,_,_]) rfl)<|ab (aR hT rfl rfl rfl (es:=[_,_,_,_,_,_,_,_]) rfl)<|ak rfl<|aG hT rfl<|aG hT rfl<|aj rfl<|ag<|am ?_
 refine cK rfl (.inr rfl) (aP hT rfl rfl rfl rfl (cs:=[_,_,_,_,_,_]) rfl rfl) (aP hT rfl rfl rfl rfl (cs:=[_,_,_,_,_,_,_,_]) rfl rfl) (bK rfl) ?_ bt
 exact aF (nI (zH hg1).1 (fun e=>by rw [e] at hg1;cases hg1))
theorem Cd (a b c p q r:Int) :
  aH Tryz.prog 43 [FA a b c,FA p q r] (B (decide (a=p∧b=q∧c=r))):=by
 refine aM Tryz.func43 rfl rfl rfl rfl ?_
 refine ae hP<|aq ai (aL rfl rfl)<|aq ai (aL rfl rfl)<|aj rfl<|ag<|ae hP<|aI hT rfl<|av hT rfl<|aI hT rfl<|av hT rfl<|ab (ah (dT _ _)) ?_
 refine ak rfl ?_
 refine aY (t:=10) rfl (fun hg1=>?_) (fun hg1=>?_)
 ·refine aA hg1 (aT hT rfl rfl rfl rfl rfl rfl) ?_
  refine aA hg1 (aJ hT rfl rfl rfl rfl (cs:=[_,_]) rfl rfl) ?_
  refine aA hg1 (aT hT rfl rfl rfl rfl rfl rfl) ?_
  refine aA hg1 (aJ hT rfl rfl rfl rfl (cs:=[_,_]) rfl rfl) ?_
  refine aA hg1 (ah (dT _ _)) ?_
  refine ab (aO rfl hg1 (rfl:_=AV.p (.c _)))<|ak rfl ?_
  refine aY (t:=17) rfl (fun hg2=>?_) (fun hg2=>?_)
  ·refine aA hg2 (aT hT rfl rfl rfl rfl rfl rfl) ?_
   refine aA hg2 (aJ hT rfl rfl rfl rfl (cs:=[_,_]) rfl rfl) ?_
   refine aA hg2 (aT hT rfl rfl rfl rfl rfl rfl) ?_
   refine aA hg2 (aJ hT rfl rfl rfl rfl (cs:=[_,_]) rfl rfl) ?_
   refine aA hg2 (ah (dT _ _)) ?_
   refine ab (aO rfl hg2 (rfl:_=AV.p (.c _)))<|aj rfl<|ag<|am<|E1 rfl rfl ?_
   exact bd (yR hg1 (yR hg2 rfl))
  iterate 5 refine aZ hg2 ?_
  refine ab (aN rfl hg2 (rfl:_=AV.p (.c _)))<|aj rfl<|ag<|am<|E1 rfl rfl ?_
  exact bd (yR hg1 (ET hg2))
 iterate 5 refine aZ hg1 ?_
 refine ab (aN rfl hg1 (rfl:_=AV.p (.c _)))<|ak rfl<|aZ rfl ?_
 iterate 4 refine aZ rfl ?_
 refine ab (aN rfl rfl (rfl:_=AV.p (.c _)))<|aj rfl<|ag<|am<|E1 rfl rfl ?_
 exact bd (ET hg1)
theorem GE (b:Nat) (hb:b < 256) :
  aH Tryz.prog 47 [.p (.c (.v (.int .u8 (b:Int))))] (MA (dj b).a (dj b).b (dj b).c (dj b).d):=by
 have i1:LB ((b:Int) % 8 - 3) 6:=⟨by unfold L;omega⟩
 have i2:LB ((b:Int) / 8 % 8 - 4) 6:=⟨by unfold L;omega⟩
 refine aM Tryz.func47 rfl rfl rfl rfl ?_
 refine ae hP<|aq ai (aB hT rfl rfl)<|ag<|ae hP<|ak rfl<|ab (bM rfl rfl (by decide) (c:=(b:Int) % 8) (Int.tmod_eq_emod_of_nonneg (by omega))) ?_
 refine ab (bn hT rfl rfl rfl rfl (iW0 _ (by omega))) ?_
 refine ab (bE rfl rfl (iW0 _ (by omega))) ?_
 refine ab (ah (jJ 1 _ 0 1 (by decide) (by unfold bu;omega) (by decide) (by decide))) ?_
 refine aq ai (aB hT rfl rfl)<|aG hT rfl<|ag<|ae hP<|ab (aJ hT rfl rfl rfl rfl (cs:=[_,_,_,_,_,_,_,_]) rfl rfl)<|ab (ah (jJ _ _ _ _ (by first | assumption | decide) (by first | assumption | decide) (by first | assumption | decide) (by first | assumption | decide))) ?_
 refine ab (ah (lY _ _ _ _ _ _ _ _ lz lz lz lz lz lz lz lz)) ?_
 refine ak rfl<|ab (cZ rfl rfl (by decide) (c:=(b:Int) / 8) (by rw [Int.tdiv_eq_ediv_of_nonneg (by omega),IntWalk.u8_in _ (by omega)])) ?_
 refine ab (bM rfl rfl (by decide) (c:=(b:Int) / 8 % 8) (Int.tmod_eq_emod_of_nonneg (by omega))) ?_
 refine ab (bn hT rfl rfl rfl rfl (iW0 _ (by omega))) ?_
 refine ab (bE rfl rfl (iW0 _ (by omega))) ?_
 refine ab (ah (jJ 1 _ 0 1 (by decide) (by unfold bu;omega) (by decide) (by decide))) ?_
 refine ab (ah (lY _ _ _ _ _ _ _ _ lz lz lz lz lz lz lz lz)) ?_
 refine aG hT rfl<|ag<|am ?_
 refine bI rfl (.inr rfl) (aP hT rfl rfl rfl rfl (cs:=[_,_,_,_,_,_,_,_]) rfl rfl) ?_ bt
 exact .refl _
theorem JQ (n0 n1 n2 n3 n4 n5 n6:Bool) (w0 w1 w2 w3 w4 w5 w6:List Nat) (h0:okW w0) (h1:okW w1) (h2:okW w2) (_h3:okW w3) (_h4:okW w4) (_h5:okW w5) (_h6:okW w6) :
  aH Tryz.prog 23 [.p (.a [.v (.bool n0),W w0,.v (.bool n1),W w1,.v (.bool n2),W w2,.v (.bool n3),W w3,.v (.bool n4),W w4,.v (.bool n5),W w5,.v (.bool n6),W w6])] (FA (md n0 w0) (md n1 w1) (md n2 w2)):=by
 refine aM Tryz.func23 rfl rfl rfl rfl ?_
 refine ae hP<|aq ai (aL rfl rfl)<|aq ai (aB hT rfl rfl)<|ag<|ae hP<|aI hT rfl<|ab (aV hT rfl rfl rfl rfl rfl (by first | decide | omega)) ?_
 refine av hT rfl<|ab (ah (tO _ _ 2 h0 (by decide))) ?_
 refine aI hT rfl<|ab (aV hT rfl rfl rfl rfl rfl (by first | decide | omega)) ?_
 refine av hT rfl<|ab (ah (tO _ _ 2 h1 (by decide))) ?_
 refine aI hT rfl<|ab (aV hT rfl rfl rfl rfl rfl (by first | decide | omega)) ?_
 refine av hT rfl<|ab (ah (tO _ _ 2 h2 (by decide))) ?_
 refine ab (aR hT rfl rfl rfl (es:=[_,_,_,_,_,_]) rfl)<|aG hT rfl<|ag<|am ?_
 refine bI rfl (.inr rfl) (aP hT rfl rfl rfl rfl (cs:=[_,_,_,_,_,_]) rfl rfl) ?_ bt
 exact .refl _
end
section
open Go Go.AM
end
section
open Go Go.AM
theorem Kl (z:Int) (hz:bu z) :
  aH Tryz.prog 247 [Z z] (I z):=by
 refine aM Tryz.func247 rfl rfl rfl rfl ?_
 refine ae hP<|aq ai (aB hT rfl rfl)<|ag<|ae hP<|ak rfl<|ab (ah (eS _ (by first | assumption | decide))) ?_
 refine aG hT rfl<|ag<|am<|E2 hT rfl rfl rfl rfl rfl rfl rfl ?_
 exact .refl _
theorem EH (x:Int) :
  aH Tryz.prog 218 [I x] (B (decide (x=1))):=by
 refine aM Tryz.func218 rfl rfl rfl rfl ?_
 refine ae hP<|aq ai (aL rfl rfl)<|aj rfl<|ag<|ae hP<|av hT rfl<|ab (ah (Kl _ (by first | assumption | decide))) ?_
 refine ab (ah (dO _ _)) ?_
 refine ab (bj rfl rfl)<|aj rfl<|ag<|am<|E1 rfl rfl ?_
 exact bd (by rw [Bool.eq_iff_iff];simp [cmpI_eq_zero])
theorem yC (x:Int) :
  aH Tryz.prog 219 [I x] (B (de x)):=by
 refine aM Tryz.func219 rfl rfl rfl rfl ?_
 refine ae hP<|aq ai (aL rfl rfl)<|aj rfl<|ag<|ae hP<|aI hT rfl<|bi hT rfl rfl rfl rfl ?_
 refine ab (aX hT rfl rfl rfl rfl)<|ab (bJ rfl rfl)<|ak rfl ?_
 refine aY (t:=7) rfl (fun hg1=>?_) (fun hg1=>?_)
 ·have hg1_:=dT0 hg1
  refine aA hg1 (aT hT rfl rfl rfl rfl rfl rfl) ?_
  refine aA hg1 (bL hT rfl rfl rfl rfl (by first | rfl | exact eh (by omega))) ?_
  refine aA hg1 (by first | exact fO hT rfl rfl rfl rfl rfl rfl (by omega) | exact cq hT rfl rfl rfl rfl rfl rfl (by omega) (by first | exact iY (by omega) | simp)) ?_
  refine aA hg1 (bV hT rfl rfl rfl (by first | rfl | exact mH (by omega))) ?_
  refine aA hg1 (qI (m:=(wl x.natAbs).getD 0 0) (n:=1) rfl rfl rfl (iU ((bG x.natAbs).getD 0)) (by decide)) ?_
  refine aA hg1 (bj rfl rfl) ?_
  refine ab (aO rfl hg1 (rfl:_=AV.p (.c _)))<|aj rfl<|ag<|am<|E1 rfl rfl ?_
  exact bd (G4 hg1_)
 have hg1_:=dF0 hg1
 iterate 6 refine aZ hg1 ?_
 refine ab (aN rfl hg1 (rfl:_=AV.p (.c _)))<|aj rfl<|ag<|am<|E1 rfl rfl ?_
 exact bd (J9 hg1_)
theorem pU (x y:Int) (hx:L 44 x) (hy:L 44 y) (h0:y≠0) :
  aH Tryz.prog 213 [I x,I y] (I (x % y)):=by
 have ix:LB x 44:=⟨hx⟩
 have iy:LB y 44:=⟨hy⟩
 refine aM Tryz.func213 rfl rfl rfl rfl ?_
 refine ae hP<|aq ai (aL rfl rfl)<|aq ai (aL rfl rfl)<|aq ai (aB hT rfl rfl)<|ag<|ae hP<|av hT rfl<|av hT rfl<|ab (ah (dZ _ _ lz lz h0)) ?_
 refine ab (az (rfl:_=AV.t _))<|ab (aD rfl (v:=.a _) rfl)<|ab (aD rfl (v:=.a _) rfl)<|ab (aD rfl (v:=.c _) rfl)<|aq ai (aB hT rfl rfl)<|aq ai (aB hT rfl rfl)<|aG hT rfl<|aG hT rfl<|aj rfl<|ag<|ae hP<|av hT rfl<|aG hT rfl<|ag<|am<|E2 hT rfl rfl rfl rfl rfl rfl rfl ?_
 exact .refl _
theorem My (x y:Int) (hx:L 44 x) (hy:L 44 y) (h0:y≠0) :
  aH Tryz.prog 248 [I x,I y] (I (x / y)):=by
 have ix:LB x 44:=⟨hx⟩
 have iy:LB y 44:=⟨hy⟩
 refine aM Tryz.func248 rfl rfl rfl rfl ?_
 refine ae hP<|aq ai (aL rfl rfl)<|aq ai (aL rfl rfl)<|aq ai (aB hT rfl rfl)<|ag<|ae hP<|av hT rfl<|av hT rfl<|ab (ah (dZ _ _ lz lz h0)) ?_
 refine ab (az (rfl:_=AV.t _))<|ab (aD rfl (v:=.a _) rfl)<|ab (aD rfl (v:=.a _) rfl)<|ab (aD rfl (v:=.c _) rfl)<|aq ai (aB hT rfl rfl)<|aq ai (aB hT rfl rfl)<|aG hT rfl<|aG hT rfl<|aj rfl<|ag<|ae hP<|av hT rfl<|aG hT rfl<|ag<|am<|E2 hT rfl rfl rfl rfl rfl rfl rfl ?_
 exact .refl _
theorem sV (x m:Int) (hm:m=4∨m=8) :
  aH Tryz.prog 221 [I x,.p (.c (.v (.int .u32 m)))] (.p (.c (.v (.int .u32 (x % m))))):=by
 have hm0:0 < m∧m < 10:=by omega
 have hb:=Int.emod_nonneg (x.natAbs:Int) (show m≠0 by omega)
 have hb2:=Int.emod_lt_of_pos (x.natAbs:Int) hm0.1
 refine aM Tryz.func221 rfl rfl rfl rfl ?_
 refine ae hP<|aq ai (aL rfl rfl)<|aj rfl<|ag<|ao<|ae hP<|aI hT rfl<|bi hT rfl rfl rfl rfl ?_
 refine ab (aX hT rfl rfl rfl rfl)<|ab (bj rfl rfl)<|ag ?_
 refine ay rfl (fun hb1=>?_) (fun hb1=>?_)
 ·have hb1_:=bT hb1
  refine ae hP<|aj rfl<|ag<|am<|E1 rfl rfl ?_
  exact aF (by rw [CH hb1_])
 have hb1_:=bF hb1
 refine au<|ae hP<|aI hT rfl<|bi hT rfl rfl rfl rfl ?_
 refine c7 ?_
 refine cO hT rfl rfl rfl ?_
 refine ak rfl<|ab (bM rfl rfl (by omega) (c:=(x.natAbs:Int) % m) (by rw [Int.tmod_eq_emod_of_nonneg (by omega)];exact Hn hm hb1_)) ?_
 refine aj rfl<|ag<|ao<|ae hP<|aI hT rfl<|bi hT rfl rfl rfl rfl ?_
 refine ak rfl ?_
 refine aY (t:=18) rfl (fun hg2=>?_) (fun hg2=>?_)
 ·refine aA hg2 (az (rfl:_=AV.p (.c _))) ?_
  refine aA hg2 (bJ rfl rfl) ?_
  refine ab (aO rfl hg2 (rfl:_=AV.p (.c _)))<|ag ?_
  refine ay rfl (fun hb3=>?_) (fun hb3=>?_)
  ·have hb3_:=dT0 hb3
   refine aw hP<|ak rfl<|ak rfl<|ab (bE rfl rfl (by first | exact IntWalk.u32_in _ (by omega) | rfl)) ?_
   refine aj rfl<|ag<|ae hP<|ak rfl<|aj rfl<|ag<|am<|E1 rfl rfl ?_
   exact aF (by rw [Hm hm (dT0 hg2) hb3_])
  have hb3_:=dF0 hb3
  refine au<|ae hP<|ak rfl<|aj rfl<|ag<|am<|E1 rfl rfl ?_
  exact aF (by rw [CI hm (dT0 hg2) hb3_])
 refine aZ hg2 ?_
 refine aZ hg2 ?_
 refine ab (aN rfl hg2 (rfl:_=AV.p (.c _)))<|ag<|aQ rfl rfl<|au<|ae hP<|ak rfl<|aj rfl<|ag<|am<|E1 rfl rfl ?_
 exact aF (by rw [Hl (dF0 hg2)])
end
section
open Go Go.AM
theorem Af (x:Int) (hx:L 40 x) (h0:x≠0) :
  aH Tryz.prog 220 [I x] (.t [PI (tw x).1,PE (tw x).2]):=by
 refine aM Tryz.func220 rfl rfl rfl rfl ?_
 refine ae hP<|aq ai (aL rfl rfl)<|aq ai (aB hT rfl rfl)<|aj rfl<|ag<|ae hP<|aj rfl<|ag<|ao<|aC<|bl (ι:=Int × Int) (fun p=>stL [(1,.loc 1 0),(2,.loc 2 0),(4,Z p.2)] [(1,⟨false,1,29,[zn (p.1),zm (p.1)]⟩),(2,⟨false,1,29,[zn (0),zm (0)]⟩)]) (fun p=>TwI x p.1 p.2) (fun p=>p.1.natAbs) (x,0) (TwI.start hx h0) (aE ⟨.refl _,.refl _,.refl _,trivial⟩ ⟨rfl,rfl,trivial⟩) ?_
 rintro p hI
 have hlt:=hI.lt hx
 have hk0:=hI.k0
 have ib:LB p.1 40:=⟨hI.lb⟩
 refine ao<|ae hP<|av hT rfl<|ab (ah (yC _)) ?_
 refine ab (bw rfl)<|ag ?_
 refine ay rfl (fun hb1=>?_) (fun hb1=>?_)
 ·have hb1_:=(bY hb1)
  refine au<|aC<|ae hP<|av hT rfl<|ab (ah (Kl _ (by first | assumption | decide))) ?_
  refine ab (ah (My _ _ lz lz (by first | assumption | decide))) ?_
  refine aG hT rfl<|ag<|aw hP<|ak rfl<|bA rfl rfl ?_
  refine aj rfl<|ag ?_
  refine ⟨(p.1 / 2,p.2+1),(hI.next (by simpa using hb1)).1,(hI.next (by simpa using hb1)).2,aE ⟨.refl _,.refl _,.refl _,trivial⟩ ⟨rfl,rfl,trivial⟩⟩
 have hb1_:=(bW hb1)
 refine aW<|ae hP<|av hT rfl<|ak rfl<|aG hT rfl<|aj rfl<|ag<|am ?_
 refine cp rfl (.inr rfl) (aP hT rfl rfl rfl rfl (cs:=[_,_]) rfl rfl) (bK rfl) ?_ bt
 exact aF (by rw [wi (by simpa using hb1) hI.tw])
theorem jE (a m:Int) (ha:L 40 a) (hm:L 40 m) :
  aH Tryz.prog 184 [I a,I m] (Z (kr a m)):=by
 have ia:LB a 40:=⟨ha⟩
 have im:LB m 40:=⟨hm⟩
 have hkb:=yH a m
 have hsg:=qS (x:=a) hkb
 have hsg0:=Int.emod_nonneg a (show (8:Int)≠0 by omega)
 have hsg1:=Int.emod_lt_of_pos a (show (0:Int) < 8 by omega)
 refine aM Tryz.func184 rfl rfl rfl rfl ?_
 refine ae hP<|aq ai (aL rfl rfl)<|aq ai (aL rfl rfl)<|aj rfl<|ag<|ao<|ae hP<|av hT rfl<|ab (ah (dy _)) ?_
 refine ab (bj rfl rfl)<|ag ?_
 refine ay rfl (fun hb1=>?_) (fun hb1=>?_)
 ·have hb1_:=bT hb1
  refine ao<|ae hP<|av hT rfl<|ab (ah (nX _)) ?_
  refine ab (ah (EH _)) ?_
  refine ag ?_
  refine ay rfl (fun hb2=>?_) (fun hb2=>?_)
  ·refine ae hP<|aj rfl<|ag<|am<|E1 rfl rfl ?_
   exact aK (NW (sgn_zero_iff.1 hb1_) (dT0 hb2))
  refine au<|ae hP<|aj rfl<|ag<|am<|E1 rfl rfl ?_
  exact aK (MF (sgn_zero_iff.1 hb1_) (dF0 hb2))
 have hb1_:=bF hb1
 refine au<|cH (ι:=Unit) (fun _=>stL [(2,.loc 2 0),(3,.loc 3 0)] [(2,⟨false,1,29,[zn (a),zm (a)]⟩),(3,⟨false,1,29,[zn (m),zm (m)]⟩)]) (fun _=>¬ (de a=false∧de m=false)) ?_ ?_
 ·refine ae hP<|av hT rfl<|ab (ah (yC _)) ?_
  refine ab (bw rfl)<|ak rfl ?_
  refine aY (t:=16) rfl (fun hg3=>?_) (fun hg3=>?_)
  ·have hg3_:=(bY hg3)
   refine aA hg3 (aJ hT rfl rfl rfl rfl (cs:=[_,_]) rfl rfl) ?_
   refine aA hg3 (ah (yC _)) ?_
   refine aA hg3 (bw rfl) ?_
   refine ab (aO rfl hg3 (rfl:_=AV.p (.c _)))<|ag ?_
   refine ay rfl (fun hb4=>?_) (fun hb4=>?_)
   ·have hb4_:=(bY hb4)
    refine ae hP<|aj rfl<|ag<|am<|E1 rfl rfl ?_
    exact aK (Hr (fun e=>hb1_ (sgn_zero_iff.2 e)) hg3_ hb4_)
   have hb4_:=(bW hb4)
   refine au ?_
   refine ⟨(),fun x=>(by rw [x.2] at hb4_;cases hb4_),aE ⟨.refl _,.refl _,trivial⟩ ⟨rfl,rfl,trivial⟩⟩
  have hg3_:=(bW hg3)
  iterate 3 refine aZ hg3 ?_
  refine ab (aN rfl hg3 (rfl:_=AV.p (.c _)))<|ag<|aQ rfl rfl<|au ?_
  refine ⟨(),fun x=>(by rw [x.1] at hg3_;cases hg3_),aE ⟨.refl _,.refl _,trivial⟩ ⟨rfl,rfl,trivial⟩⟩
 intro _ hpar
 refine ae hP<|aj rfl<|ag<|cH (ι:=Unit) (fun _=>stL [(2,.loc 2 0),(3,.loc 3 0),(5,Z (k0K a m))] [(2,⟨false,1,29,[zn (a),zm (a)]⟩),(3,⟨false,1,29,[zn ((m.natAbs:Int)),zm ((m.natAbs:Int))]⟩)]) (fun _=>True) ?_ ?_
 ·refine ae hP<|aI hT rfl<|bi hT rfl rfl rfl rfl ?_
  refine ag ?_
  refine ay rfl (fun hb5=>?_) (fun hb5=>?_)
  ·refine ao<|ae hP<|aI hT rfl<|bi hT rfl rfl rfl rfl ?_
   refine ag ?_
   refine ay rfl (fun hb6=>?_) (fun hb6=>?_)
   ·refine aw hP<|aj rfl<|ag<|aw hP<|av hT rfl<|ab (ah (kg _)) ?_
    refine aG hT rfl<|ag ?_
    refine ⟨(),trivial,aE ⟨.refl _,.refl _,aK (by unfold k0K;rw [if_pos ⟨dT0 hb5,dT0 hb6⟩]),trivial⟩ ⟨rfl,by rw [wW (dT0 hb5)];rfl,trivial⟩⟩
   refine au<|aw hP<|av hT rfl<|ab (ah (kg _)) ?_
   refine aG hT rfl<|ag ?_
   refine ⟨(),trivial,aE ⟨.refl _,.refl _,aK (by unfold k0K;rw [if_neg (fun x=>dF0 hb6 x.2)]),trivial⟩ ⟨rfl,by rw [wW (dT0 hb5)];rfl,trivial⟩⟩
  refine au ?_
  refine ⟨(),trivial,aE ⟨.refl _,.refl _,aK (by unfold k0K;rw [if_neg (fun x=>dF0 hb5 x.1)]),trivial⟩ ⟨rfl,by rw [GQ (dF0 hb5)];rfl,trivial⟩⟩
 intro _ _
 have hn0:(m.natAbs:Int)≠0:=fun e=>hb1_ (sgn_zero_iff.2 (by omega))
 refine ae hP<|av hT rfl<|ab (ah (Af _ lz hn0)) ?_
 refine ab (az (rfl:_=AV.t _))<|ab (aD rfl (v:=.a _) rfl)<|ab (aD rfl (v:=.c _) rfl)<|aG hT rfl<|aj rfl<|ag<|cH (ι:=Unit) (fun _=>stL [(2,.loc 2 0),(3,.loc 3 0),(5,Z (k1K a m))] [(2,⟨false,1,29,[zn (a),zm (a)]⟩),(3,⟨false,1,29,[zn ((tw (m.natAbs:Int)).1),zm ((tw (m.natAbs:Int)).1)]⟩)]) (fun _=>True) ?_ ?_
 ·refine ae hP<|ak rfl<|ab (bM rfl rfl (by decide) (c:=(tw (m.natAbs:Int)).2 % 2) (Int.tmod_eq_emod_of_nonneg (by have:=Jb (x:=(m.natAbs:Int)) lz hn0;omega))) ?_
  refine ab (bj rfl rfl)<|ag ?_
  refine ay rfl (fun hb7=>?_) (fun hb7=>?_)
  ·have hb7_:=bT hb7
   refine aw hP<|ak rfl<|av hT rfl<|ab (ah (sV _ _ (by simp))) ?_
   refine ab (mC hT rfl rfl rfl rfl (.head _) rfl rfl (by omega)) ?_
   refine ab (bV hT rfl rfl rfl (ww a)) ?_
   refine ab (bQ rfl rfl (by first | exact iW0 _ (by omega) | rfl)) ?_
   refine aj rfl<|ag ?_
   refine ⟨(),trivial,aE ⟨.refl _,.refl _,aK (by unfold k1K;rw [if_pos hb7_]),trivial⟩ ⟨rfl,rfl,trivial⟩⟩
  have hb7_:=bF hb7
  refine au ?_
  refine ⟨(),trivial,aE ⟨.refl _,.refl _,aK (by unfold k1K;rw [if_neg hb7_]),trivial⟩ ⟨rfl,rfl,trivial⟩⟩
 intro _ _
 have htw:LB (tw (m.natAbs:Int)).1 40:=Jc lz hn0
 have ht0:(tw (m.natAbs:Int)).1≠0:=(gJ _ _ (Nat.le_refl _) hn0).2.1
 refine ae hP<|av hT rfl<|av hT rfl<|ab (ah (pU _ _ lz lz ht0)) ?_
 refine aG hT rfl<|ag<|ao<|aC<|bl (ι:=(Int × Int × Int) × Nat) (fun i=>stL [(2,.loc 2 0),(3,.loc 3 0),(5,Z (i.1.1))] [(2,⟨false,1,29,[zn (i.1.2.1),zm (i.1.2.1)]⟩),(3,⟨false,1,29,[zn (i.1.2.2),zm (i.1.2.2)]⟩)]) (fun i=>KrI (RK_ a m) i.2 i.1.1 i.1.2.1 i.1.2.2) (fun i=>i.1.2.1.natAbs) ((k1K a m,a % (tw (m.natAbs:Int)).1,(tw (m.natAbs:Int)).1),_) (KrI.start (fun e=>hb1_ (sgn_zero_iff.2 e)) ha hm) (aE ⟨.refl _,.refl _,.refl _,trivial⟩ ⟨rfl,rfl,trivial⟩) ?_
 rintro i hI
 have h5:=hI.hk
 have j1:LB i.1.2.1 40:=⟨hI.la⟩
 have j2:LB i.1.2.2 40:=⟨hI.ln⟩
 refine ao<|ae hP<|av hT rfl<|ab (ah (dy _)) ?_
 refine ab (bJ rfl rfl)<|ag ?_
 refine ay rfl (fun hb8=>?_) (fun hb8=>?_)
 ·have hb8_:=dT0 hb8
  have hapos:0 < i.1.2.1:=sgn_gt_iff.1 hb8_
  have hne:i.1.2.1≠0:=by omega
  have hsg2:=qS (x:=i.1.2.2) h5
  have hkk:=KrI.next hI hapos
  have hw:LB (tw i.1.2.1).1 40:=Jc hI.la hne
  have hw0:(tw i.1.2.1).1≠0:=(gJ _ _ (Nat.le_refl _) hne).2.1
  have hk1b:=MJ (a:=i.1.2.1) (n:=i.1.2.2) h5
  have hsg0:=Int.emod_nonneg i.1.2.2 (show (8:Int)≠0 by omega)
  have hsg1:=Int.emod_lt_of_pos i.1.2.2 (show (0:Int) < 8 by omega)
  refine au<|aC<|ae hP<|av hT rfl<|ab (ah (Af _ lz hne)) ?_
  refine ab (az (rfl:_=AV.t _))<|ab (aD rfl (v:=.a _) rfl)<|ab (aD rfl (v:=.c _) rfl)<|aG hT rfl<|aj rfl<|ag<|cH (ι:=Unit) (fun _=>stL [(2,.loc 2 0),(3,.loc 3 0),(5,Z ((k1F i.1.1 i.1.2.1 i.1.2.2)))] [(2,⟨false,1,29,[zn ((tw i.1.2.1).1),zm ((tw i.1.2.1).1)]⟩),(3,⟨false,1,29,[zn (i.1.2.2),zm (i.1.2.2)]⟩)]) (fun _=>True) ?_ ?_
  ·refine ae hP<|ak rfl<|ab (bM rfl rfl (by decide) (c:=(tw i.1.2.1).2 % 2) (Int.tmod_eq_emod_of_nonneg (by have:=Jb (x:=i.1.2.1) lz hne;omega))) ?_
   refine ab (bj rfl rfl)<|ag ?_
   refine ay rfl (fun hb9=>?_) (fun hb9=>?_)
   ·have hb9_:=bT hb9
    refine aw hP<|ak rfl<|av hT rfl<|ab (ah (sV _ _ (by simp))) ?_
    refine ab (mC hT rfl rfl rfl rfl (.head _) rfl rfl (by omega)) ?_
    refine ab (bV hT rfl rfl rfl (ww i.1.2.2)) ?_
    refine ab (bQ rfl rfl (by first | exact iW0 _ (by omega) | rfl)) ?_
    refine aj rfl<|ag ?_
    refine ⟨(),trivial,aE ⟨.refl _,.refl _,aK (by unfold k1F;rw [if_pos hb9_]),trivial⟩ ⟨rfl,rfl,trivial⟩⟩
   have hb9_:=bF hb9
   refine au ?_
   refine ⟨(),trivial,aE ⟨.refl _,.refl _,aK (by unfold k1F;rw [if_neg hb9_]),trivial⟩ ⟨rfl,rfl,trivial⟩⟩
  intro _ _
  refine ao<|ae hP<|av hT rfl<|ab (ah (sV _ _ (by simp))) ?_
  refine ab (bj rfl rfl)<|ak rfl ?_
  refine aY (t:=64) rfl (fun hg10=>?_) (fun hg10=>?_)
  ·have hg10_:=bT hg10
   refine aA hg10 (aJ hT rfl rfl rfl rfl (cs:=[_,_]) rfl rfl) ?_
   refine aA hg10 (ah (sV _ _ (by simp))) ?_
   refine aA hg10 (bj rfl rfl) ?_
   refine ab (aO rfl hg10 (rfl:_=AV.p (.c _)))<|ag ?_
   refine ay rfl (fun hb11=>?_) (fun hb11=>?_)
   ·have hb11_:=bT hb11
    refine aw hP<|ak rfl<|ab (dV rfl (by first | exact iW0 _ (by omega) | rfl)) ?_
    refine aj rfl<|ag<|aw hP<|av hT rfl<|av hT rfl<|ab (ah (pU _ _ lz lz hw0)) ?_
    refine av hT rfl<|aG hT rfl<|aG hT rfl<|ag ?_
    refine ⟨((k2F (k1F i.1.1 i.1.2.1 i.1.2.2) i.1.2.1 i.1.2.2,i.1.2.2 % (tw i.1.2.1).1,(tw i.1.2.1).1),i.2 - 1),(hI.next hapos).1,(hI.next hapos).2,aE ⟨.refl _,.refl _,aK (by show _=k2F _ _ _;unfold k2F;rw [if_pos ⟨hg10_,hb11_⟩];omega),trivial⟩ ⟨rfl,rfl,trivial⟩⟩
   have hb11_:=bF hb11
   refine au<|aw hP<|av hT rfl<|av hT rfl<|ab (ah (pU _ _ lz lz hw0)) ?_
   refine av hT rfl<|aG hT rfl<|aG hT rfl<|ag ?_
   refine ⟨((k2F (k1F i.1.1 i.1.2.1 i.1.2.2) i.1.2.1 i.1.2.2,i.1.2.2 % (tw i.1.2.1).1,(tw i.1.2.1).1),i.2 - 1),(hI.next hapos).1,(hI.next hapos).2,aE ⟨.refl _,.refl _,aK (by show _=k2F _ _ _;unfold k2F;rw [if_neg (fun x=>hb11_ x.2)]),trivial⟩ ⟨rfl,rfl,trivial⟩⟩
  have hg10_:=bF hg10
  iterate 3 refine aZ hg10 ?_
  refine ab (aN rfl hg10 (rfl:_=AV.p (.c _)))<|ag<|aQ rfl rfl<|au<|aw hP<|av hT rfl<|av hT rfl<|ab (ah (pU _ _ lz lz hw0)) ?_
  refine av hT rfl<|aG hT rfl<|aG hT rfl<|ag ?_
  refine ⟨((k2F (k1F i.1.1 i.1.2.1 i.1.2.2) i.1.2.1 i.1.2.2,i.1.2.2 % (tw i.1.2.1).1,(tw i.1.2.1).1),i.2 - 1),(hI.next hapos).1,(hI.next hapos).2,aE ⟨.refl _,.refl _,aK (by show _=k2F _ _ _;unfold k2F;rw [if_neg (fun x=>hg10_ x.1)]),trivial⟩ ⟨rfl,rfl,trivial⟩⟩
 have hb8_:=dF0 hb8
 refine aW<|ao<|ae hP<|av hT rfl<|ab (ah (EH _)) ?_
 refine ab (bw rfl)<|ag ?_
 refine ay rfl (fun hb12=>?_) (fun hb12=>?_)
 ·have hb12_:=(bY hb12)
  refine ae hP<|aj rfl<|ag<|am<|E1 rfl rfl ?_
  exact aK (by rw [sY (fun e=>hb1_ (sgn_zero_iff.2 e)) hpar,hI.stop (fun h=>hb8_ (sgn_gt_iff.2 h)),if_neg (dF0 hb12_)])
 have hb12_:=(bW hb12)
 refine au<|ae hP<|ak rfl<|aj rfl<|ag<|am<|E1 rfl rfl ?_
 exact aK (by rw [sY (fun e=>hb1_ (sgn_zero_iff.2 e)) hpar,hI.stop (fun h=>hb8_ (sgn_gt_iff.2 h)),if_pos (dT0 hb12_)])
end
section
open Go Go.AM
end
end Go.Proofs.YthaiejfjnllglaaGreatDoor
