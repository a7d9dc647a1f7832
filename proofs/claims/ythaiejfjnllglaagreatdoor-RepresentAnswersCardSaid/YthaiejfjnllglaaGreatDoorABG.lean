import Derived.Test.YthaiejfjnllglaaGreatDoorABF
import Derived.Test.YthaiejfjnllglaaGreatDoorABB
import Derived.Test.YthaiejfjnllglaaGreatDoorABE
import Derived.Test.YthaiejfjnllglaaGreatDoorABC
set_option maxRecDepth 100000
set_option maxHeartbeats 6000000
namespace Go.Proofs.YthaiejfjnllglaaGreatDoor
section
open Go Go.AM
theorem Gi (a b c p q r s t u v w:Int) (ha:L 34 a) (hb:L 34 b) (hc:L 34 c) (hp:L 34 p) (hq:L 34 q) (hr:L 34 r) (hs:L 34 s) (ht:L 34 t) (hu:L 34 u) (hv:L 34 v) (hw:L 34 w) :
  CallM Tryz.prog 114 [.loc 0 0,I t,I u,I v,I w] (upd O 0 (some ⟨false,1,163,[zn (a),zm (a),zn (b),zm (b),zn (c),zm (c),zn (p),zm (p),zn (q),zm (q),zn (r),zm (r),zn (s),zm (s)]⟩)) (.t []) (upd O 0 (some ⟨false,1,163,[zn (vl a b c t v),zm (vl a b c t v),zn (apB a b c t u v w),zm (apB a b c t u v w),zn (vl a b c u w),zm (vl a b c u w),zn (p*t+q*v),zm (p*t+q*v),zn (p*u+q*w),zm (p*u+q*w),zn (r*t+s*v),zm (r*t+s*v),zn (r*u+s*w),zm (r*u+s*w)]⟩)):=by
 have ia:LB a 34:=⟨ha⟩
 have ib:LB b 34:=⟨hb⟩
 have ic:LB c 34:=⟨hc⟩
 have ip:LB p 34:=⟨hp⟩
 have iq:LB q 34:=⟨hq⟩
 have ir:LB r 34:=⟨hr⟩
 have is:LB s 34:=⟨hs⟩
 have it:LB t 34:=⟨ht⟩
 have iu:LB u 34:=⟨hu⟩
 have iv:LB v 34:=⟨hv⟩
 have iw:LB w 34:=⟨hw⟩
 refine mn (np:=1) Tryz.func114 (by kernel_rfl) rfl rfl (bL0 rfl) qh oC rfl ?_
 refine ae hP<|aq ai (aL rfl rfl)<|aq ai (aL rfl rfl)<|aq ai (aL rfl rfl)<|aq ai (aL rfl rfl)<|ag<|ae hP<|av hT rfl<|av hT rfl<|av hT rfl<|av hT rfl<|ab (a6 hT rfl rfl rfl (es:=[_,_,_,_,_,_,_,_]) rfl)<|aq ai (aC hT rfl rfl)<|aI hT rfl<|ag<|aw hP<|ab (aB (rfl:_=AV.loc _ _))<|ab (aB (rfl:_=AV.loc _ _))<|ab (aB (rfl:_=AV.loc _ _))<|ab (cE rfl)<|aG hT rfl<|br hT rfl rfl rfl rfl rfl rfl<|ab (aF hT rfl rfl rfl rfl (cs:=[_,_,_,_,_,_,_,_]) rfl rfl)<|ab (ah (Gj _ _ _ _ _ _ _ lz lz lz lz lz lz lz)) ?_
 refine ab (aB (rfl:_=AV.loc _ _))<|ab (cE rfl)<|aG hT rfl<|ab (aF hT rfl rfl rfl rfl (cs:=[_,_,_,_,_,_,_,_]) rfl rfl)<|ab (aF hT rfl rfl rfl rfl (cs:=[_,_,_,_,_,_,_,_]) rfl rfl)<|ab (ah (wn _ _ _ _ _ _ _ _ lz lz lz lz lz lz lz lz)) ?_
 refine ab (cE rfl)<|aG hT rfl<|aI hT rfl<|ab (cE rfl)<|aG hT rfl<|aI hT rfl<|ag ?_
 refine nf rfl (.inl rfl)  ?_ (oO rfl)
 exact .refl _
theorem zx (m:Nat) (a b c p q r s t u v w:Int) (ha:L 34 a) (hb:L 34 b) (hc:L 34 c) (hp:L 34 p) (hq:L 34 q) (hr:L 34 r) (hs:L 34 s) (ht:L 34 t) (hu:L 34 u) (hv:L 34 v) (hw:L 34 w) :
  CallM Tryz.prog 114 [.loc m 0,I t,I u,I v,I w] (upd O m (some ⟨false,1,163,[zn (a),zm (a),zn (b),zm (b),zn (c),zm (c),zn (p),zm (p),zn (q),zm (q),zn (r),zm (r),zn (s),zm (s)]⟩)) (.t []) (upd O m (some ⟨false,1,163,[zn (vl a b c t v),zm (vl a b c t v),zn (apB a b c t u v w),zm (apB a b c t u v w),zn (vl a b c u w),zm (vl a b c u w),zn (p*t+q*v),zm (p*t+q*v),zn (p*u+q*w),zm (p*u+q*w),zn (r*t+s*v),zm (r*t+s*v),zn (r*u+s*w),zm (r*u+s*w)]⟩)):=CallM.ren1 m (Gi a b c p q r s t u v w ha hb hc hp hq hr hs ht hu hv hw) rfl rfl
theorem jg (a b c:Int) (ha:L 26 a) (hb:L 26 b) (hc:L 26 c) :
  aJ Tryz.prog 41 [FA a b c] (.t [PF (rdF a b c),PM (rdM a b c),PE (rdE a b c)]):=by
 have ia:LB a 26:=⟨ha⟩
 have ib:LB b 26:=⟨hb⟩
 have ic:LB c 26:=⟨hc⟩
 obtain ⟨M,hMa,hMc,hM0,hML⟩:=ha.max2 hc
 refine aO Tryz.func41 rfl rfl rfl rfl ?_
 refine ae hP<|aq ai (aL rfl rfl)<|aq ai (aC hT rfl rfl)<|aq ai (aC hT rfl rfl)<|aj rfl<|ag<|ae hP<|br hT rfl rfl rfl rfl rfl rfl<|ab (ah (nN _ _ _ lz lz lz)) ?_
 refine aj rfl<|ag<|ao<|ae hP<|ak rfl<|ab (bh rfl rfl)<|ak rfl ?_
 refine aW (t:=16) rfl (fun hg1=>?_) (fun hg1=>?_)
 ·have hg1_:=bT hg1
  refine ay hg1 (aF hT rfl rfl rfl rfl (cs:=[_,_,_,_,_,_]) rfl rfl) ?_
  refine ay hg1 (ah (fV _ _ _ lz lz lz)) ?_
  refine ay hg1 (ah (dp _)) ?_
  refine ay hg1 (bK rfl rfl) ?_
  refine ab (aN rfl hg1 (rfl:_=AV.p (.c _)))<|ag ?_
  refine az rfl (fun hb2=>?_) (fun hb2=>?_)
  ·have hb2_:=dT0 hb2
   refine aw hP<|aj rfl<|ag<|ao<|ae hP<|ak rfl<|ab (bq rfl rfl)<|ag<|aV rfl rfl<|ae hP<|ab (a6 hT rfl rfl rfl (es:=[_,_,_,_,_,_]) rfl)<|ab (a6 hT rfl rfl rfl (es:=[_,_,_,_,_,_,_,_]) rfl)<|ak rfl<|aI hT rfl<|aI hT rfl<|aj rfl<|ag<|am ?_
   refine cG rfl (.inr rfl) (aS hT rfl rfl rfl rfl (cs:=[_,_,_,_,_,_]) rfl rfl) (aS hT rfl rfl rfl rfl (cs:=[_,_,_,_,_,_,_,_]) rfl rfl) (bO rfl) ?_ bu
   exact aH (nH (D2 hg1 hb2_) (by decide))
  have hb2_:=dF0 hb2
  refine au<|ao<|ae hP<|ak rfl<|ab (bq rfl rfl)<|ag<|aQ rfl (by rw [bne,hg1];rfl) ?_
  refine au<|ae hP<|ab (ah (eI _ (by first | assumption | decide))) ?_
  refine ab (ah (eI _ (by first | assumption | decide))) ?_
  refine aq ai (aC hT rfl rfl)<|aq ai (aC hT rfl rfl)<|aI hT rfl<|aI hT rfl<|ag<|ae hP<|br hT rfl rfl rfl rfl rfl rfl<|av hT rfl<|av hT rfl<|av hT rfl<|av hT rfl<|ab (a6 hT rfl rfl rfl (es:=[_,_,_,_,_,_,_,_]) rfl)<|ab (a6 hT rfl rfl rfl (es:=[_,_,_,_,_,_,_,_,_,_,_,_,_,_]) rfl)<|aq ai (aL rfl rfl)<|ab (a7 (rfl:_=AV.loc _ _))<|ag<|ao<|aA ?_
  have he0:=D3 hg1 hb2_
  have hp0:=lj he0
  refine bg (ι:=(Fm × Mt) × Nat) (fun i=>stL [(2,.loc 2 0),(3,.loc 3 0),(6,.loc 6 0),(7,.loc 7 0),(8,.loc 36 0)] [(2,⟨false,1,46,FL 0 0 0⟩),(3,⟨false,1,87,ML 0 0 0 0⟩),(6,⟨false,1,29,[zn 1,zm 1]⟩),(7,⟨false,1,29,[zn 0,zm 0]⟩),(36,⟨false,1,163,[zn (i.1.1.a),zm (i.1.1.a),zn (i.1.1.b),zm (i.1.1.b),zn (i.1.1.c),zm (i.1.1.c),zn (i.1.2.a),zm (i.1.2.a),zn (i.1.2.b),zm (i.1.2.b),zn (i.1.2.c),zm (i.1.2.c),zn (i.1.2.d),zm (i.1.2.d)]⟩)]) (fun i=>AM.Good ⟨a,b,c⟩ M i.1∧i.1.1.mu≤i.2∧eW i.2 i.1=eW (Fm.mu ⟨a,b,c⟩) (⟨a,b,c⟩,.one)) (fun i=>i.2) ((⟨a,b,c⟩,.one),Fm.mu ⟨a,b,c⟩) ⟨oU hp0 hMa hMc,Nat.le_refl _,rfl⟩ (aD ⟨.refl _,.refl _,.refl _,.refl _,.refl _,trivial⟩ ⟨rfl,rfl,rfl,rfl,rfl,trivial⟩) ?_
  rintro ⟨s,k⟩ ⟨hG,hk,hR⟩
  have hL:=hG.L hp0 hMa hMc hML
  have i1:LB s.1.a 27:=⟨hL.1.a⟩
  have i2:LB s.1.b 27:=⟨hL.1.b⟩
  have i3:LB s.1.c 27:=⟨hL.1.c⟩
  have i4:LB s.2.a 27:=⟨hL.2.a⟩
  have i5:LB s.2.b 27:=⟨hL.2.b⟩
  have i6:LB s.2.c 27:=⟨hL.2.c⟩
  have i7:LB s.2.d 27:=⟨hL.2.d⟩
  have hs0:2*s.1.a≠0:=by
   have h9:0 < s.1.a:=hG.pos.1
   omega
  have i8:LB s.1.k 28:=⟨by unfold Fm.k;exact lz⟩
  refine ao<|ae hP<|ab (aB (rfl:_=AV.loc _ _))<|ab (cE rfl)<|aG hT rfl<|br hT rfl rfl rfl rfl rfl rfl<|ab (ah (rB _ _ _ lz lz lz)) ?_
  refine ab (bt rfl)<|ag ?_
  refine az rfl (fun hb3=>?_) (fun hb3=>?_)
  ·have hb3_:=(bX hb3)
   refine au<|aA<|ae hP<|ab (aB (rfl:_=AV.loc _ _))<|ab (cE rfl)<|aG hT rfl<|aG hT rfl<|av hT rfl<|ab (aB (rfl:_=AV.loc _ _))<|ab (cE rfl)<|aG hT rfl<|aG hT rfl<|av hT rfl<|ab (ah (ka _ _ lz lz)) ?_
   refine ab (ah (eI _ (by first | assumption | decide))) ?_
   refine ab (aB (rfl:_=AV.loc _ _))<|ab (cE rfl)<|aG hT rfl<|aG hT rfl<|av hT rfl<|ab (bd hT rfl rfl rfl (es:=[_,_,_,_]) rfl rfl rfl)<|ab (ah (db _ _ lz lz)) ?_
   refine ab (ah (dS _ _ lz lz hs0)) ?_
   refine ab (aB (rfl:_=AV.t _))<|ab (aE rfl (v:=.a _) rfl)<|ab (aE rfl (v:=.a _) rfl)<|ab (aE rfl (v:=.c _) rfl)<|aq ai (aC hT rfl rfl)<|aq ai (aC hT rfl rfl)<|aI hT rfl<|aI hT rfl<|aj rfl<|ag<|ae hP<|ab (aB (rfl:_=AV.loc _ _))<|av hT rfl<|av hT rfl<|av hT rfl<|av hT rfl<|RK.mut ai (Eff.call (rd:=[36]) (zx 36 (s.1.a) (s.1.b) (s.1.c) (s.2.a) (s.2.b) (s.2.c) (s.2.d) _ _ _ _ lz lz lz lz lz lz lz lz lz lz lz) (kR rfl) iW) ?_
   refine ag<|ae hP<|ab (aB (rfl:_=AV.loc _ _))<|ab (cE rfl)<|aG hT rfl<|br hT rfl rfl rfl rfl rfl rfl<|ab (ah (rB _ _ _ lz lz lz)) ?_
   refine ab (bt rfl)<|ag ?_
   refine az rfl (fun hb4=>?_) (fun hb4=>?_)
   ·have hb4_:=(bX hb4)
    refine aw hP<|ab (aB (rfl:_=AV.loc _ _))<|av hT rfl<|ab (ah (eI _ (by first | assumption | decide))) ?_
    refine av hT rfl<|av hT rfl<|RK.mut ai (Eff.call (rd:=[36]) (zx 36 (vl s.1.a s.1.b s.1.c 1 0) (apB s.1.a s.1.b s.1.c 1 s.1.k 0 1) (vl s.1.a s.1.b s.1.c s.1.k 1) (s.2.a*1+s.2.b*0) (s.2.a*s.1.k+s.2.b*1) (s.2.c*1+s.2.d*0) (s.2.c*s.1.k+s.2.d*1) _ _ _ _ lz lz lz lz lz lz lz lz lz lz lz) (kR rfl) iW) ?_
    refine ag ?_
    have hx:=nI hG hk hR hb3 (DS hb4)
    refine ⟨(((s.1.app (.T s.1.k)).app .S,(s.2.mul (.T s.1.k)).mul .S),k - 1),hx.1,hx.2,aD ⟨.refl _,.refl _,.refl _,.refl _,.refl _,trivial⟩ ⟨rfl,rfl,rfl,rfl,rfl,trivial⟩⟩
   have hb4_:=(bU hb4)
   refine au ?_
   have hx:=nI hG hk hR hb3 (DR hb4)
   refine ⟨((s.1.app (.T s.1.k),s.2.mul (.T s.1.k)),k - 1),hx.1,hx.2,aD ⟨.refl _,.refl _,.refl _,.refl _,.refl _,trivial⟩ ⟨rfl,rfl,rfl,rfl,rfl,trivial⟩⟩
  have hb3_:=(bU hb3)
  refine aZ<|ae hP<|ab (aB (rfl:_=AV.loc _ _))<|ab (cE rfl)<|aG hT rfl<|br hT rfl rfl rfl rfl rfl rfl<|ab (aB (rfl:_=AV.loc _ _))<|ab (cE rfl)<|aG hT rfl<|ab (aF hT rfl rfl rfl rfl (cs:=[_,_,_,_,_,_,_,_]) rfl rfl)<|aI hT rfl<|aI hT rfl<|aj rfl<|ag<|am ?_
  refine cG rfl (.inr rfl) (aS hT rfl rfl rfl rfl (cs:=[_,_,_,_,_,_]) rfl rfl) (aS hT rfl rfl rfl rfl (cs:=[_,_,_,_,_,_,_,_]) rfl rfl) (bO rfl) ?_ bu
  exact aH (zh he0 (v8 hR hb3))
 have hg1_:=bF hg1
 iterate 4 refine aX hg1 ?_
 refine ab (aK rfl hg1 (rfl:_=AV.p (.c _)))<|ag<|aQ rfl rfl<|au<|ao<|ae hP<|ak rfl<|ab (bq rfl rfl)<|ag<|aV rfl (by rw [bne,hg1];rfl) ?_
 refine ae hP<|ab (a6 hT rfl rfl rfl (es:=[_,_,_,_,_,_]) rfl)<|ab (a6 hT rfl rfl rfl (es:=[_,_,_,_,_,_,_,_]) rfl)<|ak rfl<|aI hT rfl<|aI hT rfl<|aj rfl<|ag<|am ?_
 refine cG rfl (.inr rfl) (aS hT rfl rfl rfl rfl (cs:=[_,_,_,_,_,_]) rfl rfl) (aS hT rfl rfl rfl rfl (cs:=[_,_,_,_,_,_,_,_]) rfl rfl) (bO rfl) ?_ bu
 exact aH (nH (zi hg1).1 (fun e=>by rw [e] at hg1;cases hg1))
theorem Js (a b c p q r:Int) (ha:L 26 a) (hb:L 26 b) (hc:L 26 c) (hp:L 26 p) (hq:L 26 q) (hr:L 26 r) :
  aJ Tryz.prog 133 [FA a b c,FA p q r] (.t [PM (smM a b c p q r),PB (smB a b c p q r)]):=by
 have ia:LB a 26:=⟨ha⟩
 have ib:LB b 26:=⟨hb⟩
 have ic:LB c 26:=⟨hc⟩
 have ip:LB p 26:=⟨hp⟩
 have iq:LB q 26:=⟨hq⟩
 have ir:LB r 26:=⟨hr⟩
 refine aO Tryz.func133 rfl rfl rfl rfl ?_
 refine ae hP<|aq ai (aL rfl rfl)<|aq ai (aL rfl rfl)<|aq ai (aC hT rfl rfl)<|aj rfl<|ag<|ae hP<|br hT rfl rfl rfl rfl rfl rfl<|ab (ah (jg _ _ _ lz lz lz)) ?_
 refine ab (aB (rfl:_=AV.t _))<|ab (aE rfl (v:=.a _) rfl)<|ab (aE rfl (v:=.a _) rfl)<|ab (aE rfl (v:=.c _) rfl)<|aq ai (aC hT rfl rfl)<|aq ai (aC hT rfl rfl)<|aI hT rfl<|aI hT rfl<|aj rfl<|ag<|ae hP<|br hT rfl rfl rfl rfl rfl rfl<|ab (ah (jg _ _ _ lz lz lz)) ?_
 refine ab (aB (rfl:_=AV.t _))<|ab (aE rfl (v:=.a _) rfl)<|ab (aE rfl (v:=.a _) rfl)<|ab (aE rfl (v:=.c _) rfl)<|aq ai (aC hT rfl rfl)<|aq ai (aC hT rfl rfl)<|aI hT rfl<|aI hT rfl<|aj rfl<|ag<|ao<|ae hP<|ak rfl<|ab (bq rfl rfl)<|ak rfl ?_
 refine aW (t:=27) rfl (fun hg1=>?_) (fun hg1=>?_)
 ·have hg1_:=bY hg1
  refine aX hg1 ?_
  refine aX hg1 ?_
  refine ab (aN rfl hg1 (rfl:_=AV.p (.c _)))<|ak rfl<|aX rfl ?_
  iterate 5 refine aX rfl ?_
  refine ab (aN rfl rfl (rfl:_=AV.p (.c _)))<|ak rfl<|aX rfl ?_
  iterate 5 refine aX rfl ?_
  refine ab (aN rfl rfl (rfl:_=AV.p (.c _)))<|ak rfl<|aX rfl ?_
  iterate 5 refine aX rfl ?_
  refine ab (aN rfl rfl (rfl:_=AV.p (.c _)))<|ag<|aV rfl rfl<|ae hP<|ab (a6 hT rfl rfl rfl (es:=[_,_,_,_,_,_,_,_]) rfl)<|aI hT rfl<|aj rfl<|ag<|am ?_
  refine cz rfl (.inr rfl) (aS hT rfl rfl rfl rfl (cs:=[_,_,_,_,_,_,_,_]) rfl rfl) (bO rfl) ?_ bu
  exact aH (pn (fun x=>hg1_ x.1))
 have hg1_:=bS hg1
 refine ay hg1 (aB (rfl:_=AV.p (.c _))) ?_
 refine ay hg1 (bq rfl rfl) ?_
 refine ab (aK rfl hg1 (rfl:_=AV.p (.c _)))<|ak rfl ?_
 refine aW (t:=31) rfl (fun hg2=>?_) (fun hg2=>?_)
 ·have hg2_:=bY hg2
  iterate 6 refine aX hg2 ?_
  refine ab (aN rfl hg2 (rfl:_=AV.p (.c _)))<|ak rfl<|aX rfl ?_
  iterate 5 refine aX rfl ?_
  refine ab (aN rfl rfl (rfl:_=AV.p (.c _)))<|ak rfl<|aX rfl ?_
  iterate 5 refine aX rfl ?_
  refine ab (aN rfl rfl (rfl:_=AV.p (.c _)))<|ag<|aV rfl rfl<|ae hP<|ab (a6 hT rfl rfl rfl (es:=[_,_,_,_,_,_,_,_]) rfl)<|aI hT rfl<|aj rfl<|ag<|am ?_
  refine cz rfl (.inr rfl) (aS hT rfl rfl rfl rfl (cs:=[_,_,_,_,_,_,_,_]) rfl rfl) (bO rfl) ?_ bu
  exact aH (pn (fun x=>hg2_ x.2.1))
 have hg2_:=bS hg2
 refine ay hg2 (aP hT rfl rfl rfl rfl rfl rfl) ?_
 refine ay hg2 (aF hT rfl rfl rfl rfl (cs:=[_,_]) rfl rfl) ?_
 refine ay hg2 (aP hT rfl rfl rfl rfl rfl rfl) ?_
 refine ay hg2 (aF hT rfl rfl rfl rfl (cs:=[_,_]) rfl rfl) ?_
 refine ay hg2 (ah (dL _ _)) ?_
 refine ay hg2 (bq rfl rfl) ?_
 refine ab (aK rfl hg2 (rfl:_=AV.p (.c _)))<|ak rfl ?_
 refine aW (t:=39) rfl (fun hg3=>?_) (fun hg3=>?_)
 ·have hg3_:=bY hg3
  iterate 6 refine aX hg3 ?_
  refine ab (aN rfl hg3 (rfl:_=AV.p (.c _)))<|ak rfl<|aX rfl ?_
  iterate 5 refine aX rfl ?_
  refine ab (aN rfl rfl (rfl:_=AV.p (.c _)))<|ag<|aV rfl rfl<|ae hP<|ab (a6 hT rfl rfl rfl (es:=[_,_,_,_,_,_,_,_]) rfl)<|aI hT rfl<|aj rfl<|ag<|am ?_
  refine cz rfl (.inr rfl) (aS hT rfl rfl rfl rfl (cs:=[_,_,_,_,_,_,_,_]) rfl rfl) (bO rfl) ?_ bu
  exact aH (pn (fun x=>uY hg3 (congrArg Fm.a x.2.2)))
 have hg3_:=bS hg3
 refine ay hg3 (aP hT rfl rfl rfl rfl rfl rfl) ?_
 refine ay hg3 (aF hT rfl rfl rfl rfl (cs:=[_,_]) rfl rfl) ?_
 refine ay hg3 (aP hT rfl rfl rfl rfl rfl rfl) ?_
 refine ay hg3 (aF hT rfl rfl rfl rfl (cs:=[_,_]) rfl rfl) ?_
 refine ay hg3 (ah (dL _ _)) ?_
 refine ay hg3 (bq rfl rfl) ?_
 refine ab (aK rfl hg3 (rfl:_=AV.p (.c _)))<|ak rfl ?_
 refine aW (t:=47) rfl (fun hg4=>?_) (fun hg4=>?_)
 ·have hg4_:=bY hg4
  iterate 6 refine aX hg4 ?_
  refine ab (aN rfl hg4 (rfl:_=AV.p (.c _)))<|ag<|aV rfl rfl<|ae hP<|ab (a6 hT rfl rfl rfl (es:=[_,_,_,_,_,_,_,_]) rfl)<|aI hT rfl<|aj rfl<|ag<|am ?_
  refine cz rfl (.inr rfl) (aS hT rfl rfl rfl rfl (cs:=[_,_,_,_,_,_,_,_]) rfl rfl) (bO rfl) ?_ bu
  exact aH (pn (fun x=>uY hg4 (congrArg Fm.b x.2.2)))
 have hg4_:=bS hg4
 refine ay hg4 (aP hT rfl rfl rfl rfl rfl rfl) ?_
 refine ay hg4 (aF hT rfl rfl rfl rfl (cs:=[_,_]) rfl rfl) ?_
 refine ay hg4 (aP hT rfl rfl rfl rfl rfl rfl) ?_
 refine ay hg4 (aF hT rfl rfl rfl rfl (cs:=[_,_]) rfl rfl) ?_
 refine ay hg4 (ah (dL _ _)) ?_
 refine ay hg4 (bq rfl rfl) ?_
 refine ab (aK rfl hg4 (rfl:_=AV.p (.c _)))<|ag ?_
 refine az rfl (fun hb5=>?_) (fun hb5=>?_)
 ·have hb5_:=bY hb5
  refine ae hP<|ab (a6 hT rfl rfl rfl (es:=[_,_,_,_,_,_,_,_]) rfl)<|aI hT rfl<|aj rfl<|ag<|am ?_
  refine cz rfl (.inr rfl) (aS hT rfl rfl rfl rfl (cs:=[_,_,_,_,_,_,_,_]) rfl rfl) (bO rfl) ?_ bu
  exact aH (pn (fun x=>uY hb5 (congrArg Fm.c x.2.2)))
 have hb5_:=bS hb5
 refine au<|ae hP<|aG hT rfl<|av hT rfl<|aG hT rfl<|av hT rfl<|ab (ah (jr _)) ?_
 refine aG hT rfl<|av hT rfl<|ab (ah (jr _)) ?_
 refine aG hT rfl<|av hT rfl<|ab (a6 hT rfl rfl rfl (es:=[_,_,_,_,_,_,_,_]) rfl)<|aq ai (aC hT rfl rfl)<|aI hT rfl<|ag<|ae hP<|ab (aF hT rfl rfl rfl rfl (cs:=[_,_,_,_,_,_,_,_]) rfl rfl)<|ab (aF hT rfl rfl rfl rfl (cs:=[_,_,_,_,_,_,_,_]) rfl rfl)<|ab (ah (wn _ _ _ _ _ _ _ _ lz lz lz lz lz lz lz lz)) ?_
 refine aI hT rfl<|aj rfl<|ag<|am ?_
 refine cz rfl (.inr rfl) (aS hT rfl rfl rfl rfl (cs:=[_,_,_,_,_,_,_,_]) rfl rfl) (bO rfl) ?_ bu
 exact aH (IU hg1 hg2 hg3 hg4 hb5)
end
section
open Go Go.AM
theorem BE (zs:List Nat) (hz:zs.length≤1000000) :
  Iter Tryz.prog 211 [[W zs]] (bkL zs):=by
 refine G1 Tryz.func211 (by kernel_rfl) rfl rfl (bL0 rfl) rfl ?_
 intro l n0 J hK
 refine nv ?_
 refine nw hP ?_
 refine cH hT rfl rfl rfl ?_
 refine ab (aU hT rfl rfl rfl (l:=zs.length) rfl) ?_
 refine ab (bD rfl rfl (by first | exact iW0 _ (by omega) | rfl)) ?_
 refine aj rfl<|ag<|vk ?_
 refine HQ (ι:=Nat) (fun k=>stL [(0,.p (.c (.v (.func (.yield l) #[] #[])))),(1,.ip [W zs]),(3,Z ((zs.length:Int) - 1 - (k:Int)))] []) (fun k=>k) (fun k=>k≤zs.length) (fun k=>zs.length - k) 0 (Nat.zero_le _) rfl (aD ⟨.refl _,.refl _,aM (by simp),trivial⟩ trivial) ?_
 intro k hk
 refine nv ?_
 refine nv ?_
 refine nw hP ?_
 refine ak rfl<|ab (dm rfl rfl)<|ag ?_
 refine xf rfl (fun hb1=>?_) (fun hb1=>?_)
 ·have hb1_:=dT0 hb1
  refine xe ?_
  refine nv ?_
  refine vk ?_
  refine nv ?_
  refine yP ?_
  refine RJ.val ai (aB (rfl:_=AV.p (.c _))) ?_
  refine RJ.val ai (aB (rfl:_=AV.p (.c _))) ?_
  refine RJ.val ai (bI hT rfl rfl rfl (by first | rfl | exact kN (by omega))) ?_
  refine RJ.val ai (aB (rfl:_=AV.p (.c _))) ?_
  refine RJ.val ai (b6 hT (l:=zs.length) (n:=((zs.length:Int) - 1 - (k:Int))) rfl rfl rfl rfl rfl rfl (by omega) (gB (by omega))) ?_
  refine RJ.val ai (bI hT rfl rfl rfl (dv:=w32 (zs.getD (zs.length - 1 - k) 0)) (by show ((zs.map w32).drop ((((zs.length:Int) - 1 - (k:Int))).toNat*1))[0]?=_;rw [show (((zs.length:Int) - 1 - (k:Int))).toNat=zs.length - 1 - k by omega];exact kN (by omega))) ?_
  refine RJ.yield hK ai rfl rfl (AA (by omega)) ?_
  refine RJ.val ai (bt rfl) ?_
  refine RJ.done ?_
  refine sx rfl rfl ?_
  refine xe ?_
  refine nw hP ?_
  refine ak rfl<|ab (bD rfl rfl (by first | exact iW0 _ (by omega) | rfl)) ?_
  refine aj rfl<|ag ?_
  refine ⟨k+1,by omega,by omega,rfl,aD ⟨.refl _,.refl _,aM (by omega),trivial⟩ trivial⟩
 have hb1_:=dF0 hb1
 refine HS ?_
 refine ⟨.inl rfl,?_⟩
 exact (q9 zs).symm ▸ (by omega)
theorem FF (zs:List Nat) :
  aJ Tryz.prog 177 [.p (.c (W zs))] (.fn 211 [[W zs]]):=by
 refine mp Tryz.func177 (by kernel_rfl) rfl rfl (bL0 rfl) rfl ?_
 refine ae hP<|aq ai (aL rfl rfl)<|aj rfl<|ag<|cT (t:=1) rfl rfl ?_
 refine ae hP<|ab (ou rfl)<|ab (a7 (rfl:_=AV.fn _ _))<|ag<|am ?_
 exact ⟨.inr rfl,2,rfl,rfl⟩
theorem uu (x:Int) (hx:x.natAbs < 18446744073709551616) :
  aJ Tryz.prog 125 [I x] (.t [PE (lwV x),PB (lwO x)]):=by
 have hlen:(wl x.natAbs).length≤2:=fT (k:=2) (by omega)
 have hok:=bG x.natAbs
 refine aO Tryz.func125 rfl rfl rfl rfl ?_
 refine ae hP<|aq ai (aL rfl rfl)<|aj rfl<|aj rfl<|ag<|ao<|ae hP<|aG hT rfl<|a8 hT rfl rfl rfl rfl ?_
 refine ab (aU hT rfl rfl rfl (l:=(wl x.natAbs).length) rfl) ?_
 refine ab (bK rfl rfl)<|ag<|aQ rfl (decide_eq_false (by omega)) ?_
 refine au<|ae hP<|aq ai (aC hT rfl rfl)<|ag<|ao<|ae hP<|aG hT rfl<|a8 hT rfl rfl rfl rfl ?_
 refine ab (ah (FF (wl x.natAbs))) ?_
 refine ag<|aA<|dq (t:=stL [(1,.loc 1 0),(4,.loc 4 0),(14,.fn 211 [[W (wl x.natAbs)]])] [(1,⟨false,1,29,[zn x,zm x]⟩),(4,⟨false,1,103,[.v (.int .u64 ((lwA (wl x.natAbs) 0:Nat):Int))]⟩)]) (aD ⟨.refl _,.refl _,.refl _,trivial⟩ ⟨rfl,by rw [yg];rfl,trivial⟩) ?_
 refine AX 5 (fun k=>cU [(1,⟨false,1,29,[zn x,zm x]⟩),(4,⟨false,1,103,[.v (.int .u64 ((lwA (wl x.natAbs) k:Nat):Int))]⟩)]) rfl (BE (wl x.natAbs) (by omega)) (HC _) rfl rfl rfl (fun k xx hxx=>?_) ?_
 ·obtain ⟨hk,rfl⟩:=HD hxx
  have hv:=Mb hok hlen hk
  have hw:=hok.getD ((wl x.natAbs).length - 1 - k)
  refine aw hP<|aj rfl<|ag<|aA<|aw hP<|a8 hT rfl rfl rfl rfl ?_
  refine ab (lq rfl rfl (by decide) (c:=((lwA (wl x.natAbs) k*4294967296:Nat):Int)) (by rw [show (2:Int) ^ (min (32:Int).toNat IntKind.u64.bits)=4294967296 from rfl,IntWalk.u64_in _ (by omega)];omega)) ?_
  refine ak rfl<|ab (bl hT rfl rfl rfl rfl (IntWalk.u64_in _ (by omega))) ?_
  refine ab (jX rfl rfl (Nm hv hw)) ?_
  refine aI hT rfl<|ag ?_
  refine ⟨rfl,GW.forget_as (congrArg (fun y=>cU [(1,⟨false,1,29,[zn x,zm x]⟩),(4,⟨false,1,103,[.v (.int .u64 ((y:Nat):Int))]⟩)]) (uh hk).symm) (SubO.own ⟨rfl,rfl,trivial⟩)⟩
 rw [q9,GN,bH]
 refine ae hP<|a8 hT rfl rfl rfl rfl ?_
 refine ab (bl hT rfl rfl rfl rfl (IR hx)) ?_
 refine aj rfl<|ag<|ao<|ae hP<|aG hT rfl<|a8 hT rfl rfl rfl rfl ?_
 refine ag ?_
 refine az rfl (fun hb1=>?_) (fun hb1=>?_)
 ·have hn:x < 0:=dT0 hb1
  refine aw hP<|ak rfl<|ab (ew rfl (HV hn)) ?_
  refine aj rfl<|ag<|ao<|ae hP<|ak rfl<|ab (bq rfl rfl)<|ak rfl ?_
  refine aW (t:=30) rfl (fun hg2=>?_) (fun hg2=>?_)
  ·have hg2_:=bY hg2
   refine ay hg2 (aP hT rfl rfl rfl rfl rfl rfl) ?_
   refine ay hg2 (bC hT rfl rfl rfl rfl (by first | rfl | exact dw (by omega))) ?_
   refine ay hg2 (aB (rfl:_=AV.p (.c _))) ?_
   refine ay hg2 (bi rfl rfl) ?_
   refine ay hg2 (gE hT rfl rfl rfl rfl) ?_
   refine ab (aN rfl hg2 (rfl:_=AV.p (.c _)))<|ag ?_
   refine az rfl (fun hb3=>?_) (fun hb3=>?_)
   ·refine ae hP<|aj rfl<|aj rfl<|ag<|am<|E11 rfl rfl rfl ?_
    exact aH (wJ hx (by assumption))
   refine au<|ae hP<|ak rfl<|aj rfl<|aj rfl<|ag<|am<|E11 rfl rfl rfl ?_
   exact aH (ui hx (by assumption))
  have hg2_:=bS hg2
  iterate 5 refine aX hg2 ?_
  refine ab (aK rfl hg2 (rfl:_=AV.p (.c _)))<|ag<|aQ rfl rfl<|au<|ae hP<|ak rfl<|aj rfl<|aj rfl<|ag<|am<|E11 rfl rfl rfl ?_
  exact aH (rU hx (by assumption))
 have hn:¬ x < 0:=dF0 hb1
 rw [HU hn]
 refine au<|ao<|ae hP<|ak rfl<|ab (bq rfl rfl)<|ak rfl ?_
 refine aW (t:=30) rfl (fun hg4=>?_) (fun hg4=>?_)
 ·have hg4_:=bY hg4
  refine ay hg4 (aP hT rfl rfl rfl rfl rfl rfl) ?_
  refine ay hg4 (bC hT rfl rfl rfl rfl (by first | rfl | exact dw (by omega))) ?_
  refine ay hg4 (aB (rfl:_=AV.p (.c _))) ?_
  refine ay hg4 (bi rfl rfl) ?_
  refine ay hg4 (gE hT rfl rfl rfl rfl) ?_
  refine ab (aN rfl hg4 (rfl:_=AV.p (.c _)))<|ag ?_
  refine az rfl (fun hb5=>?_) (fun hb5=>?_)
  ·refine ae hP<|aj rfl<|aj rfl<|ag<|am<|E11 rfl rfl rfl ?_
   exact aH (wJ hx (by assumption))
  refine au<|ae hP<|ak rfl<|aj rfl<|aj rfl<|ag<|am<|E11 rfl rfl rfl ?_
  exact aH (ui hx (by assumption))
 have hg4_:=bS hg4
 iterate 5 refine aX hg4 ?_
 refine ab (aK rfl hg4 (rfl:_=AV.p (.c _)))<|ag<|aQ rfl rfl<|au<|ae hP<|ak rfl<|aj rfl<|aj rfl<|ag<|am<|E11 rfl rfl rfl ?_
 exact aH (rU hx (by assumption))
theorem Eh {x:Int} (h1:-9223372036854775808 < x) (h2:x < 9223372036854775808):AV.t [PE (lwV x),PB (lwO x)]=.t [PE x,PB true]:=by
 have e:lwO x=true:=decide_eq_true ⟨by omega,h2⟩
 unfold lwV;rw [e];rfl
theorem kb (x:Int) (h1:-9223372036854775808 < x) (h2:x < 9223372036854775808):aJ Tryz.prog 125 [I x] (.t [.c (.v (.int .i64 x)),PB true]):=Eh h1 h2 ▸ uu x (by omega)
end
section
open Go Go.AM
theorem om (d:Int) (hd:L 40 d) :
  aJ Tryz.prog 54 [I d] (.t [PF (prF d),PE (prE d)]):=by
 have id:LB d 40:=⟨hd⟩
 have h4a:=Int.emod_nonneg d (show (4:Int)≠0 by decide)
 have h4b:=Int.emod_lt_of_pos d (show (0:Int) < 4 by decide)
 refine aO Tryz.func54 rfl rfl rfl rfl ?_
 refine ae hP<|aq ai (aL rfl rfl)<|aq ai (aC hT rfl rfl)<|aj rfl<|ag<|ae hP<|av hT rfl<|ab (ah (eI _ (by first | assumption | decide))) ?_
 refine ab (ah (dS _ 4 lz lz (by decide))) ?_
 refine ab (aB (rfl:_=AV.t _))<|ab (aE rfl (v:=.a _) rfl)<|ab (aE rfl (v:=.a _) rfl)<|ab (aE rfl (v:=.c _) rfl)<|aq ai (aC hT rfl rfl)<|aq ai (aC hT rfl rfl)<|aI hT rfl<|aI hT rfl<|aj rfl<|ag<|ae hP<|av hT rfl<|ab (ah (kb (d % 4) (by omega) (by omega))) ?_
 refine ab (aB (rfl:_=AV.t _))<|ab (aE rfl (v:=.c _) rfl)<|ab (aE rfl (v:=.c _) rfl)<|aj rfl<|aj rfl<|ag<|ao<|ae hP<|ak rfl<|ab (bt rfl)<|ak rfl<|ay rfl (aB (rfl:_=AV.p (.c _))) ?_
 refine ay rfl (bK rfl rfl) ?_
 refine ab (aK rfl rfl (rfl:_=AV.p (.c _)))<|ak rfl ?_
 refine aW (t:=27) rfl (fun hg2=>?_) (fun hg2=>?_)
 ·have hg2_:=dT0 hg2
  refine aX hg2 ?_
  refine aX hg2 ?_
  refine ab (aN rfl hg2 (rfl:_=AV.p (.c _)))<|ag<|aV rfl rfl<|ae hP<|ab (a6 hT rfl rfl rfl (es:=[_,_,_,_,_,_]) rfl)<|aI hT rfl<|aj rfl<|ag<|am ?_
  refine cz rfl (.inr rfl) (aS hT rfl rfl rfl rfl (cs:=[_,_,_,_,_,_]) rfl rfl) (bO rfl) ?_ bu
  exact aH (D8 (.inl hg2_))
 have hg2_:=dF0 hg2
 refine ay hg2 (aF hT rfl rfl rfl rfl (cs:=[_,_]) rfl rfl) ?_
 refine ay hg2 (ah (pM _ lz)) ?_
 refine ab (aK rfl hg2 (rfl:_=AV.p (.c _)))<|ag ?_
 refine az rfl (fun hb3=>?_) (fun hb3=>?_)
 ·refine ae hP<|ab (a6 hT rfl rfl rfl (es:=[_,_,_,_,_,_]) rfl)<|aI hT rfl<|aj rfl<|ag<|am ?_
  refine cz rfl (.inr rfl) (aS hT rfl rfl rfl rfl (cs:=[_,_,_,_,_,_]) rfl rfl) (bO rfl) ?_ bu
  exact aH (D8 (.inr hb3))
 refine au<|ae hP<|ab (ah (eI _ (by first | assumption | decide))) ?_
 refine av hT rfl<|av hT rfl<|ab (ah (jr _)) ?_
 refine ab (a6 hT rfl rfl rfl (es:=[_,_,_,_,_,_]) rfl)<|aI hT rfl<|aj rfl<|ag<|am ?_
 refine cz rfl (.inr rfl) (aS hT rfl rfl rfl rfl (cs:=[_,_,_,_,_,_]) rfl rfl) (bO rfl) ?_ bu
 exact aH (Jw hg2_ hb3)
theorem Jd (ws:List Nat) (hok:okW ws) :
  aJ Tryz.prog 121 [.p (.c (W ws))] (.p (.c (nt (wv ws)))):=by
 refine aO Tryz.func121 rfl rfl rfl rfl ?_
 refine jw (t:=0) rfl rfl (fun hlen=>?_)
 refine ae hP<|aj rfl<|ag<|ao<|aA<|bg (ι:=List Nat) (fun l=>stL [(0,.p (.c (W l)))] []) (fun l=>okW l∧wv l=wv ws∧l.length≤140737488355328) (fun l=>l.length) ws ⟨hok,rfl,hlen⟩ (aD ⟨.refl _,trivial⟩ trivial) ?_
 rintro l ⟨hl,hv,hn⟩
 refine ao<|ae hP<|ak rfl<|ab (aU hT rfl rfl rfl rfl)<|ab (bK rfl rfl)<|ak rfl ?_
 refine aW (t:=6) rfl (fun hg1=>?_) (fun hg1=>?_)
 ·have hg1_:=dT0 hg1
  refine ay hg1 (aB (rfl:_=AV.p (.c _))) ?_
  refine ay hg1 (aB (rfl:_=AV.p (.c _))) ?_
  refine ay hg1 (aU hT rfl rfl rfl rfl) ?_
  refine ay hg1 (bD rfl rfl (by first | exact iW0 _ (by omega) | rfl)) ?_
  refine ay hg1 (by first | exact en hT rfl rfl rfl rfl rfl rfl (by omega) | exact b6 hT rfl rfl rfl rfl rfl rfl (by omega) (by first | exact gB (by omega) | simp)) ?_
  refine ay hg1 (bI hT rfl rfl rfl (by first | rfl | exact kN (by omega))) ?_
  refine ay hg1 (bh rfl rfl) ?_
  refine ab (aN rfl hg1 (rfl:_=AV.p (.c _)))<|ag ?_
  refine az rfl (fun hb2=>?_) (fun hb2=>?_)
  ·have hb2_:=bT hb2
   refine au<|aA<|aw hP<|ak rfl<|ak rfl<|ab (aU hT rfl rfl rfl rfl)<|ab (bD rfl rfl (by first | exact iW0 _ (by omega) | rfl)) ?_
   refine ab (kU hT rfl rfl rfl rfl rfl rfl (by omega)) ?_
   refine aj rfl<|ag ?_
   have e:((l.length:Int) - 1).toNat=l.length - 1:=by omega
   refine ⟨l.take (l.length - 1),⟨hl.take _,?_,?_⟩,?_,aD ⟨aH ?_,trivial⟩ trivial⟩
   ·rw [sQ (by omega) (by rw [← e];omega),hv]
   ·rw [List.length_take];omega
   ·rw [List.length_take];omega
   show AV.p (.c (W (l.take ((l.length:Int) - 1).toNat)))=_
   rw [e]
  have hb2_:=bF hb2
  refine aZ<|ae hP<|ak rfl<|aj rfl<|ag<|am<|E1 rfl rfl ?_
  have e:((l.length:Int) - 1).toNat=l.length - 1:=by omega
  refine aH ?_
  rw [← hv,sE hl (.inr (by rw [← e];omega))]
 have hg1_:=dF0 hg1
 iterate 7 refine aX hg1 ?_
 refine ab (aK rfl hg1 (rfl:_=AV.p (.c _)))<|ag<|aQ rfl rfl<|aZ<|ae hP<|ak rfl<|aj rfl<|ag<|am<|E1 rfl rfl ?_
 refine aH ?_
 rw [← hv,sE hl (.inl (by omega))]
theorem fU (neg:Bool) (ws:List Nat) (h:okW ws) :
  aJ Tryz.prog 51 [B neg,.p (.c (W ws))] (I (sg neg (wv ws))):=by
 refine aO Tryz.func51 rfl rfl rfl rfl ?_
 refine ae hP<|aq ai (aC hT rfl rfl)<|ag<|ae hP<|ak rfl<|ab (ah (Jd _ h)) ?_
 refine aj rfl<|ag<|ao<|ae hP<|ak rfl<|ab (aU hT rfl rfl rfl rfl)<|ab (bh rfl rfl)<|ag ?_
 refine az rfl (fun hb1=>?_) (fun hb1=>?_)
 ·have hb1_:=bT hb1
  refine ae hP<|ab (a6 hT rfl rfl rfl (es:=[_,_]) rfl)<|aI hT rfl<|ag<|am<|E2 hT rfl rfl rfl rfl rfl rfl rfl ?_
  have h0:wv ws=0:=nA (by omega)
  rw [h0,vW]
  exact .refl _
 have hb1_:=bF hb1
 refine au<|ae hP<|ak rfl<|ak rfl<|ab (a6 hT rfl rfl rfl (es:=[_,_]) rfl)<|aI hT rfl<|ag<|am<|E2 hT rfl rfl rfl rfl rfl rfl rfl ?_
 have h0:0 < wv ws:=by
  rcases Nat.eq_zero_or_pos (wv ws) with e | e
  ·rw [e] at hb1_;exact absurd rfl hb1_
  exact e
 exact aH (by show _=AV.p (.a [zn _,zm _]);rw [Df h0,Dg])
theorem dH (ws:List Nat) (i:Int) (hok:okW ws) :
  aJ Tryz.prog 197 [.p (.c (W ws)),Z i] (.p (.c (.v (.int .u64 ((wd ws i:Nat):Int))))):=by
 refine aO Tryz.func197 rfl rfl rfl rfl ?_
 refine ae hP<|aj rfl<|ag<|ao<|ae hP<|ak rfl<|ab (bi rfl rfl)<|ak rfl ?_
 refine aW (t:=7) rfl (fun hg1=>?_) (fun hg1=>?_)
 ·have hg1_:=dT0 hg1
  iterate 4 refine aX hg1 ?_
  refine ab (aN rfl hg1 (rfl:_=AV.p (.c _)))<|ag<|aV rfl rfl<|ae hP<|aj rfl<|ag<|am<|E1 rfl rfl ?_
  exact aM (by rw [ph (.inl hg1_)];rfl)
 have hg1_:=dF0 hg1
 have hi0:=dF0 hg1
 refine ay hg1 (aB (rfl:_=AV.p (.c _))) ?_
 refine ay hg1 (aB (rfl:_=AV.p (.c _))) ?_
 refine ay hg1 (aU hT rfl rfl rfl rfl) ?_
 refine ay hg1 (dm rfl rfl) ?_
 refine ab (aK rfl hg1 (rfl:_=AV.p (.c _)))<|ag ?_
 refine az rfl (fun hb2=>?_) (fun hb2=>?_)
 ·have hb2_:=dT0 hb2
  refine ae hP<|aj rfl<|ag<|am<|E1 rfl rfl ?_
  exact aM (by rw [ph (.inr hb2_)];rfl)
 have hb2_:=dF0 hb2
 refine au<|ae hP<|ak rfl<|ak rfl<|cK ?_
 refine cH hT rfl rfl rfl ?_
 refine ab (bl hT rfl rfl rfl rfl (IntWalk.u64_in _ (by have:=hok.getD i.toNat;omega))) ?_
 refine aj rfl<|ag<|am<|E1 rfl rfl ?_
 exact aM (by rw [Dh (by omega)])
theorem cg (z:Int) (hz:bp z) :
  aJ Tryz.prog 10 [.p (.c (.v (.int .i64 z)))] (I z):=by
 have hz1:z.natAbs < 18446744073709551616:=by unfold bp at hz;omega
 refine aO Tryz.func10 rfl rfl rfl rfl ?_
 refine ae hP<|aq ai (aC hT rfl rfl)<|ag<|ae hP<|ak rfl<|ab (bl hT rfl rfl rfl rfl xi) ?_
 refine aj rfl<|ag<|ao<|ae hP<|ak rfl<|ab (bi rfl rfl)<|ag ?_
 refine az rfl (fun hb1=>?_) (fun hb1=>?_)
 ·have hb1_:=dT0 hb1
  refine aw hP<|ak rfl<|ab (ew rfl (A4 hz hb1_)) ?_
  refine aj rfl<|ag<|ae hP<|ak rfl<|ab (bi rfl rfl)<|ak rfl<|ab (bl hT rfl rfl rfl rfl (c:=((z.natAbs % 4294967296:Nat):Int)) (by first | exact eD _ | exact Ec hz hb1_)) ?_
  refine ak rfl<|ab (dh (j:=32) rfl rfl (by decide)) ?_
  refine ab (bl hT rfl rfl rfl rfl (c:=((z.natAbs / 2 ^ 32:Nat):Int)) (by first | exact zG hz | exact Ed hz hb1_)) ?_
  refine ab (bd hT rfl rfl rfl (es:=[_,_]) rfl rfl rfl)<|ab (ah (fU _ [z.natAbs % 4294967296,z.natAbs / 2 ^ 32] (qB (by omega)))) ?_
  refine aI hT rfl<|ag<|am<|E2 hT rfl rfl rfl rfl rfl rfl rfl ?_
  exact Sub.I (by rw [sP];exact xX)
 have hb1_:=dF0 hb1
 refine au<|ae hP<|ak rfl<|ab (bi rfl rfl)<|ak rfl<|ab (bl hT rfl rfl rfl rfl (c:=((z.natAbs % 4294967296:Nat):Int)) (by first | exact eD _ | exact Ec hz hb1_)) ?_
 refine ak rfl<|ab (dh (j:=32) rfl rfl (by decide)) ?_
 refine ab (bl hT rfl rfl rfl rfl (c:=((z.natAbs / 2 ^ 32:Nat):Int)) (by first | exact zG hz | exact Ed hz hb1_)) ?_
 refine ab (bd hT rfl rfl rfl (es:=[_,_]) rfl rfl rfl)<|ab (ah (fU _ [z.natAbs % 4294967296,z.natAbs / 2 ^ 32] (qB (by omega)))) ?_
 refine aI hT rfl<|ag<|am<|E2 hT rfl rfl rfl rfl rfl rfl rfl ?_
 exact Sub.I (by rw [sP];exact xX)
theorem LR (x:Int) :
  aJ Tryz.prog 174 [I x] (I (-x)):=by
 refine aO Tryz.func174 rfl rfl rfl rfl ?_
 refine ae hP<|aq ai (aL rfl rfl)<|aq ai (aC hT rfl rfl)<|ag<|ae hP<|aG hT rfl<|a8 hT rfl rfl rfl rfl ?_
 refine ab (bt rfl)<|aG hT rfl<|a8 hT rfl rfl rfl rfl ?_
 refine ab (ah (fU _ (wl x.natAbs) (bG _))) ?_
 refine aI hT rfl<|ag<|am<|E2 hT rfl rfl rfl rfl rfl rfl rfl ?_
 exact Sub.I (zK x)
theorem nM (x:Int) :
  aJ Tryz.prog 191 [I x] (I x.natAbs):=by
 refine aO Tryz.func191 rfl rfl rfl rfl ?_
 refine ae hP<|aq ai (aL rfl rfl)<|aq ai (aC hT rfl rfl)<|ag<|ae hP<|aG hT rfl<|a8 hT rfl rfl rfl rfl ?_
 refine ab (ah (fU _ (wl x.natAbs) (bG _))) ?_
 refine aI hT rfl<|ag<|am<|E2 hT rfl rfl rfl rfl rfl rfl rfl ?_
 exact Sub.I (AQ x)
theorem eF (x:Int) :
  aJ Tryz.prog 86 [I x] (Z (sgn x)):=by
 refine aO Tryz.func86 rfl rfl rfl rfl ?_
 refine ae hP<|aq ai (aL rfl rfl)<|aj rfl<|ag<|ao<|ae hP<|aG hT rfl<|a8 hT rfl rfl rfl rfl ?_
 refine ab (aU hT rfl rfl rfl rfl)<|ab (bh rfl rfl)<|ag ?_
 refine az rfl (fun hb1=>?_) (fun hb1=>?_)
 ·have hb1_:=bT hb1
  refine ae hP<|aj rfl<|ag<|am<|E1 rfl rfl ?_
  have h0:=wl_len_zero.1 hb1_
  exact aM (by rw [h0];rfl)
 have hb1_:=bF hb1
 refine au<|ao<|ae hP<|aG hT rfl<|a8 hT rfl rfl rfl rfl ?_
 refine ag ?_
 refine az rfl (fun hb2=>?_) (fun hb2=>?_)
 ·refine ae hP<|aj rfl<|ag<|am<|E1 rfl rfl ?_
  exact aM (j8 hb2).symm
 refine au<|ae hP<|aj rfl<|ag<|am<|E1 rfl rfl ?_
 have h0:x≠0:=fun e=>hb1_ (wl_len_zero.2 e)
 exact aM (ql h0 hb2).symm
theorem pF (m n:Nat) :
  aJ Tryz.prog 119 [.p (.c (nt m)),.p (.c (nt n))] (Z (bA m n)):=by
 refine aO Tryz.func119 rfl rfl rfl rfl ?_
 refine jw (t:=0) rfl rfl (fun hlen=>?_)
 refine jw (t:=1) rfl rfl (fun hlen2=>?_)
 refine ae hP<|aj rfl<|ag<|ao<|ae hP<|ak rfl<|ab (aU hT rfl rfl rfl rfl)<|ak rfl<|ab (aU hT rfl rfl rfl rfl)<|ab (bq rfl rfl)<|ag ?_
 refine az rfl (fun hb1=>?_) (fun hb1=>?_)
 ·have hb1_:=bY hb1
  refine ao<|ae hP<|ak rfl<|ab (aU hT rfl rfl rfl rfl)<|ak rfl<|ab (aU hT rfl rfl rfl rfl)<|ab (bi rfl rfl)<|ag ?_
  refine az rfl (fun hb2=>?_) (fun hb2=>?_)
  ·have hb2_:=dT0 hb2
   refine ae hP<|aj rfl<|ag<|am<|E1 rfl rfl ?_
   exact aM (yz hb1_ hb2_)
  have hb2_:=dF0 hb2
  refine au<|ae hP<|aj rfl<|ag<|am<|E1 rfl rfl ?_
  exact aM (yA hb1_ hb2_)
 have hb1_:=bS hb1
 refine au<|ao<|ae hP<|ak rfl<|ab (aU hT rfl rfl rfl rfl)<|ab (bD rfl rfl (by first | exact iW0 _ (by omega) | rfl)) ?_
 refine aj rfl<|ag<|aA ?_
 have hll:(wl m).length=(wl n).length:=by omega
 refine bg (ι:=Nat) (fun k=>stL [(0,.p (.c (nt m))),(1,.p (.c (nt n))),(5,Z ((k:Int) - 1))] []) (fun k=>k≤(wl m).length∧(wl m).drop k=(wl n).drop k) (fun k=>k) (wl m).length ⟨Nat.le_refl _,by rw [List.drop_length,hll,List.drop_length]⟩ (aD ⟨.refl _,.refl _,.refl _,trivial⟩ trivial) ?_
 rintro k ⟨hk,he⟩
 refine ao<|ae hP<|ak rfl<|ab (dm rfl rfl)<|ag ?_
 refine az rfl (fun hb3=>?_) (fun hb3=>?_)
 ·have hb3_:=dT0 hb3
  refine au<|ao<|aA<|ao<|ae hP<|ak rfl<|ak rfl<|ab (b6 hT rfl rfl rfl rfl rfl rfl (l:=(wl m).length) (xs:=(wl m).map w32) (by omega) (gB (by omega))) ?_
  refine cH hT rfl rfl rfl ?_
  refine ak rfl<|ak rfl<|ab (b6 hT rfl rfl rfl rfl rfl rfl (l:=(wl n).length) (xs:=(wl n).map w32) (by omega) (gB (by omega))) ?_
  refine cH hT rfl rfl rfl ?_
  refine ab (bi rfl rfl)<|ag ?_
  refine az rfl (fun hb4=>?_) (fun hb4=>?_)
  ·have hb4_:=dT0 hb4
   refine ae hP<|aj rfl<|ag<|am<|E1 rfl rfl ?_
   have hkk:((k:Int) - 1).toNat=k - 1:=by omega
   rw [hkk] at hb4_
   have h2:=sa hll (k:=k - 1) (by omega) (by rw [show k - 1+1=k by omega];exact he) (by rw [fN hb4_];decide)
   exact aM (by rw [← h2,fN hb4_])
  have hb4_:=dF0 hb4
  refine au<|ae hP<|ak rfl<|ak rfl<|ab (b6 hT rfl rfl rfl rfl rfl rfl (l:=(wl m).length) (xs:=(wl m).map w32) (by omega) (gB (by omega))) ?_
  refine cH hT rfl rfl rfl ?_
  refine ak rfl<|ak rfl<|ab (b6 hT rfl rfl rfl rfl rfl rfl (l:=(wl n).length) (xs:=(wl n).map w32) (by omega) (gB (by omega))) ?_
  refine cH hT rfl rfl rfl ?_
  refine ab (bK rfl rfl)<|ag ?_
  refine az rfl (fun hb5=>?_) (fun hb5=>?_)
  ·have hb5_:=dT0 hb5
   refine ae hP<|aj rfl<|ag<|am<|E1 rfl rfl ?_
   have hkk:((k:Int) - 1).toNat=k - 1:=by omega
   rw [hkk] at hb5_
   have h2:=sa hll (k:=k - 1) (by omega) (by rw [show k - 1+1=k by omega];exact he) (by rw [fO hb5_];decide)
   exact aM (by rw [← h2,fO hb5_])
  have hb5_:=dF0 hb5
  refine au<|aw hP<|ak rfl<|ab (bD rfl rfl (by first | exact iW0 _ (by omega) | rfl)) ?_
  refine aj rfl<|ag ?_
  have hkk:((k:Int) - 1).toNat=k - 1:=by omega
  rw [hkk] at hb4_ hb5_
  refine ⟨k - 1,⟨by omega,?_⟩,by omega,aD ⟨.refl _,.refl _,aM (by omega),trivial⟩ trivial⟩
  have e1:=dV (ws:=wl m) (k:=k - 1) (by omega)
  have e2:=dV (ws:=wl n) (k:=k - 1) (by omega)
  rw [e1,e2,show k - 1+1=k by omega,he]
  congr 1
  omega
 have hb3_:=dF0 hb3
 refine aZ<|ae hP<|aj rfl<|ag<|am<|E1 rfl rfl ?_
 have h0:k=0:=by omega
 subst h0
 have:m=n:=by rw [← bH m,← bH n];exact congrArg wv he
 exact aM (by rw [this,ik])
theorem lU (x y:Int) :
  aJ Tryz.prog 149 [I x,I y] (Z (bA x y)):=by
 refine aO Tryz.func149 rfl rfl rfl rfl ?_
 refine ae hP<|aq ai (aL rfl rfl)<|aq ai (aL rfl rfl)<|aj rfl<|ag<|ao<|ae hP<|aG hT rfl<|a8 hT rfl rfl rfl rfl ?_
 refine aG hT rfl<|a8 hT rfl rfl rfl rfl ?_
 refine ab (gE hT rfl rfl rfl rfl)<|ag ?_
 refine az rfl (fun hb1=>?_) (fun hb1=>?_)
 ·refine ao<|ae hP<|aG hT rfl<|a8 hT rfl rfl rfl rfl ?_
  refine ag ?_
  refine az rfl (fun hb2=>?_) (fun hb2=>?_)
  ·refine ae hP<|aj rfl<|ag<|am<|E1 rfl rfl ?_
   exact aM (by rw [v7 hb1,if_pos (dT0 hb2)])
  refine au<|ae hP<|aj rfl<|ag<|am<|E1 rfl rfl ?_
  exact aM (by rw [v7 hb1,if_neg (dF0 hb2)])
 refine au<|ao<|ae hP<|aG hT rfl<|a8 hT rfl rfl rfl rfl ?_
 refine ag ?_
 refine az rfl (fun hb3=>?_) (fun hb3=>?_)
 ·refine ae hP<|aG hT rfl<|a8 hT rfl rfl rfl rfl ?_
  refine aG hT rfl<|a8 hT rfl rfl rfl rfl ?_
  refine ab (ah (pF y.natAbs x.natAbs)) ?_
  refine aj rfl<|ag<|am<|E1 rfl rfl ?_
  exact aM (vr hb1 (dT0 hb3))
 refine au<|ae hP<|aG hT rfl<|a8 hT rfl rfl rfl rfl ?_
 refine aG hT rfl<|a8 hT rfl rfl rfl rfl ?_
 refine ab (ah (pF x.natAbs y.natAbs)) ?_
 refine aj rfl<|ag<|am<|E1 rfl rfl ?_
 exact aM (vq hb1 (dF0 hb3))
theorem dI (x y:Int) :
  aJ Tryz.prog 48 [I x,I y] (B (decide (x=y))):=by
 refine aO Tryz.func48 rfl rfl rfl rfl ?_
 refine ae hP<|aq ai (aL rfl rfl)<|aq ai (aL rfl rfl)<|aj rfl<|ag<|ae hP<|aG hT rfl<|a8 hT rfl rfl rfl rfl ?_
 refine aG hT rfl<|a8 hT rfl rfl rfl rfl ?_
 refine ab (tZ hT rfl rfl rfl rfl)<|ak rfl ?_
 refine aW (t:=10) rfl (fun hg1=>?_) (fun hg1=>?_)
 ·refine ay hg1 (aP hT rfl rfl rfl rfl rfl rfl) ?_
  refine ay hg1 (bC hT rfl rfl rfl rfl (by first | rfl | exact dw (by omega))) ?_
  refine ay hg1 (aP hT rfl rfl rfl rfl rfl rfl) ?_
  refine ay hg1 (bC hT rfl rfl rfl rfl (by first | rfl | exact dw (by omega))) ?_
  refine ay hg1 (ah (pF x.natAbs y.natAbs)) ?_
  refine ay hg1 (bh rfl rfl) ?_
  refine ab (aN rfl hg1 (rfl:_=AV.p (.c _)))<|aj rfl<|ag<|am<|E1 rfl rfl ?_
  exact aT (FO hg1)
 iterate 6 refine aX hg1 ?_
 refine ab (aK rfl hg1 (rfl:_=AV.p (.c _)))<|aj rfl<|ag<|am<|E1 rfl rfl ?_
 exact aT (FN hg1)
end
section
open Go Go.AM
theorem Jg (a b:List Nat) (ha:okW a) (hb:okW b) (hla:a.length≤1099511627776) (hlb:b.length≤1099511627776) :
  aJ Tryz.prog 155 [.p (.c (W a)),.p (.c (W b))] (.p (.c (W (dgs ((if (b.length:Int) > a.length then (b.length:Int) else a.length).toNat+1) (wv a+wv b))))):=by
 obtain ⟨mx,hmx⟩:∃ mx:Int,mx=(if (b.length:Int) > a.length then (b.length:Int) else a.length):=⟨_,rfl⟩
 have hm1:(a.length:Int)≤mx∧(b.length:Int)≤mx∧mx≤1099511627776:=by rw [hmx];split <;> omega
 refine aO Tryz.func155 rfl rfl rfl rfl ?_
 refine ae hP<|aj rfl<|ag<|ae hP<|aq ai (ji hT rfl rfl rfl rfl (ws:=[]) rfl rfl rfl) ?_
 refine ab (a7 (rfl:_=AV.vec _))<|ag<|ae hP<|aj rfl<|ag<|cr 8 1000 rfl rfl rfl ?_
 refine ao<|ae hP<|aj rfl<|ag<|aA<|bg (ι:=List Nat × Nat) (fun p=>stL [(0,.p (.c (W a))),(1,.p (.c (W b))),(5,.vec 1000),(6,.p (.c (.v (.int .u64 ((p.2:Nat):Int))))),(7,Z ((p.1.length:Nat):Int))] [(1000,WB 105 p.1)]) (fun p=>okW p.1∧(p.1.length:Int)≤mx∧p.2≤1∧wv p.1+4294967296 ^ p.1.length*p.2=wv (a.take p.1.length)+wv (b.take p.1.length)) (fun p=>(mx - p.1.length).toNat) ([],0) ⟨okW.nil,by simp only [List.length_nil];omega,by decide,by simp [wv]⟩ (aD ⟨.refl _,.refl _,.refl _,.refl _,.refl _,trivial⟩ ⟨rfl,trivial⟩) ?_
 rintro p ⟨ho,hl,hc,hv⟩
 have hwa:=dX ha (p.1.length:Nat)
 have hwb:=dX hb (p.1.length:Nat)
 refine ao<|ae hP<|ak rfl<|ak rfl<|ab (aU hT rfl rfl rfl rfl)<|ak rfl<|ab (aU hT rfl rfl rfl rfl)<|ab (pR rfl rfl)<|ab (bi rfl rfl)<|ag ?_
 refine az rfl (fun hb1=>?_) (fun hb1=>?_)
 ·have hb1_:=dT0 hb1
  have hlt:(p.1.length:Int) < mx:=by rw [hmx];exact hb1_
  refine au<|ao<|aA<|ae hP<|ak rfl<|ak rfl<|ak rfl<|ab (ah (dH _ _ (by assumption))) ?_
  refine ak rfl<|ak rfl<|ab (ah (dH _ _ (by assumption))) ?_
  refine ab (bL rfl rfl (c:=((wd a p.1.length+wd b p.1.length:Nat):Int)) (by rw [← Int.natCast_add,cZ (by omega)])) ?_
  refine ab (bL rfl rfl (c:=((p.2+(wd a p.1.length+wd b p.1.length):Nat):Int)) (by rw [← Int.natCast_add,cZ (by omega)])) ?_
  refine aj rfl<|ag<|ae hP<|ab (aB (rfl:_=AV.vec _))<|ak rfl<|ab (bl hT rfl rfl rfl rfl (eD _)) ?_
  refine ab (bd hT rfl rfl rfl (es:=[_]) rfl rfl rfl)<|RK.app ai (iK hT rfl rfl rfl rfl rfl rfl rfl (xs:=[(p.2+(wd a p.1.length+wd b p.1.length)) % 4294967296]) rfl (by simp only [List.length_cons,List.length_nil];omega) (by decide)) ?_
  refine ab (a7 (rfl:_=AV.vec _))<|ag<|cr 31 1000 rfl rfl rfl ?_
  refine aw hP<|ak rfl<|ab (dh (j:=32) rfl rfl (by decide)) ?_
  refine aj rfl<|ag<|aw hP<|ak rfl<|bv rfl rfl ?_
  refine aj rfl<|ag ?_
  have hr:=xQ hv
  have hq:(p.2+(wd a p.1.length+wd b p.1.length)) / 4294967296≤1:=by omega
  refine ⟨(p.1 ++ [(p.2+(wd a p.1.length+wd b p.1.length)) % 4294967296],(p.2+(wd a p.1.length+wd b p.1.length)) / 4294967296),⟨ho.snoc (Nat.mod_lt _ (by decide)),?_,hq,by simpa using hr⟩,?_,aD ⟨.refl _,.refl _,.refl _,.refl _,aM (by simp),trivial⟩ ⟨rfl,trivial⟩⟩
  ·simp only [List.length_append,List.length_cons,List.length_nil];omega
  simp only [List.length_append,List.length_cons,List.length_nil];omega
 have hb1_:=dF0 hb1
 have hge:(p.1.length:Int)=mx:=by
  have:¬ (p.1.length:Int) < mx:=by rw [hmx];exact hb1_
  omega
 refine aZ<|ae hP<|ab (aB (rfl:_=AV.vec _))<|ak rfl<|ab (bl hT rfl rfl rfl rfl (eD _)) ?_
 refine ab (bd hT rfl rfl rfl (es:=[_]) rfl rfl rfl)<|RK.app ai (iK hT rfl rfl rfl rfl rfl rfl rfl (xs:=[p.2 % 4294967296]) rfl (by simp only [List.length_cons,List.length_nil];omega) (by decide)) ?_
 refine ab (a7 (rfl:_=AV.vec _))<|ag<|cJ (t:=4) rfl rfl ?_
 refine am<|E1 rfl rfl ?_
 have e:mx.toNat=p.1.length:=by omega
 exact aH (by rw [B1 ho (by omega) (by omega) (by omega) hv,← hmx,e])
theorem wg (a b:List Nat) (ha:okW a) (hb:okW b) (hla:a.length≤1099511627776) (hlb:b.length≤a.length) (hab:wv b≤wv a) :
  aJ Tryz.prog 156 [.p (.c (W a)),.p (.c (W b))] (.p (.c (W (dgs a.length (wv a - wv b))))):=by
 refine aO Tryz.func156 rfl rfl rfl rfl ?_
 refine ae hP<|aj rfl<|ag<|ae hP<|aq ai (ji hT rfl rfl rfl rfl (ws:=[]) rfl rfl rfl) ?_
 refine ab (a7 (rfl:_=AV.vec _))<|ag<|ae hP<|aj rfl<|ag<|cr 9 1000 rfl rfl rfl ?_
 refine ao<|ae hP<|aj rfl<|ag<|aA<|bg (ι:=List Nat × Nat) (fun p=>stL [(0,.p (.c (W a))),(1,.p (.c (W b))),(5,.vec 1000),(6,.p (.c (.v (.int .u64 ((p.2:Nat):Int))))),(7,Z ((p.1.length:Nat):Int))] [(1000,WB 105 p.1)]) (fun p=>okW p.1∧p.1.length≤a.length∧p.2≤1∧wv p.1+wv (b.take p.1.length)=wv (a.take p.1.length)+4294967296 ^ p.1.length*p.2) (fun p=>a.length - p.1.length) ([],0) ⟨okW.nil,by simp,by decide,by simp [wv]⟩ (aD ⟨.refl _,.refl _,.refl _,.refl _,.refl _,trivial⟩ ⟨rfl,trivial⟩) ?_
 rintro p ⟨ho,hl,hc,hv⟩
 have hwa:=dX ha (p.1.length:Nat)
 have hwb:=dX hb (p.1.length:Nat)
 refine ao<|ae hP<|ak rfl<|ak rfl<|ab (aU hT rfl rfl rfl rfl)<|ab (bi rfl rfl)<|ag ?_
 refine az rfl (fun hb1=>?_) (fun hb1=>?_)
 ·have hb1_:=dT0 hb1
  refine au<|ao<|aA<|ae hP<|ak rfl<|ak rfl<|ab (ah (dH _ _ (by assumption))) ?_
  refine ab (bL rfl rfl (c:=((4294967296+wd a p.1.length:Nat):Int)) (by rw [IntWalk.u64_in _ (by omega)];omega)) ?_
  refine ak rfl<|ak rfl<|ab (ah (dH _ _ (by assumption))) ?_
  refine ab (bD rfl rfl (c:=((4294967296+wd a p.1.length - wd b p.1.length:Nat):Int)) (by rw [IntWalk.u64_in _ (by omega)];omega)) ?_
  refine ak rfl<|ab (bD rfl rfl (c:=((4294967296+wd a p.1.length - wd b p.1.length - p.2:Nat):Int)) (by rw [IntWalk.u64_in _ (by omega)];omega)) ?_
  refine aj rfl<|ag<|ae hP<|ab (aB (rfl:_=AV.vec _))<|ak rfl<|ab (bl hT rfl rfl rfl rfl (eD _)) ?_
  refine ab (bd hT rfl rfl rfl (es:=[_]) rfl rfl rfl)<|RK.app ai (iK hT rfl rfl rfl rfl rfl rfl rfl (xs:=[(4294967296+wd a p.1.length - wd b p.1.length - p.2) % 4294967296]) rfl (by simp only [List.length_cons,List.length_nil];omega) (by decide)) ?_
  refine ab (a7 (rfl:_=AV.vec _))<|ag<|cr 30 1000 rfl rfl rfl ?_
  refine aw hP<|ak rfl<|ab (dh (j:=32) rfl rfl (by decide)) ?_
  refine ab (bD rfl rfl (c:=((1 - (4294967296+wd a p.1.length - wd b p.1.length - p.2) / 4294967296:Nat):Int)) (by rw [IntWalk.u64_in _ (by omega)];omega)) ?_
  refine aj rfl<|ag<|aw hP<|ak rfl<|bv rfl rfl ?_
  refine aj rfl<|ag ?_
  have hr:=ov ha hb hc hv
  have hq:1 - (4294967296+wd a p.1.length - wd b p.1.length - p.2) / 4294967296≤1:=by omega
  refine ⟨(p.1 ++ [(4294967296+wd a p.1.length - wd b p.1.length - p.2) % 4294967296],1 - (4294967296+wd a p.1.length - wd b p.1.length - p.2) / 4294967296),⟨ho.snoc (Nat.mod_lt _ (by decide)),?_,hq,by simpa using hr⟩,?_,aD ⟨.refl _,.refl _,.refl _,.refl _,aM (by simp),trivial⟩ ⟨rfl,trivial⟩⟩
  ·simp only [List.length_append,List.length_cons,List.length_nil];omega
  simp only [List.length_append,List.length_cons,List.length_nil];omega
 have hb1_:=dF0 hb1
 refine aZ<|ae hP<|ab (aB (rfl:_=AV.vec _))<|ab (a7 (rfl:_=AV.vec _))<|ag<|cJ (t:=4) rfl rfl ?_
 refine am<|E1 rfl rfl ?_
 have e:p.1.length=a.length:=by omega
 exact aH (by rw [zP ho e hlb hab hv])
theorem kG (x y:Int) (hx:L 45 x) (hy:L 45 y) :
  aJ Tryz.prog 93 [I x,I y] (I (x+y)):=by
 refine aO Tryz.func93 rfl rfl rfl rfl ?_
 refine ae hP<|aq ai (aL rfl rfl)<|aq ai (aL rfl rfl)<|aq ai (aC hT rfl rfl)<|ag<|ao<|ae hP<|aG hT rfl<|a8 hT rfl rfl rfl rfl ?_
 refine aG hT rfl<|a8 hT rfl rfl rfl rfl ?_
 refine ab (tZ hT rfl rfl rfl rfl)<|ag ?_
 refine az rfl (fun hb1=>?_) (fun hb1=>?_)
 ·refine ae hP<|aG hT rfl<|a8 hT rfl rfl rfl rfl ?_
  refine aG hT rfl<|a8 hT rfl rfl rfl rfl ?_
  refine aG hT rfl<|a8 hT rfl rfl rfl rfl ?_
  refine ab (ah (Jg (wl x.natAbs) (wl y.natAbs) (bG _) (bG _) (sz hx) (sz hy))) ?_
  refine ab (ah (fU _ _ (dZ _ _))) ?_
  refine aI hT rfl<|ag<|am<|E2 hT rfl rfl rfl rfl rfl rfl rfl ?_
  exact Sub.I (by rw [B0];exact AI hb1)
 refine au<|ao<|ae hP<|aG hT rfl<|a8 hT rfl rfl rfl rfl ?_
 refine aG hT rfl<|a8 hT rfl rfl rfl rfl ?_
 refine ab (ah (pF x.natAbs y.natAbs)) ?_
 refine ab (dm rfl rfl)<|ag ?_
 refine az rfl (fun hb2=>?_) (fun hb2=>?_)
 ·have hb2_:=dT0 hb2
  have hc:y.natAbs≤x.natAbs:=by have:=kY hb2_;omega
  refine ae hP<|aG hT rfl<|a8 hT rfl rfl rfl rfl ?_
  refine aG hT rfl<|a8 hT rfl rfl rfl rfl ?_
  refine aG hT rfl<|a8 hT rfl rfl rfl rfl ?_
  refine ab (ah (wg (wl x.natAbs) (wl y.natAbs) (bG _) (bG _) (sz hx) (fH hc) (by rw [bH,bH];exact hc))) ?_
  refine ab (ah (fU _ _ (dZ _ _))) ?_
  refine aI hT rfl<|ag<|am<|E2 hT rfl rfl rfl rfl rfl rfl rfl ?_
  exact Sub.I (by rw [rQ];exact HO hb1 hc)
 have hb2_:=dF0 hb2
 have hc:x.natAbs < y.natAbs:=by have:=jR hb2_;omega
 refine au<|ae hP<|aG hT rfl<|a8 hT rfl rfl rfl rfl ?_
 refine aG hT rfl<|a8 hT rfl rfl rfl rfl ?_
 refine aG hT rfl<|a8 hT rfl rfl rfl rfl ?_
 refine ab (ah (wg (wl y.natAbs) (wl x.natAbs) (bG _) (bG _) (sz hy) (fH (by omega)) (by rw [bH,bH];omega))) ?_
 refine ab (ah (fU _ _ (dZ _ _))) ?_
 refine aI hT rfl<|ag<|am<|E2 hT rfl rfl rfl rfl rfl rfl rfl ?_
 exact Sub.I (by rw [rQ];exact HN hb1 hc)
theorem pG (x y:Int) (hx:L 45 x) (hy:L 45 y) :
  aJ Tryz.prog 116 [I x,I y] (I (x - y)):=by
 have ix:LB x 45:=⟨hx⟩
 have iy:LB y 45:=⟨hy⟩
 refine aO Tryz.func116 rfl rfl rfl rfl ?_
 refine ae hP<|aq ai (aL rfl rfl)<|aq ai (aL rfl rfl)<|aq ai (aC hT rfl rfl)<|ag<|ae hP<|av hT rfl<|av hT rfl<|ab (ah (LR _)) ?_
 refine ab (ah (kG _ _ lz lz)) ?_
 refine aI hT rfl<|ag<|am<|E2 hT rfl rfl rfl rfl rfl rfl rfl ?_
 exact Sub.I (by omega)
theorem dY (x y:Int) (hx:L 45 x) (hy:L 45 y) :
  aJ Tryz.prog 84 [I x,I y] (I (x*y)):=by
 have ha:=bG x.natAbs
 have hb:=bG y.natAbs
 have hla:=sz hx
 have hlb:=sz hy
 refine aO Tryz.func84 rfl rfl rfl rfl ?_
 refine ae hP<|aq ai (aL rfl rfl)<|aq ai (aL rfl rfl)<|aq ai (aC hT rfl rfl)<|ag<|ae hP<|aG hT rfl<|a8 hT rfl rfl rfl rfl ?_
 refine ab (aU hT rfl rfl rfl rfl)<|aG hT rfl<|a8 hT rfl rfl rfl rfl ?_
 refine ab (aU hT rfl rfl rfl rfl)<|bv rfl rfl ?_
 refine aq ai (eJ hT rfl rfl rfl rfl rfl rfl rfl rfl (by omega)) ?_
 refine ab (a7 (rfl:_=AV.vec _))<|ag<|ao<|ae hP<|aj rfl<|ag<|aA<|bg (ι:=List Nat × Nat) (fun ⟨o,i⟩=>stL [(2,.loc 2 0),(3,.loc 3 0),(4,.loc 4 0),(5,.vec 16),(6,Z (i:Int))] [(2,⟨false,1,29,[zn (x),zm (x)]⟩),(3,⟨false,1,29,[zn (y),zm (y)]⟩),(4,⟨false,1,29,[zn (0),zm (0)]⟩),(16,WB 105 o)]) (fun ⟨o,i⟩=>i≤(wl x.natAbs).length∧o.length=(wl x.natAbs).length+(wl y.natAbs).length∧okW o∧wv o=wv ((wl x.natAbs).take i)*wv (wl y.natAbs)∧∀ j,i+(wl y.natAbs).length≤j→o.getD j 0=0) (fun ⟨_,i⟩=>(wl x.natAbs).length - i) (List.replicate (((wl x.natAbs).length:Int)+((wl y.natAbs).length:Int)).toNat 0,0) ⟨Nat.zero_le _,by simp;omega,okW.rep _,by rw [lc];simp [wv],fun j _=>mb _ _⟩ (aD ⟨.refl _,.refl _,.refl _,.refl _,.refl _,trivial⟩ ⟨rfl,rfl,rfl,rfl,trivial⟩) ?_
 rintro ⟨o,i⟩ ⟨hi,hlo,ho,hv,hz⟩
 refine ao<|ae hP<|ak rfl<|aG hT rfl<|a8 hT rfl rfl rfl rfl ?_
 refine ab (aU hT rfl rfl rfl rfl)<|ab (bi rfl rfl)<|ag ?_
 refine az rfl (fun hb1=>?_) (fun hb1=>?_)
 ·have hb1_:=dT0 hb1
  have hlt0:i < (wl x.natAbs).length:=by omega
  refine au<|ao<|aA<|ae hP<|aj rfl<|ag<|ao<|ae hP<|aj rfl<|ag<|aA ?_
  obtain ⟨o0,ho0⟩:∃ o0,o0=o:=⟨_,rfl⟩
  have hv0:=hv
  rw [← ho0] at hv
  refine bg (ι:=List Nat × Nat × Nat) (fun ⟨o,k,c⟩=>stL [(2,.loc 2 0),(3,.loc 3 0),(4,.loc 4 0),(5,.vec 16),(6,Z (i:Int)),(7,.p (.c (.v (.int .u64 (c:Nat))))),(8,Z (k:Int))] [(2,⟨false,1,29,[zn (x),zm (x)]⟩),(3,⟨false,1,29,[zn (y),zm (y)]⟩),(4,⟨false,1,29,[zn (0),zm (0)]⟩),(16,WB 105 o)]) (fun ⟨o,k,c⟩=>k≤(wl y.natAbs).length∧o.length=(wl x.natAbs).length+(wl y.natAbs).length∧okW o∧c < 4294967296∧wv o+4294967296 ^ (i+k)*c=wv o0+4294967296 ^ i*((wl x.natAbs).getD i 0*wv ((wl y.natAbs).take k))∧∀ j,i+(wl y.natAbs).length≤j→o.getD j 0=0) (fun ⟨_,k,_⟩=>(wl y.natAbs).length - k) (o,0,0) ⟨Nat.zero_le _,hlo,ho,by omega,by rw [ho0];simp [wv],hz⟩ (aD ⟨.refl _,.refl _,.refl _,.refl _,.refl _,.refl _,.refl _,trivial⟩ ⟨rfl,rfl,rfl,rfl,trivial⟩) ?_
  clear hlo ho hz hv0 ho0
  rintro ⟨o,k,c⟩ ⟨hk,hlo,ho,hc,hkv,hz⟩
  refine ao<|ae hP<|ak rfl<|aG hT rfl<|a8 hT rfl rfl rfl rfl ?_
  refine ab (aU hT rfl rfl rfl rfl)<|ab (bi rfl rfl)<|ag ?_
  refine az rfl (fun hb2=>?_) (fun hb2=>?_)
  ·have hb2_:=dT0 hb2
   have hlt:k < (wl y.natAbs).length:=by omega
   have ha1:=ha.getD i
   have hb1v:=hb.getD k
   have hp1:=Nat.mul_le_mul (Nat.le_sub_one_of_lt (ha.getD i)) (Nat.le_sub_one_of_lt (hb.getD k))
   have ho1:=ho.getD (i+k)
   refine au<|ao<|aA<|ae hP<|ak rfl<|aG hT rfl<|a8 hT rfl rfl rfl rfl ?_
   refine ak rfl<|cK ?_
   refine cH hT rfl rfl rfl ?_
   refine ab (bl hT rfl rfl rfl rfl (cZ (by omega))) ?_
   refine aG hT rfl<|a8 hT rfl rfl rfl rfl ?_
   refine ak rfl<|cK ?_
   refine cH hT rfl rfl rfl ?_
   refine ab (bl hT rfl rfl rfl rfl (cZ (by omega))) ?_
   refine ab (bQ rfl rfl (c:=(((wl x.natAbs).getD i 0*(wl y.natAbs).getD k 0:Nat):Int)) (by rw [← Int.natCast_mul,cZ (by omega)])) ?_
   refine ab (aB (rfl:_=AV.vec _))<|ak rfl<|ak rfl<|ab (bL rfl rfl (c:=((i+k:Nat):Int)) (by rw [iW0 _ (by omega)];omega)) ?_
   refine de ?_
   refine ab (dy hT rfl rfl rfl rfl (by first | omega | (simp;omega)) rfl) ?_
   refine ab (bl hT rfl rfl rfl rfl (cZ (by omega))) ?_
   refine ab (bL rfl rfl (c:=(((wl x.natAbs).getD i 0*(wl y.natAbs).getD k 0+o.getD (i+k) 0:Nat):Int)) (by rw [← Int.natCast_add,cZ (by omega)])) ?_
   refine ab (bL rfl rfl (c:=(((wl x.natAbs).getD i 0*(wl y.natAbs).getD k 0+o.getD (i+k) 0+c:Nat):Int)) (by rw [← Int.natCast_add,Nat.add_comm,cZ (by omega)])) ?_
   refine aj rfl<|ag<|ae hP<|ab (aB (rfl:_=AV.vec _))<|ak rfl<|ak rfl<|ab (bL rfl rfl (c:=((i+k:Nat):Int)) (by rw [iW0 _ (by omega)];omega)) ?_
   refine ak rfl<|ab (bl hT rfl rfl rfl rfl (eD _)) ?_
   refine de ?_
   refine du ai (cw hT rfl rfl rfl rfl rfl (by first | omega | (simp;omega)) rfl) ?_
   refine ag<|aw hP<|ak rfl<|ab (dh (j:=32) rfl rfl (by first | decide | omega)) ?_
   refine aj rfl<|ag<|aw hP<|ak rfl<|bv rfl rfl ?_
   refine aj rfl<|ag ?_
   have hr:=rO (b:=(wl y.natAbs)) (x:=(wl x.natAbs).getD i 0) (i:=i) (k:=k) (t:=(wl x.natAbs).getD i 0*(wl y.natAbs).getD k 0+o.getD (i+k) 0+c) (by omega) rfl hkv
   refine ⟨(o.set (i+k) (((wl x.natAbs).getD i 0*(wl y.natAbs).getD k 0+o.getD (i+k) 0+c) % 4294967296),k+1,((wl x.natAbs).getD i 0*(wl y.natAbs).getD k 0+o.getD (i+k) 0+c) / 4294967296),⟨by omega,by simpa using hlo,ho.set (Nat.mod_lt _ (by omega)),(Nat.div_lt_iff_lt_mul (by omega)).2 (by omega),hr,fun j hj=>?_⟩,by show (wl y.natAbs).length - (k+1) < (wl y.natAbs).length - k;omega,aD ⟨.refl _,.refl _,.refl _,.refl _,.refl _,.refl _,aM (by omega),trivial⟩ ⟨rfl,rfl,rfl,rfl,trivial⟩⟩
   rw [fz _ _ _ _ (by omega),if_neg (by omega)]
   exact hz j (by omega)
  have hb2_:=dF0 hb2
  have hke:k=(wl y.natAbs).length:=by omega
  subst hke
  refine aZ<|aw hP<|ab (aB (rfl:_=AV.vec _))<|ak rfl<|aG hT rfl<|a8 hT rfl rfl rfl rfl ?_
  refine ab (aU hT rfl rfl rfl rfl)<|ab (bL rfl rfl (c:=((i+(wl y.natAbs).length:Nat):Int)) (by rw [iW0 _ (by omega)];omega)) ?_
  refine ak rfl<|ab (bl hT rfl rfl rfl rfl (kO (by omega))) ?_
  refine de ?_
  refine du ai (cw hT rfl rfl rfl rfl rfl (by first | omega | (simp;omega)) rfl) ?_
  refine ag<|aw hP<|ak rfl<|bv rfl rfl ?_
  refine aj rfl<|ag ?_
  have hov:=rP (o:=o0) (a:=(wl x.natAbs)) (by omega) (hz _ (Nat.le_refl _)) rfl hv hkv
  refine ⟨(o.set (i+(wl y.natAbs).length) c,i+1),⟨by omega,by simpa using hlo,ho.set (by omega),hov,fun j hj=>?_⟩,by show (wl x.natAbs).length - (i+1) < (wl x.natAbs).length - i;omega,aD ⟨.refl _,.refl _,.refl _,.refl _,aM (by omega),trivial⟩ ⟨rfl,rfl,rfl,rfl,trivial⟩⟩
  rw [fz _ _ _ _ (by omega),if_neg (by omega)]
  exact hz j (by omega)
 have hb1_:=dF0 hb1
 have hie:i=(wl x.natAbs).length:=by omega
 refine aZ<|cJ (t:=5) rfl rfl ?_
 refine ae hP<|aG hT rfl<|a8 hT rfl rfl rfl rfl ?_
 refine aG hT rfl<|a8 hT rfl rfl rfl rfl ?_
 refine ab (gE hT rfl rfl rfl rfl)<|ak rfl<|ab (ah (fU _ _ ho)) ?_
 refine aI hT rfl<|ag<|am<|E2 hT rfl rfl rfl rfl rfl rfl rfl ?_
 exact Sub.I (by rw [hv,hie,List.take_length,bH,bH];exact GJ x y)
end
section
open Go Go.AM
theorem zq (x:Int) (hx:L 45 x) :
  aJ Tryz.prog 224 [I x] (Z (bn x.natAbs)):=by
 have hlen:=sz hx
 refine aO Tryz.func224 rfl rfl rfl rfl ?_
 refine ae hP<|aq ai (aL rfl rfl)<|aj rfl<|ag<|ao<|ae hP<|aG hT rfl<|a8 hT rfl rfl rfl rfl ?_
 refine ab (aU hT rfl rfl rfl rfl)<|ab (bh rfl rfl)<|ag ?_
 refine az rfl (fun hb1=>?_) (fun hb1=>?_)
 ·have hb1_:=bT hb1
  refine ae hP<|aj rfl<|ag<|am<|E1 rfl rfl ?_
  have h0:=wl_len_zero.1 hb1_
  exact aM (by rw [h0];rfl)
 have hb1_:=bF hb1
 have h1:(wl x.natAbs).length≠0:=fun e=>hb1_ (by rw [e];rfl)
 have hbt:=u7 (m:=x.natAbs) (n:=(wl x.natAbs).length - 1) (by omega)
 have htl:=(bG x.natAbs).getD ((wl x.natAbs).length - 1)
 have hb32:=gx (k:=32) htl
 refine au<|ae hP<|aG hT rfl<|a8 hT rfl rfl rfl rfl ?_
 refine ab (aU hT rfl rfl rfl rfl)<|ab (bD rfl rfl (c:=(((wl x.natAbs).length - 1:Nat):Int)) (by rw [iW0 _ (by omega)];omega)) ?_
 refine ab (bQ rfl rfl (c:=((32*((wl x.natAbs).length - 1):Nat):Int)) (by rw [iW0 _ (by omega)];omega)) ?_
 refine aj rfl<|ag<|ao<|ae hP<|aG hT rfl<|a8 hT rfl rfl rfl rfl ?_
 refine aG hT rfl<|a8 hT rfl rfl rfl rfl ?_
 refine ab (aU hT rfl rfl rfl rfl)<|ab (bD rfl rfl (c:=(((wl x.natAbs).length - 1:Nat):Int)) (by rw [iW0 _ (by omega)];omega)) ?_
 refine cK ?_
 refine cH hT rfl rfl rfl ?_
 refine aj rfl<|ag<|aA<|bg (ι:=Nat × Nat) (fun p=>stL [(3,Z ((p.1:Nat):Int)),(4,.p (.c (w32 p.2)))] []) (fun p=>p.1+bn p.2=bn x.natAbs∧p.2 < 4294967296∧p.1≤bn x.natAbs) (fun p=>p.2) (32*((wl x.natAbs).length - 1),(wl x.natAbs).getD ((wl x.natAbs).length - 1) 0) ⟨hbt.symm,htl,show 32*((wl x.natAbs).length - 1)≤bn x.natAbs by omega⟩ (aD ⟨.refl _,.refl _,trivial⟩ trivial) ?_
 rintro p ⟨hp1,hp2,hp3⟩
 refine ao<|ae hP<|ak rfl<|ab (bK rfl rfl)<|ag ?_
 refine az rfl (fun hb2=>?_) (fun hb2=>?_)
 ·have hb2_:=dT0 hb2
  refine au<|ao<|aA<|aw hP<|ak rfl<|ab (bL rfl rfl (c:=((p.1+1:Nat):Int)) (by rw [iW0 _ (by omega)];omega)) ?_
  refine aj rfl<|ag<|aw hP<|ak rfl<|ab (cO rfl rfl (by decide) (c:=((p.2 / 2 ^ 1:Nat):Int)) (by rw [Int.tdiv_eq_ediv_of_nonneg (by omega),IntWalk.u32_in _ (by omega)];omega)) ?_
  refine aj rfl<|ag ?_
  have hd:=Ay (n:=p.2) (by omega)
  refine ⟨(p.1+1,p.2 / 2 ^ 1),⟨show p.1+1+bn (p.2 / 2 ^ 1)=bn x.natAbs by omega,show p.2 / 2 ^ 1 < 4294967296 by omega,show p.1+1≤bn x.natAbs by omega⟩,by show p.2 / 2 ^ 1 < p.2;omega,aD ⟨.refl _,.refl _,trivial⟩ trivial⟩
 have hb2_:=dF0 hb2
 refine aZ<|ae hP<|ak rfl<|aj rfl<|ag<|am<|E1 rfl rfl ?_
 have h0:p.2=0:=by omega
 rw [h0] at hp1
 exact aM (by rw [← hp1];rfl)
theorem wi (l:List Nat) (n:Nat) (hl:okW l) (hll:l.length≤1099511627776) (hn:n≤35184372088832) :
  CallV Tryz.prog 223 [.p (.c (W l)),Z (n:Int)] (WB 105 (dgs (n / 32+l.length+1) (wv l*2 ^ n))):=by
 obtain ⟨q,hq⟩:∃ q,q=n / 32:=⟨_,rfl⟩
 obtain ⟨k,hk⟩:∃ k,k=n % 32:=⟨_,rfl⟩
 have hks:n=32*q+k:=by omega
 have hk32:k < 32:=by omega
 refine oZ Tryz.func223 (by kernel_rfl) rfl rfl (bL0 rfl) ?_
 refine ae hP<|aj rfl<|ag<|ae hP<|ak rfl<|ab (cO rfl rfl (by decide) (c:=((q:Nat):Int)) (by rw [Int.tdiv_eq_ediv_of_nonneg (by omega),iW0 _ (by omega)];omega)) ?_
 refine aq ai (eJ hT rfl rfl rfl rfl rfl rfl rfl rfl (by omega)) ?_
 refine ab (a7 (rfl:_=AV.vec _))<|ag<|ae hP<|ak rfl<|ab (bJ rfl rfl (by decide) (c:=((k:Nat):Int)) (by rw [Int.tmod_eq_emod_of_nonneg (by omega)];omega)) ?_
 refine ab (bl hT rfl rfl rfl rfl (cZ (by omega))) ?_
 refine aj rfl<|ag<|cr 10 1000 rfl rfl rfl ?_
 refine ao<|ae hP<|aj rfl<|ag<|aA<|bg (ι:=List Nat × Nat) (fun ⟨o,i⟩=>stL [(0,.p (.c (W l))),(5,.vec 1000),(6,.p (.c (.v (.int .u64 ((k:Nat):Int))))),(7,Z (i:Int))] [(1000,WB 105 o)]) (fun ⟨o,i⟩=>i≤l.length+1∧okW o∧o.length=q+i∧wv o+4294967296 ^ o.length*(wd l ((i:Int) - 1)*2 ^ k / 2 ^ 32)=wv (l.take i)*2 ^ (32*q+k)) (fun ⟨_,i⟩=>l.length+1 - i) (List.replicate ((q:Nat):Int).toNat 0,0) ⟨Nat.zero_le _,okW.rep _,by simp,by rw [lc,ph (.inl (by decide))];simp [wv]⟩ (aD ⟨.refl _,.refl _,.refl _,.refl _,trivial⟩ ⟨rfl,trivial⟩) ?_
 rintro ⟨o,i⟩ ⟨hi,hok,hol,hv⟩
 have hwi:=dX hl (i:Int)
 have hwj:=dX hl ((i:Int) - 1)
 refine ao<|ae hP<|ak rfl<|ak rfl<|ab (aU hT rfl rfl rfl rfl)<|ab (eX rfl rfl)<|ag ?_
 refine az rfl (fun hb1=>?_) (fun hb1=>?_)
 ·have hb1_:=dT0 hb1
  have hlt:i≤l.length:=by omega
  refine au<|ao<|aA<|aw hP<|ab (aB (rfl:_=AV.vec _))<|ak rfl<|ak rfl<|ab (ah (dH _ _ hl)) ?_
  refine ak rfl<|ab (lq rfl rfl (by omega) (c:=((wd l i*2 ^ k:Nat):Int)) (xq hwi hk32)) ?_
  refine ak rfl<|ak rfl<|ab (bD rfl rfl (by first | exact iW0 _ (by omega) | rfl)) ?_
  refine ab (ah (dH _ _ hl)) ?_
  refine ak rfl<|ab (lq rfl rfl (by omega) (c:=((wd l ((i:Int) - 1)*2 ^ k:Nat):Int)) (xq hwj hk32)) ?_
  refine ab (dh (j:=32) rfl rfl (by decide)) ?_
  refine ab (mQ rfl rfl rfl (fZ (tj hwi hk32)) (fZ (Nat.lt_of_le_of_lt (Nat.div_le_self _ _) (tj hwj hk32)))) ?_
  refine ab (bl hT rfl rfl rfl rfl (eD _)) ?_
  refine ab (bd hT rfl rfl rfl (es:=[_]) rfl rfl rfl)<|RK.app ai (iK hT rfl rfl rfl rfl rfl rfl rfl (xs:=[(wd l i*2 ^ k ||| wd l ((i:Int) - 1)*2 ^ k / 2 ^ 32) % 4294967296]) rfl (by simp only [List.length_cons,List.length_nil];omega) (by decide)) ?_
  refine ab (a7 (rfl:_=AV.vec _))<|ag<|cr 36 1000 rfl rfl rfl ?_
  refine aw hP<|ak rfl<|bv rfl rfl ?_
  refine aj rfl<|ag ?_
  have hr:=yk hl hk32 hol hv
  refine ⟨(o ++ [(wd l i*2 ^ k ||| wd l ((i:Int) - 1)*2 ^ k / 2 ^ 32) % 4294967296],i+1),⟨by omega,hok.snoc (Nat.mod_lt _ (by decide)),by simp;omega,?_⟩,by show l.length+1 - (i+1) < l.length+1 - i;omega,aD ⟨.refl _,.refl _,.refl _,.refl _,trivial⟩ ⟨rfl,trivial⟩⟩
  rw [List.length_append,List.length_cons,List.length_nil,show (((i+1:Nat):Int) - 1)=(i:Int) by omega]
  exact hr
 have hb1_:=dF0 hb1
 have hge:i=l.length+1:=by omega
 refine aZ<|ae hP<|ab (aB (rfl:_=AV.vec _))<|ab (a7 (rfl:_=AV.vec _))<|ag<|am ?_
 refine ⟨.inr rfl,_,_,rfl,rfl,?_⟩
 rw [← hq]
 exact congrArg (fun z=>some (WB 105 z)) (by rw [Cn hok hol hge hv,hks])
theorem Jh (l:List Nat) (n:Nat) (hl:okW l) (hll:l.length≤1099511627776) (hn:n≤35184372088832):aJ Tryz.prog 223 [.p (.c (W l)),Z (n:Int)] (.p (.c (W (dgs (n / 32+l.length+1) (wv l*2 ^ n))))):=(wi l n hl hll hn).call0W
theorem zo (a b:List Nat) (ha:okW a) (hb:okW b) (hla:a.length≤4398046511104) (hlb:b.length≤4398046511104) :
  aJ Tryz.prog 239 [.p (.c (W a)),.p (.c (W b))] (B (decide (wv b≤wv a))):=by
 obtain ⟨mx,hmx⟩:∃ mx:Int,mx=(if (b.length:Int) > a.length then (b.length:Int) else a.length):=⟨_,rfl⟩
 have hm1:(a.length:Int)≤mx∧(b.length:Int)≤mx∧mx≤4398046511104:=by rw [hmx];split <;> omega
 refine aO Tryz.func239 rfl rfl rfl rfl ?_
 refine ae hP<|aj rfl<|ag<|ao<|ae hP<|ak rfl<|ab (aU hT rfl rfl rfl rfl)<|ak rfl<|ab (aU hT rfl rfl rfl rfl)<|ab (pR rfl rfl)<|ab (bD rfl rfl (c:=(mx.toNat:Int) - 1) (by rw [← hmx,iW0 _ (by omega)];omega)) ?_
 refine aj rfl<|ag<|aA<|bg (ι:=Nat) (fun k=>stL [(0,.p (.c (W a))),(1,.p (.c (W b))),(5,Z ((k:Int) - 1))] []) (fun k=>k≤mx.toNat∧wv a / 4294967296 ^ k=wv b / 4294967296 ^ k) (fun k=>k) mx.toNat ⟨Nat.le_refl _,by rw [og ha (by omega),og hb (by omega)]⟩ (aD ⟨.refl _,.refl _,.refl _,trivial⟩ trivial) ?_
 rintro k ⟨hk,he⟩
 refine ao<|ae hP<|ak rfl<|ab (dm rfl rfl)<|ag ?_
 refine az rfl (fun hb1=>?_) (fun hb1=>?_)
 ·have hb1_:=dT0 hb1
  refine au<|ao<|aA<|ae hP<|ak rfl<|ak rfl<|ab (ah (dH _ _ (by assumption))) ?_
  refine ak rfl<|ak rfl<|ab (ah (dH _ _ (by assumption))) ?_
  refine ab (bq rfl rfl)<|ag ?_
  refine az rfl (fun hb2=>?_) (fun hb2=>?_)
  ·have hb2_:=bY hb2
   refine ae hP<|ak rfl<|ak rfl<|ab (ah (dH _ _ (by assumption))) ?_
   refine ak rfl<|ak rfl<|ab (ah (dH _ _ (by assumption))) ?_
   refine ab (bK rfl rfl)<|aj rfl<|ag<|am<|E1 rfl rfl ?_
   exact aT (zg ha hb hb1_ he hb2_)
  have hb2_:=bS hb2
  refine au<|aw hP<|ak rfl<|ab (bD rfl rfl (by first | exact iW0 _ (by omega) | rfl)) ?_
  refine aj rfl<|ag ?_
  exact ⟨k - 1,⟨by omega,xD ha hb hb1_ he hb2_⟩,by omega,aD ⟨.refl _,.refl _,aM (by omega),trivial⟩ trivial⟩
 have hb1_:=dF0 hb1
 refine aZ<|ae hP<|aj rfl<|ag<|am<|E1 rfl rfl ?_
 have h0:k=0:=by omega
 subst h0
 exact aT (decide_eq_true (by simpa using Nat.le_of_eq he.symm)).symm
theorem Gb (l:List Nat) (hl:okW l) (hll:l.length≤4398046511104) :
  CallM Tryz.prog 241 [.vec 0] (upd O 0 (some (WB 105 l))) (.t []) (upd O 0 (some (WB 105 (dgs l.length (wv l / 2))))):=by
 refine mn (np:=1) Tryz.func241 (by kernel_rfl) rfl rfl (bL0 rfl) qh oC rfl ?_
 refine ae hP<|aj rfl<|ag<|aA<|bg (ι:=Nat) (fun i=>stL [(0,.vec 0),(2,Z (i:Int))] [(0,WB 105 (hlf l i))]) (fun i=>i≤l.length) (fun i=>l.length - i) 0 (Nat.zero_le _) (aD ⟨.refl _,.refl _,trivial⟩ ⟨congrArg (fun z=>some (WB 105 z)) (Cu l).symm,trivial⟩) ?_
 intro i hi
 have hlen:=G9 l hi
 have hok:=Kf hl i
 have hwi:=dX hok (i:Int)
 have hwj:=dX hok ((i:Int)+1)
 refine ao<|ae hP<|ak rfl<|ab (aB (rfl:_=AV.vec _))<|ab (ff hT rfl rfl rfl rfl)<|ab (bi rfl rfl)<|ag ?_
 refine az rfl (fun hb1=>?_) (fun hb1=>?_)
 ·have hb1_:=dT0 hb1
  have hlt:i < l.length:=by omega
  refine au<|ao<|aA<|aw hP<|ab (aB (rfl:_=AV.vec _))<|ak rfl<|ab (aB (rfl:_=AV.vec _))<|ak rfl<|ab (Eff.borrow (.vecW rfl (.same .nil)) (dH (hlf l i) _ hok)) ?_
  refine ab (dh (j:=1) rfl rfl (by decide)) ?_
  refine ab (aB (rfl:_=AV.vec _))<|ak rfl<|bv rfl rfl ?_
  refine ab (Eff.borrow (.vecW rfl (.same .nil)) (dH (hlf l i) _ hok)) ?_
  refine ab (gZ (j:=31) rfl rfl (by decide) rfl) ?_
  refine ab (mQ rfl rfl rfl (fZ (by omega)) (fZ (Nat.mod_lt _ (by decide)))) ?_
  refine ab (bl hT rfl rfl rfl rfl (eD _)) ?_
  refine de ?_
  refine du ai (cw hT rfl rfl rfl rfl rfl (by first | omega | (simp;omega)) (show (hlf l i).set i _=hlf l (i+1) by rw [Ab (Int.le_refl _) (by omega),Ab (by omega) (by omega),Ac hl];exact G8 hlt)) ?_
  refine ag<|aw hP<|ak rfl<|bv rfl rfl ?_
  refine aj rfl<|ag ?_
  exact ⟨i+1,by show i+1≤l.length;omega,by show l.length - (i+1) < l.length - i;omega,aD ⟨.refl _,aM (by omega),trivial⟩ ⟨rfl,trivial⟩⟩
 have hb1_:=dF0 hb1
 have hie:i=l.length:=by omega
 refine aZ ?_
 refine nf rfl (.inl rfl)  ?_ (oO ?_)
 exact .refl _
 exact congrArg (fun z=>some (WB 105 z)) (by rw [hie,Hb])
theorem F0 (a b:List Nat) (ha:okW a) (hb:okW b) (hla:a.length≤4398046511104) (hab:wv b≤wv a) :
  CallM Tryz.prog 240 [.vec 0,.vec 1] (upd (upd O 0 (some (WB 105 a))) 1 (some (WB 105 b))) (.t []) (upd (upd O 0 (some (WB 105 (dgs a.length (wv a - wv b))))) 1 (some (WB 105 b))):=by
 refine mn (np:=2) Tryz.func240 (by kernel_rfl) rfl rfl (bL0 rfl) EL A2 rfl ?_
 refine ae hP<|aj rfl<|ag<|ae hP<|aj rfl<|ag<|aA<|bg (ι:=List Nat × Nat) (fun p=>stL [(0,.vec 0),(1,.vec 1),(4,.p (.c (.v (.int .u64 ((p.2:Nat):Int))))),(5,Z ((p.1.length:Nat):Int))] [(0,WB 105 (p.1 ++ a.drop p.1.length)),(1,WB 105 b)]) (fun p=>p.1.length≤a.length∧okW p.1∧p.2≤1∧wv p.1+wv (b.take p.1.length)=wv (a.take p.1.length)+4294967296 ^ p.1.length*p.2) (fun p=>a.length - p.1.length) ([],0) ⟨Nat.zero_le _,okW.nil,by decide,by simp [wv]⟩ (aD ⟨.refl _,.refl _,.refl _,.refl _,trivial⟩ ⟨rfl,rfl,trivial⟩) ?_
 rintro p ⟨hll,hol,hc,hv⟩
 have hmid:=qF hll
 have hwb:=dX hb (p.1.length:Nat)
 refine ao<|ae hP<|ak rfl<|ab (aB (rfl:_=AV.vec _))<|ab (ff hT rfl rfl rfl rfl)<|ab (bi rfl rfl)<|ag ?_
 refine az rfl (fun hb1=>?_) (fun hb1=>?_)
 ·have hb1_:=dT0 hb1
  have hlt:p.1.length < a.length:=by omega
  have hal:=ha.getD p.1.length
  have htx:=(yX ha hb hc hlt).1
  refine au<|ao<|aA<|ae hP<|ab (aB (rfl:_=AV.vec _))<|ak rfl<|de ?_
  refine ab (dy hT rfl rfl rfl rfl (by first | omega | (simp;omega)) (qG hlt)) ?_
  refine ab (bl hT rfl rfl rfl rfl (cZ (by omega))) ?_
  refine ab (bL rfl rfl (c:=((4294967296+a.getD p.1.length 0:Nat):Int)) (by rw [IntWalk.u64_in _ (by omega)];omega)) ?_
  refine ab (aB (rfl:_=AV.vec _))<|ak rfl<|ab (Eff.borrow (.vecW rfl (.same .nil)) (dH b _ hb)) ?_
  refine ab (bD rfl rfl (c:=((4294967296+a.getD p.1.length 0 - wd b (p.1.length:Nat):Nat):Int)) (by rw [IntWalk.u64_in _ (by omega)];omega)) ?_
  refine ak rfl<|ab (bD rfl rfl (c:=((4294967296+a.getD p.1.length 0 - wd b (p.1.length:Nat) - p.2:Nat):Int)) (by rw [IntWalk.u64_in _ (by omega)];omega)) ?_
  refine aj rfl<|ag<|ae hP<|ab (aB (rfl:_=AV.vec _))<|ak rfl<|ak rfl<|ab (bl hT rfl rfl rfl rfl (eD _)) ?_
  refine de ?_
  refine du ai (cw hT rfl rfl rfl rfl rfl (by first | omega | (simp;omega)) (qE hlt)) ?_
  refine ag<|aw hP<|ak rfl<|ab (dh (j:=32) rfl rfl (by decide)) ?_
  refine ab (bD rfl rfl (c:=((1 - (4294967296+a.getD p.1.length 0 - wd b (p.1.length:Nat) - p.2) / 4294967296:Nat):Int)) (by rw [IntWalk.u64_in _ (by omega)];omega)) ?_
  refine aj rfl<|ag<|aw hP<|ak rfl<|bv rfl rfl ?_
  refine aj rfl<|ag ?_
  have hx:=(yX ha hb hc hlt).2
  have hr:=ov ha hb hc hv
  rw [← hx] at hr
  refine ⟨(p.1 ++ [(4294967296+a.getD p.1.length 0 - wd b (p.1.length:Nat) - p.2) % 4294967296],1 - (4294967296+a.getD p.1.length 0 - wd b (p.1.length:Nat) - p.2) / 4294967296),⟨?_,hol.snoc (Nat.mod_lt _ (by decide)),Nat.sub_le _ _,by simpa using hr⟩,?_,aD ⟨.refl _,.refl _,.refl _,aM (by simp),trivial⟩ ⟨rfl,rfl,trivial⟩⟩
  ·simp only [List.length_append,List.length_cons,List.length_nil];omega
  simp only [List.length_append,List.length_cons,List.length_nil];omega
 have hb1_:=dF0 hb1
 have hge:p.1.length=a.length:=by omega
 refine aZ ?_
 refine nf rfl (.inl rfl)  ?_ (B5 ?_ rfl)
 exact .refl _
 exact congrArg (fun z=>some (WB 105 z)) (BB ha hb hol hge hab hv)
theorem zp (m:Nat) (l:List Nat) (hl:okW l) (hll:l.length≤4398046511104):CallM Tryz.prog 241 [.vec m] (upd O m (some (WB 105 l))) (.t []) (upd O m (some (WB 105 (dgs l.length (wv l / 2))))):=CallM.ren1 m (Gb l hl hll) rfl rfl
theorem Je (m k:Nat) (hmk:Nat.beq m k=false) (a b:List Nat) (ha:okW a) (hb:okW b) (hla:a.length≤4398046511104) (hab:wv b≤wv a):CallM Tryz.prog 240 [.vec m,.vec k] (upd (upd O m (some (WB 105 a))) k (some (WB 105 b))) (.t []) (upd (upd O m (some (WB 105 (dgs a.length (wv a - wv b))))) k (some (WB 105 b))):=CallM.ren2 m k hmk (F0 a b ha hb hla hab) rfl rfl
end
section
open Go Go.AM
theorem wj (a:Nat) (h:(wl a).length≤1099511627776):aJ Tryz.prog 224 [.p (.a [zn 0,nt a])] (Z (bn a)):=by
 have h:aJ Tryz.prog 224 [.p (.a [zn (a:Int),nt a])] (Z (bn a)):=zq (a:Int) (Dc h)
 rw [HT] at h
 exact h
theorem BR (a b:Nat) (hla:(wl a).length≤1099511627776) (hlb:(wl b).length≤1099511627776) (hb:0 < b) :
  aJ Tryz.prog 210 [.p (.c (nt a)),.p (.c (nt b))] (.p (.a [W (qL a b),W (rL a b)])):=by
 have hba:=va hla
 have hbb:=va hlb
 refine aO Tryz.func210 rfl rfl rfl rfl ?_
 refine ae hP<|aq ai (aC hT rfl rfl)<|ag<|cy (ι:=Unit) (fun _=>stL [(0,.p (.c (nt a))),(1,.p (.c (nt b))),(4,.loc 4 0)] [(4,⟨false,1,236,[.sl 0 [],.sl 0 []]⟩)]) (fun _=>¬ ((wl a).length≤2∧(wl b).length≤2)) ?_ ?_
 ·refine ae hP<|ak rfl<|ab (aU hT rfl rfl rfl rfl)<|ab (eX rfl rfl)<|ak rfl ?_
  refine aW (t:=15) rfl (fun hg1=>?_) (fun hg1=>?_)
  ·have hg1_:=dT0 hg1
   have hl1:(wl a).length≤2:=by have:=dT0 hg1;omega
   refine ay hg1 (aB (rfl:_=AV.p (.c _))) ?_
   refine ay hg1 (aU hT rfl rfl rfl rfl) ?_
   refine ay hg1 (eX rfl rfl) ?_
   refine ab (aN rfl hg1 (rfl:_=AV.p (.c _)))<|ag ?_
   refine az rfl (fun hb2=>?_) (fun hb2=>?_)
   ·have hb2_:=dT0 hb2
    have hl2:(wl b).length≤2:=by have:=dT0 hb2;omega
    have ha64:=lv hl1
    have hb64:=lv hl2
    have hdv:=Nat.div_le_self a b
    have hmd:=Nat.mod_le a b
    refine ae hP<|ak rfl<|ab (ah (dH _ _ (bG _))) ?_
    refine ak rfl<|ab (ah (dH _ _ (bG _))) ?_
    refine ab (gZ (j:=32) rfl rfl (by decide) rfl) ?_
    refine ab (jX rfl rfl (Ch hl1)) ?_
    refine aj rfl<|ag<|ae hP<|ak rfl<|ab (ah (dH _ _ (bG _))) ?_
    refine ak rfl<|ab (ah (dH _ _ (bG _))) ?_
    refine ab (gZ (j:=32) rfl rfl (by decide) rfl) ?_
    refine ab (jX rfl rfl (Ch hl2)) ?_
    refine aj rfl<|ag<|ae hP<|ak rfl<|ak rfl<|ab (cO rfl rfl (by omega) (c:=((a / b:Nat):Int)) (by rw [Int.tdiv_eq_ediv_of_nonneg (by omega),← Int.natCast_ediv,cZ (by omega)])) ?_
    refine ab (bl hT rfl rfl rfl rfl (eD _)) ?_
    refine ak rfl<|ak rfl<|ab (cO rfl rfl (by omega) (c:=((a / b:Nat):Int)) (by rw [Int.tdiv_eq_ediv_of_nonneg (by omega),← Int.natCast_ediv,cZ (by omega)])) ?_
    refine ab (dh (j:=32) rfl rfl (by decide)) ?_
    refine ab (bl hT rfl rfl rfl rfl (kO (by omega))) ?_
    refine ab (bd hT rfl rfl rfl (es:=[_,_]) rfl rfl rfl)<|ak rfl<|ak rfl<|ab (bJ rfl rfl (by omega) (c:=((a % b:Nat):Int)) (by rw [Int.tmod_eq_emod_of_nonneg (by omega),← Int.natCast_emod])) ?_
    refine ab (bl hT rfl rfl rfl rfl (eD _)) ?_
    refine ak rfl<|ak rfl<|ab (bJ rfl rfl (by omega) (c:=((a % b:Nat):Int)) (by rw [Int.tmod_eq_emod_of_nonneg (by omega),← Int.natCast_emod])) ?_
    refine ab (dh (j:=32) rfl rfl (by decide)) ?_
    refine ab (bl hT rfl rfl rfl rfl (kO (by omega))) ?_
    refine ab (bd hT rfl rfl rfl (es:=[_,_]) rfl rfl rfl)<|ab (a6 hT rfl rfl rfl (es:=[_,_]) rfl)<|aI hT rfl<|ag<|am<|E2 hT rfl rfl rfl rfl rfl rfl rfl ?_
    exact aH (by unfold qL rL;rw [if_pos ⟨hl1,hl2⟩,if_pos ⟨hl1,hl2⟩];rfl)
   have hb2_:=dF0 hb2
   have hl2:¬ (wl b).length≤2:=by have:=dF0 hb2;omega
   have hsm:¬ ((wl a).length≤2∧(wl b).length≤2):=fun x=>hl2 x.2
   refine au ?_
   exact ⟨(),hsm,aD ⟨.refl _,.refl _,.refl _,trivial⟩ ⟨rfl,trivial⟩⟩
  have hg1_:=dF0 hg1
  have hl1:¬ (wl a).length≤2:=by have:=dF0 hg1;omega
  have hsm:¬ ((wl a).length≤2∧(wl b).length≤2):=fun x=>hl1 x.1
  iterate 3 refine aX hg1 ?_
  refine ab (aK rfl hg1 (rfl:_=AV.p (.c _)))<|ag<|aQ rfl rfl<|au ?_
  exact ⟨(),hsm,aD ⟨.refl _,.refl _,.refl _,trivial⟩ ⟨rfl,trivial⟩⟩
 rintro _ hsm
 refine ae hP<|aq ai (ji hT rfl rfl rfl rfl (ws:=[]) rfl rfl rfl) ?_
 refine ak rfl<|RK.app ai (iK hT rfl rfl rfl rfl rfl rfl rfl (xs:=wl a) rfl (by simp only [List.length_nil];omega) (by decide)) ?_
 refine ab (a7 (rfl:_=AV.vec _))<|ag<|ae hP<|ak rfl<|ab (a6 hT rfl rfl rfl (es:=[_,_]) rfl)<|ab (ah (wj a hla)) ?_
 refine ak rfl<|ab (a6 hT rfl rfl rfl (es:=[_,_]) rfl)<|ab (ah (wj b hlb)) ?_
 refine ab (bD rfl rfl (by first | exact iW0 _ (by omega) | rfl)) ?_
 refine aj rfl<|ag<|ao<|ae hP<|ak rfl<|ab (bi rfl rfl)<|ag ?_
 refine az rfl (fun hb3=>?_) (fun hb3=>?_)
 ·have hb3_:=dT0 hb3
  have hneg:bn a < bn b:=by omega
  refine cJ (t:=7) rfl rfl ?_
  refine ae hP<|ak rfl<|ab (a6 hT rfl rfl rfl (es:=[_,_]) rfl)<|aI hT rfl<|ag<|am<|E2 hT rfl rfl rfl rfl rfl rfl rfl ?_
  exact CN hsm hneg
 have hb3_:=dF0 hb3
 have hnn:bn b≤bn a:=by omega
 obtain ⟨N,hN⟩:∃ N,N=bn a - bn b:=⟨_,rfl⟩
 refine au<|dq (t:=stL [(0,.p (.c (nt a))),(1,.p (.c (nt b))),(4,.loc 4 0),(7,.vec 55),(8,Z (N:Int))] [(4,⟨false,1,236,[.sl 0 [],.sl 0 []]⟩),(55,WB 105 (wl a))]) (aD ⟨.refl _,.refl _,.refl _,.refl _,aM (by omega),trivial⟩ ⟨rfl,rfl,trivial⟩) ?_
 refine ae hP<|ak rfl<|ab (cO rfl rfl (by decide) (c:=((N / 32:Nat):Int)) (by rw [Int.tdiv_eq_ediv_of_nonneg (by omega),iW0 _ (by omega)];omega)) ?_
 refine ab (bL rfl rfl (c:=((N / 32+1:Nat):Int)) (by rw [iW0 _ (by omega)];omega)) ?_
 refine aq ai (eJ hT rfl rfl rfl rfl rfl rfl rfl rfl (by omega)) ?_
 refine ab (a7 (rfl:_=AV.vec _))<|ag<|ae hP<|ak rfl<|ak rfl<|aq ai (Eff.callV (wi (wl b) N (bG _) hlb (by omega))) ?_
 refine ab (a7 (rfl:_=AV.vec _))<|ag<|ao<|ae hP<|ak rfl<|aj rfl<|ag<|aA<|bg (ι:=Nat × Nat × Nat) (fun ⟨j,Q,R⟩=>stL [(4,.loc 4 0),(7,.vec 55),(9,.vec 70),(10,.vec 73),(11,Z ((j:Int) - 1))] [(4,⟨false,1,236,[.sl 0 [],.sl 0 []]⟩),(55,WB 105 (dgs (wl a).length R)),(70,WB 105 (dgs (N / 32+1) Q)),(73,WB 105 (dgs (N / 32+(wl b).length+1) (b*2 ^ j / 2)))]) (fun ⟨j,Q,R⟩=>j≤N+1∧Q < 4294967296 ^ (N / 32+1)∧Dv a b j Q R) (fun ⟨j,_,_⟩=>j) (N+1,0,a) ⟨Nat.le_refl _,Nat.pow_pos (by decide),hN ▸ Dv.start hb hnn⟩ (aD ⟨.refl _,.refl _,.refl _,.refl _,aM (by omega),trivial⟩ ⟨rfl,congrArg (fun z=>some (WB 105 z)) (Al a).symm,congrArg (fun z=>some (WB 105 z)) (by rw [CQ];rfl),congrArg (fun z=>some (WB 105 z)) (by rw [bH,gQ (by omega),Nat.add_sub_cancel]),trivial⟩) ?_
 rintro ⟨j,Q,R⟩ ⟨hj,hQ,hD⟩
 have hRa:R < 4294967296 ^ (wl a).length:=Nat.lt_of_le_of_lt hD.le (dx a)
 have hDl:=NQ hb hj
 refine ao<|ae hP<|ak rfl<|ab (dm rfl rfl)<|ag ?_
 refine az rfl (fun hb4=>?_) (fun hb4=>?_)
 ·have hb4_:=dT0 hb4
  have hj0:0 < j:=by omega
  have hset:=FM (m:=(N / 32+1)) (Q:=Q) (i:=j - 1) (by omega) (by rw [show j - 1+1=j by omega];exact hD.mul) hQ
  have hkk:((j:Int) - 1)=((j - 1:Nat):Int):=by omega
  refine au<|ao<|aA<|ao<|ae hP<|ab (aB (rfl:_=AV.vec _))<|ab (aB (rfl:_=AV.vec _))<|ab (Eff.borrow (.vecW rfl (.vecW rfl .nil)) (zo _ _ (dZ _ _) (dZ _ _) (by rw [bZ];omega) (by rw [bZ];omega))) ?_
  refine ag ?_
  refine az rfl (fun hb5=>?_) (fun hb5=>?_)
  ·have hle:=zf hRa hDl hb5
   rw [gQ hj0] at hle
   refine ae hP<|ab (aB (rfl:_=AV.vec _))<|ab (aB (rfl:_=AV.vec _))<|RK.mutL ai (Eff.call (rd:=[55,73]) (Je 55 73 rfl (dgs (wl a).length R) (dgs (N / 32+(wl b).length+1) (b*2 ^ j / 2)) (dZ _ _) (dZ _ _) (by rw [bZ];omega) (by rw [dU _ _ hRa,dU _ _ hDl,gQ hj0];exact hle)) (Nj rfl rfl rfl) A1) ?_
   refine ag<|aw hP<|ab (aB (rfl:_=AV.vec _))<|ak rfl<|ab (cO rfl rfl (by decide) (c:=(((j - 1) / 32:Nat):Int)) (by rw [hkk,Int.tdiv_eq_ediv_of_nonneg (by omega),iW0 _ (by omega)];omega)) ?_
   refine ab (by first | exact gr hT rfl rfl rfl rfl rfl rfl rfl (by rw [bZ];omega) | exact fD hT rfl rfl rfl rfl rfl rfl rfl (by rw [bZ];omega)) ?_
   refine ab (dy hT rfl rfl rfl rfl (by rw [bZ];omega) rfl) ?_
   refine ak rfl<|ab (bJ rfl rfl (by decide) (c:=(((j - 1) % 32:Nat):Int)) (by rw [hkk,Int.tmod_eq_emod_of_nonneg (by omega)];omega)) ?_
   refine ab (bl hT rfl rfl rfl rfl (cZ (by omega))) ?_
   refine ab (lq rfl rfl (by omega) (c:=((2 ^ ((j - 1) % 32):Nat):Int)) (FH (by omega))) ?_
   refine ab (mQ rfl rfl rfl (iP ((dZ _ _).getD _)) (iP (tI (by omega)))) ?_
   refine ab (by first | exact gr hT rfl rfl rfl rfl rfl rfl rfl (by rw [bZ];omega) | exact fD hT rfl rfl rfl rfl rfl rfl rfl (by rw [bZ];omega)) ?_
   refine du ai (cw hT rfl rfl rfl rfl rfl (by rw [bZ];omega) rfl) ?_
   refine ag<|aw hP<|ab (aB (rfl:_=AV.vec _))<|RK.mut ai (Eff.call (rd:=[73]) (zp 73 (dgs (N / 32+(wl b).length+1) (b*2 ^ j / 2)) (dZ _ _) (by rw [bZ];omega)) (kR rfl) iW) ?_
   refine ag<|aw hP<|ak rfl<|ab (bD rfl rfl (by first | exact iW0 _ (by omega) | rfl)) ?_
   refine aj rfl<|ag ?_
   refine ⟨(j - 1,Q+2 ^ (j - 1),R - b*2 ^ (j - 1)),⟨by omega,hset.2.2,hD.yes hj0 hle⟩,by show j - 1 < j;omega,aD ⟨.refl _,.refl _,.refl _,.refl _,aM (by omega),trivial⟩ ⟨rfl,congrArg (fun z=>some (WB 105 z)) (by rw [bZ,dU _ _ hRa,dU _ _ hDl,gQ hj0]),congrArg (fun z=>some (WB 105 z)) hset.1,congrArg (fun z=>some (WB 105 z)) (by rw [bZ,dU _ _ hDl,gQ hj0]),trivial⟩⟩
  have hle:=BP hRa hDl hb5
  rw [gQ hj0] at hle
  refine au<|aw hP<|ab (aB (rfl:_=AV.vec _))<|RK.mut ai (Eff.call (rd:=[73]) (zp 73 (dgs (N / 32+(wl b).length+1) (b*2 ^ j / 2)) (dZ _ _) (by rw [bZ];omega)) (kR rfl) iW) ?_
  refine ag<|aw hP<|ak rfl<|ab (bD rfl rfl (by first | exact iW0 _ (by omega) | rfl)) ?_
  refine aj rfl<|ag ?_
  refine ⟨(j - 1,Q,R),⟨by omega,hQ,hD.no hj0 hle⟩,by show j - 1 < j;omega,aD ⟨.refl _,.refl _,.refl _,.refl _,aM (by omega),trivial⟩ ⟨rfl,rfl,rfl,congrArg (fun z=>some (WB 105 z)) (by rw [bZ,dU _ _ hDl,gQ hj0]),trivial⟩⟩
 have hb4_:=dF0 hb4
 have hj0:j=0:=by omega
 subst hj0
 have hfin:=hD.done
 refine aZ<|cJ (t:=9) rfl rfl ?_
 refine cJ (t:=7) rfl rfl ?_
 refine ae hP<|ak rfl<|ak rfl<|ab (a6 hT rfl rfl rfl (es:=[_,_]) rfl)<|aI hT rfl<|ag<|am<|E2 hT rfl rfl rfl rfl rfl rfl rfl ?_
 exact CO hsm hnn hN hfin
end
section
open Go Go.AM
theorem Ga (neg:Bool) (a b:Nat) (hb:0 < b):aJ Tryz.prog 51 [B neg,.p (.c (W (qL a b)))] (I (sg neg (a / b))):=by
 have h:=fU neg (qL a b) LX
 rwa [Jt hb] at h
theorem F9 (neg:Bool) (a b:Nat):aJ Tryz.prog 51 [B neg,.p (.c (W (rL a b)))] (I (sg neg (a % b))):=by
 have h:=fU neg (rL a b) LV
 rwa [Jl] at h
theorem tA (x y:Int) (hx:L 44 x) (hy:L 44 y) (h0:y≠0) :
  aJ Tryz.prog 173 [I x,I y] (.t [PI (x / y),PI (x % y),PE 0]):=by
 have hq:L 44 (sg (!(decide (x < 0) == decide (y < 0))) (x.natAbs / y.natAbs)):=L.of_le hx (by rw [pq];exact Nat.div_le_self _ _)
 have hr:L 44 (sg (decide (x < 0)) (x.natAbs % y.natAbs)):=L.of_le hx (by rw [pq];exact Nat.mod_le _ _)
 have iq:LB _ 44:=⟨hq⟩
 have ir:LB _ 44:=⟨hr⟩
 have iy:LB y 44:=⟨hy⟩
 refine aO Tryz.func173 rfl rfl rfl rfl ?_
 refine ae hP<|aq ai (aL rfl rfl)<|aq ai (aL rfl rfl)<|aq ai (aC hT rfl rfl)<|aq ai (aC hT rfl rfl)<|aj rfl<|ag<|ao<|ae hP<|aG hT rfl<|a8 hT rfl rfl rfl rfl ?_
 refine ab (aU hT rfl rfl rfl rfl)<|ab (bh rfl rfl)<|ag ?_
 refine az rfl (fun hb1=>?_) (fun hb1=>?_)
 ·have hb1_:=bT hb1
  exact absurd (wl_len_zero.1 hb1_) h0
 have hb1_:=bF hb1
 refine au<|ae hP<|aG hT rfl<|a8 hT rfl rfl rfl rfl ?_
 refine aG hT rfl<|a8 hT rfl rfl rfl rfl ?_
 refine ab (ah (BR x.natAbs y.natAbs (sz (hx.mono (by decide))) (sz (hy.mono (by decide))) (by omega))) ?_
 refine aq ai (aC hT rfl rfl)<|aI hT rfl<|ag<|ae hP<|aG hT rfl<|a8 hT rfl rfl rfl rfl ?_
 refine aG hT rfl<|a8 hT rfl rfl rfl rfl ?_
 refine ab (gE hT rfl rfl rfl rfl)<|aG hT rfl<|a8 hT rfl rfl rfl rfl ?_
 refine ab (ah (Ga _ _ _ (by omega))) ?_
 refine aq ai (aC hT rfl rfl)<|aI hT rfl<|ag<|ae hP<|aG hT rfl<|a8 hT rfl rfl rfl rfl ?_
 refine aG hT rfl<|a8 hT rfl rfl rfl rfl ?_
 refine ab (ah (F9 _ _ _)) ?_
 refine aq ai (aC hT rfl rfl)<|aI hT rfl<|ag<|ao<|ae hP<|aG hT rfl<|a8 hT rfl rfl rfl rfl ?_
 refine ag ?_
 refine az rfl (fun hb2=>?_) (fun hb2=>?_)
 ·have e1:=(j6 h0 (dT0 hb2)).1
  have e2:=(j6 h0 (dT0 hb2)).2
  refine ae hP<|av hT rfl<|av hT rfl<|ab (ah (nM _)) ?_
  refine ab (ah (kG _ _ lz lz)) ?_
  refine aI hT rfl<|ag<|ae hP<|aG hT rfl<|a8 hT rfl rfl rfl rfl ?_
  refine ag ?_
  refine az rfl (fun hb3=>?_) (fun hb3=>?_)
  ·rw [j8 hb3] at e1
   refine aw hP<|av hT rfl<|ab (ah (cg _ (by first | assumption | decide))) ?_
   refine ab (ah (kG _ _ lz lz)) ?_
   refine aI hT rfl<|ag<|ae hP<|av hT rfl<|av hT rfl<|aI hT rfl<|aI hT rfl<|aj rfl<|ag<|am ?_
   refine cG rfl (.inr rfl) (aS hT rfl rfl rfl rfl (cs:=[_,_]) rfl rfl) (aS hT rfl rfl rfl rfl (cs:=[_,_]) rfl rfl) (bO rfl) ?_ bu
   exact aH (by rw [← e1,e2];rfl)
  rw [ql h0 hb3] at e1
  refine aw hP<|av hT rfl<|ab (ah (cg _ (by first | assumption | decide))) ?_
  refine ab (ah (pG _ _ lz lz)) ?_
  refine aI hT rfl<|ag<|ae hP<|av hT rfl<|av hT rfl<|aI hT rfl<|aI hT rfl<|aj rfl<|ag<|am ?_
  refine cG rfl (.inr rfl) (aS hT rfl rfl rfl rfl (cs:=[_,_]) rfl rfl) (aS hT rfl rfl rfl rfl (cs:=[_,_]) rfl rfl) (bO rfl) ?_ bu
  exact aH (by rw [← e1,e2])
 have e1:=(j5 h0 (dF0 hb2)).1
 have e2:=(j5 h0 (dF0 hb2)).2
 refine au<|ae hP<|av hT rfl<|av hT rfl<|aI hT rfl<|aI hT rfl<|aj rfl<|ag<|am ?_
 refine cG rfl (.inr rfl) (aS hT rfl rfl rfl rfl (cs:=[_,_]) rfl rfl) (aS hT rfl rfl rfl rfl (cs:=[_,_]) rfl rfl) (bO rfl) ?_ bu
 exact aH (by rw [e1,e2])
theorem pI (x y:Int) (hx:L 44 x) (hy:L 44 y) (h0:y≠0) :
  aJ Tryz.prog 115 [I x,I y] (I (x / y)):=by
 refine aO Tryz.func115 rfl rfl rfl rfl ?_
 refine ae hP<|aq ai (aL rfl rfl)<|aq ai (aL rfl rfl)<|aq ai (aC hT rfl rfl)<|ag<|ae hP<|av hT rfl<|av hT rfl<|ab (ah (tA x y hx hy h0)) ?_
 refine ab (aB (rfl:_=AV.t _))<|ab (aE rfl (v:=.a _) rfl)<|ab (aE rfl (v:=.a _) rfl)<|ab (aE rfl (v:=.c _) rfl)<|aq ai (aC hT rfl rfl)<|aq ai (aC hT rfl rfl)<|aI hT rfl<|aI hT rfl<|aj rfl<|ag<|ae hP<|av hT rfl<|aI hT rfl<|ag<|am<|E2 hT rfl rfl rfl rfl rfl rfl rfl ?_
 exact .refl _
theorem kF (x y:Int) (hx:L 44 x) (hy:L 44 y) (h0:y≠0) :
  aJ Tryz.prog 148 [I x,I y] (I (x % y)):=by
 refine aO Tryz.func148 rfl rfl rfl rfl ?_
 refine ae hP<|aq ai (aL rfl rfl)<|aq ai (aL rfl rfl)<|aq ai (aC hT rfl rfl)<|ag<|ae hP<|av hT rfl<|av hT rfl<|ab (ah (tA x y hx hy h0)) ?_
 refine ab (aB (rfl:_=AV.t _))<|ab (aE rfl (v:=.a _) rfl)<|ab (aE rfl (v:=.a _) rfl)<|ab (aE rfl (v:=.c _) rfl)<|aq ai (aC hT rfl rfl)<|aq ai (aC hT rfl rfl)<|aI hT rfl<|aI hT rfl<|aj rfl<|ag<|ae hP<|av hT rfl<|aI hT rfl<|ag<|am<|E2 hT rfl rfl rfl rfl rfl rfl rfl ?_
 exact .refl _
theorem pH (x y:Int) (hx:L 44 x) (hy:L 44 y) :
  aJ Tryz.prog 154 [I x,I y] (I (Int.gcd x y)):=by
 refine aO Tryz.func154 rfl rfl rfl rfl ?_
 refine ae hP<|aq ai (aL rfl rfl)<|aq ai (aL rfl rfl)<|aq ai (aC hT rfl rfl)<|ag<|ae hP<|av hT rfl<|ab (ah (nM _)) ?_
 refine aI hT rfl<|ag<|ae hP<|av hT rfl<|ab (ah (nM _)) ?_
 refine aI hT rfl<|ag<|ao<|aA<|bg (ι:=Int × Int) (fun p=>stL [(2,.loc 2 0),(3,.loc 3 0),(4,.loc 4 0)] [(2,⟨false,1,29,[zn (p.1),zm (p.1)]⟩),(3,⟨false,1,29,[zn (p.2),zm (p.2)]⟩),(4,⟨false,1,29,[zn (0),zm (0)]⟩)]) (fun p=>L 44 p.1∧L 44 p.2∧0≤p.1∧0≤p.2∧Int.gcd p.1 p.2=Int.gcd x y) (fun p=>p.2.natAbs) ((x.natAbs:Int),(y.natAbs:Int)) ⟨hx.abs,hy.abs,Int.natCast_nonneg _,Int.natCast_nonneg _,by simp [Int.gcd]⟩ (aD ⟨.refl _,.refl _,.refl _,trivial⟩ ⟨rfl,rfl,rfl,trivial⟩) ?_
 rintro ⟨a,b⟩ ⟨ha,hb,ha0,hb0,hg⟩
 refine ao<|ae hP<|aG hT rfl<|a8 hT rfl rfl rfl rfl ?_
 refine ab (aU hT rfl rfl rfl rfl)<|ab (bK rfl rfl)<|ag ?_
 refine az rfl (fun hb1=>?_) (fun hb1=>?_)
 ·have hb1_:=dT0 hb1
  have h0:b≠0:=fun e=>by
   have e2:0 < ((wl b.natAbs).length:Int):=hb1_
   rw [e] at e2;exact absurd e2 (by decide)
  refine au<|aA<|ae hP<|av hT rfl<|av hT rfl<|ab (ah (kF a b ha hb h0)) ?_
  refine aq ai (aC hT rfl rfl)<|aI hT rfl<|ag<|ae hP<|av hT rfl<|aI hT rfl<|ag<|aw hP<|av hT rfl<|aI hT rfl<|ag ?_
  refine ⟨(b,a % b),⟨hb,(ha.emod hb).mono (by decide),hb0,Int.emod_nonneg a h0,?_⟩,?_,aD ⟨.refl _,.refl _,.refl _,trivial⟩ ⟨rfl,rfl,rfl,trivial⟩⟩
  ·rw [← hg];exact uC a b
  have h1:=Int.emod_nonneg a h0
  have h2:=Int.emod_lt a h0
  show (a % b).natAbs < b.natAbs
  omega
 have hb1_:=dF0 hb1
 refine aZ<|ae hP<|av hT rfl<|aI hT rfl<|ag<|am<|E2 hT rfl rfl rfl rfl rfl rfl rfl ?_
 have h0:b=0:=by
  have e2:¬ 0 < ((wl b.natAbs).length:Int):=hb1_
  have:((wl b.natAbs).length:Int)=0:=by omega
  exact wl_len_zero.1 this
 exact Sub.I (by rw [← hg,h0];simp;omega)
theorem Jj (x:Int) (hx:L 40 x) :
  aJ Tryz.prog 193 [I x] (.t [PI (rootV x),PI (if x < 0 then 0 else x - rootV x*rootV x),PE (jW x)]):=by
 have hbl:=Az hx
 have ix:LB x 40:=⟨hx⟩
 refine aO Tryz.func193 rfl rfl rfl rfl ?_
 refine ae hP<|aq ai (aL rfl rfl)<|aq ai (aC hT rfl rfl)<|aq ai (aC hT rfl rfl)<|aj rfl<|ag<|ao<|ae hP<|aG hT rfl<|a8 hT rfl rfl rfl rfl ?_
 refine ag ?_
 refine az rfl (fun hb1=>?_) (fun hb1=>?_)
 ·have hx0:=dT0 hb1
  refine ae hP<|ab (a6 hT rfl rfl rfl (es:=[_,_]) rfl)<|ab (a6 hT rfl rfl rfl (es:=[_,_]) rfl)<|aI hT rfl<|aI hT rfl<|aj rfl<|ag<|am ?_
  refine cG rfl (.inr rfl) (aS hT rfl rfl rfl rfl (cs:=[_,_]) rfl rfl) (aS hT rfl rfl rfl rfl (cs:=[_,_]) rfl rfl) (bO rfl) ?_ bu
  exact aH (by rw [(gM hx0).1,(gM hx0).2,if_pos hx0])
 have hx0:=dF0 hb1
 refine au<|ao<|ae hP<|aG hT rfl<|a8 hT rfl rfl rfl rfl ?_
 refine ab (aU hT rfl rfl rfl rfl)<|ab (bh rfl rfl)<|ag ?_
 refine az rfl (fun hb2=>?_) (fun hb2=>?_)
 ·have hb2_:=bT hb2
  have hz:=wl_len_zero.1 hb2_
  refine ae hP<|ab (a6 hT rfl rfl rfl (es:=[_,_]) rfl)<|ab (a6 hT rfl rfl rfl (es:=[_,_]) rfl)<|aI hT rfl<|aI hT rfl<|aj rfl<|ag<|am ?_
  refine cG rfl (.inr rfl) (aS hT rfl rfl rfl rfl (cs:=[_,_]) rfl rfl) (aS hT rfl rfl rfl rfl (cs:=[_,_]) rfl rfl) (bO rfl) ?_ bu
  exact aH (by rw [hz];rfl)
 have hb2_:=bF hb2
 have hx1:0 < x:=by
  rcases Int.lt_trichotomy x 0 with e | e | e
  ·exact absurd e hx0
  ·exact absurd (wl_len_zero.2 e) hb2_
  exact e
 refine au<|ae hP<|ab (bd hT rfl rfl rfl (es:=[_]) rfl rfl rfl)<|av hT rfl<|ab (ah (zq x lz)) ?_
 refine ab (bL rfl rfl (c:=((bn x.natAbs+1:Nat):Int)) (by rw [iW0 _ (by omega)];omega)) ?_
 refine ab (cO rfl rfl (by decide) (c:=(((bn x.natAbs+1) / 2:Nat):Int)) (by rw [Int.tdiv_eq_ediv_of_nonneg (by omega),iW0 _ (by omega)];omega)) ?_
 refine ab (ah (Jh [1] ((bn x.natAbs+1) / 2) wC (by decide) (by omega))) ?_
 refine ab (ah (fU _ _ (dZ _ _))) ?_
 refine aq ai (aC hT rfl rfl)<|aI hT rfl<|ag<|aA<|bg (ι:=Int) (fun s=>stL [(1,.loc 1 0),(2,.loc 2 0),(3,.loc 3 0),(5,.loc 5 0)] [(1,⟨false,1,29,[zn (x),zm (x)]⟩),(2,⟨false,1,29,[zn (0),zm (0)]⟩),(3,⟨false,1,29,[zn (0),zm (0)]⟩),(5,⟨false,1,29,[zn (s),zm (s)]⟩)]) (fun s=>0 < s∧rootV x≤s∧s≤2*x) (fun s=>s.toNat) (2 ^ ((bn x.natAbs+1) / 2):Nat) ?_ (aD ⟨.refl _,.refl _,.refl _,.refl _,trivial⟩ ⟨rfl,rfl,rfl,?_,trivial⟩) ?_
 ·exact py hx1
 ·exact congrArg (fun z=>some (⟨false,1,29,[zn z,zm z]⟩:Blk)) (show sg false (wv (dgs _ _))=_ by rw [Cj];rfl)
 intro s hs
 have is:LB s 41:=⟨L.of_le (b:=2*x) (lz (by rfl)) (by omega)⟩
 refine aA<|ae hP<|av hT rfl<|av hT rfl<|av hT rfl<|ab (ah (pI x s lz lz (by omega))) ?_
 refine ab (ah (kG _ _ lz lz)) ?_
 refine ab (ah (cg _ (by first | assumption | decide))) ?_
 refine ab (ah (pI _ 2 lz lz (by decide))) ?_
 refine aq ai (aC hT rfl rfl)<|aI hT rfl<|ag<|ao<|ae hP<|av hT rfl<|av hT rfl<|ab (ah (lU _ _)) ?_
 refine ab (dm rfl rfl)<|ag ?_
 refine az rfl (fun hb3=>?_) (fun hb3=>?_)
 ·have hb3_:=dT0 hb3
  have hge:=kY hb3_
  refine ae hP<|av hT rfl<|av hT rfl<|av hT rfl<|av hT rfl<|ab (ah (dY _ _ lz lz)) ?_
  refine ab (ah (pG _ _ lz lz)) ?_
  refine aI hT rfl<|aI hT rfl<|aj rfl<|ag<|am ?_
  refine cG rfl (.inr rfl) (aS hT rfl rfl rfl rfl (cs:=[_,_]) rfl rfl) (aS hT rfl rfl rfl rfl (cs:=[_,_]) rfl rfl) (bO rfl) ?_ bu
  have e:=xy hx1 hs.1 hs.2.1 hge
  exact aH (by rw [e,gO hx0,if_neg hx0])
 have hb3_:=dF0 hb3
 have hge:=jR hb3_
 refine au<|aw hP<|av hT rfl<|aI hT rfl<|ag ?_
 refine ⟨(s+x / s) / 2,⟨(lQ hx1 hs.1).2,(lQ hx1 hs.1).1,Int.le_trans (Int.le_of_lt hge) hs.2.2⟩,?_,aD ⟨.refl _,.refl _,.refl _,.refl _,trivial⟩ ⟨rfl,rfl,rfl,rfl,trivial⟩⟩
 have h3:=(lQ hx1 hs.1).2
 show ((s+x / s) / 2).toNat < s.toNat
 omega
end
section
open Go Go.AM
theorem qu (x:Int) (hx:L 45 x) :
  aJ Tryz.prog 102 [I x] (B true):=by
 have hlen:=sz hx
 refine aO Tryz.func102 rfl rfl rfl rfl ?_
 refine ae hP<|aq ai (aL rfl rfl)<|aj rfl<|ag<|ae hP<|aG hT rfl<|a8 hT rfl rfl rfl rfl ?_
 refine ab (aU hT rfl rfl rfl rfl)<|ab (bh rfl rfl)<|ak rfl ?_
 refine aW (t:=7) rfl (fun hg1=>?_) (fun hg1=>?_)
 ·have hg1_:=bT hg1
  refine ay hg1 (aP hT rfl rfl rfl rfl rfl rfl) ?_
  refine ay hg1 (bC hT rfl rfl rfl rfl (by first | rfl | exact dw (by omega))) ?_
  refine ay hg1 (bt rfl) ?_
  refine ab (aN rfl hg1 (rfl:_=AV.p (.c _)))<|ak rfl ?_
  refine aW (t:=12) rfl (fun hg2=>?_) (fun hg2=>?_)
  ·have hg2_:=(bX hg2)
   iterate 5 refine aX hg2 ?_
   iterate 9 refine fk ?_
   refine aX hg2 ?_
   refine ab (aN rfl hg2 (rfl:_=AV.p (.c _)))<|aj rfl<|ag<|am<|E1 rfl rfl ?_
   exact .refl _
  have hg2_:=(bU hg2)
  have h0:=wl_len_zero.1 hg1_
  rw [h0] at hg2
  cases hg2
 have hg1_:=bF hg1
 iterate 3 refine aX hg1 ?_
 refine ab (aK rfl hg1 (rfl:_=AV.p (.c _)))<|ak rfl<|ay rfl (aP hT rfl rfl rfl rfl rfl rfl) ?_
 refine ay rfl (bC hT rfl rfl rfl rfl (by first | rfl | exact dw (by omega))) ?_
 refine ay rfl (aU hT rfl rfl rfl rfl) ?_
 refine ay rfl (bK rfl rfl) ?_
 refine ay rfl (aB (rfl:_=AV.p (.c _))) ?_
 refine aW (t:=17) rfl (fun hg3=>?_) (fun hg3=>?_)
 ·have hg3_:=dT0 hg3
  refine ay hg3 (aP hT rfl rfl rfl rfl rfl rfl) ?_
  refine ay hg3 (bC hT rfl rfl rfl rfl (by first | rfl | exact dw (by omega))) ?_
  refine ay hg3 (aP hT rfl rfl rfl rfl rfl rfl) ?_
  refine ay hg3 (bC hT rfl rfl rfl rfl (by first | rfl | exact dw (by omega))) ?_
  refine ay hg3 (aU hT rfl rfl rfl rfl) ?_
  refine ay hg3 (bD rfl rfl (by first | exact iW0 _ (by omega) | rfl)) ?_
  refine ay hg3 (by first | exact en hT rfl rfl rfl rfl rfl rfl (by omega) | exact b6 hT rfl rfl rfl rfl rfl rfl (by omega) (by first | exact gB (by omega) | simp)) ?_
  refine ay hg3 (bI hT rfl rfl rfl (by first | rfl | exact kN (by omega))) ?_
  refine ay hg3 (bq rfl rfl) ?_
  refine ay rfl (aN rfl hg3 (rfl:_=AV.p (.c _))) ?_
  refine ab (aK rfl rfl (rfl:_=AV.p (.c _)))<|aj rfl<|ag<|am<|E1 rfl rfl ?_
  have h1:(wl x.natAbs).length≠0:=fun e=>hg1_ (by rw [e];rfl)
  have h2:(((wl x.natAbs).length:Int) - 1).toNat=(wl x.natAbs).length - 1:=by omega
  rw [h2]
  have h3:=pj (k:=x.natAbs) (n:=(wl x.natAbs).length - 1) (by omega)
  exact aH (by rw [show ((((wl x.natAbs).getD ((wl x.natAbs).length - 1) 0:Nat):Int) != 0)=true from bne_iff_ne.2 (by omega)])
 have hg3_:=dF0 hg3
 exact absurd (show ((wl x.natAbs).length:Int)=0 by omega) hg1_
theorem pK (a b c:Int) (ha:bp a) (hb:bp b) (hc:bp c) :
  aJ Tryz.prog 79 [Z a,Z b,Z c] (FA a b c):=by
 refine aO Tryz.func79 rfl rfl rfl rfl ?_
 refine ae hP<|aq ai (aC hT rfl rfl)<|ag<|ae hP<|ak rfl<|ab (ah (cg _ (by first | assumption | decide))) ?_
 refine ak rfl<|ab (ah (cg _ (by first | assumption | decide))) ?_
 refine ak rfl<|ab (ah (cg _ (by first | assumption | decide))) ?_
 refine ab (a6 hT rfl rfl rfl (es:=[_,_,_,_,_,_]) rfl)<|aI hT rfl<|ag<|am ?_
 refine bW rfl (.inr rfl) (aS hT rfl rfl rfl rfl (cs:=[_,_,_,_,_,_]) rfl rfl) ?_ bu
 exact .refl _
theorem jH (a b c d:Int) (ha:bp a) (hb:bp b) (hc:bp c) (hd:bp d) :
  aJ Tryz.prog 117 [Z a,Z b,Z c,Z d] (MA a b c d):=by
 refine aO Tryz.func117 rfl rfl rfl rfl ?_
 refine ae hP<|aq ai (aC hT rfl rfl)<|ag<|ae hP<|ak rfl<|ab (ah (cg _ (by first | assumption | decide))) ?_
 iterate 3 refine ak rfl<|ab (ah (cg _ (by first | assumption | decide))) ?_
 refine ab (a6 hT rfl rfl rfl (es:=[_,_,_,_,_,_,_,_]) rfl)<|aI hT rfl<|ag<|am ?_
 refine bW rfl (.inr rfl) (aS hT rfl rfl rfl rfl (cs:=[_,_,_,_,_,_,_,_]) rfl rfl) ?_ bu
 exact .refl _
theorem mK (a b c d:Int) (ha:L 40 a) (hb:L 40 b) (hc:L 40 c) (hd:L 40 d) :
  aJ Tryz.prog 83 [I a,I b,I c,I d] (I (a*b+c*d)):=by
 have ia:LB a 40:=⟨ha⟩
 have ib:LB b 40:=⟨hb⟩
 have ic:LB c 40:=⟨hc⟩
 have id:LB d 40:=⟨hd⟩
 refine aO Tryz.func83 rfl rfl rfl rfl ?_
 refine ae hP<|aq ai (aL rfl rfl)<|aq ai (aL rfl rfl)<|aq ai (aL rfl rfl)<|aq ai (aL rfl rfl)<|aq ai (aC hT rfl rfl)<|ag<|ae hP<|av hT rfl<|av hT rfl<|ab (ah (dY _ _ lz lz)) ?_
 refine av hT rfl<|av hT rfl<|ab (ah (dY _ _ lz lz)) ?_
 refine ab (ah (kG _ _ lz lz)) ?_
 refine aI hT rfl<|ag<|am<|E2 hT rfl rfl rfl rfl rfl rfl rfl ?_
 exact .refl _
theorem jf (a b c:Int) (ha:L 34 a) (hb:L 34 b) (hc:L 34 c) :
  aJ Tryz.prog 24 [FA a b c] (I (dsc a b c)):=by
 have ia:LB a 34:=⟨ha⟩
 have ib:LB b 34:=⟨hb⟩
 have ic:LB c 34:=⟨hc⟩
 refine aO Tryz.func24 rfl rfl rfl rfl ?_
 refine ae hP<|aq ai (aL rfl rfl)<|aq ai (aC hT rfl rfl)<|ag<|ae hP<|aG hT rfl<|av hT rfl<|aG hT rfl<|av hT rfl<|ab (ah (cg _ (by first | assumption | decide))) ?_
 refine aG hT rfl<|av hT rfl<|ab (ah (dY _ _ lz lz)) ?_
 refine aG hT rfl<|av hT rfl<|ab (ah (mK _ _ _ _ lz lz lz lz)) ?_
 refine aI hT rfl<|ag<|am<|E2 hT rfl rfl rfl rfl rfl rfl rfl ?_
 exact Sub.I (LP a b c)
theorem zt (x:Int) (hx:L 40 x) :
  aJ Tryz.prog 150 [I x] (B (fh x)):=by
 have ix:LB x 40:=⟨hx⟩
 refine aO Tryz.func150 rfl rfl rfl rfl ?_
 refine ae hP<|aq ai (aL rfl rfl)<|aj rfl<|ag<|ao<|ae hP<|av hT rfl<|ab (ah (eF _)) ?_
 refine ab (bi rfl rfl)<|ag ?_
 refine az rfl (fun hb1=>?_) (fun hb1=>?_)
 ·have hb1_:=dT0 hb1
  refine ae hP<|aj rfl<|ag<|am<|E1 rfl rfl ?_
  exact aT (xG hb1_)
 have hb1_:=dF0 hb1
 refine au<|ae hP<|av hT rfl<|ab (ah (Jj _ lz)) ?_
 refine ab (aB (rfl:_=AV.t _))<|ab (aE rfl (v:=.a _) rfl)<|ab (aE rfl (v:=.a _) rfl)<|ab (aE rfl (v:=.c _) rfl)<|aq ai (aC hT rfl rfl)<|aq ai (aC hT rfl rfl)<|aI hT rfl<|aI hT rfl<|aj rfl<|ag<|ae hP<|av hT rfl<|ab (ah (eF _)) ?_
 refine ab (bh rfl rfl)<|aj rfl<|ag<|am<|E1 rfl rfl ?_
 exact aT (Ji hb1_)
theorem oK (a b c:Int) (ha:L 34 a) (hb:L 34 b) (hc:L 34 c) :
  aJ Tryz.prog 153 [FA a b c] (Z (ck a b c)):=by
 have ia:LB a 34:=⟨ha⟩
 have ib:LB b 34:=⟨hb⟩
 have ic:LB c 34:=⟨hc⟩
 refine aO Tryz.func153 rfl rfl rfl rfl ?_
 refine ae hP<|aq ai (aL rfl rfl)<|aj rfl<|ag<|ao<|ae hP<|aG hT rfl<|av hT rfl<|ab (ah (qu _ lz)) ?_
 refine ab (bt rfl)<|ak rfl<|ay rfl (aP hT rfl rfl rfl rfl rfl rfl) ?_
 refine ay rfl (aF hT rfl rfl rfl rfl (cs:=[_,_]) rfl rfl) ?_
 refine ay rfl (ah (qu _ lz)) ?_
 refine ay rfl (bt rfl) ?_
 refine ab (aK rfl rfl (rfl:_=AV.p (.c _)))<|ak rfl<|ay rfl (aP hT rfl rfl rfl rfl rfl rfl) ?_
 refine ay rfl (aF hT rfl rfl rfl rfl (cs:=[_,_]) rfl rfl) ?_
 refine ay rfl (ah (qu _ lz)) ?_
 refine ay rfl (bt rfl) ?_
 refine ab (aK rfl rfl (rfl:_=AV.p (.c _)))<|ag<|aQ rfl rfl<|au<|ae hP<|br hT rfl rfl rfl rfl rfl rfl<|ab (ah (jf _ _ _ lz lz lz)) ?_
 refine aq ai (aC hT rfl rfl)<|aI hT rfl<|ag<|ao<|ae hP<|av hT rfl<|ab (ah (zt _ lz)) ?_
 refine ag ?_
 refine az rfl (fun hb3=>?_) (fun hb3=>?_)
 ·refine ae hP<|aj rfl<|ag<|am<|E1 rfl rfl ?_
  exact aM (Ev hb3)
 refine au<|ao<|ae hP<|av hT rfl<|ab (ah (eF _)) ?_
 refine ab (bi rfl rfl)<|ak rfl ?_
 refine aW (t:=27) rfl (fun hg4=>?_) (fun hg4=>?_)
 ·have hg4_:=dT0 hg4
  refine ay hg4 (aP hT rfl rfl rfl rfl rfl rfl) ?_
  refine ay hg4 (aF hT rfl rfl rfl rfl (cs:=[_,_]) rfl rfl) ?_
  refine ay hg4 (ah (eF _)) ?_
  refine ay hg4 (bi rfl rfl) ?_
  refine ab (aN rfl hg4 (rfl:_=AV.p (.c _)))<|ag ?_
  refine az rfl (fun hb5=>?_) (fun hb5=>?_)
  ·have hb5_:=dT0 hb5
   refine ae hP<|aj rfl<|ag<|am<|E1 rfl rfl ?_
   exact aM (BS hb3 hg4_ hb5_)
  have hb5_:=dF0 hb5
  refine au<|ae hP<|aj rfl<|ag<|am<|E1 rfl rfl ?_
  exact aM (Gc hb3 hg4_ hb5_)
 have hg4_:=dF0 hg4
 iterate 4 refine aX hg4 ?_
 refine ab (aK rfl hg4 (rfl:_=AV.p (.c _)))<|ag<|aQ rfl rfl<|au<|ae hP<|aj rfl<|ag<|am<|E1 rfl rfl ?_
 exact aM (Ar hb3 hg4_)
theorem xJ (a b c:Int) (ha:L 44 a) (hb:L 44 b) (hc:L 44 c) :
  aJ Tryz.prog 192 [FA a b c] (I (Int.gcd (Int.gcd a b:Int) c:Int)):=by
 have ia:LB a 44:=⟨ha⟩
 have ib:LB b 44:=⟨hb⟩
 have ic:LB c 44:=⟨hc⟩
 have ig:=AW ha hb
 refine aO Tryz.func192 rfl rfl rfl rfl ?_
 refine ae hP<|aq ai (aL rfl rfl)<|aq ai (aC hT rfl rfl)<|ag<|ae hP<|aG hT rfl<|av hT rfl<|aG hT rfl<|av hT rfl<|ab (ah (pH _ _ lz lz)) ?_
 refine aG hT rfl<|av hT rfl<|ab (ah (pH _ _ lz lz)) ?_
 refine aI hT rfl<|ag<|am<|E2 hT rfl rfl rfl rfl rfl rfl rfl ?_
 exact .refl _
theorem kn (a b c:Int) (ha:L 44 a) (hb:L 44 b) (hc:L 44 c) :
  aJ Tryz.prog 146 [FA a b c] (B (prim a b c)):=by
 have ia:LB a 44:=⟨ha⟩
 have ib:LB b 44:=⟨hb⟩
 have ic:LB c 44:=⟨hc⟩
 refine aO Tryz.func146 rfl rfl rfl rfl ?_
 refine ae hP<|aq ai (aL rfl rfl)<|aj rfl<|ag<|ae hP<|br hT rfl rfl rfl rfl rfl rfl<|ab (ah (xJ _ _ _ lz lz lz)) ?_
 refine ab (ah (cg _ (by first | assumption | decide))) ?_
 refine ab (ah (dI _ _)) ?_
 refine aj rfl<|ag<|am<|E1 rfl rfl ?_
 exact aT (Jf a b c)
theorem lV (a b c x y:Int) (ha:L 36 a) (hb:L 36 b) (hc:L 36 c) (hx:L 36 x) (hy:L 36 y) :
  aJ Tryz.prog 147 [FA a b c,I x,I y] (I (vl a b c x y)):=by
 have ia:LB a 36:=⟨ha⟩
 have ib:LB b 36:=⟨hb⟩
 have ic:LB c 36:=⟨hc⟩
 have ix:LB x 36:=⟨hx⟩
 have iy:LB y 36:=⟨hy⟩
 refine aO Tryz.func147 rfl rfl rfl rfl ?_
 refine ae hP<|aq ai (aL rfl rfl)<|aq ai (aL rfl rfl)<|aq ai (aL rfl rfl)<|aq ai (aC hT rfl rfl)<|ag<|ae hP<|av hT rfl<|aG hT rfl<|av hT rfl<|av hT rfl<|aG hT rfl<|av hT rfl<|av hT rfl<|ab (ah (mK _ _ _ _ lz lz lz lz)) ?_
 refine ab (ah (dY _ _ lz lz)) ?_
 refine aG hT rfl<|av hT rfl<|av hT rfl<|av hT rfl<|ab (ah (dY _ _ lz lz)) ?_
 refine ab (ah (dY _ _ lz lz)) ?_
 refine ab (ah (kG _ _ lz lz)) ?_
 refine aI hT rfl<|ag<|am<|E2 hT rfl rfl rfl rfl rfl rfl rfl ?_
 exact Sub.I (M7 a b c x y)
theorem oL (a b c p q r s:Int) (ha:L 34 a) (hb:L 34 b) (hc:L 34 c) (hp:L 34 p) (hq:L 34 q) (hr:L 34 r) (hs:L 34 s) :
  aJ Tryz.prog 81 [FA a b c,MA p q r s] (FA (vl a b c p r) (apB a b c p q r s) (vl a b c q s)):=by
 have ia:LB a 34:=⟨ha⟩
 have ib:LB b 34:=⟨hb⟩
 have ic:LB c 34:=⟨hc⟩
 have ip:LB p 34:=⟨hp⟩
 have iq:LB q 34:=⟨hq⟩
 have ir:LB r 34:=⟨hr⟩
 have is:LB s 34:=⟨hs⟩
 refine aO Tryz.func81 rfl rfl rfl rfl ?_
 refine ae hP<|aq ai (aL rfl rfl)<|aq ai (aL rfl rfl)<|aq ai (aC hT rfl rfl)<|ag<|ae hP<|ab (ah (cg _ (by first | assumption | decide))) ?_
 refine aq ai (aC hT rfl rfl)<|aI hT rfl<|ag<|ae hP<|av hT rfl<|aG hT rfl<|av hT rfl<|aG hT rfl<|av hT rfl<|aG hT rfl<|av hT rfl<|ab (ah (dY _ _ lz lz)) ?_
 refine ab (ah (dY _ _ lz lz)) ?_
 refine ab (ah (dY _ _ lz lz)) ?_
 refine aG hT rfl<|av hT rfl<|aG hT rfl<|av hT rfl<|aG hT rfl<|av hT rfl<|aG hT rfl<|av hT rfl<|aG hT rfl<|av hT rfl<|ab (ah (mK _ _ _ _ lz lz lz lz)) ?_
 refine ab (ah (dY _ _ lz lz)) ?_
 refine av hT rfl<|aG hT rfl<|av hT rfl<|aG hT rfl<|av hT rfl<|aG hT rfl<|av hT rfl<|ab (ah (dY _ _ lz lz)) ?_
 refine ab (ah (dY _ _ lz lz)) ?_
 refine ab (ah (dY _ _ lz lz)) ?_
 refine ab (ah (kG _ _ lz lz)) ?_
 refine ab (ah (kG _ _ lz lz)) ?_
 refine aq ai (aC hT rfl rfl)<|aI hT rfl<|ag<|ae hP<|br hT rfl rfl rfl rfl rfl rfl<|aG hT rfl<|av hT rfl<|aG hT rfl<|av hT rfl<|ab (ah (lV _ _ _ _ _ lz lz lz lz lz)) ?_
 refine av hT rfl<|br hT rfl rfl rfl rfl rfl rfl<|aG hT rfl<|av hT rfl<|aG hT rfl<|av hT rfl<|ab (ah (lV _ _ _ _ _ lz lz lz lz lz)) ?_
 refine ab (a6 hT rfl rfl rfl (es:=[_,_,_,_,_,_]) rfl)<|aI hT rfl<|ag<|am ?_
 refine bW rfl (.inr rfl) (aS hT rfl rfl rfl rfl (cs:=[_,_,_,_,_,_]) rfl rfl) ?_ bu
 exact aH (by rw [LQ])
theorem lW (p q r s t u v w:Int) (hp:L 38 p) (hq:L 38 q) (hr:L 38 r) (hs:L 38 s) (ht:L 38 t) (hu:L 38 u) (hv:L 38 v) (hw:L 38 w) :
  aJ Tryz.prog 118 [MA p q r s,MA t u v w] (MA (p*t+q*v) (p*u+q*w) (r*t+s*v) (r*u+s*w)):=by
 have ip:LB p 38:=⟨hp⟩
 have iq:LB q 38:=⟨hq⟩
 have ir:LB r 38:=⟨hr⟩
 have is:LB s 38:=⟨hs⟩
 have it:LB t 38:=⟨ht⟩
 have iu:LB u 38:=⟨hu⟩
 have iv:LB v 38:=⟨hv⟩
 have iw:LB w 38:=⟨hw⟩
 refine aO Tryz.func118 rfl rfl rfl rfl ?_
 refine ae hP<|aq ai (aL rfl rfl)<|aq ai (aL rfl rfl)<|aq ai (aC hT rfl rfl)<|ag<|ae hP<|aG hT rfl<|av hT rfl<|aG hT rfl<|av hT rfl<|aG hT rfl<|av hT rfl<|aG hT rfl<|av hT rfl<|ab (ah (mK _ _ _ _ lz lz lz lz)) ?_
 iterate 3 refine aG hT rfl<|av hT rfl<|aG hT rfl<|av hT rfl<|aG hT rfl<|av hT rfl<|aG hT rfl<|av hT rfl<|ab (ah (mK _ _ _ _ lz lz lz lz)) ?_
 refine ab (a6 hT rfl rfl rfl (es:=[_,_,_,_,_,_,_,_]) rfl)<|aI hT rfl<|ag<|am ?_
 refine bW rfl (.inr rfl) (aS hT rfl rfl rfl rfl (cs:=[_,_,_,_,_,_,_,_]) rfl rfl) ?_ bu
 exact .refl _
theorem vt (a b c:Int) (ha:L 34 a) (hb:L 34 b) (hc:L 34 c) :
  aJ Tryz.prog 190 [FA a b c] (B (dfn a b c)):=by
 have ia:LB a 34:=⟨ha⟩
 have ib:LB b 34:=⟨hb⟩
 have ic:LB c 34:=⟨hc⟩
 refine aO Tryz.func190 rfl rfl rfl rfl ?_
 refine ae hP<|aq ai (aL rfl rfl)<|aj rfl<|ag<|ae hP<|br hT rfl rfl rfl rfl rfl rfl<|ab (ah (oK _ _ _ lz lz lz)) ?_
 refine ab (bh rfl rfl)<|ak rfl ?_
 refine aW (t:=6) rfl (fun hg1=>?_) (fun hg1=>?_)
 ·have hg1_:=bT hg1
  refine ay hg1 (aF hT rfl rfl rfl rfl (cs:=[_,_,_,_,_,_]) rfl rfl) ?_
  refine ay hg1 (ah (jf _ _ _ lz lz lz)) ?_
  refine ay hg1 (ah (eF _)) ?_
  refine ay hg1 (bi rfl rfl) ?_
  refine ab (aN rfl hg1 (rfl:_=AV.p (.c _)))<|aj rfl<|ag<|am<|E1 rfl rfl ?_
  exact aT (Hr hg1)
 have hg1_:=bF hg1
 iterate 4 refine aX hg1 ?_
 refine ab (aK rfl hg1 (rfl:_=AV.p (.c _)))<|aj rfl<|ag<|am<|E1 rfl rfl ?_
 exact aT (KD hg1)
theorem lX (a b c:Int) (ha:L 34 a) (hb:L 34 b) (hc:L 34 c) :
  aJ Tryz.prog 145 [FA a b c] (B (rdd a b c)):=by
 have ia:LB a 34:=⟨ha⟩
 have ib:LB b 34:=⟨hb⟩
 have ic:LB c 34:=⟨hc⟩
 refine aO Tryz.func145 rfl rfl rfl rfl ?_
 refine ae hP<|aq ai (aL rfl rfl)<|aj rfl<|ag<|ao<|ae hP<|br hT rfl rfl rfl rfl rfl rfl<|ab (ah (vt _ _ _ lz lz lz)) ?_
 refine ab (bt rfl)<|ak rfl ?_
 refine aW (t:=7) rfl (fun hg1=>?_) (fun hg1=>?_)
 ·have hg1_:=(bX hg1)
  iterate 7 refine aX hg1 ?_
  refine ab (aN rfl hg1 (rfl:_=AV.p (.c _)))<|ak rfl<|aX rfl ?_
  iterate 5 refine aX rfl ?_
  refine ab (aN rfl rfl (rfl:_=AV.p (.c _)))<|ag<|aV rfl rfl<|ae hP<|aj rfl<|ag<|am<|E1 rfl rfl ?_
  exact aT (F8 hg1)
 have hg1_:=(bU hg1)
 refine ay hg1 (aP hT rfl rfl rfl rfl rfl rfl) ?_
 refine ay hg1 (aF hT rfl rfl rfl rfl (cs:=[_,_]) rfl rfl) ?_
 refine ay hg1 (ah (nM _)) ?_
 refine ay hg1 (aP hT rfl rfl rfl rfl rfl rfl) ?_
 refine ay hg1 (aF hT rfl rfl rfl rfl (cs:=[_,_]) rfl rfl) ?_
 refine ay hg1 (ah (lU _ _)) ?_
 refine ay hg1 (bK rfl rfl) ?_
 refine ab (aK rfl hg1 (rfl:_=AV.p (.c _)))<|ak rfl ?_
 refine aW (t:=16) rfl (fun hg2=>?_) (fun hg2=>?_)
 ·have hg2_:=dT0 hg2
  iterate 6 refine aX hg2 ?_
  refine ab (aN rfl hg2 (rfl:_=AV.p (.c _)))<|ag<|aV rfl rfl<|ae hP<|aj rfl<|ag<|am<|E1 rfl rfl ?_
  exact aT (F7 hg2)
 have hg2_:=dF0 hg2
 refine ay hg2 (aP hT rfl rfl rfl rfl rfl rfl) ?_
 refine ay hg2 (aF hT rfl rfl rfl rfl (cs:=[_,_]) rfl rfl) ?_
 refine ay hg2 (aP hT rfl rfl rfl rfl rfl rfl) ?_
 refine ay hg2 (aF hT rfl rfl rfl rfl (cs:=[_,_]) rfl rfl) ?_
 refine ay hg2 (ah (lU _ _)) ?_
 refine ay hg2 (bK rfl rfl) ?_
 refine ab (aK rfl hg2 (rfl:_=AV.p (.c _)))<|ag ?_
 refine az rfl (fun hb3=>?_) (fun hb3=>?_)
 ·have hb3_:=dT0 hb3
  refine ae hP<|aj rfl<|ag<|am<|E1 rfl rfl ?_
  exact aT (F6 hb3)
 have hb3_:=dF0 hb3
 refine au<|ae hP<|aG hT rfl<|av hT rfl<|ab (ah (nM _)) ?_
 refine aG hT rfl<|av hT rfl<|ab (ah (lU _ _)) ?_
 refine ab (bh rfl rfl)<|ak rfl ?_
 refine aW (t:=31) rfl (fun hg4=>?_) (fun hg4=>?_)
 ·have hg4_:=bT hg4
  iterate 6 refine aX hg4 ?_
  refine ab (aN rfl hg4 (rfl:_=AV.p (.c _)))<|aj rfl<|ag<|ae hP<|ak rfl<|ab (bt rfl)<|ak rfl<|bB (bj rfl rfl (congrArg not rfl)) (aP hT rfl rfl rfl rfl rfl rfl) ?_
  refine bB (bj rfl rfl (congrArg not rfl)) (aF hT rfl rfl rfl rfl (cs:=[_,_]) rfl rfl) ?_
  refine bB (bj rfl rfl (congrArg not rfl)) (ah (eF _)) ?_
  refine bB (bj rfl rfl (congrArg not rfl)) (dm rfl rfl) ?_
  refine ab (aK rfl (congrArg not rfl) (rfl:_=AV.p (.c _))) ?_
  refine aj rfl<|ag<|am<|E1 rfl rfl ?_
  exact aT (we hg1 hg2 hb3 (.inl hg4_))
 have hg4_:=bF hg4
 refine ay hg4 (aP hT rfl rfl rfl rfl rfl rfl) ?_
 refine ay hg4 (aF hT rfl rfl rfl rfl (cs:=[_,_]) rfl rfl) ?_
 refine ay hg4 (aP hT rfl rfl rfl rfl rfl rfl) ?_
 refine ay hg4 (aF hT rfl rfl rfl rfl (cs:=[_,_]) rfl rfl) ?_
 refine ay hg4 (ah (lU _ _)) ?_
 refine ay hg4 (bh rfl rfl) ?_
 refine ab (aK rfl hg4 (rfl:_=AV.p (.c _)))<|aj rfl<|ag<|ae hP<|ak rfl<|ab (bt rfl)<|ak rfl ?_
 refine aW (t:=41) rfl (fun hg5=>?_) (fun hg5=>?_)
 ·have hg5_:=bF (bX hg5)
  iterate 4 refine aX hg5 ?_
  refine ab (aN rfl hg5 (rfl:_=AV.p (.c _)))<|aj rfl<|ag<|am<|E1 rfl rfl ?_
  exact aT (F5 hg1 hg2 hb3 hg4_ hg5_)
 have hg5_:=bT (bU hg5)
 refine ay hg5 (aP hT rfl rfl rfl rfl rfl rfl) ?_
 refine ay hg5 (aF hT rfl rfl rfl rfl (cs:=[_,_]) rfl rfl) ?_
 refine ay hg5 (ah (eF _)) ?_
 refine ay hg5 (dm rfl rfl) ?_
 refine ab (aK rfl hg5 (rfl:_=AV.p (.c _)))<|aj rfl<|ag<|am<|E1 rfl rfl ?_
 exact aT (we hg1 hg2 hb3 (.inr hg5_))
theorem ry (a b c:Int) (ha:L 26 a) (hb:L 26 b) (hc:L 26 c) :
  aJ Tryz.prog 91 [FA a b c] (.t [PF (rdF a b c),PM (rdM a b c),PE (rdE a b c)]):=by
 have ia:LB a 26:=⟨ha⟩
 have ib:LB b 26:=⟨hb⟩
 have ic:LB c 26:=⟨hc⟩
 obtain ⟨M,hMa,hMc,hM0,hML⟩:=ha.max2 hc
 refine aO Tryz.func91 rfl rfl rfl rfl ?_
 refine ae hP<|aq ai (aL rfl rfl)<|aq ai (aC hT rfl rfl)<|aq ai (aC hT rfl rfl)<|aj rfl<|ag<|ae hP<|br hT rfl rfl rfl rfl rfl rfl<|ab (ah (oK _ _ _ lz lz lz)) ?_
 refine aj rfl<|ag<|ao<|ae hP<|ak rfl<|ab (bh rfl rfl)<|ak rfl ?_
 refine aW (t:=13) rfl (fun hg1=>?_) (fun hg1=>?_)
 ·have hg1_:=bT hg1
  refine ay hg1 (aF hT rfl rfl rfl rfl (cs:=[_,_,_,_,_,_]) rfl rfl) ?_
  refine ay hg1 (ah (jf _ _ _ lz lz lz)) ?_
  refine ay hg1 (ah (eF _)) ?_
  refine ay hg1 (bK rfl rfl) ?_
  refine ab (aN rfl hg1 (rfl:_=AV.p (.c _)))<|ag ?_
  refine az rfl (fun hb2=>?_) (fun hb2=>?_)
  ·have hb2_:=dT0 hb2
   refine aw hP<|aj rfl<|ag<|ao<|ae hP<|ak rfl<|ab (bq rfl rfl)<|ag<|aV rfl rfl<|ae hP<|ab (a6 hT rfl rfl rfl (es:=[_,_,_,_,_,_]) rfl)<|ab (a6 hT rfl rfl rfl (es:=[_,_,_,_,_,_,_,_]) rfl)<|ak rfl<|aI hT rfl<|aI hT rfl<|aj rfl<|ag<|am ?_
   refine cG rfl (.inr rfl) (aS hT rfl rfl rfl rfl (cs:=[_,_,_,_,_,_]) rfl rfl) (aS hT rfl rfl rfl rfl (cs:=[_,_,_,_,_,_,_,_]) rfl rfl) (bO rfl) ?_ bu
   exact aH (nH (D2 hg1 hb2_) (by decide))
  have hb2_:=dF0 hb2
  refine au<|ao<|ae hP<|ak rfl<|ab (bq rfl rfl)<|ag<|aQ rfl (by rw [bne,hg1];rfl) ?_
  refine au<|ae hP<|ab (ah (jH _ _ _ _ (by first | assumption | decide) (by first | assumption | decide) (by first | assumption | decide) (by first | assumption | decide))) ?_
  refine aq ai (aC hT rfl rfl)<|aI hT rfl<|ag<|ao<|aA ?_
  have he0:=D3 hg1 hb2_
  have hp0:=lj he0
  refine bg (ι:=(Fm × Mt) × Nat) (fun i=>stL [(1,.loc 1 0),(2,.loc 2 0),(3,.loc 3 0),(6,.loc 6 0)] [(1,⟨false,1,46,FL i.1.1.a i.1.1.b i.1.1.c⟩),(2,⟨false,1,46,FL 0 0 0⟩),(3,⟨false,1,87,ML 0 0 0 0⟩),(6,⟨false,1,87,ML i.1.2.a i.1.2.b i.1.2.c i.1.2.d⟩)]) (fun i=>AM.Good ⟨a,b,c⟩ M i.1∧i.1.1.mu≤i.2∧eW i.2 i.1=eW (Fm.mu ⟨a,b,c⟩) (⟨a,b,c⟩,.one)) (fun i=>i.2) ((⟨a,b,c⟩,.one),Fm.mu ⟨a,b,c⟩) ⟨oU hp0 hMa hMc,Nat.le_refl _,rfl⟩ (aD ⟨.refl _,.refl _,.refl _,.refl _,trivial⟩ ⟨rfl,rfl,rfl,rfl,trivial⟩) ?_
  rintro ⟨s,k⟩ ⟨hG,hk,hR⟩
  have hL:=hG.L hp0 hMa hMc hML
  have i1:LB s.1.a 27:=⟨hL.1.a⟩
  have i2:LB s.1.b 27:=⟨hL.1.b⟩
  have i3:LB s.1.c 27:=⟨hL.1.c⟩
  have i4:LB s.2.a 27:=⟨hL.2.a⟩
  have i5:LB s.2.b 27:=⟨hL.2.b⟩
  have i6:LB s.2.c 27:=⟨hL.2.c⟩
  have i7:LB s.2.d 27:=⟨hL.2.d⟩
  have hs0:2*s.1.a≠0:=by
   have h9:0 < s.1.a:=hG.pos.1
   omega
  have i8:LB s.1.k 28:=⟨by unfold Fm.k;exact lz⟩
  refine ao<|ae hP<|br hT rfl rfl rfl rfl rfl rfl<|ab (ah (lX _ _ _ lz lz lz)) ?_
  refine ab (bt rfl)<|ag ?_
  refine az rfl (fun hb3=>?_) (fun hb3=>?_)
  ·have hb3_:=(bX hb3)
   refine au<|aA<|ae hP<|aG hT rfl<|av hT rfl<|aG hT rfl<|av hT rfl<|ab (ah (pG _ _ lz lz)) ?_
   refine ab (ah (cg _ (by first | assumption | decide))) ?_
   refine aG hT rfl<|av hT rfl<|ab (ah (dY _ _ lz lz)) ?_
   refine ab (ah (pI _ _ lz lz hs0)) ?_
   refine aq ai (aC hT rfl rfl)<|aI hT rfl<|ag<|ae hP<|ab (ah (cg _ (by first | assumption | decide))) ?_
   refine av hT rfl<|ab (ah (cg _ (by first | assumption | decide))) ?_
   refine ab (ah (cg _ (by first | assumption | decide))) ?_
   refine ab (a6 hT rfl rfl rfl (es:=[_,_,_,_,_,_,_,_]) rfl)<|aq ai (aC hT rfl rfl)<|aI hT rfl<|ag<|ae hP<|br hT rfl rfl rfl rfl rfl rfl<|ab (aF hT rfl rfl rfl rfl (cs:=[_,_,_,_,_,_,_,_]) rfl rfl)<|ab (ah (oL _ _ _ _ _ _ _ lz lz lz lz lz lz lz)) ?_
   refine ab (aF hT rfl rfl rfl rfl (cs:=[_,_,_,_,_,_,_,_]) rfl rfl)<|ab (aF hT rfl rfl rfl rfl (cs:=[_,_,_,_,_,_,_,_]) rfl rfl)<|ab (ah (lW _ _ _ _ _ _ _ _ lz lz lz lz lz lz lz lz)) ?_
   refine aI hT rfl<|aI hT rfl<|ag<|ae hP<|br hT rfl rfl rfl rfl rfl rfl<|ab (ah (lX _ _ _ lz lz lz)) ?_
   refine ab (bt rfl)<|ag ?_
   refine az rfl (fun hb4=>?_) (fun hb4=>?_)
   ·have hb4_:=(bX hb4)
    refine ae hP<|ab (ah (jH _ _ _ _ (by first | assumption | decide) (by first | assumption | decide) (by first | assumption | decide) (by first | assumption | decide))) ?_
    refine aI hT rfl<|ag<|aw hP<|br hT rfl rfl rfl rfl rfl rfl<|ab (aF hT rfl rfl rfl rfl (cs:=[_,_,_,_,_,_,_,_]) rfl rfl)<|ab (ah (oL _ _ _ _ _ _ _ lz lz lz lz lz lz lz)) ?_
    refine ab (aF hT rfl rfl rfl rfl (cs:=[_,_,_,_,_,_,_,_]) rfl rfl)<|ab (aF hT rfl rfl rfl rfl (cs:=[_,_,_,_,_,_,_,_]) rfl rfl)<|ab (ah (lW _ _ _ _ _ _ _ _ lz lz lz lz lz lz lz lz)) ?_
    refine aI hT rfl<|aI hT rfl<|ag ?_
    have hx:=nI hG hk hR hb3 (DS hb4)
    refine ⟨(((s.1.app (.T s.1.k)).app .S,(s.2.mul (.T s.1.k)).mul .S),k - 1),hx.1,hx.2,aD ⟨.refl _,.refl _,.refl _,.refl _,trivial⟩ ⟨rfl,rfl,rfl,rfl,trivial⟩⟩
   have hb4_:=(bU hb4)
   refine au ?_
   have hx:=nI hG hk hR hb3 (DR hb4)
   refine ⟨((s.1.app (.T s.1.k),s.2.mul (.T s.1.k)),k - 1),hx.1,hx.2,aD ⟨.refl _,.refl _,.refl _,.refl _,trivial⟩ ⟨rfl,rfl,rfl,rfl,trivial⟩⟩
  have hb3_:=(bU hb3)
  refine aZ<|ae hP<|br hT rfl rfl rfl rfl rfl rfl<|ab (aF hT rfl rfl rfl rfl (cs:=[_,_,_,_,_,_,_,_]) rfl rfl)<|aI hT rfl<|aI hT rfl<|aj rfl<|ag<|am ?_
  refine cG rfl (.inr rfl) (aS hT rfl rfl rfl rfl (cs:=[_,_,_,_,_,_]) rfl rfl) (aS hT rfl rfl rfl rfl (cs:=[_,_,_,_,_,_,_,_]) rfl rfl) (bO rfl) ?_ bu
  exact aH (zh he0 (v8 hR hb3))
 have hg1_:=bF hg1
 iterate 4 refine aX hg1 ?_
 refine ab (aK rfl hg1 (rfl:_=AV.p (.c _)))<|ag<|aQ rfl rfl<|au<|ao<|ae hP<|ak rfl<|ab (bq rfl rfl)<|ag<|aV rfl (by rw [bne,hg1];rfl) ?_
 refine ae hP<|ab (a6 hT rfl rfl rfl (es:=[_,_,_,_,_,_]) rfl)<|ab (a6 hT rfl rfl rfl (es:=[_,_,_,_,_,_,_,_]) rfl)<|ak rfl<|aI hT rfl<|aI hT rfl<|aj rfl<|ag<|am ?_
 refine cG rfl (.inr rfl) (aS hT rfl rfl rfl rfl (cs:=[_,_,_,_,_,_]) rfl rfl) (aS hT rfl rfl rfl rfl (cs:=[_,_,_,_,_,_,_,_]) rfl rfl) (bO rfl) ?_ bu
 exact aH (nH (zi hg1).1 (fun e=>by rw [e] at hg1;cases hg1))
theorem tB (a b c p q r:Int) :
  aJ Tryz.prog 43 [FA a b c,FA p q r] (B (decide (a=p∧b=q∧c=r))):=by
 refine aO Tryz.func43 rfl rfl rfl rfl ?_
 refine ae hP<|aq ai (aL rfl rfl)<|aq ai (aL rfl rfl)<|aj rfl<|ag<|ae hP<|aG hT rfl<|av hT rfl<|aG hT rfl<|av hT rfl<|ab (ah (dI _ _)) ?_
 refine ak rfl ?_
 refine aW (t:=10) rfl (fun hg1=>?_) (fun hg1=>?_)
 ·refine ay hg1 (aP hT rfl rfl rfl rfl rfl rfl) ?_
  refine ay hg1 (aF hT rfl rfl rfl rfl (cs:=[_,_]) rfl rfl) ?_
  refine ay hg1 (aP hT rfl rfl rfl rfl rfl rfl) ?_
  refine ay hg1 (aF hT rfl rfl rfl rfl (cs:=[_,_]) rfl rfl) ?_
  refine ay hg1 (ah (dI _ _)) ?_
  refine ab (aN rfl hg1 (rfl:_=AV.p (.c _)))<|ak rfl ?_
  refine aW (t:=17) rfl (fun hg2=>?_) (fun hg2=>?_)
  ·refine ay hg2 (aP hT rfl rfl rfl rfl rfl rfl) ?_
   refine ay hg2 (aF hT rfl rfl rfl rfl (cs:=[_,_]) rfl rfl) ?_
   refine ay hg2 (aP hT rfl rfl rfl rfl rfl rfl) ?_
   refine ay hg2 (aF hT rfl rfl rfl rfl (cs:=[_,_]) rfl rfl) ?_
   refine ay hg2 (ah (dI _ _)) ?_
   refine ab (aN rfl hg2 (rfl:_=AV.p (.c _)))<|aj rfl<|ag<|am<|E1 rfl rfl ?_
   exact aT (yv hg1 (yv hg2 rfl))
  iterate 5 refine aX hg2 ?_
  refine ab (aK rfl hg2 (rfl:_=AV.p (.c _)))<|aj rfl<|ag<|am<|E1 rfl rfl ?_
  exact aT (yv hg1 (Et hg2))
 iterate 5 refine aX hg1 ?_
 refine ab (aK rfl hg1 (rfl:_=AV.p (.c _)))<|ak rfl<|aX rfl ?_
 iterate 4 refine aX rfl ?_
 refine ab (aK rfl rfl (rfl:_=AV.p (.c _)))<|aj rfl<|ag<|am<|E1 rfl rfl ?_
 exact aT (Et hg1)
theorem Gd (b:Nat) (hb:b < 256) :
  aJ Tryz.prog 47 [.p (.c (.v (.int .u8 (b:Int))))] (MA (c9 b).a (c9 b).b (c9 b).c (c9 b).d):=by
 have i1:LB ((b:Int) % 8 - 3) 6:=⟨by unfold L;omega⟩
 have i2:LB ((b:Int) / 8 % 8 - 4) 6:=⟨by unfold L;omega⟩
 refine aO Tryz.func47 rfl rfl rfl rfl ?_
 refine ae hP<|aq ai (aC hT rfl rfl)<|ag<|ae hP<|ak rfl<|ab (bJ rfl rfl (by decide) (c:=(b:Int) % 8) (Int.tmod_eq_emod_of_nonneg (by omega))) ?_
 refine ab (bl hT rfl rfl rfl rfl (iW0 _ (by omega))) ?_
 refine ab (bD rfl rfl (iW0 _ (by omega))) ?_
 refine ab (ah (jH 1 _ 0 1 (by decide) (by unfold bp;omega) (by decide) (by decide))) ?_
 refine aq ai (aC hT rfl rfl)<|aI hT rfl<|ag<|ae hP<|ab (aF hT rfl rfl rfl rfl (cs:=[_,_,_,_,_,_,_,_]) rfl rfl)<|ab (ah (jH _ _ _ _ (by first | assumption | decide) (by first | assumption | decide) (by first | assumption | decide) (by first | assumption | decide))) ?_
 refine ab (ah (lW _ _ _ _ _ _ _ _ lz lz lz lz lz lz lz lz)) ?_
 refine ak rfl<|ab (cO rfl rfl (by decide) (c:=(b:Int) / 8) (by rw [Int.tdiv_eq_ediv_of_nonneg (by omega),IntWalk.u8_in _ (by omega)])) ?_
 refine ab (bJ rfl rfl (by decide) (c:=(b:Int) / 8 % 8) (Int.tmod_eq_emod_of_nonneg (by omega))) ?_
 refine ab (bl hT rfl rfl rfl rfl (iW0 _ (by omega))) ?_
 refine ab (bD rfl rfl (iW0 _ (by omega))) ?_
 refine ab (ah (jH 1 _ 0 1 (by decide) (by unfold bp;omega) (by decide) (by decide))) ?_
 refine ab (ah (lW _ _ _ _ _ _ _ _ lz lz lz lz lz lz lz lz)) ?_
 refine aI hT rfl<|ag<|am ?_
 refine bW rfl (.inr rfl) (aS hT rfl rfl rfl rfl (cs:=[_,_,_,_,_,_,_,_]) rfl rfl) ?_ bu
 exact .refl _
end
section
open Go Go.AM
end
section
open Go Go.AM
theorem JU (z:Int) (hz:bp z) :
  aJ Tryz.prog 247 [Z z] (I z):=by
 refine aO Tryz.func247 rfl rfl rfl rfl ?_
 refine ae hP<|aq ai (aC hT rfl rfl)<|ag<|ae hP<|ak rfl<|ab (ah (eK _ (by first | assumption | decide))) ?_
 refine aI hT rfl<|ag<|am<|E2 hT rfl rfl rfl rfl rfl rfl rfl ?_
 exact .refl _
theorem Eg (x:Int) :
  aJ Tryz.prog 218 [I x] (B (decide (x=1))):=by
 refine aO Tryz.func218 rfl rfl rfl rfl ?_
 refine ae hP<|aq ai (aL rfl rfl)<|aj rfl<|ag<|ae hP<|av hT rfl<|ab (ah (JU _ (by first | assumption | decide))) ?_
 refine ab (ah (dL _ _)) ?_
 refine ab (bh rfl rfl)<|aj rfl<|ag<|am<|E1 rfl rfl ?_
 exact aT (by rw [Bool.eq_iff_iff];simp [cmpI_eq_zero])
theorem yf (x:Int) :
  aJ Tryz.prog 219 [I x] (B (c7 x)):=by
 refine aO Tryz.func219 rfl rfl rfl rfl ?_
 refine ae hP<|aq ai (aL rfl rfl)<|aj rfl<|ag<|ae hP<|aG hT rfl<|a8 hT rfl rfl rfl rfl ?_
 refine ab (aU hT rfl rfl rfl rfl)<|ab (bK rfl rfl)<|ak rfl ?_
 refine aW (t:=7) rfl (fun hg1=>?_) (fun hg1=>?_)
 ·have hg1_:=dT0 hg1
  refine ay hg1 (aP hT rfl rfl rfl rfl rfl rfl) ?_
  refine ay hg1 (bC hT rfl rfl rfl rfl (by first | rfl | exact dw (by omega))) ?_
  refine ay hg1 (by first | exact en hT rfl rfl rfl rfl rfl rfl (by omega) | exact b6 hT rfl rfl rfl rfl rfl rfl (by omega) (by first | exact gB (by omega) | simp)) ?_
  refine ay hg1 (bI hT rfl rfl rfl (by first | rfl | exact kN (by omega))) ?_
  refine ay hg1 (qA (m:=(wl x.natAbs).getD 0 0) (n:=1) rfl rfl rfl (iP ((bG x.natAbs).getD 0)) (by decide)) ?_
  refine ay hg1 (bh rfl rfl) ?_
  refine ab (aN rfl hg1 (rfl:_=AV.p (.c _)))<|aj rfl<|ag<|am<|E1 rfl rfl ?_
  exact aT (GC hg1_)
 have hg1_:=dF0 hg1
 iterate 6 refine aX hg1 ?_
 refine ab (aK rfl hg1 (rfl:_=AV.p (.c _)))<|aj rfl<|ag<|am<|E1 rfl rfl ?_
 exact aT (JO hg1_)
theorem pU (x y:Int) (hx:L 44 x) (hy:L 44 y) (h0:y≠0) :
  aJ Tryz.prog 213 [I x,I y] (I (x % y)):=by
 have ix:LB x 44:=⟨hx⟩
 have iy:LB y 44:=⟨hy⟩
 refine aO Tryz.func213 rfl rfl rfl rfl ?_
 refine ae hP<|aq ai (aL rfl rfl)<|aq ai (aL rfl rfl)<|aq ai (aC hT rfl rfl)<|ag<|ae hP<|av hT rfl<|av hT rfl<|ab (ah (dS _ _ lz lz h0)) ?_
 refine ab (aB (rfl:_=AV.t _))<|ab (aE rfl (v:=.a _) rfl)<|ab (aE rfl (v:=.a _) rfl)<|ab (aE rfl (v:=.c _) rfl)<|aq ai (aC hT rfl rfl)<|aq ai (aC hT rfl rfl)<|aI hT rfl<|aI hT rfl<|aj rfl<|ag<|ae hP<|av hT rfl<|aI hT rfl<|ag<|am<|E2 hT rfl rfl rfl rfl rfl rfl rfl ?_
 exact .refl _
theorem L7 (x y:Int) (hx:L 44 x) (hy:L 44 y) (h0:y≠0) :
  aJ Tryz.prog 248 [I x,I y] (I (x / y)):=by
 have ix:LB x 44:=⟨hx⟩
 have iy:LB y 44:=⟨hy⟩
 refine aO Tryz.func248 rfl rfl rfl rfl ?_
 refine ae hP<|aq ai (aL rfl rfl)<|aq ai (aL rfl rfl)<|aq ai (aC hT rfl rfl)<|ag<|ae hP<|av hT rfl<|av hT rfl<|ab (ah (dS _ _ lz lz h0)) ?_
 refine ab (aB (rfl:_=AV.t _))<|ab (aE rfl (v:=.a _) rfl)<|ab (aE rfl (v:=.a _) rfl)<|ab (aE rfl (v:=.c _) rfl)<|aq ai (aC hT rfl rfl)<|aq ai (aC hT rfl rfl)<|aI hT rfl<|aI hT rfl<|aj rfl<|ag<|ae hP<|av hT rfl<|aI hT rfl<|ag<|am<|E2 hT rfl rfl rfl rfl rfl rfl rfl ?_
 exact .refl _
theorem sG (x m:Int) (hm:m=4∨m=8) :
  aJ Tryz.prog 221 [I x,.p (.c (.v (.int .u32 m)))] (.p (.c (.v (.int .u32 (x % m))))):=by
 have hm0:0 < m∧m < 10:=by omega
 have hb:=Int.emod_nonneg (x.natAbs:Int) (show m≠0 by omega)
 have hb2:=Int.emod_lt_of_pos (x.natAbs:Int) hm0.1
 refine aO Tryz.func221 rfl rfl rfl rfl ?_
 refine ae hP<|aq ai (aL rfl rfl)<|aj rfl<|ag<|ao<|ae hP<|aG hT rfl<|a8 hT rfl rfl rfl rfl ?_
 refine ab (aU hT rfl rfl rfl rfl)<|ab (bh rfl rfl)<|ag ?_
 refine az rfl (fun hb1=>?_) (fun hb1=>?_)
 ·have hb1_:=bT hb1
  refine ae hP<|aj rfl<|ag<|am<|E1 rfl rfl ?_
  exact aH (by rw [Cf hb1_])
 have hb1_:=bF hb1
 refine au<|ae hP<|aG hT rfl<|a8 hT rfl rfl rfl rfl ?_
 refine cK ?_
 refine cH hT rfl rfl rfl ?_
 refine ak rfl<|ab (bJ rfl rfl (by omega) (c:=(x.natAbs:Int) % m) (by rw [Int.tmod_eq_emod_of_nonneg (by omega)];exact GS hm hb1_)) ?_
 refine aj rfl<|ag<|ao<|ae hP<|aG hT rfl<|a8 hT rfl rfl rfl rfl ?_
 refine ak rfl ?_
 refine aW (t:=18) rfl (fun hg2=>?_) (fun hg2=>?_)
 ·refine ay hg2 (aB (rfl:_=AV.p (.c _))) ?_
  refine ay hg2 (bK rfl rfl) ?_
  refine ab (aN rfl hg2 (rfl:_=AV.p (.c _)))<|ag ?_
  refine az rfl (fun hb3=>?_) (fun hb3=>?_)
  ·have hb3_:=dT0 hb3
   refine aw hP<|ak rfl<|ak rfl<|ab (bD rfl rfl (by first | exact IntWalk.u32_in _ (by omega) | rfl)) ?_
   refine aj rfl<|ag<|ae hP<|ak rfl<|aj rfl<|ag<|am<|E1 rfl rfl ?_
   exact aH (by rw [GR hm (dT0 hg2) hb3_])
  have hb3_:=dF0 hb3
  refine au<|ae hP<|ak rfl<|aj rfl<|ag<|am<|E1 rfl rfl ?_
  exact aH (by rw [Cg hm (dT0 hg2) hb3_])
 refine aX hg2 ?_
 refine aX hg2 ?_
 refine ab (aK rfl hg2 (rfl:_=AV.p (.c _)))<|ag<|aQ rfl rfl<|au<|ae hP<|ak rfl<|aj rfl<|ag<|am<|E1 rfl rfl ?_
 exact aH (by rw [GQ (dF0 hg2)])
end
section
open Go Go.AM
theorem zQ (x:Int) (hx:L 40 x) (h0:x≠0) :
  aJ Tryz.prog 220 [I x] (.t [PI (tw x).1,PE (tw x).2]):=by
 refine aO Tryz.func220 rfl rfl rfl rfl ?_
 refine ae hP<|aq ai (aL rfl rfl)<|aq ai (aC hT rfl rfl)<|aj rfl<|ag<|ae hP<|aj rfl<|ag<|ao<|aA<|bg (ι:=Int × Int) (fun p=>stL [(1,.loc 1 0),(2,.loc 2 0),(4,Z p.2)] [(1,⟨false,1,29,[zn (p.1),zm (p.1)]⟩),(2,⟨false,1,29,[zn (0),zm (0)]⟩)]) (fun p=>TwI x p.1 p.2) (fun p=>p.1.natAbs) (x,0) (TwI.start hx h0) (aD ⟨.refl _,.refl _,.refl _,trivial⟩ ⟨rfl,rfl,trivial⟩) ?_
 rintro p hI
 have hlt:=hI.lt hx
 have hk0:=hI.k0
 have ib:LB p.1 40:=⟨hI.lb⟩
 refine ao<|ae hP<|av hT rfl<|ab (ah (yf _)) ?_
 refine ab (bt rfl)<|ag ?_
 refine az rfl (fun hb1=>?_) (fun hb1=>?_)
 ·have hb1_:=(bX hb1)
  refine au<|aA<|ae hP<|av hT rfl<|ab (ah (JU _ (by first | assumption | decide))) ?_
  refine ab (ah (L7 _ _ lz lz (by first | assumption | decide))) ?_
  refine aI hT rfl<|ag<|aw hP<|ak rfl<|bv rfl rfl ?_
  refine aj rfl<|ag ?_
  refine ⟨(p.1 / 2,p.2+1),(hI.next (by simpa using hb1)).1,(hI.next (by simpa using hb1)).2,aD ⟨.refl _,.refl _,.refl _,trivial⟩ ⟨rfl,rfl,trivial⟩⟩
 have hb1_:=(bU hb1)
 refine aZ<|ae hP<|av hT rfl<|ak rfl<|aI hT rfl<|aj rfl<|ag<|am ?_
 refine cz rfl (.inr rfl) (aS hT rfl rfl rfl rfl (cs:=[_,_]) rfl rfl) (bO rfl) ?_ bu
 exact aH (by rw [vP (by simpa using hb1) hI.tw])
theorem jA (a m:Int) (ha:L 40 a) (hm:L 40 m) :
  aJ Tryz.prog 184 [I a,I m] (Z (kr a m)):=by
 have ia:LB a 40:=⟨ha⟩
 have im:LB m 40:=⟨hm⟩
 have hkb:=yl a m
 have hsg:=qJ (x:=a) hkb
 have hsg0:=Int.emod_nonneg a (show (8:Int)≠0 by omega)
 have hsg1:=Int.emod_lt_of_pos a (show (0:Int) < 8 by omega)
 refine aO Tryz.func184 rfl rfl rfl rfl ?_
 refine ae hP<|aq ai (aL rfl rfl)<|aq ai (aL rfl rfl)<|aj rfl<|ag<|ao<|ae hP<|av hT rfl<|ab (ah (dp _)) ?_
 refine ab (bh rfl rfl)<|ag ?_
 refine az rfl (fun hb1=>?_) (fun hb1=>?_)
 ·have hb1_:=bT hb1
  refine ao<|ae hP<|av hT rfl<|ab (ah (nV _)) ?_
  refine ab (ah (Eg _)) ?_
  refine ag ?_
  refine az rfl (fun hb2=>?_) (fun hb2=>?_)
  ·refine ae hP<|aj rfl<|ag<|am<|E1 rfl rfl ?_
   exact aM (Ny (sgn_zero_iff.1 hb1_) (dT0 hb2))
  refine au<|ae hP<|aj rfl<|ag<|am<|E1 rfl rfl ?_
  exact aM (Mf (sgn_zero_iff.1 hb1_) (dF0 hb2))
 have hb1_:=bF hb1
 refine au<|cy (ι:=Unit) (fun _=>stL [(2,.loc 2 0),(3,.loc 3 0)] [(2,⟨false,1,29,[zn (a),zm (a)]⟩),(3,⟨false,1,29,[zn (m),zm (m)]⟩)]) (fun _=>¬ (c7 a=false∧c7 m=false)) ?_ ?_
 ·refine ae hP<|av hT rfl<|ab (ah (yf _)) ?_
  refine ab (bt rfl)<|ak rfl ?_
  refine aW (t:=16) rfl (fun hg3=>?_) (fun hg3=>?_)
  ·have hg3_:=(bX hg3)
   refine ay hg3 (aF hT rfl rfl rfl rfl (cs:=[_,_]) rfl rfl) ?_
   refine ay hg3 (ah (yf _)) ?_
   refine ay hg3 (bt rfl) ?_
   refine ab (aN rfl hg3 (rfl:_=AV.p (.c _)))<|ag ?_
   refine az rfl (fun hb4=>?_) (fun hb4=>?_)
   ·have hb4_:=(bX hb4)
    refine ae hP<|aj rfl<|ag<|am<|E1 rfl rfl ?_
    exact aM (GV (fun e=>hb1_ (sgn_zero_iff.2 e)) hg3_ hb4_)
   have hb4_:=(bU hb4)
   refine au ?_
   refine ⟨(),fun x=>(by rw [x.2] at hb4_;cases hb4_),aD ⟨.refl _,.refl _,trivial⟩ ⟨rfl,rfl,trivial⟩⟩
  have hg3_:=(bU hg3)
  iterate 3 refine aX hg3 ?_
  refine ab (aK rfl hg3 (rfl:_=AV.p (.c _)))<|ag<|aQ rfl rfl<|au ?_
  refine ⟨(),fun x=>(by rw [x.1] at hg3_;cases hg3_),aD ⟨.refl _,.refl _,trivial⟩ ⟨rfl,rfl,trivial⟩⟩
 intro _ hpar
 refine ae hP<|aj rfl<|ag<|cy (ι:=Unit) (fun _=>stL [(2,.loc 2 0),(3,.loc 3 0),(5,Z (k0K a m))] [(2,⟨false,1,29,[zn (a),zm (a)]⟩),(3,⟨false,1,29,[zn ((m.natAbs:Int)),zm ((m.natAbs:Int))]⟩)]) (fun _=>True) ?_ ?_
 ·refine ae hP<|aG hT rfl<|a8 hT rfl rfl rfl rfl ?_
  refine ag ?_
  refine az rfl (fun hb5=>?_) (fun hb5=>?_)
  ·refine ao<|ae hP<|aG hT rfl<|a8 hT rfl rfl rfl rfl ?_
   refine ag ?_
   refine az rfl (fun hb6=>?_) (fun hb6=>?_)
   ·refine aw hP<|aj rfl<|ag<|aw hP<|av hT rfl<|ab (ah (jr _)) ?_
    refine aI hT rfl<|ag ?_
    refine ⟨(),trivial,aD ⟨.refl _,.refl _,aM (by unfold k0K;rw [if_pos ⟨dT0 hb5,dT0 hb6⟩]),trivial⟩ ⟨rfl,by rw [wF (dT0 hb5)];rfl,trivial⟩⟩
   refine au<|aw hP<|av hT rfl<|ab (ah (jr _)) ?_
   refine aI hT rfl<|ag ?_
   refine ⟨(),trivial,aD ⟨.refl _,.refl _,aM (by unfold k0K;rw [if_neg (fun x=>dF0 hb6 x.2)]),trivial⟩ ⟨rfl,by rw [wF (dT0 hb5)];rfl,trivial⟩⟩
  refine au ?_
  refine ⟨(),trivial,aD ⟨.refl _,.refl _,aM (by unfold k0K;rw [if_neg (fun x=>dF0 hb5 x.1)]),trivial⟩ ⟨rfl,by rw [Gr (dF0 hb5)];rfl,trivial⟩⟩
 intro _ _
 have hn0:(m.natAbs:Int)≠0:=fun e=>hb1_ (sgn_zero_iff.2 (by omega))
 refine ae hP<|av hT rfl<|ab (ah (zQ _ lz hn0)) ?_
 refine ab (aB (rfl:_=AV.t _))<|ab (aE rfl (v:=.a _) rfl)<|ab (aE rfl (v:=.c _) rfl)<|aI hT rfl<|aj rfl<|ag<|cy (ι:=Unit) (fun _=>stL [(2,.loc 2 0),(3,.loc 3 0),(5,Z (k1K a m))] [(2,⟨false,1,29,[zn (a),zm (a)]⟩),(3,⟨false,1,29,[zn ((tw (m.natAbs:Int)).1),zm ((tw (m.natAbs:Int)).1)]⟩)]) (fun _=>True) ?_ ?_
 ·refine ae hP<|ak rfl<|ab (bJ rfl rfl (by decide) (c:=(tw (m.natAbs:Int)).2 % 2) (Int.tmod_eq_emod_of_nonneg (by have:=IM (x:=(m.natAbs:Int)) lz hn0;omega))) ?_
  refine ab (bh rfl rfl)<|ag ?_
  refine az rfl (fun hb7=>?_) (fun hb7=>?_)
  ·have hb7_:=bT hb7
   refine aw hP<|ak rfl<|av hT rfl<|ab (ah (sG _ _ (by simp))) ?_
   refine ab (mz hT rfl rfl rfl rfl (.head _) rfl rfl (by omega)) ?_
   refine ab (bI hT rfl rfl rfl (vY a)) ?_
   refine ab (bQ rfl rfl (by first | exact iW0 _ (by omega) | rfl)) ?_
   refine aj rfl<|ag ?_
   refine ⟨(),trivial,aD ⟨.refl _,.refl _,aM (by unfold k1K;rw [if_pos hb7_]),trivial⟩ ⟨rfl,rfl,trivial⟩⟩
  have hb7_:=bF hb7
  refine au ?_
  refine ⟨(),trivial,aD ⟨.refl _,.refl _,aM (by unfold k1K;rw [if_neg hb7_]),trivial⟩ ⟨rfl,rfl,trivial⟩⟩
 intro _ _
 have htw:LB (tw (m.natAbs:Int)).1 40:=IN lz hn0
 have ht0:(tw (m.natAbs:Int)).1≠0:=(gC _ _ (Nat.le_refl _) hn0).2.1
 refine ae hP<|av hT rfl<|av hT rfl<|ab (ah (pU _ _ lz lz ht0)) ?_
 refine aI hT rfl<|ag<|ao<|aA<|bg (ι:=(Int × Int × Int) × Nat) (fun i=>stL [(2,.loc 2 0),(3,.loc 3 0),(5,Z (i.1.1))] [(2,⟨false,1,29,[zn (i.1.2.1),zm (i.1.2.1)]⟩),(3,⟨false,1,29,[zn (i.1.2.2),zm (i.1.2.2)]⟩)]) (fun i=>KrI (RK_ a m) i.2 i.1.1 i.1.2.1 i.1.2.2) (fun i=>i.1.2.1.natAbs) ((k1K a m,a % (tw (m.natAbs:Int)).1,(tw (m.natAbs:Int)).1),_) (KrI.start (fun e=>hb1_ (sgn_zero_iff.2 e)) ha hm) (aD ⟨.refl _,.refl _,.refl _,trivial⟩ ⟨rfl,rfl,trivial⟩) ?_
 rintro i hI
 have h5:=hI.hk
 have j1:LB i.1.2.1 40:=⟨hI.la⟩
 have j2:LB i.1.2.2 40:=⟨hI.ln⟩
 refine ao<|ae hP<|av hT rfl<|ab (ah (dp _)) ?_
 refine ab (bK rfl rfl)<|ag ?_
 refine az rfl (fun hb8=>?_) (fun hb8=>?_)
 ·have hb8_:=dT0 hb8
  have hapos:0 < i.1.2.1:=sgn_gt_iff.1 hb8_
  have hne:i.1.2.1≠0:=by omega
  have hsg2:=qJ (x:=i.1.2.2) h5
  have hkk:=KrI.next hI hapos
  have hw:LB (tw i.1.2.1).1 40:=IN hI.la hne
  have hw0:(tw i.1.2.1).1≠0:=(gC _ _ (Nat.le_refl _) hne).2.1
  have hk1b:=Mj (a:=i.1.2.1) (n:=i.1.2.2) h5
  have hsg0:=Int.emod_nonneg i.1.2.2 (show (8:Int)≠0 by omega)
  have hsg1:=Int.emod_lt_of_pos i.1.2.2 (show (0:Int) < 8 by omega)
  refine au<|aA<|ae hP<|av hT rfl<|ab (ah (zQ _ lz hne)) ?_
  refine ab (aB (rfl:_=AV.t _))<|ab (aE rfl (v:=.a _) rfl)<|ab (aE rfl (v:=.c _) rfl)<|aI hT rfl<|aj rfl<|ag<|cy (ι:=Unit) (fun _=>stL [(2,.loc 2 0),(3,.loc 3 0),(5,Z ((k1F i.1.1 i.1.2.1 i.1.2.2)))] [(2,⟨false,1,29,[zn ((tw i.1.2.1).1),zm ((tw i.1.2.1).1)]⟩),(3,⟨false,1,29,[zn (i.1.2.2),zm (i.1.2.2)]⟩)]) (fun _=>True) ?_ ?_
  ·refine ae hP<|ak rfl<|ab (bJ rfl rfl (by decide) (c:=(tw i.1.2.1).2 % 2) (Int.tmod_eq_emod_of_nonneg (by have:=IM (x:=i.1.2.1) lz hne;omega))) ?_
   refine ab (bh rfl rfl)<|ag ?_
   refine az rfl (fun hb9=>?_) (fun hb9=>?_)
   ·have hb9_:=bT hb9
    refine aw hP<|ak rfl<|av hT rfl<|ab (ah (sG _ _ (by simp))) ?_
    refine ab (mz hT rfl rfl rfl rfl (.head _) rfl rfl (by omega)) ?_
    refine ab (bI hT rfl rfl rfl (vY i.1.2.2)) ?_
    refine ab (bQ rfl rfl (by first | exact iW0 _ (by omega) | rfl)) ?_
    refine aj rfl<|ag ?_
    refine ⟨(),trivial,aD ⟨.refl _,.refl _,aM (by unfold k1F;rw [if_pos hb9_]),trivial⟩ ⟨rfl,rfl,trivial⟩⟩
   have hb9_:=bF hb9
   refine au ?_
   refine ⟨(),trivial,aD ⟨.refl _,.refl _,aM (by unfold k1F;rw [if_neg hb9_]),trivial⟩ ⟨rfl,rfl,trivial⟩⟩
  intro _ _
  refine ao<|ae hP<|av hT rfl<|ab (ah (sG _ _ (by simp))) ?_
  refine ab (bh rfl rfl)<|ak rfl ?_
  refine aW (t:=64) rfl (fun hg10=>?_) (fun hg10=>?_)
  ·have hg10_:=bT hg10
   refine ay hg10 (aF hT rfl rfl rfl rfl (cs:=[_,_]) rfl rfl) ?_
   refine ay hg10 (ah (sG _ _ (by simp))) ?_
   refine ay hg10 (bh rfl rfl) ?_
   refine ab (aN rfl hg10 (rfl:_=AV.p (.c _)))<|ag ?_
   refine az rfl (fun hb11=>?_) (fun hb11=>?_)
   ·have hb11_:=bT hb11
    refine aw hP<|ak rfl<|ab (ew rfl (by first | exact iW0 _ (by omega) | rfl)) ?_
    refine aj rfl<|ag<|aw hP<|av hT rfl<|av hT rfl<|ab (ah (pU _ _ lz lz hw0)) ?_
    refine av hT rfl<|aI hT rfl<|aI hT rfl<|ag ?_
    refine ⟨((k2F (k1F i.1.1 i.1.2.1 i.1.2.2) i.1.2.1 i.1.2.2,i.1.2.2 % (tw i.1.2.1).1,(tw i.1.2.1).1),i.2 - 1),(hI.next hapos).1,(hI.next hapos).2,aD ⟨.refl _,.refl _,aM (by show _=k2F _ _ _;unfold k2F;rw [if_pos ⟨hg10_,hb11_⟩];omega),trivial⟩ ⟨rfl,rfl,trivial⟩⟩
   have hb11_:=bF hb11
   refine au<|aw hP<|av hT rfl<|av hT rfl<|ab (ah (pU _ _ lz lz hw0)) ?_
   refine av hT rfl<|aI hT rfl<|aI hT rfl<|ag ?_
   refine ⟨((k2F (k1F i.1.1 i.1.2.1 i.1.2.2) i.1.2.1 i.1.2.2,i.1.2.2 % (tw i.1.2.1).1,(tw i.1.2.1).1),i.2 - 1),(hI.next hapos).1,(hI.next hapos).2,aD ⟨.refl _,.refl _,aM (by show _=k2F _ _ _;unfold k2F;rw [if_neg (fun x=>hb11_ x.2)]),trivial⟩ ⟨rfl,rfl,trivial⟩⟩
  have hg10_:=bF hg10
  iterate 3 refine aX hg10 ?_
  refine ab (aK rfl hg10 (rfl:_=AV.p (.c _)))<|ag<|aQ rfl rfl<|au<|aw hP<|av hT rfl<|av hT rfl<|ab (ah (pU _ _ lz lz hw0)) ?_
  refine av hT rfl<|aI hT rfl<|aI hT rfl<|ag ?_
  refine ⟨((k2F (k1F i.1.1 i.1.2.1 i.1.2.2) i.1.2.1 i.1.2.2,i.1.2.2 % (tw i.1.2.1).1,(tw i.1.2.1).1),i.2 - 1),(hI.next hapos).1,(hI.next hapos).2,aD ⟨.refl _,.refl _,aM (by show _=k2F _ _ _;unfold k2F;rw [if_neg (fun x=>hg10_ x.1)]),trivial⟩ ⟨rfl,rfl,trivial⟩⟩
 have hb8_:=dF0 hb8
 refine aZ<|ao<|ae hP<|av hT rfl<|ab (ah (Eg _)) ?_
 refine ab (bt rfl)<|ag ?_
 refine az rfl (fun hb12=>?_) (fun hb12=>?_)
 ·have hb12_:=(bX hb12)
  refine ae hP<|aj rfl<|ag<|am<|E1 rfl rfl ?_
  exact aM (by rw [sJ (fun e=>hb1_ (sgn_zero_iff.2 e)) hpar,hI.stop (fun h=>hb8_ (sgn_gt_iff.2 h)),if_neg (dF0 hb12_)])
 have hb12_:=(bU hb12)
 refine au<|ae hP<|ak rfl<|aj rfl<|ag<|am<|E1 rfl rfl ?_
 exact aM (by rw [sJ (fun e=>hb1_ (sgn_zero_iff.2 e)) hpar,hI.stop (fun h=>hb8_ (sgn_gt_iff.2 h)),if_pos (dT0 hb12_)])
end
section
open Go Go.AM
end
section
open Go Go.AM
theorem L9 (a m:Int) (ha:L 40 a) (hm:L 40 m) (h0:0 < m) :
  aJ Tryz.prog 180 [I a,I m] (.t [PI (a % m),PE 0]):=by
 have ia:LB a 40:=⟨ha⟩
 have im:LB m 40:=⟨hm⟩
 refine aO Tryz.func180 rfl rfl rfl rfl ?_
 refine ae hP<|aq ai (aL rfl rfl)<|aq ai (aL rfl rfl)<|aq ai (aC hT rfl rfl)<|aj rfl<|ag<|ao<|ae hP<|av hT rfl<|ab (ah (dp _)) ?_
 refine ab (bi rfl rfl)<|ag<|aQ rfl (decide_eq_false (by have:=sgn_gt_iff.2 h0;omega)) ?_
 refine au<|ae hP<|av hT rfl<|av hT rfl<|ab (ah (pU _ _ lz lz (by omega))) ?_
 refine aI hT rfl<|aj rfl<|ag<|am ?_
 refine cz rfl (.inr rfl) (aS hT rfl rfl rfl rfl (cs:=[_,_]) rfl rfl) (bO rfl) ?_ bu
 exact .refl _
theorem yx (a b c:Int) (ha:L 20 a) (hb:L 20 b) (hc:L 20 c) :
  aJ Tryz.prog 182 [FA a b c] (.p (PE (rfE ⟨a,b,c⟩))):=by
 have ia:LB a 20:=⟨ha⟩
 have ib:LB b 20:=⟨hb⟩
 have ic:LB c 20:=⟨hc⟩
 refine aO Tryz.func182 rfl rfl rfl rfl ?_
 refine ae hP<|aq ai (aL rfl rfl)<|aj rfl<|ag<|ae hP<|br hT rfl rfl rfl rfl rfl rfl<|ab (ah (nN _ _ _ lz lz lz)) ?_
 refine aj rfl<|ag<|ao<|aA<|ae hP<|ak rfl<|ab (bq rfl rfl)<|aj rfl<|ag ?_
 refine az rfl (fun hb1=>?_) (fun hb1=>?_)
 ·have hb1_:=bY hb1
  refine ae hP<|ak rfl<|aj rfl<|ag<|am<|E1 rfl rfl ?_
  exact aH (congrArg (fun x=>AV.p (PE x)) (LC (f:=⟨a,b,c⟩) (NJ hb1)))
 have hb1_:=bS hb1
 refine ae hP<|br hT rfl rfl rfl rfl rfl rfl<|ab (ah (fV _ _ _ lz lz lz)) ?_
 refine ab (ah (dp _)) ?_
 refine ab (bK rfl rfl)<|aj rfl<|ag ?_
 refine az rfl (fun hb2=>?_) (fun hb2=>?_)
 ·have hb2_:=dT0 hb2
  refine ae hP<|aj rfl<|ag<|am<|E1 rfl rfl ?_
  exact aH (congrArg (fun x=>AV.p (PE x)) (LA (f:=⟨a,b,c⟩) (yE hb1) hb2_))
 have hb2_:=dF0 hb2
 refine ae hP<|br hT rfl rfl rfl rfl rfl rfl<|ab (ah (kQ _ _ _ lz lz lz)) ?_
 refine ab (bt rfl)<|aj rfl<|ag ?_
 refine az rfl (fun hb3=>?_) (fun hb3=>?_)
 ·have hb3_:=(bX hb3)
  refine ae hP<|aj rfl<|ag<|am<|E1 rfl rfl ?_
  exact aH (congrArg (fun x=>AV.p (PE x)) (Lz (f:=⟨a,b,c⟩) (yE hb1) hb2_ (bX hb3)))
 have hb3_:=(bU hb3)
 refine au<|ae hP<|aj rfl<|ag<|am<|E1 rfl rfl ?_
 exact aH (congrArg (fun x=>AV.p (PE x)) (Ly (f:=⟨a,b,c⟩) (yE hb1) hb2_ (bU hb3)))
theorem yy (a b c:Int) (ha:L 26 a) (hb:L 26 b) (hc:L 26 c) :
  aJ Tryz.prog 216 [FA a b c] (FA (rdF a b c).a (rdF a b c).b (rdF a b c).c):=by
 have ia:LB a 26:=⟨ha⟩
 have ib:LB b 26:=⟨hb⟩
 have ic:LB c 26:=⟨hc⟩
 refine aO Tryz.func216 rfl rfl rfl rfl ?_
 refine ae hP<|aq ai (aL rfl rfl)<|aq ai (aC hT rfl rfl)<|ag<|ae hP<|br hT rfl rfl rfl rfl rfl rfl<|ab (ah (jg _ _ _ lz lz lz)) ?_
 refine ab (aB (rfl:_=AV.t _))<|ab (aE rfl (v:=.a _) rfl)<|ab (aE rfl (v:=.a _) rfl)<|ab (aE rfl (v:=.c _) rfl)<|aq ai (aC hT rfl rfl)<|aq ai (aC hT rfl rfl)<|aI hT rfl<|aI hT rfl<|aj rfl<|ag<|ae hP<|br hT rfl rfl rfl rfl rfl rfl<|aI hT rfl<|ag<|am ?_
 refine bW rfl (.inr rfl) (aS hT rfl rfl rfl rfl (cs:=[_,_,_,_,_,_]) rfl rfl) ?_ bu
 exact .refl _
theorem uU (a b c:Int) (ha:L 20 a) (hb:L 20 b) (hc:L 20 c) :
  aJ Tryz.prog 215 [FA a b c] (FA (prF (dsc a b c)).a (prF (dsc a b c)).b (prF (dsc a b c)).c):=by
 have ia:LB a 20:=⟨ha⟩
 have ib:LB b 20:=⟨hb⟩
 have ic:LB c 20:=⟨hc⟩
 refine aO Tryz.func215 rfl rfl rfl rfl ?_
 refine ae hP<|aq ai (aL rfl rfl)<|aq ai (aC hT rfl rfl)<|ag<|ae hP<|br hT rfl rfl rfl rfl rfl rfl<|ab (ah (fV _ _ _ lz lz lz)) ?_
 refine ab (ah (om _ lz)) ?_
 refine ab (aB (rfl:_=AV.t _))<|ab (aE rfl (v:=.a _) rfl)<|ab (aE rfl (v:=.c _) rfl)<|aq ai (aC hT rfl rfl)<|aI hT rfl<|aj rfl<|ag<|ae hP<|br hT rfl rfl rfl rfl rfl rfl<|aI hT rfl<|ag<|am ?_
 refine bW rfl (.inr rfl) (aS hT rfl rfl rfl rfl (cs:=[_,_,_,_,_,_]) rfl rfl) ?_ bu
 exact .refl _
end
section
open Go Go.AM
theorem Cr (x:Int) (hx:9223372036854775808≤x.natAbs∧x.natAbs < 18446744073709551616):aJ Tryz.prog 125 [I x] (.t [.c (.v (.int .i64 (lwV x))),PB (lwO x)]):=uu x hx.2
end
end Go.Proofs.YthaiejfjnllglaaGreatDoor
