import Derived.Test.YtpnomhdachaifaaGreatDoorHET
import Derived.Test.YtpnomhdachaifaaGreatDoorHEC
import Derived.Test.YtpnomhdachaifaaGreatDoorHEJ
import Derived.Test.YtpnomhdachaifaaGreatDoorHEU
import Derived.Test.YtpnomhdachaifaaGreatDoorHED
import Derived.Test.YtpnomhdachaifaaGreatDoorHEI
import Derived.Test.YtpnomhdachaifaaGreatDoorHER
set_option maxRecDepth 100000
set_option maxHeartbeats 16000000
namespace Go.Proofs.YtpnomhdachaifaaGreatDoor
section
open Go Go.AM
attribute [local irreducible] RK Eff AWp
theorem DO(d:Int)(hd:-9223372036854775807<=d∧d<=9223372036854775807) :
  ak Tryz.prog 68 [I d] (.t [PE (szN d),PE (szE d)]):=by
 have id0:LB d 6:=⟨by unfold L;omega⟩
 have hm0:=UF d (show(4:Int)≠0 by omega);have hm1:=UK d (show(0:Int)<4 by omega);refine aq Tryz.func68 rfl rfl rfl rfl<|Yy ?_;refine ae (ab (lO _ (by first|assumption|decide))) ?_;refine ae (ab (bG _ _ lz lz (by decide)))<|Yy ?_;refine ae (ab (bu _))<|Zz ?_;refine aU (t:=19) rfl (fun hg1=>?_) (fun hg1=>?_)
 ·have hg1_:=dT0 hg1;refine Yy ?_;exact ao (Ns (.inl (sgn_ge_iff.1 hg1_)))
 have hg1_:=dF0 hg1;refine az hg1 (aN hT rfl rfl rfl rfl (cs:=[_,_]) rfl rfl) ?_;refine az hg1 (ab (lO _ (by first|assumption|decide))) ?_;refine az hg1 (ab (cL _ _)) ?_;refine Zz ?_;refine ah rfl (fun hb2=>?_) (fun hb2=>?_)
 ·have hb2_:=dT0 hb2;refine Yy ?_;exact ao (Ns (.inr (cmpI_gt_zero.1 hb2_)))
 have hb2_:=dF0 hb2;refine Yy ?_;refine ae (ab (gS _)) ?_;refine ae (ab (gU _ (by omega) (by omega)))<|Yy ?_;refine az rfl (iL rfl rfl) ?_;refine Zz ?_;refine ah rfl (fun hb4=>?_) (fun hb4=>?_)
 ·have hb4_:=dT0 hb4;refine Yy ?_;exact ao (SV (fun x=>x.elim (fun h=>hg1_ (sgn_ge_iff.2 h)) (fun h=>hb2_ (cmpI_gt_zero.2 h))) hb4_)
 have hb4_:=dF0 hb4;refine Yy ?_;exact ao (SW (fun x=>x.elim (fun h=>hg1_ (sgn_ge_iff.2 h)) (fun h=>hb2_ (cmpI_gt_zero.2 h))) hb4_)
theorem qy(N:Int) :
  ak Tryz.prog 69 [Z N] (.fn 130 [[.v (.int .i64 N)]]):=by
 refine q9 Tryz.func69 (by kernel_rfl) rfl rfl (bL0 rfl) rfl ?_;refine aE hP<|Zz ?_;refine bo (t:=1) rfl rfl ?_;refine aE hP ?_;refine an ag (iJ rfl) ?_;refine an ag (bW (rfl:_=AV.fn _ _)) ?_;refine RK.done (by kernel_rfl) ?_;refine bC ?_;exact⟨.inr rfl,2,rfl,rfl⟩
theorem PJ(d:Int)(hd:-9223372036854775807<=d∧d<=9223372036854775807)(W:FuncId)(p:Fm->Bool)(hW:∀ a b c:Int,(0<a∧a<=2000)->(-2000<=b∧b<=2000)->(0<c∧c<=10000000)->ak Tryz.prog W [FA a b c] (B (p ⟨a,b,c⟩))) :
  ak Tryz.prog 18 [I d,.p (.c (.v (.func (.func W) #[] #[])))] (.t [.c (FsL (if szE d=0 then LW (-d) p else[])),PE (szE d)]):=by
 refine aq Tryz.func18 rfl rfl rfl rfl<|Yy ?_;refine ae (ab (DO _ (by omega)))<|Yy ?_;refine ah rfl (fun hb1=>?_) (fun hb1=>?_)
 ·have hb1_:=cg hb1;have hz:szE d≠0:=hb1_;refine Yy ?_;exact Sub.tup ⟨by rw[G2 hz];exact DSub.nil_sl,DSub.refl _,trivial⟩
 have hb1_:=ci hb1;obtain⟨hsn,hN1,hN2,hN3⟩:=u5 (show szE d=0 from hb1_);rw[<- hsn]at hN1 hN2;generalize hNd:szN d=N at hN1 hN2 ⊢;refine aT<|aE hP<|bD ag (wq hT rfl rfl)<|Yy ?_;refine ae (ab (qy _))<|Zz ?_;refine aR<|BI 8 1000 6 52 rfl rfl rfl rfl ?_;refine eh (t:=stL [(3,.loc 3 0),(8,.loc 8 0),(20,.fn 130 [[.v (.int .i64 N)]])] [(3,⟨false,1,63,[.v (.func (.func W) #[] #[])]⟩),(8,⟨false,1002,32,[.sl (LK N p 0).length []]⟩),(1000,FB 52 (LK N p 0))]) (ai ⟨.refl _,.refl _,.refl _,trivial⟩ ⟨rfl,rfl,rfl,trivial⟩) ?_;refine o9 9 (fun k=>c9 [(3,⟨false,1,63,[.v (.func (.func W) #[] #[])]⟩),(8,⟨false,1002,32,[.sl (LK N p k).length []]⟩),(1000,FB 52 (LK N p k))]) rfl (oU N (by omega) hN2) (yP N) rfl rfl rfl (fun k x hx=>?_) ?_
 ·obtain⟨t,ht,rfl⟩:=yR hx;obtain⟨⟨b1,b2⟩,⟨b3,b4⟩,b5,b6⟩:=tJ (U8 ht) hN2;have ja:aH t.a:=by unfold aH;omega
  have jb:aH t.b:=by unfold aH;omega
  have jc:aH t.c:=by unfold aH;omega
  refine Yy ?_;refine ae (ab (PK _ _ _ (by first|assumption|decide) (by first|assumption|decide) (by first|assumption|decide)))<|Yy ?_;refine ae (Eff.callF rfl (hW _ _ _ ⟨b1,b2⟩ ⟨b3,b4⟩ ⟨b5,b6⟩))<|Zz ?_;refine ah rfl (fun hb2=>?_) (fun hb2=>?_)
  ·refine bp hP<|ae (tZ hT rfl rfl rfl rfl rfl)<|Zz ?_;refine RK.app ag (rP hT rfl rfl rfl rfl rfl rfl rfl (f:=t.fm) rfl (by have:=Qe N p k;omega) (by decide)) ?_;refine aZ ag (A3 hT rfl rfl rfl rfl rfl rfl rfl (eS _).symm (VL 5))<|Zz ?_;refine⟨rfl,GW.rnL 8 30 1000 (LK N p k++[t.fm]).length rfl rfl rfl (eS _).symm (VL 5) rfl rfl rfl rfl ?_⟩;show ∀ m,c9 _ m=_∨c9 _ m=none;rw[Qd ht hb2];exact SubO.own ⟨rfl,rfl,rfl,trivial⟩
  refine aT ?_;refine⟨rfl,GW.forget ?_⟩;show ∀ m,c9 _ m=_∨c9 _ m=none;rw[SJ ht hb2];exact SubO.own ⟨rfl,rfl,rfl,trivial⟩
 refine aE hP<|ae (tZ hT rfl rfl rfl rfl rfl)<|Zz ?_;refine mA (t:=4) rfl rfl ?_;refine Yy ?_;exact ao (by rw[Qf,H2 (show szE d=0 from hb1_),show szE d=0 from hb1_,<- hNd,hsn])
end
section
open Go Go.AM
attribute [local irreducible] RK Eff AWp
theorem DP(d:Int)(hd:-9223372036854775807<=d∧d<=9223372036854775807) :
  ak Tryz.prog 6 [I d] (.t [.c (FsL (if szE d=0 then LW (-d) (fun f=>prim f.a f.b f.c)else[])),PE (szE d)]):=by
 refine aq Tryz.func6 rfl rfl rfl rfl<|Yy ?_;refine ae (ab (PJ _ (by omega) 19 (fun f=>prim f.a f.b f.c) (fun a b c h1 h2 h3=>ki a b c (sM (by omega)) (sM (by omega)) (sM (by omega)))))<|Yy ?_;exact .refl _
theorem LO(N:Int)(h1:0<=N)(hN2:N<=4194304) :
  ak Tryz.prog 154 [Z N] (Z (cls N)):=by
 refine aq Tryz.func154 rfl rfl rfl rfl<|Yy ?_;refine ae (ab (qy _))<|Zz ?_;refine aR<|eh (t:=stL [(3,.loc 3 0),(6,.fn 130 [[.v (.int .i64 N)]])] [(3,⟨false,1,2,[.v (.int .i64 (clK N 0))]⟩)]) (ai ⟨.refl _,.refl _,trivial⟩ ⟨rfl,trivial⟩) ?_;refine o9 4 (fun k=>c9 [(3,⟨false,1,2,[.v (.int .i64 (clK N k))]⟩)]) rfl (oU N (by omega) hN2) (yP N) rfl rfl rfl (fun k x hx=>?_) ?_
 ·obtain⟨t,ht,rfl⟩:=yR hx;obtain⟨⟨b1,b2⟩,⟨b3,b4⟩,b5,b6⟩:=tJ (U8 ht) hN2;have ja:aH t.a:=by unfold aH;omega
  have jb:aH t.b:=by unfold aH;omega
  have jc:aH t.c:=by unfold aH;omega
  have hck:=So N k;have hgb:=RX (a:=t.a) (b:=t.b) ⟨b1,b2⟩;refine Yy ?_;refine ae (ab (If _ _ (by omega) (by omega)))<|Zz ?_;refine ae (ab (If _ _ (by omega) (by omega)))<|Zz ?_;refine ah rfl (fun hb1=>?_) (fun hb1=>?_)
  ·have hb1_:=bT hb1;refine Yy ?_;refine aF rfl rfl ?_;refine Zz ?_;refine⟨rfl,GW.forget ?_⟩;show ∀ m,c9 _ m=_∨c9 _ m=none;rw[LI ht (Q3 hb1)];exact SubO.own ⟨rfl,trivial⟩
  have hb1_:=bF hb1;refine aT ?_;refine⟨rfl,GW.forget ?_⟩;show ∀ m,c9 _ m=_∨c9 _ m=none;rw[PC ht (Q4 hb1)];exact SubO.own ⟨rfl,trivial⟩
 refine Yy ?_;exact am (LJ N)
theorem LP(d:Int)(hd:-9223372036854775807<=d∧d<=9223372036854775807) :
  ak Tryz.prog 89 [I d] (.t [PE (clE d),PE (szE d)]):=by
 refine aq Tryz.func89 rfl rfl rfl rfl<|Yy ?_;refine ae (ab (DO _ (by omega)))<|Yy ?_;refine ah rfl (fun hb1=>?_) (fun hb1=>?_)
 ·have hb1_:=cg hb1;refine Yy ?_;exact ao (by unfold clE;rw[G2 hb1_])
 have hb1_:=ci hb1;obtain⟨hsn,hN1,hN2,hN3⟩:=u5 (show szE d=0 from hb1_);refine Yy ?_;refine ae (ab (LO _ (by omega) (by omega)))<|Yy ?_;exact ao (by unfold clE;rw[H2 (show szE d=0 from hb1_),show szE d=0 from hb1_,hsn])
end
section
open Go Go.AM
attribute [local irreducible] RK Eff AWp
theorem yn(D:Int)(g:List Fm)(m:Mx)(how:Int)(hD:Dok D)(hg:∀ f∈g,Gd D f)(hgl:g.length<=12) :
  ak Tryz.prog 26 [GA D g m how] (B true):=by
 refine aq Tryz.func26 rfl rfl rfl rfl<|Yy ?_;refine aC (ι:=Nat) (fun k=>stL [(1,.loc 1 0),(6,.p (.c (FsL g))),(7,Z (g.length:Int)),(8,Z (k:Int))] [(1,⟨false,1,39,gaC D g m how⟩)]) (fun k=>k<=g.length) (fun k=>g.length-k) 0 (Uv _) (ai ⟨.refl _,.refl _,.refl _,.refl _,trivial⟩ ⟨rfl,trivial⟩) ?_;intro k hk;refine Yy ?_;refine ah rfl (fun hb1=>?_) (fun hb1=>?_)
 ·have hb1_:=dT0 hb1;have hgk:Gd D (g.getD k ⟨0,0,0⟩):=hg _ (ct _ (by omega));have hgL:=hgk.L6 hD;refine Yy ?_;refine ae (aL (encD:=FC) hT (fun _=>rfl) (by decide) (⟨0,0,0⟩:Fm) (n:=(k:Int)) (l:=g) rfl rfl rfl rfl rfl rfl (by omega)) ?_;refine ae (au hT rfl rfl rfl (cs:=FC (g.getD k ⟨0,0,0⟩)) rfl rfl)<|Yy ?_;refine ae (ab (mO (g.getD k ⟨0,0,0⟩).a (g.getD k ⟨0,0,0⟩).b (g.getD k ⟨0,0,0⟩).c (hgL.1.mono (by decide)) (hgL.2.1.mono (by decide)) (hgL.2.2.mono (by decide))))<|Zz ?_;refine an (aw rfl rfl (da hgk.ck)) (aN hT rfl rfl rfl rfl (cs:=[_,_,_,_,_,_]) rfl rfl) ?_;refine an (aw rfl rfl (da hgk.ck)) (ab (ki (g.getD k ⟨0,0,0⟩).a (g.getD k ⟨0,0,0⟩).b (g.getD k ⟨0,0,0⟩).c (hgL.1.mono (by decide)) (hgL.2.1.mono (by decide)) (hgL.2.2.mono (by decide)))) ?_;refine an (aw rfl rfl (da hgk.ck)) (cZ rfl) ?_;refine ae (bA rfl (da hgk.ck) (rfl:_=AV.p (.c _)))<|Zz ?_;refine an (aw rfl rfl (Ur not hgk.cl.prim)) (aN hT rfl rfl rfl rfl (cs:=[_,_,_,_,_,_]) rfl rfl) ?_;refine an (aw rfl rfl (Ur not hgk.cl.prim)) (ab (ga (g.getD k ⟨0,0,0⟩).a (g.getD k ⟨0,0,0⟩).b (g.getD k ⟨0,0,0⟩).c (hgL.1.mono (by decide)) (hgL.2.1.mono (by decide)) (hgL.2.2.mono (by decide)))) ?_;refine an (aw rfl rfl (Ur not hgk.cl.prim)) (dU hT rfl rfl rfl rfl rfl rfl) ?_;refine an (aw rfl rfl (Ur not hgk.cl.prim)) (aN hT rfl rfl rfl rfl (cs:=[_,_]) rfl rfl) ?_;refine an (aw rfl rfl (Ur not hgk.cl.prim)) (ab (cL (dsc (g.getD k ⟨0,0,0⟩).a (g.getD k ⟨0,0,0⟩).b (g.getD k ⟨0,0,0⟩).c) D)) ?_;refine an (aw rfl rfl (Ur not hgk.cl.prim)) (eZ rfl rfl) ?_;refine ae (bA rfl (Ur not hgk.cl.prim) (rfl:_=AV.p (.c _)))<|Zz ?_;refine aJ rfl (da (cmpI_eq_zero.2 hgk.cl.disc))<|Yy ?_;refine aF rfl rfl ?_;refine Zz ?_;refine⟨k+1,by omega,by omega,ai ⟨.refl _,.refl _,.refl _,am (by omega),trivial⟩ ⟨rfl,trivial⟩⟩
 have hb1_:=dF0 hb1;refine Yy ?_;exact .refl _
theorem Gm(D:Int)(g:List Fm)(m:Mx)(how:Int)(hD:Dok D)(hg:∀ f∈g,Gd D f)(hgl:g.length<=12)(e:List Int)(he:e.length=g.length)(hs:dq e=true)(p0:Fm)(h0:Cl D p0) :
  ak Tryz.prog 139 [GA D g m how,ARw e] (.p (PF (imF D g e g.length))):=by
 have hDL:L 40 D:=by have h1:=hD.1;have h2:=hD.2;exact(show L 6 D by unfold L;omega).mono (by decide)
 have cPr:ak Tryz.prog 22 [I D] (.t [PF (prP D),PE 0]):=by
  have h:=iH D hDL;rw[(gm h0).1,(gm h0).2]at h;exact h
 refine aq Tryz.func139 rfl rfl rfl rfl<|Yy ?_;refine ae (ab cPr)<|Yy ?_;refine aC (ι:=Nat) (fun k=>stL [(1,ARw e),(2,.loc 2 0),(4,.loc 4 0),(5,.loc 5 0),(18,.p (.c (FsL g))),(19,Z (g.length:Int)),(20,Z (k:Int))] [(2,⟨false,1,39,gaC D g m how⟩),(4,⟨false,1,52,FC ⟨0,0,0⟩⟩),(5,⟨false,1,52,FC (imF D g e k)⟩)]) (fun k=>k<=g.length) (fun k=>g.length-k) 0 (Uv _) (ai ⟨.refl _,.refl _,.refl _,.refl _,.refl _,.refl _,.refl _,trivial⟩ ⟨rfl,rfl,rfl,trivial⟩) ?_;intro k hk;refine Yy ?_;refine ah rfl (fun hb1=>?_) (fun hb1=>?_)
 ·have hb1_:=dT0 hb1;have hgk:Gd D (g.getD k ⟨0,0,0⟩):=hg _ (ct _ (by omega));have hgL:=hgk.L6 hD;have hik:Gd D (imF D g e k):=w7 h0 hg k (by omega);have hiL:=hik.L6 hD;have hzk:=hgk.zpw (e.getD k 0);have hzL:=hzk.L6 hD;have cPw:ak Tryz.prog 195 [FA (g.getD k ⟨0,0,0⟩).a (g.getD k ⟨0,0,0⟩).b (g.getD k ⟨0,0,0⟩).c,I (e.getD k 0)] (.t [PF (zpw D (g.getD k ⟨0,0,0⟩) (e.getD k 0)),PE 0]):=by
   have h:=GM (g.getD k ⟨0,0,0⟩) (e.getD k 0) hgL.1 hgL.2.1 hgL.2.2 ((dS (ce hs k)).mono (by decide)) (fun _=>.inr (by have:=hgk.cl.disc;have:=hD.1;omega));rw[hgk.powr]at h;exact h
  have cCm:ak Tryz.prog 78 [FA (imF D g e k).a (imF D g e k).b (imF D g e k).c,FA (zpw D (g.getD k ⟨0,0,0⟩) (e.getD k 0)).a (zpw D (g.getD k ⟨0,0,0⟩) (e.getD k 0)).b (zpw D (g.getD k ⟨0,0,0⟩) (e.getD k 0)).c] (.t [PF (imF D g e (k+1)),PE 0]):=by
   have h:=kX (imF D g e k) (zpw D (g.getD k ⟨0,0,0⟩) (e.getD k 0)) hiL.1 hiL.2.1 hiL.2.2 hzL.1 hzL.2.1 hzL.2.2;rw[hik.comp hzk]at h;exact h
  refine Yy ?_;refine ae (aL (encD:=FC) hT (fun _=>rfl) (by decide) (⟨0,0,0⟩:Fm) (n:=(k:Int)) (l:=g) rfl rfl rfl rfl rfl rfl (by omega)) ?_;refine ae (au hT rfl rfl rfl (cs:=FC (g.getD k ⟨0,0,0⟩)) rfl rfl)<|Yy ?_;refine ae (aL hT aI (by decide) 0 (n:=(k:Int)) (l:=e) rfl rfl rfl rfl rfl rfl (by omega)) ?_;refine ae (au hT rfl rfl rfl (cs:=enI (e.getD k 0)) rfl rfl) ?_;refine ae (ab cPw)<|Yy ?_;refine ae (ab cCm)<|Yy ?_;refine aF rfl rfl ?_;refine Zz ?_;refine⟨k+1,by omega,by omega,ai ⟨.refl _,.refl _,.refl _,.refl _,.refl _,.refl _,am (by omega),trivial⟩ ⟨rfl,rfl,rfl,trivial⟩⟩
 have hb1_:=dF0 hb1;refine Yy ?_;refine bK rfl (.inr rfl) (aA hT rfl rfl rfl rfl (cs:=[_,_,_,_,_,_]) rfl rfl) ?_ bd;have hke:k=g.length:=by omega
 subst hke;exact .refl _
theorem qx(D:Int)(g:List Fm)(m:Mx)(how:Int)(hD:Dok D)(hg:∀ f∈g,Gd D f)(hgl:g.length<=12)(e:List Int)(he:e.length=g.length)(hs:dq e=true)(p0:Fm)(h0:Cl D p0) :
  ak Tryz.prog 83 [GA D g m how,ARw e] (B (decide (imF D g e g.length=prP D))):=by
 have hDL:L 40 D:=by have h1:=hD.1;have h2:=hD.2;exact(show L 6 D by unfold L;omega).mono (by decide)
 have cPr:ak Tryz.prog 22 [I D] (.t [PF (prP D),PE 0]):=by
  have h:=iH D hDL;rw[(gm h0).1,(gm h0).2]at h;exact h
 have hi:Gd D (imF D g e g.length):=w7 h0 hg _ (Iv _);have h1:Gd D (prP D):=Gd.one h0;have cIm:=Gm D g m how hD hg hgl e he hs p0 h0;have cK1:=lI (imF D g e g.length) (hi.ky hD);have cK2:=lI (prP D) (h1.ky hD);have hke:decide (ky (imF D g e g.length)=ky (prP D))=decide (imF D g e g.length=prP D):=decide_eq_decide.2 ⟨C5,fun h=>by rw[h]⟩;refine aq Tryz.func83 rfl rfl rfl rfl<|Yy ?_;refine ae (ab cPr)<|Yy ?_;refine ae (ab cIm) ?_;refine ae (ab cK1)<|Zz ?_;refine ae (ab cK2) ?_;refine ae (J6 rfl rfl)<|Yy ?_;exact bn hke
theorem K4(a:Int)(ha:L 45 a) :
  ak Tryz.prog 82 [I a] (B false):=by
 refine aq Tryz.func82 rfl rfl rfl rfl<|Yy ?_;refine ae (ab (kB a ha))<|Yy ?_;exact .refl _
theorem Bp(D:Int)(g:List Fm)(m:Mx)(how:Int)(hD:Dok D)(hg:∀ f∈g,Gd D f)(hgl:g.length<=12)(hgl8:g.length<=8)(hml:m.length=g.length)(hmr:∀ r∈m,r.length=g.length)(hms:∀ r∈m,dq r=true)(hrel:∀ r∈m,ak Tryz.prog 83 [GA D g m how,ARw r] (B true))(dt:Int)(hdt:dt≠0)(hDt:ak Tryz.prog 84 [AMx m] (.t [PI dt,PE 0])) :
  ak Tryz.prog 27 [GA D g m how] (B true):=by
 have _:=hD;have _:=hg;have cHs:∀ r∈m,ak Tryz.prog 81 [ARw r,.fn 82 []] (B (r.any fun _=>false)):=fun r hr=>Jy r 82 [] _ (by have:=hmr r hr;omega) (fun x hx=>by
  have h:=Uo.1 (hms r hr) x hx;exact K4 x ((dS h).mono (by decide)))
 have hany:∀ r:List Int,(r.any fun _=>false)=false:=fun r=>by induction r with
  |nil=>rfl
  |cons _ _ ih=>simp
 refine aq Tryz.func27 rfl rfl rfl rfl<|Yy ?_;refine an (aw rfl rfl (Ix (by omega))) (dU hT rfl rfl rfl rfl rfl rfl) ?_;refine an (aw rfl rfl (Ix (by omega))) (bq hT rfl rfl rfl rfl (by first|rfl|exact gD (by omega))) ?_;refine an (aw rfl rfl (Ix (by omega))) (dy hT rfl rfl rfl (by rfl)) ?_;refine an (aw rfl rfl (Ix (by omega))) (aK (rfl:_=AV.p (.c _))) ?_;refine an (aw rfl rfl (Ix (by omega))) (eZ rfl rfl) ?_;refine ae (bA rfl (Ix (by omega)) (rfl:_=AV.p (.c _)))<|Zz ?_;refine aJ rfl (da (by omega))<|Yy ?_;refine aC (ι:=Nat) (fun k=>stL [(1,.loc 1 0),(3,Z (g.length:Int)),(21,AMx m),(22,Z (m.length:Int)),(23,Z (k:Int))] [(1,⟨false,1,39,gaC D g m how⟩)]) (fun k=>k<=m.length) (fun k=>m.length-k) 0 (Uv _) (ai ⟨.refl _,.refl _,.refl _,.refl _,.refl _,trivial⟩ ⟨rfl,trivial⟩) ?_;intro k hk;refine Yy ?_;refine ah rfl (fun hb2=>?_) (fun hb2=>?_)
 ·have hb2_:=dT0 hb2;have hk2:k<m.length:=by omega
  have hrk:mxr m k∈m:=ct [] hk2;have hrl:=hmr _ hrk;have cH2:=cHs _ hrk;rw[hany]at cH2;refine Yy ?_;refine ae (aL hT aG (by decide) [] (n:=(k:Int)) (l:=m) rfl rfl rfl rfl rfl rfl (by omega)) ?_;refine ae (aM hT rfl rfl rfl (dv:=SL enI (mxr m k)) rfl)<|Yy ?_;refine an (aw rfl rfl (da (by omega))) (aK (rfl:_=AV.p (.c _))) ?_;refine an (aw rfl rfl (da (by omega))) (ab (cH2.sub ⟨.refl _,ru,trivial⟩)) ?_;refine ae (bA rfl (da (by omega)) (rfl:_=AV.p (.c _)))<|Zz ?_;refine az rfl (aN hT rfl rfl rfl rfl (cs:=[_,_,_,_,_]) rfl rfl) ?_;refine Zz ?_;refine az rfl (ab (hrel (mxr m k) hrk)) ?_;refine az rfl (cZ rfl) ?_;refine Yy ?_;refine aF rfl rfl ?_;refine Zz ?_;refine⟨k+1,by omega,by omega,ai ⟨.refl _,.refl _,.refl _,.refl _,am (by omega),trivial⟩ ⟨rfl,trivial⟩⟩
 have hb2_:=dF0 hb2;refine Yy ?_;refine ae (ab hDt)<|Yy ?_;refine az rfl (aN hT rfl rfl rfl rfl (cs:=[_,_]) rfl rfl) ?_;refine az rfl (ab (bu _)) ?_;refine Yy ?_;exact bn (by have:sgn dt≠0:=fun e=>hdt (sgn_zero_iff.1 e);exact Sv this)
theorem uX(D:Int)(g:List Fm)(m:Mx)(h:Int)(hc:ak Tryz.prog 89 [I D] (.t [PE h,PE 0])) :
  ak Tryz.prog 31 [GA D g m 1,Z h] (B true):=by
 refine aq Tryz.func31 rfl rfl rfl rfl<|Yy ?_;refine ae (ab hc)<|Yy ?_;refine az rfl (kz rfl rfl) ?_;refine Yy ?_;exact bn (by simp)
theorem Jz(l:List Int)(gf:FuncId)(caps:List (List DV))(pd:Int->Bool)(hl:(l.length:Int)<=1000000)(hc:∀ x∈l,ak Tryz.prog gf ([I x]++caps.map .ip) (B (pd x)))(hno:fiX pd l=-1) :
  ak Tryz.prog 33 [ARw l,.fn gf caps] (ARw l):=by
 refine aq Tryz.func33 rfl rfl rfl rfl<|Yy ?_;refine ae (ab (yW l gf caps pd hl hc))<|Yy ?_;refine bH rfl (by rw[hno];rfl)<|Yy ?_;exact .refl _
theorem K8(a:Int)(ha:a≠1) :
  ak Tryz.prog 34 [I a] (B false):=by
 refine aq Tryz.func34 rfl rfl rfl rfl<|Yy ?_;refine ae (ab (bL 1 (by decide))) ?_;refine ae (ab (cL a 1))<|Yy ?_;exact bn (by have:aX a 1≠0:=fun e=>ha (cmpI_eq_zero.1 e);simp[this])
theorem zG  :
  ak Tryz.prog 84 [AMx []] (.t [PI 1,PE 0]):=by
 have cRf:=kV [] (by decide) (fun r hx=>by cases hx);have cCp:=oE [] (by decide) (fun r hx=>by cases hx);refine aq Tryz.func84 rfl rfl rfl rfl<|Yy ?_;refine ae (ab cRf)<|Yy ?_;refine az rfl (dy hT rfl rfl rfl (by rfl)) ?_;refine az rfl (iL rfl rfl) ?_;refine Yy ?_;refine bD ag (Eff.callV cCp) ?_;refine ae (ab (HZ 1 (by decide)))<|Zz ?_;refine aZ ag (jm hT rfl rfl rfl rfl rfl rfl rfl (a6 aG []).symm (VL 0) rfl rfl rfl) ?_;refine xZ hT rfl<|sA rfl<|rm<|bi<|aE hP<|ae (dY hT rfl rfl rfl rfl rfl rfl)<|ae (b7 hT aG rfl rfl rfl rfl rfl)<|Zz ?_;refine aR<|bX 1<|Yy ?_;refine b9 rfl (.inr rfl) (aA hT rfl rfl rfl rfl (cs:=[_,_]) rfl rfl) (a8 rfl) ?_ bd;exact .refl _
theorem CZ  :
  ak Tryz.prog 28 [AMx []] (.t [PI 1,PE 0]):=by
 refine aq Tryz.func28 rfl rfl rfl rfl<|Yy ?_;refine ae (ab zG)<|Yy ?_;refine ae (ab (jt 1))<|Yy ?_;refine b9 rfl (.inr rfl) (aA hT rfl rfl rfl rfl (cs:=[_,_]) rfl rfl) (a8 rfl) ?_ bd;exact .refl _
theorem Gp(D:Int)(g:List Fm)(m:Mx)(hD:Dok D)(hg:∀ f∈g,Gd D f)(hgl:g.length<=12)(h:Nat)(inv:List Int)(h4:D%4=0∨D%4=1)(hh:h<=65536)(hinv:∀ a∈inv,a≠1)(hil:inv.length<=12)(c1:ak Tryz.prog 27 [GA D g m 1] (B true))(c2:ak Tryz.prog 28 [AMx m] (.t [PI (h:Int),PE 0]))(c3:ak Tryz.prog 30 [GA D g m 1,Z (h:Int)] (B true))(c4:ak Tryz.prog 31 [GA D g m 1,Z (h:Int)] (B true))(c5:ak Tryz.prog 32 [AMx m] (.t [.c (SL enI inv),PE 0])) :
  ak Tryz.prog 8 [GA D g m 1] (.t [PE (h:Int),.c (SL enI inv),PE 0]):=by
 have cR:=xa D (by have h1:=hD.1;have h2:=hD.2;omega) h4;have cS:=yn D g m 1 hD hg hgl;have hcm:¬ aX (h:Int) 65536>0:=fun e=>by have:=cmpI_gt_zero.1 e;omega
 have cDl:ak Tryz.prog 33 [ARw inv,.fn 34 []] (ARw inv):=Jz inv 34 [] (fun _=>false) (by omega) (fun x hx=>K8 x (hinv x hx)) (GB _ (fun _ _=>rfl));refine aq Tryz.func8 rfl rfl rfl rfl<|Yy ?_;refine ae (ab cR)<|Yy ?_;refine ae (ab cS)<|Yy ?_;refine ae (ab c1)<|Yy ?_;refine ae (ab c2)<|Yy ?_;refine ae (ab (bL 65536 (by decide))) ?_;refine ae (ab (cL (h:Int) 65536))<|Zz ?_;refine aJ rfl (Ix hcm)<|Yy ?_;refine ae (ab (gU (h:Int) (by omega) (by omega)))<|Yy ?_;refine ae (ab c3)<|Zz ?_;refine az rfl (aN hT rfl rfl rfl rfl (cs:=[_,_,_,_,_]) rfl rfl) ?_;refine Zz ?_;refine az rfl (ab c4) ?_;refine az rfl (cZ rfl) ?_;refine Yy ?_;refine ae (ab c5)<|Yy ?_;refine ae (ab (cDl.sub ⟨.refl _,ru,trivial⟩))<|Yy ?_;refine dz rfl (.inr rfl) (a8 rfl) (a8 rfl) (a8 rfl) ?_ bd;exact .refl _
end
section
open Go Go.AM
attribute [local irreducible] RK Eff AWp
theorem xc(D:Int)(hD:Dok D)(c2 c3:DV)(how:Int)(T:Tab)(l:List Fm)(f:Fm)(hf:Gd D f)(k:Nat)(hk:OrdT D T f k) :
  ak Tryz.prog 24 [.ip (sbC D c2 c3 how T l),FA f.a f.b f.c] (.t [PE (k:Int),.c (stD (ky (pw D f k)))]):=by
 have hfL:=hf.L6 hD;have hk1:=hk.pos;have hk2:=hk.le;refine aq Tryz.func24 rfl rfl rfl rfl<|Yy ?_;refine aC (ι:=Nat) (fun j=>stL [(0,.ip (sbC D c2 c3 how T l)),(3,.loc 3 0),(6,Z (j:Int)),(7,.loc 7 0)] [(3,⟨false,1,52,FC f⟩),(7,⟨false,1,52,FC (pw D f j)⟩)]) (fun j=>1<=j∧j<=k) (fun j=>k-j) 1 ⟨Iv _,hk1⟩ (ai ⟨.refl _,.refl _,.refl _,.refl _,trivial⟩ ⟨rfl,by rw[hf.pw1];rfl,trivial⟩) ?_;intro j hj;have hpj:Gd D (pw D f j):=hf.pw j;have hpL:=hpj.L6 hD;have cK:=lI (pw D f j) (hpj.ky hD);have cCm:ak Tryz.prog 78 [FA (pw D f j).a (pw D f j).b (pw D f j).c,FA f.a f.b f.c] (.t [PF (pw D f (j+1)),PE 0]):=by
  have h:=kX (pw D f j) f hpL.1 hpL.2.1 hpL.2.2 hfL.1 hfL.2.1 hfL.2.2;rw[hpj.comp hf]at h;exact h
 refine Yy ?_;refine ae (sW rfl)<|ae (ye hT rfl rfl rfl rfl rfl rfl)<|Zz ?_;refine ae (ab cK) ?_;refine ae (pF (a:=none) (i:=sH) (j:=ty9) (kv:=dJ) (M:=mS T) (k:=ky (pw D f j)) (zs:=[.sl 0 []]) (zv:=.slice none 0 0) hT rfl rfl rfl rfl mT (by kernel_rfl) rfl pJ rfl (.inr rfl) (l4 T) rfl (H0 T (pw D f j)))<|Yy ?_;refine ah rfl (fun hb1=>?_) (fun hb1=>?_)
 ·have hje:=hk.at hj.1 hj.2 hb1;subst hje;refine Yy ?_;refine ae (ab cK)<|Yy ?_;exact .refl _
 have hjl:=hk.lt hj.2 hb1;refine Yy ?_;refine ae (ab cCm)<|Yy ?_;refine aF rfl rfl ?_;refine Zz ?_;refine⟨j+1,by omega,by omega,ai ⟨.refl _,.refl _,am (by omega),.refl _,trivial⟩ ⟨rfl,rfl,trivial⟩⟩
end
section
open Go Go.AM
attribute [local irreducible] RK Eff AWp
theorem B8(l:List Int)(hl:l.length<=1000000) :
  CallV Tryz.prog 79 [.p (.c (SL enZ l))] (VB 1 3 enZ l):=by
 refine nP Tryz.func79 (by kernel_rfl) rfl rfl (bL0 rfl)<|Yy ?_;refine ae (CG hT rfl rfl rfl)<|Zz ?_;refine Mj (t:=4) rfl (fun b hb=>?_);refine ah rfl (fun hb1=>?_) (fun hb1=>?_)
 ·have hl0:l=[]:=by
   have h:=hb hb1;cases l with
   |nil=>rfl
   |cons x l=>simp at h
  subst hl0;refine aE hP<|Zz ?_;refine fv 2 900 1 3 rfl rfl ?_;refine bC ?_;refine⟨.inr rfl,_,_,rfl,rfl,?_⟩;exact rfl
 refine Yy ?_;refine bD ag (kI hT rfl rfl rfl (es:=[]) rfl rfl rfl)<|Zz ?_;refine RK.app ag (rQ (encD:=enZ) hT qb rfl rfl rfl rfl rfl rfl rfl rfl rfl (by omega) (by decide))<|Zz ?_;refine bC ?_;refine⟨.inr rfl,_,_,rfl,rfl,?_⟩;exact rfl
theorem xe(D:Int)(hD:Dok D)(how:Int)(T:Tab)(l:List Fm)(gens:List Fm)(rels:List (List Int))(f:Fm)(hf:Gd D f)(k:Nat)(hk:OrdT D T f k)(hl:∀ p∈l,Gd D p)(hll:l.length<=1000)(hk2:k<=1000)(hgl:gens.length<=12)(hrl:rels.length<=12)(he:((aW T (pw D f k)).getD []).length=gens.length)(hE:∀ x∈((aW T (pw D f k)).getD []),-1000000<=x∧x<=1000000)(hTl:∀ p,((aW T p).getD []).length<=12)(hn:((nwT D f T l k 0).map (·.1)).Nodup) :
  CallS Tryz.prog 25 [.loc 0 0,.p (.a (FC f))] (fun v1 v2=>⟨false,1,71,sbC D (.v v1) (.v v2) how T l⟩) (VB 6 52 FC gens) (VB 1 42 enX rels) (fun v1 v2=>⟨false,1,71,sbC D (.v v1) (.v v2) how (nwT D f T l k 0) ((nwT D f T l k 0).map (·.1))⟩) (VB 6 52 FC (gens++[f])) (VB 1 42 enX (rels++[(((aW T (pw D f k)).getD []).map fun x=>-x)++[(k:Int)]])):=by
 have hkp:=hk.pos;have h0:Cl D (prP D):=dZ hf.cl;have hfL:=hf.L6 hD;have jk:aH (k:Int):=by unfold aH;omega
 have hDL:L 40 D:=by have h1:=hD.1;have h2:=hD.2;exact(show L 6 D by unfold L;omega).mono (by decide)
 have cPr:ak Tryz.prog 22 [I D] (.t [PF (prP D),PE 0]):=by
  have h:=iH D hDL;rw[(gm hf.cl).1,(gm hf.cl).2]at h;exact h
 refine GU Tryz.func25 (by kernel_rfl) rfl rfl (bL0 rfl) (fun _ _=>RE rfl rfl rfl) (fun g1 g2=>?_);refine Yy ?_;refine ae (Eff.lend (rd:=[0]) rfl (LendR.box rfl) w8 (xc D hD (.v g1) (.v g2) how T l f hf k hk))<|Zz ?_;refine ma 0 1 2 141 rfl rfl rfl rfl rfl ?_;refine aE hP<|ae (aK (rfl:_=AV.loc _ _))<|ae (cG rfl)<|fY hT rfl<|fY hT rfl<|ae (dY hT rfl rfl rfl rfl rfl rfl)<|ae (b7 hT (encD:=FC) (fun _=>rfl) rfl rfl rfl rfl rfl) ?_;refine aF rfl rfl ?_;refine bD ag (Fx hT rfl rfl rfl rfl rfl (by omega) (by omega) (by show(32:Int)*_<=_;omega))<|Zz ?_;refine dm 31 1000 rfl rfl rfl<|Yy ?_;refine ae (pF (a:=none) (i:=sH) (j:=ty9) (kv:=dJ) (M:=mS T) (k:=ky (pw D f k)) (zs:=[.sl 0 []]) (zv:=.slice none 0 0) hT rfl rfl rfl rfl mT (by kernel_rfl) rfl pJ rfl (.inr rfl) (l4 T) rfl (H1 T (pw D f k)))<|Yy ?_;refine aC (ι:=Nat) (fun i=>stL [(0,.loc 0 0),(3,.loc 3 0),(4,Z (k:Int)),(6,CV ((gens.length:Int)+1).toNat 1000),(37,.p (.c (SL enZ ((aW T (pw D f k)).getD [])))),(38,Z (((aW T (pw D f k)).getD []).length:Int)),(39,Z (i:Int)),(142,Nm g2 2)] [(0,⟨false,3,71,[zn D,zm D,.any,.v g2,.v (.int .i64 how),MP none (enE dJ (mS T)),FsL l]⟩),(1,VB 6 52 FC gens),(2,VB 1 42 enX rels),(3,⟨false,1,52,FC f⟩),(1000,VB 2 29 enI ((((aW T (pw D f k)).getD []).take i).map fun x=>-x))]) (fun i=>i<=((aW T (pw D f k)).getD []).length) (fun i=>((aW T (pw D f k)).getD []).length-i) 0 (Uv _) (ai ⟨.refl _,.refl _,.refl _,.refl _,.refl _,.refl _,.refl _,.refl _,trivial⟩ ⟨rfl,rfl,rfl,rfl,rfl,trivial⟩) ?_;intro i hi;refine Yy ?_;refine ah rfl (fun hb1=>?_) (fun hb1=>?_)
 ·have hb1_:=dT0 hb1;have hi2:i<((aW T (pw D f k)).getD []).length:=by omega
  have hEi:=hE _ (ct 0 hi2);refine Yy ?_;refine ae (aL hT qb (by decide) 0 (n:=(i:Int)) (l:=((aW T (pw D f k)).getD [])) rfl rfl rfl rfl rfl rfl (by omega)) ?_;refine ae (aM hT rfl rfl rfl (dv:=.v (.int .i64 (((aW T (pw D f k)).getD []).getD i 0))) rfl)<|Yy ?_;refine ae (fA rfl (c:=-(((aW T (pw D f k)).getD []).getD i 0)) (by rw[show(0:Int)-((aW T (pw D f k)).getD []).getD i 0=-(((aW T (pw D f k)).getD []).getD i 0) by omega];exact iW0 _ (by omega))) ?_;refine ae (ab (bL (-(((aW T (pw D f k)).getD []).getD i 0)) (by unfold aH;omega)))<|Zz ?_;refine RK.app ag (zt hT rfl rfl rfl rfl rfl rfl rfl rfl (l:=i) ((a6 aI _).trans (by rw[Kh (by omega)];rfl)) (by omega) rfl rfl (by omega))<|Zz ?_;refine dm 48 1000 rfl rfl rfl ?_;refine bp hP<|aF rfl rfl ?_;refine Zz ?_;refine⟨i+1,by omega,by omega,ai ⟨.refl _,.refl _,.refl _,.refl _,.refl _,.refl _,am (by omega),.refl _,trivial⟩ ⟨rfl,rfl,rfl,rfl,Eq.trans (yH _ _) (Ur (fun x=>some (VB 2 29 enI x)) (FO hi2).symm),trivial⟩⟩
 have hb1_:=dF0 hb1;refine aS ?_;have hie:i=((aW T (pw D f k)).getD []).length:=by omega
 subst hie;refine eh (t:=stL [(0,.loc 0 0),(3,.loc 3 0),(4,Z (k:Int)),(6,CV ((((aW T (pw D f k)).getD []).map fun x=>-x)++[(k:Int)]).length 1000),(142,Nm g2 2)] [(0,⟨false,3,71,[zn D,zm D,.any,.v g2,.v (.int .i64 how),MP none (enE dJ (mS T)),FsL l]⟩),(1,VB 6 52 FC gens),(2,VB 1 42 enX rels),(3,⟨false,1,52,FC f⟩),(1000,VB 2 29 enI (((aW T (pw D f k)).getD []).map fun x=>-x))]) (ai ⟨.refl _,.refl _,.refl _,ao (Ur (fun c=>CV c 1000) (by simp;omega)),.refl _,trivial⟩ ⟨rfl,rfl,rfl,rfl,Eq.trans rfl (Ur (fun y:List Int=>some (VB 2 29 enI (y.map fun x=>-x))) (Vm (l:=((aW T (pw D f k)).getD [])))),trivial⟩) ?_;refine aE hP<|ae (aK (rfl:_=AV.loc _ _))<|ae (aK (rfl:_=AV.loc _ _))<|ae (cG rfl)<|fY hT rfl<|fY hT rfl<|ae (dY hT rfl rfl rfl rfl rfl rfl)<|SE hT rfl rfl rfl rfl rfl rfl<|ae (db hT rfl rfl rfl (es:=[_,_,_,_,_,_]) rfl rfl rfl)<|RK.app ag (ep (encD:=FC) hT (fun _=>rfl) (by decide) rfl rfl rfl rfl rfl rfl rfl (b:=f) rfl (by omega) (by decide) (by decide))<|Zz ?_;refine aZ ag (jm hT rfl rfl rfl rfl rfl rfl rfl (a6 (encD:=FC) (k:=6) (fun _=>rfl) (gens++[f])).symm (VL 5) rfl rfl rfl)<|Zz ?_;refine l9 0 58 2 141 rfl rfl rfl rfl rfl rfl (fun v1=>?_);refine ma 0 2 3 142 rfl rfl rfl rfl rfl ?_;refine aE hP<|ae (aK (rfl:_=AV.loc _ _))<|ae (aK (rfl:_=AV.loc _ _))<|ae (cG rfl)<|fY hT rfl<|fY hT rfl<|ae (dY hT rfl rfl rfl rfl rfl rfl)<|ae (aK (rfl:_=AV.axm _ _))<|jd rfl<|ae (ab (bL (k:Int) jk)) ?_;refine ae (db hT rfl rfl rfl (es:=[_,_]) rfl rfl rfl)<|RK.app ag (zt hT rfl rfl rfl rfl rfl rfl rfl rfl (l:=(((aW T (pw D f k)).getD []).map fun x=>-x).length) (a6 aI _) (by simp) rfl rfl (by simp;omega)) ?_;refine RK.mut ag (Eff.frzC (t:=72) (n:=((((aW T (pw D f k)).getD []).map fun x=>-x)++[(k:Int)]).length) rfl (yH (((aW T (pw D f k)).getD []).map fun x=>-x) (k:Int)) rfl (a6 aI _).symm rfl (fun _=>db hT rfl rfl rfl (es:=[_]) rfl rfl rfl)) ?_;refine RK.app ag (ep (encD:=enX) hT Aa (by decide) rfl rfl rfl rfl rfl rfl rfl (b:=(((aW T (pw D f k)).getD []).map fun x=>-x)++[(k:Int)]) rfl (by omega) (by decide) (by decide))<|Zz ?_;refine aZ ag (jm hT rfl rfl rfl rfl rfl rfl rfl (a6 Aa (rels++[(((aW T (pw D f k)).getD []).map fun x=>-x)++[(k:Int)]])).symm (VL 0) rfl rfl rfl)<|Zz ?_;refine l9 0 74 3 142 rfl rfl rfl rfl rfl rfl (fun v2=>?_);refine Yy ?_;refine bD ag (rM (a:=none))<|Zz ?_;refine aE hP<|Zz ?_;refine fv 10 1001 6 52 rfl rfl<|Yy ?_;refine ae (ab cPr)<|Yy ?_;refine aC (ι:=Nat) (fun j=>stL [(0,.loc 0 0),(3,.loc 3 0),(9,.vec 78),(10,.vec 1001),(11,.loc 11 0),(88,Z (k:Int)),(89,Z (j:Int)),(141,Nm v1 58),(142,Nm v2 74)] [(0,⟨false,1,71,sbC D (.v v1) (.v v2) how T l⟩),(3,⟨false,1,52,FC f⟩),(58,VB 6 52 FC (gens++[f])),(74,VB 1 42 enX (rels++[(((aW T (pw D f k)).getD []).map fun x=>-x)++[(k:Int)]])),(78,MB none (enE dJ (mS (nwT D f T l j 0)))),(1001,VB 6 52 FC ((nwT D f T l j 0).map (·.1))),(11,⟨false,1,52,FC (pw D f j)⟩)]) (fun j=>j<=k) (fun j=>k-j) 0 (Uv _) (ai ⟨.refl _,.refl _,.refl _,.refl _,.refl _,.refl _,.refl _,.refl _,.refl _,trivial⟩ ⟨rfl,rfl,rfl,rfl,rfl,rfl,rfl,trivial⟩) ?_;intro j hj;have hpj:Gd D (pw D f j):=hf.pw j;have hjL:=hpj.L6 hD;refine Yy ?_;refine ah rfl (fun hb2=>?_) (fun hb2=>?_)
 ·have hb2_:=dT0 hb2;have hjk:j<k:=by omega
  have cC1:ak Tryz.prog 78 [FA (pw D f j).a (pw D f j).b (pw D f j).c,FA f.a f.b f.c] (.t [PF (pw D f (j+1)),PE 0]):=by
   have h:=kX (pw D f j) f hjL.1 hjL.2.1 hjL.2.2 hfL.1 hfL.2.1 hfL.2.2;rw[hpj.comp hf]at h;exact h
  refine Yy ?_;refine aC (ι:=Nat) (fun i=>stL [(0,.loc 0 0),(3,.loc 3 0),(9,.vec 78),(10,.vec 1001),(11,.loc 11 0),(88,Z (k:Int)),(89,Z (j:Int)),(141,Nm v1 58),(142,Nm v2 74),(13,Z (j:Int)),(95,.p (.c (FsL l))),(96,Z (l.length:Int)),(97,Z (i:Int))] [(0,⟨false,1,71,sbC D (.v v1) (.v v2) how T l⟩),(3,⟨false,1,52,FC f⟩),(58,VB 6 52 FC (gens++[f])),(74,VB 1 42 enX (rels++[(((aW T (pw D f k)).getD []).map fun x=>-x)++[(k:Int)]])),(78,MB none (enE dJ (mS (nwT D f T l j i)))),(1001,VB 6 52 FC ((nwT D f T l j i).map (·.1))),(11,⟨false,1,52,FC (pw D f j)⟩)]) (fun i=>i<=l.length) (fun i=>l.length-i) 0 (Uv _) (ai ⟨.refl _,.refl _,.refl _,.refl _,.refl _,.refl _,.refl _,.refl _,.refl _,.refl _,.refl _,.refl _,.refl _,trivial⟩ ⟨rfl,rfl,rfl,rfl,rfl,rfl,rfl,trivial⟩) ?_;intro i hi;refine Yy ?_;refine ah rfl (fun hb3=>?_) (fun hb3=>?_)
  ·have hb3_:=dT0 hb3;have hi2:i<l.length:=by omega
   have hpi:Gd D (l.getD i ⟨0,0,0⟩):=hl _ (ct _ hi2);have hpL:=hpi.L6 hD;have hqi:Gd D (mlt (l.getD i ⟨0,0,0⟩) (pw D f j)):=hpi.mlt hpj;have cKq:=lI (mlt (l.getD i ⟨0,0,0⟩) (pw D f j)) (hqi.ky hD);have cKp:=lI (l.getD i ⟨0,0,0⟩) (hpi.ky hD);have cC2:ak Tryz.prog 78 [FA (l.getD i ⟨0,0,0⟩).a (l.getD i ⟨0,0,0⟩).b (l.getD i ⟨0,0,0⟩).c,FA (pw D f j).a (pw D f j).b (pw D f j).c] (.t [PF (mlt (l.getD i ⟨0,0,0⟩) (pw D f j)),PE 0]):=by
    have h:=kX (l.getD i ⟨0,0,0⟩) (pw D f j) hpL.1 hpL.2.1 hpL.2.2 hjL.1 hjL.2.1 hjL.2.2;rw[hpi.comp hpj]at h;exact h
   have hnew:=Kd hn hjk hi2;have cCl:=B8 ((aW T (l.getD i ⟨0,0,0⟩)).getD []) (by have:=hTl (l.getD i ⟨0,0,0⟩);omega);have hlen:=hTl (l.getD i ⟨0,0,0⟩);have hsz:((nwT D f T l j i).map (·.1)).length<=2000000:=by rw[Uq,Ke (by omega)];exact UA (Nat.add_le_add (VJ (show j<=1000 by omega) hll) (show i<=1000 by omega)) (by decide)
   refine Yy ?_;refine ae (aL (encD:=FC) hT (fun _=>rfl) (by decide) (⟨0,0,0⟩:Fm) (n:=(i:Int)) (l:=l) rfl rfl rfl rfl rfl rfl (by omega)) ?_;refine ae (au hT rfl rfl rfl (cs:=FC (l.getD i ⟨0,0,0⟩)) rfl rfl)<|Yy ?_;refine ae (ab cC2)<|Yy ?_;refine ae (ab cKq)<|Zz ?_;refine ae (ab cKp) ?_;refine ae (pF (a:=none) (i:=sH) (j:=ty9) (kv:=dJ) (M:=mS T) (k:=ky (l.getD i ⟨0,0,0⟩)) (zs:=[.sl 0 []]) (zv:=.slice none 0 0) hT rfl rfl rfl rfl mT (by kernel_rfl) rfl pJ rfl (.inr rfl) (l4 T) rfl (H1 T (l.getD i ⟨0,0,0⟩))) ?_;refine bD ag (Eff.callV cCl)<|Zz ?_;refine RK.app ag (ep (encD:=enZ) hT qb (by decide) rfl rfl rfl rfl rfl rfl rfl (b:=(j:Int)) rfl (by omega) (by decide) (by decide)) ?_;refine RK.stoL ag (Eff.frzW (encD:=enZ) qb rfl 120 120 rfl rfl rfl (wi (kv:=dJ) (M:=mS (nwT D f T l j i)) (k:=ky (mlt (l.getD i ⟨0,0,0⟩) (pw D f j))) hT rfl rfl rfl rfl mT rfl rfl (l4 _) rfl rfl rfl (.of_eq (Ow hnew))))<|Yy ?_;refine RK.app ag (ep (encD:=FC) hT (fun _=>rfl) (by decide) rfl rfl rfl rfl rfl rfl rfl (b:=(mlt (l.getD i ⟨0,0,0⟩) (pw D f j))) rfl (by omega) (by decide) (by decide))<|Zz ?_;refine dm 124 1001 rfl rfl rfl ?_;refine bp hP<|aF rfl rfl ?_;refine Zz ?_;refine⟨i+1,by omega,by omega,ai ⟨.refl _,.refl _,.refl _,.refl _,.refl _,.refl _,.refl _,.refl _,.refl _,.refl _,.refl _,.refl _,am (by omega),trivial⟩ ⟨rfl,rfl,rfl,rfl,Eq.trans rfl (Ur (fun y=>some (MB none (enE dJ y))) (Rk hnew hi2)),Eq.trans rfl (Ur (fun y=>some (VB 6 52 FC y)) (Rl hi2)),rfl,trivial⟩⟩
  have hb3_:=dF0 hb3;have hie:i=l.length:=by omega
  subst hie;refine Yy ?_;refine ae (ab cC1)<|Yy ?_;refine aF rfl rfl ?_;refine Zz ?_;refine⟨j+1,by omega,by omega,ai ⟨.refl _,.refl _,.refl _,.refl _,.refl _,.refl _,am (by omega),.refl _,.refl _,trivial⟩ ⟨rfl,rfl,rfl,rfl,Eq.trans rfl (Ur (fun y=>some (MB none (enE dJ (mS y)))) nwT_row.symm),Eq.trans rfl (Ur (fun y:Tab=>some (VB 6 52 FC (y.map fun p:Fm×List Int=>p.1))) nwT_row.symm),rfl,trivial⟩⟩
 have hb2_:=dF0 hb2;refine aS ?_;have hje:j=k:=by omega
 subst hje;refine yz (t:=9) (m:=78) rfl rfl (l4 _) ?_;refine eF (encD:=FC) (fun _=>rfl) rfl (t:=10) rfl rfl ?_;refine Yy ?_;refine xZ hT rfl<|Zz ?_;refine xZ hT rfl<|Zz ?_;exact⟨.inl rfl,rfl,v1,v2,58,74,141,142,rfl,rfl,rfl,rfl,rfl,by decide,by decide,by decide⟩
end
section
open Go Go.AM
attribute [local irreducible] RK Eff AWp
def Mz:TyI:=⟨.st [(0,29),(2,32),(3,37),(4,3)],5,88,[zn 0,zm 0,.v (.slice none 0 0),.v (.slice none 0 0),.v (.int .i64 0)]⟩
theorem IJ:TyOK Tryz.prog 39 Mz:=TyOK.mk' (z:=.agg #[.bool false,.slice none 0 0,.slice none 0 0,.slice none 0 0,.int .i64 0]) (by kernel_rfl) Tryz.underlying39 rfl rfl ⟨bY,bZ,z_v _ rfl,z_v _ rfl,z_v _ rfl,trivial⟩
def ttg:TT:=fun T=>bif Nat.beq T 39 then some Mz else tt T
theorem hTg:bM Tryz.prog ttg:=fun T i h=>by
 unfold ttg at h;by_cases e1:T=39
 ·subst e1;cases h;exact IJ
 have n1:Nat.beq T 39=false:=by
  cases q:Nat.beq T 39 with
  |false=>rfl
  |true=>exact absurd (UT q) e1
 rw[n1]at h;exact hT T i h
theorem Lb(D:Int)(hD:Dok D)(h4:D%4=0∨D%4=1)(hcl:Cl D (prP D))(lc:List Fm)(hL:∀ f∈lc,Gd D f)(hLl:lc.length<=1000)(hRed:ak Tryz.prog 6 [I D] (.t [.c (FsL lc),PE 0]))(bs:List (Fm×Nat))(ko:Nat->Fm->Nat)(hs:∀ s,s<bs.length->StepOK D lc (stM D bs s) (bs.getD s (⟨0,0,0⟩,0)) (ko s))(hend:lc.length<=(stM D bs bs.length).l.length)(hn8:bs.length<=8)(hgl:(stM D bs bs.length).g.length=bs.length)(hrl:(stM D bs bs.length).r.length=bs.length)(hr:∀ r∈(stM D bs bs.length).r,r.length<=bs.length∧r≠[]) :
  ak Tryz.prog 7 [I D] (.t [.a (gaC D (stM D bs bs.length).g ((stM D bs bs.length).r.map (iA bs.length)) 1),PE 0]):=by
 have hD1:=hD.1;have hD2:=hD.2;have cR:=xa D (by omega) h4;have hcm:¬ aX D (-65536)<0:=fun e=>by have:=cmpI_lt_zero.1 e;omega
 have h1:Gd D (prP D):=Gd.one hcl;have cKo:=lI (prP D) (h1.ky hD);have hDL:L 40 D:=by have h1:=hD.1;have h2:=hD.2;exact(show L 6 D by unfold L;omega).mono (by decide)
 have cPr:ak Tryz.prog 22 [I D] (.t [PF (prP D),PE 0]):=by
  have h:=iH D hDL;rw[(gm hcl).1,(gm hcl).2]at h;exact h
 refine aq Tryz.func7 rfl rfl rfl rfl<|Yy ?_;refine ae (ab cR)<|Yy ?_;refine ae (ab (bL (-65536) (by decide))) ?_;refine ae (ab (cL D (-65536)))<|Zz ?_;refine aJ rfl (Ix hcm)<|Yy ?_;refine ae (ab hRed)<|Yy ?_;refine ae (ab cPr)<|Yy ?_;refine ae (dh hTg rfl rfl rfl (es:=[_,_,_,_,_]) rfl)<|bD ag (rM (a:=none))<|Zz ?_;refine ae (ab cKo) ?_;refine aZ ag (CE (kv:=dJ) (M:=[]) (M':=mS [(prP D,[])]) hT rfl rfl rfl rfl mT rfl rfl (l4 []) rfl (.refl _))<|Zz ?_;refine RK.mut ag (Eff.frzM (t:=48) (E:=enE dJ (mS [(prP D,[])])) rfl rfl (l4 [(prP D,[])]) (fun _=>dh hT rfl rfl rfl (es:=[_,_,_,_,_,_,_]) rfl))<|Zz ?_;refine x5 135 2001 6 52 rfl ?_;refine x5 136 2002 1 42 rfl<|Yy ?_;refine aC (ι:=Nat×Value×Value) (fun q=>stL [(135,Nm q.2.1 2001),(136,Nm q.2.2 2002),(2,.loc 2 0),(5,.p (.c (FsL lc))),(9,.loc 52 0)] [(2,⟨false,1,39,[zn 0,zm 0,.sl 0 [],.sl 0 [],.v (.int .i64 0)]⟩),(52,⟨false,1,71,sbC D (.v q.2.1) (.v q.2.2) 1 (stM D bs q.1).T (stM D bs q.1).l⟩),(2001,VB 6 52 FC (stM D bs q.1).g),(2002,VB 1 42 enX (stM D bs q.1).r)]) (fun q=>q.1<=bs.length) (fun q=>bs.length-q.1) (0,.slice none 0 0,.slice none 0 0) (Uv _) (ai ⟨.refl _,.refl _,.refl _,.refl _,.refl _,trivial⟩ ⟨rfl,rfl,rfl,rfl,trivial⟩) ?_;intro q hq;refine Yy ?_;refine ah rfl (fun hb1=>?_) (fun hb1=>?_)
 ·have hb1_:=dT0 hb1;have hql:q.1<bs.length:=by
   rcases Ut q.1 bs.length with g|g
   ·exact g
   have:q.1=bs.length:=by omega
   rw[this]at hb1_;omega
  have hst:=hs q.1 hql;refine Yy ?_;refine aC (ι:=Nat×Fm×Nat×Nat) (fun p=>stL [(135,Nm q.2.1 2001),(136,Nm q.2.2 2002),(2,.loc 2 0),(5,.p (.c (FsL lc))),(9,.loc 52 0),(10,.loc 10 0),(11,Z (p.2.2.1:Int)),(12,Z (p.2.2.2:Int)),(61,.p (.c (FsL lc))),(62,Z (lc.length:Int)),(63,Z (p.1:Int))] [(2,⟨false,1,39,[zn 0,zm 0,.sl 0 [],.sl 0 [],.v (.int .i64 0)]⟩),(52,⟨false,1,71,sbC D (.v q.2.1) (.v q.2.2) 1 (stM D bs q.1).T (stM D bs q.1).l⟩),(2001,VB 6 52 FC (stM D bs q.1).g),(2002,VB 1 42 enX (stM D bs q.1).r),(10,⟨false,1,52,FC p.2.1⟩)]) (fun p=>fG (ko q.1) (stM D bs q.1).T (lc.drop p.1) p.2=fG (ko q.1) (stM D bs q.1).T lc (⟨0,0,0⟩,0,0)∧p.1<=lc.length∧p.2.2.2<20) (fun p=>lc.length-p.1) (0,⟨0,0,0⟩,0,0) ⟨rfl,Uv _,by decide⟩ (ai ⟨.refl _,.refl _,.refl _,.refl _,.refl _,.refl _,.refl _,.refl _,.refl _,.refl _,.refl _,trivial⟩ ⟨rfl,rfl,rfl,rfl,rfl,trivial⟩) ?_;intro p hp;have hp2:=hp.2.1;have hp3:=hp.2.2;refine Yy ?_;refine ah rfl (fun hb2=>?_) (fun hb2=>?_)
  ·have hb2_:=dT0 hb2;have hpl:p.1<lc.length:=by omega
   have hfL:(lc.getD p.1 ⟨0,0,0⟩)∈lc:=ct _ hpl;have hfi:Gd D (lc.getD p.1 ⟨0,0,0⟩):=hL _ hfL;have cKf:=lI (lc.getD p.1 ⟨0,0,0⟩) (hfi.ky hD);refine Yy ?_;refine ae (aL (encD:=FC) hT (fun _=>rfl) (by decide) (⟨0,0,0⟩:Fm) (n:=(p.1:Int)) (l:=lc) rfl rfl rfl rfl rfl rfl (by omega)) ?_;refine ae (au hT rfl rfl rfl (cs:=FC (lc.getD p.1 ⟨0,0,0⟩)) rfl rfl)<|Yy ?_;refine ae (ab cKf) ?_;refine ae (pF (a:=none) (i:=sH) (j:=ty9) (kv:=dJ) (M:=mS (stM D bs q.1).T) (k:=ky (lc.getD p.1 ⟨0,0,0⟩)) (zs:=[.sl 0 []]) (zv:=.slice none 0 0) hT rfl rfl rfl rfl mT (by kernel_rfl) rfl pJ rfl (.inr rfl) (l4 (stM D bs q.1).T) rfl (H0 (stM D bs q.1).T (lc.getD p.1 ⟨0,0,0⟩)))<|Yy ?_;refine ah rfl (fun hb3=>?_) (fun hb3=>?_)
   ·refine Yy ?_;refine aF rfl rfl ?_;refine Zz ?_;refine⟨(p.1+1,p.2.1,p.2.2.1,p.2.2.2),⟨GX hp.1 hpl hb3,hpl,hp.2.2⟩,(by show lc.length-(p.1+1)<lc.length-p.1;omega),ai ⟨.refl _,.refl _,.refl _,.refl _,.refl _,.refl _,.refl _,.refl _,.refl _,.refl _,am (by show(p.1:Int)+1=((p.1+1:Nat):Int);omega),trivial⟩ ⟨rfl,rfl,rfl,rfl,rfl,trivial⟩⟩
   have hno:=hb3;have hoi:=hst.ord _ hfL (Lh hno);refine Yy ?_;refine ae (Eff.lend (rd:=[52]) rfl (LendR.box rfl) w8 (xc D hD (.v q.2.1) (.v q.2.2) 1 (stM D bs q.1).T (stM D bs q.1).l (lc.getD p.1 ⟨0,0,0⟩) hfi (ko q.1 (lc.getD p.1 ⟨0,0,0⟩)) hoi.1))<|Yy ?_;refine ah rfl (fun hb4=>?_) (fun hb4=>?_)
   ·have hb4_:=dT0 hb4;have hgt:(ko q.1 (lc.getD p.1 ⟨0,0,0⟩))>p.2.2.1:=by omega
    refine Yy ?_;refine aF rfl rfl ?_;refine Yy ?_;refine ah rfl (fun hb5=>?_) (fun hb5=>?_)
    ·have hb5_:=bT hb5;have hc20:p.2.2.2+1=20:=by have h:=hb5_;omega
     have hbe:(lc.getD p.1 ⟨0,0,0⟩)=(bs.getD q.1 (⟨0,0,0⟩,0)).1:=((xO hp.1 hpl hno hc20).1 hgt).trans hst.best;refine aS<|eh (t:=stL [(135,Nm q.2.1 2001),(136,Nm q.2.2 2002),(2,.loc 2 0),(5,.p (.c (FsL lc))),(9,.loc 52 0),(10,.loc 10 0)] [(2,⟨false,1,39,[zn 0,zm 0,.sl 0 [],.sl 0 [],.v (.int .i64 0)]⟩),(52,⟨false,1,71,sbC D (.v q.2.1) (.v q.2.2) 1 (stM D bs q.1).T (stM D bs q.1).l⟩),(2001,VB 6 52 FC (stM D bs q.1).g),(2002,VB 1 42 enX (stM D bs q.1).r),(10,⟨false,1,52,FC (bs.getD q.1 (⟨0,0,0⟩,0)).1⟩)]) (ai ⟨.refl _,.refl _,.refl _,.refl _,.refl _,.refl _,trivial⟩ ⟨rfl,rfl,rfl,rfl,Eq.trans rfl (Ur (fun x=>some (⟨false,1,52,FC x⟩:Blk)) hbe),trivial⟩) ?_;refine pi hT (l:=[(2,.loc 2 0),(5,.p (.c (FsL lc))),(9,.loc 52 0),(10,.loc 10 0)]) (mS:=52) (m1:=2001) (m2:=2002) (mb:=10) (xe D hD 1 (stM D bs q.1).T (stM D bs q.1).l (stM D bs q.1).g (stM D bs q.1).r (bs.getD q.1 (⟨0,0,0⟩,0)).1 hst.gd (bs.getD q.1 (⟨0,0,0⟩,0)).2 hst.od hst.hl hst.hll hst.k hst.gl hst.rl hst.he hst.hE hst.hT hst.hn) rfl rfl rfl rfl rfl rfl rfl rfl rfl (pM rfl) (fun _ _=>rfl) rfl rfl rfl rfl rfl rfl rfl (fun v1 v2=>?_);refine⟨(q.1+1,v1,v2),hql,(by show bs.length-(q.1+1)<bs.length-q.1;omega),ai ⟨.refl _,.refl _,.refl _,.refl _,.refl _,trivial⟩ ⟨rfl,rfl,rfl,rfl,trivial⟩⟩
    have hb5_:=bF hb5;have hc20:p.2.2.2+1≠20:=by have h:=hb5_;omega
    have hnx:=(xN hp.1 hpl hno hc20).1 hgt;refine Yy ?_;refine aF rfl rfl ?_;refine Zz ?_;refine⟨(p.1+1,(lc.getD p.1 ⟨0,0,0⟩),(ko q.1 (lc.getD p.1 ⟨0,0,0⟩)),p.2.2.2+1),⟨hnx,hpl,by show p.2.2.2+1<20;omega⟩,(by show lc.length-(p.1+1)<lc.length-p.1;omega),ai ⟨.refl _,.refl _,.refl _,.refl _,.refl _,.refl _,.refl _,am (by show(p.2.2.2:Int)+1=((p.2.2.2+1:Nat):Int);omega),.refl _,.refl _,am (by show(p.1:Int)+1=((p.1+1:Nat):Int);omega),trivial⟩ ⟨rfl,rfl,rfl,rfl,rfl,trivial⟩⟩
   have hb4_:=dF0 hb4;have hgt:¬ (ko q.1 (lc.getD p.1 ⟨0,0,0⟩))>p.2.2.1:=by omega
   refine Yy ?_;refine aF rfl rfl ?_;refine Yy ?_;refine ah rfl (fun hb6=>?_) (fun hb6=>?_)
   ·have hb6_:=bT hb6;have hc20:p.2.2.2+1=20:=by have h:=hb6_;omega
    have hbe:p.2.1=(bs.getD q.1 (⟨0,0,0⟩,0)).1:=((xO hp.1 hpl hno hc20).2 hgt).trans hst.best;refine aS<|eh (t:=stL [(135,Nm q.2.1 2001),(136,Nm q.2.2 2002),(2,.loc 2 0),(5,.p (.c (FsL lc))),(9,.loc 52 0),(10,.loc 10 0)] [(2,⟨false,1,39,[zn 0,zm 0,.sl 0 [],.sl 0 [],.v (.int .i64 0)]⟩),(52,⟨false,1,71,sbC D (.v q.2.1) (.v q.2.2) 1 (stM D bs q.1).T (stM D bs q.1).l⟩),(2001,VB 6 52 FC (stM D bs q.1).g),(2002,VB 1 42 enX (stM D bs q.1).r),(10,⟨false,1,52,FC (bs.getD q.1 (⟨0,0,0⟩,0)).1⟩)]) (ai ⟨.refl _,.refl _,.refl _,.refl _,.refl _,.refl _,trivial⟩ ⟨rfl,rfl,rfl,rfl,Eq.trans rfl (Ur (fun x=>some (⟨false,1,52,FC x⟩:Blk)) hbe),trivial⟩) ?_;refine pi hT (l:=[(2,.loc 2 0),(5,.p (.c (FsL lc))),(9,.loc 52 0),(10,.loc 10 0)]) (mS:=52) (m1:=2001) (m2:=2002) (mb:=10) (xe D hD 1 (stM D bs q.1).T (stM D bs q.1).l (stM D bs q.1).g (stM D bs q.1).r (bs.getD q.1 (⟨0,0,0⟩,0)).1 hst.gd (bs.getD q.1 (⟨0,0,0⟩,0)).2 hst.od hst.hl hst.hll hst.k hst.gl hst.rl hst.he hst.hE hst.hT hst.hn) rfl rfl rfl rfl rfl rfl rfl rfl rfl (pM rfl) (fun _ _=>rfl) rfl rfl rfl rfl rfl rfl rfl (fun v1 v2=>?_);refine⟨(q.1+1,v1,v2),hql,(by show bs.length-(q.1+1)<bs.length-q.1;omega),ai ⟨.refl _,.refl _,.refl _,.refl _,.refl _,trivial⟩ ⟨rfl,rfl,rfl,rfl,trivial⟩⟩
   have hb6_:=bF hb6;have hc20:p.2.2.2+1≠20:=by have h:=hb6_;omega
   have hnx:=(xN hp.1 hpl hno hc20).2 hgt;refine Yy ?_;refine aF rfl rfl ?_;refine Zz ?_;refine⟨(p.1+1,p.2.1,p.2.2.1,p.2.2.2+1),⟨hnx,hpl,by show p.2.2.2+1<20;omega⟩,(by show lc.length-(p.1+1)<lc.length-p.1;omega),ai ⟨.refl _,.refl _,.refl _,.refl _,.refl _,.refl _,.refl _,am (by show(p.2.2.2:Int)+1=((p.2.2.2+1:Nat):Int);omega),.refl _,.refl _,am (by show(p.1:Int)+1=((p.1+1:Nat):Int);omega),trivial⟩ ⟨rfl,rfl,rfl,rfl,rfl,trivial⟩⟩
  have hb2_:=dF0 hb2;have hbe:p.2.1=(bs.getD q.1 (⟨0,0,0⟩,0)).1:=(Ur Prod.fst (LR hp.1 (by omega))).trans hst.best;refine aS<|eh (t:=stL [(135,Nm q.2.1 2001),(136,Nm q.2.2 2002),(2,.loc 2 0),(5,.p (.c (FsL lc))),(9,.loc 52 0),(10,.loc 10 0)] [(2,⟨false,1,39,[zn 0,zm 0,.sl 0 [],.sl 0 [],.v (.int .i64 0)]⟩),(52,⟨false,1,71,sbC D (.v q.2.1) (.v q.2.2) 1 (stM D bs q.1).T (stM D bs q.1).l⟩),(2001,VB 6 52 FC (stM D bs q.1).g),(2002,VB 1 42 enX (stM D bs q.1).r),(10,⟨false,1,52,FC (bs.getD q.1 (⟨0,0,0⟩,0)).1⟩)]) (ai ⟨.refl _,.refl _,.refl _,.refl _,.refl _,.refl _,trivial⟩ ⟨rfl,rfl,rfl,rfl,Eq.trans rfl (Ur (fun x=>some (⟨false,1,52,FC x⟩:Blk)) hbe),trivial⟩) ?_;refine pi hT (l:=[(2,.loc 2 0),(5,.p (.c (FsL lc))),(9,.loc 52 0),(10,.loc 10 0)]) (mS:=52) (m1:=2001) (m2:=2002) (mb:=10) (xe D hD 1 (stM D bs q.1).T (stM D bs q.1).l (stM D bs q.1).g (stM D bs q.1).r (bs.getD q.1 (⟨0,0,0⟩,0)).1 hst.gd (bs.getD q.1 (⟨0,0,0⟩,0)).2 hst.od hst.hl hst.hll hst.k hst.gl hst.rl hst.he hst.hE hst.hT hst.hn) rfl rfl rfl rfl rfl rfl rfl rfl rfl (pM rfl) (fun _ _=>rfl) rfl rfl rfl rfl rfl rfl rfl (fun v1 v2=>?_);refine⟨(q.1+1,v1,v2),hql,(by show bs.length-(q.1+1)<bs.length-q.1;omega),ai ⟨.refl _,.refl _,.refl _,.refl _,.refl _,trivial⟩ ⟨rfl,rfl,rfl,rfl,trivial⟩⟩
 have hb1_:=dF0 hb1;have hqe:q.1=bs.length:=by
  rcases Ut q.1 bs.length with g|g
  ·have:=(hs q.1 g).lt;omega
  omega
 refine aS<|eh (t:=stL [(135,Nm q.2.1 2001),(136,Nm q.2.2 2002),(2,.loc 2 0),(9,.loc 52 0)] [(2,⟨false,1,39,[zn 0,zm 0,.sl 0 [],.sl 0 [],.v (.int .i64 0)]⟩),(52,⟨false,1,71,sbC D (.v q.2.1) (.v q.2.2) 1 (stM D bs bs.length).T (stM D bs bs.length).l⟩),(2001,VB 6 52 FC (stM D bs bs.length).g),(2002,VB 1 42 enX (stM D bs bs.length).r)]) (ai ⟨.refl _,.refl _,.refl _,.refl _,trivial⟩ ⟨rfl,Eq.trans rfl (Ur (fun s=>some (⟨false,1,71,sbC D (.v q.2.1) (.v q.2.2) 1 (stM D bs s).T (stM D bs s).l⟩:Blk)) hqe),Eq.trans rfl (Ur (fun s=>some (VB 6 52 FC (stM D bs s).g)) hqe),Eq.trans rfl (Ur (fun s=>some (VB 1 42 enX (stM D bs s).r)) hqe),trivial⟩) ?_;refine ma 52 2001 2 135 rfl rfl rfl rfl rfl ?_;refine aE hP<|ae (aK (rfl:_=AV.loc _ _))<|ae (cG rfl)<|fY hT rfl<|fY hT rfl<|ae (dY hT rfl rfl rfl rfl rfl rfl)<|ae (b7 hT (encD:=FC) (fun _=>rfl) rfl rfl rfl rfl rfl)<|Zz ?_;refine l9 52 2001 2 135 rfl rfl rfl rfl rfl rfl (fun w1=>?_);refine Yy ?_;refine aJ rfl (Ix (by omega)) ?_;refine aT<|ma 52 2002 3 136 rfl rfl rfl rfl rfl ?_;refine eh (t:=stL [(135,Nm w1 2001),(2,.loc 2 0),(9,.loc 52 0),(19,Z (bs.length:Int))] [(2,⟨false,1,39,[zn 0,zm 0,.sl 0 [],.sl 0 [],.v (.int .i64 0)]⟩),(52,⟨false,2004,71,[zn D,zm D,.v w1,.any,.v (.int .i64 1),MP none (enE dJ (mS (stM D bs bs.length).T)),FsL (stM D bs bs.length).l]⟩),(2001,VB 6 52 FC (stM D bs bs.length).g),(2002,VB 1 42 enY (mxY bs.length (stM D bs bs.length).r 0))]) (ai ⟨.refl _,.refl _,.refl _,am (Ur (fun x:Nat=>(x:Int)) hgl),trivial⟩ ⟨rfl,rfl,rfl,Eq.trans rfl (Ur (fun y=>some (⟨true,1,42,y⟩:Blk)) (Rn bs.length (stM D bs bs.length).r).symm),trivial⟩) ?_;refine bi<|aE hP<|ae (aK (rfl:_=AV.loc _ _))<|ae (cG rfl)<|fY hT rfl<|fY hT rfl<|ae (dY hT rfl rfl rfl rfl rfl rfl)<|ae (b7 hT (encD:=enY) gX rfl rfl rfl rfl rfl)<|Yy ?_;refine aC (ι:=Nat) (fun i=>stL [(135,Nm w1 2001),(2,.loc 2 0),(9,.loc 52 0),(19,Z (bs.length:Int)),(110,.vec 2002),(111,Z ((stM D bs bs.length).r.length:Int)),(112,Z (i:Int))] [(2,⟨false,1,39,[zn 0,zm 0,.sl 0 [],.sl 0 [],.v (.int .i64 0)]⟩),(52,⟨false,2004,71,[zn D,zm D,.v w1,.any,.v (.int .i64 1),MP none (enE dJ (mS (stM D bs bs.length).T)),FsL (stM D bs bs.length).l]⟩),(2001,VB 6 52 FC (stM D bs bs.length).g),(2002,VB 1 42 enY (mxY bs.length (stM D bs bs.length).r i))]) (fun i=>i<=(stM D bs bs.length).r.length) (fun i=>(stM D bs bs.length).r.length-i) 0 (Uv _) (ai ⟨.refl _,.refl _,.refl _,.refl _,.refl _,am (Ur (fun x:Nat=>(x:Int)) (s8 bs.length (stM D bs bs.length).r (Uv _))),.refl _,trivial⟩ ⟨rfl,rfl,rfl,rfl,trivial⟩) ?_;intro i hi;refine Yy ?_;refine ah rfl (fun hb7=>?_) (fun hb7=>?_)
 ·have hb7_:=dT0 hb7;have hir:i<(stM D bs bs.length).r.length:=by omega
  have hrw:=hr _ (ct [] hir);have hml:=s8 bs.length (stM D bs bs.length).r (i:=i) (by omega);refine Yy ?_;refine ae (av hT gX (n:=i) (l:=mxY bs.length (stM D bs bs.length).r i) rfl rfl rfl rfl (by rfl) rfl rfl rfl (by omega)) ?_;refine ae (bq hT rfl rfl rfl rfl (Km hir))<|Zz ?_;rcases Ut ((stM D bs bs.length).r.getD i []).length bs.length with hlt|hge
  ·refine bp hP<|ae (aK (rfl:_=AV.loc _ _))<|ae (cG rfl)<|fY hT rfl<|fY hT rfl<|ae (dY hT rfl rfl rfl rfl rfl rfl)<|jd rfl<|jd rfl<|jd rfl<|jd rfl<|ae (ud hT rfl rfl rfl)<|ae (aY rfl rfl (c:=((bs.length-((stM D bs bs.length).r.getD i []).length:Nat):Int)) (by rw[show(bs.length:Int)-(((stM D bs bs.length).r.getD i []).length:Int)=((bs.length-((stM D bs bs.length).r.getD i []).length:Nat):Int) by omega];exact iW0 _ (by omega))) ?_;refine bD ag (FF hT rfl rfl rfl rfl rfl rfl (a6 aI _) rfl (by omega) (Gy hrw.2) (qH _) (by show _*32<=_;omega) (by omega)) ?_;refine ae (av hT gX (n:=i) (l:=mxY bs.length (stM D bs bs.length).r i) rfl rfl rfl rfl (by rfl) rfl rfl rfl (by omega)) ?_;refine RK.stoL ag (Eff.frzW (encD:=enI) (l:=iA bs.length ((stM D bs bs.length).r.getD i [])) aI rfl 128 128 rfl (J1 bs.length ((stM D bs bs.length).r.getD i [])) rfl (fB hT rfl rfl rfl rfl rfl (by show _<(List.flatMap enY _).length;rw[a6 gX];omega) (oQ gX _ _ (true,iA bs.length ((stM D bs bs.length).r.getD i [])) _ rfl (by omega))))<|Yy ?_;refine aF rfl rfl ?_;refine Zz ?_;refine⟨i+1,by omega,by omega,ai ⟨.refl _,.refl _,.refl _,.refl _,.refl _,.refl _,am (by omega),trivial⟩ ⟨rfl,rfl,rfl,Eq.trans rfl (Ur (fun y=>some (VB 1 42 enY y)) (zA hir)),trivial⟩⟩
  refine bp hP<|ae (aK (rfl:_=AV.loc _ _))<|ae (cG rfl)<|fY hT rfl<|fY hT rfl<|ae (dY hT rfl rfl rfl rfl rfl rfl)<|jd rfl<|jd rfl<|jd rfl<|jd rfl<|ae (ud hT rfl rfl rfl)<|ae (aY rfl rfl (c:=0) (by rw[show(bs.length:Int)-(((stM D bs bs.length).r.getD i []).length:Int)=0 by omega];rfl)) ?_;refine ae (FG hT rfl rfl rfl rfl rfl rfl rfl)<|ae (av hT gX (n:=i) (l:=mxY bs.length (stM D bs bs.length).r i) rfl rfl rfl rfl (by rfl) rfl rfl rfl (by omega)) ?_;refine aZ ag (fB hT rfl rfl rfl rfl rfl (by show _<(List.flatMap enY _).length;rw[a6 gX];omega) (oQ gX _ _ (true,iA bs.length ((stM D bs bs.length).r.getD i [])) _ (by rw[Fu (by omega)];rfl) (by omega)))<|Yy ?_;refine aF rfl rfl ?_;refine Zz ?_;refine⟨i+1,by omega,by omega,ai ⟨.refl _,.refl _,.refl _,.refl _,.refl _,.refl _,am (by omega),trivial⟩ ⟨rfl,rfl,rfl,Eq.trans rfl (Ur (fun y=>some (VB 1 42 enY y)) (zA hir)),trivial⟩⟩
 have hb7_:=dF0 hb7;refine aS ?_;have hie:i=(stM D bs bs.length).r.length:=by omega
 subst hie;refine l9 52 2002 3 136 rfl rfl rfl rfl rfl rfl (fun w2=>?_);refine eh (t:=stL [(135,Nm w1 2001),(136,Nm w2 2002),(2,.loc 2 0),(9,.loc 52 0)] [(2,⟨false,1,39,[zn 0,zm 0,.sl 0 [],.sl 0 [],.v (.int .i64 0)]⟩),(52,⟨false,1,71,sbC D (.v w1) (.v w2) 1 (stM D bs bs.length).T (stM D bs bs.length).l⟩),(2001,VB 6 52 FC (stM D bs bs.length).g),(2002,VB 1 42 aO ((stM D bs bs.length).r.map (iA bs.length)))]) (ai ⟨.refl _,.refl _,.refl _,.refl _,trivial⟩ ⟨rfl,rfl,rfl,Eq.trans rfl (Ur (fun y=>some (⟨true,1,42,y⟩:Blk)) (Kn bs.length (stM D bs bs.length).r)),trivial⟩) ?_;refine uO (encD:=FC) (fun _=>rfl) rfl 52 2001 2 135 rfl rfl rfl rfl rfl rfl ?_;refine uO (encD:=aO) aG rfl 52 2002 3 136 rfl rfl rfl rfl rfl rfl<|Yy ?_;refine b9 rfl (.inr rfl) (aA hT rfl rfl rfl rfl (cs:=[_,_,_,_,_]) rfl rfl) (a8 rfl) ?_ bd;exact .refl _
end
section
open Go Go.AM
attribute [local irreducible] RK Eff AWp
theorem Ak(f o:Fm)(k:Int)(hf:Cl (dsc f.a f.b f.c) f)(hfa:L 6 f.a)(hfb:L 6 f.b)(hfc:L 6 f.c)(ho:o=prP (dsc f.a f.b f.c))(hk:aH k)(hD:-1000000000000000000<=(dsc f.a f.b f.c)) :
  ak Tryz.prog 53 [Z k,.ip (FL f.a f.b f.c),.ip (FL o.a o.b o.c)] (B (decide (zpw (dsc f.a f.b f.c) f k=prP (dsc f.a f.b f.c)))):=by
 subst ho;have ik:L 20 k:=(show L 6 k by unfold L;unfold aH at hk;omega).mono (by decide);refine aq Tryz.func53 rfl rfl rfl rfl<|Yy ?_;refine ae (au hT rfl rfl rfl (cs:=[_,_,_,_,_,_]) rfl rfl)<|Zz ?_;refine ae (ab (jJ _ hk)) ?_;refine ae (ab (xG f k hf hfa hfb hfc ik (.inr hD))) ?_;refine ae (au hT rfl rfl rfl (cs:=[_,_,_,_,_,_]) rfl rfl)<|ae (ab (xI _ _ _ _ _ _))<|Yy ?_;exact bn (by rw[Vg,decide_eq_true_iff,decide_eq_true_iff];exact H9)
theorem GN(f:Fm)(h:Int)(hfa:L 6 f.a)(hfb:L 6 f.b)(hfc:L 6 f.c)(hh:-1000000000<=h∧h<=1000000000)(hDr:rfE f=0->-1000000000000000000<=(dsc f.a f.b f.c)) :
  ak Tryz.prog 13 [FA f.a f.b f.c,Z h] (.t [PE (orV f h),PE (orE f h)]):=by
 have ifa:LB f.a 6:=⟨hfa⟩
 have ifb:LB f.b 6:=⟨hfb⟩
 have ifc:LB f.c 6:=⟨hfc⟩
 have jh:aH h:=by unfold aH;omega
 refine aq Tryz.func13 rfl rfl rfl rfl<|Yy ?_;refine ae (ab (jI _ _ _ lz lz lz))<|Yy ?_;refine ah rfl (fun hb1=>?_) (fun hb1=>?_)
 ·have hb1_:=cg hb1;refine Yy ?_;exact ao (NV hb1_)
 have hb1_:=ci hb1;have h0:rfE f=0:=hb1_;have cl:=lx h0;have hD1:=hDr h0;have hpr:prF (dsc f.a f.b f.c)=prP (dsc f.a f.b f.c):=(gm cl).1;refine Yy ?_;refine ae (ab (oV _ _ _ lz lz lz))<|Zz ?_;refine bo (t:=2) rfl rfl ?_;refine bo (t:=7) rfl rfl ?_;refine Yy ?_;refine aU (t:=21) rfl (fun hg2=>?_) (fun hg2=>?_)
 ·have hg2_:=dT0 hg2;refine Yy ?_;exact ao (HT h0 (NZ hg2))
 have hg2_:=dF0 hg2;refine az hg2 (aK (rfl:_=AV.fn _ _)) ?_;refine Zz ?_;refine az hg2 (Eff.callC rfl (Ak f _ h cl hfa hfb hfc hpr jh hD1)) ?_;refine az hg2 (cZ rfl) ?_;refine Zz ?_;refine ah rfl (fun hb3=>?_) (fun hb3=>?_)
 ·have hb3_:=(dV hb3)
  refine Yy ?_;exact ao (HT h0 (NX hb3))
 have hb3_:=(dI hb3)
 have hB:=NY hg2 hb3;have g1:=(sU hB).1;have g2:=(sU hB).2;refine(Ord.ex (n:=h.toNat) (by omega) g2).elim (fun o hoo=>?_);have hO:=hoo.1;have hle:=hoo.2;have hdv:=(hO.iff cl h.toNat).1 g2;refine Yy ?_;refine aC (ι:=Nat×Nat×Nat) (fun p=>stL [(1,Z (p.1:Int)),(8,.fn 53 [FL f.a f.b f.c,FL (prF (dsc f.a f.b f.c)).a (prF (dsc f.a f.b f.c)).b (prF (dsc f.a f.b f.c)).c]),(9,Z (p.2.2:Int)),(10,Z (p.2.1:Int))] []) (fun p=>OrI o p.1 p.2.1 p.2.2∧(p.2.1=1∨p.2.2<=p.2.1)∧p.1<=1000000000∧p.2.1<=1000000000) (fun p=>orM p.2.1 p.2.2) (h.toNat,h.toNat,2) ⟨OrI.start (by omega) hdv,by simp only;omega,by simp only;omega,by simp only;omega⟩ (ai ⟨am (by simp only;omega),.refl _,.refl _,am (by simp only;omega),trivial⟩ trivial) ?_;rintro p ⟨i,hdm0,hb1p,hb2p⟩;have d22:=i.d2;refine Yy ?_;refine ah rfl (fun hb4=>?_) (fun hb4=>?_)
 ·have hb4_:=dT0 hb4;have hm1:1<p.2.1:=by omega
  have hdm:p.2.2<=p.2.1:=by omega
  refine aT<|bi<|aR<|bR (ι:=Nat) (fun d1=>stL [(1,Z (p.1:Int)),(8,.fn 53 [FL f.a f.b f.c,FL (prF (dsc f.a f.b f.c)).a (prF (dsc f.a f.b f.c)).b (prF (dsc f.a f.b f.c)).c]),(9,Z (d1:Int)),(10,Z (p.2.1:Int))] []) (fun d1=>OrI o p.1 p.2.1 d1∧d1<=p.2.1∧p.2.2<=d1) ?_ ?_
  ·refine Yy ?_;refine ae (bV rfl rfl (by omega) (c:=((p.2.1/p.2.2:Nat):Int)) (sR (by omega) (by omega)))<|Zz ?_;refine ah rfl (fun hb5=>?_) (fun hb5=>?_)
   ·have hb5_:=dT0 hb5;refine bp hP<|Zz ?_;refine⟨p.2.1,⟨i.jump (RD (by have:=i.d2;omega) hb5_) hm1,Iv _,hdm⟩,ai ⟨.refl _,.refl _,.refl _,.refl _,trivial⟩ trivial⟩
   have hb5_:=dF0 hb5;refine aT ?_;refine⟨p.2.2,⟨i,hdm,Iv _⟩,ai ⟨.refl _,.refl _,.refl _,.refl _,trivial⟩ trivial⟩
  rintro d1 ⟨i1,hd1,hd2⟩;have d12:=i1.d2;refine aR<|aC (ι:=Nat×Nat) (fun r=>stL [(1,Z (r.1:Int)),(8,.fn 53 [FL f.a f.b f.c,FL (prF (dsc f.a f.b f.c)).a (prF (dsc f.a f.b f.c)).b (prF (dsc f.a f.b f.c)).c]),(9,Z (d1:Int)),(10,Z (r.2:Int))] []) (fun r=>OrI o r.1 r.2 d1∧r.2<=p.2.1∧r.1<=1000000000) (fun r=>r.2) (p.1,p.2.1) ⟨i1,Iv _,hb1p⟩ (ai ⟨.refl _,.refl _,.refl _,.refl _,trivial⟩ trivial) ?_;rintro r ⟨j,hr2,hr1⟩;refine Yy ?_;refine ae (cf rfl rfl (by omega) (c:=((r.2%d1:Nat):Int)) vQ)<|Zz ?_;refine ah rfl (fun hb6=>?_) (fun hb6=>?_)
  ·have hb6_:=bT hb6;have hdvd:=Bw hb6_;have q1:=XO r.1 d1;have v1:=(j.div hdvd).1;have v2:=(j.div hdvd).2.1;have v4:=(j.div hdvd).2.2.2;have jq:aH ((r.1/d1:Nat):Int):=Ob (UA q1 hr1);refine Yy ?_;refine ae (bV rfl rfl (by omega) (c:=((r.2/d1:Nat):Int)) (sR (by omega) (by omega)))<|Yy ?_;refine ae (bV rfl rfl (by omega) (c:=((r.1/d1:Nat):Int)) (sR (by omega) (by omega))) ?_;refine ae (Eff.callC rfl (Ak f _ _ cl hfa hfb hfc hpr jq hD1))<|Zz ?_;refine ah rfl (fun hb7=>?_) (fun hb7=>?_)
   ·refine Yy ?_;refine ae (bV rfl rfl (by omega) (c:=((r.1/d1:Nat):Int)) (sR (by omega) (by omega)))<|Zz ?_;refine⟨(r.1/d1,r.2/d1),⟨v1 (J3 hO cl hb7),by simp only;omega,by simp only;omega⟩,v4,ai ⟨.refl _,.refl _,.refl _,.refl _,trivial⟩ trivial⟩
   refine aT ?_;refine⟨(r.1,r.2/d1),⟨v2 (Fv hO cl hb7),by simp only;omega,hr1⟩,v4,ai ⟨.refl _,.refl _,.refl _,.refl _,trivial⟩ trivial⟩
  have hb6_:=bF hb6;have hnd:=j.next (yi hb6_);refine Yy ?_;refine aF rfl rfl ?_;refine Zz ?_;refine⟨(r.1,r.2,d1+1),⟨hnd.1,hnd.2,by simp only;omega,by simp only;omega⟩,NW hm1 hdm hd2 hr2 hnd.2,ai ⟨.refl _,.refl _,am (by simp only;omega),.refl _,trivial⟩ trivial⟩
 have hb4_:=dF0 hb4;refine aS<|aE hP<|Zz ?_;refine bC<|E11 rfl rfl rfl ?_;have hfin:=i.fin (by omega);exact ao (by rw[hfin];exact Cw h0 hB hO)
end
section
open Go Go.AM
attribute [local irreducible] RK Eff AWp
end
section
open Go Go.AM
attribute [local irreducible] RK Eff AWp
theorem uQ(F:FuncId)(caps:List (List DV))(p:Fm->Bool)(l:List Fm)(hl:(l.length:Int)<=1000000)(hc:∀ g,g∈l->ak Tryz.prog F (.p (.a (FC g))::caps.map .ip) (B (p g))) :
  CallM Tryz.prog 122 [.vec 0,.fn F caps] (upd O 0 (some (FB 52 l))) (Z (fiV p l)) (upd O 0 (some (FB 52 l))):=by
 refine dk (np:=1) Tryz.func122 (by kernel_rfl) rfl rfl (bL0 rfl) eJ ff rfl<|Yy ?_;refine ae (qp hT rfl rfl rfl rfl)<|Yy ?_;refine aC (ι:=Nat) (fun k=>stL [(0,.vec 0),(1,.fn F caps),(7,Z (l.length:Int)),(8,Z (k:Int))] [(0,FB 52 l)]) (fun k=>k<=l.length∧k<=l.findIdx p) (fun k=>l.length-k) 0 ⟨Uv _,Uv _⟩ (ai ⟨.refl _,.refl _,.refl _,.refl _,trivial⟩ ⟨rfl,trivial⟩) ?_;rintro k ⟨hk1,hk2⟩;refine Yy ?_;refine ah rfl (fun hb1=>?_) (fun hb1=>?_)
 ·have hb1_:=dT0 hb1;refine Yy ?_;refine ae (kH hT (n:=k) rfl rfl rfl rfl rfl rfl rfl (by omega)) ?_;refine ae (oo hT (n:=k) rfl rfl rfl rfl rfl (by omega)) ?_;refine ae (Eff.callC rfl (hc (l.getD k ⟨0,0,0⟩) (qY (by omega))))<|Zz ?_;refine ah rfl (fun hb2=>?_) (fun hb2=>?_)
  ·refine Yy ?_;refine bK rfl (.inr rfl) (a8 rfl) ?_ (dX ?_);exact am (Pe hk2 hb1_ hb2).symm;exact rfl
  refine Yy ?_;refine aF rfl rfl ?_;refine Zz ?_;have hn2:=R2 hk2 hb1_ hb2;refine⟨k+1,⟨by omega,hn2⟩,by omega,ai ⟨.refl _,.refl _,.refl _,am (by omega),trivial⟩ ⟨rfl,trivial⟩⟩
 have hb1_:=dF0 hb1;refine Yy ?_;refine bK rfl (.inr rfl) (a8 rfl) ?_ (dX ?_);exact am (Pf hk2 hb1_).symm;exact rfl
theorem sN(F:FuncId)(caps:List (List DV))(p:Fm->Bool)(l:List Fm)(hl:(l.length:Int)<=1000000)(hc:∀ g,g∈l->ak Tryz.prog F (.p (.a (FC g))::caps.map .ip) (B (p g))) :
  CallM Tryz.prog 61 [.vec 0,.fn F caps] (upd O 0 (some (FB 52 l))) (.p (.c (FsL (l.filter fun g=>!p g)))) (O):=by
 refine dk (np:=1) Tryz.func61 (by kernel_rfl) rfl rfl (bL0 rfl) eJ (fun m h=>absurd rfl h) rfl<|Yy ?_;refine RK.mut ag (Eff.call (rd:=[0]) (uQ F caps p l hl hc) (gG rfl) dN)<|Yy ?_;refine ah rfl (fun hb1=>?_) (fun hb1=>?_)
 ·have hb1_:=bT hb1;refine mA (t:=0) rfl rfl ?_;refine Yy ?_;exact ao (by rw[Ln hb1_])
 have hb1_:=bF hb1;refine(Lm hb1_).elim (fun i0 hh=>?_);have e1:=hh.1;have e2:=hh.2.1;refine Yy ?_;refine aF rfl rfl ?_;refine Yy ?_;refine aC (ι:=Nat×Nat×List Fm) (fun q=>stL [(0,.vec 0),(1,.fn F caps),(5,Z (q.1:Int)),(6,Z (q.2.1:Int))] [(0,FB 52 q.2.2)]) (fun q=>DlI p l q.1 q.2.1 q.2.2) (fun q=>l.length-q.2.1) (i0,i0+1,l) (DlI.start e2 hh.2.2.1 hh.2.2.2) (ai ⟨.refl _,.refl _,am e1,am (by rw[e1];simp only;omega),trivial⟩ ⟨rfl,trivial⟩) ?_;rintro q hI;refine Yy ?_;refine ae (qp hT rfl rfl rfl rfl)<|Zz ?_;refine ah rfl (fun hb2=>?_) (fun hb2=>?_)
 ·have hb2_:=dT0 hb2;have hsl:=hI.sl;have hjl:(q.2.1:Int)<l.length:=by omega
  have hij:=hI.ij;refine Yy ?_;refine ae (kH hT (n:=q.2.1) rfl rfl rfl rfl rfl rfl rfl (by omega)) ?_;refine ae (oo hT (n:=q.2.1) rfl rfl rfl rfl rfl (by omega))<|Yy ?_;refine ae (Eff.callC rfl (hc (q.2.2.getD q.2.1 ⟨0,0,0⟩) (by rw[hI.get];exact qY hjl)))<|Zz ?_;refine ah rfl (fun hb3=>?_) (fun hb3=>?_)
  ·have hb3_:=(dV hb3)
   refine Yy ?_;refine ae (kH hT (n:=q.1) rfl rfl rfl rfl rfl rfl rfl (by omega)) ?_;refine aZ ag (uU hT (n:=q.1) (g:=(q.2.2.getD q.2.1 ⟨0,0,0⟩)) rfl rfl rfl rfl rfl (by omega))<|Yy ?_;refine aF rfl rfl ?_;refine Yy ?_;refine aF rfl rfl ?_;refine Zz ?_;have hy:=hI.yes hjl (by rw[<- hI.get];exact dV hb3);refine⟨(q.1+1,q.2.1+1,q.2.2.set q.1 (l.getD q.2.1 ⟨0,0,0⟩)),hy,by simp only;omega,ai ⟨.refl _,.refl _,am (by simp only;omega),am (by simp only;omega),trivial⟩ ⟨Eq.trans rfl (Ur (fun x=>some (FB 52 (q.2.2.set q.1 x))) hI.get),trivial⟩⟩
  have hb3_:=(dI hb3)
  refine Yy ?_;refine aF rfl rfl ?_;refine Zz ?_;have hy:=hI.no hjl (by rw[<- hI.get];exact dI hb3);refine⟨(q.1,q.2.1+1,q.2.2),hy,by simp only;omega,ai ⟨.refl _,.refl _,.refl _,am (by simp only;omega),trivial⟩ ⟨rfl,trivial⟩⟩
 have hb2_:=dF0 hb2;have hsl:=hI.sl;have fin1:=(hI.fin (by omega)).1;have fin2:=(hI.fin (by omega)).2;refine aS<|bi ?_;refine BK hT (m:=0) rfl rfl rfl rfl rfl rfl rfl fin2 rfl rfl rfl (fun zs hz=>?_);refine fe (t:=0) (n:=q.2.2.length) rfl rfl rfl (BL hz fin2) (VL 5) ?_;refine Yy ?_;refine ae (kP hT rfl rfl rfl rfl (by rfl) rfl (BL hz fin2).symm ⟨by omega,by omega⟩ (IA fin2))<|Yy ?_;exact ao (Pk fin2 fin1)
theorem uR(m:Nat)(F:FuncId)(caps:List (List DV))(p:Fm->Bool)(l:List Fm)(hl:(l.length:Int)<=1000000)(hc:∀ g,g∈l->ak Tryz.prog F (.p (.a (FC g))::caps.map .ip) (B (p g))):CallM Tryz.prog 61 [.vec m,.fn F caps] (upd O m (some (FB 52 l))) (.p (.c (FsL (l.filter fun g=>!p g)))) O:=CallM.ren1O m (sN F caps p l hl hc) rfl rfl
theorem E9(l:List Fm)(hl:(l.length:Int)<=1000000)(h0:0<l.length) :
  CallV Tryz.prog 62 [.p (.c (FsL l))] (FB 52 l):=by
 refine nP Tryz.func62 (by kernel_rfl) rfl rfl (bL0 rfl)<|Yy ?_;refine ae (CI hT rfl rfl rfl h0)<|Yy ?_;refine bD ag (kI hT rfl rfl rfl (es:=[]) rfl rfl rfl)<|Zz ?_;refine RK.app ag (yf hT rfl rfl rfl rfl rfl rfl rfl rfl (by omega) (by decide))<|Zz ?_;refine bC ?_;refine⟨.inr rfl,_,_,rfl,rfl,?_⟩;exact rfl
theorem DL(f g:Fm)(d:Int)(w:Fm)(hd:d=dsc f.a f.b f.c)(hw:w=f.rd)(hdl:L 40 d)(hga:L 6 g.a)(hgb:L 6 g.b)(hgc:L 6 g.c) :
  ak Tryz.prog 59 [FA g.a g.b g.c,.ip [zn d,zm d],.ip (FL w.a w.b w.c)] (B (!rtB f g)):=by
 have iga:LB g.a 6:=⟨hga⟩
 have igb:LB g.b 6:=⟨hgb⟩
 have igc:LB g.c 6:=⟨hgc⟩
 have idl:LB d 40:=⟨hdl⟩
 refine aq Tryz.func59 rfl rfl rfl rfl<|Yy ?_;refine ae (ab (jI _ _ _ lz lz lz))<|Zz ?_;refine aU (t:=8) rfl (fun hg1=>?_) (fun hg1=>?_)
 ·have hg1_:=cg hg1;refine Yy ?_;exact bn (QN hg1_)
 have hg1_:=ci hg1;refine az hg1 (aN hT rfl rfl rfl rfl (cs:=[_,_,_,_,_,_]) rfl rfl) ?_;refine az hg1 (ab (ga _ _ _ lz lz lz)) ?_;refine az hg1 (au hT rfl rfl rfl (cs:=[_,_]) rfl rfl) ?_;refine az hg1 (ab (cL _ _)) ?_;refine Zz ?_;refine aU (t:=15) rfl (fun hg2=>?_) (fun hg2=>?_)
 ·have hg2_:=cg hg2;refine Yy ?_;exact bn (QM hd hg2_)
 have hg2_:=ci hg2;refine az hg2 (aN hT rfl rfl rfl rfl (cs:=[_,_,_,_,_,_]) rfl rfl) ?_;refine az hg2 (aN hT rfl rfl rfl rfl (cs:=[_,_,_,_,_,_]) rfl rfl) ?_;refine az hg2 (ab (nN g g (lx hg1_) (lx hg1_) hga hgb hgc hga hgb hgc)) ?_;refine az hg2 (au hT rfl rfl rfl (cs:=[_,_,_,_,_,_]) rfl rfl) ?_;refine az hg2 (ab (xI _ _ _ _ _ _)) ?_;refine az hg2 (cZ rfl) ?_;refine Yy ?_;exact bn (QL hd hw hg1_ hg2_)
theorem GL(f:Fm)(l:List Fm)(hfa:L 6 f.a)(hfb:L 6 f.b)(hfc:L 6 f.c)(hl:∀ g∈l,L 6 g.a∧L 6 g.b∧L 6 g.c)(hl2:(l.length:Int)<=1000000)(hl0:0<l.length) :
  ak Tryz.prog 14 [FA f.a f.b f.c,.p (.c (FsL l))] (.t [.c (FsL (kF f l)),PE (ii f l)]):=by
 have ifa:LB f.a 6:=⟨hfa⟩
 have ifb:LB f.b 6:=⟨hfb⟩
 have ifc:LB f.c 6:=⟨hfc⟩
 refine aq Tryz.func14 rfl rfl rfl rfl<|Yy ?_;refine ae (ab (jI _ _ _ lz lz lz))<|Yy ?_;refine ah rfl (fun hb1=>?_) (fun hb1=>?_)
 ·have hb1_:=cg hb1;refine Yy ?_;exact y9 (QK hb1_)
 have hb1_:=ci hb1;have h0:rfE f=0:=hb1_;refine Yy ?_;refine ah rfl (fun hb2=>?_) (fun hb2=>?_)
 ·have hb2_:=dT0 hb2;refine Yy ?_;exact y9 (QJ h0 hb2_)
 have hb2_:=dF0 hb2;refine Yy ?_;refine ae (ab (nM _ _ _ lz lz lz))<|Zz ?_;refine ae (ab (ga _ _ _ lz lz lz))<|Zz ?_;refine bo (t:=7) rfl rfl ?_;refine bo (t:=8) rfl rfl ?_;refine Yy ?_;refine bD ag (Eff.callV (E9 l hl2 hl0))<|Zz ?_;refine RK.mut ag (Eff.call (rd:=[24]) (uR 24 59 _ (fun g=>!rtB f g) l hl2 (fun g hg=>DL f g (dsc f.a f.b f.c) (rdF f.a f.b f.c) rfl rfl lz (hl g hg).1 (hl g hg).2.1 (hl g hg).2.2)) (gG rfl) dN)<|Yy ?_;exact ao (JJ (HQ h0 hb2_))
end
section
open Go Go.AM
attribute [local irreducible] RK Eff AWp
theorem Ll(m k:Int)(j:Nat)(hj:(j:Int)<3)(hm:0<m∧m<=4194304)(hk:1<=k)(hkk:k*k<=m):ak Tryz.prog (37+j) [Z k,.ip [IC m]] (.p (.a (TC (shp m k j)))):=by
 rcases(show j=0∨j=1∨j=2 by omega)with rfl|rfl|rfl
 ·exact Gv m k hm hk hkk
 ·exact Gu m k hm hk hkk
 exact Gt m k hm hk hkk
end
section
open Go Go.AM
attribute [local irreducible] RK Eff AWp
end
section
open Go Go.AM
attribute [local irreducible] RK Eff AWp
theorem E6(l:List Fm)(hl:l.length<=12) :
  CallM Tryz.prog 168 [.vec 0,Z 0,Z (l.length:Int),.p (.c (.v (.func (.func 42) #[] #[])))] (upd O 0 (some (TB 92 l))) (.t []) (upd O 0 (some (TB 92 (gB (fun x y=>decide (cm3 x y<0)) ⟨0,0,0⟩ l (l.length-1))))):=by
 refine dk (np:=1) Tryz.func168 (by kernel_rfl) rfl rfl (bL0 rfl) eJ ff rfl<|Yy ?_;refine aF rfl rfl ?_;refine Yy ?_;refine aC (ι:=Nat) (fun k=>stL [(0,.vec 0),(1,Z 0),(2,Z (l.length:Int)),(3,.p (.c (.v (.func (.func 42) #[] #[])))),(8,Z ((k+1:Nat):Int))] [(0,TB 92 (gB (fun x y=>decide (cm3 x y<0)) ⟨0,0,0⟩ l k))]) (fun k=>k<=l.length-1) (fun k=>l.length-k) 0 (Uv _) (ai ⟨.refl _,.refl _,.refl _,.refl _,.refl _,trivial⟩ ⟨rfl,trivial⟩) ?_;intro k hk;refine Yy ?_;refine ah rfl (fun hb1=>?_) (fun hb1=>?_)
 ·have hb1_:=dT0 hb1;have hkl:k+1<l.length:=by omega
  refine Yy ?_;refine aC (ι:=List Fm×Nat) (fun y=>stL [(0,.vec 0),(1,Z 0),(2,Z (l.length:Int)),(3,.p (.c (.v (.func (.func 42) #[] #[])))),(8,Z ((k+1:Nat):Int)),(9,Z (y.2:Int))] [(0,TB 92 y.1)]) (fun y=>kK (fun x y=>decide (cm3 x y<0)) ⟨0,0,0⟩ y.1 y.2=gB (fun x y=>decide (cm3 x y<0)) ⟨0,0,0⟩ l (k+1)∧y.1.length=l.length∧y.2<=k+1) (fun y=>y.2) (gB (fun x y=>decide (cm3 x y<0)) ⟨0,0,0⟩ l k,k+1) ⟨rfl,l6 _ _,Iv _⟩ (ai ⟨.refl _,.refl _,.refl _,.refl _,.refl _,.refl _,trivial⟩ ⟨rfl,trivial⟩) ?_;intro y hI;have hyl:=hI.2.1;have hyk:=hI.2.2;refine Yy ?_;refine aU (t:=21) rfl (fun hg2=>?_) (fun hg2=>?_)
  ·have hg2_:=dT0 hg2;have hj1:1<=y.2:=by have:=dT0 hg2;omega
   refine Zz ?_;refine az hg2 (aK (rfl:_=AV.vec _)) ?_;refine Zz ?_;refine az hg2 (av hT dB (n:=y.2) (l:=y.1) rfl rfl rfl rfl (by rfl) rfl rfl rfl (by first|omega|(rw[UL];omega))) ?_;refine az hg2 (cU hT dB ⟨0,0,0⟩ (n:=y.2) (l:=y.1) rfl rfl rfl rfl rfl (by omega)) ?_;refine az hg2 (aK (rfl:_=AV.vec _)) ?_;refine Zz ?_;refine az hg2 (aY rfl rfl (c:=((y.2-1:Nat):Int)) (by rw[iW0 _ (by omega)];omega)) ?_;refine az hg2 (av hT dB (n:=(y.2-1)) (l:=y.1) rfl rfl rfl rfl (by rfl) rfl rfl rfl (by first|omega|(rw[UL];omega))) ?_;refine az hg2 (cU hT dB ⟨0,0,0⟩ (n:=(y.2-1)) (l:=y.1) rfl rfl rfl rfl rfl (by omega)) ?_;refine az hg2 (Eff.callF rfl (R1 (y.1.getD y.2 ⟨0,0,0⟩) (y.1.getD (y.2-1) ⟨0,0,0⟩))) ?_;refine az hg2 (ed rfl rfl) ?_;refine Zz ?_;refine ah rfl (fun hb3=>?_) (fun hb3=>?_)
   ·have hb3_:=dT0 hb3;have hyy:=ON (c:=fun x y=>decide (cm3 x y<0)) (z:=⟨0,0,0⟩) (l:=y.1) (j:=y.2-1) (by rw[show y.2-1+1=y.2 by omega];exact hb3);rw[show y.2-1+1=y.2 by omega]at hyy;refine Yy ?_;refine ae (aY rfl rfl (c:=((y.2-1:Nat):Int)) (by rw[iW0 _ (by omega)];omega))<|Zz ?_;refine ae (aY rfl rfl (c:=((y.2-1:Nat):Int)) (by rw[iW0 _ (by omega)];omega)) ?_;refine ae (av hT dB (n:=(y.2-1)) (l:=y.1) rfl rfl rfl rfl (by rfl) rfl rfl rfl (by first|omega|(rw[UL];omega))) ?_;refine ae (cU hT dB ⟨0,0,0⟩ (n:=(y.2-1)) (l:=y.1) rfl rfl rfl rfl rfl (by omega))<|Zz ?_;refine ae (av hT dB (n:=y.2) (l:=y.1) rfl rfl rfl rfl (by rfl) rfl rfl rfl (by first|omega|(rw[UL];omega))) ?_;refine ae (cU hT dB ⟨0,0,0⟩ (n:=y.2) (l:=y.1) rfl rfl rfl rfl rfl (by omega)) ?_;refine ae (av hT dB (n:=y.2) (l:=y.1) rfl rfl rfl rfl (by rfl) rfl rfl rfl (by first|omega|(rw[UL];omega))) ?_;refine aZ ag (rI (encD:=TC) hT dB rfl (k:=_) (l:=_) (b:=(y.1.getD _ ⟨0,0,0⟩)) rfl rfl rfl rfl rfl (by first|omega|(rw[UL];omega))) ?_;refine ae (av hT dB (n:=(y.2-1)) (l:=_) rfl rfl rfl rfl (by rfl) rfl rfl rfl (by first|omega|(rw[UL];omega))) ?_;refine aZ ag (rI (encD:=TC) hT dB rfl (k:=_) (l:=_) (b:=(y.1.getD _ ⟨0,0,0⟩)) rfl rfl rfl rfl rfl (by first|omega|(rw[UL];omega)))<|Yy ?_;refine ae (aY rfl rfl (c:=((y.2-1:Nat):Int)) (by rw[iW0 _ (by omega)];omega))<|Zz ?_;refine⟨(swF ⟨0,0,0⟩ y.1 y.2,y.2-1),⟨hyy.symm.trans hI.1,by rw[mH];exact hyl,by show y.2-1<=k+1;omega⟩,by show y.2-1<y.2;omega,ai ⟨.refl _,.refl _,.refl _,.refl _,.refl _,.refl _,trivial⟩ ⟨rfl,trivial⟩⟩
   have hb3_:=dF0 hb3;have hnn:=OO (c:=fun x y=>decide (cm3 x y<0)) (z:=⟨0,0,0⟩) (l:=y.1) (j:=y.2-1) (by rw[show y.2-1+1=y.2 by omega];rw[Bool.not_eq_true];exact hb3);rw[show y.2-1+1=y.2 by omega]at hnn;have hT1:y.1=gB (fun x y=>decide (cm3 x y<0)) ⟨0,0,0⟩ l (k+1):=hnn.symm.trans hI.1;refine Yy ?_;refine aF rfl rfl ?_;refine Zz ?_;refine⟨k+1,by omega,by omega,ai ⟨.refl _,.refl _,.refl _,.refl _,am (by omega),trivial⟩ ⟨Eq.trans rfl (Ur (fun x=>some (TB 92 x)) (hT1)),trivial⟩⟩
  have hg2_:=dF0 hg2;have hj0:y.2=0:=by have:=dF0 hg2;omega
  have hT1:y.1=gB (fun x y=>decide (cm3 x y<0)) ⟨0,0,0⟩ l (k+1):=by have:=hI.1;rw[hj0]at this;exact this
  refine Yy ?_;refine aF rfl rfl ?_;refine Zz ?_;refine⟨k+1,by omega,by omega,ai ⟨.refl _,.refl _,.refl _,.refl _,am (by omega),trivial⟩ ⟨Eq.trans rfl (Ur (fun x=>some (TB 92 x)) (hT1)),trivial⟩⟩
 have hb1_:=dF0 hb1;refine aS ?_;refine ju rfl (.inl rfl)  ?_ (dX ?_);exact .refl _;exact Eq.trans rfl (Ur (fun k=>some (TB 92 (gB (fun x y=>decide (cm3 x y<0)) ⟨0,0,0⟩ l k))) (show k=l.length-1 by omega))
theorem E5(x:Int)(l:List Fm)(hl:l.length<=12) :
  CallM Tryz.prog 104 [.vec 0,Z 0,Z (l.length:Int),Z x,.p (.c (.v (.func (.func 42) #[] #[])))] (upd O 0 (some (TB 92 l))) (.t []) (upd O 0 (some (TB 92 (gB (fun x y=>decide (cm3 x y<0)) ⟨0,0,0⟩ l (l.length-1))))):=by
 refine dk (np:=1) Tryz.func104 (by kernel_rfl) rfl rfl (bL0 rfl) eJ ff rfl ?_;refine aE hP<|Zz ?_;refine aE hP<|Zz ?_;refine aR<|bX 1<|Yy ?_;refine ae (aY rfl rfl (by first|exact iW0 _ (by omega)|rfl))<|Yy ?_;refine bH rfl (G6 (by omega))<|Yy ?_;refine RK.mut ag (Eff.call (rd:=[0]) (E6 l hl) (gG rfl) dN)<|Yy ?_;refine ju rfl (.inr rfl)  ?_ (dX ?_);exact .refl _;exact rfl
theorem B6(l:List Fm)(hl:l.length<=12) :
  CallM Tryz.prog 41 [.vec 0,.p (.c (.v (.func (.func 42) #[] #[])))] (upd O 0 (some (TB 92 l))) (.t []) (upd O 0 (some (TB 92 (gB (fun x y=>decide (cm3 x y<0)) ⟨0,0,0⟩ l (l.length-1))))):=by
 refine dk (np:=1) Tryz.func41 (by kernel_rfl) rfl rfl (bL0 rfl) eJ ff rfl<|Yy ?_;refine ae (b7 hT dB rfl rfl rfl rfl rfl)<|Yy ?_;refine ae (aQ hT rfl rfl rfl rfl (c:=((l.length:Nat):Int)) (IntWalk.u64_in _ (by omega))) ?_;refine ae (ab (G0 l.length (by omega)))<|Zz ?_;refine RK.mut ag (Eff.call (rd:=[0]) (E5 _ l hl) (gG rfl) dN)<|Zz ?_;refine ju rfl (.inl rfl)  ?_ (dX ?_);exact .refl _;exact rfl
theorem E8(m:Nat)(l l':List Fm)(hl:l.length<=12)(hp:l'.Perm l)(hs:l'.Pairwise fun x y=>¬ cm3 y x<0)(ha:∀ x∈l,∀ y∈l,¬ cm3 x y<0->¬ cm3 y x<0->x=y) :
  CallM Tryz.prog 41 [.vec m,.p (.c (.v (.func (.func 42) #[] #[])))] (upd O m (some (TB 92 l))) (.t []) (upd O m (some (TB 92 l'))):=by
 rw[<- Nu l l' hp hs ha];exact CallM.ren1 m (B6 l hl) rfl rfl
theorem vG(l:List Fm)(hl:l.length<=10000)(hno:NoN l) :
  CallM Tryz.prog 45 [.vec 0] (upd O 0 (some (TB 92 l))) (.p (.c (TS l))) (O):=by
 refine dk (np:=1) Tryz.func45 (by kernel_rfl) rfl rfl (bL0 rfl) eJ (fun m h=>absurd rfl h) rfl ?_;refine aE hP<|Zz ?_;refine yy (t:=0) rfl rfl ?_;refine Yy ?_;refine ah rfl (fun hb1=>?_) (fun hb1=>?_)
 ·have hb1_:=dT0 hb1;refine Yy ?_;exact .refl _
 have hb1_:=dF0 hb1;refine Yy ?_;refine aC (ι:=Nat) (fun k=>stL [(0,.p (.c (TS l))),(3,Z (k:Int))] []) (fun k=>1<=k) (fun k=>l.length-k) 1 (Iv _) (ai ⟨.refl _,.refl _,trivial⟩ trivial) ?_;intro k hk;refine Yy ?_;refine ah rfl (fun hb2=>?_) (fun hb2=>?_)
 ·have hb2_:=dT0 hb2;refine Yy ?_;refine ae (oq hT (n:=(k:Int)) rfl rfl rfl rfl rfl rfl (by omega)) ?_;refine ae (au hT rfl rfl rfl (cs:=TC (l.getD k ⟨0,0,0⟩)) rfl rfl)<|Zz ?_;refine ae (aY rfl rfl (by first|exact iW0 _ (by omega)|rfl)) ?_;refine ae (oq hT (n:=(k:Int)-1) rfl rfl rfl rfl rfl rfl (by omega)) ?_;refine ae (au hT rfl rfl rfl (cs:=TC (l.getD ((k:Int)-1).toNat ⟨0,0,0⟩)) rfl rfl) ?_;refine ae (zp hT rfl rfl rfl rfl rfl rfl rfl (by kernel_rfl))<|Zz ?_;refine aJ rfl (Ix (hno.at hk hb2_))<|Yy ?_;refine aF rfl rfl ?_;refine Zz ?_;refine⟨k+1,by omega,by omega,ai ⟨.refl _,am (by omega),trivial⟩ trivial⟩
 have hb2_:=dF0 hb2;refine Yy ?_;exact .refl _
theorem vH(x:Fm) :
  CallM Tryz.prog 45 [.vec 0] (upd O 0 (some (TB 92 ([x,x]:List Fm)))) (.p (.c (TS ([x]:List Fm)))) (O):=by
 refine dk (np:=1) Tryz.func45 (by kernel_rfl) rfl rfl (bL0 rfl) eJ (fun m h=>absurd rfl h) rfl<|Yy ?_;refine ae (b7 hT dB rfl (l:=([x,x]:List Fm)) rfl rfl rfl rfl)<|Zz ?_;refine aJ rfl rfl<|aT<|bi<|aE hP<|Zz ?_;refine aR<|bX 1<|Yy ?_;refine ae (b7 hT dB rfl (l:=([x,x]:List Fm)) rfl rfl rfl rfl)<|Yy ?_;refine ae (av hT dB (n:=1) (l:=([x,x]:List Fm)) rfl rfl rfl rfl rfl rfl rfl rfl (bL0 rfl)) ?_;refine ae (cU hT dB ⟨0,0,0⟩ (n:=1) (l:=([x,x]:List Fm)) rfl rfl rfl rfl rfl (bL0 rfl))<|Zz ?_;refine ae (aY rfl rfl (by first|exact iW0 _ (by omega)|rfl)) ?_;refine ae (av hT dB (n:=0) (l:=([x,x]:List Fm)) rfl rfl rfl rfl rfl rfl rfl rfl (bL0 rfl)) ?_;refine ae (cU hT dB ⟨0,0,0⟩ (n:=0) (l:=([x,x]:List Fm)) rfl rfl rfl rfl rfl (bL0 rfl)) ?_;refine ae (zp hT rfl rfl rfl rfl rfl rfl rfl (by kernel_rfl))<|Zz ?_;refine bH rfl (G6 rfl)<|Yy ?_;refine ae (yc hT (n:=1) (l:=2) (z:=3) (cs:=([x,x]:List Fm).flatMap TC) rfl rfl rfl rfl rfl rfl rfl rfl rfl (by decide))<|Zz ?_;refine bi<|aE hP<|Zz ?_;refine aR<|bX 1<|Yy ?_;refine ae (CA hT rfl rfl rfl)<|Zz ?_;refine aJ rfl rfl<|aS<|bi ?_;refine BJ hT (m:=0) (z:=3) (n:=1) (l:=2) (cs:=([x,x]:List Fm).flatMap TC) rfl rfl rfl rfl rfl rfl rfl rfl (by decide) rfl rfl rfl rfl (fun zs hz=>?_);refine fe (t:=0) (n:=2) rfl rfl rfl (by show 2*3=_;rw[UB,hz];rfl) (VL 2) ?_;refine Yy ?_;refine ae (kP hT rfl rfl rfl rfl (by rfl) rfl (by rw[UB,hz];rfl) (by decide) Eb)<|Yy ?_;exact .refl _
theorem x8(m:Nat)(l:List Fm)(hl:l.length<=10000)(h:(NoN l∧cpt l=l)∨∃ x,l=[x,x]):CallM Tryz.prog 45 [.vec m] (upd O m (some (TB 92 l))) (.p (.c (TS (cpt l)))) O:=by
 rcases h with⟨h,e⟩|⟨x,e⟩
 ·rw[e];exact CallM.ren1O m (vG l hl h) rfl rfl
 rw[e,Lv];exact CallM.ren1O m (vH x) rfl rfl
theorem yt(d:Int)(hd:L 40 d)(h12:szE d=0->(amL (-d)).length<=12) :
  ak Tryz.prog 10 [I d] (.t [.c (FsL (amA d)),PE (szE d)]):=by
 have id0:LB d 40:=⟨hd⟩
 refine aq Tryz.func10 rfl rfl rfl rfl<|Yy ?_;refine ae (ab (tn _ hd))<|Yy ?_;refine ah rfl (fun hb1=>?_) (fun hb1=>?_)
 ·have hb1_:=cg hb1;refine Yy ?_;exact(by rw[SA hb1_];exact Sub.tup ⟨DSub.nil_sl,.refl _,trivial⟩)
 have hb1_:=ci hb1;have he:szE d=0:=hb1_;obtain⟨e1,e2,e3⟩:=nF he;have hmm:0 < -d∧-d<=4194304:=by omega
 obtain⟨m,hm⟩:∃ m,-d=m:=⟨_,rfl⟩
 have h12b:=h12 he;rw[hm]at hmm h12b;have hdm:d=-m:=by omega
 rw[e1];refine aT<|aE hP<|Zz ?_;refine fv 6 1000 3 92 rfl rfl<|Yy ?_;refine ae (fA rfl (c:=m) (by rw[iW0 _ (by omega)];omega))<|Zz ?_;refine bo (t:=7) rfl rfl ?_;refine Yy ?_;refine aC (ι:=Nat) (fun k=>stL [(4,Z d),(6,.vec 1000),(7,.ip [IC m]),(8,.p (.c (.sl 3 [shF 37 m 0,shF 37 m 1,shF 37 m 2]))),(9,Z ((k:Int)+1))] [(1000,TB 92 (amG m k))]) (fun k=>k<=amS m) (fun k=>amS m-k) 0 (Uv _) (ai ⟨.refl _,.refl _,.refl _,.refl _,.refl _,trivial⟩ ⟨rfl,trivial⟩) ?_;intro k hk;refine Yy ?_;refine ae (bw rfl rfl (by first|exact iW0 _ (by omega)|rfl))<|Zz ?_;refine ah rfl (fun hb2=>?_) (fun hb2=>?_)
 ·have hb2_:=dT0 hb2;have hkk:((k:Int)+1)*((k:Int)+1)<=m:=Il hmm hk▸hb2_;have hk1:=G4 hmm hk hkk;have hkb:=rA hmm (k:=((k:Int)+1)) (by omega) hkk;refine Yy ?_;refine aC (ι:=Nat) (fun j=>stL [(4,Z d),(6,.vec 1000),(7,.ip [IC m]),(8,.p (.c (.sl 3 [shF 37 m 0,shF 37 m 1,shF 37 m 2]))),(9,Z ((k:Int)+1)),(38,.p (.c (.sl 3 [shF 37 m 0,shF 37 m 1,shF 37 m 2]))),(39,Z 3),(40,Z (j:Int))] [(1000,TB 92 (amG m k++amR m ((k:Int)+1) j))]) (fun j=>j<=3) (fun j=>3-j) 0 (Uv _) (ai ⟨.refl _,.refl _,.refl _,.refl _,.refl _,.refl _,.refl _,.refl _,trivial⟩ ⟨Eq.trans rfl (Ur (fun x=>some (TB 92 x)) ((VD _).symm)),trivial⟩) ?_;intro j hj;refine Yy ?_;refine ah rfl (fun hb3=>?_) (fun hb3=>?_)
  ·have hb3_:=dT0 hb3;have hj3:(j:Int)<3:=hb3_;have cSh:=Ll m ((k:Int)+1) j hj3 hmm (by omega) hkk;have hbd:=Ca hmm (k:=((k:Int)+1)) (by omega) hkk j;have hlG:=tD m k;have hlR:=Mb m ((k:Int)+1) j;obtain⟨f,hfe⟩:∃ f,shp m ((k:Int)+1) j=f:=⟨_,rfl⟩
   rw[hfe]at hbd;have hbb:=sK (x:=f.b) (m:=4200000) (by omega);have hac:0<=4*f.a*f.c∧4*f.a*f.c<=16800000*4200000:=⟨Vd (by omega) (by omega),Ve (by omega) (by omega) (by omega) (by omega)⟩
   have jfa:aH f.a:=by unfold aH;omega
   have jfb:aH f.b:=by unfold aH;omega
   have jfc:aH f.c:=by unfold aH;omega
   have hgg:=lJ f.a f.b;have hgl:Int.gcd f.a f.b<=4200000∨f.a=0:=by
    rcases(show f.a=0∨0<f.a by omega)with q|q
    ·exact .inr q
    exact .inl (UA (Wf (by omega) (WD _ _)) (by omega))
   have jgg:aH (gg f.a f.b):=by
    rcases hgl with q|q
    ·unfold aH;omega
    have:Int.gcd f.a f.b=f.b.natAbs:=by rw[q];simp
    unfold aH;omega
   refine Yy ?_;refine ae (b8 hT (n:=(j:Int)) rfl rfl rfl rfl (by rfl) rfl (by omega) (by simp)) ?_;refine ae (aM hT rfl rfl rfl (NA hj3))<|Yy ?_;refine ae (hfe▸Eff.callSh (f:=37) (m:=m) (k:=((k:Int)+1)) (j:=j) rfl rfl cSh)<|Yy ?_;refine ae (bw rfl rfl (by first|exact iW0 _ (by omega)|rfl))<|Zz ?_;refine ae (bw rfl rfl (by first|exact iW0 _ (by omega)|rfl))<|Zz ?_;refine ae (bw rfl rfl (by first|exact iW0 _ (by omega)|rfl)) ?_;refine ae (aY rfl rfl (by first|exact iW0 _ (by omega)|rfl))<|Yy ?_;refine aU (t:=62) rfl (fun hg4=>?_) (fun hg4=>?_)
   ·have hg4_:=bT hg4;refine az hg4 (de hT rfl rfl rfl rfl rfl (by first|decide|omega)) ?_;refine az hg4 (bq hT rfl rfl rfl rfl (by first|rfl|exact gD (by omega))) ?_;refine az hg4 (kx rfl rfl) ?_;refine Zz ?_;refine aU (t:=67) rfl (fun hg5=>?_) (fun hg5=>?_)
    ·have hg5_:=dT0 hg5;refine az hg5 (de hT rfl rfl rfl rfl rfl (by first|decide|omega)) ?_;refine az hg5 (bq hT rfl rfl rfl rfl (by first|rfl|exact gD (by omega))) ?_;refine az hg5 (de hT rfl rfl rfl rfl rfl (by first|decide|omega)) ?_;refine az hg5 (bq hT rfl rfl rfl rfl (by first|rfl|exact gD (by omega))) ?_;refine az hg5 (kx rfl rfl) ?_;refine Zz ?_;refine aU (t:=74) rfl (fun hg6=>?_) (fun hg6=>?_)
     ·have hg6_:=dT0 hg6;refine az hg6 (de hT rfl rfl rfl rfl rfl (by first|decide|omega)) ?_;refine az hg6 (bq hT rfl rfl rfl rfl (by first|rfl|exact gD (by omega))) ?_;refine az hg6 (de hT rfl rfl rfl rfl rfl (by first|decide|omega)) ?_;refine az hg6 (bq hT rfl rfl rfl rfl (by first|rfl|exact gD (by omega))) ?_;refine az hg6 (kx rfl rfl) ?_;refine Zz ?_;refine aU (t:=81) rfl (fun hg7=>?_) (fun hg7=>?_)
      ·have hg7_:=dT0 hg7;refine az hg7 (de hT rfl rfl rfl rfl rfl (by first|decide|omega)) ?_;refine az hg7 (bq hT rfl rfl rfl rfl (by first|rfl|exact gD (by omega))) ?_;refine az hg7 (de hT rfl rfl rfl rfl rfl (by first|decide|omega)) ?_;refine az hg7 (bq hT rfl rfl rfl rfl (by first|rfl|exact gD (by omega))) ?_;refine az hg7 (ab (pY _ _ jfa jfb)) ?_;refine az hg7 (de hT rfl rfl rfl rfl rfl (by first|decide|omega)) ?_;refine az hg7 (bq hT rfl rfl rfl rfl (by first|rfl|exact gD (by omega))) ?_;refine az hg7 (ab (pY _ _ jgg jfc)) ?_;refine Zz ?_;refine ah rfl (fun hb8=>?_) (fun hb8=>?_)
       ·have hb8_:=bT hb8;refine Yy ?_;refine RK.app ag (A4 (z:=f) hT rfl rfl rfl rfl rfl rfl rfl rfl (by rw[UB];omega) (by decide))<|Zz ?_;refine dm 95 1000 rfl rfl rfl ?_;refine bp hP<|aF rfl rfl ?_;refine Zz ?_;refine⟨j+1,by omega,by omega,ai ⟨.refl _,.refl _,.refl _,.refl _,.refl _,.refl _,.refl _,am (by omega),trivial⟩ ⟨Eq.trans rfl (Ur (fun x=>some (TB 92 x)) (show amG m k++amR m ((k:Int)+1) j++[f]=amG m k++amR m ((k:Int)+1) (j+1) by rw[Wt,<- hfe,<- Ma (hfe▸Rb hdm hg4_ hg5_ hg6_ hg7_ hb8_)])),trivial⟩⟩
       have hb8_:=bF hb8;refine Yy ?_;refine aF rfl rfl ?_;refine Zz ?_;refine⟨j+1,by omega,by omega,ai ⟨.refl _,.refl _,.refl _,.refl _,.refl _,.refl _,.refl _,am (by omega),trivial⟩ ⟨Eq.trans rfl (Ur (fun x=>some (TB 92 x)) ((Ur (fun x=>amG m k++x) (o7 (hfe▸Rc hb8_)).symm))),trivial⟩⟩
      have hg7_:=dF0 hg7;refine Yy ?_;refine aF rfl rfl ?_;refine Zz ?_;refine⟨j+1,by omega,by omega,ai ⟨.refl _,.refl _,.refl _,.refl _,.refl _,.refl _,.refl _,am (by omega),trivial⟩ ⟨Eq.trans rfl (Ur (fun x=>some (TB 92 x)) ((Ur (fun x=>amG m k++x) (o7 (hfe▸Re hg7_)).symm))),trivial⟩⟩
     have hg6_:=dF0 hg6;refine Yy ?_;refine aF rfl rfl ?_;refine Zz ?_;refine⟨j+1,by omega,by omega,ai ⟨.refl _,.refl _,.refl _,.refl _,.refl _,.refl _,.refl _,am (by omega),trivial⟩ ⟨Eq.trans rfl (Ur (fun x=>some (TB 92 x)) ((Ur (fun x=>amG m k++x) (o7 (hfe▸Rf hg6_)).symm))),trivial⟩⟩
    have hg5_:=dF0 hg5;refine Yy ?_;refine aF rfl rfl ?_;refine Zz ?_;refine⟨j+1,by omega,by omega,ai ⟨.refl _,.refl _,.refl _,.refl _,.refl _,.refl _,.refl _,am (by omega),trivial⟩ ⟨Eq.trans rfl (Ur (fun x=>some (TB 92 x)) ((Ur (fun x=>amG m k++x) (o7 (hfe▸Rg hg5_)).symm))),trivial⟩⟩
   have hg4_:=bF hg4;refine Yy ?_;refine aF rfl rfl ?_;refine Zz ?_;refine⟨j+1,by omega,by omega,ai ⟨.refl _,.refl _,.refl _,.refl _,.refl _,.refl _,.refl _,am (by omega),trivial⟩ ⟨Eq.trans rfl (Ur (fun x=>some (TB 92 x)) ((Ur (fun x=>amG m k++x) (o7 (hfe▸Rh hdm hg4_)).symm))),trivial⟩⟩
  have hb3_:=dF0 hb3;refine Yy ?_;refine aF rfl rfl ?_;refine Zz ?_;refine⟨k+1,hk1,by omega,ai ⟨.refl _,.refl _,.refl _,.refl _,am (by omega),trivial⟩ ⟨Eq.trans rfl (Ur (fun x=>some (TB 92 x)) (show amG m k++amR m ((k:Int)+1) j=amG m k++amR m ((k:Int)+1) 3 by rw[show j=3 by omega])),trivial⟩⟩
 have hb2_:=dF0 hb2;have hks:=L9 hmm hk (Il hmm hk▸hb2_);subst hks;rw[show amG m (amS m)=amL m from rfl];have hbnd:=fun f hf=>P4 hmm (f:=f) hf
 have hle:cpt (gE (amL m))=amA d:=(SC he hdm).symm;have hcp:=PU hmm;have hln:=Mc hmm;have hcl:=Ah (gE (amL m));have hpm:=fI (amL m);have hso:=vB (amL m);have han:=xU hmm;generalize gE (amL m)=l2 at *;generalize amL m=l1 at *;have cCp:=x8 1000 l2 (by omega) hcp;generalize cpt l2=l at *;refine Yy ?_;refine RK.mut ag (Eff.call (rd:=[1000]) (E8 1000 l1 l2 h12b hpm hso han) (gG rfl) dN)<|Zz ?_;refine aE hP<|Zz ?_;refine fv 14 1001 6 52 rfl rfl<|Yy ?_;refine RK.mut ag (Eff.call (rd:=[1000]) cCp (gG rfl) dN)<|Yy ?_;refine aC (ι:=Nat) (fun k=>stL [(14,.vec 1001),(100,.p (.c (TS l))),(101,Z (l.length:Int)),(102,Z (k:Int))] [(1001,FB 52 (l.take k))]) (fun k=>k<=l.length) (fun k=>l.length-k) 0 (Uv _) (ai ⟨.refl _,.refl _,.refl _,.refl _,trivial⟩ ⟨rfl,trivial⟩) ?_;intro k hk;refine Yy ?_;refine ah rfl (fun hb9=>?_) (fun hb9=>?_)
 ·have hb9_:=dT0 hb9;have hfm:=hbnd _ (qY hb9_);have ja:aH (l.getD k ⟨0,0,0⟩).a:=by unfold aH;omega
  have jb:aH (l.getD k ⟨0,0,0⟩).b:=by unfold aH;omega
  have jc:aH (l.getD k ⟨0,0,0⟩).c:=by unfold aH;omega
  refine Yy ?_;refine ae (oq hT (n:=(k:Int)) rfl rfl rfl rfl rfl rfl (by omega)) ?_;refine ae (au hT rfl rfl rfl (cs:=TC (l.getD k ⟨0,0,0⟩)) rfl rfl)<|Yy ?_;refine ae (ab (bL _ ja))<|Zz ?_;refine ae (ab (bL _ jb))<|Zz ?_;refine ae (ab (bL _ jc))<|Zz ?_;refine RK.app ag (rP hT rfl rfl rfl rfl rfl rfl rfl (f:=l.getD k ⟨0,0,0⟩) rfl (by rw[Us];omega) (by decide))<|Zz ?_;refine dm 118 1001 rfl rfl rfl ?_;refine bp hP<|aF rfl rfl ?_;refine Zz ?_;refine⟨k+1,by omega,by omega,ai ⟨.refl _,.refl _,.refl _,am (by omega),trivial⟩ ⟨Eq.trans rfl (Ur (fun x=>some (FB 52 x)) (AI hb9_)),trivial⟩⟩
 have hb9_:=dF0 hb9;refine aS<|mA (t:=14) rfl rfl ?_;refine Yy ?_;exact(by rw[VA (by omega),hle,he];exact .refl _)
end
section
open Go Go.AM
attribute [local irreducible] RK Eff AWp
theorem wM(D i0 i1 i2 i3 m0 m1 m2 m3:Nat)(hD:D<65536)(g0:i0<65536)(g1:i1<65536)(g2:i2<65536)(g3:i3<65536)(k0:m0<256)(k1:m1<256)(k2:m2<256)(k3:m3<256)(lc:List Fm)(n:Nat)(inv:List Int)(G:Nat)(A:List Fm)(gg:List Fm)(mm:Mx)(o:Fm->Nat)(rt:Fm->List Fm)(pr:Fm->Bool)(cRed:ak Tryz.prog 6 [I (-(szz D))] (.t [.c (FsL lc),PE 0]))(cMak:ak Tryz.prog 7 [I (-(szz D))] (.t [.a (gaC (-(szz D)) gg mm 1),PE 0]))(cChk:ak Tryz.prog 8 [GA (-(szz D)) gg mm 1] (.t [PE (n:Int),.c (SL enI inv),PE 0]))(cGen:ak Tryz.prog 9 [I (-(szz D))] (.t [PE (G:Int),PE 0]))(cAmb:ak Tryz.prog 10 [I (-(szz D))] (.t [.c (FsL A),PE 0]))(hn:lc.length=n)(hA:A.length=G)(hil:inv.length<=12)(his:dq inv=true)(hl3:lc.length<300)(hf:∀ f∈lc,ak Tryz.prog 13 [FA f.a f.b f.c,Z (n:Int)] (.t [PE (o f:Int),PE 0])∧ak Tryz.prog 14 [FA f.a f.b f.c,.p (.c (FsL lc))] (.t [.c (FsL (rt f)),PE 0])∧ak Tryz.prog 15 [FA f.a f.b f.c] (.t [PB (pr f),PE 0]))(ho:∀ f∈lc,1<=o f∧o f<=100000∧lsI inv inv.length%(o f:Int)=0∧(pr f=true->(rt f).length=G)∧(pr f=false->(rt f).length=0))(hev:evI inv inv.length=G)(hsq:sqO o lc lc.length=G)(hmx:lsI inv inv.length=(mxO o lc lc.length:Int)) :
  ak Tryz.prog 3 [.p (.a [.v (.int .u16 (D:Int)),.v (.int .u16 (i0:Int)),.v (.int .u16 (i1:Int)),.v (.int .u16 (i2:Int)),.v (.int .u16 (i3:Int)),.v (.int .u8 (m0:Int)),.v (.int .u8 (m1:Int)),.v (.int .u8 (m2:Int)),.v (.int .u8 (m3:Int))])] (B true):=by
 have hsz:=dj D;have hcS:=JQ D i0 i1 i2 i3 m0 m1 m2 m3 hD g0 g1 g2 g3 k0 k1 k2 k3;have hls:∀ k,L 5 (lsI inv k):=fun k=>by
  cases k with
  |zero=>exact(show L 5 1 by unfold L;omega)
  |succ k=>exact dS (ce his k)
 refine aq Tryz.func3 rfl rfl rfl rfl<|Yy ?_;refine ae (aN hT rfl rfl rfl rfl (cs:=[_,_,_,_,_,_,_,_,_]) rfl rfl)<|ae (ab hcS) ?_;refine ae (fA rfl (c:=-(szz D)) (by rw[show(0:Int)-szz D=-(szz D) by omega];exact iW0 _ (by omega))) ?_;refine ae (ab (vT (-(szz D)) (by unfold aH;omega)))<|Yy ?_;refine ae (ab cRed)<|Yy ?_;refine ae (ab cMak)<|Yy ?_;refine ae (ab cChk)<|Yy ?_;refine ae (ab cGen)<|Yy ?_;refine ae (ab cAmb)<|Yy ?_;refine az rfl (dy hT rfl rfl rfl (by rfl)) ?_;refine Zz ?_;refine an (aw rfl rfl (da (by omega))) (aK (rfl:_=AV.p (.c _))) ?_;refine an (aw rfl rfl (da (by omega))) (dy hT rfl rfl rfl (by rfl)) ?_;refine an (aw rfl rfl (da (by omega))) (aK (rfl:_=AV.p (.c _))) ?_;refine an (aw rfl rfl (da (by omega))) (eZ rfl rfl) ?_;refine ae (bA rfl (da (by omega)) (rfl:_=AV.p (.c _)))<|Zz ?_;refine aJ rfl (da (by omega))<|Yy ?_;refine ae (ab (vT 1 (by decide)))<|Yy ?_;refine aC (ι:=Nat) (fun k=>stL [(4,.p (.c (FsL lc))),(8,Z (n:Int)),(9,.p (.c (SL enI inv))),(11,Z (G:Int)),(15,.loc 15 0),(16,Z (evI inv k:Int)),(17,Z (k:Int))] [(15,⟨false,1,29,[zn (lsI inv k),zm (lsI inv k)]⟩)]) (fun k=>k<=inv.length) (fun k=>inv.length-k) 0 (Uv _) (ai ⟨.refl _,.refl _,.refl _,.refl _,.refl _,.refl _,.refl _,trivial⟩ ⟨rfl,trivial⟩) ?_;intro k hk0;refine Yy ?_;refine ah rfl (fun hb7=>?_) (fun hb7=>?_)
 ·have hb7_:=dT0 hb7;have hk:k<inv.length:=by omega
  have hev2:=DB inv k;have hev3:2^k<=2^12:=UZ (by decide) (by omega);have hev4:evI inv k<=4096:=UA hev2 hev3;refine Yy ?_;refine ae (aL hT aI (by decide) 0 (n:=(k:Int)) (l:=inv) rfl rfl rfl rfl rfl rfl (by omega)) ?_;refine ae (au hT rfl rfl rfl (cs:=enI (inv.getD k 0)) rfl rfl)<|Yy ?_;refine ae (aL hT aI (by decide) 0 (n:=(k:Int)) (l:=inv) rfl rfl rfl rfl rfl rfl (by omega)) ?_;refine ae (au hT rfl rfl rfl (cs:=enI (inv.getD k 0)) rfl rfl) ?_;refine ae (ab (vT 2 (by decide))) ?_;refine ae (ab (bG (inv.getD k 0) 2 ((hls (k+1)).mono (by decide)) ((show L 6 2 by unfold L;omega).mono (by decide)) (by decide)))<|Yy ?_;refine ae (ab (bu _))<|Zz ?_;refine ah rfl (fun hb8=>?_) (fun hb8=>?_)
  ·have hb8_:=bT hb8;have hz:inv.getD k 0%2=0:=sgn_zero_iff.1 hb8_;refine Yy ?_;refine ae (bw rfl rfl (by first|exact iW0 _ (by omega)|rfl))<|Yy ?_;refine aF rfl rfl ?_;refine Zz ?_;refine⟨k+1,by omega,by omega,ai ⟨.refl _,.refl _,.refl _,.refl _,.refl _,am (TW hz),am (by show(k:Int)+1=((k+1:Nat):Int);omega),trivial⟩ ⟨rfl,trivial⟩⟩
  have hb8_:=bF hb8;have hz:¬ inv.getD k 0%2=0:=fun e=>hb8_ (sgn_zero_iff.2 e)
  refine Yy ?_;refine aF rfl rfl ?_;refine Zz ?_;refine⟨k+1,by omega,by omega,ai ⟨.refl _,.refl _,.refl _,.refl _,.refl _,am (TX hz),am (by show(k:Int)+1=((k+1:Nat):Int);omega),trivial⟩ ⟨rfl,trivial⟩⟩
 have hb7_:=dF0 hb7;refine aS<|aE hP<|Zz ?_;refine bi<|aE hP<|Zz ?_;refine aR ?_;have hke:k=inv.length:=by omega
 subst hke;refine aC (ι:=Nat) (fun k=>stL [(4,.p (.c (FsL lc))),(8,Z (n:Int)),(11,Z (G:Int)),(15,.loc 15 0),(16,Z (evI inv inv.length:Int)),(21,Z (mxO o lc k:Int)),(22,Z (sqO o lc k:Int)),(23,Z (k:Int))] [(15,⟨false,1,29,[zn (lsI inv inv.length),zm (lsI inv inv.length)]⟩)]) (fun k=>k<=lc.length) (fun k=>lc.length-k) 0 (Uv _) (ai ⟨.refl _,.refl _,.refl _,.refl _,.refl _,.refl _,.refl _,.refl _,trivial⟩ ⟨rfl,trivial⟩) ?_;intro k hk1;have hsb:=B3 o lc k;refine Yy ?_;refine aU (t:=125) rfl (fun hg9=>?_) (fun hg9=>?_)
 ·have hg9_:=dT0 hg9;refine Zz ?_;refine az hg9 (ed rfl rfl) ?_;refine Zz ?_;refine bH rfl (G6 (by omega)) ?_;refine aT<|bi<|aR ?_;have hkl:k<lc.length:=by omega
  have hfm:(lc.getD k ⟨0,0,0⟩)∈lc:=ct _ hkl;have hfk:=hf _ hfm;have hok:=ho _ hfm;have hok1:=hok.1;have hok2:=hok.2.1;have hmo:(if(1:Int)>(o (lc.getD k ⟨0,0,0⟩):Int)then(1:Int)else(o (lc.getD k ⟨0,0,0⟩):Int))=(o (lc.getD k ⟨0,0,0⟩):Int):=G2 (by omega);have hcDM:ak Tryz.prog 11 [I (lsI inv inv.length),I (if(1:Int)>(o (lc.getD k ⟨0,0,0⟩):Int)then(1:Int)else(o (lc.getD k ⟨0,0,0⟩):Int))] (.t [PI (lsI inv inv.length/(o (lc.getD k ⟨0,0,0⟩):Int)),PI (lsI inv inv.length%(o (lc.getD k ⟨0,0,0⟩):Int)),PE 0]):=by
   rw[hmo];exact bG _ _ ((hls _).mono (by decide)) ((show L 6 (o (lc.getD k ⟨0,0,0⟩):Int) by unfold L;omega).mono (by decide)) (by omega)
  refine Yy ?_;refine ae (aL (encD:=FC) hT (fun _=>rfl) (by decide) (⟨0,0,0⟩:Fm) (n:=(k:Int)) (l:=lc) rfl rfl rfl rfl rfl rfl (by omega)) ?_;refine ae (au hT rfl rfl rfl (cs:=FC (lc.getD k ⟨0,0,0⟩)) rfl rfl)<|Zz ?_;refine ae (ab hfk.1)<|Yy ?_;refine ae (ab (vT _ (by unfold aH;omega))) ?_;refine ae (ab hcDM)<|Yy ?_;refine ae (aL (encD:=FC) hT (fun _=>rfl) (by decide) (⟨0,0,0⟩:Fm) (n:=(k:Int)) (l:=lc) rfl rfl rfl rfl rfl rfl (by omega)) ?_;refine ae (au hT rfl rfl rfl (cs:=FC (lc.getD k ⟨0,0,0⟩)) rfl rfl)<|Zz ?_;refine ae (ab hfk.2.1)<|Yy ?_;refine ae (aL (encD:=FC) hT (fun _=>rfl) (by decide) (⟨0,0,0⟩:Fm) (n:=(k:Int)) (l:=lc) rfl rfl rfl rfl rfl rfl (by omega)) ?_;refine ae (au hT rfl rfl rfl (cs:=FC (lc.getD k ⟨0,0,0⟩)) rfl rfl) ?_;refine ae (ab hfk.2.2)<|Yy ?_;refine az rfl (ed rfl rfl) ?_;refine Zz ?_;refine an (aw rfl rfl (Ix (by omega))) (aN hT rfl rfl rfl rfl (cs:=[_,_]) rfl rfl) ?_;refine an (aw rfl rfl (Ix (by omega))) (ab (bu _)) ?_;refine an (aw rfl rfl (Ix (by omega))) (eZ rfl rfl) ?_;refine ae (bA rfl (Ix (by omega)) (rfl:_=AV.p (.c _)))<|Zz ?_;refine an (aw rfl rfl (da (sgn_zero_iff.2 hok.2.2.1))) (aK (rfl:_=AV.p (.c _))) ?_;refine an (aw rfl rfl (da (sgn_zero_iff.2 hok.2.2.1))) (aK (rfl:_=AV.p (.c _))) ?_;refine aU (t:=191) rfl (fun hg16=>?_) (fun hg16=>?_)
  ·have hpr:=hg16;refine az hg16 (aK (rfl:_=AV.p (.c _))) ?_;refine az hg16 (dy hT rfl rfl rfl (by rfl)) ?_;refine az hg16 (aK (rfl:_=AV.p (.c _))) ?_;refine az hg16 (eZ rfl rfl) ?_;refine an (aw rfl rfl (da (sgn_zero_iff.2 hok.2.2.1))) (cQ rfl hg16 (rfl:_=AV.p (.c _))) ?_;refine ae (bA rfl (da (sgn_zero_iff.2 hok.2.2.1)) (rfl:_=AV.p (.c _)))<|Zz ?_;refine an (aw rfl rfl (da (by rw[hok.2.2.2.1 hpr]))) (aK (rfl:_=AV.p (.c _))) ?_;refine an (aw rfl rfl (da (by rw[hok.2.2.2.1 hpr]))) (cZ rfl) ?_;refine an (aw rfl rfl (da (by rw[hok.2.2.2.1 hpr]))) (aK (rfl:_=AV.p (.c _))) ?_;iterate 3 refine nc (jX rfl rfl (Ur not hpr)) ?_
   refine an (aw rfl rfl (da (by rw[hok.2.2.2.1 hpr]))) (bA rfl (Ur not hpr) (rfl:_=AV.p (.c _))) ?_;refine ae (bA rfl (da (by rw[hok.2.2.2.1 hpr])) (rfl:_=AV.p (.c _)))<|Yy ?_;refine ah rfl (fun hb19=>?_) (fun hb19=>?_)
   ·have hb19_:=dT0 hb19;have ho2:o (lc.getD k ⟨0,0,0⟩)<=2:=by omega
    refine Yy ?_;refine aF rfl rfl ?_;refine Yy ?_;refine aF rfl rfl ?_;refine Zz ?_;refine⟨k+1,by omega,by omega,ai ⟨.refl _,.refl _,.refl _,.refl _,.refl _,am (pL o lc k),am (Nv ho2),am (by show(k:Int)+1=((k+1:Nat):Int);omega),trivial⟩ ⟨rfl,trivial⟩⟩
   have hb19_:=dF0 hb19;have ho2:¬ o (lc.getD k ⟨0,0,0⟩)<=2:=by omega
   refine Yy ?_;refine aF rfl rfl ?_;refine Zz ?_;refine⟨k+1,by omega,by omega,ai ⟨.refl _,.refl _,.refl _,.refl _,.refl _,am (pL o lc k),am (Nw ho2),am (by show(k:Int)+1=((k+1:Nat):Int);omega),trivial⟩ ⟨rfl,trivial⟩⟩
  have hpr:=hg16;iterate 4 refine BH hg16 ?_
  refine an (aw rfl rfl (da (sgn_zero_iff.2 hok.2.2.1))) (bA rfl hg16 (rfl:_=AV.p (.c _))) ?_;refine ae (bA rfl (da (sgn_zero_iff.2 hok.2.2.1)) (rfl:_=AV.p (.c _)))<|Zz ?_;refine az rfl (cZ rfl) ?_;refine Zz ?_;refine an (aw rfl rfl (Ur not hpr)) (aK (rfl:_=AV.p (.c _))) ?_;refine an (aw rfl rfl (Ur not hpr)) (dy hT rfl rfl rfl (by rfl)) ?_;refine an (aw rfl rfl (Ur not hpr)) (eZ rfl rfl) ?_;refine az rfl (cQ rfl (Ur not hpr) (rfl:_=AV.p (.c _))) ?_;refine Zz ?_;refine aJ rfl (da (by rw[hok.2.2.2.2 hpr];rfl))<|Yy ?_;refine ah rfl (fun hb21=>?_) (fun hb21=>?_)
  ·have hb21_:=dT0 hb21;have ho2:o (lc.getD k ⟨0,0,0⟩)<=2:=by omega
   refine Yy ?_;refine aF rfl rfl ?_;refine Yy ?_;refine aF rfl rfl ?_;refine Zz ?_;refine⟨k+1,by omega,by omega,ai ⟨.refl _,.refl _,.refl _,.refl _,.refl _,am (pL o lc k),am (Nv ho2),am (by show(k:Int)+1=((k+1:Nat):Int);omega),trivial⟩ ⟨rfl,trivial⟩⟩
  have hb21_:=dF0 hb21;have ho2:¬ o (lc.getD k ⟨0,0,0⟩)<=2:=by omega
  refine Yy ?_;refine aF rfl rfl ?_;refine Zz ?_;refine⟨k+1,by omega,by omega,ai ⟨.refl _,.refl _,.refl _,.refl _,.refl _,am (pL o lc k),am (Nw ho2),am (by show(k:Int)+1=((k+1:Nat):Int);omega),trivial⟩ ⟨rfl,trivial⟩⟩
 have hg9_:=dF0 hg9;refine Zz ?_;refine aJ rfl rfl<|aS ?_;have hke:k=lc.length:=by omega
 subst hke;have hmxb:aH (mxO o lc lc.length:Int):=by rw[<- hmx];have h:=hls inv.length;unfold L at h;unfold aH;omega
 refine Yy ?_;refine an (aw rfl rfl (jK (by rw[hev]))) (aK (rfl:_=AV.p (.c _))) ?_;refine an (aw rfl rfl (jK (by rw[hev]))) (aK (rfl:_=AV.p (.c _))) ?_;refine an (aw rfl rfl (jK (by rw[hev]))) (kz rfl rfl) ?_;refine ae (cQ rfl (jK (by rw[hev])) (rfl:_=AV.p (.c _)))<|Zz ?_;refine an (aw rfl rfl (jK (by rw[hsq]))) (aN hT rfl rfl rfl rfl (cs:=[_,_]) rfl rfl) ?_;refine an (aw rfl rfl (jK (by rw[hsq]))) (aK (rfl:_=AV.p (.c _))) ?_;refine an (aw rfl rfl (jK (by rw[hsq]))) (ab (vT (mxO o lc lc.length:Int) hmxb)) ?_;refine an (aw rfl rfl (jK (by rw[hsq]))) (ab (cL _ _)) ?_;refine an (aw rfl rfl (jK (by rw[hsq]))) (kz rfl rfl) ?_;refine ae (cQ rfl (jK (by rw[hsq])) (rfl:_=AV.p (.c _)))<|Yy ?_;exact bn (jK (cmpI_eq_zero.2 hmx))
end
section
open Go Go.AM
attribute [local irreducible] RK Eff AWp
theorem Gn{d:Int}{L:List Fm}{R:Mx}{bs:List (Fm×Nat)}(G:GrI d L R bs)(hD:Dok d)(h4:d%4=0∨d%4=1)(h199:L.length<=199)(hRed:ak Tryz.prog 6 [I d] (.t [.c (FsL L),PE 0])) :
  ak Tryz.prog 7 [I d] (.t [.a (gaC d (bs.map (·.1)) R 1),PE 0]):=by
 have h:=Lb d hD h4 G.one L G.Lgd (by omega) hRed bs (fun s=>koF d R bs s) (fun s hs=>G.step h199 hs)
  (by rw[G.st (Iv _)];show L.length<=((kTb d bs bs.length).map (·.1)).length;rw[Uq,G.fin.1];exact Iv _)
  (by rw[G.len];exact G.m.n8) (by rw[G.gens,Uq]) (by rw[G.rels,Uq,V2])
  (fun r hr=>by
   rw[G.rels]at hr;obtain⟨i,hi,rfl⟩:=UO.1 hr;have hi:=UW.1 hi;have hl:=G.rowl hi;have hl2:((mxr R i).take (i+1)).length=i+1:=by rw[Us,hl];omega
   exact⟨by omega,fun e=>by rw[e]at hl2;cases hl2⟩)
 rw[G.gens,G.pad]at h;exact h
theorem Dl{d:Int}{L:List Fm}{R:Mx}{bs:List (Fm×Nat)}{inv:List Int}(G:GrI d L R bs)(H:MxH R (bxE R R.length).length inv)(hD:Dok d)(h4:d%4=0∨d%4=1)(hC:ak Tryz.prog 89 [I d] (.t [PE (L.length:Int),PE 0])) :
  ak Tryz.prog 8 [GA d (bs.map (·.1)) R 1] (.t [PE (L.length:Int),.c (SL enI inv),PE 0]):=by
 have hh:=G.hlen;have hn8:=H.g.n8;have hgl:(bs.map (·.1)).length=R.length:=by rw[Uq,G.len]
 have hbl:(bs.map (·.1)).length=bs.length:=Uq ..;have hg:=G.ggd;have hrl:∀ r∈R,ak Tryz.prog 83 [GA d (bs.map (·.1)) R 1,ARw r] (B true):=fun r hr=>by
  have h:=qx d (bs.map (·.1)) R 1 hD hg (by omega) r ((H.sr r hr).1.trans hgl.symm) (H.sr r hr).2 _ G.one;rw[hbl,G6 (G.rel1 hr)]at h;exact h
 have hnr:∀ q∈dvD ((bxE R R.length).length+2) (bxE R R.length).length 2,∀ r∈mpL (bP R) q (bP R).length (List.replicate (bP R).length 0) false,ak Tryz.prog 83 [GA d (bs.map (·.1)) R 1,ARw r] (B false):=fun q hq r hr=>by
  obtain⟨h1,h2,h3⟩:=H.hr q hq r hr;have h:=qx d (bs.map (·.1)) R 1 hD hg (by omega) r (h1.trans hgl.symm) h2 _ G.one;rw[hbl,Ix (G.rel0 (h1.trans G.len.symm) (by rw[G.len];exact h3))]at h;exact h
 have hdt:∃ dt:Int,dt≠0∧ak Tryz.prog 84 [AMx R] (.t [PI dt,PE 0])∧ak Tryz.prog 28 [AMx R] (.t [PI (L.length:Int),PE 0]):=by
  rcases H.ix with h0|⟨h1,h2⟩
  ·have e:R=[]:=Ux h0;rw[hh,h0];subst e;exact⟨1,by omega,zG,CZ⟩
  have hs:∀ r∈R,r.length=R.length:=fun r hr=>(H.sr r hr).1
  have hI:=FV R h1 hs;have hp:=G.Lne;rw[h2,<- hh]at hI;exact⟨dtL R,by omega,C0 R h1 hs,hI⟩
 refine hdt.elim fun dt h=>?_
 have c1:=Bp d (bs.map (·.1)) R 1 hD hg (by omega) (by omega) hgl.symm (fun r hr=>(H.sr r hr).1.trans hgl.symm) (fun r hr=>(H.sr r hr).2) hrl dt h.1 h.2.1;have hhh:=H.hh;have c3:=yp d (bs.map (·.1)) R 1 _ H.hk H.h0 H.h12 H.hsq (by omega) H.okd H.hq hnr;rw[<- hh]at c3;have c4:=uX d (bs.map (·.1)) R (L.length:Int) hC;exact Gp d (bs.map (·.1)) R hD hg (by omega) L.length inv h4 (by omega) H.i1 H.i12 c1 h.2.2 c3 c4 (FU R H.hk H.h0 inv H.sm)
theorem ym(D i0 i1 i2 i3 m0 m1 m2 m3:Nat)(hD:D<65536)(g0:i0<65536)(g1:i1<65536)(g2:i2<65536)(g3:i3<65536)(k0:m0<256)(k1:m1<256)(k2:m2<256)(k3:m3<256):ak Tryz.prog 3 [.p (.a [.v (.int .u16 (D:Int)),.v (.int .u16 (i0:Int)),.v (.int .u16 (i1:Int)),.v (.int .u16 (i2:Int)),.v (.int .u16 (i3:Int)),.v (.int .u8 (m0:Int)),.v (.int .u8 (m1:Int)),.v (.int .u8 (m2:Int)),.v (.int .u8 (m3:Int))])] (B true):=by
 have hs:=dj D;have hE:=mG D;have hK:=RZ D;have h12:=P3 D;have hgn:=O5 D;have hal:=Lj D;have hsD:=Qr D;have h4:(-szz D)%4=0∨(-szz D)%4=1:=by omega
 have hDo:Dok (-szz D):=⟨by omega,by omega⟩
 have cRed:ak Tryz.prog 6 [I (-szz D)] (.t [.c (FsL (lst (szz D))),PE 0]):=by
  have h:=DP (-szz D) (by omega);rw[hE,H2 rfl,XQ,D7 (by omega)]at h;exact h
 have cCls:ak Tryz.prog 89 [I (-szz D)] (.t [PE ((lst (szz D)).length:Int),PE 0]):=by
  have h:=LP (-szz D) (by omega);have e:clE (-szz D)=((lst (szz D)).length:Int):=by
   unfold clE;rw[H2 hE,XQ,Py,show LW (szz D) prG=lst (szz D) from D7 (by omega)]
  rw[hE,e]at h;exact h
 have hdL:L 40 (-szz D):=(show L 6 (-szz D) by unfold L;omega).mono (by decide);have cGen:=Gx (-szz D) hdL;rw[hE,hgn,hal]at cGen;have cAmb:=yt (-szz D) hdL fun _=>h12
 rw[hE,hal]at cAmb;refine(OU D).elim fun R h=>h.elim fun bs h=>h.elim fun inv h=>?_
 have G:=h.1;have H:=h.2;have hp:=G.Lne;have hl199:(lst (szz D)).length<=199:=by have h1:=G.hlen;have h2:=H.hh;omega
 refine wM D i0 i1 i2 i3 m0 m1 m2 m3 hD g0 g1 g2 g3 k0 k1 k2 k3 (lst (szz D)) (lst (szz D)).length inv ((lst (szz D)).filter kN).length ((lst (szz D)).filter kN) (bs.map (·.1)) R (koF (-szz D) R bs 0) (rtW (lst (szz D))) gpr
  cRed (Gn G hDo h4 hl199 cRed) (Dl G H hDo h4 cCls) cGen cAmb rfl rfl H.i12 H.is (by omega) (fun f hf=>?_) (fun f hf=>?_) (G.evL H) G.sqL (G.mxL H)
 ·have hg:=G.Lgd f hf;have hL:=hg.L6 hDo;have c1:=GN f ((lst (szz D)).length:Int) hL.1 hL.2.1 hL.2.2 (by omega) (fun _=>by rw[hg.cl.disc];omega);have ho:=J2 (G.ord0 hf) hg.cl (G.div H hf).1 hp;rw[ho.1,ho.2]at c1;have c2:=GL f (lst (szz D)) hL.1 hL.2.1 hL.2.2 (fun g hgm=>(G.Lgd g hgm).L6 hDo) (by omega) hp;have hr:=QH G.w hl199 hg.cl;rw[hr.1,hr.2]at c2;have c3:=yr f hL.1 hL.2.1 hL.2.2 (Sn hg.cl (by omega) (by omega));rw[xL hg.cl (by omega) hE]at c3;exact⟨c1,c2,c3⟩
 have h1:=G.ord hf (s:=0) (Uv _);have h2:=G.root (by omega) (by omega) hE hK hf;exact⟨h1.1.pos,by omega,(G.div H hf).2,h2.1,h2.2⟩
end
end Go.Proofs.YtpnomhdachaifaaGreatDoor
