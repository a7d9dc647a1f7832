import Derived.Test.YtpnomhdachaifaaGreatDoorHET
import Derived.Test.YtpnomhdachaifaaGreatDoorHED
import Derived.Test.YtpnomhdachaifaaGreatDoorHES
import Derived.Test.YtpnomhdachaifaaGreatDoorHEI
import Derived.Test.YtpnomhdachaifaaGreatDoorHEC
import Derived.Test.YtpnomhdachaifaaGreatDoorHEJ
set_option maxRecDepth 100000
set_option maxHeartbeats 16000000
namespace Go.Proofs.YtpnomhdachaifaaGreatDoor
section
open Go Go.AM
attribute [local irreducible] RK Eff AWp
theorem O6(b:Bool) :
  ak Tryz.prog 209 [.p (.c (.v (.bool b)))] (Z (sgB b)):=by
 refine aq Tryz.func209 rfl rfl rfl rfl<|Yy ?_;refine ah rfl (fun hb1=>?_) (fun hb1=>?_)
 ·refine Yy ?_;exact am (QD hb1)
 refine Yy ?_;exact am (QE hb1)
theorem AR(l:List Int)(x:Int)(hl:(l.length:Int)<=1000000) :
  ak Tryz.prog 232 [.p (.c (IS l)),Z x] (Z (ixV l x)):=by
 refine aq Tryz.func232 rfl rfl rfl rfl<|Yy ?_;refine aC (ι:=Nat) (fun k=>stL [(0,.p (.c (IS l))),(1,Z x),(7,Z (l.length:Int)),(8,Z (k:Int))] []) (fun k=>k<=l.length∧k<=l.findIdx (· == x)) (fun k=>l.length-k) 0 ⟨Uv _,Uv _⟩ (ai ⟨.refl _,.refl _,.refl _,.refl _,trivial⟩ trivial) ?_;rintro k ⟨hk1,hk2⟩;refine Yy ?_;refine ah rfl (fun hb1=>?_) (fun hb1=>?_)
 ·have hb1_:=dT0 hb1;refine Yy ?_;refine ae (ue hT (n:=k) rfl rfl rfl rfl rfl rfl (by omega)) ?_;refine ae (aM hT rfl rfl rfl rfl)<|Zz ?_;refine ah rfl (fun hb2=>?_) (fun hb2=>?_)
  ·have hb2_:=bT hb2;refine Yy ?_;exact am (Dc hk2 hb1_ hb2_).symm
  have hb2_:=bF hb2;refine Yy ?_;refine aF rfl rfl ?_;refine Zz ?_;have hn2:=si hk2 hb1_ hb2_;refine⟨k+1,⟨by omega,hn2⟩,by omega,ai ⟨.refl _,.refl _,.refl _,am (by omega),trivial⟩ trivial⟩
 have hb1_:=dF0 hb1;refine Yy ?_;exact am (Dd hk2 hb1_).symm
theorem uS(l:List Int)(x:Int)(hl:(l.length:Int)<=1000000) :
  ak Tryz.prog 210 [.p (.c (IS l)),Z x] (B (mq l x)):=by
 refine aq Tryz.func210 rfl rfl rfl rfl<|Yy ?_;refine ae (ab (AR l x hl))<|Yy ?_;exact .refl _
theorem B7(l:List Int)(x:Int)(hl:(l.length:Int)<=1000000) :
  ak Tryz.prog 126 [.p (.c (IS l)),Z x] (Z (ixV l x)):=by
 refine aq Tryz.func126 rfl rfl rfl rfl<|Yy ?_;refine aC (ι:=Nat) (fun k=>stL [(0,.p (.c (IS l))),(1,Z x),(7,Z (l.length:Int)),(8,Z (k:Int))] []) (fun k=>k<=l.length∧k<=l.findIdx (· == x)) (fun k=>l.length-k) 0 ⟨Uv _,Uv _⟩ (ai ⟨.refl _,.refl _,.refl _,.refl _,trivial⟩ trivial) ?_;rintro k ⟨hk1,hk2⟩;refine Yy ?_;refine ah rfl (fun hb1=>?_) (fun hb1=>?_)
 ·have hb1_:=dT0 hb1;refine Yy ?_;refine ae (ue hT (n:=k) rfl rfl rfl rfl rfl rfl (by omega)) ?_;refine ae (aM hT rfl rfl rfl rfl)<|Zz ?_;refine ah rfl (fun hb2=>?_) (fun hb2=>?_)
  ·have hb2_:=bT hb2;refine Yy ?_;exact am (Dc hk2 hb1_ hb2_).symm
  have hb2_:=bF hb2;refine Yy ?_;refine aF rfl rfl ?_;refine Zz ?_;have hn2:=si hk2 hb1_ hb2_;refine⟨k+1,⟨by omega,hn2⟩,by omega,ai ⟨.refl _,.refl _,.refl _,am (by omega),trivial⟩ trivial⟩
 have hb1_:=dF0 hb1;refine Yy ?_;exact am (Dd hk2 hb1_).symm
theorem vF(l:List Int)(x:Int)(hl:(l.length:Int)<=1000000) :
  ak Tryz.prog 64 [.p (.c (IS l)),Z x] (B (mq l x)):=by
 refine aq Tryz.func64 rfl rfl rfl rfl<|Yy ?_;refine ae (ab (B7 l x hl))<|Yy ?_;exact .refl _
theorem Br(m:Int)(l:List Int)(hm:0<=m)(hl:(l.length:Int)<=1000000) :
  ak Tryz.prog 208 [Z m,.ip [IS l]] (Z (sgB (mq l (m%8)))):=by
 refine aq Tryz.func208 rfl rfl rfl rfl<|Yy ?_;refine ae (cf rfl rfl (by decide) (c:=m%8) (UH hm)) ?_;refine ae (ab (uS l (m%8) hl)) ?_;refine ae (ab (O6 _))<|Yy ?_;exact .refl _
theorem O7(m p:Int)(hm:aH m)(hp:aH p) :
  ak Tryz.prog 206 [Z m,.ip [IC p]] (Z (kr m p)):=by
 have im:LB m 6:=⟨by unfold L;unfold aH at hm;omega⟩
 have ip:LB p 6:=⟨by unfold L;unfold aH at hp;omega⟩
 refine aq Tryz.func206 rfl rfl rfl rfl<|Yy ?_;refine ae (ab (bL m hm))<|Zz ?_;refine ae (ab (bL p hp)) ?_;refine ae (ab (yj _ _ lz lz))<|Yy ?_;exact .refl _
theorem oO(c:Int)(l:List Int) :
  ak Tryz.prog 167 [Z c,.p (.c (IS l))] (.p (.a [IC c,.fn 208 [.ip [IS l]]])):=by
 refine aq Tryz.func167 rfl rfl rfl rfl ?_;refine aE hP<|Zz ?_;refine bo (t:=3) rfl rfl ?_;refine Yy ?_;exact .refl _
theorem R0(p:Int)(h:3<=p)(ho:p%2=1) :
  ak Tryz.prog 166 [Z p] (.p (.a (chC 206 208 p))):=by
 refine aq Tryz.func166 rfl rfl rfl rfl ?_;refine aE hP<|Zz ?_;refine bo (t:=1) rfl rfl ?_;refine Yy ?_;exact ao (by rw[<- Ka h ho];rfl)
end
section
open Go Go.AM
attribute [local irreducible] RK Eff AWp
theorem se(d:Int)(h0:d<0)(h1:-4194304<=d) :
  ak Tryz.prog 103 [Z d] (.p (.c (CS 206 208 (chs d)))):=by
 refine aq Tryz.func103 rfl rfl rfl rfl ?_;refine aE hP<|Zz ?_;refine aE hP<|Zz ?_;refine fv 3 1000 2 159 rfl rfl<|Yy ?_;refine ae (fA rfl (c:=-d) (by rw[iW0 _ (by omega)];omega))<|Yy ?_;refine aC (ι:=Int) (fun m=>stL [(0,Z d),(3,.vec 1000),(4,Z m)] [(1000,CB 206 208 159 [])]) (fun m=>(0<m∧m<=4194304)∧rmp m 2=(rmp (-d) 2)) (fun m=>m.toNat) (-d) ⟨by omega,rfl⟩ (ai ⟨.refl _,.refl _,.refl _,trivial⟩ ⟨rfl,trivial⟩) ?_;rintro m ⟨hm,hr⟩;refine Yy ?_;refine ae (cf rfl rfl (by omega) (c:=m%2) (UH (by omega)))<|Zz ?_;refine ah rfl (fun hb1=>?_) (fun hb1=>?_)
 ·have hb1_:=bT hb1;refine Yy ?_;refine ae (bV rfl rfl (by omega) (c:=m/2) (by rw[Uz (by omega),iW0 _ (by omega)]))<|Zz ?_;have hdd:=j6 hm.1 (by decide) hb1_;refine⟨m/2,⟨by omega,by rw[kZ (by decide) hm.1 hb1_,hr]⟩,by omega,ai ⟨.refl _,.refl _,.refl _,trivial⟩ ⟨rfl,trivial⟩⟩
 have hb1_:=bF hb1;refine aS<|bi<|aE hP<|Zz ?_;refine aR ?_;have hm2:m=(rmp (-d) 2):=by rw[<- hr,mM hb1_]
 refine aC (ι:=Int×Int×List Int) (fun q=>stL [(0,Z d),(3,.vec 1000),(4,Z q.1),(5,Z q.2.1)] [(1000,CB 206 208 159 q.2.2)]) (fun q=>OcI (rmp (-d) 2) q.1 q.2.1 q.2.2) (fun q=>ocM q.1 q.2.1) (m,3,[]) (by have:=OcI.start (n:=m) (by omega) (by omega) (by omega);rw[hm2]at this ⊢;exact this) (ai ⟨.refl _,.refl _,.refl _,.refl _,trivial⟩ ⟨rfl,trivial⟩) ?_;intro q i;have in1:=i.n1;have inb:=i.nb;have ip3:=i.p3;have il:=i.len.1;refine Yy ?_;refine ah rfl (fun hb2=>?_) (fun hb2=>?_)
 ·have hb2_:=dT0 hb2;have ipb:=i.pb hb2_;have hsq:=sK (x:=q.2.1) (m:=2051) (by omega);refine aT<|bi<|aR<|bR (ι:=Int) (fun r=>stL [(0,Z d),(3,.vec 1000),(4,Z q.1),(5,Z r)] [(1000,CB 206 208 159 q.2.2)]) (fun r=>QI q.1 q.2.1 r) ?_ ?_
  ·refine Yy ?_;refine ae (bw rfl rfl (by first|exact iW0 _ (by omega)|rfl))<|Zz ?_;refine ah rfl (fun hb3=>?_) (fun hb3=>?_)
   ·have hb3_:=dT0 hb3;refine bp hP<|Zz ?_;refine⟨q.1,.inl ⟨rfl,hb3_⟩,ai ⟨.refl _,.refl _,.refl _,.refl _,trivial⟩ ⟨rfl,trivial⟩⟩
   have hb3_:=dF0 hb3;refine aT ?_;refine⟨q.2.1,.inr ⟨rfl,hb3_⟩,ai ⟨.refl _,.refl _,.refl _,.refl _,trivial⟩ ⟨rfl,trivial⟩⟩
  intro r hQ;obtain⟨hq3,hqo,hqb⟩:=i.q3 hb2_ hQ;refine Yy ?_;refine ae (cf rfl rfl (by omega) (c:=q.1%r) (UH (by omega)))<|Zz ?_;refine ah rfl (fun hb4=>?_) (fun hb4=>?_)
  ·have hb4_:=bT hb4;obtain⟨out',ho',hR⟩:∃ o,o=q.2.2++[r]∧RI q.1 q.2.1 r q.2.2 o:=⟨_,rfl,hQ.yes hb4_⟩
   refine Yy ?_;refine ae (ab (R0 r hq3 hqo))<|Zz ?_;refine RK.app ag (fR (fo:=206) (fs:=208) (c:=[r]) hT rfl rfl rfl rfl rfl rfl rfl rfl rfl (by simp only[List.length_cons,List.length_nil];omega) (by decide))<|Zz ?_;refine dm 34 1000 rfl rfl rfl ?_;refine aR<|aC (ι:=Int) (fun m=>stL [(0,Z d),(3,.vec 1000),(4,Z m),(5,Z r)] [(1000,CB 206 208 159 out')]) (fun m=>(0<m∧m<=4194304)∧rmp m r=rmp q.1 r) (fun m=>m.toNat) q.1 ⟨by omega,rfl⟩ (ai ⟨.refl _,.refl _,.refl _,.refl _,trivial⟩ ⟨Eq.trans rfl (Ur (fun x=>some (CB 206 208 159 x)) ho'.symm),trivial⟩) ?_;rintro m ⟨hm,hrm⟩;refine Yy ?_;refine ae (cf rfl rfl (by omega) (c:=m%r) (UH (by omega)))<|Zz ?_;refine ah rfl (fun hb5=>?_) (fun hb5=>?_)
   ·have hb5_:=bT hb5;have hdd:=j6 hm.1 (by omega) ‹m%r=0›;refine Yy ?_;refine ae (bV rfl rfl (by omega) (c:=m/r) (by rw[Uz (by omega),iW0 _ (by omega)]))<|Zz ?_;refine⟨m/r,⟨by omega,by rw[kZ (by omega) hm.1 ‹m%r=0›,hrm]⟩,by omega,ai ⟨.refl _,.refl _,.refl _,.refl _,trivial⟩ ⟨rfl,trivial⟩⟩
   have hb5_:=bF hb5;refine Yy ?_;refine aF rfl rfl ?_;refine Zz ?_;have hcl:=i.close hb2_ hR;have em:m=rmp q.1 r:=by rw[<- hrm,mM ‹m%r≠0›]
   refine⟨(rmp q.1 r,r+2,out'),hcl.1,hcl.2,ai ⟨.refl _,.refl _,am em,.refl _,trivial⟩ ⟨rfl,trivial⟩⟩
  have hb4_:=bF hb4;obtain⟨out',ho',hR⟩:∃ o,o=q.2.2∧RI q.1 q.2.1 r q.2.2 o:=⟨_,rfl,hQ.no hb2_ hb4_⟩
  refine Yy ?_;refine aC (ι:=Int) (fun m=>stL [(0,Z d),(3,.vec 1000),(4,Z m),(5,Z r)] [(1000,CB 206 208 159 out')]) (fun m=>(0<m∧m<=4194304)∧rmp m r=rmp q.1 r) (fun m=>m.toNat) q.1 ⟨by omega,rfl⟩ (ai ⟨.refl _,.refl _,.refl _,.refl _,trivial⟩ ⟨Eq.trans rfl (Ur (fun x=>some (CB 206 208 159 x)) ho'.symm),trivial⟩) ?_;rintro m ⟨hm,hrm⟩;refine Yy ?_;refine ae (cf rfl rfl (by omega) (c:=m%r) (UH (by omega)))<|Zz ?_;refine ah rfl (fun hb6=>?_) (fun hb6=>?_)
  ·have hb6_:=bT hb6;have hdd:=j6 hm.1 (by omega) ‹m%r=0›;refine Yy ?_;refine ae (bV rfl rfl (by omega) (c:=m/r) (by rw[Uz (by omega),iW0 _ (by omega)]))<|Zz ?_;refine⟨m/r,⟨by omega,by rw[kZ (by omega) hm.1 ‹m%r=0›,hrm]⟩,by omega,ai ⟨.refl _,.refl _,.refl _,.refl _,trivial⟩ ⟨rfl,trivial⟩⟩
  have hb6_:=bF hb6;refine Yy ?_;refine aF rfl rfl ?_;refine Zz ?_;have hcl:=i.close hb2_ hR;have em:m=rmp q.1 r:=by rw[<- hrm,mM ‹m%r≠0›]
  refine⟨(rmp q.1 r,r+2,out'),hcl.1,hcl.2,ai ⟨.refl _,.refl _,am em,.refl _,trivial⟩ ⟨rfl,trivial⟩⟩
 have hb2_:=dF0 hb2;refine Yy ?_;refine ae (cf rfl rfl (by decide) (c:=d.tmod 4) rfl)<|Zz ?_;refine ah rfl (fun hb7=>?_) (fun hb7=>?_)
 ·have hb7_:=cg hb7;refine aE hP<|Zz ?_;refine eI (t:=2) rfl rfl ?_;refine Yy ?_;exact ao (by rw[i.fin hb2_,Sr hb7_])
 have hb7_:=ci hb7;refine Yy ?_;refine ae (ab (oO (-4) [1,5]))<|Zz ?_;refine ae (ab (oO 8 [1,7]))<|Zz ?_;refine ae (ab (oO (-8) [1,3]))<|Yy ?_;refine ae (fA rfl (c:=-d) (by rw[iW0 _ (by omega)];omega)) ?_;refine ae (bV rfl rfl (by omega) (c:=-d/4) (by rw[Uz (by omega),iW0 _ (by omega)])) ?_;refine ae (cf rfl rfl (by omega) (c:=-d/4%8) (UH (by omega)))<|Yy ?_;refine ah rfl (fun hb8=>?_) (fun hb8=>?_)
 ·have hb8_:=bT hb8;refine Yy ?_;refine RK.app ag (fR (fo:=206) (fs:=208) (c:=[-4,8]) hT rfl rfl rfl rfl rfl rfl rfl rfl rfl (by simp only[List.length_cons,List.length_nil];omega) (by decide))<|Zz ?_;refine dm 62 1000 rfl rfl rfl ?_;refine aE hP<|Zz ?_;refine eI (t:=2) rfl rfl ?_;refine Yy ?_;exact ao (by rw[i.fin hb2_,qg hb7_ (Qy hb7_ hb8_)])
 have hb8_:=bF hb8;refine Yy ?_;refine ah rfl (fun hb9=>?_) (fun hb9=>?_)
 ·have hb9_:=bT hb9;refine aT<|bH rfl hb9<|Yy ?_;refine RK.app ag (fR (fo:=206) (fs:=208) (c:=[-4]) hT rfl rfl rfl rfl rfl rfl rfl rfl rfl (by simp only[List.length_cons,List.length_nil];omega) (by decide))<|Zz ?_;refine dm 70 1000 rfl rfl rfl ?_;refine aE hP<|Zz ?_;refine eI (t:=2) rfl rfl ?_;refine Yy ?_;exact ao (by rw[i.fin hb2_,qg hb7_ (AQ hb7_ hb8_ (.inl hb9_))])
 have hb9_:=bF hb9;refine Yy ?_;refine ah rfl (fun hb10=>?_) (fun hb10=>?_)
 ·have hb10_:=bT hb10;refine aT<|bH rfl hb10<|Yy ?_;refine RK.app ag (fR (fo:=206) (fs:=208) (c:=[-4]) hT rfl rfl rfl rfl rfl rfl rfl rfl rfl (by simp only[List.length_cons,List.length_nil];omega) (by decide))<|Zz ?_;refine dm 70 1000 rfl rfl rfl ?_;refine aE hP<|Zz ?_;refine eI (t:=2) rfl rfl ?_;refine Yy ?_;exact ao (by rw[i.fin hb2_,qg hb7_ (AQ hb7_ hb8_ (.inr (.inl hb10_)))])
 have hb10_:=bF hb10;refine Yy ?_;refine ah rfl (fun hb11=>?_) (fun hb11=>?_)
 ·have hb11_:=bT hb11;refine Yy ?_;refine RK.app ag (fR (fo:=206) (fs:=208) (c:=[-4]) hT rfl rfl rfl rfl rfl rfl rfl rfl rfl (by simp only[List.length_cons,List.length_nil];omega) (by decide))<|Zz ?_;refine dm 70 1000 rfl rfl rfl ?_;refine aE hP<|Zz ?_;refine eI (t:=2) rfl rfl ?_;refine Yy ?_;exact ao (by rw[i.fin hb2_,qg hb7_ (AQ hb7_ hb8_ (.inr (.inr hb11_)))])
 have hb11_:=bF hb11;refine Yy ?_;refine ah rfl (fun hb12=>?_) (fun hb12=>?_)
 ·have hb12_:=bT hb12;refine Yy ?_;refine RK.app ag (fR (fo:=206) (fs:=208) (c:=[-8]) hT rfl rfl rfl rfl rfl rfl rfl rfl rfl (by simp only[List.length_cons,List.length_nil];omega) (by decide))<|Zz ?_;refine dm 76 1000 rfl rfl rfl ?_;refine aE hP<|Zz ?_;refine eI (t:=2) rfl rfl ?_;refine Yy ?_;exact ao (by rw[i.fin hb2_,qg hb7_ (Qx hb7_ hb12_)])
 have hb12_:=bF hb12;refine Yy ?_;refine ah rfl (fun hb13=>?_) (fun hb13=>?_)
 ·have hb13_:=bT hb13;refine Yy ?_;refine RK.app ag (fR (fo:=206) (fs:=208) (c:=[8]) hT rfl rfl rfl rfl rfl rfl rfl rfl rfl (by simp only[List.length_cons,List.length_nil];omega) (by decide))<|Zz ?_;refine dm 82 1000 rfl rfl rfl ?_;refine aE hP<|Zz ?_;refine eI (t:=2) rfl rfl ?_;refine Yy ?_;exact ao (by rw[i.fin hb2_,qg hb7_ (Qw hb7_ hb13_)])
 have hb13_:=bF hb13;refine aT<|aE hP<|Zz ?_;refine eI (t:=2) rfl rfl ?_;refine Yy ?_;exact ao (by rw[i.fin hb2_,Qv hb7_ hb8_ hb9_ hb10_ hb11_ hb12_ hb13_])
end
section
open Go Go.AM
attribute [local irreducible] RK Eff AWp
theorem Gf(x:Int)(hx:9223372036854775808<=x.natAbs∧x.natAbs<18446744073709551616):ak Tryz.prog 29 [I x] (.t [.c (.v (.int .i64 (lwV x))),PB (lwO x)]):=wZ x hx.2
end
section
open Go Go.AM
attribute [local irreducible] RK Eff AWp
theorem Gg(x:Int)(hx:18446744073709551616<=x.natAbs) :
  ak Tryz.prog 29 [I x] (.t [.c (.v (.int .i64 (lwV x))),PB (lwO x)]):=by
 have hl:¬ (wl x.natAbs).length<=2:=fun h=>by have:=Ox h;omega
 refine aq Tryz.func29 rfl rfl rfl rfl<|Yy ?_;refine bH rfl (G6 (by omega))<|Yy ?_;exact ao (Rz (by omega))
theorem Gh(x:Int):ak Tryz.prog 29 [I x] (.t [.c (.v (.int .i64 (lwV x))),PB (lwO x)]):=by
 by_cases h:x.natAbs<9223372036854775808
 ·have h1:=gU x (by omega) (by omega);have h2:=zE (a:=x) (by omega);rw[h2.1,h2.2];exact h1
 by_cases h1:x.natAbs<18446744073709551616
 ·exact Gf x (by omega)
 exact Gg x (by omega)
theorem tn(d:Int)(hd:L 40 d) :
  ak Tryz.prog 36 [I d] (.t [PE (gnV d),PE (szE d)]):=by
 have id0:LB d 40:=⟨hd⟩
 have hm0:=UF d (show(4:Int)≠0 by omega);have hm1:=UK d (show(0:Int)<4 by omega);refine aq Tryz.func36 rfl rfl rfl rfl<|Yy ?_;refine ae (ab (bL 4 (by decide))) ?_;refine ae (ab (bG d 4 lz lz (by decide)))<|Yy ?_;refine ae (ab (Gh d))<|Yy ?_;refine ae (ab (bu _))<|Zz ?_;refine aU (t:=25) rfl (fun hg1=>?_) (fun hg1=>?_)
 ·have hg1_:=dT0 hg1;refine Yy ?_;exact ao (OZ (.inl (sgn_ge_iff.1 hg1_)))
 have hg1_:=dF0 hg1;refine az hg1 (aN hT rfl rfl rfl rfl (cs:=[_,_]) rfl rfl) ?_;refine az hg1 (ab (bL 1 (by decide))) ?_;refine az hg1 (ab (cL _ _)) ?_;refine Zz ?_;refine ah rfl (fun hb2=>?_) (fun hb2=>?_)
 ·have hb2_:=dT0 hb2;refine Yy ?_;exact ao (OZ (.inr (cmpI_gt_zero.1 hb2_)))
 have hb2_:=dF0 hb2;have hn:¬ (0<=d∨d%4>1):=fun h=>h.elim (fun x=>hg1_ (sgn_ge_iff.2 x)) (fun x=>hb2_ (cmpI_gt_zero.2 x))
 refine Yy ?_;refine aU (t:=34) rfl (fun hg3=>?_) (fun hg3=>?_)
 ·have hg3_:=(dV hg3)
  refine Yy ?_;exact ao (O0 hn (by have:=RB hg3_;omega))
 have hg3_:=(dI hg3)
 have hly:=zE (lwO_iff.1 hg3_);refine Zz ?_;refine az hg3 (ed rfl rfl) ?_;refine Zz ?_;refine ah rfl (fun hb4=>?_) (fun hb4=>?_)
 ·have hb4_:=dT0 hb4;refine Yy ?_;exact ao (O0 hn (by have:=hly.2;omega))
 have hb4_:=dF0 hb4;refine Yy ?_;exact ao (by rw[hly.2];exact Tk hn (by have:=hly.2;omega))
theorem xk(d:Int)(hd:L 40 d) :
  ak Tryz.prog 35 [I d] (.t [.c (IS (chE d)),PE (szE d)]):=by
 have id0:LB d 40:=⟨hd⟩
 refine aq Tryz.func35 rfl rfl rfl rfl<|Yy ?_;refine ae (ab (tn _ hd))<|Yy ?_;refine ah rfl (fun hb1=>?_) (fun hb1=>?_)
 ·have hb1_:=cg hb1;refine Yy ?_;exact(by rw[Su hb1_];exact Sub.tup ⟨DSub.nil_sl,DSub.refl _,trivial⟩)
 have hb1_:=ci hb1;have he:szE d=0:=hb1_;obtain⟨e1,e2,e3⟩:=nF he;have cAs:ak Tryz.prog 103 [Z (gnV d)] (.p (.c (CS 206 208 (chs d)))):=by rw[e1];exact se d e2 e3
 have hcl:=qh e2 e3;generalize hl:chs d=l at cAs hcl;refine aT<|aE hP<|Zz ?_;refine fv 6 1000 1 3 rfl rfl<|Yy ?_;refine ae (ab cAs)<|Yy ?_;refine aC (ι:=Nat) (fun k=>stL [(6,.vec 1000),(18,.p (.c (CS 206 208 l))),(19,Z (l.length:Int)),(20,Z (k:Int))] [(1000,IB 3 (l.take k))]) (fun k=>k<=l.length) (fun k=>l.length-k) 0 (Uv _) (ai ⟨.refl _,.refl _,.refl _,.refl _,trivial⟩ ⟨rfl,trivial⟩) ?_;intro k hk;refine Yy ?_;refine ah rfl (fun hb2=>?_) (fun hb2=>?_)
 ·have hb2_:=dT0 hb2;refine Yy ?_;refine ae (uf (fo:=206) (fs:=208) (n:=(k:Int)) hT rfl rfl rfl rfl rfl rfl (by omega)) ?_;refine ae (au hT rfl rfl rfl (cs:=chC 206 208 (l.getD k 0)) rfl rfl)<|Yy ?_;refine RK.app ag (rO (z:=l.getD k 0) hT rfl rfl rfl rfl rfl rfl rfl rfl (by rw[Us];omega) (by decide))<|Zz ?_;refine dm 28 1000 rfl rfl rfl ?_;refine bp hP<|aF rfl rfl ?_;refine Zz ?_;refine⟨k+1,by omega,by omega,ai ⟨.refl _,.refl _,.refl _,am (by omega),trivial⟩ ⟨Eq.trans rfl (Ur (fun x=>some (IB 3 x)) (tK hb2_)),trivial⟩⟩
 have hb2_:=dF0 hb2;refine aS<|qE (t:=6) rfl rfl ?_;refine Yy ?_;exact ao (by rw[vx hb2_,he,Ie he,hl])
theorem Gx(d:Int)(hd:L 40 d) :
  ak Tryz.prog 9 [I d] (.t [PE (gnN d),PE (szE d)]):=by
 have id0:LB d 40:=⟨hd⟩
 refine aq Tryz.func9 rfl rfl rfl rfl<|Yy ?_;refine ae (ab (xk _ hd))<|Yy ?_;refine ah rfl (fun hb1=>?_) (fun hb1=>?_)
 ·have hb1_:=cg hb1;refine Yy ?_;exact ao (RV hb1_)
 have hb1_:=ci hb1;have he:szE d=0:=hb1_;obtain⟨e1,e2,e3⟩:=nF he;have hcl:=qh e2 e3;have hch:=Ie he;have hce:(chE d).length<=16:=by rw[hch];exact hcl
 have hsh:=QB hce;refine Yy ?_;refine ae (aY rfl rfl (by first|exact iW0 _ (by omega)|rfl))<|Zz ?_;refine ae (rJ rfl rfl (by split <;> omega) hsh)<|Yy ?_;exact ao (by rw[hch];exact RW he)
end
section
open Go Go.AM
attribute [local irreducible] RK Eff AWp
theorem pY(a b:Int)(ha:aH a)(hb:aH b) :
  ak Tryz.prog 40 [Z a,Z b] (Z (gg a b)):=by
 refine aq Tryz.func40 rfl rfl rfl rfl<|Yy ?_;refine aC (ι:=Int×Int) (fun p=>stL [(0,Z p.1),(1,Z p.2)] []) (fun p=>gg p.1 p.2=gg a b∧aH p.1∧aH p.2) (fun p=>p.2.natAbs) (a,b) ⟨rfl,ha,hb⟩ (ai ⟨.refl _,.refl _,trivial⟩ trivial) ?_;rintro p ⟨hG,hp1,hp2⟩;refine Yy ?_;refine ah rfl (fun hb1=>?_) (fun hb1=>?_)
 ·have hb1_:=cg hb1;refine Yy ?_;refine ae (cf rfl rfl hb1_ (c:=p.1.tmod p.2) rfl)<|Zz ?_;have ht:=Nq hp1 hp2 hb1_;refine⟨(p.2,p.1.tmod p.2),⟨(Lg hb1_).trans hG,hp2,ht.1⟩,ht.2,ai ⟨.refl _,.refl _,trivial⟩ trivial⟩
 have hb1_:=ci hb1;refine Yy ?_;exact am (by rw[<- hG,Tx hb1_])
theorem H8(x:Int)(h:-9223372036854775808<x∧x<=9223372036854775807) :
  ak Tryz.prog 125 [Z x] (Z (x.natAbs:Int)):=by
 refine aq Tryz.func125 rfl rfl rfl rfl<|Yy ?_;refine ae (fA rfl (by first|exact iW0 _ (by omega)|rfl))<|Yy ?_;exact am (by split <;> omega)
theorem yq(f:Fm)(hfa:L 6 f.a)(hfb:L 6 f.b)(hfc:L 6 f.c) :
  ak Tryz.prog 123 [FA f.a f.b f.c] (.t [PE (gpV f),PE (gpE f)]):=by
 have ifa:LB f.a 6:=⟨hfa⟩
 have ifb:LB f.b 6:=⟨hfb⟩
 have ifc:LB f.c 6:=⟨hfc⟩
 refine aq Tryz.func123 rfl rfl rfl rfl<|Yy ?_;refine ae (ab (mO f.a f.b f.c lz lz lz))<|Yy ?_;refine ah rfl (fun hb1=>?_) (fun hb1=>?_)
 ·have hb1_:=cg hb1;refine Yy ?_;exact ao (Tj hb1_)
 have hb1_:=ci hb1;refine Yy ?_;refine ae (ab (ga f.a f.b f.c lz lz lz)) ?_;refine ae (ab (tn _ lz))<|Yy ?_;refine aU (t:=20) rfl (fun hg2=>?_) (fun hg2=>?_)
 ·have hg2_:=bT hg2;refine az hg2 (aN hT rfl rfl rfl rfl (cs:=[_,_,_,_,_,_]) rfl rfl) ?_;refine az hg2 (ab (ki f.a f.b f.c lz lz lz)) ?_;refine az hg2 (cZ rfl) ?_;refine Zz ?_;refine ah rfl (fun hb3=>?_) (fun hb3=>?_)
  ·have hb3_:=(dV hb3)
   refine Yy ?_;exact ao (Ti hb1_ hg2_ hb3_)
  have hb3_:=(dI hb3)
  refine Yy ?_;exact ao (Th hb1_ hg2_ hb3_)
 have hg2_:=bF hg2;refine Yy ?_;exact ao (Tg hb1_ hg2_)
theorem Lk(f:Fm)(d:Int)(hf:Cl d f)(hd:-4194304<=d)(hfa:L 6 f.a)(hfb:L 6 f.b)(hfc:L 6 f.c) :
  ak Tryz.prog 124 [FA f.a f.b f.c] (.t [PE f.rd.a,PE f.rd.b,PE f.rd.c]):=by
 have ifa:LB f.a 6:=⟨hfa⟩
 have ifb:LB f.b 6:=⟨hfb⟩
 have ifc:LB f.c 6:=⟨hfc⟩
 have cR:ak Tryz.prog 117 [FA f.a f.b f.c] (.t [PF f.rd,PM (rdM f.a f.b f.c),PE (rdE f.a f.b f.c)]):=vU f.a f.b f.c lz lz lz;rw[pz hf.pos]at cR;obtain⟨⟨s1,s2⟩,⟨s3,s4⟩,s5,s6⟩:=qJ hf.rd hf.rd_rd hd;generalize rdM f.a f.b f.c=M at cR;generalize f.rd=g at *;have l1:=gU g.a (by omega) (by omega);have l2:=gU g.b (by omega) (by omega);have l3:=gU g.c (by omega) (by omega);refine aq Tryz.func124 rfl rfl rfl rfl<|Yy ?_;refine ae (ab cR)<|Yy ?_;refine ae (ab l1)<|Yy ?_;refine ae (ab l2)<|Yy ?_;refine ae (ab l3)<|Yy ?_;refine dz rfl (.inr rfl) (a8 rfl) (a8 rfl) (a8 rfl) ?_ bd;exact .refl _
theorem Gw(f:Fm)(hfa:L 6 f.a)(hfb:L 6 f.b)(hfc:L 6 f.c)(hx:gpE f=0->∃ x y:Int,0<=x∧x<=1400000∧0<=y∧y<=1400000∧Int.gcd (vl f.rd.a f.rd.b f.rd.c x y) (2*dsc f.a f.b f.c)=1) :
  ak Tryz.prog 63 [FA f.a f.b f.c] (.t [.c (IS (gvL f)),PE (gpE f)]):=by
 have ifa:LB f.a 6:=⟨hfa⟩
 have ifb:LB f.b 6:=⟨hfb⟩
 have ifc:LB f.c 6:=⟨hfc⟩
 have cP:=yq f hfa hfb hfc;refine aq Tryz.func63 rfl rfl rfl rfl<|Yy ?_;refine ae (ab cP)<|Yy ?_;refine ah rfl (fun hb1=>?_) (fun hb1=>?_)
 ·have hb1_:=cg hb1;refine Yy ?_;exact(by rw[RU hb1_];exact Sub.tup ⟨DSub.nil_sl,DSub.refl _,trivial⟩)
 have hb1_:=ci hb1;have he:gpE f=0:=hb1_;obtain⟨hf,hE⟩:=Dp he;obtain⟨hgn,hd0,hd1⟩:=nF hE;have hxx:=hx he;have eV:gpV f=dsc f.a f.b f.c:=by unfold gpV;rw[H2 he]
 have cS:=Lk f _ hf hd1 hfa hfb hfc;have cA0:=se _ hd0 hd1;have hmap:=fun(N:Int) (h1:RpN f.rd N) (h2:Int.gcd N (2*dsc f.a f.b f.c)=1)=>kC hf hd1 hd0 hE h1 h2
 have hcb:=fun(c:Int) (h:c∈chs (dsc f.a f.b f.c))=>Ss hd0 hd1 h
 have hcl:=qh hd0 hd1;obtain⟨⟨s1,s2⟩,⟨s3,s4⟩,s5,s6⟩:=qJ hf.rd hf.rd_rd hd1;have hg:=hf.rd;rw[eV];generalize dsc f.a f.b f.c=d at *;generalize f.rd=g at *;have j2:aH (2*d):=by unfold aH;omega
 refine Yy ?_;refine ae (ab cS)<|Zz ?_;refine aE hP<|Zz ?_;refine bR (ι:=Int) (fun N=>stL [(4,Z d),(9,Z N)] []) (fun N=>RpN g N∧(-9000000000000000000<=N∧N<=9000000000000000000)∧Int.gcd N (2*d)=1) ?_ ?_
 ·refine Yy ?_;refine aC (ι:=Int×Int) (fun q=>stL [(4,Z d),(6,Z g.a),(7,Z g.b),(8,Z g.c),(9,Z q.1),(10,Z q.2)] []) (fun q=>(RpN g q.1∧(-9000000000000000000<=q.1∧q.1<=9000000000000000000)∧(1<=q.2∧q.2<=1400001)∧(Int.gcd q.1 (2*d)=1∨NoP g d q.2))) (fun q=>(1400001-q.2).toNat) (g.a,1) ⟨⟨1,0,by unfold vl;simp⟩,by simp only;omega,by simp only;omega,.inr (NoP.start hd0)⟩ (ai ⟨.refl _,.refl _,.refl _,.refl _,.refl _,.refl _,trivial⟩ trivial) ?_;rintro q ⟨hq1,hq2,hq3,hq4⟩;have jn:aH q.1:=by unfold aH;omega
  refine Yy ?_;refine ae (bw rfl rfl (by first|exact iW0 _ (by omega)|rfl)) ?_;refine ae (ab (pY _ _ jn j2))<|Zz ?_;refine aU (t:=35) rfl (fun hg2=>?_) (fun hg2=>?_)
  ·have hg2_:=cg hg2;refine Zz ?_;refine az hg2 (bw rfl rfl (by first|exact iW0 _ (by omega)|rfl)) ?_;refine az hg2 (ab (pY _ _ jn j2)) ?_;refine Zz ?_;refine ah rfl (fun hb3=>?_) (fun hb3=>?_)
   ·have hb3_:=cg hb3;have hNP:NoP g d q.2:=hq4.resolve_left (fun e=>(gg_one.1 e).elim hg2_ hb3_);have hle:=hNP.le hxx;refine aT<|bR (ι:=Int) (fun m=>stL [(4,Z d),(6,Z g.a),(7,Z g.b),(8,Z g.c),(9,Z m),(10,Z q.2)] []) (fun m=>(RpN g m∧(-9000000000000000000<=m∧m<=9000000000000000000)∧(Int.gcd m (2*d)=1∨NoX g d q.2 (q.2+1)))) ?_ ?_
    ·refine Yy ?_;refine aC (ι:=Int×Int) (fun r=>stL [(4,Z d),(6,Z g.a),(7,Z g.b),(8,Z g.c),(9,Z r.2),(10,Z q.2),(11,Z r.1)] []) (fun r=>(0<=r.1∧r.1<=q.2+1)∧RpN g r.2∧(-9000000000000000000<=r.2∧r.2<=9000000000000000000)∧NoX g d q.2 r.1) (fun r=>(q.2+1-r.1).toNat) (0,q.1) ⟨by simp only;omega,hq1,hq2,NoX.start⟩ (ai ⟨.refl _,.refl _,.refl _,.refl _,.refl _,.refl _,.refl _,trivial⟩ trivial) ?_;rintro r ⟨hr1,hr2,hr3,hr4⟩;refine Yy ?_;refine ah rfl (fun hb4=>?_) (fun hb4=>?_)
     ·have hb4_:=dT0 hb4;have hG:=gb (a:=g.a) (b:=g.b) (c:=g.c) (x:=r.1) (y:=q.2) (by omega) (by omega) (by omega) (by omega) (by omega);have hH:=gb (a:=g.a) (b:=g.b) (c:=g.c) (x:=q.2) (y:=r.1) (by omega) (by omega) (by omega) (by omega) (by omega);have ev1:g.a*r.1*r.1+g.b*r.1*q.2+g.c*q.2*q.2=(vl g.a g.b g.c r.1 q.2):=rfl;have ev2:g.a*q.2*q.2+g.b*r.1*q.2+g.c*r.1*r.1=(vl g.a g.b g.c q.2 r.1):=Qn g.a g.b g.c r.1 q.2;have jv1:aH (g.a*r.1*r.1+g.b*r.1*q.2+g.c*q.2*q.2):=by unfold aH;omega
      have jv2:aH (g.a*q.2*q.2+g.b*r.1*q.2+g.c*r.1*r.1):=by unfold aH;omega
      have hv1b:-9000000000000000000<=(vl g.a g.b g.c r.1 q.2)∧(vl g.a g.b g.c r.1 q.2)<=9000000000000000000:=by rw[<- ev1];omega
      have hv2b:-9000000000000000000<=(vl g.a g.b g.c q.2 r.1)∧(vl g.a g.b g.c q.2 r.1)<=9000000000000000000:=by rw[<- ev2];omega
      have hab1:=O2 (n:=g.a*r.1*r.1+g.b*r.1*q.2+g.c*q.2*q.2) hd0 hd1;have hab2:=O2 (n:=g.a*q.2*q.2+g.b*r.1*q.2+g.c*r.1*r.1) hd0 hd1;refine Yy ?_;refine ae (bw rfl rfl (by first|exact iW0 _ (by omega)|rfl))<|Zz ?_;refine ae (bw rfl rfl (by first|exact iW0 _ (by omega)|rfl))<|Zz ?_;refine ae (bw rfl rfl (by first|exact iW0 _ (by omega)|rfl))<|Zz ?_;refine ae (bw rfl rfl (by first|exact iW0 _ (by omega)|rfl)) ?_;refine aF rfl rfl ?_;refine Zz ?_;refine ae (bw rfl rfl (by first|exact iW0 _ (by omega)|rfl))<|Zz ?_;refine ae (bw rfl rfl (by first|exact iW0 _ (by omega)|rfl)) ?_;refine aF rfl rfl ?_;refine Yy ?_;refine ae (bw rfl rfl (by first|exact iW0 _ (by omega)|rfl)) ?_;refine ae (ab (pY _ _ jv1 j2)) ?_;refine ae (ab (H8 _ hab1))<|Zz ?_;refine ah rfl (fun hb5=>?_) (fun hb5=>?_)
      ·have hb5_:=bT hb5;refine aS ?_;refine⟨(vl g.a g.b g.c r.1 q.2),⟨⟨r.1,q.2,rfl⟩,hv1b,.inl (gg1 (n:=(vl g.a g.b g.c r.1 q.2)) hb5_)⟩,ai ⟨.refl _,.refl _,.refl _,.refl _,.refl _,.refl _,trivial⟩ trivial⟩
      have hb5_:=bF hb5;refine Yy ?_;refine ae (bw rfl rfl (by first|exact iW0 _ (by omega)|rfl))<|Zz ?_;refine ae (bw rfl rfl (by first|exact iW0 _ (by omega)|rfl))<|Zz ?_;refine ae (bw rfl rfl (by first|exact iW0 _ (by omega)|rfl))<|Zz ?_;refine ae (bw rfl rfl (by first|exact iW0 _ (by omega)|rfl)) ?_;refine aF rfl rfl ?_;refine Zz ?_;refine ae (bw rfl rfl (by first|exact iW0 _ (by omega)|rfl))<|Zz ?_;refine ae (bw rfl rfl (by first|exact iW0 _ (by omega)|rfl)) ?_;refine aF rfl rfl ?_;refine Yy ?_;refine ae (bw rfl rfl (by first|exact iW0 _ (by omega)|rfl)) ?_;refine ae (ab (pY _ _ jv2 j2)) ?_;refine ae (ab (H8 _ hab2))<|Zz ?_;refine ah rfl (fun hb6=>?_) (fun hb6=>?_)
      ·have hb6_:=bT hb6;refine aS ?_;refine⟨(vl g.a g.b g.c q.2 r.1),⟨⟨q.2,r.1,rfl⟩,hv2b,.inl (by rw[<- ev2];exact gg1 hb6_)⟩,ai ⟨.refl _,.refl _,.refl _,.refl _,am ev2,.refl _,trivial⟩ trivial⟩
      have hb6_:=bF hb6;refine Yy ?_;refine aF rfl rfl ?_;refine Zz ?_;refine⟨(r.1+1,(vl g.a g.b g.c q.2 r.1)),⟨by simp only;omega,⟨q.2,r.1,rfl⟩,hv2b,hr4.next (O3 (n:=(vl g.a g.b g.c r.1 q.2)) hb5_) (by rw[<- ev2];exact O3 hb6_)⟩,by simp only;omega,ai ⟨.refl _,.refl _,.refl _,.refl _,am ev2,.refl _,.refl _,trivial⟩ trivial⟩
     have hb4_:=dF0 hb4;refine aS ?_;refine⟨r.2,⟨hr2,hr3,.inr ((show r.1=q.2+1 by omega)▸hr4)⟩,ai ⟨.refl _,.refl _,.refl _,.refl _,.refl _,.refl _,trivial⟩ trivial⟩
    rintro m ⟨hm1,hm2,hm3⟩;refine Yy ?_;refine aF rfl rfl ?_;refine Zz ?_;refine⟨(m,q.2+1),⟨hm1,hm2,by simp only;omega,hm3.imp id (fun h=>hNP.next h)⟩,by simp only;omega,ai ⟨.refl _,.refl _,.refl _,.refl _,.refl _,.refl _,trivial⟩ trivial⟩
   have hb3_:=ci hb3;refine aS ?_;refine⟨q.1,⟨hq1,hq2,gg_one.2 (.inr hb3_)⟩,ai ⟨.refl _,.refl _,trivial⟩ trivial⟩
  have hg2_:=ci hg2;refine Zz ?_;refine aJ rfl rfl<|aS ?_;refine⟨q.1,⟨hq1,hq2,gg_one.2 (.inl hg2_)⟩,ai ⟨.refl _,.refl _,trivial⟩ trivial⟩
 rintro N ⟨hN1,hN2,hN3⟩;have hN0:=QO hg hN1 hd0;have jN:aH N:=by unfold aH;omega
 have hfin:=hmap N hN1 hN3;have cAs:=cA0;generalize chs d=l at cAs hcl hcb hfin;refine aE hP<|Zz ?_;refine fv 12 1000 1 3 rfl rfl<|Yy ?_;refine ae (ab cAs)<|Yy ?_;refine aC (ι:=Nat) (fun k=>stL [(9,Z N),(12,.vec 1000),(96,.p (.c (CS 206 208 l))),(97,Z (l.length:Int)),(98,Z (k:Int))] [(1000,IB 3 ((l.take k).map fun c=>cv c N))]) (fun k=>k<=l.length) (fun k=>l.length-k) 0 (Uv _) (ai ⟨.refl _,.refl _,.refl _,.refl _,.refl _,trivial⟩ ⟨rfl,trivial⟩) ?_;intro k hk;refine Yy ?_;refine ah rfl (fun hb7=>?_) (fun hb7=>?_)
 ·have hb7_:=dT0 hb7;have hmm:=hcb _ (uG hb7_);have jc:aH (l.getD k 0):=by unfold aH;omega
  refine Yy ?_;refine ae (uf (fo:=206) (fs:=208) (n:=(k:Int)) hT rfl rfl rfl rfl rfl rfl (by omega)) ?_;refine ae (au hT rfl rfl rfl (cs:=chC 206 208 (l.getD k 0)) rfl rfl)<|Yy ?_;refine ae (Eff.callCh rfl rfl (Br N _ hN0 (by unfold spR;split <;> (try split) <;> decide)) (O7 N (l.getD k 0) jN jc))<|Zz ?_;refine RK.app ag (rO (z:=cv (l.getD k 0) N) hT rfl rfl rfl rfl rfl rfl rfl rfl (by rw[Uq,Us];omega) (by decide))<|Zz ?_;refine dm 108 1000 rfl rfl rfl ?_;refine bp hP<|aF rfl rfl ?_;refine Zz ?_;refine⟨k+1,by omega,by omega,ai ⟨.refl _,.refl _,.refl _,.refl _,am (by omega),trivial⟩ ⟨Eq.trans rfl (Ur (fun x=>some (IB 3 x)) (FR hb7_)),trivial⟩⟩
 have hb7_:=dF0 hb7;refine aS<|qE (t:=12) rfl rfl ?_;refine Yy ?_;exact ao (by rw[vx hb7_,hfin,he])
end
section
open Go Go.AM
attribute [local irreducible] RK Eff AWp
theorem yr(f:Fm)(hfa:L 6 f.a)(hfb:L 6 f.b)(hfc:L 6 f.c)(hfx:gpE f=0->∃ x y:Int,0<=x∧x<=1400000∧0<=y∧y<=1400000∧Int.gcd (vl f.rd.a f.rd.b f.rd.c x y) (2*dsc f.a f.b f.c)=1) :
  ak Tryz.prog 15 [FA f.a f.b f.c] (.t [PB (gpr f),PE (gpE f)]):=by
 have ifa:LB f.a 6:=⟨hfa⟩
 have ifb:LB f.b 6:=⟨hfb⟩
 have ifc:LB f.c 6:=⟨hfc⟩
 have hvl:=K2 f;refine aq Tryz.func15 rfl rfl rfl rfl<|Yy ?_;refine ae (ab (Gw f hfa hfb hfc hfx))<|Yy ?_;refine aU (t:=13) rfl (fun hg1=>?_) (fun hg1=>?_)
 ·have hg1_:=bT hg1;refine Zz ?_;refine az hg1 (ab (vF (gvL f) (-1) hvl)) ?_;refine az hg1 (cZ rfl) ?_;refine Yy ?_;exact ao (by unfold gpr;rw[G6 hg1_];rfl)
 have hg1_:=bF hg1;refine Yy ?_;exact ao (by unfold gpr;rw[Ix hg1_];rfl)
theorem qB(x:Int) :
  ak Tryz.prog 106 [Z x] (B false):=by
 refine aq Tryz.func106 rfl rfl rfl rfl<|Yy ?_;exact bn (bne_self_eq_false _)
end
section
open Go Go.AM
attribute [local irreducible] RK Eff AWp
theorem nX(x y:Int) :
  ak Tryz.prog 44 [Z x,Z y] (Z (aX x y)):=by
 refine aq Tryz.func44 rfl rfl rfl rfl<|Yy ?_;refine ae (ab (qB _))<|Yy ?_;refine ae (ab (qB _))<|Yy ?_;refine ah rfl (fun hb1=>?_) (fun hb1=>?_)
 ·have hb1_:=dT0 hb1;refine Yy ?_;exact ao (by unfold aX;rw[H2 (by omega)])
 have hb1_:=dF0 hb1;refine Yy ?_;refine ah rfl (fun hb2=>?_) (fun hb2=>?_)
 ·have hb2_:=dT0 hb2;refine Yy ?_;exact ao (by unfold aX;rw[G2 (by omega),H2 (by omega)])
 have hb2_:=dF0 hb2;refine Yy ?_;exact ao (by unfold aX;rw[G2 (by omega),G2 (by omega)])
theorem J4(a b:Int) :
  ak Tryz.prog 43 [.p (.c (.sl 2 [.v (.int .i64 a),.v (.int .i64 b)]))] (Z (if a=0 then b else a)):=by
 refine aq Tryz.func43 rfl rfl rfl rfl ?_;refine aE hP<|Zz ?_;refine aE hP<|Zz ?_;refine bi<|aE hP<|Zz ?_;refine aR<|bX 3<|Yy ?_;refine cO ?_;refine Yy ?_;refine ah rfl (fun hb1=>?_) (fun hb1=>?_)
 ·have hb1_:=cg hb1;refine Yy ?_;exact ao (by rw[G2 hb1_])
 have hb1_:=ci hb1;refine Yy ?_;refine aF rfl rfl ?_;refine Yy ?_;refine cO ?_;refine Yy ?_;refine ah rfl (fun hb2=>?_) (fun hb2=>?_)
 ·have hb2_:=cg hb2;refine Yy ?_;exact ao (by rw[H2 hb1_])
 have hb2_:=ci hb2;refine Yy ?_;refine aF rfl rfl ?_;refine Yy ?_;exact ao (by rw[H2 hb1_,hb2_])
theorem R1(f g:Fm) :
  ak Tryz.prog 42 [.p (.a (TC f)),.p (.a (TC g))] (Z (cm3 f g)):=by
 refine aq Tryz.func42 rfl rfl rfl rfl<|Yy ?_;refine ae (ab (nX _ _))<|Zz ?_;refine ae (ab (nX _ _))<|Zz ?_;refine ae (ab (J4 _ _))<|Yy ?_;exact am (by unfold cm3;split <;> simp_all)
theorem RG(x:Nat)(hx:x<256) :
  ak Tryz.prog 177 [.p (.c (.v (.int .u64 ((x:Nat):Int))))] (Z (aV x)):=by
 have h8:=bl (m:=x) (by omega);refine aq Tryz.func177 rfl rfl rfl rfl<|Yy ?_;refine aJ rfl (Ix (by omega))<|Yy ?_;refine aJ rfl (Ix (by omega))<|Yy ?_;refine aJ rfl (Ix (by omega))<|Yy ?_;refine ae (aQ hT rfl rfl rfl rfl (IntWalk.u8_in _ (by omega))) ?_;refine ae (mP rfl rfl (by omega)) ?_;refine ae (aQ hT rfl rfl rfl rfl (iW0 _ (by omega))) ?_;refine ae (bB rfl rfl (iW0 _ (by omega)))<|Yy ?_;exact am (by omega)
theorem G0(x:Nat)(hx:x<256) :
  ak Tryz.prog 105 [.p (.c (.v (.int .u64 ((x:Nat):Int))))] (Z (aV x)):=by
 refine aq Tryz.func105 rfl rfl rfl rfl<|Yy ?_;refine ae (ab (RG _ (by omega)))<|Yy ?_;exact .refl _
theorem Gv(m k:Int)(hm:0<m∧m<=4194304)(hk:1<=k)(hkk:k*k<=m) :
  ak Tryz.prog 37 [Z k,.ip [IC m]] (.p (.a (TC (shp m k 0)))):=by
 have hb:=rA hm hk hkk;refine aq Tryz.func37 rfl rfl rfl rfl<|Yy ?_;refine ae (bV rfl rfl (by omega) (c:=m/4) (by rw[Uz (by omega),iW0 _ (by omega)]))<|Zz ?_;refine ae (bV rfl rfl (by omega) (c:=m/4/k) (by rw[Uz (by omega),iW0 _ (by omega)])) ?_;refine ae (fj hT rfl rfl rfl (es:=[_,_,_]) rfl)<|Yy ?_;refine bK rfl (.inr rfl) (aA hT rfl rfl rfl rfl (cs:=[_,_,_]) rfl rfl) ?_ bd;exact .refl _
theorem Gu(m k:Int)(hm:0<m∧m<=4194304)(hk:1<=k)(hkk:k*k<=m) :
  ak Tryz.prog 38 [Z k,.ip [IC m]] (.p (.a (TC (shp m k 1)))):=by
 have hb:=rA hm hk hkk;refine aq Tryz.func38 rfl rfl rfl rfl<|Yy ?_;refine ae (bV rfl rfl (by omega) (c:=m/k) (by rw[Uz (by omega),iW0 _ (by omega)]))<|Zz ?_;refine aF rfl rfl ?_;refine ae (bV rfl rfl (by omega) (c:=(m/k+k)/4) (by rw[Uz (by omega),iW0 _ (by omega)])) ?_;refine ae (fj hT rfl rfl rfl (es:=[_,_,_]) rfl)<|Yy ?_;refine bK rfl (.inr rfl) (aA hT rfl rfl rfl rfl (cs:=[_,_,_]) rfl rfl) ?_ bd;exact .refl _
theorem Gt(m k:Int)(hm:0<m∧m<=4194304)(hk:1<=k)(hkk:k*k<=m) :
  ak Tryz.prog 39 [Z k,.ip [IC m]] (.p (.a (TC (shp m k 2)))):=by
 have hb:=rA hm hk hkk;refine aq Tryz.func39 rfl rfl rfl rfl<|Yy ?_;refine ae (bV rfl rfl (by omega) (c:=m/k) (by rw[Uz (by omega),iW0 _ (by omega)]))<|Zz ?_;refine aF rfl rfl ?_;refine ae (bV rfl rfl (by omega) (c:=(m/k+k)/4) (by rw[Uz (by omega),iW0 _ (by omega)]))<|Zz ?_;refine ae (bV rfl rfl (by omega) (c:=m/k) (by rw[Uz (by omega),iW0 _ (by omega)]))<|Zz ?_;refine ae (aY rfl rfl (by first|exact iW0 _ (by omega)|rfl)) ?_;refine ae (bV rfl rfl (by omega) (c:=(m/k-k)/2) (by rw[Uz (by omega),iW0 _ (by omega)]))<|Zz ?_;refine ae (bV rfl rfl (by omega) (c:=m/k) (by rw[Uz (by omega),iW0 _ (by omega)]))<|Zz ?_;refine aF rfl rfl ?_;refine ae (bV rfl rfl (by omega) (c:=(m/k+k)/4) (by rw[Uz (by omega),iW0 _ (by omega)])) ?_;refine ae (fj hT rfl rfl rfl (es:=[_,_,_]) rfl)<|Yy ?_;refine bK rfl (.inr rfl) (aA hT rfl rfl rfl rfl (cs:=[_,_,_]) rfl rfl) ?_ bd;exact .refl _
end
section
open Go Go.AM
attribute [local irreducible] RK Eff AWp
theorem HZ(z:Int)(hz:aH z) :
  ak Tryz.prog 141 [.p (.c (.v (.int .i64 z)))] (I z):=by
 refine aq Tryz.func141 rfl rfl rfl rfl<|Yy ?_;refine ae (ab (bL z hz))<|Yy ?_;exact .refl _
theorem qS(x y:Int)(hx:L 44 x)(hy:L 44 y)(h0:y≠0) :
  ak Tryz.prog 165 [I x,I y] (I (x/y)):=by
 refine aq Tryz.func165 rfl rfl rfl rfl<|Yy ?_;refine ae (ab (bG x y hx hy h0))<|Yy ?_;exact .refl _
theorem nC(x y:Int)(hx:L 44 x)(hy:L 44 y)(h0:y≠0) :
  ak Tryz.prog 101 [I x,I y] (I (x/y)):=by
 refine aq Tryz.func101 rfl rfl rfl rfl<|Yy ?_;refine ae (ab (qS x y hx hy h0))<|Yy ?_;exact .refl _
theorem Ky(u v a b:Int)(hu:L 6 u)(hv:L 6 v)(ha:L 6 a)(hb:L 6 b) :
  ak Tryz.prog 202 [I a,I b,.ip [zn u,zm u],.ip [zn v,zm v]] (I (u*a+v*b)):=by
 have i1:LB u 6:=⟨hu⟩
 have i2:LB v 6:=⟨hv⟩
 have i3:LB a 6:=⟨ha⟩
 have i4:LB b 6:=⟨hb⟩
 refine aq Tryz.func202 rfl rfl rfl rfl<|Yy ?_;refine ae (au hT rfl rfl rfl (cs:=[_,_]) rfl rfl)<|Zz ?_;refine ae (ab (bS u a lz lz)) ?_;refine ae (au hT rfl rfl rfl (cs:=[_,_]) rfl rfl)<|Zz ?_;refine ae (ab (bS v b lz lz)) ?_;refine ae (ab (dQ _ _ lz lz))<|Yy ?_;exact .refl _
theorem Kx(p q a b:Int)(hu:L 6 p)(hv:L 6 q)(ha:L 6 a)(hb:L 6 b) :
  ak Tryz.prog 203 [I a,I b,.ip [zn p,zm p],.ip [zn q,zm q]] (I (p*b-q*a)):=by
 have i1:LB p 6:=⟨hu⟩
 have i2:LB q 6:=⟨hv⟩
 have i3:LB a 6:=⟨ha⟩
 have i4:LB b 6:=⟨hb⟩
 refine aq Tryz.func203 rfl rfl rfl rfl<|Yy ?_;refine ae (au hT rfl rfl rfl (cs:=[_,_]) rfl rfl)<|Zz ?_;refine ae (ab (bS p b lz lz)) ?_;refine ae (au hT rfl rfl rfl (cs:=[_,_]) rfl rfl)<|Zz ?_;refine ae (ab (bS q a lz lz)) ?_;refine ae (ab (fC _ _ lz lz))<|Yy ?_;exact .refl _
theorem Kw(a b:Int) :
  ak Tryz.prog 204 [I a,I b] (I (-a)):=by
 refine aq Tryz.func204 rfl rfl rfl rfl<|Yy ?_;refine ae (ab (gS a))<|Yy ?_;exact .refl _
theorem FT(q a b:Int)(hv:L 6 q)(ha:L 6 a)(hb:L 6 b) :
  ak Tryz.prog 229 [I a,I b,.ip [zn q,zm q]] (I (a-q*b)):=by
 have i2:LB q 6:=⟨hv⟩
 have i3:LB a 6:=⟨ha⟩
 have i4:LB b 6:=⟨hb⟩
 refine aq Tryz.func229 rfl rfl rfl rfl<|Yy ?_;refine ae (au hT rfl rfl rfl (cs:=[_,_]) rfl rfl)<|Zz ?_;refine ae (ab (bS q b lz lz)) ?_;refine ae (ab (fC _ _ lz lz))<|Yy ?_;exact .refl _
theorem rY(a b:List Int)(Fn:FuncId)(caps:List (List DV))(f:Int->Int->Int)(hc:∀ k,k<a.length->ak Tryz.prog Fn ([I (a.getD k 0),I (b.getD k 0)]++caps.map .ip) (I (f (a.getD k 0) (b.getD k 0))))(hl:b.length=a.length)(hle:(a.length:Int)<=1000000) :
  ak Tryz.prog 144 [ARw a,ARw b,.fn Fn caps] (ARw (eP f a b)):=by
 refine aq Tryz.func144 rfl rfl rfl rfl<|Yy ?_;refine bD ag (lA hT rfl rfl rfl rfl rfl rfl rfl rfl (by omega))<|Zz ?_;refine dm 11 1000 rfl rfl rfl<|Yy ?_;refine aC (ι:=List Int×Nat) (fun⟨o,k⟩=>stL [(0,ARw a),(1,ARw b),(2,.fn Fn caps),(7,.vec 1000),(13,Z (a.length:Int)),(14,Z (k:Int))] [(1000,VB 2 29 enI o)]) (fun⟨o,k⟩=>MixI f a b o k) (fun⟨_,k⟩=>a.length-k) (List.replicate ((a.length:Nat):Int).toNat 0,0) MixI.start (ai ⟨.refl _,.refl _,.refl _,.refl _,.refl _,.refl _,trivial⟩ ⟨rfl,trivial⟩) ?_;rintro⟨o,k⟩ hI;refine Yy ?_;refine ah rfl (fun hb1=>?_) (fun hb1=>?_)
 ·have hb1_:=dT0 hb1;have hk:k<a.length:=by omega
  refine Yy ?_;refine ae (aL hT aI (by decide) 0 (n:=(k:Int)) (l:=a) rfl rfl rfl rfl rfl rfl (by omega)) ?_;refine ae (au hT rfl rfl rfl (cs:=enI (a.getD k 0)) rfl rfl)<|Zz ?_;refine ae (aL hT aI (by decide) 0 (n:=(k:Int)) (l:=b) rfl rfl rfl rfl rfl rfl (by omega)) ?_;refine ae (au hT rfl rfl rfl (cs:=enI (b.getD k 0)) rfl rfl) ?_;refine ae (Eff.callC rfl (hc k hk)) ?_;refine ae (av hT aI rfl rfl rfl rfl (by rfl) rfl rfl rfl (by have:=hI.len;omega)) ?_;refine aZ ag (jj hT rfl rfl rfl rfl rfl (by have:=hI.len;omega))<|Yy ?_;refine aF rfl rfl ?_;refine Zz ?_;refine⟨(o.set k (f (a.getD k 0) (b.getD k 0)),k+1),hI.next hk,by show a.length-(k+1)<a.length-k;omega,ai ⟨.refl _,.refl _,.refl _,.refl _,.refl _,am (by omega),trivial⟩ ⟨rfl,trivial⟩⟩
 have hb1_:=dF0 hb1;refine aS ?_;have hke:k=a.length:=by have:=hI.le;omega
 subst hke;refine eF (encD:=enI) aI rfl (t:=7) rfl rfl ?_;rw[hI.done hl];refine Yy ?_;exact .refl _
end
section
open Go Go.AM
attribute [local irreducible] RK Eff AWp
theorem kW(a b:Int)(ha:L 30 a)(hb:L 30 b) :
  ak Tryz.prog 181 [I a,I b] (.t [PI ((Int.gcd a b:Nat):Int),PI (bzU a b),PI (bzV a b)]):=by
 have ia:LB a 30:=⟨ha⟩
 have ib:LB b 30:=⟨hb⟩
 refine aq Tryz.func181 rfl rfl rfl rfl<|Yy ?_;refine ah rfl (fun hb1=>?_) (fun hb1=>?_)
 ·have hb1_:=bT hb1;have hb0:b=0:=wl_len_zero.1 hb1_;refine Yy ?_;refine ae (ab (jt _))<|Zz ?_;refine ae (ab (bu _)) ?_;refine ae (ab (bL _ (by unfold sgn;split <;> (try split) <;> decide)))<|Yy ?_;refine dz rfl (.inr rfl) (aA hT rfl rfl rfl rfl (cs:=[_,_]) rfl rfl) (aA hT rfl rfl rfl rfl (cs:=[_,_]) rfl rfl) (aA hT rfl rfl rfl rfl (cs:=[_,_]) rfl rfl) ?_ bd;exact ao (T1 hb0)
 have hb1_:=bF hb1;have hb0:b≠0:=fun e=>hb1_ (wl_len_zero.2 e)
 refine Yy ?_;refine ae (ab (jt _))<|Zz ?_;refine ae (ab (td _ _ lz lz hb0))<|Yy ?_;refine ae (ab (bL 1 (by decide)))<|Yy ?_;refine aC (ι:=Int×Int×Int×Int) (fun p=>stL [(2,.loc 2 0),(3,.loc 3 0),(4,.loc 4 0),(5,.loc 5 0),(6,.loc 6 0),(7,.loc 7 0),(8,.loc 8 0),(9,.loc 9 0),(10,.loc 10 0)] [(2,⟨false,1,29,[zn (a),zm (a)]⟩),(3,⟨false,1,29,[zn (b),zm (b)]⟩),(4,⟨false,1,29,[zn (0),zm (0)]⟩),(5,⟨false,1,29,[zn (0),zm (0)]⟩),(6,⟨false,1,29,[zn (0),zm (0)]⟩),(7,⟨false,1,29,[zn (p.1),zm (p.1)]⟩),(8,⟨false,1,29,[zn (p.2.1),zm (p.2.1)]⟩),(9,⟨false,1,29,[zn (p.2.2.1),zm (p.2.2.1)]⟩),(10,⟨false,1,29,[zn (p.2.2.2),zm (p.2.2.2)]⟩)]) (fun p=>BzI a b p.1 p.2.1 p.2.2.1 p.2.2.2) (fun p=>p.2.1.natAbs) ((b.natAbs:Int),a%b,0,1) (BzI.start hb0) (ai ⟨.refl _,.refl _,.refl _,.refl _,.refl _,.refl _,.refl _,.refl _,.refl _,trivial⟩ ⟨rfl,rfl,rfl,rfl,rfl,rfl,rfl,rfl,rfl,trivial⟩) ?_;intro p i;have vb:=i.vb;have i1:LB p.1 30:=⟨L.of_le hb (by have:=i.gb;have:=i.g0;omega)⟩
 have i2:LB p.2.1 30:=⟨L.of_le hb (by have:=i.xb;have:=i.x0;omega)⟩
 have i3:LB p.2.2.1 30:=⟨L.of_le hb (by have:=i.ub;omega)⟩
 have i4:LB p.2.2.2 30:=⟨L.of_le hb (by omega)⟩
 refine Yy ?_;refine ah rfl (fun hb2=>?_) (fun hb2=>?_)
 ·have hb2_:=dT0 hb2;have hx:p.2.1≠0:=fun e=>by rw[e]at hb2_;exact absurd hb2_ (by decide)
  refine Yy ?_;refine ae (ab (bG _ _ lz lz hx))<|Yy ?_;refine ae (ab (bS _ _ lz lz)) ?_;refine ae (ab (fC _ _ lz lz))<|Zz ?_;refine⟨(p.2.1,p.1%p.2.1,p.2.2.2,p.2.2.1-p.1/p.2.1*p.2.2.2),(i.next hx).1,(i.next hx).2,ai ⟨.refl _,.refl _,.refl _,.refl _,.refl _,.refl _,.refl _,.refl _,.refl _,trivial⟩ ⟨rfl,rfl,rfl,rfl,rfl,rfl,rfl,rfl,rfl,trivial⟩⟩
 have hb2_:=dF0 hb2;have hx0:p.2.1=0:=wl_len_zero.1 (by omega);obtain⟨e1,e2⟩:=i.stop hb0 hx0;have hper:b/p.1≠0:=by rw[e1];exact NR hb0
 have hg0:p.1≠0:=by have:=i.g0;omega
 have ip:LB (b/p.1) 30:=⟨L.of_le hb (Int.natAbs_ediv_le_natAbs b p.1)⟩
 have iu:LB (p.2.2.1%(b/p.1)) 30:=⟨by rw[e2];exact L.of_le hb (by have:=nQ (a:=a) hb0;omega)⟩
 refine Yy ?_;refine ae (ab (bG _ _ lz lz hg0))<|Yy ?_;refine ae (ab (td _ _ lz lz hper))<|Yy ?_;refine ae (ab (bS _ _ lz lz)) ?_;refine ae (ab (fC _ _ lz lz))<|Zz ?_;refine ae (ab (bG _ _ lz lz hb0))<|Yy ?_;refine dz rfl (.inr rfl) (aA hT rfl rfl rfl rfl (cs:=[_,_]) rfl rfl) (aA hT rfl rfl rfl rfl (cs:=[_,_]) rfl rfl) (aA hT rfl rfl rfl rfl (cs:=[_,_]) rfl rfl) ?_ bd;exact ao (PL i hb0 hx0)
end
section
open Go Go.AM
attribute [local irreducible] RK Eff AWp
theorem zF(a b:List Int)(q:Int)(hq:L 6 q)(ha:∀ k,L 6 (a.getD k 0))(hb:∀ k,L 6 (b.getD k 0))(hl:b.length=a.length)(hle:(a.length:Int)<=1000000) :
  ak Tryz.prog 205 [ARw a,I q,ARw b] (ARw (gA a q b)):=by
 refine aq Tryz.func205 rfl rfl rfl rfl ?_;refine aE hP<|Zz ?_;refine bo (t:=4) rfl rfl ?_;refine aE hP<|jd rfl<|jd rfl<|ae (iJ rfl)<|ae (ab (rY a b 229 [[zn q,zm q]] (fun x y=>x-q*y) (fun k _=>FT q _ _ hq (ha k) (hb k)) hl hle))<|Yy ?_;exact .refl _
theorem CY(m:Mx)(n:Nat)(hl:m.length<=1000000)(hn:n<=1000000)(hok:hkA n m n=true) :
  CallM Tryz.prog 163 [.vec 0,Z (n:Int)] (upd O 0 (some (VB 1 42 aO m))) (Z ((hrA m n).2:Int)) (upd O 0 (some (VB 1 42 aO (hrA m n).1))):=by
 refine dk (np:=1) Tryz.func163 (by kernel_rfl) rfl rfl (bL0 rfl) eJ ff rfl<|Yy ?_;refine aC (ι:=Nat) (fun col=>stL [(0,.vec 0),(1,Z (n:Int)),(5,Z ((hrA m col).2:Int)),(6,Z (col:Int))] [(0,VB 1 42 aO (hrA m col).1)]) (fun col=>col<=n) (fun col=>n-col) 0 (Uv _) (ai ⟨.refl _,.refl _,.refl _,.refl _,trivial⟩ ⟨rfl,trivial⟩) ?_;intro col hI;have hll:=lf m col;have hrr:=mU m col;have hfull:=Gj (m:=m) (k:=col);have hnx:=RT (m:=m) (k:=col);have hok2:=fun h1 h2=>KZ hok (col:=col) h1 h2
 generalize hse:hrA m col=s at hll hrr hfull hnx hok2 ⊢;refine Yy ?_;refine aU (t:=20) rfl (fun hg1=>?_) (fun hg1=>?_)
 ·have hg1_:=dT0 hg1;refine Zz ?_;refine az hg1 (aK (rfl:_=AV.vec _)) ?_;refine az hg1 (b7 hT aG rfl rfl rfl rfl rfl) ?_;refine az hg1 (ed rfl rfl) ?_;refine Zz ?_;refine ah rfl (fun hb2=>?_) (fun hb2=>?_)
  ·have hb2_:=dT0 hb2;have hrl:s.2<m.length:=by have:=dT0 hb2;omega
   obtain⟨hsI,hsU⟩:=hok2 (by omega) hrl;have hnx2:=hnx hrl;clear hok2 hnx hfull;refine Yy ?_;refine aF rfl rfl ?_;refine Yy ?_;refine aC (ι:=Nat) (fun k=>stL [(0,.vec 0),(1,Z (n:Int)),(5,Z (s.2:Int)),(6,Z (col:Int)),(7,Z ((s.2+1+k:Nat):Int))] [(0,VB 1 42 aO (hrI s.2 col s.1 k))]) (fun k=>k<=s.1.length-(s.2+1)) (fun k=>s.1.length-k) 0 (Uv _) (ai ⟨.refl _,.refl _,.refl _,.refl _,am (by omega),trivial⟩ ⟨rfl,trivial⟩) ?_;intro k hk;refine Yy ?_;refine ae (b7 hT aG rfl rfl rfl rfl rfl)<|Zz ?_;refine ah rfl (fun hb3=>?_) (fun hb3=>?_)
   ·have hb3_:=dT0 hb3;have hM:=hsI k (by omega);have hMl:=pT s.2 col s.1 k;have hS:hrI s.2 col s.1 (k+1)=hrS s.2 col (hrI s.2 col s.1 k) (s.2+1+k):=rfl;generalize hrI s.2 col s.1 k=M at hM hMl hS hb3_ ⊢;have hr1:s.2<M.length:=by omega
    have hi1:s.2+1+k<M.length:=by omega
    have hr2:=(cE hM hr1).1;have hi2:=(cE hM hi1).1;have ix:LB (mxg M s.2 col) 5:=⟨mK hM hr1 col⟩
    have iy:LB (mxg M (s.2+1+k) col) 5:=⟨mK hM hi1 col⟩
    refine Yy ?_;refine ae (av hT aG (n:=s.2) (l:=M) rfl rfl rfl rfl (by rfl) rfl rfl rfl (by omega)) ?_;refine ae (br hT (k:=s.2) (m:=M) rfl rfl rfl rfl (by omega))<|Zz ?_;refine ae (aL hT aI (by decide) 0 (n:=(col:Int)) (l:=(mxr M s.2)) rfl rfl rfl rfl rfl rfl (by omega)) ?_;refine ae (au hT rfl rfl rfl (cs:=enI (mxg M s.2 col)) rfl rfl)<|Zz ?_;refine ae (av hT aG (n:=(s.2+1+k)) (l:=M) rfl rfl rfl rfl (by rfl) rfl rfl rfl (by omega)) ?_;refine ae (br hT (k:=(s.2+1+k)) (m:=M) rfl rfl rfl rfl (by omega))<|Zz ?_;refine ae (aL hT aI (by decide) 0 (n:=(col:Int)) (l:=(mxr M (s.2+1+k))) rfl rfl rfl rfl rfl rfl (by omega)) ?_;refine ae (au hT rfl rfl rfl (cs:=enI (mxg M (s.2+1+k) col)) rfl rfl)<|Yy ?_;refine ae (ab (bu _))<|Zz ?_;refine ah rfl (fun hb4=>?_) (fun hb4=>?_)
    ·have hb4_:=bT hb4;have hy0:=sgn_zero_iff.1 (bT hb4);refine Yy ?_;refine aF rfl rfl ?_;refine Zz ?_;refine⟨k+1,by omega,by omega,ai ⟨.refl _,.refl _,.refl _,.refl _,am (by omega),trivial⟩ ⟨Eq.trans rfl (Ur (fun x=>some (VB 1 42 aO x)) ((hS.trans (RO hy0)).symm)),trivial⟩⟩
    have hb4_:=bF hb4;have hy0:¬ mxg M (s.2+1+k) col=0:=fun e=>bF hb4 (sgn_zero_iff.2 e)
    have hbz:=TZ (sL hM hr1 col) (sL hM hi1 col) hy0;have ig:LB ((Int.gcd (mxg M s.2 col) (mxg M (s.2+1+k) col):Nat):Int) 6:=⟨hbz.1⟩
    refine Yy ?_;refine ae (ab (kW _ _ (ix.le.mono (by decide)) (iy.le.mono (by decide))))<|Yy ?_;refine ae (ab (nC _ _ lz lz hbz.2.2.2.2.2))<|Zz ?_;refine ae (ab (nC _ _ lz lz hbz.2.2.2.2.2))<|Zz ?_;refine bo (t:=11) rfl rfl ?_;refine bo (t:=12) rfl rfl ?_;refine bo (t:=13) rfl rfl ?_;refine bo (t:=14) rfl rfl ?_;refine Yy ?_;refine ae (av hT aG (n:=s.2) (l:=M) rfl rfl rfl rfl (by rfl) rfl rfl rfl (by omega)) ?_;refine ae (br hT (k:=s.2) (m:=M) rfl rfl rfl rfl (by omega))<|Zz ?_;refine ae (av hT aG (n:=(s.2+1+k)) (l:=M) rfl rfl rfl rfl (by rfl) rfl rfl rfl (by omega)) ?_;refine ae (br hT (k:=(s.2+1+k)) (m:=M) rfl rfl rfl rfl (by omega))<|Zz ?_;refine ae (ab (rY (mxr M s.2) (mxr M (s.2+1+k)) 202 _ (fun a b=>bzU (mxg M s.2 col) (mxg M (s.2+1+k) col)*a+bzV (mxg M s.2 col) (mxg M (s.2+1+k) col)*b) (fun k _=>Ky _ _ _ _ hbz.2.1 hbz.2.2.1 (gF hM hr1 k) (gF hM hi1 k)) (hi2.trans hr2.symm) (by omega)))<|Zz ?_;refine ae (av hT aG (n:=s.2) (l:=M) rfl rfl rfl rfl (by rfl) rfl rfl rfl (by omega)) ?_;refine ae (br hT (k:=s.2) (m:=M) rfl rfl rfl rfl (by omega))<|Zz ?_;refine ae (av hT aG (n:=(s.2+1+k)) (l:=M) rfl rfl rfl rfl (by rfl) rfl rfl rfl (by omega)) ?_;refine ae (br hT (k:=(s.2+1+k)) (m:=M) rfl rfl rfl rfl (by omega))<|Zz ?_;refine ae (ab (rY (mxr M s.2) (mxr M (s.2+1+k)) 203 _ (fun a b=>mxg M s.2 col/(Int.gcd (mxg M s.2 col) (mxg M (s.2+1+k) col):Nat)*b-mxg M (s.2+1+k) col/(Int.gcd (mxg M s.2 col) (mxg M (s.2+1+k) col):Nat)*a) (fun k _=>Kx _ _ _ _ hbz.2.2.2.1 hbz.2.2.2.2.1 (gF hM hr1 k) (gF hM hi1 k)) (hi2.trans hr2.symm) (by omega))) ?_;refine ae (av hT aG (n:=s.2) (l:=M) rfl rfl rfl rfl (by rfl) rfl rfl rfl (by omega)) ?_;refine aZ ag (gp hT (k:=_) (m:=_) rfl rfl rfl rfl rfl (by first|omega|(rw[UL];omega))) ?_;refine ae (av hT aG (n:=(s.2+1+k)) (l:=_) rfl rfl rfl rfl (by rfl) rfl rfl rfl (by rw[UL];omega)) ?_;refine aZ ag (gp hT (k:=_) (m:=_) rfl rfl rfl rfl rfl (by first|omega|(rw[UL];omega)))<|Yy ?_;refine aF rfl rfl ?_;refine Zz ?_;refine⟨k+1,by omega,by omega,ai ⟨.refl _,.refl _,.refl _,.refl _,am (by omega),trivial⟩ ⟨Eq.trans rfl (Ur (fun x=>some (VB 1 42 aO x)) ((hS.trans (RN hy0)).symm)),trivial⟩⟩
   have hb3_:=dF0 hb3;have hMl:=pT s.2 col s.1 k;have hke:k=s.1.length-(s.2+1):=by omega
   clear hb3_ hb3 hMl;subst hke;have hM1:=hsI (s.1.length-(s.2+1)) (by omega);have hC0:=RS (s:=s) (col:=col);have hC1:=RR (s:=s) (col:=col);have hM1l:=tf s col;rw[show hrI s.2 col s.1 (s.1.length-(s.2+1))=hrP s col from rfl]at hM1 ⊢;have hU:=hsU;clear hsI hsU;generalize hrP s col=M1 at hM1 hC0 hC1 hM1l hU ⊢;have hr5:s.2<M1.length:=by omega
   have hr6:=(cE hM1 hr5).1;refine Yy ?_;refine ae (av hT aG (n:=s.2) (l:=M1) rfl rfl rfl rfl (by rfl) rfl rfl rfl (by omega)) ?_;refine ae (br hT (k:=s.2) (m:=M1) rfl rfl rfl rfl (by omega))<|Zz ?_;refine ae (aL hT aI (by decide) 0 (n:=(col:Int)) (l:=(mxr M1 s.2)) rfl rfl rfl rfl rfl rfl (by omega)) ?_;refine ae (au hT rfl rfl rfl (cs:=enI (mxg M1 s.2 col)) rfl rfl)<|Yy ?_;refine ae (ab (bu _))<|Zz ?_;refine ah rfl (fun hb5=>?_) (fun hb5=>?_)
   ·have hb5_:=bT hb5;have hp0:=hC0 (sgn_zero_iff.1 (bT hb5));refine Yy ?_;refine aF rfl rfl ?_;refine Zz ?_;refine⟨col+1,by omega,by omega,ai ⟨.refl _,.refl _,am (by rw[hnx2,hp0]),am (by omega),trivial⟩ ⟨Eq.trans rfl (Ur (fun x=>some (VB 1 42 aO x)) ((Ur Prod.fst (hnx2.trans hp0)).symm)),trivial⟩⟩
   have hb5_:=bF hb5;have hpn:mxg M1 s.2 col≠0:=fun e=>bF hb5 (sgn_zero_iff.2 e)
   have hp1:=hC1 hpn;have hU2:=hU hpn;have hUl:=te s.2 col (hrN s.2 col M1);have hNl:=zM s.2 col M1;refine Yy ?_;refine ah rfl (fun hb6=>?_) (fun hb6=>?_)
   ·have hNe:=RP (dT0 hb6);refine Yy ?_;refine ae (av hT aG (n:=s.2) (l:=M1) rfl rfl rfl rfl (by rfl) rfl rfl rfl (by omega)) ?_;refine ae (br hT (k:=s.2) (m:=M1) rfl rfl rfl rfl (by omega))<|Zz ?_;refine ae (av hT aG (n:=s.2) (l:=M1) rfl rfl rfl rfl (by rfl) rfl rfl rfl (by omega)) ?_;refine ae (br hT (k:=s.2) (m:=M1) rfl rfl rfl rfl (by omega)) ?_;refine ae (ab ((rY (mxr M1 s.2) (mxr M1 s.2) 204 [] (fun a _=>-a) (fun k _=>Kw _ _) rfl (by omega)).sub ⟨.refl _,.refl _,ru,trivial⟩)) ?_;refine ae (av hT aG (n:=s.2) (l:=M1) rfl rfl rfl rfl (by rfl) rfl rfl rfl (by omega)) ?_;refine aZ ag (gp hT (k:=s.2) (m:=M1) rfl rfl rfl rfl rfl (by omega))<|Yy ?_;refine aC (ι:=Nat) (fun k=>stL [(0,.vec 0),(1,Z (n:Int)),(5,Z (s.2:Int)),(6,Z (col:Int)),(116,Z (s.2:Int)),(117,Z (k:Int))] [(0,VB 1 42 aO (hrU s.2 col (hrN s.2 col M1) k))]) (fun k=>k<=s.2) (fun k=>s.2-k) 0 (Uv _) (ai ⟨.refl _,.refl _,.refl _,.refl _,.refl _,.refl _,trivial⟩ ⟨Eq.trans rfl (Ur (fun x=>some (VB 1 42 aO x)) (hNe.symm)),trivial⟩) ?_;intro k hk;refine Yy ?_;refine ah rfl (fun hb7=>?_) (fun hb7=>?_)
    ·have hb7_:=dT0 hb7;have hM2:=(hU2 k (by omega)).1;have hne2:=(hU2 k (by omega)).2;have hM2l:=(hUl k).trans hNl;have hS2:hrU s.2 col (hrN s.2 col M1) (k+1)=(hrU s.2 col (hrN s.2 col M1) k).set k (gA (mxr (hrU s.2 col (hrN s.2 col M1) k) k) (mxg (hrU s.2 col (hrN s.2 col M1) k) k col/mxg (hrU s.2 col (hrN s.2 col M1) k) s.2 col) (mxr (hrU s.2 col (hrN s.2 col M1) k) s.2)):=rfl;generalize hrU s.2 col (hrN s.2 col M1) k=M2 at hM2 hne2 hM2l hS2 ⊢;have hr3:s.2<M2.length:=by omega
     have hk1:k<M2.length:=by omega
     have hr4:=(cE hM2 hr3).1;have hk2:=(cE hM2 hk1).1;have ix:LB (mxg M2 k col) 5:=⟨mK hM2 hk1 col⟩
     have iy:LB (mxg M2 s.2 col) 5:=⟨mK hM2 hr3 col⟩
     refine Yy ?_;refine ae (av hT aG (n:=k) (l:=M2) rfl rfl rfl rfl (by rfl) rfl rfl rfl (by omega)) ?_;refine ae (br hT (k:=k) (m:=M2) rfl rfl rfl rfl (by omega))<|Zz ?_;refine ae (av hT aG (n:=k) (l:=M2) rfl rfl rfl rfl (by rfl) rfl rfl rfl (by omega)) ?_;refine ae (br hT (k:=k) (m:=M2) rfl rfl rfl rfl (by omega))<|Zz ?_;refine ae (aL hT aI (by decide) 0 (n:=(col:Int)) (l:=(mxr M2 k)) rfl rfl rfl rfl rfl rfl (by omega)) ?_;refine ae (au hT rfl rfl rfl (cs:=enI (mxg M2 k col)) rfl rfl)<|Zz ?_;refine ae (av hT aG (n:=s.2) (l:=M2) rfl rfl rfl rfl (by rfl) rfl rfl rfl (by omega)) ?_;refine ae (br hT (k:=s.2) (m:=M2) rfl rfl rfl rfl (by omega))<|Zz ?_;refine ae (aL hT aI (by decide) 0 (n:=(col:Int)) (l:=(mxr M2 s.2)) rfl rfl rfl rfl rfl rfl (by omega)) ?_;refine ae (au hT rfl rfl rfl (cs:=enI (mxg M2 s.2 col)) rfl rfl) ?_;refine ae (ab (qS _ _ lz lz hne2))<|Zz ?_;refine ae (av hT aG (n:=s.2) (l:=M2) rfl rfl rfl rfl (by rfl) rfl rfl rfl (by omega)) ?_;refine ae (br hT (k:=s.2) (m:=M2) rfl rfl rfl rfl (by omega)) ?_;refine ae (ab (zF _ _ _ ((inferInstance:LB (mxg M2 k col/mxg M2 s.2 col) 5).le.mono (by decide)) (gF hM2 hk1) (gF hM2 hr3) (hr4.trans hk2.symm) (by omega))) ?_;refine ae (av hT aG (n:=k) (l:=M2) rfl rfl rfl rfl (by rfl) rfl rfl rfl (by omega)) ?_;refine aZ ag (gp hT (k:=k) (m:=M2) rfl rfl rfl rfl rfl (by omega))<|Yy ?_;refine aF rfl rfl ?_;refine Zz ?_;refine⟨k+1,by omega,by omega,ai ⟨.refl _,.refl _,.refl _,.refl _,.refl _,am (by omega),trivial⟩ ⟨Eq.trans rfl (Ur (fun x=>some (VB 1 42 aO x)) (hS2.symm)),trivial⟩⟩
    have hb7_:=dF0 hb7;have hke:k=s.2:=by omega
    subst hke;refine Yy ?_;refine aF rfl rfl ?_;refine Yy ?_;refine aF rfl rfl ?_;refine Zz ?_;refine⟨col+1,by omega,by omega,ai ⟨.refl _,.refl _,am (by rw[hnx2,hp1];omega),am (by omega),trivial⟩ ⟨Eq.trans rfl (Ur (fun x=>some (VB 1 42 aO x)) ((Ur Prod.fst (hnx2.trans hp1)).symm)),trivial⟩⟩
   have hNe:=RQ (dF0 hb6);refine Yy ?_;refine aC (ι:=Nat) (fun k=>stL [(0,.vec 0),(1,Z (n:Int)),(5,Z (s.2:Int)),(6,Z (col:Int)),(116,Z (s.2:Int)),(117,Z (k:Int))] [(0,VB 1 42 aO (hrU s.2 col (hrN s.2 col M1) k))]) (fun k=>k<=s.2) (fun k=>s.2-k) 0 (Uv _) (ai ⟨.refl _,.refl _,.refl _,.refl _,.refl _,.refl _,trivial⟩ ⟨Eq.trans rfl (Ur (fun x=>some (VB 1 42 aO x)) (hNe.symm)),trivial⟩) ?_;intro k hk;refine Yy ?_;refine ah rfl (fun hb8=>?_) (fun hb8=>?_)
   ·have hb8_:=dT0 hb8;have hM2:=(hU2 k (by omega)).1;have hne2:=(hU2 k (by omega)).2;have hM2l:=(hUl k).trans hNl;have hS2:hrU s.2 col (hrN s.2 col M1) (k+1)=(hrU s.2 col (hrN s.2 col M1) k).set k (gA (mxr (hrU s.2 col (hrN s.2 col M1) k) k) (mxg (hrU s.2 col (hrN s.2 col M1) k) k col/mxg (hrU s.2 col (hrN s.2 col M1) k) s.2 col) (mxr (hrU s.2 col (hrN s.2 col M1) k) s.2)):=rfl;generalize hrU s.2 col (hrN s.2 col M1) k=M2 at hM2 hne2 hM2l hS2 ⊢;have hr3:s.2<M2.length:=by omega
    have hk1:k<M2.length:=by omega
    have hr4:=(cE hM2 hr3).1;have hk2:=(cE hM2 hk1).1;have ix:LB (mxg M2 k col) 5:=⟨mK hM2 hk1 col⟩
    have iy:LB (mxg M2 s.2 col) 5:=⟨mK hM2 hr3 col⟩
    refine Yy ?_;refine ae (av hT aG (n:=k) (l:=M2) rfl rfl rfl rfl (by rfl) rfl rfl rfl (by omega)) ?_;refine ae (br hT (k:=k) (m:=M2) rfl rfl rfl rfl (by omega))<|Zz ?_;refine ae (av hT aG (n:=k) (l:=M2) rfl rfl rfl rfl (by rfl) rfl rfl rfl (by omega)) ?_;refine ae (br hT (k:=k) (m:=M2) rfl rfl rfl rfl (by omega))<|Zz ?_;refine ae (aL hT aI (by decide) 0 (n:=(col:Int)) (l:=(mxr M2 k)) rfl rfl rfl rfl rfl rfl (by omega)) ?_;refine ae (au hT rfl rfl rfl (cs:=enI (mxg M2 k col)) rfl rfl)<|Zz ?_;refine ae (av hT aG (n:=s.2) (l:=M2) rfl rfl rfl rfl (by rfl) rfl rfl rfl (by omega)) ?_;refine ae (br hT (k:=s.2) (m:=M2) rfl rfl rfl rfl (by omega))<|Zz ?_;refine ae (aL hT aI (by decide) 0 (n:=(col:Int)) (l:=(mxr M2 s.2)) rfl rfl rfl rfl rfl rfl (by omega)) ?_;refine ae (au hT rfl rfl rfl (cs:=enI (mxg M2 s.2 col)) rfl rfl) ?_;refine ae (ab (qS _ _ lz lz hne2))<|Zz ?_;refine ae (av hT aG (n:=s.2) (l:=M2) rfl rfl rfl rfl (by rfl) rfl rfl rfl (by omega)) ?_;refine ae (br hT (k:=s.2) (m:=M2) rfl rfl rfl rfl (by omega)) ?_;refine ae (ab (zF _ _ _ ((inferInstance:LB (mxg M2 k col/mxg M2 s.2 col) 5).le.mono (by decide)) (gF hM2 hk1) (gF hM2 hr3) (hr4.trans hk2.symm) (by omega))) ?_;refine ae (av hT aG (n:=k) (l:=M2) rfl rfl rfl rfl (by rfl) rfl rfl rfl (by omega)) ?_;refine aZ ag (gp hT (k:=k) (m:=M2) rfl rfl rfl rfl rfl (by omega))<|Yy ?_;refine aF rfl rfl ?_;refine Zz ?_;refine⟨k+1,by omega,by omega,ai ⟨.refl _,.refl _,.refl _,.refl _,.refl _,am (by omega),trivial⟩ ⟨Eq.trans rfl (Ur (fun x=>some (VB 1 42 aO x)) (hS2.symm)),trivial⟩⟩
   have hb8_:=dF0 hb8;have hke:k=s.2:=by omega
   subst hke;refine Yy ?_;refine aF rfl rfl ?_;refine Yy ?_;refine aF rfl rfl ?_;refine Zz ?_;refine⟨col+1,by omega,by omega,ai ⟨.refl _,.refl _,am (by rw[hnx2,hp1];omega),am (by omega),trivial⟩ ⟨Eq.trans rfl (Ur (fun x=>some (VB 1 42 aO x)) ((Ur Prod.fst (hnx2.trans hp1)).symm)),trivial⟩⟩
  have hb2_:=dF0 hb2;have hrl:¬ s.2<m.length:=by have:=dF0 hb2;omega
  have hfin:=hfull hrl n hI;refine Yy ?_;refine bK rfl (.inr rfl) (a8 rfl) ?_ (dX ?_);exact am (by rw[hfin]);exact Eq.trans rfl (Ur (fun x=>some (VB 1 42 aO x)) (Ur Prod.fst hfin).symm)
 have hg1_:=dF0 hg1;refine Yy ?_;refine bK rfl (.inr rfl) (a8 rfl) ?_ (dX ?_);exact am (by rw[show n=col by omega,hse]);exact Eq.trans rfl (Ur (fun x=>some (VB 1 42 aO x)) (Ur Prod.fst ((Ur (hrA m) (show n=col by omega)).trans hse)).symm)
end
section
open Go Go.AM
attribute [local irreducible] RK Eff AWp
def My:TyI:=⟨.sl 29,1,24,[.v (.slice none 0 0)]⟩
theorem II:TyOK Tryz.prog 42 My:=TyOK.mk' (z:=.slice none 0 0) (by kernel_rfl) Tryz.underlying42 rfl rfl ⟨z_v _ rfl,trivial⟩
def ttn:TT:=fun T=>bif Nat.beq T 42 then some My else tt T
theorem hTn:bM Tryz.prog ttn:=fun T i h=>by
 unfold ttn at h;by_cases e1:T=42
 ·subst e1;cases h;exact II
 have n1:Nat.beq T 42=false:=by
  cases q:Nat.beq T 42 with
  |false=>rfl
  |true=>exact absurd (UT q) e1
 rw[n1]at h;exact hT T i h
theorem Jx(l:List (List Int))(gf:FuncId)(caps:List (List DV))(pd:(List Int)->Bool)(hl:(l.length:Int)<=1000000)(hc:∀ x∈l,ak Tryz.prog gf ([ARw x]++caps.map .ip) (B (pd x))) :
  ak Tryz.prog 142 [.p (.c (SL aO l)),.fn gf caps] (Z (fiX pd l)):=by
 refine aq Tryz.func142 rfl rfl rfl rfl<|Yy ?_;refine aC (ι:=Nat) (fun k=>stL [(0,.p (.c (SL aO l))),(1,.fn gf caps),(7,Z (l.length:Int)),(8,Z (k:Int))] []) (fun k=>k<=l.length∧k<=l.findIdx pd) (fun k=>l.length-k) 0 ⟨Uv _,Uv _⟩ (ai ⟨.refl _,.refl _,.refl _,.refl _,trivial⟩ trivial) ?_;rintro k ⟨hk,hI⟩;refine Yy ?_;refine ah rfl (fun hb1=>?_) (fun hb1=>?_)
 ·have hb1_:=dT0 hb1;refine Yy ?_;refine ae (aL hT aG (by decide) [] (n:=(k:Int)) (l:=l) rfl rfl rfl rfl rfl rfl (by omega)) ?_;refine ae (aM hT rfl rfl rfl (dv:=SL enI (l.getD k [])) rfl) ?_;refine ae (Eff.callC rfl (hc _ (ct [] (show k<l.length by omega))))<|Zz ?_;refine ah rfl (fun hb2=>?_) (fun hb2=>?_)
  ·refine Yy ?_;exact am (zW (d:=[]) hI (by omega) hb2).symm
  refine Yy ?_;refine aF rfl rfl ?_;refine Zz ?_;refine⟨k+1,⟨by omega,Dw (d:=[]) hI (by omega) hb2⟩,by omega,ai ⟨.refl _,.refl _,.refl _,am (by omega),trivial⟩ trivial⟩
 have hb1_:=dF0 hb1;refine Yy ?_;exact am (zX hI (by omega)).symm
theorem yX(l:List (List Int))(gf:FuncId)(caps:List (List DV))(pd:(List Int)->Bool)(hl:(l.length:Int)<=1000000)(hc:∀ x∈l,ak Tryz.prog gf ([ARw x]++caps.map .ip) (B (pd x))) :
  ak Tryz.prog 160 [.p (.c (SL aO l)),.fn gf caps] (B (l.any pd)):=by
 refine aq Tryz.func160 rfl rfl rfl rfl<|Yy ?_;refine ae (ab (Jx l gf caps pd hl hc))<|Yy ?_;exact bn (zY pd l)
theorem yW(l:List Int)(gf:FuncId)(caps:List (List DV))(pd:Int->Bool)(hl:(l.length:Int)<=1000000)(hc:∀ x∈l,ak Tryz.prog gf ([I x]++caps.map .ip) (B (pd x))) :
  ak Tryz.prog 102 [.p (.c (SL enI l)),.fn gf caps] (Z (fiX pd l)):=by
 refine aq Tryz.func102 rfl rfl rfl rfl<|Yy ?_;refine aC (ι:=Nat) (fun k=>stL [(0,.p (.c (SL enI l))),(1,.fn gf caps),(7,Z (l.length:Int)),(8,Z (k:Int))] []) (fun k=>k<=l.length∧k<=l.findIdx pd) (fun k=>l.length-k) 0 ⟨Uv _,Uv _⟩ (ai ⟨.refl _,.refl _,.refl _,.refl _,trivial⟩ trivial) ?_;rintro k ⟨hk,hI⟩;refine Yy ?_;refine ah rfl (fun hb1=>?_) (fun hb1=>?_)
 ·have hb1_:=dT0 hb1;refine Yy ?_;refine ae (aL hT aI (by decide) 0 (n:=(k:Int)) (l:=l) rfl rfl rfl rfl rfl rfl (by omega)) ?_;refine ae (au hT rfl rfl rfl (cs:=enI (l.getD k 0)) rfl rfl) ?_;refine ae (Eff.callC rfl (hc _ (ct 0 (show k<l.length by omega))))<|Zz ?_;refine ah rfl (fun hb2=>?_) (fun hb2=>?_)
  ·refine Yy ?_;exact am (zW (d:=0) hI (by omega) hb2).symm
  refine Yy ?_;refine aF rfl rfl ?_;refine Zz ?_;refine⟨k+1,⟨by omega,Dw (d:=0) hI (by omega) hb2⟩,by omega,ai ⟨.refl _,.refl _,.refl _,am (by omega),trivial⟩ trivial⟩
 have hb1_:=dF0 hb1;refine Yy ?_;exact am (zX hI (by omega)).symm
theorem Jy(l:List Int)(gf:FuncId)(caps:List (List DV))(pd:Int->Bool)(hl:(l.length:Int)<=1000000)(hc:∀ x∈l,ak Tryz.prog gf ([I x]++caps.map .ip) (B (pd x))) :
  ak Tryz.prog 81 [.p (.c (SL enI l)),.fn gf caps] (B (l.any pd)):=by
 refine aq Tryz.func81 rfl rfl rfl rfl<|Yy ?_;refine ae (ab (yW l gf caps pd hl hc))<|Yy ?_;exact bn (zY pd l)
theorem Oz(r:List Int) :
  ak Tryz.prog 161 [ARw r] (B (decide ((r.length:Int)>12))):=by
 refine aq Tryz.func161 rfl rfl rfl rfl<|Yy ?_;exact .refl _
theorem Oy(m:Mx)(r:List Int)(hm:0<m.length)(hr:r.length=(mxr m 0).length)(h0:r.length≠0) :
  ak Tryz.prog 162 [ARw r,.ip [SL aO m]] (B false):=by
 refine aq Tryz.func162 rfl rfl rfl rfl<|Yy ?_;refine an (aw rfl rfl (Ix (by omega))) (aK (rfl:_=AV.p (.c _))) ?_;refine an (aw rfl rfl (Ix (by omega))) (dy hT rfl rfl rfl (by rfl)) ?_;refine an (aw rfl rfl (Ix (by omega))) (aM hT rfl rfl rfl (by first|rfl|exact jP (by omega))) ?_;refine an (aw rfl rfl (Ix (by omega))) (aL hT aG (by decide) [] (n:=(0:Int)) (l:=m) rfl rfl rfl rfl rfl rfl (by omega)) ?_;refine an (aw rfl rfl (Ix (by omega))) (aM hT rfl rfl rfl (dv:=SL enI (mxr m 0)) rfl) ?_;refine an (aw rfl rfl (Ix (by omega))) (dy hT rfl rfl rfl (by rfl)) ?_;refine an (aw rfl rfl (Ix (by omega))) (eZ rfl rfl) ?_;refine ae (bA rfl (Ix (by omega)) (rfl:_=AV.p (.c _)))<|Yy ?_;exact bn (by simp[hr])
theorem kV(m:Mx)(hl:m.length<=12)(hr:∀ r∈m,r.length=(mxr m 0).length∧r.length≠0∧r.length<=12) :
  ak Tryz.prog 96 [AMx m] (Z 0):=by
 have c1:ak Tryz.prog 160 [AMx m,.fn 161 []] (B (m.any fun r=>decide ((r.length:Int)>12))):=yX m 161 [] _ (by omega) (fun r _=>Oz r);have e1:(m.any fun r=>decide ((r.length:Int)>12))=false:=Xn.2 fun r h=>by
  have:=(hr r h).2.2;simp;omega
 have c2:ak Tryz.prog 160 [AMx m,.fn 162 [[SL aO m]]] (B (m.any fun _=>false)):=yX m 162 [[SL aO m]] _ (by omega) (fun r h=>Oy m r (List.length_pos_of_mem h) (hr r h).1 (hr r h).2.1);have e2:(m.any fun _=>false)=false:=Xn.2 fun r h=>by simp
 rw[e1]at c1;rw[e2]at c2;refine aq Tryz.func96 rfl rfl rfl rfl<|Yy ?_;refine an (aw rfl rfl (Ix (by omega))) (bq hT rfl rfl rfl rfl (by first|rfl|exact gD (by omega))) ?_;refine an (aw rfl rfl (Ix (by omega))) (ab (c1.sub ⟨.refl _,ru,trivial⟩)) ?_;refine ae (bA rfl (Ix (by omega)) (rfl:_=AV.p (.c _)))<|Zz ?_;refine aJ rfl rfl<|aT<|bo (t:=1) rfl rfl ?_;refine bi<|aE hP<|Qc hT rfl rfl rfl ?_;refine ae (iJ rfl)<|ae (ab c2)<|Yy ?_;exact .refl _
theorem oE(m:Mx)(hl:m.length<=1000000)(hr:∀ r∈m,r.length<=1000000) :
  CallV Tryz.prog 140 [AMx m] (VB 1 42 aO m):=by
 refine nP Tryz.func140 (by kernel_rfl) rfl rfl (bL0 rfl)<|Yy ?_;refine bD ag (wm hTn rfl rfl rfl rfl rfl rfl (by omega) (by omega) (by show(24:Int)*_<=_;omega))<|Zz ?_;refine dm 7 1000 rfl rfl rfl<|Yy ?_;refine aC (ι:=Nat) (fun k=>stL [(0,AMx m),(3,SB m.length 1000),(9,Z (m.length:Int)),(10,Z (k:Int))] [(1000,⟨false,1,42,fiC m m.length k none⟩)]) (fun k=>k<=m.length) (fun k=>m.length-k) 0 (Uv _) (ai ⟨.refl _,.refl _,.refl _,.refl _,trivial⟩ ⟨Eq.trans rfl (Ur (fun x=>some (⟨false,1,42,x⟩:Blk)) (Ib m)),trivial⟩) ?_;intro k hk;refine Yy ?_;refine ah rfl (fun hb1=>?_) (fun hb1=>?_)
 ·have hb1_:=dT0 hb1;have hkm:k<m.length:=by omega
  have hrk:(mxr m k).length<=1000000:=hr _ (ct [] hkm);refine Yy ?_;refine ae (aL hT aG (by decide) [] (n:=(k:Int)) (l:=m) rfl rfl rfl rfl rfl rfl (by omega)) ?_;refine ae (aM hT rfl rfl rfl (dv:=SL enI (mxr m k)) rfl)<|Zz ?_;refine bD ag (lA hT rfl rfl rfl rfl rfl rfl rfl rfl (by omega)) ?_;refine ae (kQ hT (n:=(k:Int)) rfl rfl rfl rfl rfl rfl rfl rfl (by omega)) ?_;refine aZ ag (jm hT rfl rfl rfl rfl rfl rfl rfl (a6 aI _).symm (VL 1) (z6 hkm) (jZ hkm) (mX hkm))<|Yy ?_;refine ae (kQ hT (n:=(k:Int)) rfl rfl rfl rfl rfl rfl rfl rfl (by omega)) ?_;refine ae (dY hT rfl rfl rfl rfl (jZ hkm) (mX hkm))<|Zz ?_;refine ae (aL hT aG (by decide) [] (n:=(k:Int)) (l:=m) rfl rfl rfl rfl rfl rfl (by omega)) ?_;refine ae (aM hT rfl rfl rfl (dv:=SL enI (mxr m k)) rfl) ?_;refine RK.mut ag (FE hT rfl rfl rfl rfl rfl rfl rfl (by simp))<|Zz ?_;refine Ax 1000 20 k aI rfl (l:=mxr m k) rfl rfl rfl (Ia hkm) (jZ hkm) (mX hkm) ?_;refine bp hP<|aF rfl rfl ?_;refine Zz ?_;refine⟨k+1,by omega,by omega,ai ⟨.refl _,.refl _,.refl _,am (by omega),trivial⟩ ⟨rfl,trivial⟩⟩
 have hb1_:=dF0 hb1;refine aS ?_;have hke:k=m.length:=by omega
 subst hke;rw[zZ];refine Ay 3 1000 1001 m.length rfl rfl rfl (by rw[a6 aG];omega) (by omega) rfl rfl ?_;refine aE hP<|Zz ?_;refine bC ?_;refine⟨.inr rfl,_,_,rfl,rfl,?_⟩;exact rfl
end
section
open Go Go.AM
attribute [local irreducible] RK Eff AWp
theorem nB(m:Mx)(h:hkH m=true) :
  ak Tryz.prog 97 [AMx m] (AMx (bP m)):=by
 obtain⟨h1,h2,h3,h4⟩:=tg h;have hlA:=lf m (mxr m 0).length;have hrA2:=mU m (mxr m 0).length;refine aq Tryz.func97 rfl rfl rfl rfl<|Yy ?_;refine ah rfl (fun hb1=>?_) (fun hb1=>?_)
 ·have hb1_:=bT hb1;have hm0:m.length=0:=by have:=bT hb1;omega
  refine aE hP<|Zz ?_;refine bC<|E1 rfl rfl ?_;rw[OQ hm0];exact fun h r x k=>DSub.nil_sl h x k
 have hb1_:=bF hb1;have hm0:m.length≠0:=by have:=bF hb1;omega
 refine Yy ?_;refine bD ag (Eff.callV (oE m (by omega) (fun r hr=>by have:=lu h3 hr;omega)))<|Yy ?_;refine ae (aL hT aG (by decide) [] (n:=(0:Int)) (l:=m) rfl rfl rfl rfl rfl rfl (by omega)) ?_;refine ae (aM hT rfl rfl rfl (dv:=SL enI (mxr m 0)) rfl)<|Zz ?_;refine RK.mut ag (Eff.call (rd:=[8]) (CallM.ren1 8 (CY m (mxr m 0).length (by omega) (by omega) h4) rfl rfl) (gG rfl) dN) ?_;refine RK.mut ag (Eff.frzT aG rfl 9 8 (l:=(hrA m (mxr m 0).length).1) rfl rfl (fun own=>kP hT rfl rfl rfl rfl (by rfl) rfl ((a6 aG _).trans rfl) ⟨by omega,by omega⟩ (uH aG _ _).symm))<|Yy ?_;exact ao (OR hm0)
theorem Bh(m:Mx)(h:hkH m=true)(h0:∀ r∈m,r.length≠0) :
  ak Tryz.prog 86 [AMx m] (.t [.c (SL aO (bP m)),PE 0]):=by
 obtain⟨h1,h2,h3,h4⟩:=tg h;refine aq Tryz.func86 rfl rfl rfl rfl<|Yy ?_;refine ae (ab (kV m h1 (fun r hr=>⟨lu h3 hr,h0 r hr,by rw[lu h3 hr];exact h2⟩)))<|Yy ?_;refine ae (ab (nB m h))<|Yy ?_;exact .refl _
theorem yk(m:Mx)(hl:m.length<=1000000)(hr:∀ i,i<m.length->(mxr m i).length<=1000000) :
  ak Tryz.prog 98 [AMx m] (B (dgM m)):=by
 refine aq Tryz.func98 rfl rfl rfl rfl<|Yy ?_;refine aC (ι:=Nat) (fun i=>stL [(0,AMx m),(7,AMx m),(8,Z (m.length:Int)),(9,Z (i:Int))] []) (fun i=>i<=m.length∧∀ a,a<i->∀ k,k<(mxr m a).length->a=k∨mxg m a k=0) (fun i=>m.length-i) 0 ⟨Uv _,fun a h=>absurd h (Vz _)⟩ (ai ⟨.refl _,.refl _,.refl _,.refl _,trivial⟩ trivial) ?_;rintro i ⟨hi,hI⟩;refine Yy ?_;refine ah rfl (fun hb1=>?_) (fun hb1=>?_)
 ·have hb1_:=dT0 hb1;have him:i<m.length:=by omega
  have hri:=hr i him;refine Yy ?_;refine ae (aL hT aG (by decide) [] (n:=(i:Int)) (l:=m) rfl rfl rfl rfl rfl rfl (by omega)) ?_;refine ae (aM hT rfl rfl rfl (dv:=SL enI (mxr m i)) rfl)<|Yy ?_;refine aC (ι:=Nat) (fun k=>stL [(0,AMx m),(7,AMx m),(8,Z (m.length:Int)),(9,Z (i:Int)),(3,Z (i:Int)),(14,ARw (mxr m i)),(15,Z ((mxr m i).length:Int)),(16,Z (k:Int))] []) (fun k=>k<=(mxr m i).length∧∀ q,q<k->i=q∨mxg m i q=0) (fun k=>(mxr m i).length-k) 0 ⟨Uv _,fun a h=>absurd h (Vz _)⟩ (ai ⟨.refl _,.refl _,.refl _,.refl _,.refl _,.refl _,.refl _,.refl _,trivial⟩ trivial) ?_;rintro k ⟨hk,hK⟩;refine Yy ?_;refine ah rfl (fun hb2=>?_) (fun hb2=>?_)
  ·have hb2_:=dT0 hb2;refine Yy ?_;refine ae (aL hT aI (by decide) 0 (n:=(k:Int)) (l:=(mxr m i)) rfl rfl rfl rfl rfl rfl (by omega)) ?_;refine ae (au hT rfl rfl rfl (cs:=enI (mxg m i k)) rfl rfl)<|Yy ?_;refine aU (t:=24) rfl (fun hg3=>?_) (fun hg3=>?_)
   ·have hg3_:=cg hg3;refine az hg3 (aN hT rfl rfl rfl rfl (cs:=[_,_]) rfl rfl) ?_;refine az hg3 (ab (bu _)) ?_;refine Zz ?_;refine ah rfl (fun hb4=>?_) (fun hb4=>?_)
    ·have hb4_:=cg hb4;have hgt:=hb4;refine Yy ?_;exact bn (Pm him (by omega) (by omega) (fun e=>hb4_ (sgn_zero_iff.2 e))).symm
    have hb4_:=ci hb4;have hgt:=hb4;refine Yy ?_;refine aF rfl rfl ?_;refine Zz ?_;refine⟨k+1,⟨by omega,fun q hq=>(XK.1 hq).elim (hK q) (fun e=>by subst e;exact .inr (sgn_zero_iff.1 hb4_))⟩,by omega,ai ⟨.refl _,.refl _,.refl _,.refl _,.refl _,.refl _,.refl _,am (by omega),trivial⟩ trivial⟩
   have hg3_:=ci hg3;refine Yy ?_;refine aF rfl rfl ?_;refine Zz ?_;refine⟨k+1,⟨by omega,fun q hq=>(XK.1 hq).elim (hK q) (fun e=>by subst e;exact .inl (by omega))⟩,by omega,ai ⟨.refl _,.refl _,.refl _,.refl _,.refl _,.refl _,.refl _,am (by omega),trivial⟩ trivial⟩
  have hb2_:=dF0 hb2;refine Yy ?_;refine aF rfl rfl ?_;refine Zz ?_;refine⟨i+1,⟨by omega,fun a ha=>(XK.1 ha).elim (hI a) (fun e=>by subst e;exact fun q hq=>hK q (by omega))⟩,by omega,ai ⟨.refl _,.refl _,.refl _,am (by omega),trivial⟩ trivial⟩
 have hb1_:=dF0 hb1;refine Yy ?_;exact bn (Lt (fun a ha=>hI a (by omega))).symm
theorem uW(m:Mx)(w:Nat)(hm:m.length≠0)(hl:m.length<=1000000)(hw:w<=1000000)(hr:∀ i,i<m.length->(mxr m i).length=w) :
  ak Tryz.prog 99 [AMx m] (AMx (trM m)):=by
 have hw0:=hr 0 (by omega);have hTl:(trM m).length=w:=(Jn hm).trans hw0;refine aq Tryz.func99 rfl rfl rfl rfl<|Yy ?_;refine aJ rfl (Ix (by omega))<|Yy ?_;refine ae (aL hT aG (by decide) [] (n:=(0:Int)) (l:=m) rfl rfl rfl rfl rfl rfl (by omega)) ?_;refine ae (aM hT rfl rfl rfl (dv:=SL enI (mxr m 0)) rfl)<|Zz ?_;refine bD ag (wm hTn rfl rfl rfl rfl rfl rfl (by omega) (by omega) (by show(24:Int)*_<=_;omega))<|Zz ?_;refine dm 13 1000 rfl rfl rfl<|Yy ?_;refine ae (Fz hT rfl rfl rfl)<|Yy ?_;refine aC (ι:=Nat) (fun k=>stL [(0,AMx m),(3,SB (trM m).length 1000),(15,Z ((trM m).length:Int)),(16,Z (k:Int))] [(1000,⟨false,1,42,fiC (trM m) (trM m).length k none⟩)]) (fun k=>k<=(trM m).length) (fun k=>(trM m).length-k) 0 (Uv _) (ai ⟨.refl _,ao (Ur (fun x=>SB x 1000) (show(((mxr m 0).length:Nat):Int).toNat=_ from (Vq _).trans (hw0.trans hTl.symm))),am (by omega),.refl _,trivial⟩ ⟨Eq.trans rfl (Ur (fun x=>some (⟨false,1,42,x⟩:Blk)) ((Ur (fun q:Nat=>reps ((q:Nat):Int).toNat [qP]) (hw0.trans hTl.symm)).trans (Ib (trM m)))),trivial⟩) ?_;intro k hk;refine Yy ?_;refine ah rfl (fun hb1=>?_) (fun hb1=>?_)
 ·have hb1_:=dT0 hb1;have hkT:k<(trM m).length:=by omega
  refine aT<|bi<|aR<|aE hP<|Zz ?_;refine aE hP<|Zz ?_;refine aR<|Mk 1000 1001 k 2 29 rfl rfl rfl rfl (Lo hkT) (z6 hkT) (jZ hkT) ?_;refine aC (ι:=Nat) (fun i=>stL [(0,AMx m),(3,SB (trM m).length 1000),(15,Z ((trM m).length:Int)),(16,Z (k:Int)),(4,Z (k:Int)),(20,Z (m.length:Int)),(21,Z (i:Int))] [(1000,⟨false,1003,42,fiC (trM m) (trM m).length k (some .any)⟩),(1001,VB 2 29 enI (km (m.take i) k))]) (fun i=>i<=m.length) (fun i=>m.length-i) 0 (Uv _) (ai ⟨.refl _,.refl _,.refl _,.refl _,.refl _,.refl _,.refl _,trivial⟩ ⟨rfl,rfl,trivial⟩) ?_;intro i hi;refine Yy ?_;refine ah rfl (fun hb2=>?_) (fun hb2=>?_)
  ·have hb2_:=dT0 hb2;have him:i<m.length:=by omega
   have hri:=hr i him;refine Yy ?_;refine ae (kQ hT (n:=(k:Int)) rfl rfl rfl rfl rfl rfl rfl rfl (by omega)) ?_;refine ae (dY hT rfl rfl rfl rfl (jZ hkT) (mX hkT))<|Zz ?_;refine ae (aL hT aG (by decide) [] (n:=(i:Int)) (l:=m) rfl rfl rfl rfl rfl rfl (by omega)) ?_;refine ae (aM hT rfl rfl rfl (dv:=SL enI (mxr m i)) rfl)<|Zz ?_;refine ae (aL hT aI (by decide) 0 (n:=(k:Int)) (l:=(mxr m i)) rfl rfl rfl rfl rfl rfl (by omega)) ?_;refine ae (au hT rfl rfl rfl (cs:=enI (mxg m i k)) rfl rfl)<|Zz ?_;refine RK.app ag (ep (encD:=enI) hT aI (by decide) rfl rfl rfl rfl rfl rfl rfl (b:=mxg m i k) rfl (by rw[DK,Us];omega) (by decide) (by decide)) ?_;refine ae (kQ hT (n:=(k:Int)) rfl rfl rfl rfl rfl rfl rfl rfl (by omega)) ?_;refine aZ ag (jm hT rfl rfl rfl rfl rfl rfl rfl (a6 aI _).symm (VL 1) (GC hkT) (jZ hkT) (mX hkT))<|Zz ?_;refine Az 1000 38 1001 rfl rfl rfl rfl rfl rfl rfl ?_;refine bp hP<|aF rfl rfl ?_;refine Zz ?_;refine⟨i+1,by omega,by omega,ai ⟨.refl _,.refl _,.refl _,.refl _,.refl _,.refl _,am (by omega),trivial⟩ ⟨rfl,Eq.trans rfl (Ur (fun x=>some (VB 2 29 enI x)) (LA him).symm),trivial⟩⟩
  have hb2_:=dF0 hb2;have hie:i=m.length:=by omega
  subst hie;rw[Vm];refine aS<|Ax 1000 1001 k aI rfl (l:=km m k) rfl rfl rfl ((Ur (fun x=>List.set _ k (SL enI x)) (Jm (m:=m) (k:=k) hm (by omega)).symm).trans (Ia hkT)) (jZ hkT) (mX hkT) ?_;refine bp hP<|aF rfl rfl ?_;refine Zz ?_;refine⟨k+1,by omega,by omega,ai ⟨.refl _,.refl _,.refl _,am (by omega),trivial⟩ ⟨rfl,trivial⟩⟩
 have hb1_:=dF0 hb1;refine aS ?_;have hke:k=(trM m).length:=by omega
 subst hke;rw[zZ];refine Ay 3 1000 1001 (trM m).length rfl rfl rfl (by rw[a6 aG];omega) (by omega) rfl rfl ?_;refine eF (encD:=aO) aG rfl (t:=3) rfl rfl ?_;refine Yy ?_;exact .refl _
end
section
open Go Go.AM
attribute [local irreducible] RK Eff AWp
theorem FU(m:Mx)(h:hkH m=true)(h0:∀ r∈m,r.length≠0)(d:List Int)(hd:smD m=some d) :
  ak Tryz.prog 32 [AMx m] (.t [.c (SL enI d),PE 0]):=by
 obtain⟨h1,h2,h3,h4⟩:=tg h;obtain⟨q,hq,hg,hdd⟩:=Jt hd;refine aq Tryz.func32 rfl rfl rfl rfl<|Yy ?_;refine ae (ab (kV m h1 (fun r hr=>⟨lu h3 hr,h0 r hr,by rw[lu h3 hr];exact h2⟩)))<|Yy ?_;refine ae (ab (nB m h))<|Yy ?_;refine aC (ι:=Nat×Mx) (fun y=>stL [(5,AMx y.2)] []) (fun y=>smH y.1 y.2=some q) (fun y=>y.1) (9,bP m) hq (ai ⟨.refl _,trivial⟩ trivial) ?_;intro y hy;obtain⟨n,hyn,hs0,hn1,hn2⟩:=Qz hy;have hs:=FH hs0;refine Yy ?_;refine ae (ab (yk y.2 (by omega) (fun i hi=>by have:=(cE hs.2.2.2 hi).1;omega)))<|Zz ?_;refine ah rfl (fun hb1=>?_) (fun hb1=>?_)
 ·have hb1_:=(dV hb1)
  have hno:=hn2 (dV hb1);refine Yy ?_;refine ae (ab (uW y.2 (mxr y.2 0).length hno.1 (by omega) (by omega) (fun i hi=>(cE hs.2.2.2 hi).1))) ?_;refine ae (ab (nB (trM y.2) hno.2.1))<|Zz ?_;refine⟨(n,bP (trM y.2)),hno.2.2,by show n<y.1;omega,ai ⟨.refl _,trivial⟩ trivial⟩
 have hb1_:=(dI hb1)
 have hye:=hn1 (dI hb1);rw[<- hye]at hs ⊢;have hDl:=Lu q;refine aS<|aE hP<|Zz ?_;refine bi<|aE hP<|Zz ?_;refine aR<|fv 6 1000 2 29 rfl rfl ?_;refine aC (ι:=Nat) (fun i=>stL [(5,AMx q),(6,.vec 1000),(25,Z (q.length:Int)),(26,Z (i:Int))] [(1000,VB 2 29 enI ((dgL q).take i))]) (fun i=>i<=q.length) (fun i=>q.length-i) 0 (Uv _) (ai ⟨.refl _,.refl _,.refl _,.refl _,trivial⟩ ⟨rfl,trivial⟩) ?_;intro i hIq;refine Yy ?_;refine ah rfl (fun hb2=>?_) (fun hb2=>?_)
 ·have hb2_:=dT0 hb2;have hiq:i<q.length:=by omega
  have hrq:=(cE hs.2.2.2 hiq).1;refine Yy ?_;refine ae (aL hT aG (by decide) [] (n:=(i:Int)) (l:=q) rfl rfl rfl rfl rfl rfl (by omega)) ?_;refine ae (aM hT rfl rfl rfl (dv:=SL enI (mxr q i)) rfl)<|Zz ?_;refine ae (aL hT aI (by decide) 0 (n:=(i:Int)) (l:=(mxr q i)) rfl rfl rfl rfl rfl rfl (by omega)) ?_;refine ae (au hT rfl rfl rfl (cs:=enI (mxg q i i)) rfl rfl)<|Zz ?_;refine RK.app ag (ep (encD:=enI) hT aI (by decide) rfl rfl rfl rfl rfl rfl rfl (b:=mxg q i i) rfl (by rw[Us];omega) (by decide) (by decide))<|Zz ?_;refine dm 38 1000 rfl rfl rfl ?_;refine bp hP<|aF rfl rfl ?_;refine Zz ?_;refine⟨i+1,by omega,by omega,ai ⟨.refl _,.refl _,.refl _,am (by omega),trivial⟩ ⟨Eq.trans rfl (Ur (fun x=>some (VB 2 29 enI x)) ((Sd q i hiq).symm)),trivial⟩⟩
 have hb2_:=dF0 hb2;have hiq:i=q.length:=by omega
 subst hiq;rw[<- hDl,Vm];have hD12:(dgL q).length<=12:=by have:=hs.1;omega
 generalize dgL q=D at hg hdd hD12 ⊢;clear hDl hs;refine Yy ?_;refine ae (b7 hT aI rfl rfl rfl rfl rfl)<|Yy ?_;refine aC (ι:=Nat) (fun i=>stL [(6,.vec 1000),(41,Z (D.length:Int)),(42,Z (i:Int))] [(1000,VB 2 29 enI (gcA D i))]) (fun i=>i<=D.length) (fun i=>D.length-i) 0 (Uv _) (ai ⟨.refl _,.refl _,.refl _,trivial⟩ ⟨rfl,trivial⟩) ?_;intro i hiI;refine Yy ?_;refine ah rfl (fun hb3=>?_) (fun hb3=>?_)
 ·have hb3_:=dT0 hb3;have hiD:i<D.length:=by omega
  have hAl:=zS D i;have hIl:=tm i (gcA D i);refine Yy ?_;refine aF rfl rfl ?_;refine Yy ?_;refine aC (ι:=Nat) (fun j=>stL [(6,.vec 1000),(41,Z (D.length:Int)),(42,Z (i:Int)),(8,Z (i:Int)),(9,Z ((i+1+j:Nat):Int))] [(1000,VB 2 29 enI (gcI i (gcA D i) j))]) (fun j=>j<=D.length-(i+1)) (fun j=>D.length-j) 0 (Uv _) (ai ⟨.refl _,.refl _,.refl _,.refl _,am (by omega),trivial⟩ ⟨rfl,trivial⟩) ?_;intro j hjI;refine Yy ?_;refine ae (b7 hT aI rfl rfl rfl rfl rfl)<|Zz ?_;refine ah rfl (fun hb4=>?_) (fun hb4=>?_)
  ·have hb4_:=dT0 hb4;have hjD:i+1+j<D.length:=by have:=hIl j;omega
   have hok:=J8 hg hiD (j:=j) (by omega);have hS:gcI i (gcA D i) (j+1)=gcS (gcI i (gcA D i) j) i (i+1+j):=rfl;have hl:=(hIl j).trans hAl;generalize gcI i (gcA D i) j=G at hok hS hl ⊢;have hgc:=TM (hok.1) hok.2 (i+1+j);have hgc3:=Lq (mJ hok.1 i) (y:=((Int.gcd (G.getD i 0) (G.getD (i+1+j) 0):Nat):Int));refine Yy ?_;refine ae (av hT aI (n:=i) (l:=G) rfl rfl rfl rfl (by rfl) rfl rfl rfl (by omega)) ?_;refine ae (cU hT aI 0 (n:=i) (l:=G) rfl rfl rfl rfl rfl (by omega))<|Zz ?_;refine ae (av hT aI (n:=(i+1+j)) (l:=G) rfl rfl rfl rfl (by rfl) rfl rfl rfl (by omega)) ?_;refine ae (cU hT aI 0 (n:=(i+1+j)) (l:=G) rfl rfl rfl rfl rfl (by omega)) ?_;refine ae (ab (pS _ _ (vk (mJ hok.1 i)) (vk (mJ hok.1 (i+1+j)))))<|Yy ?_;refine ae (av hT aI (n:=i) (l:=G) rfl rfl rfl rfl (by rfl) rfl rfl rfl (by omega)) ?_;refine ae (cU hT aI 0 (n:=i) (l:=G) rfl rfl rfl rfl rfl (by omega))<|Zz ?_;refine ae (ab (nC _ _ (vk (mJ hok.1 i)) (vk hgc.1) hgc.2))<|Zz ?_;refine ae (av hT aI (n:=(i+1+j)) (l:=G) rfl rfl rfl rfl (by rfl) rfl rfl rfl (by omega)) ?_;refine ae (cU hT aI 0 (n:=(i+1+j)) (l:=G) rfl rfl rfl rfl rfl (by omega)) ?_;refine ae (ab (bS _ _ (Iu hgc3) (Iu (mJ hok.1 (i+1+j))))) ?_;refine ae (av hT aI (n:=i) (l:=G) rfl rfl rfl rfl (by rfl) rfl rfl rfl (by omega)) ?_;refine aZ ag (jj hT (k:=_) (l:=_) rfl rfl rfl rfl rfl (by first|omega|(rw[UL];omega))) ?_;refine ae (av hT aI (n:=(i+1+j)) (l:=_) rfl rfl rfl rfl (by rfl) rfl rfl rfl (by rw[UL];omega)) ?_;refine aZ ag (jj hT (k:=_) (l:=_) rfl rfl rfl rfl rfl (by first|omega|(rw[UL];omega)))<|Yy ?_;refine aF rfl rfl ?_;refine Zz ?_;refine⟨j+1,by omega,by omega,ai ⟨.refl _,.refl _,.refl _,.refl _,am (by omega),trivial⟩ ⟨Eq.trans rfl (Ur (fun x=>some (VB 2 29 enI x)) (hS.symm)),trivial⟩⟩
  have hb4_:=dF0 hb4;have hje:j=D.length-(i+1):=by have:=hIl j;omega
  subst hje;refine Yy ?_;refine aF rfl rfl ?_;refine Zz ?_;refine⟨i+1,by omega,by omega,ai ⟨.refl _,.refl _,am (by omega),trivial⟩ ⟨rfl,trivial⟩⟩
 have hb3_:=dF0 hb3;refine aS ?_;have hie:i=D.length:=by omega
 subst hie;rw[hdd];refine eF (encD:=enI) aI rfl (t:=6) rfl rfl ?_;refine Yy ?_;exact .refl _
end
section
open Go Go.AM
attribute [local irreducible] RK Eff AWp
def qw:Go.Shelf.Ren:=⟨fun|156=>77|165=>136|166=>137|169=>138|240=>193|241=>194|276=>223|277=>224|n=>n,fun|31=>127|9=>9|3=>3|4=>4|0=>0|20=>20|72=>193|76=>197|70=>190|37=>191|75=>196|127=>239|164=>260|5=>5|80=>199|n=>n,fun|n=>n⟩
theorem KJ:Go.Proofs.Lays.n156 Tryz.prog qw:={
 mixed:=by kernel_rfl
 f156:=Tryz.func77.trans (Ur some (by kernel_rfl))
 f165:=Tryz.func136.trans (Ur some (by kernel_rfl))
 f166:=Tryz.func137.trans (Ur some (by kernel_rfl))
 f169:=Tryz.func138.trans (Ur some (by kernel_rfl))
 f240:=Tryz.func193.trans (Ur some (by kernel_rfl))
 f241:=Tryz.func194.trans (Ur some (by kernel_rfl))
 f276:=Tryz.func223.trans (Ur some (by kernel_rfl))
 f277:=Tryz.func224.trans (Ur some (by kernel_rfl))
 t0:=Tryz.underlying0
 a0:=Tryz.isAgg0
 z0:=Tryz.sizeOf0
 v0:=Tryz.zeroValue0
 t3:=Tryz.underlying3
 a3:=Tryz.isAgg3
 z3:=Tryz.sizeOf3
 v3:=Tryz.zeroValue3
 t4:=Tryz.underlying4
 a4:=Tryz.isAgg4
 z4:=Tryz.sizeOf4
 v4:=Tryz.zeroValue4
 t9:=Tryz.underlying9
 a9:=Tryz.isAgg9
 z9:=Tryz.sizeOf9
 v9:=Tryz.zeroValue9
 t20:=Tryz.underlying20
 a20:=Tryz.isAgg20
 z20:=Tryz.sizeOf20
 v20:=Tryz.zeroValue20
 t31:=Tryz.underlying127
 a31:=Tryz.isAgg127
 z31:=Tryz.sizeOf127
 v31:=Tryz.zeroValue127
 t37:=Tryz.underlying191
 a37:=Tryz.isAgg191
 z37:=Tryz.sizeOf191
 v37:=Tryz.zeroValue191
 t70:=Tryz.underlying190
 a70:=Tryz.isAgg190
 z70:=Tryz.sizeOf190
 v70:=Tryz.zeroValue190
 t72:=Tryz.underlying193
 a72:=Tryz.isAgg193
 z72:=Tryz.sizeOf193
 v72:=Tryz.zeroValue193
 t75:=Tryz.underlying196
 a75:=Tryz.isAgg196
 z75:=Tryz.sizeOf196
 v75:=Tryz.zeroValue196
 t76:=Tryz.underlying197
 a76:=Tryz.isAgg197
 z76:=Tryz.sizeOf197
 v76:=Tryz.zeroValue197
 t127:=Tryz.underlying239
 a127:=Tryz.isAgg239
 z127:=Tryz.sizeOf239
 v127:=Tryz.zeroValue239
 t164:=Tryz.underlying260
 a164:=Tryz.isAgg260
 z164:=Tryz.sizeOf260
 v164:=Tryz.zeroValue260 }
def yl:Go.Shelf.Ren:=⟨fun|171=>133|243=>189|246=>219|283=>235|284=>236|285=>237|286=>238|129=>177|317=>250|318=>251|319=>252|320=>253|337=>257|338=>258|n=>n,fun|3=>3|9=>9|2=>2|4=>4|171=>276|0=>0|53=>58|37=>191|5=>5|173=>278|212=>289|51=>60|20=>20|213=>290|46=>61|232=>294|233=>295|n=>n,fun|17=>3|18=>4|19=>5|n=>n⟩
theorem KL:Go.Proofs.LaysM.n171 Tryz.prog yl:={
 mixed:=by kernel_rfl
 f129:=Tryz.func177.trans (Ur some (by kernel_rfl))
 f171:=Tryz.func133.trans (Ur some (by kernel_rfl))
 f243:=Tryz.func189.trans (Ur some (by kernel_rfl))
 f246:=Tryz.func219.trans (Ur some (by kernel_rfl))
 f283:=Tryz.func235.trans (Ur some (by kernel_rfl))
 f284:=Tryz.func236.trans (Ur some (by kernel_rfl))
 f285:=Tryz.func237.trans (Ur some (by kernel_rfl))
 f286:=Tryz.func238.trans (Ur some (by kernel_rfl))
 f317:=Tryz.func250.trans (Ur some (by kernel_rfl))
 f318:=Tryz.func251.trans (Ur some (by kernel_rfl))
 f319:=Tryz.func252.trans (Ur some (by kernel_rfl))
 f320:=Tryz.func253.trans (Ur some (by kernel_rfl))
 f337:=Tryz.func257.trans (Ur some (by kernel_rfl))
 f338:=Tryz.func258.trans (Ur some (by kernel_rfl))
 t0:=Tryz.underlying0
 a0:=Tryz.isAgg0
 z0:=Tryz.sizeOf0
 v0:=Tryz.zeroValue0
 t2:=Tryz.underlying2
 a2:=Tryz.isAgg2
 z2:=Tryz.sizeOf2
 v2:=Tryz.zeroValue2
 t3:=Tryz.underlying3
 a3:=Tryz.isAgg3
 z3:=Tryz.sizeOf3
 v3:=Tryz.zeroValue3
 t4:=Tryz.underlying4
 a4:=Tryz.isAgg4
 z4:=Tryz.sizeOf4
 v4:=Tryz.zeroValue4
 t5:=Tryz.underlying5
 a5:=Tryz.isAgg5
 z5:=Tryz.sizeOf5
 v5:=Tryz.zeroValue5
 t9:=Tryz.underlying9
 a9:=Tryz.isAgg9
 z9:=Tryz.sizeOf9
 v9:=Tryz.zeroValue9
 t20:=Tryz.underlying20
 a20:=Tryz.isAgg20
 z20:=Tryz.sizeOf20
 v20:=Tryz.zeroValue20
 t37:=Tryz.underlying191
 a37:=Tryz.isAgg191
 z37:=Tryz.sizeOf191
 v37:=Tryz.zeroValue191
 t46:=Tryz.underlying61
 a46:=Tryz.isAgg61
 z46:=Tryz.sizeOf61
 v46:=Tryz.zeroValue61
 t51:=Tryz.underlying60
 a51:=Tryz.isAgg60
 z51:=Tryz.sizeOf60
 v51:=Tryz.zeroValue60
 t53:=Tryz.underlying58
 a53:=Tryz.isAgg58
 z53:=Tryz.sizeOf58
 v53:=Tryz.zeroValue58
 t171:=Tryz.underlying276
 a171:=Tryz.isAgg276
 z171:=Tryz.sizeOf276
 v171:=Tryz.zeroValue276
 t173:=Tryz.underlying278
 a173:=Tryz.isAgg278
 z173:=Tryz.sizeOf278
 v173:=Tryz.zeroValue278
 t212:=Tryz.underlying289
 a212:=Tryz.isAgg289
 z212:=Tryz.sizeOf289
 v212:=Tryz.zeroValue289
 t213:=Tryz.underlying290
 a213:=Tryz.isAgg290
 z213:=Tryz.sizeOf290
 t232:=Tryz.underlying294
 a232:=Tryz.isAgg294
 z232:=Tryz.sizeOf294
 v232:=Tryz.zeroValue294
 t233:=Tryz.underlying295
 a233:=Tryz.isAgg295
 z233:=Tryz.sizeOf295
 v233:=Tryz.zeroValue295
 g17:=by kernel_rfl
 g18:=by kernel_rfl
 g19:=by kernel_rfl
 i0:=by kernel_rfl
 i2:=by kernel_rfl
 i3:=by kernel_rfl
 i4:=by kernel_rfl
 i5:=by kernel_rfl
 i9:=by kernel_rfl
 i20:=by kernel_rfl
 i37:=by kernel_rfl
 i46:=by kernel_rfl
 i51:=by kernel_rfl
 i53:=by kernel_rfl
 i171:=by kernel_rfl
 i173:=by kernel_rfl
 i212:=by kernel_rfl
 i232:=by kernel_rfl
 i233:=by kernel_rfl
 m17:=by kernel_rfl
 m18:=by kernel_rfl
 m19:=by kernel_rfl }
theorem F0:Builder.Extra Tryz.prog qw where
 sizeBuilder:=by kernel_rfl
 liesBuilder:=by kernel_rfl
 t5:=Tryz.underlying5
 a5:=Tryz.isAgg5
 z5:=Tryz.sizeOf5
 v5:=Tryz.zeroValue5
 infoByte:=by kernel_rfl
 cellsByte:=by kernel_rfl
 sizeByte:=by kernel_rfl
 neB5:=by decide
theorem sJ(l:List Str)(sep:Str)(hne:l≠[])(hlen:(Lib.join l sep).length<=1000000):ak Tryz.prog 77 [.p (.c (SL eB l)),iD sep] (iD (Lib.join l sep)) :=
 Db KJ F0 rfl ⟨_,Tryz.func77,by kernel_rfl,by kernel_rfl⟩ l sep hne hlen
theorem Jq(n:Int)(h:aH n):ak Tryz.prog 133 [Z n] (iD (Lib.itoa n)) :=
 De KL rfl ⟨_,Tryz.func133,by kernel_rfl,by kernel_rfl⟩ (g:=3) (by kernel_rfl) (by rw[Cu];exact .tail _ (.head _)) n h
theorem fa(a q:Int)(ha:L 40 a)(hq:1<=q∧q<=1000000) :
  ak Tryz.prog 152 [I a,Z q] (Z (a%q)):=by
 have jq:aH q:=by unfold aH;omega
 have ia:LB a 40:=⟨ha⟩
 have iq:LB q 6:=⟨by unfold L;omega⟩
 have hm0:=UF a (show q≠0 by omega);have hm1:=UK a (show 0<q by omega);refine aq Tryz.func152 rfl rfl rfl rfl<|Yy ?_;refine ae (ab (bL q jq)) ?_;refine ae (ab (bG a q lz lz (by omega)))<|Yy ?_;refine ae (ab (gU _ (by omega) (by omega)))<|Yy ?_;exact .refl _
theorem Bq(a q:Int)(ha:0<=a∧a<=1000000)(hq:1<=q∧q<=1000000) :
  ak Tryz.prog 153 [Z a,Z q] (Z (bzU a q)):=by
 have ja:aH a:=by unfold aH;omega
 have jq:aH q:=by unfold aH;omega
 have hb:=nQ (a:=a) (b:=q) (by omega);refine aq Tryz.func153 rfl rfl rfl rfl<|Yy ?_;refine ae (ab (bL a ja))<|Zz ?_;refine ae (ab (bL q jq)) ?_;refine ae (ab (kW a q ((show L 5 a by unfold L;omega).mono (by decide)) ((show L 5 q by unfold L;omega).mono (by decide))))<|Yy ?_;refine ae (ab (gU _ (by omega) (by omega)))<|Yy ?_;exact .refl _
theorem xa(d:Int)(hd:-4194304<=d∧d<0)(h4:d%4=0∨d%4=1) :
  ak Tryz.prog 20 [I d] (Z 0):=by
 have id0:LB d 6:=⟨by unfold L;omega⟩
 have hm0:=UF d (show(4:Int)≠0 by omega);have hs:¬ sgn d ≥ 0:=fun e=>by have:=sgn_ge_iff.1 e;omega
 have hc:¬ aX (d%4) 1>0:=fun e=>by have:=cmpI_gt_zero.1 e;omega
 have hb:¬ aX d (-4194304)<0:=fun e=>by have:=cmpI_lt_zero.1 e;omega
 refine aq Tryz.func20 rfl rfl rfl rfl<|Yy ?_;refine ae (ab (kB d lz))<|Yy ?_;refine ae (ab (bL 4 (by unfold aH;decide))) ?_;refine ae (ab (bG d 4 lz lz (by decide)))<|Yy ?_;refine ae (ab (bu _))<|Zz ?_;refine an (aw rfl rfl (Ix hs)) (aN hT rfl rfl rfl rfl (cs:=[_,_]) rfl rfl) ?_;refine an (aw rfl rfl (Ix hs)) (ab (bL 1 (by unfold aH;decide))) ?_;refine an (aw rfl rfl (Ix hs)) (ab (cL _ _)) ?_;refine an (aw rfl rfl (Ix hs)) (iL rfl rfl) ?_;refine ae (bA rfl (Ix hs) (rfl:_=AV.p (.c _)))<|Zz ?_;refine aJ rfl (Ix hc)<|Yy ?_;refine ae (ab (bL (-4194304) (by unfold aH;decide))) ?_;refine ae (ab (cL _ _))<|Zz ?_;refine aJ rfl (Ix hb)<|Yy ?_;exact .refl _
theorem Jw(s:Str) :
  CallM Tryz.prog 135 [.vec 0] (upd O 0 (some (VB 1 9 eB ([s]:List Str)))) (.t []) (upd O 0 (some (VB 1 9 eB ([s]:List Str)))):=by
 refine dk (np:=1) Tryz.func135 (by kernel_rfl) rfl rfl (bL0 rfl) eJ ff rfl<|Yy ?_;refine ae (b7 hT dG rfl rfl rfl rfl rfl) ?_;refine ae (aY rfl rfl (by first|exact iW0 _ (by omega)|rfl))<|Zz ?_;refine aR<|bX 1<|Yy ?_;refine ju rfl (.inl rfl)  ?_ (dX ?_);exact .refl _;exact rfl
theorem Jv(s t:Str) :
  CallM Tryz.prog 135 [.vec 0] (upd O 0 (some (VB 1 9 eB ([s,t]:List Str)))) (.t []) (upd O 0 (some (VB 1 9 eB ([t,s]:List Str)))):=by
 refine dk (np:=1) Tryz.func135 (by kernel_rfl) rfl rfl (bL0 rfl) eJ ff rfl<|Yy ?_;refine ae (b7 hT dG rfl rfl rfl rfl rfl) ?_;refine ae (aY rfl rfl (by first|exact iW0 _ (by omega)|rfl))<|Zz ?_;refine aR<|bX 2 ?_;refine bi<|aE hP<|jd rfl<|jd rfl<|ae (ed rfl rfl)<|rm<|bH rfl (by show decide ((0:Int)<IntKind.i64.wrap 1)=true;decide)<|Yy ?_;refine ae (av hT dG (n:=1) (l:=_) rfl rfl rfl rfl (by rfl) rfl rfl rfl (bL0 rfl)) ?_;refine ae (bq hT rfl rfl rfl rfl rfl)<|Zz ?_;refine ae (av hT dG (n:=0) (l:=_) rfl rfl rfl rfl (by rfl) rfl rfl rfl (bL0 rfl)) ?_;refine ae (bq hT rfl rfl rfl rfl rfl)<|ae (av hT dG (n:=0) (l:=_) rfl rfl rfl rfl (by rfl) rfl rfl rfl (bL0 rfl)) ?_;refine aZ ag (fB hT rfl rfl rfl rfl rfl (bL0 rfl) rfl) ?_;refine ae (av hT dG (n:=1) (l:=([t,t]:List Str)) rfl rfl rfl rfl (by rfl) rfl rfl rfl (bL0 rfl)) ?_;refine aZ ag (fB hT rfl rfl rfl rfl rfl (bL0 rfl) rfl)<|Yy ?_;refine aF rfl rfl ?_;refine Zz ?_;refine ae (aY rfl rfl (by first|exact iW0 _ (by omega)|rfl)) ?_;refine sA rfl<|sA rfl<|rm<|bi<|aE hP<|jd rfl<|jd rfl<|ae (ed rfl rfl)<|rm<|aJ rfl (by show decide (IntKind.i64.wrap 1<IntKind.i64.wrap (IntKind.i64.wrap 1-1))=false;decide) ?_;refine aS ?_;refine ju rfl (.inl rfl)  ?_ (dX ?_);exact .refl _;exact rfl
theorem Dh  :
  ak Tryz.prog 76 [I 0] (.t [.c (stD (Lib.itoa 0)),PE 0]):=by
 refine aq Tryz.func76 rfl rfl rfl rfl ?_;refine aE hP<|Zz ?_;refine bi<|aE hP<|Zz ?_;refine bH rfl rfl<|aE hP<|Zz ?_;refine bC<|E11 rfl rfl rfl ?_;rw[show Lib.itoa 0=[48] by rw[Lib.itoa,G2 (by decide)];exact Lib.decDigits_one (by decide)];exact .refl _
theorem Dg(z:Int)(hz:-1000000000<z∧z<1000000000)(h0:z≠0) :
  ak Tryz.prog 76 [I z] (.t [.c (stD (Lib.itoa z)),PE 0]):=by
 have hwl:wl z.natAbs=[z.natAbs]:=by
  rw[n6 (m:=z.natAbs) (by omega),V0 (by omega),W8 (by omega)];rfl
 have hl0:0<(wl z.natAbs).length:=by rw[hwl];simp
 have hl1:(wl z.natAbs).length<=1:=by rw[hwl];simp
 have jn:aH (z.natAbs:Int):=by unfold aH;omega
 have hlen:=lF hz;have hln2:=lF (z:=(z.natAbs:Int)) (by omega);have cDW:ak Tryz.prog 107 [.p (.c (W (wl z.natAbs))),.p (.c (w32 1000000000))] (.t [.c (W []),.c (w32 z.natAbs)]):=by
  have h:=qt (wl z.natAbs) 1000000000 (bI _) (by omega) (by decide) (by decide)
  rwa [bE,W8 (by omega),V0 (by omega)]at h
 have cI:=Jq (z.natAbs:Int) jn;have cJ1:¬ z<0->ak Tryz.prog 77 [.p (.c (SL eB [Lib.itoa (z.natAbs:Int)])),iD []] (iD (Lib.itoa z)):=fun h=>by
  have hj:=sJ [Lib.itoa (z.natAbs:Int)] [] (by simp) (by rw[Lib.join_one];omega)
  rwa [F6 h]at hj
 have cJ2:z<0->ak Tryz.prog 77 [.p (.c (SL eB [[45],Lib.itoa (z.natAbs:Int)])),iD []] (iD (Lib.itoa z)):=fun h=>by
  have hj:=sJ [[45],Lib.itoa (z.natAbs:Int)] [] (by simp) (by rw[wQ h];omega)
  rwa [wQ h]at hj
 generalize Lib.itoa (z.natAbs:Int)=s0 at *;generalize Lib.itoa z=s1 at *;refine aq Tryz.func76 rfl rfl rfl rfl<|Yy ?_;refine aJ rfl (Ix (by omega))<|Yy ?_;refine aJ rfl (Ix (by omega)) ?_;refine aT<|aE hP<|Zz ?_;refine fv 4 1000 1 9 rfl rfl ?_;refine bi<|aE hP<|Zz ?_;refine aR<|bX 2<|Yy ?_;refine bH rfl (G6 (by omega))<|Yy ?_;refine ae (ab cDW)<|Yy ?_;refine ae (aQ hT rfl rfl rfl rfl (c:=(z.natAbs:Int)) (iW0 _ (by omega))) ?_;refine ae (ab cI)<|Yy ?_;refine RK.app ag (ep (encD:=eB) hT dG (by decide) (l:=([]:List Str)) rfl rfl rfl rfl rfl rfl rfl (b:=s0) rfl (bL0 rfl) (by decide) (by decide))<|Yy ?_;refine ah rfl (fun hb1=>?_) (fun hb1=>?_)
 ·refine Yy ?_;refine RK.app ag (ep (encD:=eB) hT dG (by decide) (l:=([s0]:List Str)) rfl rfl rfl rfl rfl rfl rfl (b:=[45]) rfl (bL0 rfl) (by decide) (by decide))<|Yy ?_;refine RK.mut ag (Eff.call (rd:=[49]) (CallM.ren1 49 (Jv s0 [45]) rfl rfl) (gG rfl) dN)<|Zz ?_;refine eF (encD:=eB) dG rfl (t:=4) rfl rfl ?_;refine Yy ?_;refine ae (ab (cJ2 (dT0 hb1)))<|Yy ?_;refine ae (zl hT rfl rfl rfl rfl)<|Zz ?_;refine aJ rfl (Ix (by omega))<|Yy ?_;exact .refl _
 refine Yy ?_;refine RK.mut ag (Eff.call (rd:=[43]) (CallM.ren1 43 (Jw s0) rfl rfl) (gG rfl) dN)<|Zz ?_;refine eF (encD:=eB) dG rfl (t:=4) rfl rfl ?_;refine Yy ?_;refine ae (ab (cJ1 (dF0 hb1)))<|Yy ?_;refine ae (zl hT rfl rfl rfl rfl)<|Zz ?_;refine aJ rfl (Ix (by omega))<|Yy ?_;exact .refl _
theorem qW(z:Int)(hz:-1000000000<z∧z<1000000000):ak Tryz.prog 76 [I z] (.t [.c (stD (Lib.itoa z)),PE 0]):=by
 by_cases h:z=0
 ·subst h;exact Dh
 exact Dg z hz h
theorem lI(f:Fm)(hf:F5 f) :
  ak Tryz.prog 23 [FA f.a f.b f.c] (iD (ky f)):=by
 obtain⟨ha,hb,hc⟩:=hf;have cJ:=sJ ([Lib.itoa f.a,Lib.itoa f.b,Lib.itoa f.c]:List Str) [32] (by simp) (OD ⟨ha,hb,hc⟩);have cT:∀ k,k<3->ak Tryz.prog 76 [I (([f.a,f.b,f.c]:List Int).getD k 0)] (.t [.c (stD (([Lib.itoa f.a,Lib.itoa f.b,Lib.itoa f.c]:List Str).getD k [])),PE 0]):=fun k hk=>by
  match k,hk with
  |0,_=>exact qW f.a ha
  |1,_=>exact qW f.b hb
  |2,_=>exact qW f.c hc
 refine aq Tryz.func23 rfl rfl rfl rfl ?_;refine aE hP<|Zz ?_;refine aE hP<|Zz ?_;refine bi<|aE hP<|Zz ?_;refine aR<|fv 3 1000 1 9 rfl rfl ?_;refine aC (ι:=Nat) (fun k=>stL [(3,.vec 1000),(14,.p (.c (SL enI ([f.a,f.b,f.c]:List Int)))),(15,Z 3),(16,Z (k:Int))] [(1000,VB 1 9 eB (([Lib.itoa f.a,Lib.itoa f.b,Lib.itoa f.c]:List Str).take k))]) (fun k=>k<=3) (fun k=>3-k) 0 (Uv _) (ai ⟨.refl _,.refl _,.refl _,.refl _,trivial⟩ ⟨rfl,trivial⟩) ?_;intro k hk;refine Yy ?_;refine ah rfl (fun hb1=>?_) (fun hb1=>?_)
 ·have hb1_:=dT0 hb1;have hk3:k<3:=by omega
  have hts:=Nr (l:=([Lib.itoa f.a,Lib.itoa f.b,Lib.itoa f.c]:List Str)) (d:=[]) rfl hk3;refine Yy ?_;refine ae (aL hT aI (by decide) 0 (n:=(k:Int)) (l:=([f.a,f.b,f.c]:List Int)) rfl rfl rfl rfl rfl rfl (by have:(([f.a,f.b,f.c]:List Int)).length=3:=rfl;omega)) ?_;refine ae (au hT rfl rfl rfl (cs:=enI (([f.a,f.b,f.c]:List Int).getD k 0)) rfl rfl)<|Yy ?_;refine ae (ab (cT k hk3))<|Yy ?_;refine RK.app ag (ep (encD:=eB) hT dG (by decide) rfl rfl rfl rfl rfl rfl rfl (b:=([Lib.itoa f.a,Lib.itoa f.b,Lib.itoa f.c]:List Str).getD k []) rfl (by rw[Us];have:(([Lib.itoa f.a,Lib.itoa f.b,Lib.itoa f.c]:List Str)).length=3:=rfl;omega) (by decide) (by decide))<|Zz ?_;refine dm 28 1000 rfl rfl rfl ?_;refine bp hP<|aF rfl rfl ?_;refine Zz ?_;refine⟨k+1,by omega,by omega,ai ⟨.refl _,.refl _,.refl _,am (by omega),trivial⟩ ⟨Eq.trans rfl (Ur (fun x=>some (VB 1 9 eB x)) hts.symm),trivial⟩⟩
 have hb1_:=dF0 hb1;refine aS ?_;have hke:k=3:=by omega
 subst hke;refine eF (encD:=eB) dG rfl (t:=3) rfl rfl ?_;refine Yy ?_;refine ae (ab cJ)<|Yy ?_;exact .refl _
end
section
open Go Go.AM
attribute [local irreducible] RK Eff AWp
theorem B9(l:List Int)(hl:l.length<=1000000)(h0:0<l.length) :
  CallV Tryz.prog 151 [ARw l] (VB 2 29 enI l):=by
 have hne:l.flatMap enI≠[]:=by cases l with
  |nil=>simp at h0
  |cons x l=>simp
 refine nP Tryz.func151 (by kernel_rfl) rfl rfl (bL0 rfl)<|Yy ?_;refine ae (CH hT rfl rfl rfl hne)<|Yy ?_;refine bD ag (kI hT rfl rfl rfl (es:=[]) rfl rfl rfl)<|Zz ?_;refine RK.app ag (rQ (encD:=enI) hT aI rfl rfl rfl rfl rfl rfl rfl rfl rfl (by omega) (by decide))<|Zz ?_;refine bC ?_;refine⟨.inr rfl,_,_,rfl,rfl,?_⟩;exact rfl
theorem OX(m:Mx)(q:Nat)(row:List Int)(so:Bool)(X:List (List PV))(k:Nat)(hq:1<=q∧q<=65536)(hm:m.length<=12)(hr:row.length=m.length)(hs:dq row=true)(hX:∀ j x,(mpL m q 0 row so)[j]?=some x->X[k+j]?=some [.c (SL enI x)]) :
  CallY Tryz.prog 149 (fun l=>([Z (m.length:Int),ARw row,B so,.ip [SL aO m],.ip [.v (.int .i64 (q:Int))],.ip [yv l],ChA 149 [SL aO m] [.v (.int .i64 (q:Int))] [yv l]]:List AV)) (X) (k) ((mpL m q 0 row so).length):=by
 have jq:aH (q:Int):=by unfold aH;omega
 have iq:LB (q:Int) 6:=⟨by unfold L;omega⟩
 have hrow:∀ j,L 6 (row.getD j 0):=fun j=>(dS (ce hs j)).mono (by decide)
 refine j8 Tryz.func149 (by kernel_rfl) rfl rfl (fun _=>bL0 rfl) ?_;intro l n0 J hK;refine aB ?_;refine ay hP<|Zz ?_;refine aB ?_;refine aB ?_;refine ay hP<|Zz ?_;refine jO rfl (G6 rfl) ?_;refine aB ?_;refine aB ?_;refine ay hP<|Zz ?_;refine dc rfl (fun hb1=>?_) (fun hb1=>?_)
 ·have hb1_:=(dV hb1)
  have e0:so=false:=dV hb1;subst e0;have hn0:mpL m q 0 row false=[]:=Rq m q row;refine aB ?_;refine ay hP<|Zz ?_;refine fH ?_;refine⟨.inr rfl,?_⟩;refine⟨10,true,rfl,rfl,fun _=>?_,fun e=>by cases e⟩;rw[hn0];rfl
 have hb1_:=(dI hb1)
 have e1:so=true:=dI hb1;subst e1;refine bQ ?_;refine aB ?_;refine ay hP<|Zz ?_;refine bD ag (lA hT rfl rfl rfl rfl rfl rfl rfl rfl (by omega))<|Zz ?_;refine aB ?_;refine aB ?_;refine ay hP<|Zz ?_;refine dF ?_;refine ka (ι:=List Int×Nat) (fun⟨o,j⟩=>stL [(4,.ip [.v (.int .i64 (q:Int))]),(5,.ip [yv l]),(11,.vec 27),(28,ARw row),(29,Z (row.length:Int)),(30,Z (j:Int))] [(27,VB 2 29 enI o)]) (fun _=>k) (fun⟨o,j⟩=>DivI row q o j) (fun⟨_,j⟩=>row.length-j) (List.replicate ((row.length:Nat):Int).toNat 0,0) DivI.start rfl (ai ⟨.refl _,.refl _,.refl _,.refl _,.refl _,.refl _,trivial⟩ ⟨rfl,trivial⟩) ?_;rintro⟨o,j⟩ hI;refine aB ?_;refine ay hP<|Zz ?_;refine aB ?_;refine dc rfl (fun hb2=>?_) (fun hb2=>?_)
 ·have hb2_:=dT0 hb2;have hj:j<row.length:=by omega
  have ij:LB (row.getD j 0) 6:=⟨hrow j⟩
  refine bQ ?_;refine aB ?_;refine dF ?_;refine aB ?_;refine ay hP<|Zz ?_;refine ae (aL hT aI (by decide) 0 (n:=(j:Int)) (l:=row) rfl rfl rfl rfl rfl rfl (by omega)) ?_;refine ae (au hT rfl rfl rfl (cs:=enI (row.getD j 0)) rfl rfl)<|Zz ?_;refine aB ?_;refine ay hP<|Zz ?_;refine aB ?_;refine ay hP<|Zz ?_;refine ae (ab (bL (q:Int) jq)) ?_;refine ae (ab (bG (row.getD j 0) (q:Int) lz lz (by omega)))<|Zz ?_;refine ae (av hT aI rfl rfl rfl rfl (by rfl) rfl rfl rfl (by have:=hI.mx.len;omega)) ?_;refine aZ ag (jj hT rfl rfl rfl rfl rfl (by have:=hI.mx.len;omega))<|Zz ?_;refine aB ?_;refine ay hP<|Zz ?_;refine ae (ab (bu _))<|Zz ?_;refine dc rfl (fun hb3=>?_) (fun hb3=>?_)
  ·have hb3_:=cg hb3;have hz:row.getD j 0%(q:Int)≠0:=fun e=>hb3_ (by rw[e];rfl)
   have hn0:=Om (m:=m) (so:=true) hj hz;refine aB ?_;refine ay hP<|Zz ?_;refine fH ?_;refine⟨.inr rfl,?_⟩;refine⟨10,true,rfl,rfl,fun _=>?_,fun e=>by cases e⟩;rw[hn0];rfl
  have hb3_:=ci hb3;have hz:row.getD j 0%(q:Int)=0:=sgn_zero_iff.1 hb3_;refine bQ ?_;refine ay hP ?_;refine aF rfl rfl ?_;refine Zz ?_;refine⟨(o.set j (row.getD j 0/(q:Int)),j+1),hI.next hj hz,by show row.length-(j+1)<row.length-j;omega,rfl,ai ⟨.refl _,.refl _,.refl _,.refl _,.refl _,am (by omega),trivial⟩ ⟨rfl,trivial⟩⟩
 have hb2_:=dF0 hb2;refine hZ ?_;have hje:j=row.length:=by have:=hI.mx.le;omega
 subst hje;have hfin:=Kp (m:=m) hI.ok;refine sC (encD:=enI) aI rfl (t:=11) rfl rfl ?_;rw[hI.done];have hgt:X[k]?=some [.c (SL enI (row.map fun a=>a/(q:Int)))]:=hX 0 _ (by rw[hfin];rfl);refine aB ?_;refine gZ ?_;refine RY.val ag (aM hT rfl rfl rfl rfl) ?_;refine RY.val ag (aK (rfl:_=AV.p (.c _))) ?_;refine RY.yield hK ag rfl rfl hgt ?_;intro b;refine RY.val ag (bW (rfl:_=AV.p (.c _))) ?_;refine RY.done ?_;refine fH ?_;refine⟨.inr rfl,?_⟩;refine⟨10,b,rfl,rfl,fun e=>?_,fun e=>Rj e⟩;rw[wx e,hfin];rfl
theorem K3(m:Mx)(q i:Nat)(row:List Int)(so:Bool)(X:List (List PV))(k:Nat)(hq:1<=q∧q<=65536)(hm:m.length<=12)(hr:row.length=m.length)(hs:dq row=true)(hi:i<m.length)(hmi:(mxr m i).length=m.length)(hmg:dq (mxr m i)=true)(c:Int)(hc:0<=c∧c<=65536)(n:Nat)(hh:CallY Tryz.prog 149 (fun l=>[Z (((i+1:Nat):Int)),ARw (gM row c (mxr m i)),B (so||decide (c>0)),.ip [SL aO m],.ip [.v (.int .i64 (q:Int))],.ip [yv l],ChA 149 [SL aO m] [.v (.int .i64 (q:Int))] [yv l]]) X k n) :
  CallY Tryz.prog 150 (fun l=>([Z c,.ip [SL enI row],.ip [SL aO m],.ip [.v (.int .i64 (i:Int))],ChA 149 [SL aO m] [.v (.int .i64 (q:Int))] [yv l],.ip [.v (.bool so)]]:List AV)) (X) (k) (n):=by
 have _:=hq;have hrow:∀ j,L 6 (row.getD j 0):=fun j=>(dS (ce hs j)).mono (by decide)
 have jc:aH c:=by unfold aH;omega
 have ic:LB c 5:=⟨by unfold L;omega⟩
 have hR:∀ j,L 5 ((mxr m i).getD j 0):=fun j=>dS (ce hmg j)
 refine j8 Tryz.func150 (by kernel_rfl) rfl rfl (fun _=>bL0 rfl) ?_;intro l n0 J hK;refine aB ?_;refine ay hP<|Zz ?_;refine aB ?_;refine ay hP<|Zz ?_;refine bD ag (Eff.callV (B9 row (by omega) (by omega)))<|Zz ?_;refine aB ?_;refine aB ?_;refine ay hP<|Zz ?_;refine ae (aL hT aG (by decide) [] (n:=(i:Int)) (l:=m) rfl rfl rfl rfl rfl rfl (by omega)) ?_;refine ae (aM hT rfl rfl rfl (dv:=SL enI (mxr m i)) rfl)<|Zz ?_;refine dF ?_;refine ka (ι:=List Int×Nat) (fun⟨o,j⟩=>stL [(0,Z c),(2,.ip [SL aO m]),(3,.ip [.v (.int .i64 (i:Int))]),(4,.ax (ChB 149 [SL aO m] [.v (.int .i64 (q:Int))] [yv l])),(5,.ip [.v (.bool so)]),(8,.vec 12),(16,ARw (mxr m i)),(17,Z ((mxr m i).length:Int)),(18,Z (j:Int))] [(12,VB 2 29 enI o)]) (fun _=>k) (fun⟨o,j⟩=>AddI row (mxr m i) c o j) (fun⟨_,j⟩=>(mxr m i).length-j) (row,0) AddI.start rfl (ai ⟨.refl _,.refl _,.refl _,.refl _,.refl _,.refl _,.refl _,.refl _,.refl _,trivial⟩ ⟨rfl,trivial⟩) ?_;rintro⟨o,j⟩ hI;refine aB ?_;refine ay hP<|Zz ?_;refine aB ?_;refine dc rfl (fun hb1=>?_) (fun hb1=>?_)
 ·have hb1_:=dT0 hb1;have hj:j<(mxr m i).length:=by omega
  have iR:LB ((mxr m i).getD j 0) 5:=⟨hR j⟩
  have iO:LB (o.getD j 0) 6:=⟨by rw[hI.hi j (Iv j)];exact hrow j⟩
  refine bQ ?_;refine aB ?_;refine dF ?_;refine aB ?_;refine ay hP<|Zz ?_;refine ae (aL hT aI (by decide) 0 (n:=(j:Int)) (l:=(mxr m i)) rfl rfl rfl rfl rfl rfl (by omega)) ?_;refine ae (au hT rfl rfl rfl (cs:=enI ((mxr m i).getD j 0)) rfl rfl)<|Zz ?_;refine ay hP<|Zz ?_;refine ae (av hT aI rfl rfl rfl rfl (by rfl) rfl rfl rfl (by have:=hI.len;omega)) ?_;refine ae (cU hT aI 0 (n:=j) (l:=o) rfl rfl rfl rfl rfl (by have:=hI.len;omega))<|Zz ?_;refine ae (ab (bL c jc))<|Zz ?_;refine ae (ab (bS c ((mxr m i).getD j 0) lz lz)) ?_;refine ae (ab (dQ (o.getD j 0) (c*(mxr m i).getD j 0) lz lz)) ?_;refine ae (av hT aI rfl rfl rfl rfl (by rfl) rfl rfl rfl (by have:=hI.len;omega)) ?_;refine aZ ag (jj hT rfl rfl rfl rfl rfl (by have:=hI.len;omega))<|Zz ?_;refine ay hP ?_;refine aF rfl rfl ?_;refine Zz ?_;refine⟨(o.set j (row.getD j 0+c*(mxr m i).getD j 0),j+1),hI.next (by omega),by show(mxr m i).length-(j+1)<(mxr m i).length-j;omega,rfl,ai ⟨.refl _,.refl _,.refl _,.refl _,.refl _,.refl _,.refl _,.refl _,am (by omega),trivial⟩ ⟨Eq.trans rfl (Ur (fun x=>some (VB 2 29 enI (o.set j (x+c*(mxr m i).getD j 0)))) (hI.hi j (Iv j))),trivial⟩⟩
 have hb1_:=dF0 hb1;refine hZ ?_;have hje:j=row.length:=by have:=hI.le;omega
 subst hje;refine sC (encD:=enI) aI rfl (t:=8) rfl rfl ?_;rw[hI.done (by omega)];refine aB ?_;refine gZ ?_;refine RY.val ag (ua hT rfl rfl rfl) ?_;refine RY.val ag (aM hT rfl rfl rfl (by first|rfl|exact jP (by omega))) ?_;refine RY.val ag (bB rfl rfl (by first|exact iW0 _ (by omega)|rfl)) ?_;refine RY.val ag (aK (rfl:_=AV.p (.c _))) ?_;refine RY.val ag (aM hT rfl rfl rfl (by first|rfl|exact jP (by omega))) ?_;refine RY.val ag (aK (rfl:_=AV.p (.c _))) ?_;refine RY.split (t:=41) rfl (fun hg2=>?_) (fun hg2=>?_)
 ·have e1:so=true:=hg2;subst e1;refine RY.skip (jX rfl rfl hg2) ?_;refine RY.skip (jX rfl rfl hg2) ?_;refine RY.val ag (cQ rfl hg2 (rfl:_=AV.p (.c _))) ?_;refine RY.callY hK ag rfl (k9 rfl) rfl hh ?_;intro b k2 hkt hkf;refine RY.val ag (bW (rfl:_=AV.p (.c _))) ?_;refine RY.done ?_;refine fH ?_;refine⟨.inr rfl,?_⟩;exact⟨7,b,rfl,rfl,hkt,hkf⟩
 have e1:so=false:=hg2;subst e1;refine RY.val (aw rfl rfl hg2) (aK (rfl:_=AV.p (.c _))) ?_;refine RY.val (aw rfl rfl hg2) (iL rfl rfl) ?_;refine RY.val ag (bA rfl hg2 (rfl:_=AV.p (.c _))) ?_;refine RY.callY hK ag rfl (k9 rfl) rfl hh ?_;intro b k2 hkt hkf;refine RY.val ag (bW (rfl:_=AV.p (.c _))) ?_;refine RY.done ?_;refine fH ?_;refine⟨.inr rfl,?_⟩;exact⟨7,b,rfl,rfl,hkt,hkf⟩
theorem OW(m:Mx)(q i:Nat)(row:List Int)(so:Bool)(X:List (List PV))(k:Nat)(hq:1<=q∧q<=65536)(hm:m.length<=12)(hr:row.length=m.length)(hs:dq row=true)(hi:i<m.length)(hmi:(mxr m i).length=m.length)(hmg:dq (mxr m i)=true)(n:Nat)(hp:mxg m i i%(q:Int)≠0)(hh:CallY Tryz.prog 150 (fun l=>[Z (mpC m q i row),.ip [SL enI row],.ip [SL aO m],.ip [.v (.int .i64 (i:Int))],ChA 149 [SL aO m] [.v (.int .i64 (q:Int))] [yv l],.ip [.v (.bool so)]]) X (k) (n)) :
  CallY Tryz.prog 149 (fun l=>([Z (i:Int),ARw row,B so,.ip [SL aO m],.ip [.v (.int .i64 (q:Int))],.ip [yv l],ChA 149 [SL aO m] [.v (.int .i64 (q:Int))] [yv l]]:List AV)) (X) (k) (n):=by
 have _:=hm;have jq:aH (q:Int):=by unfold aH;omega
 have iq:LB (q:Int) 6:=⟨by unfold L;omega⟩
 have hrow:∀ j,L 6 (row.getD j 0):=fun j=>(dS (ce hs j)).mono (by decide)
 have hG:L 5 (mxg m i i):=dS (ce hmg i);have hq0:(q:Int)≠0:=by omega
 have p1:=UF (mxg m i i) hq0;have p2:=UK (mxg m i i) (show(0:Int)<q by omega);have r1:=UF (row.getD i 0) hq0;have r2:=UK (row.getD i 0) (show(0:Int)<q by omega);have hu:=nQ (a:=mxg m i i%(q:Int)) hq0;have hu1:0<=bzU (mxg m i i%(q:Int)) q:=hu.1;have hu2:bzU (mxg m i i%(q:Int)) q<=65536:=by omega
 have hm1:0<=((q:Int)-row.getD i 0%q)*bzU (mxg m i i%(q:Int)) q:=Vd (by omega) hu1;have hm2:((q:Int)-row.getD i 0%q)*bzU (mxg m i i%(q:Int)) q<=65536*65536:=Ve (by omega) hu2 hu1 (by omega);refine j8 Tryz.func149 (by kernel_rfl) rfl rfl (fun _=>bL0 rfl) ?_;intro l n0 J hK;refine aB ?_;refine ay hP<|Zz ?_;refine aB ?_;refine aB ?_;refine ay hP<|Zz ?_;refine cY rfl (Ix (by omega)) ?_;refine bQ ?_;refine cp (t:=8) rfl rfl ?_;refine cp (t:=7) rfl rfl ?_;refine cp (t:=9) rfl rfl ?_;refine aB ?_;refine ay hP ?_;refine ae (jB rfl rfl rfl rfl rfl)<|Zz ?_;refine aB ?_;refine ay hP<|Zz ?_;refine ae (aL hT aG (by decide) [] (n:=(i:Int)) (l:=m) rfl rfl rfl rfl rfl rfl (by omega)) ?_;refine ae (aM hT rfl rfl rfl (dv:=SL enI (mxr m i)) rfl)<|Zz ?_;refine ae (aL hT aI (by decide) 0 (n:=(i:Int)) (l:=(mxr m i)) rfl rfl rfl rfl rfl rfl (by omega)) ?_;refine ae (au hT rfl rfl rfl (cs:=enI (mxg m i i)) rfl rfl)<|Zz ?_;refine ae (ab (fa (mxg m i i) (q:Int) (hG.mono (by decide)) (by omega)))<|Zz ?_;refine aB ?_;refine aB ?_;refine ay hP<|Zz ?_;refine jO rfl (by simpa using hp) ?_;refine aB ?_;refine qF hP 15 (by kernel_rfl)<|Zz ?_;refine ae (aL hT aI (by decide) 0 (n:=(i:Int)) (l:=row) rfl rfl rfl rfl rfl rfl (by omega)) ?_;refine ae (au hT rfl rfl rfl (cs:=enI (row.getD i 0)) rfl rfl)<|Zz ?_;refine ae (ab (fa (row.getD i 0) (q:Int) ((hrow i).mono (by decide)) (by omega))) ?_;refine ae (aY rfl rfl (by first|exact iW0 _ (by omega)|rfl))<|Zz ?_;refine ae (ab (Bq _ _ (by omega) (by omega))) ?_;refine ae (bw rfl rfl (iW0 _ (by omega)))<|Zz ?_;refine ae (cf rfl rfl (by omega) (c:=mpC m q i row) (UH hm1))<|Zz ?_;refine RY.callY hK ag rfl (k9 rfl) rfl hh ?_;intro b k2 hkt hkf;refine RY.val ag (bW (rfl:_=AV.p (.c _))) ?_;refine RY.done ?_;refine fH ?_;refine⟨.inr rfl,?_⟩;exact⟨10,b,rfl,rfl,hkt,hkf⟩
theorem OV(m:Mx)(q i:Nat)(row:List Int)(so:Bool)(X:List (List PV))(k:Nat)(hq:1<=q∧q<=65536)(hm:m.length<=12)(hr:row.length=m.length)(hs:dq row=true)(hi:i<m.length)(hmi:(mxr m i).length=m.length)(hmg:dq (mxr m i)=true)(hp:mxg m i i%(q:Int)=0)(hz:row.getD i 0%(q:Int)≠0) :
  CallY Tryz.prog 149 (fun l=>([Z (i:Int),ARw row,B so,.ip [SL aO m],.ip [.v (.int .i64 (q:Int))],.ip [yv l],ChA 149 [SL aO m] [.v (.int .i64 (q:Int))] [yv l]]:List AV)) (X) (k) (0):=by
 have _:=hm;have jq:aH (q:Int):=by unfold aH;omega
 have iq:LB (q:Int) 6:=⟨by unfold L;omega⟩
 have hrow:∀ j,L 6 (row.getD j 0):=fun j=>(dS (ce hs j)).mono (by decide)
 have hG:L 5 (mxg m i i):=dS (ce hmg i);have hq0:(q:Int)≠0:=by omega
 have p1:=UF (mxg m i i) hq0;have p2:=UK (mxg m i i) (show(0:Int)<q by omega);have r1:=UF (row.getD i 0) hq0;have r2:=UK (row.getD i 0) (show(0:Int)<q by omega);refine j8 Tryz.func149 (by kernel_rfl) rfl rfl (fun _=>bL0 rfl) ?_;intro l n0 J hK;refine aB ?_;refine ay hP<|Zz ?_;refine aB ?_;refine aB ?_;refine ay hP<|Zz ?_;refine cY rfl (Ix (by omega)) ?_;refine bQ ?_;refine cp (t:=8) rfl rfl ?_;refine cp (t:=7) rfl rfl ?_;refine cp (t:=9) rfl rfl ?_;refine aB ?_;refine ay hP ?_;refine ae (jB rfl rfl rfl rfl rfl)<|Zz ?_;refine aB ?_;refine ay hP<|Zz ?_;refine ae (aL hT aG (by decide) [] (n:=(i:Int)) (l:=m) rfl rfl rfl rfl rfl rfl (by omega)) ?_;refine ae (aM hT rfl rfl rfl (dv:=SL enI (mxr m i)) rfl)<|Zz ?_;refine ae (aL hT aI (by decide) 0 (n:=(i:Int)) (l:=(mxr m i)) rfl rfl rfl rfl rfl rfl (by omega)) ?_;refine ae (au hT rfl rfl rfl (cs:=enI (mxg m i i)) rfl rfl)<|Zz ?_;refine ae (ab (fa (mxg m i i) (q:Int) (hG.mono (by decide)) (by omega)))<|Zz ?_;refine aB ?_;refine aB ?_;refine ay hP<|Zz ?_;refine cY rfl (by simpa using hp) ?_;refine bQ ?_;refine aB ?_;refine aB ?_;refine ay hP<|Zz ?_;refine ae (aL hT aI (by decide) 0 (n:=(i:Int)) (l:=row) rfl rfl rfl rfl rfl rfl (by omega)) ?_;refine ae (au hT rfl rfl rfl (cs:=enI (row.getD i 0)) rfl rfl)<|Zz ?_;refine ae (ab (fa (row.getD i 0) (q:Int) ((hrow i).mono (by decide)) (by omega)))<|Zz ?_;refine jO rfl (by simpa using hz) ?_;refine aB ?_;refine ay hP<|Zz ?_;refine fH ?_;refine⟨.inr rfl,?_⟩;exact⟨10,true,rfl,rfl,fun _=>rfl,fun e=>by cases e⟩
theorem K9(m:Mx)(q i:Nat)(row:List Int)(X:List (List PV))(k:Nat)(hq:1<=q∧q<=65536)(hm:m.length<=12)(hr:row.length=m.length)(hs:dq row=true)(hi:i<m.length)(hmi:(mxr m i).length=m.length)(hmg:dq (mxr m i)=true)(hp:mxg m i i%(q:Int)=0)(hz:row.getD i 0%(q:Int)=0)(of ln:Nat->Nat)(of0:of 0=0)(ofs:∀ c,of (c+1)=of c+ln c)(hw:∀ c:Nat,c<dL q true->CallY Tryz.prog 150 (fun l=>[Z (c:Int),.ip [SL enI row],.ip [SL aO m],.ip [.v (.int .i64 (i:Int))],ChA 149 [SL aO m] [.v (.int .i64 (q:Int))] [yv l],.ip [.v (.bool true)]]) X (k+of c) (ln c)) :
  CallY Tryz.prog 149 (fun l=>([Z (i:Int),ARw row,B true,.ip [SL aO m],.ip [.v (.int .i64 (q:Int))],.ip [yv l],ChA 149 [SL aO m] [.v (.int .i64 (q:Int))] [yv l]]:List AV)) (X) (k) (of (dL q true)):=by
 have _:=hm;have jq:aH (q:Int):=by unfold aH;omega
 have iq:LB (q:Int) 6:=⟨by unfold L;omega⟩
 have hrow:∀ j,L 6 (row.getD j 0):=fun j=>(dS (ce hs j)).mono (by decide)
 have hG:L 5 (mxg m i i):=dS (ce hmg i);have hq0:(q:Int)≠0:=by omega
 have p1:=UF (mxg m i i) hq0;have p2:=UK (mxg m i i) (show(0:Int)<q by omega);have r1:=UF (row.getD i 0) hq0;have r2:=UK (row.getD i 0) (show(0:Int)<q by omega);have htp:dL q true=q:=rfl;refine j8 Tryz.func149 (by kernel_rfl) rfl rfl (fun _=>bL0 rfl) ?_;intro l n0 J hK;refine aB ?_;refine ay hP<|Zz ?_;refine aB ?_;refine aB ?_;refine ay hP<|Zz ?_;refine cY rfl (Ix (by omega)) ?_;refine bQ ?_;refine cp (t:=8) rfl rfl ?_;refine cp (t:=7) rfl rfl ?_;refine cp (t:=9) rfl rfl ?_;refine aB ?_;refine ay hP ?_;refine ae (jB rfl rfl rfl rfl rfl)<|Zz ?_;refine aB ?_;refine ay hP<|Zz ?_;refine ae (aL hT aG (by decide) [] (n:=(i:Int)) (l:=m) rfl rfl rfl rfl rfl rfl (by omega)) ?_;refine ae (aM hT rfl rfl rfl (dv:=SL enI (mxr m i)) rfl)<|Zz ?_;refine ae (aL hT aI (by decide) 0 (n:=(i:Int)) (l:=(mxr m i)) rfl rfl rfl rfl rfl rfl (by omega)) ?_;refine ae (au hT rfl rfl rfl (cs:=enI (mxg m i i)) rfl rfl)<|Zz ?_;refine ae (ab (fa (mxg m i i) (q:Int) (hG.mono (by decide)) (by omega)))<|Zz ?_;refine aB ?_;refine aB ?_;refine ay hP<|Zz ?_;refine cY rfl (by simpa using hp) ?_;refine bQ ?_;refine aB ?_;refine aB ?_;refine ay hP<|Zz ?_;refine ae (aL hT aI (by decide) 0 (n:=(i:Int)) (l:=row) rfl rfl rfl rfl rfl rfl (by omega)) ?_;refine ae (au hT rfl rfl rfl (cs:=enI (row.getD i 0)) rfl rfl)<|Zz ?_;refine ae (ab (fa (row.getD i 0) (q:Int) ((hrow i).mono (by decide)) (by omega)))<|Zz ?_;refine cY rfl (by simpa using hz) ?_;refine bQ ?_;refine aB ?_;refine ay hP<|Zz ?_;refine aB ?_;refine aB ?_;refine ay hP<|Zz ?_;refine cY rfl rfl ?_;refine bQ ?_;refine aB ?_;refine aB ?_;refine ay hP<|Zz ?_;refine dF ?_;refine ka (ι:=Nat) (fun c=>stL [(15,.ax (FnX 150 [.ip [SL enI row],.ip [SL aO m],.ip [.v (.int .i64 (i:Int))],ChA 149 [SL aO m] [.v (.int .i64 (q:Int))] [yv l],.ip [.v (.bool true)]])),(91,Z (dL q true:Nat)),(92,Z (c:Int))] []) (fun c=>k+of c) (fun c=>c<=dL q true) (fun c=>dL q true-c) 0 (Uv _) (by rw[of0];rfl) (ai ⟨.refl _,.refl _,.refl _,trivial⟩ trivial) ?_;intro c hc;refine aB ?_;refine ay hP<|Zz ?_;refine aB ?_;refine dc rfl (fun hb1=>?_) (fun hb1=>?_)
 ·have hb1_:=dT0 hb1;have hct:c<dL q true:=by omega
  refine bQ ?_;refine aB ?_;refine dF ?_;refine aB ?_;refine ay hP<|Zz ?_;refine aB ?_;refine gZ ?_;refine RY.val ag (aK (rfl:_=AV.ax _)) ?_;refine RY.val ag (aK (rfl:_=AV.p (.c _))) ?_;refine RY.callY hK ag rfl (k9 rfl) rfl (hw c hct) ?_;intro b k2 hkt hkf;refine RY.val ag (cZ rfl) ?_;refine RY.done ?_;refine dc rfl (fun hb2=>?_) (fun hb2=>?_)
  ·have hb2_:=(dV hb2)
   refine aB ?_;refine ay hP<|Zz ?_;refine fH ?_;refine⟨.inr rfl,?_⟩;exact⟨10,false,rfl,rfl,fun e=>(by cases e),fun _=>hkf (dV hb2)⟩
  have hb2_:=(dI hb2)
  refine bQ ?_;refine ay hP ?_;refine aF rfl rfl ?_;refine Zz ?_;refine⟨c+1,by omega,by omega,(by show k+of (c+1)=k2;rw[ofs c,<- We];exact(hkt (dI hb2)).symm),ai ⟨.refl _,.refl _,am (by omega),trivial⟩ trivial⟩
 have hb1_:=dF0 hb1;refine hZ ?_;refine aB ?_;refine ay hP<|Zz ?_;refine fH ?_;refine⟨.inr rfl,?_⟩;have hce:c=dL q true:=by omega
 subst hce;exact⟨10,true,rfl,rfl,fun _=>rfl,fun e=>by cases e⟩
theorem La(m:Mx)(q i:Nat)(row:List Int)(X:List (List PV))(k:Nat)(hq:1<=q∧q<=65536)(hm:m.length<=12)(hr:row.length=m.length)(hs:dq row=true)(hi:i<m.length)(hmi:(mxr m i).length=m.length)(hmg:dq (mxr m i)=true)(hp:mxg m i i%(q:Int)=0)(hz:row.getD i 0%(q:Int)=0)(of ln:Nat->Nat)(of0:of 0=0)(ofs:∀ c,of (c+1)=of c+ln c)(hw:∀ c:Nat,c<dL q false->CallY Tryz.prog 150 (fun l=>[Z (c:Int),.ip [SL enI row],.ip [SL aO m],.ip [.v (.int .i64 (i:Int))],ChA 149 [SL aO m] [.v (.int .i64 (q:Int))] [yv l],.ip [.v (.bool false)]]) X (k+of c) (ln c)) :
  CallY Tryz.prog 149 (fun l=>([Z (i:Int),ARw row,B false,.ip [SL aO m],.ip [.v (.int .i64 (q:Int))],.ip [yv l],ChA 149 [SL aO m] [.v (.int .i64 (q:Int))] [yv l]]:List AV)) (X) (k) (of (dL q false)):=by
 have _:=hm;have jq:aH (q:Int):=by unfold aH;omega
 have iq:LB (q:Int) 6:=⟨by unfold L;omega⟩
 have hrow:∀ j,L 6 (row.getD j 0):=fun j=>(dS (ce hs j)).mono (by decide)
 have hG:L 5 (mxg m i i):=dS (ce hmg i);have hq0:(q:Int)≠0:=by omega
 have p1:=UF (mxg m i i) hq0;have p2:=UK (mxg m i i) (show(0:Int)<q by omega);have r1:=UF (row.getD i 0) hq0;have r2:=UK (row.getD i 0) (show(0:Int)<q by omega);have htp:dL q false=2:=rfl;refine j8 Tryz.func149 (by kernel_rfl) rfl rfl (fun _=>bL0 rfl) ?_;intro l n0 J hK;refine aB ?_;refine ay hP<|Zz ?_;refine aB ?_;refine aB ?_;refine ay hP<|Zz ?_;refine cY rfl (Ix (by omega)) ?_;refine bQ ?_;refine cp (t:=8) rfl rfl ?_;refine cp (t:=7) rfl rfl ?_;refine cp (t:=9) rfl rfl ?_;refine aB ?_;refine ay hP ?_;refine ae (jB rfl rfl rfl rfl rfl)<|Zz ?_;refine aB ?_;refine ay hP<|Zz ?_;refine ae (aL hT aG (by decide) [] (n:=(i:Int)) (l:=m) rfl rfl rfl rfl rfl rfl (by omega)) ?_;refine ae (aM hT rfl rfl rfl (dv:=SL enI (mxr m i)) rfl)<|Zz ?_;refine ae (aL hT aI (by decide) 0 (n:=(i:Int)) (l:=(mxr m i)) rfl rfl rfl rfl rfl rfl (by omega)) ?_;refine ae (au hT rfl rfl rfl (cs:=enI (mxg m i i)) rfl rfl)<|Zz ?_;refine ae (ab (fa (mxg m i i) (q:Int) (hG.mono (by decide)) (by omega)))<|Zz ?_;refine aB ?_;refine aB ?_;refine ay hP<|Zz ?_;refine cY rfl (by simpa using hp) ?_;refine bQ ?_;refine aB ?_;refine aB ?_;refine ay hP<|Zz ?_;refine ae (aL hT aI (by decide) 0 (n:=(i:Int)) (l:=row) rfl rfl rfl rfl rfl rfl (by omega)) ?_;refine ae (au hT rfl rfl rfl (cs:=enI (row.getD i 0)) rfl rfl)<|Zz ?_;refine ae (ab (fa (row.getD i 0) (q:Int) ((hrow i).mono (by decide)) (by omega)))<|Zz ?_;refine cY rfl (by simpa using hz) ?_;refine bQ ?_;refine aB ?_;refine ay hP<|Zz ?_;refine aB ?_;refine aB ?_;refine ay hP<|Zz ?_;refine jO rfl rfl ?_;refine ay hP<|Zz ?_;refine aB ?_;refine aB ?_;refine ay hP<|Zz ?_;refine dF ?_;refine ka (ι:=Nat) (fun c=>stL [(15,.ax (FnX 150 [.ip [SL enI row],.ip [SL aO m],.ip [.v (.int .i64 (i:Int))],ChA 149 [SL aO m] [.v (.int .i64 (q:Int))] [yv l],.ip [.v (.bool false)]])),(91,Z (dL q false:Nat)),(92,Z (c:Int))] []) (fun c=>k+of c) (fun c=>c<=dL q false) (fun c=>dL q false-c) 0 (Uv _) (by rw[of0];rfl) (ai ⟨.refl _,.refl _,.refl _,trivial⟩ trivial) ?_;intro c hc;refine aB ?_;refine ay hP<|Zz ?_;refine aB ?_;refine dc rfl (fun hb1=>?_) (fun hb1=>?_)
 ·have hb1_:=dT0 hb1;have hct:c<dL q false:=by omega
  refine bQ ?_;refine aB ?_;refine dF ?_;refine aB ?_;refine ay hP<|Zz ?_;refine aB ?_;refine gZ ?_;refine RY.val ag (aK (rfl:_=AV.ax _)) ?_;refine RY.val ag (aK (rfl:_=AV.p (.c _))) ?_;refine RY.callY hK ag rfl (k9 rfl) rfl (hw c hct) ?_;intro b k2 hkt hkf;refine RY.val ag (cZ rfl) ?_;refine RY.done ?_;refine dc rfl (fun hb2=>?_) (fun hb2=>?_)
  ·have hb2_:=(dV hb2)
   refine aB ?_;refine ay hP<|Zz ?_;refine fH ?_;refine⟨.inr rfl,?_⟩;exact⟨10,false,rfl,rfl,fun e=>(by cases e),fun _=>hkf (dV hb2)⟩
  have hb2_:=(dI hb2)
  refine bQ ?_;refine ay hP ?_;refine aF rfl rfl ?_;refine Zz ?_;refine⟨c+1,by omega,by omega,(by show k+of (c+1)=k2;rw[ofs c,<- We];exact(hkt (dI hb2)).symm),ai ⟨.refl _,.refl _,am (by omega),trivial⟩ trivial⟩
 have hb1_:=dF0 hb1;refine hZ ?_;refine aB ?_;refine ay hP<|Zz ?_;refine fH ?_;refine⟨.inr rfl,?_⟩;have hce:c=dL q false:=by omega
 subst hce;exact⟨10,true,rfl,rfl,fun _=>rfl,fun e=>by cases e⟩
end
section
open Go Go.AM
attribute [local irreducible] RK Eff AWp
theorem Dk(m:Mx)(q:Nat)(hq:1<=q∧q<=65536)(hm:m.length<=12)(hsq:fg m.length m=true):∀ (rem i:Nat) (row:List Int) (so:Bool) (X:List (List PV)) (k:Nat),i+rem=m.length->row.length=m.length->okY m q rem row so=true ->
  (∀ j x,(mpL m q rem row so)[j]?=some x->X[k+j]?=some [.c (SL enI x)])->CallY Tryz.prog 149 (fun l=>[Z ((i:Int)),ARw row,B so,.ip [SL aO m],.ip [.v (.int .i64 (q:Int))],.ip [yv l],ChA 149 [SL aO m] [.v (.int .i64 (q:Int))] [yv l]]) X k (mpL m q rem row so).length:=by
 intro rem;induction rem with
 |zero =>
  intro i row so X k hi hr hok hX;have hi':i=m.length:=by omega
  subst hi';exact OX m q row so X k hq hm hr (HU hok) hX
 |succ rem ih =>
  intro i row so X k hi hr hok hX;have hil:i<m.length:=by omega
  obtain⟨hmi,hmg⟩:=cE hsq hil;have hs:=HU hok;have hw:∀ (c:Int) (X:List (List PV)) (k:Nat),0<=c∧c<=65536->okY m q rem (gM row c (mxr m i)) (so||decide (c>0))=true->(∀ j x,(mpL m q rem (gM row c (mxr m i)) (so||decide (c>0)))[j]?=some x->X[k+j]?=some [.c (SL enI x)]) ->
    CallY Tryz.prog 150 (fun l=>[Z c,.ip [SL enI row],.ip [SL aO m],.ip [.v (.int .i64 (i:Int))],ChA 149 [SL aO m] [.v (.int .i64 (q:Int))] [yv l],.ip [.v (.bool so)]]) X (k) ((mpL m q rem (gM row c (mxr m i)) (so||decide (c>0))).length):=fun c X k hc hk hx =>
   K3 m q i row so X k hq hm hr hs hil hmi hmg c hc _ (ih (i+1) (gM row c (mxr m i)) (so||decide (c>0)) X k (by omega) ((G8 (by omega)).trans hr) hk hx)
  by_cases hp:mxg m i i%(q:Int)=0
  ·by_cases hz:row.getD i 0%(q:Int)=0
   ·have e:=Oj (so:=so) hi hp hz;rw[e]at hX ⊢;rw[lZ];have hww:=fun(c:Nat) (hc:c<dL q so)=>hw (c:Int) X (k+oz (fun(c:Nat)=>mpL m q rem (gM row (c:Int) (mxr m i)) (so||decide ((c:Int)>0))) c) (by unfold dL at hc;split at hc <;> omega) (N4 hi hp hz hok c hc)
     (fun j x hj=>by
      rw[We];exact hX _ x (uI _ _ c j x hc hj))
    cases so with
    |true=>exact K9 m q i row X k hq hm hr hs hil hmi hmg hp hz _ _ rfl (fun _=>rfl) hww
    |false=>exact La m q i row X k hq hm hr hs hil hmi hmg hp hz _ _ rfl (fun _=>rfl) hww
   rw[Ok hi hp hz];exact OV m q i row so X k hq hm hr hs hil hmi hmg hp hz
  have e:=Ol (so:=so) (row:=row) hi hp;rw[e]at hX ⊢;have hb:=Rr (m:=m) (q:=q) (i:=i) (row:=row) hq.1;exact OW m q i row so X k hq hm hr hs hil hmi hmg _ hp (hw _ X k (by omega) (N5 hi hp hok) hX)
theorem K5(m:Mx)(q:Nat)(hq:1<=q∧q<=65536)(hm:m.length<=12)(hsq:fg m.length m=true)(hok:okY m q m.length (List.replicate m.length 0) false=true) :
  Iter2 Tryz.prog 148 [[SL aO m],[.v (.int .i64 (q:Int))]] ((mpL m q m.length (List.replicate m.length 0) false).map fun r=>[.c (SL enI r)]):=by
 have cCh:=Dk m q hq hm hsq m.length 0 (List.replicate m.length 0) false ((mpL m q m.length (List.replicate m.length 0) false).map fun r=>[.c (SL enI r)]) 0 (by omega) (by simp) hok (fun j x hj=>by rw[Nat.zero_add,List.getElem?_map,hj];rfl);generalize hxs:((mpL m q m.length (List.replicate m.length 0) false).map fun r=>([.c (SL enI r)]:List PV))=xs at *;have hln:(mpL m q m.length (List.replicate m.length 0) false).length=xs.length:=by rw[<- hxs,Uq]
 rw[hln]at cCh;refine F9 Tryz.func148 (by kernel_rfl) rfl rfl (bL0 rfl) rfl ?_;intro l n0 J hK;refine Iz hK.toKeepsB ?_;refine aB ?_;refine ay hP<|Zz ?_;refine cp (t:=3) rfl rfl ?_;refine aB ?_;refine ay hP<|Zz ?_;refine aB ?_;refine AA (G9 hT (n:=4) rfl rfl rfl rfl rfl rfl rfl rfl ?_);refine qF hP 4 (by kernel_rfl) ?_;refine ae (ua hT rfl rfl rfl)<|Zz ?_;refine bD ag (lA hT rfl rfl rfl rfl rfl rfl rfl rfl (by omega))<|Zz ?_;refine RY.freezeG (encD:=enI) aI rfl (t:=9) rfl rfl ?_;refine RY.callY hK ag rfl (k9 rfl) rfl cCh ?_;intro b k2 hkt hkf;refine RY.done ?_;refine⟨.inl rfl,?_⟩;cases b with
 |true=>exact V1 (by rw[hkt rfl];omega)
 |false=>exact Nat.le_of_lt (hkf rfl)
theorem K6(h:Nat)(hh:h<=1000000)(hok:okD (h+2) h 2=true) :
  Iter3 Tryz.prog 147 (⟨false,1,3,[.v (.int .i64 ((h:Nat):Int))]⟩) ((dvD (h+2) h 2).map fun(q:Nat)=>[PE (q:Int)]):=by
 have hst:=PdI.start hh hok;generalize dvD (h+2) h 2=X at *;generalize hxs:(X.map fun(q:Nat)=>([PE (q:Int)]:List PV))=xs;refine F8 Tryz.func147 (by kernel_rfl) rfl rfl (bL0 rfl) rfl rfl ?_;intro l n0 J hK;refine Iz hK.toKeepsB ?_;refine aB ?_;refine ay hP<|Zz ?_;refine dF ?_;refine ka (ι:=Nat×Nat×Nat×Nat) (fun i=>stL [(0,.p (.c (.v (.func (.yield l) #[] #[])))),(1,.loc 1 0),(3,Z (i.2.1:Int))] [(1,⟨false,1,3,[.v (.int .i64 ((i.1:Nat):Int))]⟩)]) (fun i=>i.2.2.1) (fun i=>PdI X i.1 i.2.1 i.2.2.1 i.2.2.2) (fun i=>i.2.2.2) (h,2,0,h+2) hst rfl (ai ⟨.refl _,.refl _,.refl _,trivial⟩ ⟨rfl,trivial⟩) ?_;intro i hI;refine aB ?_;refine aB ?_;refine ay hP<|Zz ?_;refine dc rfl (fun hb1=>?_) (fun hb1=>?_)
 ·have hb1_:=dT0 hb1;have hn:¬ i.1<=1:=by omega
  have hps:=hI.pos hn;have hnb:=hI.nb;refine(⟨_,rfl⟩:∃ d,dvP i.1 i.2.1=d).elim (fun d hdv=>?_);have hd2:2<=d:=by rw[<- hdv];exact hps.2.1
  have hdb:=hI.lt hdv hn;have hpp:i.2.1*i.2.1<=1000000000:=UA (VJ hps.2.2 hps.2.2) (by decide);refine bQ ?_;refine aB ?_;refine dF ?_;refine aB ?_;refine aB ?_;refine ay hP<|Zz ?_;refine ae (bw rfl rfl (c:=((i.2.1*i.2.1:Nat):Int)) (S6 hpp))<|Zz ?_;refine dc rfl (fun hb2=>?_) (fun hb2=>?_)
  ·have hb2_:=dT0 hb2;have hde:i.1=d:=(R9 (by omega)).symm.trans hdv;refine ay hP<|Zz ?_;refine Iy (t:=stL [(0,.p (.c (.v (.func (.yield l) #[] #[])))),(1,.loc 1 0),(3,Z (d:Int))] [(1,⟨false,1,3,[.v (.int .i64 ((i.1:Nat):Int))]⟩)]) (ai ⟨.refl _,.refl _,am (Ur (fun x:Nat=>(x:Int)) hde),trivial⟩ ⟨rfl,trivial⟩) ?_;refine aB ?_;refine aB ?_;refine ay hP<|Zz ?_;refine ae (cf rfl rfl (by omega) vQ)<|Zz ?_;refine dc rfl (fun hb3=>?_) (fun hb3=>?_)
   ·have hb3_:=cg hb3;have hne:=rS hb3_;refine hZ ?_;refine ay hP<|Zz ?_;refine aF rfl rfl ?_;refine Zz ?_;refine⟨(i.1,d+1,i.2.2.1,i.2.2.2-1),hI.no hdv hn hne,(by show i.2.2.2-1<i.2.2.2;omega),rfl,ai ⟨.refl _,.refl _,am (by show(d:Int)+1=((d+1:Nat):Int);omega),trivial⟩ ⟨rfl,trivial⟩⟩
   have hb3_:=ci hb3;have hmz:=rT hb3_;have hgt:xs[i.2.2.1]?=some [PE (d:Int)]:=by rw[<- hxs,UE,(hI.yes hdv hn hmz).1];rfl
   refine bQ ?_;refine aB ?_;refine aB ?_;refine gZ ?_;refine RY.val ag (aK (rfl:_=AV.p (.c _))) ?_;refine RY.val ag (aK (rfl:_=AV.p (.c _))) ?_;refine RY.yield hK ag rfl rfl hgt ?_;intro b;refine RY.val ag (cZ rfl) ?_;refine RY.done ?_;refine dc rfl (fun hb4=>?_) (fun hb4=>?_)
   ·have hb4_:=(dV hb4)
    refine fH ?_;refine⟨.inr rfl,?_⟩;exact N8 (dV hb4)
   have hb4_:=(dI hb4)
   refine bQ ?_;refine dF ?_;refine ka (ι:=Nat) (fun q=>stL [(0,.p (.c (.v (.func (.yield l) #[] #[])))),(1,.loc 1 0),(3,Z (d:Int))] [(1,⟨false,1,3,[.v (.int .i64 ((q:Nat):Int))]⟩)]) (fun _=>i.2.2.1+1) (fun q=>StI d i.1 q) (fun q=>q) i.1 (StI.start (by omega)) (by first|exact(wx (dI hb4)).symm|exact(wx (dI hb7)).symm) (ai ⟨.refl _,.refl _,.refl _,trivial⟩ ⟨rfl,trivial⟩) ?_;intro q hq;have hqb:=hq.2.1;refine aB ?_;refine aB ?_;refine ay hP<|Zz ?_;refine ae (cf rfl rfl (by omega) vQ)<|Zz ?_;refine dc rfl (fun hb5=>?_) (fun hb5=>?_)
   ·have hb5_:=bT hb5;have hnx:=hq.next hd2 (rT hb5_);refine bQ ?_;refine dF ?_;refine ay hP<|Zz ?_;refine ae (bV rfl rfl (by omega) (sR (by omega) (by omega)))<|Zz ?_;refine⟨q/d,hnx.1,hnx.2,rfl,ai ⟨.refl _,.refl _,.refl _,trivial⟩ ⟨rfl,trivial⟩⟩
   have hb5_:=bF hb5;have hdn:=hq.done (rS hb5_);refine hZ ?_;refine ay hP<|Zz ?_;refine aF rfl rfl ?_;refine Zz ?_;refine⟨(q,d+1,i.2.2.1+1,i.2.2.2-1),(hI.yes hdv hn hmz).2 q hdn hqb,(by show i.2.2.2-1<i.2.2.2;omega),rfl,ai ⟨.refl _,.refl _,am (by show(d:Int)+1=((d+1:Nat):Int);omega),trivial⟩ ⟨rfl,trivial⟩⟩
  have hb2_:=dF0 hb2;have hde:i.2.1=d:=(Sa (by omega)).symm.trans hdv;refine bQ ?_;refine Iy (t:=stL [(0,.p (.c (.v (.func (.yield l) #[] #[])))),(1,.loc 1 0),(3,Z (d:Int))] [(1,⟨false,1,3,[.v (.int .i64 ((i.1:Nat):Int))]⟩)]) (ai ⟨.refl _,.refl _,am (Ur (fun x:Nat=>(x:Int)) hde),trivial⟩ ⟨rfl,trivial⟩) ?_;refine aB ?_;refine aB ?_;refine ay hP<|Zz ?_;refine ae (cf rfl rfl (by omega) vQ)<|Zz ?_;refine dc rfl (fun hb6=>?_) (fun hb6=>?_)
  ·have hb6_:=cg hb6;have hne:=rS hb6_;refine hZ ?_;refine ay hP<|Zz ?_;refine aF rfl rfl ?_;refine Zz ?_;refine⟨(i.1,d+1,i.2.2.1,i.2.2.2-1),hI.no hdv hn hne,(by show i.2.2.2-1<i.2.2.2;omega),rfl,ai ⟨.refl _,.refl _,am (by show(d:Int)+1=((d+1:Nat):Int);omega),trivial⟩ ⟨rfl,trivial⟩⟩
  have hb6_:=ci hb6;have hmz:=rT hb6_;have hgt:xs[i.2.2.1]?=some [PE (d:Int)]:=by rw[<- hxs,UE,(hI.yes hdv hn hmz).1];rfl
  refine bQ ?_;refine aB ?_;refine aB ?_;refine gZ ?_;refine RY.val ag (aK (rfl:_=AV.p (.c _))) ?_;refine RY.val ag (aK (rfl:_=AV.p (.c _))) ?_;refine RY.yield hK ag rfl rfl hgt ?_;intro b;refine RY.val ag (cZ rfl) ?_;refine RY.done ?_;refine dc rfl (fun hb7=>?_) (fun hb7=>?_)
  ·have hb7_:=(dV hb7)
   refine fH ?_;refine⟨.inr rfl,?_⟩;exact N8 (dV hb7)
  have hb7_:=(dI hb7)
  refine bQ ?_;refine dF ?_;refine ka (ι:=Nat) (fun q=>stL [(0,.p (.c (.v (.func (.yield l) #[] #[])))),(1,.loc 1 0),(3,Z (d:Int))] [(1,⟨false,1,3,[.v (.int .i64 ((q:Nat):Int))]⟩)]) (fun _=>i.2.2.1+1) (fun q=>StI d i.1 q) (fun q=>q) i.1 (StI.start (by omega)) (by first|exact(wx (dI hb4)).symm|exact(wx (dI hb7)).symm) (ai ⟨.refl _,.refl _,.refl _,trivial⟩ ⟨rfl,trivial⟩) ?_;intro q hq;have hqb:=hq.2.1;refine aB ?_;refine aB ?_;refine ay hP<|Zz ?_;refine ae (cf rfl rfl (by omega) vQ)<|Zz ?_;refine dc rfl (fun hb8=>?_) (fun hb8=>?_)
  ·have hb8_:=bT hb8;have hnx:=hq.next hd2 (rT hb8_);refine bQ ?_;refine dF ?_;refine ay hP<|Zz ?_;refine ae (bV rfl rfl (by omega) (sR (by omega) (by omega)))<|Zz ?_;refine⟨q/d,hnx.1,hnx.2,rfl,ai ⟨.refl _,.refl _,.refl _,trivial⟩ ⟨rfl,trivial⟩⟩
  have hb8_:=bF hb8;have hdn:=hq.done (rS hb8_);refine hZ ?_;refine ay hP<|Zz ?_;refine aF rfl rfl ?_;refine Zz ?_;refine⟨(q,d+1,i.2.2.1+1,i.2.2.2-1),(hI.yes hdv hn hmz).2 q hdn hqb,(by show i.2.2.2-1<i.2.2.2;omega),rfl,ai ⟨.refl _,.refl _,am (by show(d:Int)+1=((d+1:Nat):Int);omega),trivial⟩ ⟨rfl,trivial⟩⟩
 have hb1_:=dF0 hb1;have hn:i.1<=1:=by omega
 refine hZ ?_;refine⟨.inl rfl,?_⟩;rw[<- hxs,Uq];exact hI.fin hn
theorem yo(h:Nat) :
  CallG Tryz.prog 87 [Z (h:Int)] 147 (⟨false,1,3,[.v (.int .i64 ((h:Nat):Int))]⟩):=by
 refine GV Tryz.func87 (by kernel_rfl) rfl rfl (bL0 rfl)<|Yy ?_;refine ae (wj rfl)<|Yy ?_;exact⟨.inr rfl,2,1,rfl,rfl,rfl⟩
end
section
open Go Go.AM
attribute [local irreducible] RK Eff AWp
theorem xd(m:Mx)(q:Nat) :
  ak Tryz.prog 88 [AMx m,Z (q:Int)] (.fn 148 [[SL aO m],[.v (.int .i64 (q:Int))]]):=by
 refine q9 Tryz.func88 (by kernel_rfl) rfl rfl (bL0 rfl) rfl ?_;refine aE hP<|Zz ?_;refine bo (t:=2) rfl rfl ?_;refine bo (t:=3) rfl rfl ?_;refine Yy ?_;exact⟨.inr rfl,4,rfl,rfl⟩
theorem yp(D:Int)(g:List Fm)(m:Mx)(how:Int)(h:Nat)(hk:hkH m=true)(h0:∀ r∈m,r.length≠0)(h12:(bP m).length<=12)(hsq:fg (bP m).length (bP m)=true)(hh:h<=1000000)(hokd:okD (h+2) h 2=true)(hq:∀ q∈dvD (h+2) h 2,(1<=q∧q<=65536)∧okY (bP m) q (bP m).length (List.replicate (bP m).length 0) false=true)(hrel:∀ q∈dvD (h+2) h 2,∀ r∈(mpL (bP m) q (bP m).length (List.replicate (bP m).length 0) false),ak Tryz.prog 83 [GA D g m how,ARw r] (B false)) :
  ak Tryz.prog 30 [GA D g m how,Z (h:Int)] (B true):=by
 refine aq Tryz.func30 rfl rfl rfl rfl<|Yy ?_;refine ae (ab (Bh m hk h0))<|Yy ?_;refine bD ag (Eff.callG (yo h))<|Zz ?_;refine aR<|eh (t:=stL [(16,.fnl 147 16),(2,.loc 2 0),(4,.loc 4 0),(5,.loc 5 0)] ((16,⟨false,1,3,[.v (.int .i64 ((h:Nat):Int))]⟩)::[(2,⟨false,1,39,gaC D g m how⟩),(4,⟨false,1,4,[.v (.bool false)]⟩),(5,⟨false,1,37,[SL aO (bP m)]⟩)])) (ai ⟨.refl _,.refl _,.refl _,.refl _,trivial⟩ ⟨rfl,rfl,rfl,rfl,trivial⟩) ?_;refine yx (l:=[(2,.loc 2 0),(4,.loc 4 0),(5,.loc 5 0)]) (o:=c9 ((16,⟨false,1,3,[.v (.int .i64 ((h:Nat):Int))]⟩)::[(2,⟨false,1,39,gaC D g m how⟩),(4,⟨false,1,4,[.v (.bool false)]⟩),(5,⟨false,1,37,[SL aO (bP m)]⟩)])) 17 (fun _=>c9 [(2,⟨false,1,39,gaC D g m how⟩),(4,⟨false,1,4,[.v (.bool false)]⟩),(5,⟨false,1,37,[SL aO (bP m)]⟩)]) (fun _=>True) (K6 h hh hokd) rfl rfl rfl (Cv rfl) Pi rfl rfl rfl trivial (fun k x hx _=>?_) (fun _=>?_)
 ·obtain⟨q,hq1,rfl⟩:=R8 hx;obtain⟨hqb,hqo⟩:=hq q hq1;refine bp hP<|Zz ?_;refine x6 ?_;refine Qj ?_;refine D9 hP<|Zz ?_;refine ae (ab (xd (bP m) q))<|Zz ?_;refine x6 ?_;refine SU (t:=stL [(20,.fn 148 [[SL aO (bP m)],[.v (.int .i64 (q:Int))]]),(2,.loc 2 0),(4,.loc 4 0),(5,.loc 5 0)] [(2,⟨false,1,39,gaC D g m how⟩),(4,⟨false,1,4,[.v (.bool false)]⟩),(5,⟨false,1,37,[SL aO (bP m)]⟩)]) (ai ⟨.refl _,.refl _,.refl _,.refl _,trivial⟩ ⟨rfl,rfl,rfl,trivial⟩) ?_;refine Ea 17 (fun _=>c9 [(2,⟨false,1,39,gaC D g m how⟩),(4,⟨false,1,4,[.v (.bool false)]⟩),(5,⟨false,1,37,[SL aO (bP m)]⟩)]) (fun _=>True) rfl (K5 (bP m) q hqb h12 hsq hqo) Oi rfl rfl rfl trivial (fun k2 x2 hx2 _=>?_) (fun _=>?_)
  ·obtain⟨r,hr1,rfl⟩:=Rp hx2;refine Yy ?_;refine ae (ab (hrel q hq1 r hr1))<|Yy ?_;exact⟨GW.forget fun x=>SubO.own (l:=[(2,⟨false,1,39,gaC D g m how⟩),(4,⟨false,1,4,[.v (.bool false)]⟩),(5,⟨false,1,37,[SL aO (bP m)]⟩)]) ⟨rfl,rfl,rfl,trivial⟩ x,trivial⟩
  exact⟨GW.forget fun x=>SubO.own (l:=[(2,⟨false,1,39,gaC D g m how⟩),(4,⟨false,1,4,[.v (.bool false)]⟩),(5,⟨false,1,37,[SL aO (bP m)]⟩)]) ⟨rfl,rfl,rfl,trivial⟩ x,trivial⟩
 refine Yy ?_;refine bK rfl (.inr rfl) (vO hT rfl rfl rfl rfl rfl) ?_ bd;exact .refl _
end
section
open Go Go.AM
attribute [local irreducible] RK Eff AWp
theorem KC(r:List Int)(k:Nat)(hk:k<r.length)(h0:r.getD k 0≠0) :
  ak Tryz.prog 143 [ARw r,.ip [.v (.int .i64 (k:Int))]] (B true):=by
 refine aq Tryz.func143 rfl rfl rfl rfl<|Yy ?_;refine ae (aL hT aI (by decide) 0 (n:=(k:Int)) (l:=r) rfl rfl rfl rfl rfl rfl (by omega)) ?_;refine ae (au hT rfl rfl rfl (cs:=enI (r.getD k 0)) rfl rfl) ?_;refine ae (ab (bu _))<|Yy ?_;exact bn (by have hs:sgn (r.getD k 0)≠0:=fun e=>h0 (sgn_zero_iff.1 e);generalize sgn (r.getD k 0)=y at hs;simp[hs])
theorem KA(m:Mx)(k:Nat)(hk:k<m.length)(hm:m.length<=12)(hr:k<(mxr m k).length)(h0:mxg m k k≠0) :
  CallM Tryz.prog 142 [.axm (TlP 1 k) 0,.fn 143 [[.v (.int .i64 (k:Int))]]] (upd O 0 (some (VB 1 42 aO m))) (Z 0) (upd O 0 (some (VB 1 42 aO m))):=by
 have _:=hm;refine dk (np:=1) Tryz.func142 (by kernel_rfl) rfl rfl (bL0 rfl) eJ ff rfl<|Yy ?_;refine ae (yb hT rfl rfl rfl rfl rfl (l:=m.length) (a6 aG m))<|Zz ?_;refine aR<|bX 1<|Yy ?_;refine bH rfl (G6 (by omega))<|Yy ?_;refine ae (sV hT rfl rfl rfl rfl rfl rfl rfl (l:=m.length) (a6 aG m) rfl hk) ?_;refine ae (br hT (k:=k) (m:=m) rfl rfl rfl rfl (by omega)) ?_;refine ae (Eff.callC rfl (KC (mxr m k) k hr h0))<|Yy ?_;refine bK rfl (.inr rfl) (a8 rfl) ?_ (dX ?_);exact .refl _;exact rfl
theorem KB(m:Mx)(k i:Nat)(last u v:Int)(hk:k<m.length)(hl:k<(mxr m k).length)(hu:L 5 u)(hv:L 5 v)(ha:L 5 (mxg m k k))(hx:L 5 (mxg m i k))(hla:L 5 last)(h0:last≠0) :
  CallM Tryz.prog 145 [I u,I v,BN 0,.ip [.v (.int .i64 (k:Int))],.ip [zn (mxg m i k),zm (mxg m i k)],.loc 1 0] (upd (upd O 0 (some (VB 1 42 aO m))) 1 (some ⟨false,1,29,[zn last,zm last]⟩)) (I (dtF m k i last u v)) (upd (upd O 0 (some (VB 1 42 aO m))) 1 (some ⟨false,1,29,[zn last,zm last]⟩)):=by
 have iu:LB u 5:=⟨hu⟩
 have iv:LB v 5:=⟨hv⟩
 have ia:LB (mxg m k k) 5:=⟨ha⟩
 have ix:LB (mxg m i k) 5:=⟨hx⟩
 have il:LB last 5:=⟨hla⟩
 refine dk (np:=2) Tryz.func145 (by kernel_rfl) rfl rfl (bL0 rfl) yI vr rfl<|Yy ?_;refine ae (av hT aG (n:=k) (l:=m) rfl rfl rfl rfl (by rfl) rfl rfl rfl (by omega)) ?_;refine ae (br hT (k:=k) (m:=m) rfl rfl rfl rfl (by omega))<|Zz ?_;refine ae (aL hT aI (by decide) 0 (n:=(k:Int)) (l:=(mxr m k)) rfl rfl rfl rfl rfl rfl (by omega)) ?_;refine ae (au hT rfl rfl rfl (cs:=enI (mxg m k k)) rfl rfl) ?_;refine ae (ab (bS u (mxg m k k) lz lz)) ?_;refine ae (au hT rfl rfl rfl (cs:=[_,_]) rfl rfl)<|Zz ?_;refine ae (ab (bS (mxg m i k) v lz lz)) ?_;refine ae (ab (fC (u*mxg m k k) (mxg m i k*v) lz lz))<|Zz ?_;refine ae (ab (nC (u*mxg m k k-mxg m i k*v) last lz lz h0))<|Yy ?_;refine bK rfl (.inr rfl) (aA hT rfl rfl rfl rfl (cs:=[_,_]) rfl rfl) ?_ (we ?_ ?_);exact .refl _;exact rfl;exact rfl
theorem Kz(a b:List Int)(m:Mx)(k i:Nat)(last:Int)(f:Int->Int->Int)(hc:∀ j,j<a.length->CallM Tryz.prog 145 ([I (a.getD j 0),I (b.getD j 0)]++[BN 0,.ip [.v (.int .i64 (k:Int))],.ip [zn (mxg m i k),zm (mxg m i k)],.loc 1 0]) (upd (upd O 0 (some (VB 1 42 aO m))) 1 (some ⟨false,1,29,[zn last,zm last]⟩)) (I (f (a.getD j 0) (b.getD j 0))) (upd (upd O 0 (some (VB 1 42 aO m))) 1 (some ⟨false,1,29,[zn last,zm last]⟩)))(hl:b.length=a.length)(hle:(a.length:Int)<=1000000) :
  CallM Tryz.prog 144 [ARw a,ARw b,ClA 145 [.v (.int .i64 (k:Int))] [zn (mxg m i k),zm (mxg m i k)] 0 1] (upd (upd O 0 (some (VB 1 42 aO m))) 1 (some ⟨false,1,29,[zn last,zm last]⟩)) (ARw (eP f a b)) (upd (upd O 0 (some (VB 1 42 aO m))) 1 (some ⟨false,1,29,[zn last,zm last]⟩)):=by
 refine dk (np:=2) Tryz.func144 (by kernel_rfl) rfl rfl (bL0 rfl) yI vr rfl<|Yy ?_;refine bD ag (lA hT rfl rfl rfl rfl rfl rfl rfl rfl (by omega))<|Zz ?_;refine dm 11 1000 rfl rfl rfl<|Yy ?_;refine aC (ι:=List Int×Nat) (fun⟨o,j⟩=>stL [(0,ARw a),(1,ARw b),(2,ClA 145 [.v (.int .i64 (k:Int))] [zn (mxg m i k),zm (mxg m i k)] 0 1),(7,.vec 1000),(13,Z (a.length:Int)),(14,Z (j:Int))] [(1000,VB 2 29 enI o),(0,VB 1 42 aO m),(1,⟨false,1,29,[zn last,zm last]⟩)]) (fun⟨o,j⟩=>MixI f a b o j) (fun⟨_,j⟩=>a.length-j) (List.replicate ((a.length:Nat):Int).toNat 0,0) MixI.start (ai ⟨.refl _,.refl _,.refl _,.refl _,.refl _,.refl _,trivial⟩ ⟨rfl,rfl,rfl,trivial⟩) ?_;rintro⟨o,j⟩ hI;refine Yy ?_;refine ah rfl (fun hb1=>?_) (fun hb1=>?_)
 ·have hb1_:=dT0 hb1;have hj:j<a.length:=by omega
  refine Yy ?_;refine ae (aL hT aI (by decide) 0 (n:=(j:Int)) (l:=a) rfl rfl rfl rfl rfl rfl (by omega)) ?_;refine ae (au hT rfl rfl rfl (cs:=enI (a.getD j 0)) rfl rfl)<|Zz ?_;refine ae (aL hT aI (by decide) 0 (n:=(j:Int)) (l:=b) rfl rfl rfl rfl rfl rfl (by omega)) ?_;refine ae (au hT rfl rfl rfl (cs:=enI (b.getD j 0)) rfl rfl) ?_;refine RK.mutL ag (Eff.callMc (rd:=[0,1]) (o:=upd (upd O 0 (some (VB 1 42 aO m))) 1 (some ⟨false,1,29,[zn last,zm last]⟩)) (o':=upd (upd O 0 (some (VB 1 42 aO m))) 1 (some ⟨false,1,29,[zn last,zm last]⟩)) rfl ClA.caps (hc j hj) (NS rfl rfl rfl) vq rfl) ?_;refine ae (av hT aI rfl rfl rfl rfl (by rfl) rfl rfl rfl (by have:=hI.len;omega)) ?_;refine aZ ag (jj hT rfl rfl rfl rfl rfl (by have:=hI.len;omega))<|Yy ?_;refine aF rfl rfl ?_;refine Zz ?_;refine⟨(o.set j (f (a.getD j 0) (b.getD j 0)),j+1),hI.next hj,by show a.length-(j+1)<a.length-j;omega,ai ⟨.refl _,.refl _,.refl _,.refl _,.refl _,am (by omega),trivial⟩ ⟨rfl,rfl,rfl,trivial⟩⟩
 have hb1_:=dF0 hb1;refine aS ?_;have hje:j=a.length:=by have:=hI.le;omega
 subst hje;refine eF (encD:=enI) aI rfl (t:=7) rfl rfl ?_;rw[hI.done hl];refine Yy ?_;refine bK rfl (.inr rfl) (a8 rfl) ?_ (we ?_ ?_);exact .refl _;exact rfl;exact rfl
theorem C0(m:Mx)(hok:oy m=true)(hr:∀ r∈m,r.length=m.length) :
  ak Tryz.prog 84 [AMx m] (.t [PI (dtL m),PE 0]):=by
 obtain⟨h12,hpos⟩:=FI hok;have hrow:∀ i,i<m.length->(mxr m i).length=m.length:=fun i hi=>hr _ (ct [] hi)
 have h00:=hrow 0 hpos;have cRf:=kV m h12 (fun r hx=>⟨(hr r hx).trans h00.symm,by have:=hr r hx;omega,by have:=hr r hx;omega⟩);have cCp:=oE m (by omega) (fun r hx=>by have:=hr r hx;omega);refine aq Tryz.func84 rfl rfl rfl rfl<|Yy ?_;refine ae (ab cRf)<|Yy ?_;refine az rfl (dy hT rfl rfl rfl (by rfl)) ?_;refine az rfl (iL rfl rfl) ?_;refine Zz ?_;refine an (aw rfl rfl (G6 (by omega))) (aK (rfl:_=AV.p (.c _))) ?_;refine an (aw rfl rfl (G6 (by omega))) (aL hT aG (by decide) [] (n:=(0:Int)) (l:=m) rfl rfl rfl rfl rfl rfl (by omega)) ?_;refine an (aw rfl rfl (G6 (by omega))) (aM hT rfl rfl rfl (dv:=SL enI (mxr m 0)) rfl) ?_;refine an (aw rfl rfl (G6 (by omega))) (dy hT rfl rfl rfl (by rfl)) ?_;refine an (aw rfl rfl (G6 (by omega))) (aK (rfl:_=AV.p (.c _))) ?_;refine an (aw rfl rfl (G6 (by omega))) (dy hT rfl rfl rfl (by rfl)) ?_;refine an (aw rfl rfl (G6 (by omega))) (eZ rfl rfl) ?_;refine ae (cQ rfl (G6 (by omega)) (rfl:_=AV.p (.c _)))<|Zz ?_;refine aJ rfl (by simp[h00])<|Yy ?_;refine bD ag (Eff.callV cCp) ?_;refine ae (ab (HZ 1 (by decide)))<|Zz ?_;refine aZ ag (jm hT rfl rfl rfl rfl rfl rfl rfl (a6 aG m).symm (VL 0) rfl rfl rfl)<|Zz ?_;refine Az 5 35 1000 rfl rfl rfl rfl rfl rfl rfl ?_;refine Ha (t:=5) rfl rfl<|Yy ?_;refine ae (b7 hT aG rfl rfl rfl rfl rfl)<|Yy ?_;refine aC (ι:=Nat) (fun k=>stL [(2,.loc 2 0),(5,BN 1000),(6,.loc 6 0),(7,B false),(38,Z (m.length:Int)),(39,Z (k:Int))] [(2,⟨false,1,29,[zn 0,zm 0]⟩),(6,⟨false,1,29,[zn (dtA m k).2,zm (dtA m k).2]⟩),(1000,VB 1 42 aO (dtA m k).1)]) (fun k=>k<=m.length) (fun k=>m.length-k) 0 (Uv _) (ai ⟨.refl _,.refl _,.refl _,.refl _,.refl _,.refl _,trivial⟩ ⟨rfl,rfl,rfl,trivial⟩) ?_;intro k hk0;refine Yy ?_;refine ah rfl (fun hb3=>?_) (fun hb3=>?_)
 ·have hb3_:=dT0 hb3;have hk:k<m.length:=by omega
  have hg:=FJ hok hk;refine aT<|bi<|aR<|aE hP<|Zz ?_;refine bo (t:=8) rfl rfl ?_;refine Yy ?_;refine ae (yd hT rfl rfl rfl rfl rfl rfl rfl (l:=m.length) ((a6 aG _).trans (Ur (· * 1) (j0 m k))) rfl (by omega)) ?_;refine ae (iJ rfl)<|RK.mut ag (Eff.call (rd:=[1000]) (CallM.ren1 1000 (KA (dtA m k).1 k (by have:=j0 m k;omega) (by have:=j0 m k;omega) (by have:=(cE (hg.2.2.2 0 (by omega)) (i:=k) (by show k<(dtA m k).1.length;have:=j0 m k;omega)).1;show k<(mxr (dtA m k).1 k).length;have e:(mxr (dtA m k).1 k).length=m.length:=this;omega) hg.1) rfl rfl) (gG rfl) dN)<|Yy ?_;refine aF rfl rfl ?_;refine Yy ?_;refine aC (ι:=Nat) (fun j=>stL [(2,.loc 2 0),(5,BN 1000),(6,.loc 6 0),(7,B false),(38,Z (m.length:Int)),(39,Z (k:Int)),(8,.ip [.v (.int .i64 (k:Int))]),(10,Z ((k+1+j:Nat):Int))] [(2,⟨false,1,29,[zn 0,zm 0]⟩),(6,⟨false,1,29,[zn (dtA m k).2,zm (dtA m k).2]⟩),(1000,VB 1 42 aO (dtC k (dtA m k).2 (dtA m k).1 j))]) (fun j=>k+1+j<=m.length) (fun j=>m.length-j) 0 (by omega) (ai ⟨.refl _,.refl _,.refl _,.refl _,.refl _,.refl _,.refl _,.refl _,trivial⟩ ⟨rfl,rfl,rfl,trivial⟩) ?_;intro j hj0;refine Yy ?_;refine ae (b7 hT aG rfl rfl rfl rfl rfl)<|Zz ?_;refine ah rfl (fun hb4=>?_) (fun hb4=>?_)
  ·have hb4_:=dT0 hb4;have hln:(dtC k (dtA m k).2 (dtA m k).1 j).length=m.length:=(qd _ _ _ _).trans (j0 m k);have hjl:k+1+j<m.length:=by omega
   have hjn:j<m.length-k:=by omega
   have hsm:=hg.2.2.2 j hjn;have hsi:=cE hsm (i:=k+1+j) (by omega);have hsk:=cE hsm (i:=k) (by omega);have hcm:=Kz (mxr (dtC k (dtA m k).2 (dtA m k).1 j) (k+1+j)) (mxr (dtC k (dtA m k).2 (dtA m k).1 j) k) (dtC k (dtA m k).2 (dtA m k).1 j) k (k+1+j) (dtA m k).2 (dtF (dtC k (dtA m k).2 (dtA m k).1 j) k (k+1+j) (dtA m k).2) (fun q _=>KB (dtC k (dtA m k).2 (dtA m k).1 j) k (k+1+j) (dtA m k).2 _ _ (by omega) (by omega) (dS (ce hsi.2 q)) (dS (ce hsk.2 q)) (dS (ce hsk.2 k)) (dS (ce hsi.2 k)) hg.2.1 hg.2.2.1) (by omega) (by omega);refine Yy ?_;refine ae (av hT aG (n:=(k+1+j)) (l:=(dtC k (dtA m k).2 (dtA m k).1 j)) rfl rfl rfl rfl (by rfl) rfl rfl rfl (by omega)) ?_;refine ae (br hT (k:=(k+1+j)) (m:=(dtC k (dtA m k).2 (dtA m k).1 j)) rfl rfl rfl rfl (by omega))<|Zz ?_;refine ae (aL hT aI (by decide) 0 (n:=(k:Int)) (l:=(mxr (dtC k (dtA m k).2 (dtA m k).1 j) (k+1+j))) rfl rfl rfl rfl rfl rfl (by omega)) ?_;refine ae (au hT rfl rfl rfl (cs:=enI (mxg (dtC k (dtA m k).2 (dtA m k).1 j) (k+1+j) k)) rfl rfl)<|Zz ?_;refine bo (t:=11) rfl rfl ?_;refine Yy ?_;refine ae (av hT aG (n:=(k+1+j)) (l:=(dtC k (dtA m k).2 (dtA m k).1 j)) rfl rfl rfl rfl (by rfl) rfl rfl rfl (by omega)) ?_;refine ae (br hT (k:=(k+1+j)) (m:=(dtC k (dtA m k).2 (dtA m k).1 j)) rfl rfl rfl rfl (by omega))<|Zz ?_;refine ae (av hT aG (n:=k) (l:=(dtC k (dtA m k).2 (dtA m k).1 j)) rfl rfl rfl rfl (by rfl) rfl rfl rfl (by omega)) ?_;refine ae (br hT (k:=k) (m:=(dtC k (dtA m k).2 (dtA m k).1 j)) rfl rfl rfl rfl (by omega)) ?_;refine ae (uV rfl rfl rfl rfl)<|RK.mutL ag (Eff.call (rd:=[1000,6]) (CallM.ren2 1000 6 rfl hcm rfl rfl) (NS rfl rfl rfl) vq) ?_;refine ae (av hT aG (n:=(k+1+j)) (l:=(dtC k (dtA m k).2 (dtA m k).1 j)) rfl rfl rfl rfl (by rfl) rfl rfl rfl (by omega)) ?_;refine aZ ag (gp hT (k:=(k+1+j)) (m:=(dtC k (dtA m k).2 (dtA m k).1 j)) rfl rfl rfl rfl rfl (by omega))<|Yy ?_;refine aF rfl rfl ?_;refine Zz ?_;refine⟨j+1,by omega,by omega,ai ⟨.refl _,.refl _,.refl _,.refl _,.refl _,.refl _,.refl _,am (by omega),trivial⟩ ⟨rfl,rfl,rfl,trivial⟩⟩
  have hb4_:=dF0 hb4;have hln:(dtC k (dtA m k).2 (dtA m k).1 j).length=m.length:=(qd _ _ _ _).trans (j0 m k);have hje:j=m.length-(k+1):=by omega
  subst hje;have hlA:(dtA m (k+1)).1.length=m.length:=hln;have hrk:(mxr (dtA m (k+1)).1 k).length=m.length:=(cE (hg.2.2.2 (m.length-(k+1)) (by omega)) (by omega)).1;refine Yy ?_;refine ae (av hT aG (n:=k) (l:=(dtA m (k+1)).1) rfl rfl rfl rfl (by rfl) rfl rfl rfl (by omega)) ?_;refine ae (br hT (k:=k) (m:=(dtA m (k+1)).1) rfl rfl rfl rfl (by omega))<|Zz ?_;refine ae (aL hT aI (by decide) 0 (n:=(k:Int)) (l:=(mxr (dtA m (k+1)).1 k)) rfl rfl rfl rfl rfl rfl (by omega)) ?_;refine ae (au hT rfl rfl rfl (cs:=enI (mxg (dtA m (k+1)).1 k k)) rfl rfl)<|Yy ?_;refine aF rfl rfl ?_;refine Zz ?_;refine⟨k+1,by omega,by omega,ai ⟨.refl _,.refl _,.refl _,.refl _,.refl _,am (by omega),trivial⟩ ⟨rfl,rfl,rfl,trivial⟩⟩
 have hb3_:=dF0 hb3;refine Yy ?_;refine b9 rfl (.inr rfl) (aA hT rfl rfl rfl rfl (cs:=[_,_]) rfl rfl) (a8 rfl) ?_ bd;have hke:k=m.length:=by omega
 subst hke;exact .refl _
theorem FV(m:Mx)(hok:oy m=true)(hr:∀ r∈m,r.length=m.length) :
  ak Tryz.prog 28 [AMx m] (.t [PI (dtL m).natAbs,PE 0]):=by
 refine aq Tryz.func28 rfl rfl rfl rfl<|Yy ?_;refine ae (ab (C0 m hok hr))<|Yy ?_;refine ae (ab (jt (dtL m)))<|Yy ?_;refine b9 rfl (.inr rfl) (aA hT rfl rfl rfl rfl (cs:=[_,_]) rfl rfl) (a8 rfl) ?_ bd;exact .refl _
end
section
open Go Go.AM
attribute [local irreducible] RK Eff AWp
theorem Ry(a m:Int)(ha:L 30 a)(hm:L 30 m)(h0:0<m)(h1:Int.gcd a m=1) :
  ak Tryz.prog 120 [I a,I m] (.t [PI (bzU (a%m) m%m),PE 0]):=by
 have ia:LB a 30:=⟨ha⟩
 have im:LB m 30:=⟨hm⟩
 have e1:((Int.gcd (a%m) m:Nat):Int)=1:=by rw[XI,lK,h1];rfl
 have iu:LB (bzU (a%m) m) 30:=⟨L.of_le hm (by have:=nQ (a:=a%m) (b:=m) (by omega);omega)⟩
 refine aq Tryz.func120 rfl rfl rfl rfl<|Yy ?_;refine ae (ab (bu _))<|Zz ?_;refine aJ rfl (Ix (by have:=sgn_gt_iff.2 h0;omega))<|Yy ?_;refine ae (ab (nA _ _ lz lz (by omega)))<|Zz ?_;refine ae (ab (kW _ _ lz lz))<|Yy ?_;refine ae (ab (Be _))<|Zz ?_;refine aJ rfl (Ur not (G6 e1))<|Yy ?_;refine ae (ab (nA _ _ lz lz (by omega)))<|Yy ?_;refine b9 rfl (.inr rfl) (aA hT rfl rfl rfl rfl (cs:=[_,_]) rfl rfl) (a8 rfl) ?_ bd;exact .refl _
theorem Rx(a m:Int)(ha:L 40 a)(hm:L 40 m)(h0:0<m) :
  ak Tryz.prog 121 [I a,I m] (.t [PI (a%m),PE 0]):=by
 have ia:LB a 40:=⟨ha⟩
 have im:LB m 40:=⟨hm⟩
 refine aq Tryz.func121 rfl rfl rfl rfl<|Yy ?_;refine ae (ab (bu _))<|Zz ?_;refine aJ rfl (Ix (by have:=sgn_gt_iff.2 h0;omega))<|Yy ?_;refine ae (ab (nA _ _ lz lz (by omega)))<|Yy ?_;refine b9 rfl (.inr rfl) (aA hT rfl rfl rfl rfl (cs:=[_,_]) rfl rfl) (a8 rfl) ?_ bd;exact .refl _
theorem jJ(z:Int)(hz:aH z) :
  ak Tryz.prog 56 [Z z] (I z):=by
 refine aq Tryz.func56 rfl rfl rfl rfl<|Yy ?_;refine ae (ab (bL z hz))<|Yy ?_;exact .refl _
theorem xH(x:Int) :
  ak Tryz.prog 182 [I x] (B (decide (x=1))):=by
 refine aq Tryz.func182 rfl rfl rfl rfl<|Yy ?_;refine ae (ab (jJ _ (by first|assumption|decide))) ?_;refine ae (ab (cL _ _))<|Yy ?_;exact bn (by rw[Vg];simp[cmpI_eq_zero])
theorem xI(a b c p q r:Int) :
  ak Tryz.prog 54 [FA a b c,FA p q r] (B (decide (a=p∧b=q∧c=r))):=by
 refine aq Tryz.func54 rfl rfl rfl rfl<|Yy ?_;refine ae (ab (cL _ _))<|Zz ?_;refine aU (t:=11) rfl (fun hg1=>?_) (fun hg1=>?_)
 ·have hg1_:=bT hg1;refine Zz ?_;refine az hg1 (aN hT rfl rfl rfl rfl (cs:=[_,_]) rfl rfl) ?_;refine Zz ?_;refine az hg1 (aN hT rfl rfl rfl rfl (cs:=[_,_]) rfl rfl) ?_;refine az hg1 (ab (cL _ _)) ?_;refine Zz ?_;refine aU (t:=19) rfl (fun hg2=>?_) (fun hg2=>?_)
  ·have hg2_:=bT hg2;refine Zz ?_;refine az hg2 (aN hT rfl rfl rfl rfl (cs:=[_,_]) rfl rfl) ?_;refine Zz ?_;refine az hg2 (aN hT rfl rfl rfl rfl (cs:=[_,_]) rfl rfl) ?_;refine az hg2 (ab (cL _ _)) ?_;refine Yy ?_;exact bn (R4 hg1 hg2)
  have hg2_:=bF hg2;refine Yy ?_;exact bn (R5 hg1 hg2)
 have hg1_:=bF hg1;refine Yy ?_;exact bn (R6 hg1)
theorem jI(a b c:Int)(ha:L 20 a)(hb:L 20 b)(hc:L 20 c) :
  ak Tryz.prog 51 [FA a b c] (.p (PE (rfE ⟨a,b,c⟩))):=by
 have ia:LB a 20:=⟨ha⟩
 have ib:LB b 20:=⟨hb⟩
 have ic:LB c 20:=⟨hc⟩
 refine aq Tryz.func51 rfl rfl rfl rfl<|Yy ?_;refine ae (ab (mO _ _ _ lz lz lz))<|Yy ?_;refine ah rfl (fun hb1=>?_) (fun hb1=>?_)
 ·have hb1_:=cg hb1;refine Yy ?_;exact ao (Ur (fun x=>AV.p (PE x)) (QT (f:=⟨a,b,c⟩) (T3 hb1)))
 have hb1_:=ci hb1;refine Yy ?_;refine ae (ab (ga _ _ _ lz lz lz)) ?_;refine ae (ab (bu _))<|Zz ?_;refine ah rfl (fun hb2=>?_) (fun hb2=>?_)
 ·have hb2_:=dT0 hb2;refine Yy ?_;exact ao (Ur (fun x=>AV.p (PE x)) (QS (f:=⟨a,b,c⟩) (BD hb1) hb2_))
 have hb2_:=dF0 hb2;refine Yy ?_;refine ae (ab (ki _ _ _ lz lz lz))<|Zz ?_;refine ah rfl (fun hb3=>?_) (fun hb3=>?_)
 ·have hb3_:=(dV hb3)
  refine Yy ?_;exact ao (Ur (fun x=>AV.p (PE x)) (QR (f:=⟨a,b,c⟩) (BD hb1) hb2_ (dV hb3)))
 have hb3_:=(dI hb3)
 refine Yy ?_;exact ao (Ur (fun x=>AV.p (PE x)) (QQ (f:=⟨a,b,c⟩) (BD hb1) hb2_ (dI hb3)))
theorem nM(a b c:Int)(ha:L 26 a)(hb:L 26 b)(hc:L 26 c) :
  ak Tryz.prog 57 [FA a b c] (FA (rdF a b c).a (rdF a b c).b (rdF a b c).c):=by
 have ia:LB a 26:=⟨ha⟩
 have ib:LB b 26:=⟨hb⟩
 have ic:LB c 26:=⟨hc⟩
 refine aq Tryz.func57 rfl rfl rfl rfl<|Yy ?_;refine ae (ab (vU _ _ _ lz lz lz))<|Yy ?_;refine bK rfl (.inr rfl) (aA hT rfl rfl rfl rfl (cs:=[_,_,_,_,_,_]) rfl rfl) ?_ bd;exact .refl _
theorem oV(a b c:Int)(ha:L 20 a)(hb:L 20 b)(hc:L 20 c) :
  ak Tryz.prog 52 [FA a b c] (FA (prF (dsc a b c)).a (prF (dsc a b c)).b (prF (dsc a b c)).c):=by
 have ia:LB a 20:=⟨ha⟩
 have ib:LB b 20:=⟨hb⟩
 have ic:LB c 20:=⟨hc⟩
 refine aq Tryz.func52 rfl rfl rfl rfl<|Yy ?_;refine ae (ab (ga _ _ _ lz lz lz)) ?_;refine ae (ab (iH _ lz))<|Yy ?_;refine bK rfl (.inr rfl) (aA hT rfl rfl rfl rfl (cs:=[_,_,_,_,_,_]) rfl rfl) ?_ bd;exact .refl _
theorem Bz(f:Fm)(w:Int)(hfa:L 6 f.a)(hfb:L 6 f.b)(hfc:L 6 f.c)(hw:L 6 w)(h0:w≠0)(pf:prim f.a f.b f.c=true) :
  ak Tryz.prog 119 [FA f.a f.b f.c,I w] (FA (cpF f w).a (cpF f w).b (cpF f w).c):=by
 have ifa:LB f.a 6:=⟨hfa⟩
 have ifb:LB f.b 6:=⟨hfb⟩
 have ifc:LB f.c 6:=⟨hfc⟩
 have iw:LB w 6:=⟨hw⟩
 obtain⟨hR,hN1,hN2⟩:=vi pf h0 hw;refine aq Tryz.func119 rfl rfl rfl rfl<|Yy ?_;refine aC (ι:=Nat) (fun k=>stL [(2,.loc 2 0),(3,.loc 3 0),(4,.loc 4 0),(5,Z (k:Int))] [(2,⟨false,1,52,FL f.a f.b f.c⟩),(3,⟨false,1,29,[zn (w),zm (w)]⟩),(4,⟨false,1,52,FL 0 0 0⟩)]) (fun k=>CpI f w k) (fun k=>9100000000000000000-k) 1 (CpI.start hN1) (ai ⟨.refl _,.refl _,.refl _,.refl _,trivial⟩ ⟨rfl,rfl,rfl,trivial⟩) ?_;intro k i;have kb:=i.nb;have k1:=i.n1;refine Yy ?_;refine aF rfl rfl ?_;refine Yy ?_;refine aC (ι:=Nat) (fun x=>stL [(2,.loc 2 0),(3,.loc 3 0),(4,.loc 4 0),(5,Z (k:Int)),(14,Z ((k:Int)+1)),(15,Z (x:Int))] [(2,⟨false,1,52,FL f.a f.b f.c⟩),(3,⟨false,1,29,[zn (w),zm (w)]⟩),(4,⟨false,1,52,FL 0 0 0⟩)]) (fun x=>x<=k+1∧∀ y,y<x->cpG f w k y=false) (fun x=>k+1-x) 0 ⟨by omega,fun y hy=>by omega⟩ (ai ⟨.refl _,.refl _,.refl _,.refl _,am (by omega),.refl _,trivial⟩ ⟨rfl,rfl,rfl,trivial⟩) ?_;rintro x ⟨hx,hno⟩;refine Yy ?_;refine ah rfl (fun hb1=>?_) (fun hb1=>?_)
 ·have hb1_:=dT0 hb1;have jx:aH (x:Int):=by unfold aH;omega
  have jy:aH ((k:Int)-x):=by unfold aH;omega
  have ix:LB (x:Int) 6:=⟨kY (by omega)⟩
  have iy:LB ((k:Int)-x) 6:=⟨kY (by omega)⟩
  obtain⟨iu,iv⟩:=Ih (x:=(x:Int)) (y:=(k:Int)-x) (by omega) (by omega);refine Yy ?_;refine ae (aY rfl rfl (by first|exact iW0 _ (by omega)|rfl))<|Yy ?_;refine ae (ab (jJ _ jx))<|Zz ?_;refine ae (ab (jJ _ jy)) ?_;refine ae (ab (kW _ _ lz lz))<|Yy ?_;refine ae (ab (xH _))<|Zz ?_;refine aU (t:=32) rfl (fun hg2=>?_) (fun hg2=>?_)
  ·refine az hg2 (aN hT rfl rfl rfl rfl (cs:=[_,_,_,_,_,_]) rfl rfl) ?_;refine Zz ?_;refine az hg2 (ab (jJ _ jx)) ?_;refine Zz ?_;refine az hg2 (ab (jJ _ jy)) ?_;refine az hg2 (ab (sS _ _ _ _ _ lz lz lz lz lz)) ?_;refine az hg2 (aN hT rfl rfl rfl rfl (cs:=[_,_]) rfl rfl) ?_;refine az hg2 (ab (pS _ _ lz lz)) ?_;refine az hg2 (ab (xH _)) ?_;refine Zz ?_;refine ah rfl (fun hb3=>?_) (fun hb3=>?_)
   ·refine Yy ?_;refine ae (ab (jJ _ jx))<|Zz ?_;refine ae (ab (gS _))<|Zz ?_;refine ae (ab (jJ _ jy))<|Zz ?_;refine ae (ab (zd _ _ _ _ _ _ _ lz lz lz lz lz lz lz))<|Yy ?_;refine bK rfl (.inr rfl) (aA hT rfl rfl rfl rfl (cs:=[_,_,_,_,_,_]) rfl rfl) ?_ bd;obtain⟨q1,q2⟩:=i.found hN2 (by omega) hno (Lw hg2 hb3);exact ao (GH q1 q2)
   refine Yy ?_;refine aF rfl rfl ?_;refine Zz ?_;refine⟨x+1,⟨by omega,Dx hno (Lx hb3)⟩,by omega,ai ⟨.refl _,.refl _,.refl _,.refl _,.refl _,am (by omega),trivial⟩ ⟨rfl,rfl,rfl,trivial⟩⟩
  refine Yy ?_;refine aF rfl rfl ?_;refine Zz ?_;refine⟨x+1,⟨by omega,Dx hno (Ly hg2)⟩,by omega,ai ⟨.refl _,.refl _,.refl _,.refl _,.refl _,am (by omega),trivial⟩ ⟨rfl,rfl,rfl,trivial⟩⟩
 have hb1_:=dF0 hb1;refine Yy ?_;refine aF rfl rfl ?_;refine Zz ?_;refine⟨k+1,i.next hN2 (fun y hy=>hno y (by omega)),by omega,ai ⟨.refl _,.refl _,.refl _,am (by omega),trivial⟩ ⟨rfl,rfl,rfl,trivial⟩⟩
theorem nN(f g:Fm)(hf:Cl (dsc f.a f.b f.c) f)(hg:Cl (dsc f.a f.b f.c) g)(hfa:L 6 f.a)(hfb:L 6 f.b)(hfc:L 6 f.c)(hga:L 6 g.a)(hgb:L 6 g.b)(hgc:L 6 g.c) :
  ak Tryz.prog 60 [FA f.a f.b f.c,FA g.a g.b g.c] (FA (mlt f g).a (mlt f g).b (mlt f g).c):=by
 have ifa:LB f.a 6:=⟨hfa⟩
 have ifb:LB f.b 6:=⟨hfb⟩
 have ifc:LB f.c 6:=⟨hfc⟩
 have iga:LB g.a 6:=⟨hga⟩
 have igb:LB g.b 6:=⟨hgb⟩
 have igc:LB g.c 6:=⟨hgc⟩
 have hfa0:f.a≠0:=by have:=hf.pos.1;omega
 obtain⟨hG,eG,hGc⟩:=Pq hg hfa0 hfa;obtain⟨gLa,gLb,gLc⟩:=Se hg.prim hfa0 hfa hga hgb hgc;have cC:=Bz g f.a hga hgb hgc hfa hfa0 hg.prim;have hfin:=Fk hf hg hG eG hGc;generalize cpF g f.a=G at hG eG hGc gLa gLb gLc cC hfin;have hGa0:0<G.a:=hG.pos.1;have iu:LB (bzU (f.a%G.a) G.a%G.a) 14:=⟨L.of_le gLa.le (by have:=UF (bzU (f.a%G.a) G.a) (show G.a≠0 by omega);have:=UK (bzU (f.a%G.a) G.a) hGa0;omega)⟩
 have hA4:4*(f.a*G.a)≠0:=by have:=VX hf.pos.1 hGa0;omega
 have cI:=Ry f.a G.a lz lz hGa0 (by rw[XI];exact hGc);generalize bzU (f.a%G.a) G.a%G.a=i at iu cI hfin;refine aq Tryz.func60 rfl rfl rfl rfl<|Yy ?_;refine ae (ab cC)<|Yy ?_;refine ae (ab (ga _ _ _ lz lz lz))<|Yy ?_;refine ae (ab (fC _ _ lz lz)) ?_;refine ae (ab (jJ 2 (by decide))) ?_;refine ae (ab (bG _ _ lz lz (by decide)))<|Yy ?_;refine ae (ab cI)<|Yy ?_;refine ae (ab (bS _ _ lz lz))<|Zz ?_;refine ae (ab (Rx _ _ lz lz hGa0))<|Yy ?_;refine ae (ab (bS _ _ lz lz))<|Yy ?_;refine ae (ab (jJ 2 (by decide)))<|Zz ?_;refine ae (ab (bS _ _ lz lz)) ?_;refine ae (ab (bS _ _ lz lz)) ?_;refine ae (ab (dQ _ _ lz lz))<|Yy ?_;refine ae (ab (bS _ _ lz lz))<|Zz ?_;refine ae (ab (fC _ _ lz lz)) ?_;refine ae (ab (jJ 4 (by decide)))<|Zz ?_;refine ae (ab (bS _ _ lz lz)) ?_;refine ae (ab (bG _ _ lz lz hA4))<|Yy ?_;refine ae (ab (nM _ _ _ lz lz lz))<|Yy ?_;refine bK rfl (.inr rfl) (aA hT rfl rfl rfl rfl (cs:=[_,_,_,_,_,_]) rfl rfl) ?_ bd;exact ao (by rw[<- hfin])
theorem kX(f g:Fm)(hfa:L 6 f.a)(hfb:L 6 f.b)(hfc:L 6 f.c)(hga:L 6 g.a)(hgb:L 6 g.b)(hgc:L 6 g.c) :
  ak Tryz.prog 78 [FA f.a f.b f.c,FA g.a g.b g.c] (.t [PF (cmV f g),PE (cmE f g)]):=by
 have ifa:LB f.a 6:=⟨hfa⟩
 have ifb:LB f.b 6:=⟨hfb⟩
 have ifc:LB f.c 6:=⟨hfc⟩
 have iga:LB g.a 6:=⟨hga⟩
 have igb:LB g.b 6:=⟨hgb⟩
 have igc:LB g.c 6:=⟨hgc⟩
 refine aq Tryz.func78 rfl rfl rfl rfl<|Yy ?_;refine ae (db hT rfl rfl rfl (es:=[_,_,_,_,_,_,_,_,_,_,_,_]) rfl rfl rfl)<|Yy ?_;refine aC (ι:=Nat) (fun k=>stL [(2,.loc 2 0),(3,.loc 3 0),(4,.loc 4 0),(11,.p (.c (FsL [f,g]))),(12,Z 2),(13,Z (k:Int))] [(2,⟨false,1,52,FL f.a f.b f.c⟩),(3,⟨false,1,52,FL g.a g.b g.c⟩),(4,⟨false,1,52,FL 0 0 0⟩)]) (fun k=>k<=2∧∀ j,j<k->rfE ([f,g].getD j ⟨0,0,0⟩)=0) (fun k=>2-k) 0 ⟨by omega,fun j hj=>by omega⟩ (ai ⟨.refl _,.refl _,.refl _,.refl _,.refl _,.refl _,trivial⟩ ⟨rfl,rfl,rfl,trivial⟩) ?_;rintro k ⟨hk,hno⟩;refine Yy ?_;refine ah rfl (fun hb1=>?_) (fun hb1=>?_)
 ·have hb1_:=dT0 hb1;have hk2:(k:Int)<2:=hb1_;obtain⟨q1,q2,q3⟩:L 20 ([f,g].getD k ⟨0,0,0⟩).a∧L 20 ([f,g].getD k ⟨0,0,0⟩).b∧L 20 ([f,g].getD k ⟨0,0,0⟩).c:=by
   rcases yJ (f:=f) (g:=g) hk2 with⟨_,e⟩|⟨_,e⟩ <;> rw[e] <;> exact⟨lz,lz,lz⟩
  refine Yy ?_;refine ae (CF hT rfl rfl rfl rfl rfl rfl (by simp;omega)) ?_;refine ae (au hT rfl rfl rfl (cs:=FC ([f,g].getD k ⟨0,0,0⟩)) rfl rfl)<|Yy ?_;refine ae (ab (jI _ _ _ q1 q2 q3))<|Yy ?_;refine ah rfl (fun hb2=>?_) (fun hb2=>?_)
  ·have hb2_:=cg hb2;refine Yy ?_;refine b9 rfl (.inr rfl) (aA hT rfl rfl rfl rfl (cs:=[_,_,_,_,_,_]) rfl rfl) (a8 rfl) ?_ bd;exact ao (DM (LG hk2 hno hb2_) hb2_)
  have hb2_:=ci hb2;refine Yy ?_;refine aF rfl rfl ?_;refine Zz ?_;refine⟨k+1,⟨by omega,R3 hno hb2_⟩,by omega,ai ⟨.refl _,.refl _,.refl _,.refl _,.refl _,am (by omega),trivial⟩ ⟨rfl,rfl,rfl,trivial⟩⟩
 have hb1_:=dF0 hb1;have r0:rfE f=0:=hno 0 (by omega);have r1:rfE g=0:=hno 1 (by omega);refine Yy ?_;refine ae (ab (ga _ _ _ lz lz lz))<|Zz ?_;refine ae (ab (ga _ _ _ lz lz lz)) ?_;refine ae (ab (cL _ _))<|Zz ?_;refine ah rfl (fun hb3=>?_) (fun hb3=>?_)
 ·have hb3_:=cg hb3;refine Yy ?_;refine b9 rfl (.inr rfl) (aA hT rfl rfl rfl rfl (cs:=[_,_,_,_,_,_]) rfl rfl) (a8 rfl) ?_ bd;exact ao (DM (Sk r0 r1 (fun e=>hb3_ (cmpI_eq_zero.2 e))) (by decide))
 have hb3_:=ci hb3;have hdd:dsc f.a f.b f.c=dsc g.a g.b g.c:=cmpI_eq_zero.1 hb3_;have hcm:=Sj r0 r1 hdd;obtain⟨cl1,cl2⟩:=Px hcm;refine Yy ?_;refine ae (ab (nN f g cl1 cl2 hfa hfb hfc hga hgb hgc))<|Yy ?_;refine b9 rfl (.inr rfl) (aA hT rfl rfl rfl rfl (cs:=[_,_,_,_,_,_]) rfl rfl) (a8 rfl) ?_ bd;exact ao (Sf hcm)
end
section
open Go Go.AM
attribute [local irreducible] RK Eff AWp
theorem qA(D:Int)(f g:Fm)(hf:Cl D f)(hg:Cl D g)(hfa:L 6 f.a)(hfb:L 6 f.b)(hfc:L 6 f.c)(hga:L 6 g.a)(hgb:L 6 g.b)(hgc:L 6 g.c):ak Tryz.prog 60 [FA f.a f.b f.c,FA g.a g.b g.c] (FA (mlt f g).a (mlt f g).b (mlt f g).c):=by
 have e:=hf.disc;subst e;exact nN f g hf hg hfa hfb hfc hga hgb hgc
end
section
open Go Go.AM
attribute [local irreducible] RK Eff AWp
theorem GK(D:Int)(f o x:Fm)(n:Int)(hf:Cl D f)(ho:o=prP D)(hx:x=f.rd)(_h0:0<=n)(hn:L 30 n)(hD:n=0∨-1000000000000000000<=D) :
  ak Tryz.prog 116 [FA o.a o.b o.c,FA x.a x.b x.c,I n,.p (.c (.v (.func (.func 60) #[] #[])))] (FA (pw D f n.natAbs).a (pw D f n.natAbs).b (pw D f n.natAbs).c):=by
 subst ho hx;have hbl:=xP hn;refine aq Tryz.func116 rfl rfl rfl rfl<|Yy ?_;refine ae (ab (w5 _))<|Yy ?_;refine aC (ι:=Nat) (fun i=>stL [(3,.p (.c (.v (.func (.func 60) #[] #[])))),(4,.loc 4 0),(5,.loc 5 0),(6,.loc 6 0),(8,.loc 8 0),(11,Z (aV n.natAbs:Nat)),(12,Z (i:Int))] [(4,⟨false,1,52,FL (pw D f (n.natAbs%2^i)).a (pw D f (n.natAbs%2^i)).b (pw D f (n.natAbs%2^i)).c⟩),(5,⟨false,1,52,FL (pw D f (2^i)).a (pw D f (2^i)).b (pw D f (2^i)).c⟩),(6,⟨false,1,29,[zn (n),zm (n)]⟩),(8,⟨false,1,52,FL 0 0 0⟩)]) (fun i=>i<=aV n.natAbs) (fun i=>aV n.natAbs-i) 0 (Uv _) (ai ⟨.refl _,.refl _,.refl _,.refl _,.refl _,.refl _,.refl _,trivial⟩ ⟨Eq.trans rfl (Ur (fun x:Fm=>some (⟨false,1,52,FL x.a x.b x.c⟩:Blk)) (up_start.symm)),Eq.trans rfl (Ur (fun x:Fm=>some (⟨false,1,52,FL x.a x.b x.c⟩:Blk)) ((vV hf).symm)),rfl,rfl,trivial⟩) ?_;intro i hib;refine Yy ?_;refine ah rfl (fun hb1=>?_) (fun hb1=>?_)
 ·have hb1_:=dT0 hb1;have hi:i<aV n.natAbs:=by omega
  have hlen:=AF hi;have hD1:-1000000000000000000<=D:=hD.resolve_left (fun e=>by rw[e]at hi;exact absurd hi (by simp[aV]));obtain⟨a1,a2,a3⟩:=Ch (cA hf (n.natAbs%2^i)).1 (cA hf (n.natAbs%2^i)).2 hD1;obtain⟨b1,b2,b3⟩:=Ch (cA hf (2^i)).1 (cA hf (2^i)).2 hD1;refine aT<|bi<|aR<|aE hP<|Zz ?_;refine bR (ι:=Unit) (fun _=>stL [(3,.p (.c (.v (.func (.func 60) #[] #[])))),(4,.loc 4 0),(5,.loc 5 0),(6,.loc 6 0),(8,.loc 8 0),(11,Z (aV n.natAbs:Nat)),(12,Z (i:Int))] [(4,⟨false,1,52,FL (pw D f (n.natAbs%2^(i+1))).a (pw D f (n.natAbs%2^(i+1))).b (pw D f (n.natAbs%2^(i+1))).c⟩),(5,⟨false,1,52,FL (pw D f (2^i)).a (pw D f (2^i)).b (pw D f (2^i)).c⟩),(6,⟨false,1,29,[zn (n),zm (n)]⟩),(8,⟨false,1,52,FL 0 0 0⟩)]) (fun _=>True) ?_ ?_
  ·refine Yy ?_;refine ae (bV rfl rfl (by decide) (c:=((i/32:Nat):Int)) (by rw[Uz (by omega),iW0 _ (by omega)];omega)) ?_;refine ae (gq (n:=i/32) hT rfl rfl rfl rfl rfl rfl hlen) ?_;refine ae (aM hT rfl rfl rfl (jP hlen))<|Zz ?_;refine ae (cf rfl rfl (by decide) (c:=((i%32:Nat):Int)) (by rw[UH (by omega)];omega)) ?_;refine ae (eK (j:=i%32) (m:=(wl n.natAbs).getD (i/32) 0) rfl rfl (by have:=Vc i (show 32>0 by decide);show _<=32;omega)) ?_;refine ae (pH (m:=(wl n.natAbs).getD (i/32) 0/2^(i%32)) (n:=1) rfl rfl rfl (jU (Pl _ _ _)) (by decide))<|Zz ?_;refine ah rfl (fun hb2=>?_) (fun hb2=>?_)
   ·have hb2_:=bT hb2;refine Yy ?_;refine ae (Eff.callF rfl (qA D _ _ (cA hf _).1 (cA hf _).1 a1 a2 a3 b1 b2 b3))<|Zz ?_;refine⟨(),trivial,ai ⟨.refl _,.refl _,.refl _,.refl _,.refl _,.refl _,.refl _,trivial⟩ ⟨Eq.trans rfl (Ur (fun x:Fm=>some (⟨false,1,52,FL x.a x.b x.c⟩:Blk)) (Mu hf (LV hb2))),rfl,rfl,rfl,trivial⟩⟩
   have hb2_:=bF hb2;refine aT ?_;refine⟨(),trivial,ai ⟨.refl _,.refl _,.refl _,.refl _,.refl _,.refl _,.refl _,trivial⟩ ⟨Eq.trans rfl (Ur (fun x:Fm=>some (⟨false,1,52,FL x.a x.b x.c⟩:Blk)) (Qp (PS hb2))),rfl,rfl,rfl,trivial⟩⟩
  intro _ _;refine Yy ?_;refine ae (Eff.callF rfl (qA D _ _ (cA hf _).1 (cA hf _).1 b1 b2 b3 b1 b2 b3))<|Yy ?_;refine aF rfl rfl ?_;refine Zz ?_;refine⟨i+1,by omega,by omega,ai ⟨.refl _,.refl _,.refl _,.refl _,.refl _,.refl _,am (by omega),trivial⟩ ⟨rfl,Eq.trans rfl (Ur (fun x:Fm=>some (⟨false,1,52,FL x.a x.b x.c⟩:Blk)) (Qo hf i)),rfl,rfl,trivial⟩⟩
 have hb1_:=dF0 hb1;refine Yy ?_;refine bK rfl (.inr rfl) (aA hT rfl rfl rfl rfl (cs:=[_,_,_,_,_,_]) rfl rfl) ?_ bd;exact ao (by rw[show i=aV n.natAbs by omega,Mv])
theorem xG(f:Fm)(n:Int)(hf:Cl (dsc f.a f.b f.c) f)(hfa:L 6 f.a)(hfb:L 6 f.b)(hfc:L 6 f.c)(hn:L 20 n)(hD:n=0∨-1000000000000000000<=(dsc f.a f.b f.c)) :
  ak Tryz.prog 55 [FA f.a f.b f.c,I n] (FA (zpw (dsc f.a f.b f.c) f n).a (zpw (dsc f.a f.b f.c) f n).b (zpw (dsc f.a f.b f.c) f n).c):=by
 have ifa:LB f.a 6:=⟨hfa⟩
 have ifb:LB f.b 6:=⟨hfb⟩
 have ifc:LB f.c 6:=⟨hfc⟩
 have in_:LB n 20:=⟨hn⟩
 refine aq Tryz.func55 rfl rfl rfl rfl ?_;refine aE hP<|Zz ?_;refine bR (ι:=Fm×Int) (fun p=>stL [(2,.loc 2 0),(3,.loc 3 0),(4,.loc 4 0)] [(2,⟨false,1,52,FL p.1.a p.1.b p.1.c⟩),(3,⟨false,1,29,[zn (p.2),zm (p.2)]⟩),(4,⟨false,1,52,FL 0 0 0⟩)]) (fun p=>SgI f n p) ?_ ?_
 ·refine Yy ?_;refine ah rfl (fun hb1=>?_) (fun hb1=>?_)
  ·refine Yy ?_;refine ae (ab (gS _))<|Zz ?_;refine ae (ab (gS _))<|Zz ?_;refine⟨(f.mi,-n),.inl ⟨dT0 hb1,rfl,rfl⟩,ai ⟨.refl _,.refl _,.refl _,trivial⟩ ⟨rfl,rfl,rfl,trivial⟩⟩
  refine aT ?_;refine⟨(f,n),.inr ⟨dF0 hb1,rfl,rfl⟩,ai ⟨.refl _,.refl _,.refl _,trivial⟩ ⟨rfl,rfl,rfl,trivial⟩⟩
 rintro p hS;obtain⟨hcl,hz,hp0,hpn⟩:=hS.cl hf;obtain⟨l1,l2,l3⟩:=hS.L hfa hfb hfc;have j1:LB p.1.a 6:=⟨l1⟩
 have j2:LB p.1.b 6:=⟨l2⟩
 have j3:LB p.1.c 6:=⟨l3⟩
 have j4:L 30 p.2:=L.of_le (hn.mono (by decide)) (by omega);have j5:LB p.2 30:=⟨j4⟩
 have hbl:=xP j4;have ho:prF (dsc p.1.a p.1.b p.1.c)=prP (dsc f.a f.b f.c):=by rw[hcl.disc];exact(gm hf).1
 have hD2:p.2=0∨-1000000000000000000<=(dsc f.a f.b f.c):=hD.imp (fun e=>by omega) (fun e=>e);refine Yy ?_;refine ae (ab (oV _ _ _ lz lz lz))<|Zz ?_;refine ae (ab (nM _ _ _ lz lz lz))<|Zz ?_;refine ae (ab (GK (dsc f.a f.b f.c) p.1 _ _ p.2 hcl ho rfl hp0 j4 hD2))<|Yy ?_;refine bK rfl (.inr rfl) (aA hT rfl rfl rfl rfl (cs:=[_,_,_,_,_,_]) rfl rfl) ?_ bd;exact ao (by rw[hz])
theorem GM(f:Fm)(n:Int)(hfa:L 6 f.a)(hfb:L 6 f.b)(hfc:L 6 f.c)(hn:L 20 n)(hD:rfE f=0->n=0∨-1000000000000000000<=(dsc f.a f.b f.c)) :
  ak Tryz.prog 195 [FA f.a f.b f.c,I n] (.t [PF (pwV f n),PE (rfE f)]):=by
 have ifa:LB f.a 6:=⟨hfa⟩
 have ifb:LB f.b 6:=⟨hfb⟩
 have ifc:LB f.c 6:=⟨hfc⟩
 have in_:LB n 20:=⟨hn⟩
 refine aq Tryz.func195 rfl rfl rfl rfl<|Yy ?_;refine ae (ab (jI _ _ _ lz lz lz))<|Yy ?_;refine ah rfl (fun hb1=>?_) (fun hb1=>?_)
 ·have hb1_:=cg hb1;refine Yy ?_;refine b9 rfl (.inr rfl) (aA hT rfl rfl rfl rfl (cs:=[_,_,_,_,_,_]) rfl rfl) (a8 rfl) ?_ bd;exact ao (NM hb1_)
 have hb1_:=ci hb1;have h0:rfE f=0:=hb1_;refine Yy ?_;refine ae (ab (xG f n (lx h0) hfa hfb hfc hn (hD h0)))<|Yy ?_;refine b9 rfl (.inr rfl) (aA hT rfl rfl rfl rfl (cs:=[_,_,_,_,_,_]) rfl rfl) (a8 rfl) ?_ bd;exact ao (Q2 h0)
end
end Go.Proofs.YtpnomhdachaifaaGreatDoor
