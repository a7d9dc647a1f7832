import Derived.Test.YtpnomhdachaifaaGreatDoorHEF
import Derived.Test.YtpnomhdachaifaaGreatDoorHEH
import Derived.Test.YtpnomhdachaifaaGreatDoorHEC
import Derived.Test.YtpnomhdachaifaaGreatDoorHED
import Derived.Test.YtpnomhdachaifaaGreatDoorHEB
import Derived.Laws.IdiomRangeMap
import Derived.Maps.RangeRun
import Derived.Laws.Strings
import Derived.Laws.IdiomStrings
import Derived.Shelf.Strings.OnBuilder
import Derived.Shelf.Strconv.Itoa3
set_option maxRecDepth 100000
namespace Go.AM
open Go Go.RowKit
section
variable {D:Int}{f:Fm}
theorem AO(hf:Cl D f):mlt f f=prP D↔f.mi.rd=f.rd:=by
 have hm:=fT hf;constructor
 ·intro h;refine(s9 hf hm hf ?_).symm;rw[h,fS hm hf,mR hf]
 intro h;rw[<- mR hf];exact(jo hf hf hf hm rfl h.symm)
theorem DU(hf:Cl D f)(hr:Rd f):amb f=true↔f.mi.rd=f:=by
 have hp:=hf.pos;unfold amb;rw[VE,VE,decide_eq_true_iff,decide_eq_true_iff,decide_eq_true_iff];constructor
 ·rintro(h|h|h)
  ·have e:f.mi=f:=Fm.ext rfl (by show -f.b=f.b;omega) rfl;rw[e];exact fP hr hp
  ·have e:f.mi=f.app ⟨1,-1,0,1⟩:=Fm.ext (by simp only[Fm.mi,Fm.app,vl,apB];grind) (by simp only[Fm.mi,Fm.app,vl,apB];grind) (by simp only[Fm.mi,Fm.app,vl,apB];grind);rw[e,mN hp (by decide)];exact fP hr hp
  have e:f.mi=f.app ⟨0,-1,1,0⟩:=Fm.ext (by simp only[Fm.mi,Fm.app,vl,apB];grind) (by simp only[Fm.mi,Fm.app,vl,apB];grind) (by simp only[Fm.mi,Fm.app,vl,apB];grind);rw[e,mN hp (by decide)];exact fP hr hp
 intro h;rcases Classical.em (f.b=0∨f.a=f.b∨f.a=f.c)with q|q
 ·exact q
 obtain⟨r1,r2,r3,r4⟩:=hr;have hr2:Rd f.mi:=⟨r1,by show((-f.b).natAbs:Int)<=f.a;omega,r3,by show(((-f.b).natAbs:Int)<f.a∧f.a<f.c)∨0<=-f.b;omega⟩
 rw[fP hr2 (fT hf).pos]at h;have:-f.b=f.b:=Ur Fm.b h;omega
theorem L2{l:List Fm}(w:Whole D l):l.filter amb=rtW l (prP D):=by
 unfold rtW;refine VV fun x hx=>?_
 obtain⟨a,b⟩:=(w.mem x).1 hx;have hr:Rd x:=b▸a.rd_Rd;have e:(prP D).rd=prP D:=jA a;rw[e,Vg,decide_eq_true_iff,DU a hr,AO a,b]
end
theorem RZ(D:Nat):(prW (lst (szz D))).length*(rtW (lst (szz D)) (prP (-szz D))).length=(lst (szz D)).length:=by
 have h:=Dr D;have hs:=dj D;rw[<- L2 (jr (n:=szz D) (by omega)),h.2];exact h.1
section
variable {β:Type}{encD:β->List DV}{k:Nat}
theorem a6(hL:∀ b,(encD b).length=k)(l:List β):(l.flatMap encD).length=l.length*k:=by
 induction l with
 |nil=>simp
 |cons b l ih=>rw[UP,UB,ih,hL,U5,Vt];omega
end
abbrev enI(z:Int):List DV:=[zn z,zm z]
theorem aI(z:Int):(enI z).length=2:=rfl
section
variable {β:Type}{encD:β->List DV}{z:Nat}
abbrev SL(encD:β->List DV)(l:List β):DV:=.sl l.length (l.flatMap encD)
abbrev VB(z:Nat)(e:TypeId)(encD:β->List DV)(l:List β):Blk:=⟨true,z,e,l.flatMap encD⟩
theorem oP(hL:∀ b,(encD b).length=z):∀ (l:List β) (i:Nat) (h:i<l.length),(l.flatMap encD).drop (i*z)=encD l[i]++(l.drop (i+1)).flatMap encD
 |x::l,0,_=>by simp
 |x::l,i+1,h=>by
  have ih:=oP hL l i (by simpa using h);have e:(i+1)*z=(encD x).length+i*z:=by rw[hL,Vt,Xm,Nat.add_comm]
  rw[e,UP,List.drop_length_add_append,ih];simp
theorem uH(hL:∀ b,(encD b).length=z):∀ (l:List β) (n:Nat),(l.take n).flatMap encD=(l.flatMap encD).take (n*z)
 | [],n=>by simp
 |x::l,0=>by simp
 |x::l,n+1=>by
  have e:(n+1)*z=(encD x).length+n*z:=by rw[hL,Vt,Xm,Nat.add_comm]
  rw[List.take_succ_cons,UP,UP,e,List.take_length_add_append,uH hL l n]
variable {P:Program}{tt:TT}(hT:bM P tt)
variable {dst:Option Nat}{ty:TypeId}{pos:String}{af:Array Edge}{gd:Option (Nat×Bool)}{d:Nat}{ρ:Operand->AV}{own:Own}
variable {T e:TypeId}{i j:TyI}{x y:Operand}
include hT
theorem aL(hL:∀ b,(encD b).length=z)(hz:0<z)(b0:β){k:IntKind}{n:Int}{l:List β}(ht:tt T=some i)(hs:i.sh=.sl e)(he:tt e=some j)(hj:j.size=z)(hx:ρ x=.p (.c (SL encD l)))(hy:ρ y=.p (.c (.v (.int k n))))(hn:0<=n∧n<l.length) :
  Eff P ⟨dst,.indexAddr T x y,ty,pos,af,gd⟩ d ρ own (.ip (encD (l.getD n.toNat b0)++(l.drop (n.toNat+1)).flatMap encD)) [] none []:=by
 have hi:n.toNat<l.length:=by omega
 have h:=b8 (dst:=dst) (ty:=ty) (pos:=pos) (af:=af) (gd:=gd) (d:=d) (own:=own) hT ht hs he hx (l:=l.length) (xs:=l.flatMap encD) (by rfl) hy hn (by
  intro h0;have:=a6 hL l;rw[h0]at this;have h1:1*1<=l.length*z:=VJ (by omega) hz;simp at this;omega)
 rw[hj,oP hL l n.toNat hi]at h;have e1:l.getD n.toNat b0=l[n.toNat]:=by simp[List.getD,hi]
 rw[e1];exact h
theorem ep(hL:∀ b,(encD b).length=z)(hz:Nat.blt 0 z=true){m:Nat}{l:List β}{b:β}(ht:tt T=some i)(hs:i.sh=.sl e)(he:tt e=some j)(hj:j.size=z)(hjb:Nat.ble j.bytes (32*z)=true)(hx:ρ x=.vec m)(hb:own m=some (VB z e encD l))(hy:ρ y=.p (.c (.sl 1 (encD b))))(hfit:l.length<=10000000)(hmd:m≠d)(hzb:Nat.ble z 96=true) :
  Eff P ⟨dst,.call ⟨.builtin .append,#[x,y],#[T,T]⟩,ty,pos,af,gd⟩ d ρ own (.vec d) [(m,none)] (some (VB z e encD (l++[b]))) [m]:=by
 have hl:(VB z e encD l).cs.length=l.length*z:=a6 hL l;have hz2:=bL0 hzb;have h1:l.length*z<=10000000*96:=VJ hfit hz2;have h:=gI (dst:=dst) (ty:=ty) (pos:=pos) (af:=af) (gd:=gd) hT ht hs he hx hb rfl hj.symm rfl hy (by rfl) (by rw[hj,Xm];exact hL b) (by rw[hj];exact hjb) (by rw[hl,hj];omega) (by rw[hj];exact hz) hmd;unfold VB;rw[VF];rw[hj]at h;simpa using h
theorem av(hL:∀ b,(encD b).length=z){m:Nat}{k:IntKind}{n:Nat}{l:List β}{be:TypeId}(ht:tt T=some i)(hs:i.sh=.sl e)(he:tt e=some j)(hj:j.size=z)(hz:Nat.blt 0 z=true)(hx:ρ x=.vec m)(hb:own m=some (VB z be encD l))(hy:ρ y=.p (.c (.v (.int k (n:Int)))))(hn:n<l.length) :
  Eff P ⟨dst,.indexAddr T x y,ty,pos,af,gd⟩ d ρ own (.loc m (n*z)) [] none [m]:=by
 have hz1:0<z:=by simpa using hz
 have h2:n*z<l.length*z:=V4 hn hz1;have h:=lB (dst:=dst) (ty:=ty) (pos:=pos) (af:=af) (gd:=gd) (d:=d) hT ht hs he hx hb rfl hj.symm hy ⟨by omega,by
  rw[hj];show(_+1)*_<=(l.flatMap encD).length;rw[a6 hL];exact Uy z (by omega)⟩ (by rw[hj];exact hz)
 rw[hj]at h;exact h
theorem b7(hL:∀ b,(encD b).length=z)(hz:Nat.blt 0 z=true){m:Nat}{l:List β}{be:TypeId}(ht:tt T=some i)(hs:i.sh=.sl e)(hx:ρ x=.vec m)(hb:own m=some (VB z be encD l)) :
  Eff P ⟨dst,.call ⟨.builtin .len,#[x],#[T]⟩,ty,pos,af,gd⟩ d ρ own (.p (.c (.v (.int .i64 (l.length:Nat))))) [] none [m] :=
 nu hT ht hs hx hb rfl hz (a6 hL l).symm
theorem cU(hL:∀ b,(encD b).length=z)(b0:β){m n:Nat}{l:List β}{be:TypeId}(ht:tt T=some i)(hg:i.sh.agg=true)(hz:i.size=z)(hx:ρ x=.loc m (n*z))(hb:own m=some (VB z be encD l))(hn:n<l.length) :
  Eff P ⟨dst,.load T x,ty,pos,af,gd⟩ d ρ own (.p (.a (encD (l.getD n b0)))) [] none [m]:=by
 have e1:l.getD n b0=l[n]:=by simp[List.getD,hn]
 rw[e1];exact aN hT ht hg hx hb (oP hL l n hn) (by rw[hz];exact hL _)
end
section
variable {β:Type}{encD:β->List DV}{z:Nat}
theorem eF{P:Program}{B:Bool}{N np:Nat}{Q:Exit->St->Prop}{s:St}{c:Code}(hL:∀ b,(encD b).length=z)(hz:Nat.blt 0 z=true){t m:Nat}{l:List β}{e:TypeId}(ht:s.regs t=.vec m)(hb:s.own m=some (VB z e encD l))(h:AWp P B N np c Q ⟨upd s.regs t (.p (.c (SL encD l))),upd s.own m none⟩):AWp P B N np c Q s :=
 fe (n:=l.length) ht hb rfl (a6 hL l).symm (show 0<z by simpa using hz) h
end
section
variable {P:Program}{tt:TT}(hT:bM P tt)
variable {dst:Option Nat}{ty:TypeId}{pos:String}{af:Array Edge}{gd:Option (Nat×Bool)}{d:Nat}{ρ:Operand->AV}{own:Own}
variable {T e:TypeId}{i j:TyI}{x y:Operand}
include hT
theorem yc{m n l z:Nat}{k:IntKind}{be:TypeId}{cs:List DV}(ht:tt T=some i)(hs:i.sh=.sl e)(he:tt e=some j)(_hj:j.size=z)(hz:Nat.blt 0 z=true)(hx:ρ x=.vec m)(hb:own m=some ⟨true,z,be,cs⟩)(hcs:cs.length=l*z)(hy:ρ y=.p (.c (.v (.int k (n:Int)))))(hn:n<=l) :
  Eff P ⟨dst,.slice T x (some y) none none,ty,pos,af,gd⟩ d ρ own (.ax fun _ v=>∃ a c,v=.slice a (l-n) c) [] none [m] :=
 aP fun C h r own' a w hrep hrd hw=>by
  have e1:=hrep x (by simp[Op.operands]);have e2:=hrep y (by simp[Op.operands]);rw[hx]at e1;rw[hy]at e2;have hz1:0<z:=by simpa using hz
  have hold:=hw.ow m _ ((hrd m (by simp)).trans hb);rw[BlkRep.slE rfl hz1]at hold;obtain⟨ad,l',cap,q1,q2,q3,q4,_⟩:=hold;have hl:l'=l:=U4 hz1 (q2.trans hcs);subst hl;have v1:a.eval x=.slice ad l' cap:=(show a.eval x=r m from e1).trans q1;have v2:a.eval y=.int k (n:Int):=bh e2;have hu:=(hT T i ht).slice hs;have hel:P.elem T=e:=by simp[Program.elem,hu]
  have hu':P.underlying T=some (.slice (P.elem T)):=by rw[hel];exact hu
  refine⟨sliced ad n l' cap j.size,?_,fun h' _=>⟨_,_,rfl⟩⟩;simp only[execOp,v1,Option.map_some,Option.map_none,v2,Sem.run_bind,run_sliceAt_slice w T _ _ _ _ hu',run_slice_l w T _ l' cap hu' k (n:Int) (by omega) (by omega),hel,(hT e j he).size,Result.andThen_ok,Sem.run_pure,Int.toNat_natCast]
theorem CA{n:Nat}(ht:tt T=some i)(hs:i.sh=.sl e)(hx:ρ x=.ax fun _ v=>∃ a c,v=.slice a n c):Eff P ⟨dst,.call ⟨.builtin .len,#[x],#[T]⟩,ty,pos,af,gd⟩ d ρ own (.p (.c (.v (.int .i64 n)))) [] none [] :=
 gv (fun C h r own' a w hrep _=>by
  have e1:=hrep x (by simp);rw[hx]at e1;obtain⟨ad,c,e2⟩:=e1 h (fun _ _ _ e=>e);simp[builtin,e2,Builtin.len_,run_underlying ((hT T i ht).slice hs),goInt]) rfl
end
theorem BJ{P:Program}{tt:TT}(hT:bM P tt){B:Bool}{N np:Nat}{Q:Exit->St->Prop}{s:St}{id t0 t5 t36 t37 t38 m T e be:Nat}{i j:TyI}{n l z:Nat}{cs:List DV}{y1 y2 y3 y4:TypeId}{p1 p2 p3 p4:String}{a1 a2 a3 a4:Array Edge}(ht:tt T=some i)(hs:i.sh=.sl e)(he:tt e=some j)(hj:j.size=z)(hx:s.regs t0=.vec m)(hb:s.own m=some ⟨true,z,be,cs⟩)(hcs:cs.length=l*z)(hy:s.regs t5=.p (.c (.v (.int .i64 (n:Int)))))(hn:n<l)(hz:Nat.blt 0 z=true)(hd1:(!Nat.beq t5 t36)=true)(hd2:(!Nat.beq t36 t37)=true)(hN:(Nat.blt t36 N&&Nat.blt t37 N&&Nat.blt t38 N)=true)(h:∀ zs:List DV,zs.length=(l-n)*z->Q .normal ⟨upd (upd (upd s.regs t36 .junk) t37 .junk) t38 .junk,upd s.own m (some ⟨true,z,be,cs.take (n*z)++zs⟩)⟩) :
  AWp P B N np (.region id #[⟨some t36,.move (.tmp t0),y1,p1,a1,none⟩,⟨some t37,.move (.tmp t5),y2,p2,a2,none⟩,⟨some t38,.slice T (.tmp t36) (some (.tmp t37)) none none,y3,p3,a3,none⟩,
   ⟨none,.call ⟨.builtin .clear,#[.tmp t38],#[T]⟩,y4,p4,a4,none⟩] false) Q s:=by
 intro ro hB C hh r a w hnp hc;have hz1:0<z:=by simpa using hz
 simp only[Bool.and_eq_true,Nat.blt_eq]at hN;obtain⟨⟨n1,n2⟩,n3⟩:=hN;have hd1':t5≠t36:=fun e=>by rw[e]at hd1;simp at hd1
 have hd2':t36≠t37:=fun e=>by rw[e]at hd2;simp at hd2
 have hs0:a.tmps.size=N:=hc.sz;have hu:=(hT T i ht).slice hs;have r0:=hc.rg t0;have r5:=hc.rg t5;rw[hx]at r0;rw[hy]at r5;have v0:a.eval (.tmp t0)=r m:=r0;have v5:a.eval (.tmp t5)=.int .i64 (n:Int):=bh r5;have hold:=hc.wk.ow m _ hb;rw[BlkRep.slE rfl hz1]at hold;obtain⟨ad,l',cap,q1,q2,q3,q4,q5⟩:=hold;have hl:l'=l:=U4 hz1 (q2.trans hcs);subst hl;rcases q5 with q5|⟨k',c0,rfl,o2,o3,o4⟩
 ·omega
 apply wpIn_region;show wpOpsIn (Wd ro) 0 P _ _ [0,1,2,3] a w;rw[wpOpsIn_cons];refine dw (o:=⟨some t36,.move (.tmp t0),y1,p1,a1,none⟩) rfl rfl rfl (x:=r m) (w':=w) (by simp only[execOp,v0,Sem.run_pure]) ?_;rw[wpOpsIn_cons];have g1:(a.put (some t36) (r m)).eval (.tmp t5)=.int .i64 (n:Int):=by
  rw[<- v5];simp[Act.put,Act.eval,hd1'.symm]
 refine dw (o:=⟨some t37,.move (.tmp t5),y2,p2,a2,none⟩) rfl rfl rfl (x:=.int .i64 (n:Int)) (w':=w) (by simp only[execOp,g1,Sem.run_pure]) ?_;rw[wpOpsIn_cons];have g2:((a.put (some t36) (r m)).put (some t37) (.int .i64 (n:Int))).eval (.tmp t36)=r m:=by
  simp[Act.put,Act.eval,hs0,n1,hd2'.symm]
 have g3:((a.put (some t36) (r m)).put (some t37) (.int .i64 (n:Int))).eval (.tmp t37)=.int .i64 (n:Int):=by
  simp[Act.put,Act.eval,hs0,n2]
 obtain⟨q,hq⟩:∃ q,l'-n=q+1:=⟨l'-n-1,by omega⟩
 have hel:P.elem T=e:=by simp[Program.elem,hu]
 have hu':P.underlying T=some (.slice (P.elem T)):=by rw[hel];exact hu
 have hcl:sliced (some ⟨k',0,none⟩) (n:Int).toNat l' cap j.size=.slice (some ⟨k',n*z,none⟩) (q+1) (cap-n):=by
  simp only[sliced,Int.toNat_natCast];rw[G2 (by omega),hq,hj];simp[Addr.add_lit]
 refine dw (o:=⟨some t38,.slice T (.tmp t36) (some (.tmp t37)) none none,y3,p3,a3,none⟩) rfl rfl rfl (x:=.slice (some ⟨k',n*z,none⟩) (q+1) (cap-n)) (w':=w) (by
  simp only[execOp,g2.trans q1,Option.map_some,Option.map_none,g3,Sem.run_bind,run_sliceAt_slice w T _ _ _ _ hu',run_slice_l w T _ l' cap hu' .i64 (n:Int) (by omega) (by omega),hel,(hT e j he).size,Result.andThen_ok,Sem.run_pure,hcl]) ?_
 rw[wpOpsIn_cons];have g4:(((a.put (some t36) (r m)).put (some t37) (.int .i64 (n:Int))).put (some t38) (.slice (some ⟨k',n*z,none⟩) (q+1) (cap-n))).eval (.tmp t38)=.slice (some ⟨k',n*z,none⟩) (q+1) (cap-n):=by
  simp[Act.put,Act.eval,hs0,n3]
 obtain⟨w',c',k1,k2,k3,k4,k5,k6⟩:=tQ (T:=T) (ty:=y4) (q:=q) (cap:=cap-n) (off:=n*z) (h:=hh) hu (hT e j he) o2 (by
  rw[hj,o3,<- Vt];exact Uy z (by omega))
 rw[hj]at k6;refine dw (o:=⟨none,.call ⟨.builtin .clear,#[.tmp t38],#[T]⟩,y4,p4,a4,none⟩) rfl rfl rfl (x:=.tuple #[]) (w':=w') (by
  apply eC;simp only[List.map_toArray,List.map_cons,List.map_nil,g4,builtin,Sem.run_bind,k1,Result.andThen_ok,Sem.run_pure]) ?_
 let zs:List DV:=(List.range ((q+1)*z)).map fun p=>j.zero.getD (p%z) (.v (.bool false))
 have hzl:zs.length=(q+1)*z:=by simp[zs]
 have hnl:n*z<=cs.length:=by rw[hcs];exact Uy z (by omega)
 show ∃ s' h' r',Q .normal s'∧Conc C N h' r' s' _ _;refine⟨_,hh,r,h zs (by rw[hzl,hq]),?_,?_,?_,?_⟩
 ·simp[Act.put];exact hs0
 ·exact hc.df
 ·have r1:=(show RegsOK hh r s.regs a from hc.rg).put (dst:=some t36) (fun d' e=>by cases e;omega) (v:=.junk) (x:=r m) trivial;have r2:=r1.put (dst:=some t37) (fun d' e=>by cases e;simp[Act.put];omega) (v:=.junk) (x:=.int .i64 (n:Int)) trivial;exact r2.put (dst:=some t38) (fun d' e=>by cases e;simp[Act.put];omega) (v:=.junk) (x:=.slice (some ⟨k',n*z,none⟩) (q+1) (cap-n)) trivial
 refine hc.wk.write (by rw[hb];simp) (i:=k') (by rw[q1];simp only[aD];rw[G2 (by omega)]) k2 ?_ (by intro j hj;cases hj);rw[BlkRep.slE (b:=⟨true,z,_,cs.take (n*z)++zs⟩) rfl hz1];have hlen:(cs.take (n*z)++zs).length=l'*z:=by
  rw[UB,hzl,Us,Vu hnl,<- hq,<- Vt];congr 1;omega
 refine⟨_,l',cap,q1,by rw[hlen],q3,q4,.inr ⟨k',c',rfl,k3,by rw[k4,o3],?_⟩⟩;rw[DReps.iff];intro p dv hp;have htl:(cs.take (n*z)).length=n*z:=by rw[Us,Vu hnl]
 by_cases hpn:p<n*z
 ·rw[UQ (by rw[htl];exact hpn),List.getElem?_take_of_lt hpn]at hp;rw[k5 p hpn];exact o4.get _ _ hp
 rw[US (by rw[htl];omega),htl]at hp;have hlt:=(Uu.1 hp).1;rw[hzl]at hlt;obtain⟨y,y1,y2⟩:=k6 (p-n*z) hlt;have e1:n*z+(p-n*z)=p:=by omega
 rw[e1]at y1;refine⟨y,y1,?_⟩;simp only[zs,List.getElem?_map,List.getElem?_range hlt,Option.map_some,Option.some.injEq]at hp;rw[<- hp];exact y2
section ins
variable {β:Type}(c:β->β->Bool)(z:β)
def swF(l:List β)(j:Nat):List β:=(l.set j (l.getD (j-1) z)).set (j-1) (l.getD j z)
def kK(l:List β):Nat->List β
 |0=>l
 |j+1=>if c (l.getD (j+1) z) (l.getD j z)=true then kK (swF z l (j+1)) j else l
def gB(l:List β):Nat->List β
 |0=>l
 |k+1=>kK c z (gB l k) (k+1)
variable {c z}
theorem mH(l:List β)(j:Nat):(swF z l j).length=l.length:=by unfold swF;rw[UL,UL]
theorem wU:∀ (j:Nat) (l:List β),(kK c z l j).length=l.length
 |0,l=>rfl
 |j+1,l=>by
  unfold kK;split
  ·rw[wU j,mH]
  rfl
theorem l6(l:List β):∀ k,(gB c z l k).length=l.length
 |0=>rfl
 |k+1=>(wU _ _).trans (l6 l k)
theorem ON{l:List β}{j:Nat}(h:c (l.getD (j+1) z) (l.getD j z)=true):kK c z l (j+1)=kK c z (swF z l (j+1)) j:=H2 h
theorem OO{l:List β}{j:Nat}(h:¬ c (l.getD (j+1) z) (l.getD j z)=true):kK c z l (j+1)=l:=G2 h
theorem sI{l:List β}{j a:Nat}(h1:1<=j)(h2:j<l.length):(swF z l j).getD a z=if a=j then l.getD (j-1) z else if a=j-1 then l.getD j z else l.getD a z:=by
 unfold swF;rw[As,VH,VH];by_cases e1:a=j
 ·subst e1;rw[G2 (by omega),H2 rfl,H2 rfl];rw[H2 h2];rfl
 by_cases e2:a=j-1
 ·rw[H2 e2.symm,G2 e1,H2 e2,H2 (by rw[UL];omega)];rfl
 rw[G2 (fun x=>e2 x.symm),G2 (fun x=>e1 x.symm),G2 e1,G2 e2,<- As]
theorem EX{l:List β}{j:Nat}(h1:1<=j)(h2:j<l.length):(swF z l j).Perm l:=by
 have e:l=l.take (j-1)++l[j-1]'(by omega)::l[j]::l.drop (j+1):=by
  have e3:l[j]::l.drop (j+1)=l.drop j:=(Vn h2).symm;have e4:=(Vn (show j-1<l.length by omega)).symm;rw[show j-1+1=j by omega]at e4;rw[e3,e4,Wi]
 have e2:swF z l j=l.take (j-1)++l[j]::l[j-1]'(by omega)::l.drop (j+1):=by
  refine Xp fun a=>?_
  have h3:∀ (x:List β) (a:Nat),x[a]?=if a<x.length then some (x.getD a z)else none:=fun x a=>by
   by_cases ha:a<x.length
   ·rw[H2 ha,As,Fl ha];rfl
   rw[G2 ha,UU (by omega)]
  rw[h3,mH,sI h1 h2];have g:∀ i (h:i<l.length),l.getD i z=l[i]:=fun i h=>by rw[As,Fl h];rfl
  rw[Xx,Us,Vu (by omega)];by_cases c1:a<j-1
  ·rw[H2 c1,H2 (by omega),G2 (by omega),G2 (by omega),VY,H2 c1,g a (by omega),Fl]
  rw[G2 c1];by_cases c2:a=j-1
  ·subst c2;rw[H2 (by omega),G2 (by omega),H2 rfl,WE,g j h2];rfl
  by_cases c3:a=j
  ·subst c3;rw[H2 h2,H2 rfl,show a-(a-1)=1 by omega,g (a-1) (by omega)];rfl
  rw[G2 c3,G2 c2,show a-(j-1)=(a-(j+1))+1+1 by omega,W0,W0,VC,show j+1+(a-(j+1))=a by omega];by_cases c4:a<l.length
  ·rw[H2 c4,g a c4,Fl c4]
  rw[G2 c4,UU (by omega)]
 rw[e2];conv=>rhs;rw[e]
 exact List.Perm.append_left _ (List.Perm.swap _ _ _)
theorem uE:∀ (j:Nat) (l:List β),j<l.length->(kK c z l j).Perm l
 |0,l,_=>.refl _
 |j+1,l,h=>by
  unfold kK;split
  ·exact(uE j _ (by rw[mH];omega)).trans (EX (by omega) h)
  exact .refl _
theorem r6(l:List β):∀ k,k<l.length->(gB c z l k).Perm l
 |0,_=>.refl _
 |k+1,h=>(uE (k+1) _ (by rw[l6];exact h)).trans (r6 l k (by omega))
def SrE(c:β->β->Bool)(z:β)(l:List β)(n j:Nat):Prop:=∀ a b,a<b->b<n->b≠j->c (l.getD b z) (l.getD a z)=false
def SrP(c:β->β->Bool)(z:β)(l:List β)(n:Nat):Prop:=∀ a b,a<b->b<n->c (l.getD b z) (l.getD a z)=false
theorem wS(hi:∀ x y,c x y=true->c y x=false)(ht:∀ x y w,c x y=false->c y w=false->c x w=false) :
  ∀ (j n:Nat) (l:List β),j<n->n<=l.length->SrE c z l n j->SrP c z (kK c z l j) n
 |0,n,l,h1,h2,h=>fun a b ha hb=>h a b ha hb (by omega)
 |j+1,n,l,h1,h2,h=>by
  unfold kK;by_cases hc:c (l.getD (j+1) z) (l.getD j z)=true
  ·rw[H2 hc];refine wS hi ht j n _ (by omega) (by rw[mH];exact h2) fun a b ha hb hne=>?_
   rw[sI (z:=z) (l:=l) (j:=j+1) (a:=b) (by omega) (by omega),sI (z:=z) (l:=l) (j:=j+1) (a:=a) (by omega) (by omega)];rw[show j+1-1=j by omega];by_cases e1:b=j+1
   ·subst e1;rw[H2 rfl,G2 (by omega)];by_cases e2:a=j
    ·rw[H2 e2];exact hi _ _ hc
    rw[G2 e2];exact h a j (by omega) (by omega) (by omega)
   rw[G2 e1,G2 hne];by_cases e2:a=j+1
   ·rw[H2 e2];exact h j b (by omega) hb (by omega)
   rw[G2 e2];by_cases e3:a=j
   ·rw[H2 e3];exact h (j+1) b (by omega) hb (by omega)
   rw[G2 e3];exact h a b ha hb (by omega)
  rw[G2 hc];intro a b ha hb;by_cases e:b=j+1
  ·subst e;have hc':c (l.getD (j+1) z) (l.getD j z)=false:=by simpa using hc
   by_cases e2:a=j
   ·subst e2;exact hc'
   exact ht _ _ _ hc' (h a j (by omega) (by omega) (by omega))
  exact h a b ha hb e
theorem uA(hi:∀ x y,c x y=true->c y x=false)(ht:∀ x y w,c x y=false->c y w=false->c x w=false)(l:List β) :
  ∀ k,k<l.length->SrP c z (gB c z l k) (k+1)
 |0,_=>fun a b ha hb=>by omega
 |k+1,h=>wS hi ht (k+1) (k+1+1) _ (by omega) (by rw[l6];omega) fun a b ha hb hne=>uA hi ht l k (by omega) a b ha (by omega)
end ins
theorem tO{β:Type}{r:β->β->Prop}:∀ {l l':List β},l.Perm l'->l.Pairwise (fun x y=>¬ r y x)->l'.Pairwise (fun x y=>¬ r y x)->(∀ x∈l,∀ y∈l,¬ r x y->¬ r y x->x=y)->l=l'
 | [],l',hp,_,_,_=>(List.nil_perm.1 hp).symm
 |x::l,[],hp,_,_,_=>absurd hp (by simp)
 |x::l,y::l',hp,h1,h2,ha=>by
  have hxy:x=y:=by
   rcases Vh.1 (hp.mem_iff.1 (by simp:x∈x::l))with e|e
   ·exact e
   rcases Vh.1 (hp.mem_iff.2 (by simp:y∈y::l'))with e2|e2
   ·exact e2.symm
   exact ha x (by simp) y (by simp[e2]) (by
    have:=(Wm.1 h2).1 x e;exact this) ((Wm.1 h1).1 y e2)
  subst hxy;rw[tO ((List.perm_cons x).1 hp) (Wm.1 h1).2 (Wm.1 h2).2 fun p hp q hq=>ha p (by simp[hp]) q (by simp[hq])]
theorem yU:∀ (xs:List DV) (n:Nat) (vs ys:List DV),vs≠[]->spl (xs.length+n) vs (xs++ys)=xs++spl n vs ys
 | [],n,vs,ys,_=>by simp
 |x::xs,n,[],ys,h=>absurd rfl h
 |x::xs,n,v::vs,ys,h=>by
  have ih:=yU xs n (v::vs) ys h;rw[U5,show xs.length+1+n=(xs.length+n)+1 by omega,XA,XA];simp only[spl];rw[ih]
theorem B5:∀ (vs ws ys:List DV),vs.length=ws.length->spl 0 vs (ws++ys)=vs++ys
 | [],[],ys,_=>by simp[spl]
 |v::vs,w::ws,ys,h=>by
  rw[XA,XA];simp only[spl];rw[B5 vs ws ys (by simpa using h)]
 | [],_::_,_,h=>by simp at h
 |_::_,[],_,h=>by simp at h
theorem vE{β:Type}{encD:β->List DV}{z:Nat}(hL:∀ b,(encD b).length=z)(hz:0<z):∀ (l:List β) (k:Nat),k<l.length->∀ b:β,spl (k*z) (encD b) (l.flatMap encD)=(l.set k b).flatMap encD
 | [],_,h,_=>absurd h (Vz _)
 |a::l,0,_,b=>by
  rw[Nat.zero_mul,UP,Xg,UP];exact B5 _ _ _ ((hL b).trans (hL a).symm)
 |a::l,k+1,h,b=>by
  rw[UP,List.set_cons_succ,UP,<- vE hL hz l k (by simpa using h) b,<- yU _ _ _ _ (by intro e;have:=hL b;rw[e]at this;simp at this;omega),hL a]
  congr 1
  rw[Vt];omega
section ops
variable {P:Program}{tt:TT}(hT:bM P tt)
variable {dst:Option Nat}{ty:TypeId}{pos:String}{af:Array Edge}{gd:Option (Nat×Bool)}{d:Nat}{ρ:Operand->AV}{own:Own}
variable {T:TypeId}{i:TyI}{x y:Operand}{β:Type}{encD:β->List DV}{z:Nat}
include hT
theorem rI(hL:∀ b,(encD b).length=z)(hz:Nat.blt 0 z=true){k n:Nat}{l:List β}{b:β}{be:TypeId}(ht:tt T=some i)(hj:i.size=z)(hx:ρ x=.loc n (k*z))(hy:ρ y=.p (.a (encD b)))(hb:own n=some (VB z be encD l))(hk:k<l.length) :
  Eff P ⟨dst,.store T x y,ty,pos,af,gd⟩ d ρ own .junk [(n,some (VB z be encD (l.set k b)))] none [n] :=
 iI hT ht hx hy hb (by rw[hj];exact hL b) (by
  show k*z+(encD b).length<=(l.flatMap encD).length;rw[a6 hL,hL b,show k*z+z=(k+1)*z by rw[Vt];omega];exact Uy _ hk) (vE hL (by simpa using hz) l k hk b)
end ops
end Go.AM
namespace Go.AM
open Go Go.RowKit
theorem Dq:∀ (f:Nat) (a b:Int),0<=a->0<=b->0<=ggV f a b
 |0,a,b,ha,hb=>by unfold ggV;first|exact ha|omega
 |f+1,a,b,ha,hb=>by
  unfold ggV;split
  ·exact ha
  exact Dq f b (a.tmod b) hb (Int.tmod_nonneg _ ha)
theorem H6{a b:Int}(ha:0<=a)(hb:0<=b):0<=gg a b:=Dq _ a b ha hb
theorem zP{a b c:Int}(ha:0<=a)(hb:0<=b)(hc:0<=c):gg (gg a b) c=1↔prim a b c=true:=by
 have h1:=H6 ha hb;have h2:=H6 h1 hc;have h3:=lJ a b;have h4:=lJ (gg a b) c;unfold prim;rw[decide_eq_true_iff];have e:Int.gcd (gg a b) c=Int.gcd a (Int.gcd b c:Int):=by
  have e1:Int.gcd (gg a b) c=Nat.gcd (Nat.gcd a.natAbs b.natAbs) c.natAbs:=by
   show Nat.gcd (gg a b).natAbs c.natAbs=_;rw[h3];rfl
  rw[e1,Nat.gcd_assoc];rfl
 rw[<- e];omega
theorem okS_iff{m:Int}{f:Fm}:okS m f=true↔f.b*f.b-4*f.a*f.c=-m∧0<=f.b∧f.b<=f.a∧f.a<=f.c∧gg (gg f.a f.b) f.c=1:=by
 unfold okS;simp only[Bool.and_eq_true,decide_eq_true_iff]
theorem ww{m:Int}(hm:0<m){f:Fm}:okS m f=true↔Cl (-m) f∧f.rd=f∧0<=f.b:=by
 rw[okS_iff];constructor
 ·rintro⟨h1,h2,h3,h4,h5⟩;have ha:0<f.a:=by
   rcases(show f.a=0∨0<f.a by omega)with q|q
   ·have hb:f.b=0:=by omega
    rw[q,hb]at h1;simp at h1;omega
   exact q
  have hp:f.pos:=⟨ha,by show f.b*f.b-4*f.a*f.c<0;omega⟩
  refine⟨⟨hp,(zP (by omega) h2 (by omega)).1 h5,h1⟩,fP ⟨ha,by omega,h4,.inr h2⟩ hp,h2⟩
 rintro⟨h1,h2,h3⟩;have hr:Rd f:=h2▸h1.rd_Rd;have ha:=hr.a;have hb:=hr.b;have hc:=hr.c;exact⟨h1.disc,h3,by omega,hc,(zP (by omega) h3 (by omega)).2 h1.prim⟩
theorem JB{m k:Int}(j:Nat):amb (shp m k j)=true:=by
 unfold amb;rw[VE,VE,decide_eq_true_iff,decide_eq_true_iff,decide_eq_true_iff]
 match j with
 |0=>exact .inl rfl
 |1=>exact .inr (.inl rfl)
 |_+2=>exact .inr (.inr rfl)
theorem amR_mem{m k:Int}{f:Fm}{j:Nat}:f∈amR m k j↔∃ i:Nat,i<j∧f=shp m k i∧okS m f=true:=by
 unfold amR;rw[VG,UO];constructor
 ·rintro⟨⟨i,h1,rfl⟩,h2⟩;exact⟨i,UW.1 h1,rfl,h2⟩
 rintro⟨i,h1,rfl,h2⟩;exact⟨⟨i,UW.2 h1,rfl⟩,h2⟩
theorem amG_mem{m:Int}{f:Fm}:∀ {n:Nat},f∈amG m n↔∃ k j:Nat,k<n∧j<3∧f=shp m ((k:Int)+1) j∧okS m f=true
 |0=>by simp[amG]
 |n+1=>by
  unfold amG;rw[Vi,amG_mem,amR_mem];constructor
  ·rintro(⟨k,j,h1,h2⟩|⟨i,h1,h2⟩)
   ·exact⟨k,j,by omega,h2⟩
   exact⟨n,i,by omega,h1,h2⟩
  rintro⟨k,j,h1,h2,h3⟩;rcases(show k<n∨k=n by omega)with q|q
  ·exact .inl ⟨k,j,q,h2,h3⟩
  subst q;exact .inr ⟨j,h2,h3⟩
theorem Rd.amb_b{f:Fm}(h:Rd f)(ha:amb f=true):0<=f.b∧(f.b=0∨f.a=f.b∨f.a=f.c):=by
 unfold amb at ha;rw[VE,VE,decide_eq_true_iff,decide_eq_true_iff,decide_eq_true_iff]at ha;have h1:=h.a;have h2:=h.s;refine⟨?_,ha⟩;omega
theorem rh{m:Int}(hm:0<m∧m<=4194304){f:Fm}{k:Int}{j:Nat}(hk:1<=k)(hkk:k*k<=m)(hj:j<3)(e:f=shp m k j)(ho:okS m f=true):f∈amL m:=by
 obtain⟨n,hn⟩:∃ n:Nat,k=(n:Int)+1:=⟨(k-1).toNat,by omega⟩
 subst hn;refine amG_mem.2 ⟨n,j,?_,hj,e,ho⟩;rcases Ut n (amS m)with q|q
 ·exact q
 exfalso;have h1:=(o6 hm).1;have h2:((amS m:Int)+1)*((amS m:Int)+1)<=((n:Int)+1)*((n:Int)+1):=Ve (by omega) (by omega) (by omega) (by omega);omega
theorem Ar{m:Int}(hm:0<m∧m<=4194304){f:Fm}:f∈amL m↔(Cl (-m) f∧f.rd=f)∧amb f=true:=by
 constructor
 ·intro h;obtain⟨k,j,_,_,h3,h4⟩:=amG_mem.1 h;obtain⟨c1,c2,_⟩:=(ww hm.1).1 h4;exact⟨⟨c1,c2⟩,h3▸JB j⟩
 rintro⟨⟨c1,c2⟩,ha⟩;have hr:Rd f:=c2▸c1.rd_Rd;obtain⟨hb,hcase⟩:=hr.amb_b ha;have ho:=(ww hm.1).2 ⟨c1,c2,hb⟩;have hd:f.b*f.b-4*f.a*f.c=-m:=c1.disc;have ra:=hr.a;have rb:=hr.b;have rc:=hr.c;obtain⟨a,b,c⟩:=f;simp only at hd ra rb rc hb hcase;have eac:4*a*c=4*(a*c):=UG ..;rcases hcase with q|q|q
 ·subst q;have em:m=a*(4*c):=by rw[Int.mul_left_comm];omega
  refine rh hm (k:=a) (j:=0) (by omega) ?_ (by omega) ?_ ho
  ·have:a*a<=a*(4*c):=Up (by omega) (by omega);omega
  have e1:m/4=a*c:=by rw[show m=a*c*4 by omega];exact Int.mul_ediv_cancel _ (by omega)
  have e2:m/4/a=c:=by rw[e1];exact U6 _ (by omega)
  show Fm.mk a 0 c=Fm.mk a 0 (m/4/a);rw[e2]
 ·subst q;have em:m=a*(4*c-a):=by rw[Int.mul_sub,Int.mul_left_comm];omega
  have e1:m/a=4*c-a:=by rw[em];exact U6 _ (by omega)
  refine rh hm (k:=a) (j:=1) (by omega) ?_ (by omega) ?_ ho
  ·have:a*a<=a*(4*c-a):=Up (by omega) (by omega);omega
  show Fm.mk a a c=Fm.mk a a ((m/a+a)/4);rw[e1,show(4*c-a+a)/4=c by omega]
 subst q;have em:m=(2*a-b)*(2*a+b):=by
  have:(2*a-b)*(2*a+b)=4*(a*a)-b*b:=by grind
  omega
 have e1:m/(2*a-b)=2*a+b:=by rw[em];exact U6 _ (by omega)
 refine rh hm (k:=2*a-b) (j:=2) (by omega) ?_ (by omega) ?_ ho
 ·have:(2*a-b)*(2*a-b)<=(2*a-b)*(2*a+b):=Up (by omega) (by omega);omega
 show Fm.mk a b a=Fm.mk ((m/(2*a-b)+(2*a-b))/4) ((m/(2*a-b)-(2*a-b))/2) ((m/(2*a-b)+(2*a-b))/4);rw[e1,show(2*a+b+(2*a-b))/4=a by omega,show(2*a+b-(2*a-b))/2=b by omega]
theorem nW{a:Int}(ha:0<a)(h:prim a 0 a=true∨prim a a a=true):a=1:=by
 rcases h with h|h <;> unfold prim at h <;> rw[decide_eq_true_iff]at h
 ·have:Int.gcd a (Int.gcd 0 a:Int)=a.natAbs:=by simp[Int.gcd]
  omega
 have:Int.gcd a (Int.gcd a a:Int)=a.natAbs:=by simp[Int.gcd]
 omega
theorem Fa{m k:Int}(_hm:0<m)(hk:1<=k)(hkk:k*k<=m){a b:Int}(ha:a=(m/k+k)/4)(hb:b=(m/k-k)/2)(h0:0<=b)(_hba:b<=a)(hd:b*b-4*a*a=-m):k=2*a-b:=by
 have h1:k<=m/k:=(Xa (by omega)).2 hkk;have h2:=Int.mul_ediv_self_le (x:=m) (k:=k) (by omega);generalize m/k=q at *;have e:(2*a-b)*(2*a+b)=m:=by
  have:(2*a-b)*(2*a+b)=4*a*a-b*b:=by grind
  omega
 obtain⟨X,hX⟩:∃ X,2*a-b=X:=⟨_,rfl⟩
 obtain⟨Y,hY⟩:∃ Y,2*a+b=Y:=⟨_,rfl⟩
 rw[hX,hY]at e;rcases(show(k=X∧q=Y)∨(k=X∧q=Y+1)∨(k=X+1∧q=Y+1)∨(k=X+1∧q=Y+2) by omega)with⟨z1,z2⟩|⟨z1,z2⟩|⟨z1,z2⟩|⟨z1,z2⟩
 ·omega
 ·omega
 ·exfalso;rw[z1,z2]at h2;have:(X+1)*(Y+1)=X*Y+X+Y+1:=by grind
  omega
 exfalso;rw[z1,z2]at h2;have:(X+1)*(Y+2)=X*Y+2*X+Y+2:=by grind
 omega
theorem tP{m k:Int}(hm:0<m)(hk:1<=k)(hkk:k*k<=m){f:Fm}{j:Nat}(hj:j<3)(e:f=shp m k j)(ho:okS m f=true):(j=0∧f.b=0∧k=f.a)∨(j=1∧f.a=f.b∧k=f.a)∨(j=2∧f.a=f.c∧k=2*f.a-f.b):=by
 obtain⟨h1,h2,h3,h4,_⟩:=okS_iff.1 ho;rcases(show j=0∨j=1∨j=2 by omega)with rfl|rfl|rfl
 ·subst e;exact .inl ⟨rfl,rfl,rfl⟩
 ·subst e;exact .inr (.inl ⟨rfl,rfl,rfl⟩)
 subst e;refine .inr (.inr ⟨rfl,rfl,?_⟩);exact Fa hm hk hkk rfl rfl h2 h3 h1
theorem yZ{m k k':Int}(hm:0<m)(h3:m≠3)(h4:m≠4)(hk:1<=k)(hkk:k*k<=m)(hk':1<=k')(hkk':k'*k'<=m){f:Fm}{j j':Nat}(hj:j<3)(hj':j'<3)(e:f=shp m k j)(e':f=shp m k' j')(ho:okS m f=true):k=k'∧j=j':=by
 have c1:=tP hm hk hkk hj e ho;have c2:=tP hm hk' hkk' hj' e' ho;obtain⟨cl,cr,_⟩:=(ww hm).1 ho;have hr:Rd f:=cr▸cl.rd_Rd;have ha:=hr.a;have hd:f.b*f.b-4*f.a*f.c=-m:=cl.disc;have hp:=cl.prim;have n1:¬ (f.b=0∧f.a=f.c):=fun⟨q1,q2⟩=>by
  rw[q1,<- q2]at hp hd;have:=nW ha (.inl hp);rw[this]at hd;omega
 have n2:¬ (f.a=f.b∧f.a=f.c):=fun⟨q1,q2⟩=>by
  rw[<- q1,<- q2]at hp hd;have:=nW ha (.inr hp);rw[this]at hd;omega
 omega
theorem DW{m:Int}(hm:0<m∧m<=4194304){k n:Nat}(hn:n<=amS m)(h:k<n):((k:Int)+1)*((k:Int)+1)<=m:=(o6 hm).2 k (by omega)
theorem DY{m:Int}(hm:0<m∧m<=4194304)(h3:m≠3)(h4:m≠4):∀ n:Nat,n<=amS m->(amG m n).Nodup
 |0,_=>List.nodup_nil
 |n+1,hn=>by
  unfold amG;have hs:=DW hm hn (show n<n+1 by omega);rw[Xo];refine⟨DY hm h3 h4 n (by omega),?_,?_⟩
  ·have e:amR m ((n:Int)+1) 3=[shp m ((n:Int)+1) 0,shp m ((n:Int)+1) 1,shp m ((n:Int)+1) 2].filter (okS m):=rfl;rw[e];unfold List.Nodup;rw[List.pairwise_filter];have key:∀ i j:Nat,i<3->j<3->i≠j->okS m (shp m ((n:Int)+1) i)=true->okS m (shp m ((n:Int)+1) j)=true->shp m ((n:Int)+1) i≠shp m ((n:Int)+1) j:=fun i j hi hj hij o1 o2 he =>
    hij (yZ hm.1 h3 h4 (by omega) hs (by omega) hs hi hj rfl he o1).2
   simp only[List.pairwise_cons,List.mem_cons,List.not_mem_nil,or_false,forall_eq_or_imp,forall_eq,List.Pairwise.nil,and_true,false_imp_iff,implies_true];exact⟨⟨key 0 1 (by omega) (by omega) (by omega),key 0 2 (by omega) (by omega) (by omega)⟩,key 1 2 (by omega) (by omega) (by omega)⟩
  intro x hx y hy hxy;subst hxy;obtain⟨k,j,q1,q2,q3,q4⟩:=amG_mem.1 hx;obtain⟨i,r1,r2,_⟩:=amR_mem.1 hy;have:=(yZ hm.1 h3 h4 (by omega) (DW hm hn (by omega)) (by omega) hs q2 r1 q3 r2 q4).1;omega
theorem P1{m:Int}(hm:0<m∧m<=4194304)(h3:m≠3)(h4:m≠4):(amL m).Nodup:=DY hm h3 h4 _ (Iv _)
theorem gk{f g:Fm}:cm3 f g<0↔f.a<g.a∨(f.a=g.a∧f.b<g.b):=by
 unfold cm3 aX;repeat' split <;> omega
theorem Nu(l l':List Fm)(hp:l'.Perm l)(hs:l'.Pairwise fun x y=>¬ cm3 y x<0)(ha:∀ x∈l,∀ y∈l,¬ cm3 x y<0->¬ cm3 y x<0->x=y):gB (fun x y=>decide (cm3 x y<0)) ⟨0,0,0⟩ l (l.length-1)=l':=by
 by_cases h0:l.length=0
 ·have e:=Ux h0;subst e;exact(List.perm_nil.1 hp).symm
 have h1:=uA (c:=fun x y=>decide (cm3 x y<0)) (z:=(⟨0,0,0⟩:Fm)) (fun x y e=>by
  have:=dT0 e;rw[gk]at this;exact Ix (by rw[gk];omega)) (fun x y w e1 e2=>by
  have:=dF0 e1;have:=dF0 e2;rw[gk]at *;exact Ix (by rw[gk];omega)) l (l.length-1) (by omega)
 have h2:=r6 (c:=fun x y=>decide (cm3 x y<0)) (z:=(⟨0,0,0⟩:Fm)) l (l.length-1) (by omega);refine tO (r:=fun x y=>cm3 x y<0) (h2.trans hp.symm) ?_ hs fun x hx y hy=>ha x (h2.mem_iff.1 hx) y (h2.mem_iff.1 hy)
 refine List.pairwise_iff_getElem.2 fun a b ha hb hab=>?_
 have:=h1 a b hab (by have:=h2.length_eq;omega);rw[As,As,Fl ha,Fl hb]at this;exact dF0 this
theorem LH{D:Int}{f g:Fm}(hf:Cl D f)(hg:Cl D g)(h1:¬ cm3 f g<0)(h2:¬ cm3 g f<0):f=g:=by
 rw[gk]at h1 h2;have ea:f.a=g.a:=by omega
 have eb:f.b=g.b:=by omega
 have d1:f.b*f.b-4*f.a*f.c=D:=hf.disc;have d2:g.b*g.b-4*g.a*g.c=D:=hg.disc;have hp:=hf.pos.1;rw[<- ea,<- eb]at d2;have:4*f.a*f.c=4*f.a*g.c:=by omega
 exact Fm.ext ea eb (U0 (by omega) this)
def gE(l:List Fm):List Fm:=l.mergeSort fun x y=>!decide (cm3 y x<0)
theorem fI(l:List Fm):(gE l).Perm l:=List.mergeSort_perm _ _
theorem vB(l:List Fm):(gE l).Pairwise fun x y=>¬ cm3 y x<0:=by
 have h:(gE l).Pairwise fun x y=>(!decide (cm3 y x<0))=true:=by
  refine List.pairwise_mergeSort ?_ ?_ _
  ·intro a b c h1 h2;simp only[Bool.not_eq_true',decide_eq_false_iff_not,gk]at h1 h2 ⊢;omega
  intro a b;simp only[Bool.or_eq_true,Bool.not_eq_true',decide_eq_false_iff_not,gk];omega
 exact h.imp fun hx=>by simpa using hx
def cpt:List Fm->List Fm
 | []=>[]
 | [x]=>[x]
 |x::y::l=>if x=y then cpt (y::l)else x::cpt (y::l)
theorem qe{z:Fm}:∀ l:List Fm,z∈cpt l↔z∈l
 | []=>by simp[cpt]
 | [x]=>by simp[cpt]
 |x::y::l=>by
  unfold cpt;have ih:=qe (z:=z) (y::l);split
  ·next h=>subst h;rw[ih];simp
  rw[Vh,ih];simp
theorem sv:∀ {l:List Fm},(∀ x∈l,∀ y∈l,¬ cm3 x y<0->¬ cm3 y x<0->x=y)->(l.Pairwise fun x y=>¬ cm3 y x<0)->(cpt l).Pairwise fun x y=>cm3 x y<0
 | [],_,_=>VW
 | [x],_,_=>List.pairwise_singleton _ _
 |x::y::l,ha,hs=>by
  unfold cpt;rw[Wm]at hs;have ih:=sv (l:=y::l) (fun u hu v hv=>ha u (Vv _ hu) v (Vv _ hv)) hs.2;split
  ·exact ih
  next hne =>
  rw[Wm];refine⟨fun z hz=>?_,ih⟩;rw[qe]at hz;have h1:=hs.1 z hz;by_cases q:cm3 x z<0
  ·exact q
  exfalso;have hxz:=ha x (Vs ..) z (Vv _ hz) q h1;subst hxz;have hy:=hs.1 y (Vs ..);rcases Vh.1 hz with e|e
  ·exact hne e
  have h2:=(Wm.1 hs.2).1 x e;exact hne (ha x (Vs ..) y (by simp) h2 hy)
theorem DI:∀ {l:List Fm},l.Nodup->cpt l=l
 | [],_=>rfl
 | [x],_=>rfl
 |x::y::l,h=>by
  unfold cpt;rw[Wu]at h;rw[G2 (fun e=>h.1 (by rw[e];exact Vs ..)),DI h.2]
theorem tN{l l':List Fm}(h1:l.Pairwise fun x y=>cm3 x y<0)(h2:l'.Pairwise fun x y=>cm3 x y<0)(h:∀ x,x∈l↔x∈l'):l=l':=by
 have nd:∀ {m:List Fm},(m.Pairwise fun x y=>cm3 x y<0)->m.Nodup:=fun hm=>hm.imp fun{a b} hx e=>by subst e;rw[gk]at hx;omega
 refine List.Perm.eq_of_pairwise (le:=fun x y=>cm3 x y<0) ?_ h1 h2 ((Xr (nd h1) (nd h2)).2 h);intro a b _ _ q1 q2;rw[gk]at q1 q2;omega
def amA(d:Int):List Fm:=if szE d=0 then cpt (gE (amL (-d)))else[]
theorem SA{d:Int}(h:¬ szE d=0):amA d=[]:=by unfold amA;rw[G2 h]
theorem DX{m:Int}(hm:0<m∧m<=4194304){f:Fm}(h:f∈amL m):Cl (-m) f:=((Ar hm).1 h).1.1
theorem xU{m:Int}(hm:0<m∧m<=4194304):∀ x∈amL m,∀ y∈amL m,¬ cm3 x y<0->¬ cm3 y x<0->x=y:=fun _ hx _ hy=>LH (DX hm hx) (DX hm hy)
theorem Me{d:Int}(hE:szE d=0){f:Fm}:f∈amA d↔(Cl d f∧f.rd=f)∧amb f=true:=by
 obtain⟨_,h2,h3⟩:=nF hE;unfold amA;rw[H2 hE,qe,(fI _).mem_iff,Ar ⟨by omega,by omega⟩,XQ]
theorem Md{d:Int}(hE:szE d=0):(amA d).Pairwise fun x y=>cm3 x y<0:=by
 obtain⟨_,h2,h3⟩:=nF hE;unfold amA;rw[H2 hE];refine sv (fun x hx y hy=>?_) (vB _);exact xU ⟨by omega,by omega⟩ x ((fI _).mem_iff.1 hx) y ((fI _).mem_iff.1 hy)
theorem ul(n a:Int):∀ (k:Nat) (b:Int),(gR n a k b).Pairwise fun x y=>cm3 x y<0
 |0,_=>VW
 |k+1,b=>by
  unfold gR;rw[Xu];refine⟨by split <;> simp,ul n a k (b+1),?_⟩;intro x hx y hy;obtain⟨b',h1,_,_,rfl⟩:=fJ hy;split at hx
  ·simp at hx;subst hx;rw[gk];exact .inr ⟨rfl,(by omega:b<b')⟩
  simp at hx
theorem uo(n:Int):∀ (k:Nat) (a:Int),1<=a->(dW n k a).Pairwise fun x y=>cm3 x y<0
 |0,_,_=>VW
 |k+1,a,ha=>by
  unfold dW;split
  ·rw[Xu];refine⟨ul n a _ _,uo n k (a+1) (by omega),?_⟩;intro x hx y hy;obtain⟨b1,_,_,_,rfl⟩:=fJ hx;have:a+1<=y.a:=lsAll_a k (a+1) y hy;rw[gk];exact .inl (by omega:a<y.a)
  exact VW
where
 lsAll_a:∀ (k:Nat) (a:Int) (y:Fm),y∈dW n k a->a<=y.a
  |0,a,y,h=>by simp[dW]at h
  |k+1,a,y,h=>by
   unfold dW at h;split at h
   ·rw[Vi]at h;rcases h with h|h
    ·obtain⟨b1,_,_,_,rfl⟩:=fJ h;simp only;omega
    have:=lsAll_a k (a+1) y h;omega
   simp at h
theorem zH(n:Int):(lst n).Pairwise fun x y=>cm3 x y<0:=uo n 100 1 (by omega)
theorem At{N:Int}(hE:szE (-N)=0)(hN:N<=20000):amA (-N)=(lst N).filter amb:=by
 refine tN (Md hE) ((zH N).filter _) fun f=>?_
 rw[Me hE,VG,(jr hN).mem]
theorem dB(f:Fm):(TC f).length=3:=rfl
def NoN(l:List Fm):Prop:=∀ i:Nat,i+1<l.length->l.getD (i+1) ⟨0,0,0⟩≠l.getD i ⟨0,0,0⟩
theorem NoN.of_nodup{l:List Fm}(h:l.Nodup):NoN l:=fun i hi e=>by
 have h1:l.getD (i+1) ⟨0,0,0⟩=l[i+1]:=by simp[List.getD,hi]
 have h2:l.getD i ⟨0,0,0⟩=l[i]'(by omega):=by simp[List.getD,show i<l.length by omega]
 rw[h1,h2]at e;have:=(List.getElem_inj h).1 e;omega
theorem NoN.at{l:List Fm}(h:NoN l){k:Nat}(h1:1<=k)(hk:(k:Int)<l.length):¬ l.getD k ⟨0,0,0⟩=l.getD ((k:Int)-1).toNat ⟨0,0,0⟩:=by
 have:=h (k-1) (by omega);rw[show k-1+1=k by omega]at this;rw[show((k:Int)-1).toNat=k-1 by omega];exact this
theorem Lv(x:Fm):cpt [x,x]=[x]:=by simp[cpt]
theorem Sz:amL 3=[⟨1,1,1⟩,⟨1,1,1⟩]:=by decide +kernel
theorem Sy:amL 4=[⟨1,0,1⟩,⟨1,0,1⟩]:=by decide +kernel
theorem vA{x:Fm}{l:List Fm}(h:l=[x,x]):gE l=[x,x]:=by
 have hp:=fI l;rw[h]at hp ⊢;exact List.perm_replicate.1 (show(gE [x,x]).Perm (List.replicate 2 x) from hp)
theorem PU{m:Int}(hm:0<m∧m<=4194304):(NoN (gE (amL m))∧cpt (gE (amL m))=gE (amL m))∨∃ x,gE (amL m)=[x,x]:=by
 by_cases h3:m=3
 ·exact .inr ⟨_,vA (by rw[h3];exact Sz)⟩
 by_cases h4:m=4
 ·exact .inr ⟨_,vA (by rw[h4];exact Sy)⟩
 have nd:(gE (amL m)).Nodup:=(fI _).nodup_iff.2 (P1 hm h3 h4);exact .inl ⟨.of_nodup nd,DI nd⟩
theorem Mc{m:Int}(hm:0<m∧m<=4194304):(gE (amL m)).length<=9000:=by
 rw[(fI _).length_eq];have h:=tD m (amS m);have h2:=fE (P:=fun k=>decide (m<((k:Int)+1)*((k:Int)+1))) (f:=3000) (n:=0) (m:=2048) (by omega) (by omega) (G6 (by omega));have h3:amS m<=2048:=by have:=h2.2;unfold amS;omega
 unfold amL;omega
theorem Ah:∀ l:List Fm,(cpt l).length<=l.length
 | []=>Iv _
 | [_]=>Iv _
 |x::y::l=>by
  unfold cpt;have:=Ah (y::l);split
  ·simp only[List.length_cons]at this ⊢;omega
  simp only[List.length_cons]at this ⊢;omega
theorem SC{m d:Int}(h:szE d=0)(hd:d=-m):amA d=cpt (gE (amL m)):=by
 unfold amA;rw[H2 h,hd,XQ]
theorem P4{m:Int}(hm:0<m∧m<=4194304){f:Fm}(h:f∈cpt (gE (amL m))):(0<=f.a∧f.a<=4200000)∧(0<=f.b∧f.b<=4200000)∧0<=f.c∧f.c<=4200000 :=
 P2 hm ((fI _).mem_iff.1 ((qe _).1 h))
theorem Eb{x:Fm}{zs:List DV}:(((([x,x]:List Fm).flatMap TC).take (1*3)++zs).take ((1:Int).toNat*3))=[x].flatMap TC:=by
 simp[TC]
def kN(f:Fm):Bool:=decide (f.mi.rd=f)
theorem Lj(D:Nat):amA (-szz D)=(lst (szz D)).filter kN:=by
 have hs:=dj D;have w:=jr (n:=szz D) (by omega);rw[At (mG D) (by omega)];refine VV fun x hx=>?_
 obtain⟨a,b⟩:=(w.mem x).1 hx;have hr:Rd x:=b▸a.rd_Rd;rw[Vg,DU a hr];unfold kN;rw[decide_eq_true_iff]
theorem O5(D:Nat):gnN (-szz D)=((amA (-szz D)).length:Int):=by
 have hs:=dj D;rw[At (mG D) (by omega),(Dr D).2];unfold gnN;rw[H2 (mG D)];simp
def ow(o s k:Int):Int:=if k%2=1 then o*s else o
section
variable {P:Program}{n0:Nat}{J:Nat->Hp->(Nat->Prop)->World->Prop}{N np:Nat}{Q:Exit->Nat->St->Prop}{ops:Array Oper}{os:List Oper}{i k:Nat}{s:St}
theorem RY.split{t:Nat}{b:Bool}(_h:s.regs t=.p (.c (.v (.bool b))))(h1:b=true->RY P n0 J N np Q ops os i k s)(h2:b=false->RY P n0 J N np Q ops os i k s):RY P n0 J N np Q ops os i k s:=by
 cases b
 ·exact h2 rfl
 exact h1 rfl
theorem wx{n k:Nat}{b:Bool}(h:b=true):nx n k b=k+1:=by rw[h];rfl
theorem N8{n k:Nat}{b:Bool}(h:b=false):n<=nx n k b:=by rw[h];show n<=n+1+k;omega
end
section
variable {F:Fence}{n:Nat}{P:Program}
theorem Ms{o:Oper}{a:Act}{w:World}{K:Act->World->Prop}{QA Q:Exit->Act->World->Prop}(hq:∀ e a w,QA e a w->e=.normal)(h:o.wpIn F n P a w K QA):o.wpIn F n P a w K Q:=by
  unfold Oper.wpIn at *;refine⟨h.1,?_⟩;have hh:=h.2;have no:∀ {X:Prop} {e:Exit} {a:Act} {w:World},e≠.normal->QA e a w->X:=fun hne h=>absurd (hq _ _ _ h) hne
  generalize (o.semAt F.round a.eval).run P w=r at *;cases r with
  |ok x w' =>
    cases x <;> simp only[Oper.uponIn]at hh ⊢ <;>
      first
        |exact hh
        |exact⟨hh.1,CallsIn.mono hh.2 (fun e w'' he=>by cases e <;> first|exact he|exact no (by simp) he|(obtain⟨a1,w1,h1⟩:=he;exact no (by simp) h1))⟩
        |exact⟨hh.1,RoundIn.mono hh.2 (fun e w'' he=>by cases e <;> first|exact he|exact no (by simp) he|(obtain⟨a1,w1,h1⟩:=he;exact no (by simp) h1))⟩
  |halt x w'=>cases x <;> simp only[Oper.uponIn]at hh ⊢ <;> first|exact hh|exact no (by simp) hh
theorem Ec{ops ops':Array Oper}{i:Nat}{a:Act}{w:World}{K K':Act->World->Prop}{QA Q:Exit->Act->World->Prop}(hq:∀ e a w,QA e a w->e=.normal)(h1:ops'[i]?=ops[i]?)(h2:∀ o j want,ops[i]?=some o->o.guard=some (j,want)->ops'[j]?=ops[j]?)(hK:∀ a w,K a w->K' a w)(h:wpOpIn F n P ops' QA i K a w):wpOpIn F n P ops Q i K' a w:=by
  refine wpOpIn_mono hK ?_;unfold wpOpIn at *;rw[h1]at h;cases ho:ops[i]? with
  |none=>rw[ho]at h;exact h
  |some o =>
    rw[ho]at h;simp only at h ⊢;have e:Region.wanted o (yielded ops' a.tmps)=Region.wanted o (yielded ops a.tmps):=by
      unfold Region.wanted;cases hg:o.guard with
      |none=>rfl
      |some x =>
        obtain⟨j,want⟩:=x;simp only;have:yielded ops' a.tmps j=yielded ops a.tmps j:=by
          unfold yielded;rw[h2 o j want ho hg]
        rw[this]
    rw[e]at h;split at h
    · next hw=>rw[H2 hw];exact Ms hq h
    next hw=>rw[G2 hw];exact h
def GT(ops:List Oper)(y:Nat):Bool :=
  Nat.blt y ops.length&&(ops.zipIdx.all fun(o,i)=>(o.after.toList.all fun e=>!Region.binds .any e||Nat.blt e.on i)&&(match o.guard with|some (j,_)=>Nat.blt j i|none=>true)) &&
  (let bs:=xS ops
   (List.range ops.length).all fun i=>Nat.blt i y||(List.range i).all fun j=>(bs.getD i 0).testBit j)
structure OkY(ops:Array Oper)(y:Nat):Prop where
  lt:y<ops.size
  edge:∀ k o,ops[k]?=some o->∀ e∈o.after.toList,Region.binds .any e=true->e.on<k
  guard:∀ (k:Nat) (o:Oper) (j:Nat) (b:Bool),ops[k]?=some o->o.guard=some (j,b)->j<k
  bef:∀ i j,y<=i->i<ops.size->j<i->((xS ops.toList).getD i 0).testBit j=true
theorem LL{ops:Array Oper}{y:Nat}(h:GT ops.toList y=true):OkY ops y:=by
  unfold GT at h;simp only[Bool.and_eq_true]at h;obtain⟨⟨h1,h2⟩,h3⟩:=h;have get:∀ (k:Nat) (o:Oper),ops[k]?=some o->(o,k)∈ops.toList.zipIdx:=fun k o ho=>by
    rw[List.mem_zipIdx_iff_getElem?,UJ];exact ho
  refine⟨by simpa using h1,fun k o ho e he hb=>?_,fun k o j b ho hg=>?_,fun i j hy hi hj=>?_⟩
  · have:=Uo.1 h2 _ (get k o ho);simp only[Bool.and_eq_true]at this;have:=Uo.1 this.1 e he;simpa[hb]using this
  · have:=Uo.1 h2 _ (get k o ho);simp only[Bool.and_eq_true,hg]at this;simpa using this.2
  have:=Uo.1 h3 i (by simpa using hi);rw[VE]at this;rcases this with k|k
  · simp at k;omega
  exact Uo.1 k j (by simpa using hj)
def ng(ops:Array Oper)(l:Array Bool):Prop:=∀ (k:Nat) (o:Oper),ops.toList[k]?=some o->l.getD k false=true->∀ e∈o.after.toList,Region.binds .any e=true->l.getD e.on false=true
theorem sy{l:Array Bool}{i:Nat}(hi:i<l.size):l.getD i true=false↔l.getD i false=false:=by
  simp only[Array.getD_eq_getD_getElem?];rw[UR hi];simp
theorem nO{ops:Array Oper}{l:Array Bool}{i:Nat}(hs:l.size=ops.size)(hc:ng ops l)(hr:i∈Region.ready .any ops l):ng ops (l.setIfInBounds i true):=by
  rw[eD]at hr;obtain⟨h1,h2,o,h3,h4⟩:=hr;intro k o' hk hS e he hb;rw[cH _ _ _ (by omega)]at hS ⊢;simp only[Bool.or_eq_true,beq_iff_eq]at hS ⊢;rcases hS with hS|hS
  · exact .inl (hc k o' hk hS e he hb)
  subst hS;rw[UJ,h3]at hk;cases hk;exact .inl (h4 e he hb)
theorem tR{ops:Array Oper}{y:Nat}(ok:OkY ops y){l:Array Bool}{i:Nat}(hs:l.size=ops.size)(hc:ng ops l)(hr:i∈Region.ready .any ops l)(hi:y<=i):∀ j,j<i->l.getD j false=true:=fun j hj=>by
  have hr':=hr;rw[eD]at hr;have hi2:=hr.1;have:=oY (fun k=>(l.setIfInBounds i true).getD k false) ops.toList (nO hs hc hr') i j (ok.bef i j hi hi2 hj) (by show(l.setIfInBounds i true).getD i false=true;rw[cH _ _ _ (by omega)];simp);rw[cH _ _ _ (by omega)]at this;have hne:(j==i)=false:=by simp;omega
  simpa[hne]using this
theorem rD{ops:Array Oper}{y:Nat}(ok:OkY ops y){l:Array Bool}(hs:l.size=ops.size):∀ i,i<ops.size->l.getD i false=false->∃ j,j<=i∧j∈Region.ready .any ops l:=by
  intro i;induction i using Nat.strongRecOn with
  |_ i ih =>
    intro hi hl;by_cases h:∃ j,j<i∧l.getD j false=false
    · obtain⟨j,hj,hlj⟩:=h;obtain⟨j',h1,h2⟩:=ih j hj (by omega) hlj;exact⟨j',by omega,h2⟩
    refine⟨i,Iv _,?_⟩;rw[eD];refine⟨hi,(sy (by omega)).2 hl,ops[i],UR hi,fun e he hb=>?_⟩;have:=ok.edge i ops[i] (UR hi) e he hb;cases hx:l.getD e.on false with
    |true=>rfl
    |false=>exact absurd ⟨_,this,hx⟩ h
variable {Q:Exit->Act->World->Prop}
theorem xT{ops:Array Oper}{y:Nat}(ok:OkY ops y):∀ (m:Nat) (l:Array Bool),l.size=ops.size->ng ops l->y+m<=ops.size->(∀ j,j<ops.size->(l.getD j false=true↔j<ops.size-m)) ->
    ∀ a w,wpOpsIn F n P ops Q (List.range' (ops.size-m) m) a w->wpAnyIn F n P .any ops Q m l a w
  |0,l,hs,hc,hy,hl,a,w,h=>by
    refine⟨?_,h⟩;cases hr:Region.ready .any ops l with
    |nil=>rfl
    |cons i rest =>
      have:i∈Region.ready .any ops l:=by rw[hr];simp
      rw[eD]at this;have h2:=(sy (by omega)).1 this.2.1;rw[(hl i this.1).2 (by omega)]at h2;cases h2
  |m+1,l,hs,hc,hy,hl,a,w,h=>by
    have hun:l.getD (ops.size-(m+1)) false=false:=by
      cases hx:l.getD (ops.size-(m+1)) false with
      |false=>rfl
      |true=>have:=(hl _ (by omega)).1 hx;omega
    refine⟨fun hr=>?_,fun i hi=>?_⟩
    · obtain⟨j,_,hj⟩:=rD ok hs _ (by omega) hun;rw[hr]at hj;simp at hj
    have hi':=hi;rw[eD]at hi';have h2:=(sy (by omega)).1 hi'.2.1;have hge:ops.size-(m+1)<=i:=by
      rcases Ut i (ops.size-(m+1))with x|x
      · rw[(hl i hi'.1).2 x]at h2;cases h2
      exact x
    have hall:=tR ok hs hc hi (by omega);have he:i=ops.size-(m+1):=by
      rcases Ut (ops.size-(m+1)) i with x|x
      · have:=hall _ x;rw[hun]at this;cases this
      omega
    subst he;rw[V8,wpOpsIn_cons]at h;refine wpOpIn_mono (fun a' w' hk=>?_) h;refine xT ok m _ (by simp[hs]) (nO hs hc hi) (by omega) (fun j hj=>?_) a' w' (by rw[show ops.size-m=ops.size-(m+1)+1 by omega];exact hk);rw[cH _ _ _ (by omega),VE,hl j hj,beq_iff_eq];omega
theorem L1{ops:Array Oper}{y:Nat}(ok:OkY ops y):∀ (m:Nat) (l l':Array Bool),l.size=ops.size->l'.size=y->(∀ j,j<y->l'.getD j false=l.getD j false)->ng ops l->(∀ j,y<=j->l.getD j false=false)->left l' y=m ->
    ∀ a w,wpAnyIn F n P .any (ops.toList.take y).toArray (fun e a w=>e=.normal∧wpOpsIn F n P ops Q (List.range' y (ops.size-y)) a w) m l' a w->wpAnyIn F n P .any ops Q (m+(ops.size-y)) l a w:=by
  have ylt:=ok.lt;have hsz:(ops.toList.take y).toArray.size=y:=by simp;omega
  have hget:∀ j,j<y->(ops.toList.take y).toArray[j]?=ops[j]?:=fun j hj=>by
    rw[List.getElem?_toArray,VY,H2 hj,UJ]
  intro m;induction m with
  |zero =>
    intro l l' hs hs' hll hc hbe hm a w h;have all:∀ j,j<y->l.getD j false=true:=fun j hj=>by
      rw[<- hll j hj];cases hb:l'.getD j false with
      |true=>rfl
      |false =>
        have:j∈(List.range y).filter fun i=>!l'.getD i false:=by rw[VG];exact⟨by simpa using hj,by simpa using hb⟩
        have h0:(List.range y).filter (fun i=>!l'.getD i false)=[]:=Ux hm;rw[h0]at this;simp at this
    rw[XH];refine xT ok (ops.size-y) l hs hc (by omega) (fun j hj=>?_) a w (by rw[show ops.size-(ops.size-y)=y by omega];exact h.2.2);rw[show ops.size-(ops.size-y)=y by omega];constructor
    · intro hx;rcases Ut j y with q|q
      · exact q
      rw[hbe j q]at hx;cases hx
    exact all j
  |succ m ih =>
    intro l l' hs hs' hll hc hbe hm a w h;obtain⟨q,hq,hqf⟩:∃ q,q<y∧l.getD q false=false:=by
      have:0<((List.range y).filter fun i=>!l'.getD i false).length:=by show 0<left l' y;omega
      obtain⟨q,hq⟩:=List.exists_mem_of_length_pos this;rw[VG]at hq;have h1:q<y:=by simpa using hq.1
      exact⟨q,h1,by rw[<- hll q h1];simpa using hq.2⟩
    rw[show m+1+(ops.size-y)=m+(ops.size-y)+1 by omega];refine⟨fun hr=>?_,fun i hi=>?_⟩
    · obtain⟨j,_,hj⟩:=rD ok hs q (by omega) hqf;rw[hr]at hj;simp at hj
    have hi':=hi;rw[eD]at hi';obtain⟨i1,i2,o,i3,i4⟩:=hi';have hiy:i<y:=by
      rcases Ut i y with x|x
      · exact x
      have:=tR ok hs hc hi x q (by omega);rw[hqf]at this;cases this
    have hun:=(sy (by omega)).1 i2;have hri:i∈Region.ready .any (ops.toList.take y).toArray l':=by
      rw[eD];refine⟨by omega,(sy (by omega)).2 (by rw[hll i hiy];exact hun),o,by rw[hget i hiy];exact i3,fun e he hb=>?_⟩;have:=ok.edge i o i3 e he hb;rw[hll e.on (by omega)];exact i4 e he hb
    refine Ec (fun e a w k=>k.1) (hget i hiy) (fun o' j want ho hg=>hget j ?_) (fun a' w' hk=>?_) (h.2 i hri)
    · have:=ok.guard i o' j want ho hg;omega
    refine ih (l.setIfInBounds i true) (l'.setIfInBounds i true) (by simp[hs]) (by simp[hs']) (fun j hj=>?_) (nO hs hc hi) (fun j hj=>?_) ?_ a' w' hk
    · rw[cH _ _ _ (by omega),cH _ _ _ (by omega),hll j hj]
    · rw[cH _ _ _ (by omega),hbe j hj];simp;omega
    have:=wJ l' y i hiy (by omega) (by rw[hll i hiy];exact hun);omega
end
section
variable {P:Program}{n0:Nat}{J:Nat->Hp->(Nat->Prop)->World->Prop}{N np:Nat}{Q:Exit->Nat->St->Prop}{k:Nat}{s:St}
abbrev oi(ops:Array Oper)(y:Nat):Array Oper:=(ops.toList.take y).toArray
theorem qF(hP:P.follows .mixedOrders=true){id:Nat}{ops:Array Oper}(y:Nat)(hy:GT ops.toList y=true)(h:RK P N np (oi ops y) true (oi ops y).toList (bt (dA (oi ops y).toList) s) [] fun s'=>RY P n0 J N np Q ops (ops.toList.drop y) y k s'):AK P n0 J N np (.region id ops true) Q k s:=by
 intro ro S hh r a w G hc;have ok:=LL hy;obtain⟨C,hw,hj,hs,hF,hn,hm,hr0,hfr⟩:=hc.kj;obtain⟨sts,ios,h1,h2,h3,h4,h5⟩:=h;simp only[List.nil_append]at h2 h3;have hst:Start C.np N (oi ops y) (oi ops y).toList (bt (dA (oi ops y).toList) s) ios:=⟨hn.symm▸h2,h4,fp _ _,fU _ _,fq _ _⟩
 have hc':=e9 (dA (oi ops y).toList) (show Conc C N hh r s a w from ⟨hc.sz,by rw[hc.df];trivial,hc.rg,hw⟩);refine wpIn_region_any hP ?_;have hyl:=ok.lt;have hsz:(oi ops y).size=y:=by simp;omega
 have A:=zk (ro:=ro) (P:=P) (Q:=fun e a w=>e=.normal∧wpOpsIn (Wd ro) 0 P ops (fun e a' w'=>∃ k' s' h' r' G',Q e k' s'∧CK n0 J N np S k' G' h' r' s' a' w') (List.range' y (ops.size-y)) a w)
  rfl h1 hst (by simpa using h3) (fun h' r' a' w' c'=>⟨rfl,by
   have hdf:a'.defers=[]:=by
    have:=c'.df;cases hd:a'.defers with
    |nil=>rfl
    |cons d ds =>
     rw[hd]at this;have h1:=this.1;rw[hm]at h1;cases h1
   have h6:=h5 rfl ro S h' r' a' w' G ⟨c'.sz,hdf,c'.rg,C,c'.wk,hj,hs,hF,hn,hm,hr0,hfr⟩;rw[W7]at h6;simpa using h6⟩) y (Array.replicate y false) (by simp;omega) ?_ ?_ hh r a { w with drawn:=w.drawn+1 } ?_
 ·have:=L1 ok y (Array.replicate ops.size false) (Array.replicate y false) (by simp) (by simp) (fun j hj=>?_) ?_ (fun j hj=>?_) ?_ a { w with drawn:=w.drawn+1 } A
  ·rw[show y+(ops.size-y)=ops.size by omega]at this;exact this
  ·simp only[Array.getD_eq_getD_getElem?,Array.getElem?_replicate];split <;> split <;> rfl
  ·intro k o hk hS;simp only[Array.getD_eq_getD_getElem?,Array.getElem?_replicate]at hS;split at hS <;> cases hS
  ·simp only[Array.getD_eq_getD_getElem?,Array.getElem?_replicate];split <;> rfl
  unfold left;rw[WW.2]
  ·simp
  intro i hi;simp only[Array.getD_eq_getD_getElem?,Array.getElem?_replicate];split <;> rfl
 ·unfold left;rw[WW.2]
  ·simp;omega
  intro i hi;simp only[Array.getD_eq_getD_getElem?,Array.getElem?_replicate];split <;> rfl
 ·intro k o hk hS;simp only[Array.getD_eq_getD_getElem?,Array.getElem?_replicate]at hS;split at hS <;> cases hS
 rw[iN (T:=fun _=>false) (fun j=>by
  simp only[Array.getD_eq_getD_getElem?,Array.getElem?_replicate];split <;> rfl),nL]
 exact⟨hc'.sz,hc'.df,hc'.rg,hc'.wk.drew⟩
end
structure CallY(P:Program)(f:FuncId)(args:Nat->List AV)(xs:List (List PV))(k n:Nat):Prop where
 fn:lS P f
 go:∀ (l:Nat) (J:Nat->Hp->(Nat->Prop)->World->Prop) (h:Hp) (r:Nat->Value) (G:Nat->Prop) (W:World) (n0:Nat) (cargs:Array Value),n0<=W.heap.size->GlOK h->Keeps2 P l xs n0 J->J k h G W->RepArgs h r (args l) cargs.toList ->
  CallsIn (Wd none) 0 P f cargs W fun e W'=>∃ b k' h' G',e=.returned (.bool b)∧(b=true->k'=k+n)∧(b=false->xs.length<k')∧J k' h' G' W'∧Gave G h W G' h' W'
def SM(fn:Func)(m k n:Nat)(e:Exit)(k':Nat)(s:St):Prop:=(e=.normal∨e=.ret)∧∃ t b,fn.results=#[.tmp t]∧s.regs t=.p (.c (.v (.bool b)))∧(b=true->k'=k+n)∧(b=false->m<k')
theorem j8{P:Program}{f:FuncId}{fn:Func}{c:Code}{N:Nat}{args:Nat->List AV}{xs:List (List PV)}{k n:Nat}(hf:P.funcs[f]?=some fn)(hnm:(fn.name == "runtime.NumGoroutine")=false)(hb:fn.body=some c)(hN:fn.ntmps=N)(hna:∀ l,(args l).length<=N)(h:∀ l n0 J,Keeps2 P l xs n0 J->AK P n0 J N 0 c (SM fn xs.length k n) k ⟨fun t=>(args l).getD t .junk,O⟩):CallY P f args xs k n:=by
 refine⟨⟨fn,hf,hnm,by rw[hb];rfl⟩,?_⟩;intro l J hh r G W n0 cargs hn0 hgl hK h0 hra;refine callsIn_of_wp_marks hf hb trivial ?_;have hlen:∀ (aa:List AV) (xs:List Value),RepArgs hh r aa xs->xs.length=aa.length:=by
  intro aa;induction aa with
  |nil=>intro xs h;cases xs with
   |nil=>rfl
   |cons _ _=>exact h.elim
  |cons p ps ih=>intro xs h;cases xs with
   |nil=>exact h.elim
   |cons x xs=>simp[ih xs h.2]
 have hget:∀ (aa:List AV) (xs:List Value),RepArgs hh r aa xs->∀ (t:Nat) (x:AV),aa[t]?=some x->∃ y,xs[t]?=some y∧AVRep hh r x y:=by
  intro aa;induction aa with
  |nil=>intro xs _ t x h;simp at h
  |cons p ps ih=>intro xs h t x hx;cases xs with
   |nil=>exact h.elim
   |cons y ys=>cases t with
    |zero=>simp at hx;subst hx;exact⟨y,rfl,h.1⟩
    |succ t=>exact ih ys h.2 t x (by simpa using hx)
 have hl:cargs.size=(args l).length:=by simpa using hlen _ _ hra
 have hna':=hna l;refine wpIn_mono (h l n0 J hK none ⟨r,hh,W,G⟩ hh r _ W G ⟨?_,rfl,?_,(⟨W,hh,fun _=>False,r,0,false⟩:Ctx),?_,h0,hn0,fun _ e=>e.elim,rfl,rfl,fun _ _=>rfl,Gave.start fun _ e=>e⟩) ?_
 ·simp[hN,hl];omega
 ·intro t;show AVRep hh _ ((args l).getD t .junk) _;rw[As];cases ht:(args l)[t]? with
  |none=>exact trivial
  |some x =>
   obtain⟨y,g1,g2⟩:=hget _ _ hra t x ht;have g1':cargs[t]?=some y:=by rw[<- UJ];exact g1
   have hlt:t<cargs.size:=(K0.1 g1').1;simp only[Option.getD_some,Array.getD_eq_getD_getElem?];rw[U9 hlt,g1'];exact g2
 ·exact⟨fun m b e=>(by cases e),fun m n k e=>absurd rfl e,hK.hi _ _ _ _ h0,fun m k e=>absurd rfl e,rfl,rfl,.refl _,Iv _,fun _ _ _=>rfl,fun m k e=>absurd rfl e,Hle.refl _,fun k e=>Or.inl e,hgl,fun _ _=>rfl,fun m b j e=>(by cases e)⟩
 rintro e a' w' ⟨k',s',h',r',G',⟨he,t,b,e1,e2,e3,e4⟩,hc⟩;have hv:a'.tmps.getD t undef=.bool b:=by
  have:=hc.rg t;rw[e2]at this;simp only[AVRep,PRep,DRep]at this;exact this.1
 have hr:(results fn a'.tmps).run P w'=.ok (.bool b) w':=by
  rw[eY,e1];simp[iG,hv]
 have hfr:=hc.frame;have fin:LeavesInM (Wd none) 0 P fn a'.tmps (fun e W'=>∃ b k' h' G',e=.returned (.bool b)∧(b=true->k'=k+n)∧(b=false->xs.length<k')∧J k' h' G' W'∧Gave G hh W G' h' W') a'.defers .returning w':=by
  rw[hc.df];exact⟨_,hr,b,k',h',G',rfl,e3,e4,hc.now hK.toKeepsB,⟨hfr.os,hfr.tape,hfr.output,hfr.size,hfr.old,hfr.hg,hfr.hn,fun i hi=>hfr.gg i (.inl hi)⟩⟩
 rcases he with rfl|rfl <;> exact fin
def FnX(f:FuncId)(caps:List AV):Hp->Value->Prop:=fun h x=>∃ lb:Array Value,x=.func (.func f) #[] lb∧RepArgs h (fun _=>undef) caps lb.toList
theorem RepArgs.named{h:Hp}{r r':Nat->Value}:∀ {vs:List AV} {xs:List Value},(∀ v∈vs,men v=[])->RepArgs h r vs xs->RepArgs h r' vs xs
 | [],[],_,_=>trivial
 |v::vs,x::xs,hm,k=>⟨AVRep.rebind v x (fun m hmm=>by rw[hm v (by simp)]at hmm;cases hmm) k.1,RepArgs.named (fun u hu=>hm u (by simp[hu])) k.2⟩
 | [],_::_,_,k=>k.elim
 |_::_,[],_,k=>k.elim
theorem RepArgs.cat2{h:Hp}{r:Nat->Value}:∀ {as0 bs:List AV} {xs ys:List Value},RepArgs h r as0 xs->RepArgs h r bs ys->RepArgs h r (as0++bs) (xs++ys)
 | [],_,[],_,_,k=>k
 |_::_,_,_::_,_,q,k=>⟨q.1,RepArgs.cat2 q.2 k⟩
 | [],_,_::_,_,q,_=>q.elim
 |_::_,_,[],_,q,_=>q.elim
section rj
variable {P:Program}{l:Nat}{xs:List (List PV)}{n0:Nat}{J:Nat->Hp->(Nat->Prop)->World->Prop}{N np:Nat}
variable {Q:Exit->Nat->St->Prop}{k:Nat}{s:St}
variable {ops:Array Oper}{os:List Oper}{i:Nat}{op:Op}{ty:TypeId}{pos:String}{af:Array Edge}{gd:Option (Nat×Bool)}{t:Nat}
theorem RY.callY(hK:Keeps2 P l xs n0 J){f:FuncId}{caps:List AV}{c:Operand}{args:Array Operand}{tys:Array TypeId}{as0:Nat->List AV}{n:Nat}(hg:cm ops ⟨some t,.call ⟨.value c,args,tys⟩,ty,pos,af,gd⟩ s.regs true)(hy:ev s.regs c=.ax (FnX f caps))(hcm:∀ v∈caps,men v=[])(ha:args.toList.map (ev s.regs)++caps=as0 l)(hc0:CallY P f as0 xs k n)(hr:∀ b k',(b=true->k'=k+n)->(b=false->xs.length<k')->RY P n0 J N np Q ops os (i+1) k' ⟨upd s.regs t (.p (.c (.v (.bool b)))),s.own⟩)(hN:Nat.blt t N=true:=by rfl):RY P n0 J N np Q ops (⟨some t,.call ⟨.value c,args,tys⟩,ty,pos,af,gd⟩::os) i k s:=by
 intro hd ro S hh r a w G hc;obtain⟨h1,h2⟩:=jv hd;rw[WR]at hN;rw[U5,V8,wpOpsIn_cons];unfold wpOpIn;simp only[h1];rw[eX hc.rg hg,H2 rfl];have hyv:=eL hc.rg c;rw[hy]at hyv;obtain⟨lb,hval,hcap⟩:=hyv hh (fun _ _ _ e=>e);have hra:RepArgs hh r (as0 l) (args.map a.eval++lb).toList:=by
  rw[<- ha,W5,VU];exact RepArgs.cat2 (cX _ fun x _=>eL hc.rg x) (RepArgs.named hcm hcap)
 refine⟨fun _ _=>trivial,?_⟩;rw[Oper.semAt_eq _ _ _ (fun c' e=>by cases e)];have hex:(execOp a.eval ⟨some t,.call ⟨.value c,args,tys⟩,ty,pos,af,gd⟩).run P w=.ok (.enter f (args.map a.eval++lb)) w:=by
  simp only[execOp,resolve,Sem.run_bind,hval,Deferred.ofValue,Sem.run_pure,Result.andThen_ok,invoke,Array.empty_append];exact bU hc0.fn _ w
 rw[hex];obtain⟨C,hw,hj0,hs,hF,hn,hm,hr0,hfr⟩:=hc.kj;refine⟨fun e=>by simp[Wd]at e,CallsIn.mono (hc0.go l J hh r G w n0 _ (UA hs hw.size) hw.gl hK (hc.now hK.toKeepsB) hra) ?_⟩;rintro e w' ⟨b,k',h',G',rfl,hb1,hb2,hj,q⟩;have same:∀ m i,s.own m≠none->aD (r m)=some i->w'.heap[i]?=w.heap[i]?:=fun m i hm e=>by
  have:=hc.notG hK.toKeepsB hm e;exact q.old i this.2.2.1 this.2.1
 have hw':WOK ⟨w',h',fun i=>∃ m,s.own m≠none∧aD (r m)=some i,r,np,false⟩ h' r s.own w':=by
  refine⟨fun m b e=>((hw.ow m b e).mono q.hg).world fun i hi=>same m i (by rw[e];simp) hi,hw.inj,hK.hi _ _ _ _ hj,fun m i hm e=>?_,rfl,rfl,.refl _,Iv _,fun _ _ _=>rfl,fun m i hm e=>.inr ⟨m,hm,e⟩,.refl _,fun _ e=>.inl e,hw.gl.mono q.hg,fun _ _=>rfl,fun m b j e hj'=>?_⟩
  ·have hg:=hc.notG hK.toKeepsB hm e;cases hh':h' i with
   |none=>rfl
   |some o =>
    rcases q.hn i (by rw[hh'];simp)with g|g|g
    ·exact absurd hg.2.2.2 g
    ·omega
    exact absurd g hg.2.1
  obtain⟨q1,t',e1,e2⟩:=hw.lk m b j e hj';exact⟨q1,t',e1,by rw[same m q1 (by rw[e];simp) (by rw[e1];rfl)];exact e2⟩
 have n1:n0<=w'.heap.size:=UA (UA hs hw.size) q.size;refine hr b k' hb1 hb2 h2 ro S h' r _ w' G' ⟨by simp[Act.put,hc.sz],by simpa[Act.put]using hc.df,(show RegsOK h' r s.regs a from fun u=>AVRep.mono q.hg _ _ (hc.rg u)).put (dst:=some t) (v:=.p (.c (.v (.bool b)))) (x:=.bool b) (fun d e=>by cases e;rw[hc.sz];exact hN) ⟨rfl,rfl⟩,_,hw',hj,n1,?_,rfl,rfl,fun m hm=>?_,hc.frame.trans q.plus⟩
 rotate_left
 ·show r m=_;rw[hw.kp m (by omega)];exact hr0 m hm
 rintro i ⟨m,hm,e⟩;have hg:=hc.notG hK.toKeepsB hm e;refine⟨hg.1,fun x=>?_,?_⟩
 ·rcases q.gg i x with g|g
  ·exact hg.2.1 g
  omega
 exact hw'.ho m i hm e
end rj
section ghost
variable {P:Program}{n0:Nat}{J:Nat->Hp->(Nat->Prop)->World->Prop}{N np:Nat}{Q:Exit->Nat->St->Prop}{k:Nat}{s:St}{c:Code}
theorem AB(s':St)(h0:∀ (C:Ctx) (h:Hp) (r:Nat->Value) (a:Act) (w:World),C.np=np->Conc C N h r s a w->∃ h' r',Conc C N h' r' s' a w)(h:AK P n0 J N np c Q k s'):AK P n0 J N np c Q k s:=by
 intro ro S hh r a w G hc;obtain⟨C,hw,hj,hs,hF,hn,hm,hr0,hfr⟩:=hc.kj;obtain⟨h',r',c'⟩:=h0 C hh r a w hn ⟨hc.sz,by rw[hc.df];trivial,hc.rg,hw⟩;exact h ro S h' r' a w G ⟨c'.sz,hc.df,c'.rg,C,c'.wk,hj,hs,hF,hn,hm,hr0,hfr⟩
theorem cp{t m z:Nat}{e:TypeId}{cs:List DV}(ht:s.regs t=.loc m 0)(hb:s.own m=some ⟨false,z,e,cs⟩)(h:AK P n0 J N np c Q k ⟨upd s.regs t (.ip cs),upd s.own m none⟩):AK P n0 J N np c Q k s :=
 AB _ (fun C hh r a w _ hc=>by
  have hold:=hc.wk.ow m _ hb;rw[BlkRep.boxE rfl]at hold;obtain⟨k,cc,q1,q2,q3,q4⟩:=hold;obtain⟨f1,f2⟩:=hc.wk.freeze (m:=m) (i:=k) (by rw[hb];simp) (by rw[q1];rfl) q2;refine⟨_,r,hc.sz,hc.df.mono f2,fun t'=>?_,f1⟩;show AVRep _ _ (upd s.regs t _ t') _;by_cases e':t'=t
  ·subst e';rw[upd_same];have hx:=hc.rg t';rw[ht]at hx;obtain⟨k2,⟨g1,_⟩,g2⟩:=hx;rw[q1]at g1;simp only[aD,Option.some.injEq]at g1;subst g1;exact⟨k,0,cc,e,(0,0),g2,H2 rfl,(DReps.mono f2 _ _ q4).congr fun q _=>by rw[XH]⟩
  rw[aj _ _ _ _ e'];exact AVRep.mono f2 _ _ (hc.rg t')) h
theorem sC{β:Type}{encD:β->List DV}{z:Nat}(hL:∀ b,(encD b).length=z)(hz:Nat.blt 0 z=true){t m:Nat}{l:List β}{e:TypeId}(ht:s.regs t=.vec m)(hb:s.own m=some (VB z e encD l))(h:AK P n0 J N np c Q k ⟨upd s.regs t (.p (.c (SL encD l))),upd s.own m none⟩):AK P n0 J N np c Q k s :=
 AB _ (fun C hh r a w _ hc=>by
  have hz':0<z:=by simpa using hz
  have hbr:=hc.wk.ow m _ hb;rw[BlkRep.slE rfl hz']at hbr;obtain⟨ad,n,cap,p1,p2,p3,p4,p5⟩:=hbr;have hn:n=l.length:=U4 hz' (p2.trans (a6 hL l));subst hn;have hx:=hc.rg t;rw[ht]at hx;have hx':a.tmps.getD t undef=r m:=hx;have hfg:∀ p,upd s.own m none p=s.own p∨upd s.own m none p=none:=fun p=>by
   by_cases e:p=m
   ·subst e;exact .inr (by simp)
   exact .inl (by rw[aj _ _ _ _ e])
  have fin:∀ h',Hle hh h'->WOK C h' r (upd s.own m none) w->DRep h' (SL encD l) (r m)->Conc C N h' r ⟨upd s.regs t (.p (.c (SL encD l))),upd s.own m none⟩ a w:=fun h' f2 f1 f3=>⟨hc.sz,hc.df.mono f2,fun t'=>by
   show AVRep _ _ (upd s.regs t _ t') _;by_cases e':t'=t
   ·subst e';rw[upd_same,hx'];exact f3
   rw[aj _ _ _ _ e'];exact AVRep.mono f2 _ _ (hc.rg t'),f1⟩
  rcases p5 with p5|⟨i,cc,rfl,q2,q3,q4⟩
  ·refine⟨hh,r,fin hh (.refl _) (hc.wk.forget hfg) ?_⟩;simp only[DRep];have hl:l=[]:=Ux (by omega);exact⟨ad,cap,p1,p3,p4,.inl (by rw[hl];rfl)⟩
  by_cases hc0:cap=0
  ·refine⟨hh,r,fin hh (.refl _) (hc.wk.forget hfg) ?_⟩;simp only[DRep];have hl:l=[]:=Ux (by omega);exact⟨_,cap,p1,p3,p4,.inl (by rw[hl];rfl)⟩
  obtain⟨f1,f2⟩:=hc.wk.freeze (m:=m) (i:=i) (by rw[hb];simp) (by rw[p1];simp[aD,hc0]) q2;refine⟨_,r,fin _ f2 f1 ?_⟩;simp only[DRep];exact⟨_,cap,p1,p3,p4,.inr ⟨i,0,cc,e,(0,0),rfl,H2 rfl,(DReps.mono f2 _ _ q4).congr fun q _=>by rw[XH]⟩⟩) h
end ghost
open Go.MapKept
abbrev En:=Value×List DV
def flE(E:List En):List DV:=E.flatMap fun e=>.v e.1::e.2
abbrev MP(a:Option Nat)(E:List En):DV:=.mp a (flE E)
abbrev MB(a:Option Nat)(E:List En):Blk:=⟨true,0,0,[MP a E]⟩
def EW(a:Option Nat)(E:List En):Prop:=∀ e∈E,e.2.length+1=mw a
def ERep(h:Hp)(a:Option Nat)(e:En)(m:MapEntry):Prop:=m.key=e.1∧e.1.oneCell'=true∧e.2.length+1=mw a∧DReps h e.2 (iB a m.val)
def ERepL(h:Hp)(a:Option Nat):List En->List MapEntry->Prop
 | [],[]=>True
 |e::E,m::l=>ERep h a e m∧ERepL h a E l
 |_,_=>False
theorem wA(a:Option Nat):0<mw a:=by cases a <;> simp[mw]
theorem nG(e:En)(E:List En):flE (e::E)=.v e.1::(e.2++flE E):=by simp[flE]
theorem zV{a:Option Nat}:∀ {E:List En},EW a E->(flE E).length=E.length*mw a
 | [],_=>by simp[flE]
 |e::E,h=>by
  have h1:=h e (by simp);have ih:=zV (a:=a) (E:=E) fun x hx=>h x (by simp[hx])
  rw[nG];simp only[List.length_cons,List.length_append,ih,Nat.add_mul,Nat.one_mul];omega
theorem DReps.split{h:Hp}{xs ys:List DV}{g:Nat->Option Value}:DReps h (xs++ys) g↔DReps h xs g∧DReps h ys fun i=>g (xs.length+i):=by
 constructor
 ·intro k;refine⟨?_,?_⟩
  ·have:=k.take xs.length
   rwa [List.take_left]at this
  have:=k.drop xs.length
  rwa [List.drop_left]at this
 rintro⟨k1,k2⟩;rw[DReps.iff];intro i d hi;by_cases hl:i<xs.length
 ·rw[UQ hl]at hi;exact k1.get i d hi
 rw[US (by omega)]at hi;have:=k2.get _ d hi
 rwa [Nat.add_sub_cancel' (by omega)]at this
theorem Bd{a:Option Nat}{m:MapEntry}{l:List MapEntry}(i:Nat):eT a (m::l) (mw a+i)=eT a l i:=by
 have:=wA a;simp only[eT];rw[G2 (by omega),G2 (by omega),Nat.add_sub_cancel_left]
theorem lL{h:Hp}{a:Option Nat}:∀ {E:List En} {l:List MapEntry},EW a E->(((flE E).length=l.length*mw a∧DReps h (flE E) (eT a l))↔ERepL h a E l)
 | [],[],_=>by simp[flE,DReps,ERepL]
 | [],m::l,_=>by
  have:=wA a;simp only[flE,List.flatMap_nil,List.length_nil,List.length_cons,ERepL,iff_false];rintro⟨e,_⟩;rw[Vt]at e;omega
 |e::E,[],hw=>by
  simp only[nG,List.length_cons,List.length_nil,Nat.zero_mul,ERepL,iff_false];rintro⟨e,_⟩;omega
 |e::E,m::l,hw=>by
  have h1:=hw e (by simp);have ih:=lL (h:=h) (a:=a) (E:=E) (l:=l) fun x hx=>hw x (by simp[hx])
  have hwE:EW a E:=fun x hx=>hw x (by simp[hx])
  have hlE:=zV hwE;have hp:=wA a;have hle:(flE (e::E)).length=(m::l).length*mw a↔(flE E).length=l.length*mw a:=by
   rw[nG];simp only[List.length_cons,List.length_append,Nat.add_mul,Nat.one_mul];omega
  have hcell:DReps h (flE (e::E)) (eT a (m::l))↔(m.key=e.1∧e.1.oneCell'=true∧DReps h e.2 (iB a m.val))∧DReps h (flE E) (eT a l):=by
   rw[nG,show(DV.v e.1::(e.2++flE E))=(DV.v e.1::e.2)++flE E from rfl,DReps.split];have e1:(fun i=>eT a (m::l) ((DV.v e.1::e.2).length+i))=eT a l:=by
    funext i
    rw[U5,h1];exact Bd i
   rw[e1];refine and_congr ?_ Iff.rfl;simp only[DReps,DRep];have e2:DReps h e.2 (fun i=>eT a (m::l) (i+1))↔DReps h e.2 (iB a m.val):=by
    have:∀ i,i<e.2.length->eT a (m::l) (i+1)=iB a m.val i:=fun i hi=>by
     simp only[eT];rw[G2 (by omega),H2 (by omega),XL]
    exact⟨fun k=>k.congr fun i hi=>(this i hi).symm,fun k=>k.congr fun i hi=>this i hi⟩
   rw[e2];constructor
   ·rintro⟨⟨y,g1,g2,g3⟩,g4⟩;simp only[eT,if_true,Option.some.injEq]at g1;exact⟨g1.trans g2,g3,g4⟩
   rintro⟨g1,g2,g3⟩;exact⟨⟨m.key,by simp[eT],g1,g2⟩,g3⟩
  rw[hle,hcell];show _↔ERep h a e m∧ERepL h a E l;rw[<- ih];unfold ERep;constructor
  ·rintro⟨g1,⟨g2,g3,g4⟩,g5⟩;exact⟨⟨g2,g3,h1,g4⟩,g1,g5⟩
  rintro⟨⟨g2,g3,_,g4⟩,g1,g5⟩;exact⟨g1,⟨g2,g3,g4⟩,g5⟩
theorem ERepL.len{h:Hp}{a:Option Nat}:∀ {E:List En} {l:List MapEntry},ERepL h a E l->E.length=l.length
 | [],[],_=>rfl
 |_::_,_::_,k=>by simp[ERepL.len k.2]
 | [],_::_,k=>k.elim
 |_::_,[],k=>k.elim
theorem ERep.mono{h h':Hp}(hh:Hle h h'){a:Option Nat}{e:En}{m:MapEntry}(k:ERep h a e m):ERep h' a e m:=⟨k.1,k.2.1,k.2.2.1,DReps.mono hh _ _ k.2.2.2⟩
theorem ERepL.mono{h h':Hp}(hh:Hle h h'){a:Option Nat}:∀ {E:List En} {l:List MapEntry},ERepL h a E l->ERepL h' a E l
 | [],[],_=>trivial
 |_::_,_::_,k=>⟨k.1.mono hh,ERepL.mono hh k.2⟩
 | [],_::_,k=>k.elim
 |_::_,[],k=>k.elim
theorem ERepL.app{h:Hp}{a:Option Nat}:∀ {E F:List En} {l m:List MapEntry},ERepL h a E l->ERepL h a F m->ERepL h a (E++F) (l++m)
 | [],_,[],_,_,q=>q
 |_::_,_,_::_,_,k,q=>⟨k.1,ERepL.app k.2 q⟩
 | [],_,_::_,_,k,_=>k.elim
 |_::_,_,[],_,k,_=>k.elim
theorem ERepL.perm{h:Hp}{a:Option Nat}{E F:List En}(p:E.Perm F):∀ {l:List MapEntry},ERepL h a E l->∃ l',l'.Perm l∧ERepL h a F l':=by
 induction p with
 |nil=>intro l k;exact⟨l,.refl _,k⟩
 | @cons e E F _ ih =>
  intro l k;cases l with
  |nil=>exact k.elim
  |cons m l =>
   obtain⟨l',h1,h2⟩:=ih k.2;exact⟨m::l',h1.cons m,k.1,h2⟩
 |swap e f E =>
  intro l k
  match l,k with
  |m::n::l,k=>exact⟨n::m::l,.swap _ _ _,k.2.1,k.1,k.2.2⟩
  | [m],k=>exact k.2.elim
  | [],k=>exact k.elim
 |trans _ _ ih1 ih2 =>
  intro l k;obtain⟨l1,h1,h2⟩:=ih1 k;obtain⟨l2,h3,h4⟩:=ih2 h2;exact⟨l2,h3.trans h1,h4⟩
theorem ERepL.perm'{h:Hp}{a:Option Nat}{l m:List MapEntry}(p:l.Perm m):∀ {E:List En},ERepL h a E l->∃ F,F.Perm E∧ERepL h a F m:=by
 induction p with
 |nil=>intro E k;exact⟨E,.refl _,k⟩
 | @cons x l m _ ih =>
  intro E k;cases E with
  |nil=>exact k.elim
  |cons e E =>
   obtain⟨F,h1,h2⟩:=ih k.2;exact⟨e::F,h1.cons e,k.1,h2⟩
 |swap x y l =>
  intro E k
  match E,k with
  |e::f::E,k=>exact⟨f::e::E,.swap _ _ _,k.2.1,k.1,k.2.2⟩
  | [e],k=>exact k.2.elim
  | [],k=>exact k.elim
 |trans _ _ ih1 ih2 =>
  intro E k;obtain⟨F1,h1,h2⟩:=ih1 k;obtain⟨F2,h3,h4⟩:=ih2 h2;exact⟨F2,h3.trans h1,h4⟩
def Ents(h:Hp)(a:Option Nat)(E:List En)(es:Array MapEntry):Prop:=∃ l,l.Perm es.toList∧ERepL h a E l
theorem Ents.mono{h h':Hp}(hh:Hle h h'){a:Option Nat}{E:List En}{es:Array MapEntry}:Ents h a E es->Ents h' a E es
 |⟨l,h1,h2⟩=>⟨l,h1,h2.mono hh⟩
theorem Ents.perm{h:Hp}{a:Option Nat}{E F:List En}{es:Array MapEntry}(p:E.Perm F):Ents h a E es->Ents h a F es
 |⟨l,h1,h2⟩=>by
  obtain⟨l',g1,g2⟩:=h2.perm p;exact⟨l',g1.trans h1,g2⟩
theorem wB{h:Hp}{a:Option Nat}{E:List En}{x:Value}(hw:EW a E):DRep h (MP a E) x↔∃ k es clk,x=.map (some k)∧h k=some (.map es clk)∧iW es clk∧Ents h a E es:=by
 simp only[DRep];constructor
 ·rintro⟨k,es,clk,l,h1,h2,h3,h4,h5,h6⟩;exact⟨k,es,clk,h1,h2,h3,l,h4,(lL hw).1 ⟨h5,h6⟩⟩
 rintro⟨k,es,clk,h1,h2,h3,l,h4,h5⟩;have:=(lL hw).2 h5;exact⟨k,es,clk,l,h1,h2,h3,h4,this.1,this.2⟩
theorem oC{h:Hp}{w:World}{a:Option Nat}{E:List En}{v:Value}(hw:EW a E):BlkRep h w v (MB a E)↔∃ k es clk,v=.map (some k)∧w.heap[k]?=some (.map es clk)∧iW es clk∧Ents h a E es:=by
 rw[BlkRep.mpE rfl rfl];simp only[MapRep];constructor
 ·rintro⟨k,es,clk,l,h1,h2,h3,h4,h5,h6⟩;exact⟨k,es,clk,h1,h2,h3,l,h4,(lL hw).1 ⟨h5,h6⟩⟩
 rintro⟨k,es,clk,h1,h2,h3,l,h4,h5⟩;have:=(lL hw).2 h5;exact⟨k,es,clk,l,h1,h2,h3,h4,this.1,this.2⟩
structure KeyT{κ:Type}(d:TypeDesc)(kv:κ->Value):Prop where
 key:∀ k,IsKey d (kv k)
 inj:∀ {a b},kv a=kv b->a=b
theorem uD{d:TypeDesc}{x:Value}(h:IsKey d x):x.oneCell'=true:=by cases d <;> cases x <;> first|rfl|exact h.elim
section keys
variable {κ:Type}[DecidableEq κ]
abbrev MM(κ:Type):=List (κ×List DV)
def enE(kv:κ->Value)(M:MM κ):List En:=M.map fun p=>(kv p.1,p.2)
def fD(M:MM κ)(k:κ):Option (List DV):=match M with
 | []=>none
 |p::M=>if p.1=k then some p.2 else fD M k
def gw(M:MM κ)(k:κ)(v:List DV):MM κ:=match M with
 | []=>[(k,v)]
 |p::M=>if p.1=k then(k,v)::M else p::gw M k v
theorem oI{k:κ}{v:List DV}:∀ {M:MM κ},fD M k=some v->(k,v)∈M
 | [],h=>by cases h
 |p::M,h=>by
  unfold fD at h;split at h
  ·next e=>cases h;subst e;simp
  exact Vv _ (oI h)
theorem oJ{k:κ}:∀ {M:MM κ},fD M k=none->∀ p∈M,p.1≠k
 | [],_=>fun _ hq=>by cases hq
 |p::M,h=>by
  unfold fD at h;split at h
  ·cases h
  next e =>
  intro q hq;rcases Vh.1 hq with rfl|hq
  ·exact e
  exact oJ h q hq
theorem mr{k:κ}{v:List DV}:∀ {M:MM κ},(M.map (·.1)).Nodup->(k,v)∈M->fD M k=some v
 |p::M,hn,h=>by
  have hn':=Wu.1 hn;unfold fD;rcases Vh.1 h with rfl|h
  ·simp
  rw[G2 (fun(e:p.1=k)=>hn'.1 (UO.2 ⟨_,h,e.symm⟩))];exact mr hn'.2 h
theorem vW{k:κ}{v v':List DV}:∀ {M:MM κ},(M.map (·.1)).Nodup->(k,v')∈M->∃ M1 M2,M=M1++(k,v')::M2∧gw M k v=M1++(k,v)::M2
 |p::M,hn,h=>by
  have hn':=Wu.1 hn;by_cases e:p.1=k
  ·rcases Vh.1 h with rfl|h
   ·exact⟨[],M,rfl,by simp[gw]⟩
   exact absurd (UO.2 ⟨_,h,e.symm⟩) hn'.1
  rcases Vh.1 h with rfl|h
  ·exact absurd rfl e
  obtain⟨M1,M2,h1,h2⟩:=vW (v:=v) hn'.2 h;exact⟨p::M1,M2,by rw[h1];rfl,by simp[gw,e,h2]⟩
theorem qM{k:κ}{v:List DV}:∀ {M:MM κ},(∀ p∈M,p.1≠k)->gw M k v=M++[(k,v)]
 | [],_=>rfl
 |p::M,h=>by
  simp only[gw,if_neg (h p (by simp)),List.cons_append];rw[qM fun q hq=>h q (by simp[hq])]
variable {kv:κ->Value}{d:TypeDesc}{h:Hp}{a:Option Nat}
theorem ERepL.keys:∀ {E:List En} {l:List MapEntry},ERepL h a E l->l.map (·.key)=E.map (·.1)
 | [],[],_=>rfl
 |_::_,_::_,k=>by simp[ERepL.keys k.2,k.1.1]
 | [],_::_,k=>k.elim
 |_::_,[],k=>k.elim
theorem ERepL.mem_l:∀ {E:List En} {l:List MapEntry},ERepL h a E l->∀ m∈l,∃ e∈E,ERep h a e m
 |e::E,m::l,k,x,hx=>by
  rcases Vh.1 hx with rfl|hx
  ·exact⟨e,by simp,k.1⟩
  obtain⟨f,h1,h2⟩:=ERepL.mem_l k.2 x hx;exact⟨f,by simp[h1],h2⟩
 | [],_::_,k,_,_=>k.elim
theorem ERepL.mem_E:∀ {E:List En} {l:List MapEntry},ERepL h a E l->∀ e∈E,∃ m∈l,ERep h a e m
 |e::E,m::l,k,x,hx=>by
  rcases Vh.1 hx with rfl|hx
  ·exact⟨m,by simp,k.1⟩
  obtain⟨f,h1,h2⟩:=ERepL.mem_E k.2 x hx;exact⟨f,by simp[h1],h2⟩
 |_::_,[],k,_,_=>k.elim
omit [DecidableEq κ] in
theorem GD(M:MM κ):(enE kv M).map (·.1)=(M.map (·.1)).map kv:=by simp[enE]
variable (K:KeyT d kv)
include K
omit [DecidableEq κ] K in
theorem sj{M:MM κ}{es:Array MapEntry}{clk:Nat}(hs:iW es clk)(he:Ents h a (enE kv M) es):(M.map (·.1)).Nodup:=by
 obtain⟨l,h1,h2⟩:=he;have h3:(l.map (·.key)).Nodup:=(h1.map _).nodup_iff.2 hs.2.2;rw[h2.keys,GD]at h3;exact(List.pairwise_map.1 h3).imp fun hne e=>hne (by rw[e])
omit [DecidableEq κ] in
theorem Bv{M:MM κ}{es:Array MapEntry}(he:Ents h a (enE kv M) es):∀ x∈es.toList,IsKey d x.key:=by
 obtain⟨l,h1,h2⟩:=he;intro x hx;obtain⟨e,g1,g2⟩:=h2.mem_l x (h1.mem_iff.2 hx);obtain⟨p,_,rfl⟩:=UO.1 g1;rw[g2.1];exact K.key _
theorem uK{M:MM κ}{es:Array MapEntry}{clk:Nat}(hs:iW es clk)(he:Ents h a (enE kv M) es)(k:κ) :
  (fD M k=none∧Instr.findNow d (kv k) es.toList 0=some none∧∀ x∈es.toList,x.key≠kv k) ∨
  ∃ j m vs,fD M k=some vs∧Instr.findNow d (kv k) es.toList 0=some (some (j,m.val))∧es[j]?=some m∧ERep h a (kv k,vs) m:=by
 have hn:=sj hs he;rcases findNow_spec (K.key k) es.toList 0 (Bv K he)with⟨h1,h2⟩|⟨j,e,h1,h2,h3⟩
 ·refine .inl ⟨?_,h1,h2⟩;cases hg:fD M k with
  |none=>rfl
  |some vs =>
   obtain⟨l,g1,g2⟩:=he;obtain⟨m,q1,q2⟩:=g2.mem_E (kv k,vs) (UO.2 ⟨_,oI hg,rfl⟩);exact absurd q2.1 (h2 m (g1.mem_iff.1 q1))
 obtain⟨l,g1,g2⟩:=he;have hm:e∈l:=g1.mem_iff.2 (U8 h2);obtain⟨x,q1,q2⟩:=g2.mem_l e hm;obtain⟨p,q3,rfl⟩:=UO.1 q1;have hk:p.1=k:=K.inj (q2.1.symm.trans h3);subst hk;refine .inr ⟨j,e,p.2,mr hn q3,by simpa using h1,by simpa using h2,q2⟩
theorem xr{M:MM κ}{es:Array MapEntry}{k:κ}{vs:List DV}{v:Value}{b:Nat}(he:Ents h a (enE kv M) es)(hv:vs.length+1=mw a∧DReps h vs (iB a v))(hk:fD M k=none) :
  Ents h a (enE kv (gw M k vs)) (es.push ⟨kv k,v,b⟩):=by
 rw[qM (oJ hk)];obtain⟨l,h1,h2⟩:=he;refine⟨l++[⟨kv k,v,b⟩],by rw[Array.toList_push];exact h1.append_right _,?_⟩;unfold enE;rw[Vj];exact h2.app ⟨⟨rfl,uD (K.key k),hv.1,hv.2⟩,trivial⟩
theorem xq{M:MM κ}{es:Array MapEntry}{clk:Nat}(hs:iW es clk){k:κ}{vs ws:List DV}{v:Value}{j:Nat}{m:MapEntry}(he:Ents h a (enE kv M) es)(hv:vs.length+1=mw a∧DReps h vs (iB a v))(hk:fD M k=some ws)(hj:es[j]?=some m)(hm:m.key=kv k):Ents h a (enE kv (gw M k vs)) (es.modify j fun e=>{ e with key:=kv k,val:=v }):=by
 have hn:=sj hs he;obtain⟨M1,M2,e1,e2⟩:=vW (v:=vs) hn (oI hk);rw[e2];obtain⟨l,h1,h2⟩:=he;have hj':es.toList[j]?=some m:=by simpa using hj
 have hlt:=(Uu.1 hj').1;have hsp:es.toList=es.toList.take j++m::es.toList.drop (j+1):=by
  have:=Wi j es.toList;rw[Vn hlt]at this;rw[(Uu.1 hj').2]at this;exact this.symm
 rw[hsp]at h1;obtain⟨F,p1,p2⟩:=h2.perm' h1;obtain⟨F1,f,F2,rfl,q1,q2,q3⟩:∃ F1 f F2,F=F1++f::F2∧ERepL h a F1 (es.toList.take j)∧ERep h a f m∧ERepL h a F2 (es.toList.drop (j+1)):=by
  clear p1 hsp h1
  revert F
  generalize es.toList.take j=A;generalize es.toList.drop (j+1)=B;induction A with
  |nil=>intro F p2;cases F with
   |nil=>exact p2.elim
   |cons f F=>exact⟨[],f,F,rfl,trivial,p2.1,p2.2⟩
  |cons x A ih=>intro F p2;cases F with
   |nil=>exact p2.elim
   |cons f F =>
    obtain⟨F1,g,F2,rfl,r1,r2,r3⟩:=ih F p2.2;exact⟨f::F1,g,F2,rfl,⟨p2.1,r1⟩,r2,r3⟩
 have hf:f=(kv k,ws):=by
  have hfm:f∈enE kv M:=p1.mem_iff.1 (by simp);obtain⟨p,r1,rfl⟩:=UO.1 hfm;have:p.1=k:=K.inj (q2.1.symm.trans hm);subst this;have:=mr hn r1;rw[hk]at this;cases this;rfl
 subst hf;have p3:(F1++F2).Perm (enE kv M1++enE kv M2):=by
  have:=p1;rw[e1]at this;unfold enE at this;rw[Vj,WF]at this;exact(List.perm_middle.symm.trans (this.trans List.perm_middle)).cons_inv
 have p4:(F1++(kv k,vs)::F2).Perm (enE kv (M1++(k,vs)::M2)):=by
  unfold enE;rw[Vj,WF];exact List.perm_middle.trans ((p3.cons _).trans List.perm_middle.symm)
 have r1:ERepL h a (F1++(kv k,vs)::F2) (es.toList.take j++{ m with key:=kv k,val:=v }::es.toList.drop (j+1)) :=
  q1.app ⟨⟨rfl,uD (K.key k),hv.1,hv.2⟩,q3⟩
 obtain⟨l',s1,s2⟩:=r1.perm p4;refine⟨l',s1.trans ?_,s2⟩;have:(es.modify j fun e=>{ e with key:=kv k,val:=v }).toList=es.toList.take j++{ m with key:=kv k,val:=v }::es.toList.drop (j+1):=by
  rw[Array.toList_modify,List.modify_eq_take_cons_drop hlt,(Uu.1 hj').2]
 rw[this]
end keys
def pvM(a:Option Nat)(vs:List DV):PV:=match a with
 |none=>.c (vs.headD (.v (.bool false)))
 |some _=>.a vs
theorem JT{h:Hp}{a:Option Nat}{vs:List DV}{v:Value}(hl:vs.length+1=mw a)(hp:0<vs.length)(hd:DReps h vs (iB a v)):PRep h (pvM a vs) v:=by
 cases a with
 |none =>
  have:vs.length=1:=by simp[mw]at hl;exact hl
  match vs,this with
  | [x],_ =>
   simp only[DReps,iB]at hd;obtain⟨⟨y,e,k⟩,_⟩:=hd;simp at e;subst e;exact k
 |some n =>
  have hn:vs.length=n:=by simp[mw]at hl;exact hl
  have h0:=hd.get 0 vs[0] (by simp[hp]);obtain⟨y,e,_⟩:=h0;cases v with
  |agg cs =>
   simp only[iB]at e;split at e
   ·next hc =>
    refine⟨cs,rfl,by rw[hc,hn],hd.congr fun i _=>?_⟩;simp[iB,hc]
   cases e
  |_=>simp[iB]at e
def pvA:PV->Option Nat
 |.c _=>none
 |.a ds=>some ds.length
theorem FQ{h:Hp}{v:PV}{x:Value}(k:PRep h v x)(a:Option Nat)(ha:a=pvA v):(bv v).length+1=mw a∧DReps h (bv v) (iB a x):=by
 subst ha;cases v with
 |c d =>
  refine⟨rfl,?_⟩;simp only[bv,DReps,iB,pvA];exact⟨⟨x,by simp,k⟩,trivial⟩
 |a ds =>
  obtain⟨cs,rfl,h1,h2⟩:=k;exact⟨rfl,h2.congr fun i _=>by simp[iB,pvA,h1]⟩
theorem TyOK.map{P:Program}{T:TypeId}{i:TyI}(h:TyOK P T i){k e:Nat}(hs:i.sh=.mp k e):P.underlying T=some (.map k e):=by
 obtain⟨d,h1,h2⟩:=h.und;rw[hs]at h2;rw[h1];cases d <;> simp only[lR]at h2 <;> simp_all
def mn:Sh->TypeDesc
 |.int k=>.int k
 |.str=>.string
 |_=>.bool
def oH:Sh->Bool
 |.int _=>true
 |.str=>true
 |_=>false
theorem TyOK.kd{P:Program}{T:TypeId}{i:TyI}(h:TyOK P T i)(hs:oH i.sh=true):P.underlying T=some (mn i.sh):=by
 obtain⟨d,h1,h2⟩:=h.und;rw[h1];cases hi:i.sh <;> rw[hi]at h2 hs <;> first|(cases hs;done)|(cases d <;> simp only[lR]at h2 <;> simp_all [mn])
def AsM{κ:Type}(a:Option Nat)(kv:κ->Value)(dv:DV)(M:MM κ):Prop:=(dv=.v (.map none)∧M=[])∨dv=MP a (enE kv M)
theorem Dy{κ:Type}{kv:κ->Value}{a:Option Nat}{M:MM κ}(h:∀ p∈M,p.2.length+1=mw a):EW a (enE kv M):=fun e he=>by
 obtain⟨p,hp,rfl⟩:=UO.1 he;exact h p hp
theorem AsM.rep{κ:Type}{a:Option Nat}{kv:κ->Value}{dv:DV}{M:MM κ}(k:AsM a kv dv M)(hw:EW a (enE kv M)){h:Hp}{x:Value}(hx:DRep h dv x) :
  (x=.map none∧M=[])∨∃ b es clk,x=.map (some b)∧h b=some (.map es clk)∧iW es clk∧Ents h a (enE kv M) es:=by
 rcases k with⟨rfl,rfl⟩|rfl
 ·exact .inl ⟨hx.1,rfl⟩
 exact .inr ((wB hw).1 hx)
section ops
variable {P:Program}{tt:TT}(hT:bM P tt)
variable {dst:Option Nat}{ty:TypeId}{pos:String}{af:Array Edge}{gd:Option (Nat×Bool)}{d:Nat}{ρ:Operand->AV}{own:Own}
variable {T:TypeId}{i:TyI}{x y z:Operand}
theorem rM{a:Option Nat}:Eff P ⟨dst,.makeMap T none,ty,pos,af,gd⟩ d ρ own (.vec d) [] (some (MB a [])) []:=by
 intro C h r own' ac w K Q hrep _ hw hal hK;obtain⟨g1,g2,g3⟩:=hal (by simp);have hrun:(execOp ac.eval ⟨dst,.makeMap T none,ty,pos,af,gd⟩).run P w=.ok (.value (.map (some w.heap.size))) (w.alloc (.map #[] 0)):=by
  simp[execOp,Instr.makeMap]
 unfold Oper.wp;rw[hrun];refine hK (.map (some w.heap.size)) h (upd r d (.map (some w.heap.size))) _ (.refl _) (fun m hm=>aj _ _ _ _ (hm (by simp))) (by show _=upd r d _ d;simp) ?_;refine hw.alloc g1 g2 (fun i hi=>by cases hi;rfl) ?_ g3 rfl;rw[oC (fun e he=>by cases he)];exact⟨w.heap.size,#[],0,rfl,by rw[AM.heap_alloc,H2 rfl],stamped_empty 0,[],.refl _,trivial⟩
section keyed
variable {κ:Type}[DecidableEq κ]{kv:κ->Value}{a:Option Nat}
include hT in
theorem JU{M:MM κ}{kt et:Nat}{j:TyI}(ht:tt T=some i)(hs:i.sh=.mp kt et)(hk:tt kt=some j)(hjk:oH j.sh=true)(K:KeyT (mn j.sh) kv){h:Hp}{w:World}{b:Nat}{es:Array MapEntry}{clk:Nat}(hb:w.heap[b]?=some (.map es clk))(hm:iW es clk)(he:Ents h a (enE kv M) es)(k:κ){vs:List DV}{v:Value}(hv:vs.length+1=mw a∧DReps h vs (iB a v)) :
  ∃ es' clk',(Instr.mapUpdate T (.map (some b)) (kv k) v).run P w=.ok () { w with heap:=w.heap.setIfInBounds b (.map es' clk') }∧iW es' clk'∧Ents h a (enE kv (gw M k vs)) es':=by
 have hu:=(hT T i ht).map hs;have hd:=(hT kt j hk).kd hjk;have hkk:=K.key k;rcases uK K hm he k with⟨f1,f2,f3⟩|⟨q,m,ws,f1,f2,f3,f4⟩
 ·refine⟨es.push ⟨kv k,v,clk⟩,clk+1,?_,stamped_push hm f3,xr K he hv f1⟩;simp[Instr.mapUpdate,run_underlying hu,MapKept.run_getObj_map hb,run_checkKey hd hkk,run_findKey hd f2,run_setObj_map _ hb,Result.andThen]
 refine⟨es.modify q fun e=>{ e with key:=kv k,val:=v },clk,?_,stamped_modify hm _ _ (fun _ _=>rfl) (fun e' _ he'=>?_),xq K hm he hv f1 f3 f4.1⟩
 ·have h1:m.key=kv k:=f4.1;simp[Instr.mapUpdate,run_underlying hu,MapKept.run_getObj_map hb,run_checkKey hd hkk,run_findKey hd f2,f3,h1,run_keyThatStays hkk,run_setObj_map _ hb,Result.andThen]
 rw[f3]at he';cases he';exact f4.1.symm
theorem JV{M:MM κ}{k:κ}{vs:List DV}(hw:EW a (enE kv M))(hv:vs.length+1=mw a):EW a (enE kv (gw M k vs)):=by
 refine Dy ?_;induction M with
 |nil=>intro p hp;simp[gw]at hp;subst hp;exact hv
 |cons q M ih =>
  intro p hp;unfold gw at hp;have hq:=hw (kv q.1,q.2) (by simp[enE]);have hM:EW a (enE kv M):=fun e he=>hw e (by simp only[enE,List.map_cons,List.mem_cons];exact .inr he)
  split at hp
  ·rcases Vh.1 hp with rfl|hp
   ·exact hv
   exact hM (kv p.1,p.2) (UO.2 ⟨p,hp,rfl⟩)
  rcases Vh.1 hp with rfl|hp
  ·exact hq
  exact ih hM p hp
theorem x9{w:World}{b:Nat}{o o':Obj}(hb:w.heap[b]?=some o):SameBut b w { w with heap:=w.heap.setIfInBounds b o' }∧({ w with heap:=w.heap.setIfInBounds b o' }:World).heap[b]?=some o' :=
 ⟨⟨rfl,rfl,.refl _,by simp,fun k hk=>(heap_set hb).2 k hk⟩,(heap_set hb).1⟩
include hT in
theorem ze{o:Oper}(ho:o.op=.mapUpdate T x y z∨o.op=.insert T x y z){M M':MM κ}{kt et:Nat}{j:TyI}{m:Nat}{k:κ}{v:PV}(ht:tt T=some i)(hs:i.sh=.mp kt et)(hk:tt kt=some j)(hjk:oH j.sh=true)(K:KeyT (mn j.sh) kv)(hx:ρ x=.vec m)(hb:own m=some (MB a (enE kv M)))(hw0:EW a (enE kv M))(hy:ρ y=.p (.c (.v (kv k))))(hz:ρ z=.p v)(ha:a=pvA v)(hM:(gw M k (bv v)).Perm M') :
  Eff P o d ρ own .junk [(m,some (MB a (enE kv M')))] none [m]:=by
 intro C h r own' ac w KK Q hrep hrd hw _ hK;have hb':=(hrd m (by simp)).trans hb;have hops:o.op.operands=#[x,y,z]:=by rcases ho with ho|ho <;> rw[ho] <;> rfl
 have e1:=hrep x (by rw[hops];simp);have e2:=hrep y (by rw[hops];simp);have e3:=hrep z (by rw[hops];simp);rw[hx]at e1;rw[hy]at e2;rw[hz]at e3;have e1':ac.eval x=r m:=e1;obtain⟨b,es,clk,q1,q2,q3,q4⟩:=(oC hw0).1 (hw.ow m _ hb');have hv:=FQ e3 a ha;obtain⟨es',clk',g1,g2,g3⟩:=JU hT ht hs hk hjk K q2 q3 q4 k hv;obtain⟨s1,s2⟩:=x9 (o':=.map es' clk') q2;have hrun:(execOp ac.eval o).run P w=.ok .skip { w with heap:=w.heap.setIfInBounds b (.map es' clk') }:=by
  have:(execOp ac.eval o)=(do Instr.mapUpdate T (ac.eval x) (ac.eval y) (ac.eval z);pure .skip):=by
   rcases ho with ho|ho <;> simp only[execOp,ho]
  rw[this,e1',q1,bh e2];simp only[Sem.run_bind,g1,Result.andThen_ok,Sem.run_pure]
 unfold Oper.wp;rw[hrun];refine hK undef h r _ (.refl _) (fun _ _=>rfl) trivial (hw.write (by rw[hb'];simp) (i:=b) (by rw[q1];rfl) s1 ?_ (fun j hj=>by cases hj));have hpm:(enE kv (gw M k (bv v))).Perm (enE kv M'):=hM.map _;have hw1:=JV (k:=k) hw0 hv.1;rw[oC (fun e he=>hw1 e (hpm.mem_iff.2 he))];exact⟨b,es',clk',q1,s2,g2,g3.perm hpm⟩
include hT in
theorem wi{M M':MM κ}{kt et:Nat}{j:TyI}{m:Nat}{k:κ}{v:PV}(ht:tt T=some i)(hs:i.sh=.mp kt et)(hk:tt kt=some j)(hjk:oH j.sh=true)(K:KeyT (mn j.sh) kv)(hx:ρ x=.vec m)(hb:own m=some (MB a (enE kv M)))(hw0:EW a (enE kv M))(hy:ρ y=.p (.c (.v (kv k))))(hz:ρ z=.p v)(ha:a=pvA v)(hM:(gw M k (bv v)).Perm M') :
  Eff P ⟨dst,.mapUpdate T x y z,ty,pos,af,gd⟩ d ρ own .junk [(m,some (MB a (enE kv M')))] none [m]:=ze hT (.inl rfl) ht hs hk hjk K hx hb hw0 hy hz ha hM
include hT in
theorem CC{M M':MM κ}{kt et:Nat}{j:TyI}{m:Nat}{k:κ}{v:PV}(ht:tt T=some i)(hs:i.sh=.mp kt et)(hk:tt kt=some j)(hjk:oH j.sh=true)(K:KeyT (mn j.sh) kv)(hx:ρ x=.vec m)(hb:own m=some (MB a (enE kv M)))(hw0:EW a (enE kv M))(hy:ρ y=.p (.c (.v (kv k))))(hz:ρ z=.p v)(ha:a=pvA v)(hM:(gw M k (bv v)).Perm M') :
  Eff P ⟨dst,.insert T x y z,ty,pos,af,gd⟩ d ρ own .junk [(m,some (MB a (enE kv M')))] none [m]:=ze hT (.inr rfl) ht hs hk hjk K hx hb hw0 hy hz ha hM
def lkP(a:Option Nat)(M:MM κ)(k:κ)(zs:List DV):PV:=pvM a ((fD M k).getD zs)
def lkV(a:Option Nat)(M:MM κ)(k:κ)(zs:List DV):Bool->AV
 |true=>.t [lkP a M k zs,.c (.v (.bool (fD M k).isSome))]
 |false=>.p (lkP a M k zs)
include hT in
theorem FY{M:MM κ}{kt et:Nat}{j:TyI}{zv:Value}{zs:List DV}(ht:tt T=some i)(hs:i.sh=.mp kt et)(hk:tt kt=some j)(hjk:oH j.sh=true)(K:KeyT (mn j.sh) kv)(hz:((P.info? et).bind fun x=>x.zero)=some zv)(hp:1<mw a){h:Hp}{w:World}{xv:Value}(hzr:PRep h (pvM a zs) zv)(hx:(xv=.map none∧M=[])∨∃ b es clk,xv=.map (some b)∧w.heap[b]?=some (.map es clk)∧iW es clk∧Ents h a (enE kv M) es)(k:κ)(ok:Bool)(r:Nat->Value) :
  ∃ y,(Instr.lookup T xv (kv k) ok).run P w=.ok y w∧AVRep h r (lkV a M k zs ok) y:=by
 have hu:=(hT T i ht).map hs;have hd:=(hT kt j hk).kd hjk;have hkk:=K.key k;have hzz:(zeroValue et).run P w=.ok zv w:=by
  cases hi:P.info? et with
  |none=>rw[hi]at hz;cases hz
  |some ti=>rw[hi]at hz;simp[zeroValue,typeInfo,hi,show ti.zero=some zv from hz]
 have fin:∀ (pv:PV) (y:Value) (g:Bool),PRep h pv y->pv=lkP a M k zs->g=(fD M k).isSome->AVRep h r (lkV a M k zs ok) (if ok then .tuple #[y,.bool g]else y):=by
  intro pv y g h1 h2 h3;subst h2 h3;cases ok with
  |true=>exact⟨[y,.bool _],rfl,h1,⟨rfl,rfl⟩,trivial⟩
  |false=>exact h1
 rcases hx with⟨rfl,rfl⟩|⟨b,es,clk,rfl,hb,hm,he⟩
 ·refine⟨_,?_,fin _ zv false hzr rfl rfl⟩;have hf:Instr.findNow (mn j.sh) (kv k) [] 0=some none:=rfl;simp[Instr.lookup,run_underlying hu,run_checkKey hd hkk,run_findKey hd hf,hzz,Result.andThen]
 rcases uK K hm he k with⟨f1,f2,f3⟩|⟨q,m,ws,f1,f2,f3,f4⟩
 ·refine⟨_,?_,fin (lkP a M k zs) zv false (by simp only[lkP,f1,Option.getD_none];exact hzr) rfl (by rw[f1];rfl)⟩;simp[Instr.lookup,run_underlying hu,MapKept.run_getObj_map hb,run_checkKey hd hkk,run_findKey hd f2,hzz,Result.andThen]
 have hpl:0<ws.length:=by have:ws.length+1=mw a:=f4.2.2.1;omega
 refine⟨_,?_,fin (lkP a M k zs) m.val true (by simp only[lkP,f1,Option.getD_some];exact JT f4.2.2.1 hpl f4.2.2.2) rfl (by rw[f1];rfl)⟩;simp[Instr.lookup,run_underlying hu,MapKept.run_getObj_map hb,run_checkKey hd hkk,run_findKey hd f2,Result.andThen]
include hT in
theorem pF{M:MM κ}{kt et:Nat}{j:TyI}{zv:Value}{zs:List DV}{dv:DV}{k:κ}{ok:Bool}(ht:tt T=some i)(hs:i.sh=.mp kt et)(hk:tt kt=some j)(hjk:oH j.sh=true)(K:KeyT (mn j.sh) kv)(hz:((P.info? et).bind fun x=>x.zero)=some zv)(hp:Nat.blt 1 (mw a)=true)(hzr:∀ h,PRep h (pvM a zs) zv)(hx:ρ x=.p (.c dv))(hm:AsM a kv dv M)(hw0:EW a (enE kv M))(hy:ρ y=.p (.c (.v (kv k)))){v:AV}(hv:lkV a M k zs ok=v) :
  Eff P ⟨dst,.lookup T x y ok,ty,pos,af,gd⟩ d ρ own v [] none [] :=
 aP fun C h r own' ac w hrep hrd hw=>by
  subst hv;have e1:=hrep x (by simp[Op.operands]);have e2:=hrep y (by simp[Op.operands]);rw[hx]at e1;rw[hy]at e2;have e3:=hm.rep hw0 e1;obtain⟨yv,g1,g2⟩:=FY hT ht hs hk hjk K hz (bL0 hp) (hzr h) (w:=w) (e3.imp id fun⟨b,es,clk,q1,q2,q3,q4⟩=>⟨b,es,clk,q1,hw.hi _ _ q2,q3,q4⟩) k ok r;refine⟨yv,?_,g2⟩;simp only[execOp,bh e2,Sem.run_bind,g1,Result.andThen_ok,Sem.run_pure]
end keyed
end ops
section code
variable {P:Program}{B:Bool}{N np:Nat}{Q:Exit->St->Prop}{s:St}{c:Code}
theorem yz{t m:Nat}{a:Option Nat}{E:List En}(ht:s.regs t=.vec m)(hb:s.own m=some (MB a E))(hw:EW a E)(h:AWp P B N np c Q ⟨upd s.regs t (.p (.c (MP a E))),upd s.own m none⟩):AWp P B N np c Q s:=by
 intro ro hB C hh r ac w hn hc;obtain⟨k,es,clk,q1,q2,q3,q4⟩:=(oC hw).1 (hc.wk.ow m _ hb);obtain⟨f1,f2⟩:=hc.wk.freeze (m:=m) (i:=k) (by rw[hb];simp) (by rw[q1];rfl) q2;refine h ro hB C _ r ac w hn ⟨hc.sz,hc.df.mono f2,fun t'=>?_,f1⟩;show AVRep _ _ (upd s.regs t _ t') _;by_cases e':t'=t
 ·subst e';rw[upd_same];have hx:=hc.rg t';rw[ht]at hx;have hx':ac.tmps.getD t' undef=r m:=hx;rw[hx',q1];exact(wB hw).2 ⟨k,es,clk,rfl,H2 rfl,q3,q4.mono f2⟩
 rw[aj _ _ _ _ e'];exact AVRep.mono f2 _ _ (hc.rg t')
end code
abbrev Str:=List UInt8
def dJ(s:Str):Value:=.string ⟨s.toArray⟩
theorem mT:KeyT .string dJ:=⟨fun _=>trivial,fun{a b} h=>by
 unfold dJ at h;injection h with h
 injection h with h
 exact Ur Array.toList h⟩
abbrev stD(s:Str):DV:=.v (dJ s)
abbrev eB(s:Str):List DV:=[stD s]
theorem dG:∀ s,(eB s).length=1:=fun _=>rfl
abbrev iD(s:Str):AV:=.p (.c (stD s))
section ops
variable {P:Program}{tt:TT}(hT:bM P tt)
variable {dst:Option Nat}{ty:TypeId}{pos:String}{af:Array Edge}{gd:Option (Nat×Bool)}{d:Nat}{ρ:Operand->AV}{own:Own}
variable {T yT:TypeId}{i:TyI}{x y:Operand}{a b:Str}
include hT in
theorem zl{n:Int}(ht:tt T=some i)(hs:i.sh=.str)(hx:ρ x=iD a)(hn:(a.length:Int)=n) :
  Eff P ⟨dst,.call ⟨.builtin .len,#[x],#[T]⟩,ty,pos,af,gd⟩ d ρ own (.p (.c (.v (.int .i64 n)))) [] none []:=by
 subst hn;refine gv (fun C h r own' ac w hrep _=>?_) rfl;have e1:=bh (by have:=hrep x (by simp);rw[hx]at this;exact this);obtain⟨dd,h1,h2⟩:=(hT T i ht).und;rw[hs]at h2;have hu:P.underlying T=some .string:=by rw[h1];cases dd <;> simp only[lR]at h2 <;> rfl
 simp only[List.map_toArray,List.map_cons,List.map_nil,e1,builtin,Sem.run_bind,dJ,run_len_string w T ty _ hu,Result.andThen_ok,Sem.run_pure];rfl
theorem QG{op:BinOp}{v:Bool}(hx:ρ x=iD a)(hy:ρ y=iD b)(hv:binOp op T (dJ a) (dJ b)=pure (.bool v)):Eff P ⟨dst,.binOp op T x y yT,ty,pos,af,gd⟩ d ρ own (.p (.c (.v (.bool v)))) [] none [] :=
 aP fun C h r own' ac w hrep _ _=>by
  have e1:=hrep x (by simp[Op.operands]);have e2:=hrep y (by simp[Op.operands]);rw[hx]at e1;rw[hy]at e2;refine⟨.bool v,?_,jp _ _ _⟩;have hg:eqGuard op T x y (dJ a) (dJ b)=pure ():=by
   unfold eqGuard dJ;cases op <;> rfl
  simp only[execOp,bh e1,bh e2,hg,Sem.run_bind,Sem.run_pure,Result.andThen_ok,hv]
theorem LX(a b:Str):(a==b)=decide (a=b):=by
 rw[Vg,beq_iff_eq,decide_eq_true_iff]
theorem J6(hx:ρ x=iD a)(hy:ρ y=iD b):Eff P ⟨dst,.binOp .eql T x y yT,ty,pos,af,gd⟩ d ρ own (B (decide (a=b))) [] none [] :=
 QG hx hy (by unfold dJ;simp[binOp,Op.stringOp,LX])
end ops
theorem ut{cs:List DV}{t:TypeId×Array Value}{v:Value}(h:1<cs.length):lkC cs t v=t.2.setIfInBounds (jE cs) v:=by
 match cs,h with
 |_::_::_,_=>rfl
theorem pN{cs:List DV}{t:TypeId×Array Value}{v:Value}{p:Nat}(hp:jE cs=p)(hl:p<cs.length)(hs:(lkC cs t v).size=cs.length):(lkC cs t v)[p]?=some v:=by
 match cs,hl,hp,hs with
 | [x],hl,hp,_ =>
  have:p=0:=by simp at hl;exact hl
  subst this;rfl
 |x::y::l,hl,hp,hs =>
  have e:lkC (x::y::l) t v=t.2.setIfInBounds (jE (x::y::l)) v:=ut (by simp);rw[e]at hs ⊢;rw[hp]at hs ⊢;rw[XJ]at hs;rw[V3];simp[hs];simpa using hl
theorem qT{cs:List DV}{e:TypeId}{c:Array Value}{v:Value}{p:Nat}(hp:jE cs=p)(hl:p<cs.length)(hs:c.size=cs.length)(hv:c[p]?=some v):lkC cs (e,c) v=c:=by
 match cs,hl,hp,hs with
 | [x],hl,_,hs =>
  have:p=0:=by simp at hl;exact hl
  subst this;show #[v]=c;apply Array.ext (by simpa using hs.symm);intro i h1 h2;have:i=0:=by simp at h1;exact h1
  subst this;rw[UR h2]at hv;simpa using(Vl hv).symm
 |x::y::l,hl,hp,hs =>
  have e1:lkC (x::y::l) (e,c) v=c.setIfInBounds (jE (x::y::l)) v:=ut (by simp);rw[e1,hp];apply Array.ext (by rw[XJ]);intro q hq1 hq2;have:(c.setIfInBounds p v)[q]?=c[q]?:=by
   rw[V3];by_cases e3:p=q
   ·subst e3;rw[H2 rfl,H2 hq2,hv]
   rw[G2 e3]
  rw[UR hq1,UR hq2]at this;exact Vl this
theorem WOK.frz{C:Ctx}{h:Hp}{r:Nat->Value}{own:Own}{w:World}(k:WOK C h r own w){m n:Nat}{b:Blk}(hb:own m=some b)(hbv:b.vec=true)(hn:n*b.sz=b.cs.length)(hsz:0<b.sz) :
  ∃ h',Hle h h'∧WOK C h' r (upd own m none) w∧DRep h' (.sl n b.cs) (r m):=by
 have hold:=k.ow m b hb;rw[BlkRep.slE hbv hsz]at hold;obtain⟨ad,l,cap,q1,q2,q3,q4,q5⟩:=hold;have hl:l=n:=U4 hsz (q2.trans hn.symm);subst hl;have hfg:∀ p,upd own m none p=own p∨upd own m none p=none:=fun p=>by
  by_cases e:p=m
  ·subst e;exact .inr (by simp)
  exact .inl (by rw[aj _ _ _ _ e])
 have hlow:own m≠none:=by rw[hb];simp
 rcases q5 with q5|⟨i,cc,rfl,p2,p3,p4⟩
 ·refine⟨h,.refl _,k.forget hfg,?_⟩;have hcs:b.cs=[]:=Ux (by rw[<- q2,show l=0 by omega];simp);simp only[DRep];exact⟨ad,cap,q1,q3,q4,.inl hcs⟩
 by_cases hc0:cap=0
 ·refine⟨h,.refl _,k.forget hfg,?_⟩;have hcs:b.cs=[]:=Ux (by rw[<- q2,show l=0 by omega];simp);simp only[DRep];exact⟨_,cap,q1,q3,q4,.inl hcs⟩
 have hbk:aD (r m)=some i:=by rw[q1];simp only[aD];rw[G2 hc0]
 obtain⟨f1,f2⟩:=k.freeze hlow hbk p2;refine⟨_,f2,f1,?_⟩;simp only[DRep];exact⟨_,cap,q1,q3,q4,.inr ⟨i,0,cc,b.e,(0,0),rfl,by simp,by simpa using DReps.mono f2 _ _ p4⟩⟩
section
variable {P:Program}{dst:Option Nat}{d:Nat}{own:Own}
theorem Eff.frz{o:Oper}{ρ ρ':Operand->AV}{v:AV}{m n:Nat}{b:Blk}(hin:∀ own,Eff P o d ρ' own v [] none [])(hb:own m=some b)(hbv:b.vec=true)(hn:n*b.sz=b.cs.length)(hsz:0<b.sz)(hρ:∀ x,ρ' x=ρ x∨(ρ x=.vec m∧ρ' x=.p (.c (.sl n b.cs)))) :
  Eff P o d ρ own v [(m,none)] none [m]:=by
 intro C h r own' a w K Q hrep hrd hw _ hK;obtain⟨h2,g1,g2,g3⟩:=hw.frz ((hrd m (by simp)).trans hb) hbv hn hsz;refine hin (upd own' m none) C h2 r (upd own' m none) a w K Q (fun x hx=>?_) (fun _ q=>by cases q) g2 (fun q=>absurd rfl q) (fun x h' r' w' q1 q2 q3 q4=>?_)
 ·rcases hρ x with e|⟨e1,e2⟩
  ·rw[e];exact AVRep.mono g1 _ _ (hrep x hx)
  have:=hrep x hx;rw[e1]at this;rw[e2];have e3:a.eval x=r m:=this;show DRep _ _ _;rw[e3];exact g3
 exact hK x h' r' w' (g1.trans q1) (fun m _=>q2 m fun z=>absurd rfl z) q3 q4
theorem Eff.frzT{β:Type}{encD:β->List DV}{z:Nat}(hL:∀ b,(encD b).length=z)(hz:Nat.blt 0 z=true)(t m:Nat){l:List β}{e:TypeId}{o:Oper}{regs:eR}{v:AV}(ht:regs t=.vec m)(hb:own m=some (VB z e encD l))(hin:∀ own,Eff P o d (ev (upd regs t (.p (.c (SL encD l))))) own v [] none []) :
  Eff P o d (ev regs) own v [(m,none)] none [m]:=by
 refine Eff.frz hin (n:=l.length) hb rfl (a6 hL l).symm (show 0<z by simpa using hz) fun x=>?_
 cases x with
 |tmp k =>
  show upd regs t _ k=regs k∨(regs k=.vec m∧upd regs t _ k=_);by_cases e:k=t
  ·subst e;exact .inr ⟨ht,upd_same _ _ _⟩
  exact .inl (aj _ _ _ _ e)
 |_=>exact .inl rfl
end
section ops
variable {P:Program}{tt:TT}(hT:bM P tt)
variable {dst:Option Nat}{ty:TypeId}{pos:String}{af:Array Edge}{gd:Option (Nat×Bool)}{d:Nat}{ρ:Operand->AV}{own:Own}
variable {T:TypeId}{i:TyI}{x y:Operand}
include hT
theorem dY{m j p:Nat}{e:TypeId}{cs:List DV}(ht:tt T=some i)(hg:i.sh.agg=false)(hx:ρ x=.loc m p)(hb:own m=some ⟨false,j+2,e,cs⟩)(hp:jE cs=p)(hl:Nat.blt p cs.length=true) :
  Eff P ⟨dst,.load T x,ty,pos,af,gd⟩ d ρ own (.vec j) [] none [m] :=
 aP fun C h r own' a w hrep hrd hw=>by
  have hb':=(hrd m (by simp)).trans hb;have e1:=hrep x (by simp[Op.operands]);rw[hx]at e1;obtain⟨k,⟨g1,_⟩,g2⟩:=e1;obtain⟨q,t,h3,h4⟩:=hw.lk m _ j hb' (by show j∈[j];simp);have h3':=h3;rw[h3]at g1;simp only[aD,Option.some.injEq]at g1;subst g1;have hbr:=hw.ow m _ hb';rw[BlkRep.boxE rfl]at hbr;obtain⟨k0,c0,p1,p2,p3,_⟩:=hbr;rw[p1]at h3';have hkq:k0=q:=by simpa using h3'
  subst hkq;rw[p2]at h4;have hl':p<cs.length:=by simpa using hl
  have hc0:c0=lkC cs t (r j):=by simp only[Option.some.injEq,Obj.cells.injEq]at h4;exact h4.1
  have hcp:c0[p]?=some (r j):=by
   rw[hc0];exact pN hp hl' (by rw[<- hc0];exact p3)
  refine⟨r j,?_,rfl⟩;have hc:w.cell? ⟨k0,p,none⟩=some (r j):=by simp[World.cell?,p2,hcp]
  simp only[execOp,g2,Sem.run_bind,ez,loadVar,(hT T i ht).isAgg,hg,Result.andThen_ok,Bool.false_eq_true,if_false,run_load,hc,Sem.run_pure]
theorem jm{m j n z p:Nat}{e:TypeId}{cs cs':List DV}{b:Blk}(ht:tt T=some i)(hsz:i.size=1)(hx:ρ x=.loc m p)(hy:ρ y=.vec j)(hb:own m=some ⟨false,z,e,cs⟩)(hbj:own j=some b)(hbv:b.vec=true)(_hn:n*b.sz=b.cs.length)(hs0:0<b.sz)(hcs:cs.set p .any=cs')(hp:jE cs'=p)(hl:Nat.blt p cs.length=true) :
  Eff P ⟨none,.store T x y,ty,pos,af,gd⟩ d ρ own .junk [(m,some ⟨false,j+2,e,cs'⟩)] none [m,j]:=by
 intro C h r own' a w K Q hrep hrd hw _ hK;have hl':p<cs.length:=by simpa using hl
 have hlen:cs'.length=cs.length:=by rw[<- hcs,UL]
 have hb':=(hrd m (by simp)).trans hb;have hj':=(hrd j (by simp)).trans hbj;have e1:=hrep x (by simp[Op.operands]);have e2:=hrep y (by simp[Op.operands]);rw[hx]at e1;rw[hy]at e2;obtain⟨k,h0,h2,c,h3,h4,h5⟩:=lY hw hb' e1;have e2':a.eval y=r j:=e2;have hbr:=hw.ow j b hj';rw[BlkRep.slE hbv hs0]at hbr;obtain⟨ad,l,cap,q1,q2,q3,q4,q5⟩:=hbr;have hcells:(a.eval y).cells=#[r j]:=by rw[e2',q1];rfl
 have hone:(r j).oneCell'=true:=by rw[q1];rfl
 have hbx:=hw.ow m _ hb';rw[BlkRep.boxE rfl]at hbx;obtain⟨k0,c0,p1,p2,p3,p4⟩:=hbx;rw[p1]at h2;simp only[aD,Option.some.injEq]at h2;subst h2;have hsize:c0.size=cs.length:=p3;obtain⟨w',c',k1,k2,k3,k4,k5⟩:=bJ P k0 e [r j] p 0 w c0 p2 (by simp;omega) (by simpa using hone);have hc':c'=c0.setIfInBounds p (r j):=by
  apply Array.ext (by rw[k4,XJ]);intro q hq1 hq2;have h0:=k5 q;have e3:c'[q]?=some c'[q]:=UR hq1;have e4:(c0.setIfInBounds p (r j))[q]?=some (c0.setIfInBounds p (r j))[q]:=UR hq2;have:c'[q]?=(c0.setIfInBounds p (r j))[q]?:=by
   rw[h0,V3];by_cases hq:q=p
   ·subst hq;simp[hsize,hl']
   rw[G2 (by simp;omega),G2 (fun z=>hq z.symm)]
  rw[e3,e4]at this;exact Vl this
 have hrun:(execOp a.eval ⟨none,.store T x y,ty,pos,af,gd⟩).run P w=.ok .skip w':=by
  have hs:¬ ((a.eval y).cells.size≠i.size):=by rw[hcells,hsz];simp
  simp only[execOp,h0,Instr.storeAt,Instr.sureAddr,storeVar,Sem.run_bind,Sem.run_pure,(hT T i ht).size,Result.andThen_ok,hs,if_false];rw[hcells];simp only[Result.andThen_ok,k1]
 unfold Oper.wp;rw[hrun];refine hK undef h r w' (.refl _) (fun _ _=>rfl) trivial (hw.write (by rw[hb'];simp) (by rw[p1];rfl) k2 (b:=⟨false,j+2,e,cs'⟩) ?_ ?_)
 ·rw[BlkRep.boxE rfl];refine⟨k0,c',p1,k3,by rw[k4,p3];exact hlen.symm,?_⟩;rw[DReps.iff]at p4 ⊢;intro q dv hq;rw[hc',V3];rw[<- hcs,VH]at hq;by_cases e3:p=q
  ·subst e3;rw[H2 rfl]at hq ⊢;rw[H2 hl']at hq;cases hq;exact⟨r j,by rw[H2 (by rw[hsize];exact hl')],by simp only[DRep];exact hone⟩
  rw[G2 e3]at hq ⊢;exact p4 q dv hq
 intro j' hj;have:j'=j:=by simpa[lnk]using hj
 subst this;refine⟨k0,(e,c'),p1,?_⟩;rw[k3,qT hp (by rw[hlen];exact hl') (by rw[k4,p3,hlen]) (by rw[hc',V3,H2 rfl,H2 (by rw[hsize];exact hl')])]
end ops
theorem WOK.relinkF{C:Ctx}{h:Hp}{r:Nat->Value}{own:Own}{w:World}(k:WOK C h r own w){m z j:Nat}{e:TypeId}{cs cs':List DV}(hb:own m=some ⟨false,z,e,cs⟩)(hbr:BlkRep h w (r m) ⟨false,j+2,e,cs'⟩)(hc:∃ (q:Nat) (t:TypeId×Array Value),r m=.pointer (some ⟨q,0,none⟩)∧w.heap[q]?=some (.cells (lkC cs' t (r j)) t.1 (0,0))):WOK C h r (upd own m (some ⟨false,j+2,e,cs'⟩)) w:=by
 have live:∀ p,upd own m (some ⟨false,j+2,e,cs'⟩) p≠none->own p≠none:=fun p hp=>by
  by_cases h1:p=m
  ·subst h1;rw[hb];simp
  rwa [aj _ _ _ _ h1]at hp
 refine⟨fun p b hp=>?_,fun p q i hp hq=>k.inj p q i (live p hp) (live q hq),k.hi,fun p i hp=>k.ho p i (live p hp),k.os,k.tape,k.output,k.size,k.old,fun p i hp=>k.fo p i (live p hp),k.hg,k.hn,k.gl,k.kp,fun p b j' hp hj=>?_⟩
 ·by_cases h1:p=m
  ·subst h1;rw[upd_same]at hp;cases hp;exact hbr
  rw[aj _ _ _ _ h1]at hp;exact k.ow p b hp
 by_cases h1:p=m
 ·subst h1;rw[upd_same]at hp;cases hp;have:j'=j:=by simpa[lnk]using hj
  subst this;exact hc
 rw[aj _ _ _ _ h1]at hp;exact k.lk p b j' hp hj
theorem WOK.reboxF{C:Ctx}{h:Hp}{r:Nat->Value}{own:Own}{w:World}(k:WOK C h r own w){m:Nat}{b:Blk}{e:TypeId}{cs':List DV}(hb:own m=some b)(hbr:BlkRep h w (r m) ⟨false,1,e,cs'⟩):WOK C h r (upd own m (some ⟨false,1,e,cs'⟩)) w:=by
 have live:∀ p,upd own m (some ⟨false,1,e,cs'⟩) p≠none->own p≠none:=fun p hp=>by
  by_cases h1:p=m
  ·subst h1;rw[hb];simp
  rwa [aj _ _ _ _ h1]at hp
 refine⟨fun p b hp=>?_,fun p q i hp hq=>k.inj p q i (live p hp) (live q hq),k.hi,fun p i hp=>k.ho p i (live p hp),k.os,k.tape,k.output,k.size,k.old,fun p i hp=>k.fo p i (live p hp),k.hg,k.hn,k.gl,k.kp,fun p b j' hp hj=>?_⟩
 ·by_cases h1:p=m
  ·subst h1;rw[upd_same]at hp;cases hp;exact hbr
  rw[aj _ _ _ _ h1]at hp;exact k.ow p b hp
 by_cases h1:p=m
 ·subst h1;rw[upd_same]at hp;cases hp;exact absurd hj (by simp[lnk])
 rw[aj _ _ _ _ h1]at hp;exact k.lk p b j' hp hj
section ghost
variable {P:Program}{B:Bool}{N np:Nat}{Q:Exit->St->Prop}{s:St}{c:Code}
def OB(m j sz:Nat)(be e:TypeId)(cs':List DV)(s:St):St:=⟨(bt [j] s).regs,upd (upd (bt [j] s).own j (some ⟨true,sz,be,[]⟩)) m (some ⟨false,j+2,e,cs'⟩)⟩
theorem Mk(m j p sz:Nat)(be:TypeId){z:Nat}{e:TypeId}{cs cs':List DV}(hb:s.own m=some ⟨false,z,e,cs⟩)(hz:Nat.blt z 2=true)(hj:Nat.beq m j=false)(hnp:Nat.ble np j=true)(hnil:cs[p]?=some (.v (.slice none 0 0)))(hcs:cs.set p .any=cs')(hp:jE cs'=p)(h:AWp P B N np c Q (OB m j sz be e cs' s))(hs0:Nat.blt 0 sz=true:=by rfl):AWp P B N np c Q s:=by
 have hne:m≠j:=fun e=>by rw[e,WH]at hj;cases hj
 have hl':p<cs.length:=(Uu.1 hnil).1;have hlen:cs'.length=cs.length:=by rw[<- hcs,UL]
 intro ro hB C hh r a w hn hc;have hk:=e9 [j] hc;have hm:(bt [j] s).own m=some ⟨false,z,e,cs⟩:=by
  show(bif [j].contains m then none else iS [j] (s.own m))=_;have:[j].contains m=false:=by simp;exact hne
  rw[this,hb];have hl:lnk ⟨false,z,e,cs⟩=[]:=by
   match z,hz with
   |0,_=>rfl
   |1,_=>rfl
  show some (dp [j] _)=_;unfold dp;rw[hl];rfl
 have hw:=hk.wk.newNil (j:=j) (sz:=sz) (be:=be) (bL0 hs0) (fp [j] s j (by simp)) (by rw[hn.1];exact bL0 hnp) (fq [j] s j (by simp));have hold:=hk.wk.ow m _ hm;rw[BlkRep.boxE rfl]at hold;obtain⟨k0,c0,p1,p2,p3,p4⟩:=hold;have hc0p:c0[p]?=some (.slice none 0 0):=by
  obtain⟨y,g1,g2⟩:=p4.get p _ hnil;simp only[DRep]at g2;rw[<- g2.1];exact g1
 have hbr:BlkRep hh w (r m) ⟨false,j+2,e,cs'⟩:=by
  rw[BlkRep.boxE rfl];refine⟨k0,c0,p1,p2,p3.trans hlen.symm,?_⟩;rw[DReps.iff]at p4 ⊢;intro q dv hq;rw[<- hcs,VH]at hq;by_cases e3:p=q
  ·subst e3;rw[H2 rfl,H2 hl']at hq;cases hq;exact⟨_,hc0p,by simp only[DRep];rfl⟩
  rw[G2 e3]at hq;exact p4 q dv hq
 have hw2:=hw.relinkF (m:=m) (z:=z) (j:=j) (e:=e) (cs:=cs) (cs':=cs') (by rw[aj _ _ _ _ hne];exact hm) (by rw[aj _ _ _ _ hne];exact hbr) ⟨k0,(e,c0),by rw[aj _ _ _ _ hne];exact p1,by
  rw[upd_same,p2,qT hp (by rw[hlen];exact hl') (by rw[p3,hlen]) hc0p]⟩
 refine h ro hB C hh (upd r j (.slice none 0 0)) a w hn ⟨hk.sz,hk.df,fun t=>?_,hw2⟩;exact AVRep.rebind _ _ (fun n hn'=>aj _ _ _ _ (fun x=>fU [j] s j (by simp) t (x▸hn'))) (hk.rg t)
def SX(m j d:Nat)(e:TypeId)(cs:List DV)(b:Blk)(s:St):St:=⟨fun t=>mc (fun k=>bif Nat.beq k j then d else k) ((bt [d] s).regs t),upd (upd (upd (bt [d] s).own j none) d (some b)) m (some ⟨false,d+2,e,cs⟩)⟩
theorem Az(m j d:Nat){e:TypeId}{cs:List DV}{b:Blk}(hm:s.own m=some ⟨false,j+2,e,cs⟩)(hb:s.own j=some b)(hbv:b.vec=true)(hmj:Nat.beq m j=false)(hmd:Nat.beq m d=false)(hjd:Nat.beq j d=false)(hp:Nat.ble np d=true)(h:AWp P B N np c Q (SX m j d e cs b s)):AWp P B N np c Q s:=by
 have neq:∀ {x y:Nat},Nat.beq x y=false->x≠y:=fun h e=>by rw[e,WH]at h;cases h
 have h1:=neq hmj;have h2:=neq hmd;have h3:=neq hjd;intro ro hB C hh r a w hn' hc;have hk:=e9 [d] hc;have hmen:=fU [d] s d (by simp);have kown:∀ p,p≠d->(bt [d] s).own p=iS [d] (s.own p):=fun p hpd=>by
  show(bif [d].contains p then none else iS [d] (s.own p))=_;have:[d].contains p=false:=by simp;exact hpd
  rw[this];rfl
 have hm':(bt [d] s).own m=some ⟨false,j+2,e,cs⟩:=by
  rw[kown m h2,hm];show some (dp [d] _)=_;have hl:lnk ⟨false,j+2,e,cs⟩=[j]:=rfl;unfold dp;rw[hl];have:([j].any [d].contains)=false:=by simp;exact h3
  rw[this];rfl
 have hb':(bt [d] s).own j=some b:=by
  rw[kown j h3,hb];show some (dp [d] b)=_;unfold dp;rw[js hbv];rfl
 have hbr:=hk.wk.ow j b hb';have hbm:=hk.wk.ow m _ hm';have hw:=hk.wk.rename (m:=j) (d:=d) (v:=r j) (b:=b) (by rw[hb'];simp) (fp [d] s d (by simp)) (by rw[hn'.1];exact bL0 hp) (fun _ e=>e) hbr (fq [d] s d (by simp)) (js hbv);have hown:upd (upd (bt [d] s).own j none) d (some b) m=some ⟨false,j+2,e,cs⟩:=by rw[aj _ _ _ _ h2,aj _ _ _ _ h1];exact hm'
 obtain⟨q,t,g1,g2⟩:=hk.wk.lk m _ j hm' (by simp[lnk]);have hw2:=hw.relinkF (m:=m) (z:=j+2) (j:=d) (e:=e) (cs:=cs) (cs':=cs) hown (by rw[aj _ _ _ _ h2];exact hbm) ⟨q,t,by rw[aj _ _ _ _ h2];exact g1,by rw[upd_same];exact g2⟩;refine h ro hB C hh (upd r d (r j)) a w hn' ⟨hk.sz,hk.df,fun t=>?_,hw2⟩;have hr:=hk.rg t;have hmt:=hmen t;show AVRep hh (upd r d (r j)) (mc (fun k=>bif Nat.beq k j then d else k) ((bt [d] s).regs t)) _;generalize (bt [d] s).regs t=v at hr hmt;have key:∀ k,d≠k->upd r d (r j) (bif Nat.beq k j then d else k)=r k:=fun k hk=>by
  cases e:Nat.beq k j with
  |true=>rw[UT e];simp
  |false=>simp only[cond_false];rw[aj _ _ _ _ (fun x=>hk x.symm)]
 cases v with
 |loc k o =>
  obtain⟨q,h1,h2⟩:=hr;exact⟨q,by rw[key k (by simpa[men]using hmt)];exact h1,h2⟩
 |vec k =>
  show _=upd r d (r j) _;rw[key k (by simpa[men]using hmt)];exact hr
 |p v=>exact hr
 |t vs=>exact hr
 |ip xs=>exact hr
 |fn f caps=>exact hr
 |fnl f k =>
  obtain⟨q,h1,h2⟩:=hr;exact⟨q,by rw[key k (by simpa[men]using hmt)];exact h1,h2⟩
 |it k =>
  obtain⟨q,h1,h2⟩:=hr;exact⟨q,by rw[key k (by simpa[men]using hmt)];exact h1,h2⟩
 |axm R k =>
  intro h' hq;show R h' (upd r d (r j) _) _;rw[key k (by simpa[men]using hmt)];exact hr h' hq
 |axl R ks =>
  intro h' hq;show R h' ((ks.map _).map (upd r d (r j))) _;rw[VS];have:ks.map (upd r d (r j) ∘ fun k=>bif Nat.beq k j then d else k)=ks.map r:=Vy fun k hk=>key k (fun x=>hmt (x▸hk))
  rw[this];exact hr h' hq
 |ax R=>exact hr
 |junk=>exact hr
theorem Ax(m j p:Nat){β:Type}{encD:β->List DV}{z:Nat}(hL:∀ b,(encD b).length=z)(hz:Nat.blt 0 z=true){l:List β}{e be:TypeId}{cs cs':List DV}(hm:s.own m=some ⟨false,j+2,e,cs⟩)(hb:s.own j=some (VB z be encD l))(hmj:Nat.beq m j=false)(hcs:cs.set p (SL encD l)=cs')(hp:jE cs=p)(hl:Nat.blt p cs.length=true)(h:AWp P B N np c Q ⟨s.regs,upd (upd s.own j none) m (some ⟨false,1,e,cs'⟩)⟩):AWp P B N np c Q s:=by
 have hl':p<cs.length:=by simpa using hl
 have hlen:cs'.length=cs.length:=by rw[<- hcs,UL]
 have hne:m≠j:=fun e=>by rw[e,WH]at hmj;cases hmj
 intro ro hB C hh r a w hn hc;obtain⟨h2,g1,g2,g3⟩:=hc.wk.frz hb rfl (n:=l.length) (a6 hL l).symm (show 0<z by simpa using hz);have hm2:upd s.own j none m=some ⟨false,j+2,e,cs⟩:=by rw[aj _ _ _ _ hne];exact hm
 obtain⟨q,t,q1,q2⟩:=hc.wk.lk m _ j hm (by simp[lnk]);have hbr:=g2.ow m _ hm2;rw[BlkRep.boxE rfl]at hbr;obtain⟨k0,c0,p1,p2,p3,p4⟩:=hbr;have hkq:k0=q:=by rw[p1]at q1;simpa using q1
 subst hkq;rw[p2]at q2;have hc0:c0=lkC cs t (r j):=by simp only[Option.some.injEq,Obj.cells.injEq]at q2;exact q2.1
 have hcp:c0[p]?=some (r j):=by rw[hc0];exact pN hp hl' (by rw[<- hc0];exact p3)
 have hw2:=g2.reboxF (m:=m) (e:=e) (cs':=cs') hm2 (by
  rw[BlkRep.boxE rfl];refine⟨k0,c0,p1,p2,p3.trans hlen.symm,?_⟩;rw[DReps.iff]at p4 ⊢;intro q dv hq;rw[<- hcs,VH]at hq;by_cases e3:p=q
  ·subst e3;rw[H2 rfl,H2 hl']at hq;cases hq;exact⟨_,hcp,g3⟩
  rw[G2 e3]at hq;exact p4 q dv hq)
 exact h ro hB C h2 r a w hn ⟨hc.sz,hc.df.mono g1,fun t=>AVRep.mono g1 _ _ (hc.rg t),hw2⟩
end ghost
def LendR(own:Own)(v v':AV)(rd:List Nat):Prop:=∀ {C:Ctx} {h:Hp} {r:Nat->Value} {own':Own} {w:World} {x:Value},WOK C h r own' w->(∀ m∈rd,own' m=own m)->AVRep h r v x ->
  ∃ h',Hle h h'∧(∀ i o,h' i=some o->w.heap[i]?=some o)∧AVRep h' r v' x
def Iw(res:AV):Prop:=∀ h h' r x,AVRep h' r res x->AVRep h r res x
theorem w8{a b:Value}:Iw (.t [.c (.v a),.c (.v b)]):=fun h h' r x ⟨xs,e,k⟩=>⟨xs,e,by
 match xs,k with
 | [y,z],⟨h1,h2,_⟩ =>
  refine⟨?_,?_,trivial⟩
  ·simp only[PRep,DRep]at h1 ⊢;exact h1
  simp only[PRep,DRep]at h2 ⊢;exact h2⟩
theorem Bi{h:Hp}{w:World}(hi:∀ i o,h i=some o->w.heap[i]?=some o){k:Nat}{o:Obj}(hk:w.heap[k]?=some o):∃ h',Hle h h'∧(∀ i o,h' i=some o->w.heap[i]?=some o)∧h' k=some o:=by
 refine⟨fun i=>if i=k then some o else h i,fun i o' e=>?_,fun i o' e=>?_,H2 rfl⟩
 ·show(if i=k then _ else h i)=_;by_cases hik:i=k
  ·subst hik;have:=hi i o' e;rw[hk]at this;rw[H2 rfl];exact this
  rw[G2 hik];exact e
 have e':(if i=k then some o else h i)=some o':=e;by_cases hik:i=k
 ·subst hik;rw[H2 rfl]at e';cases e';exact hk
 rw[G2 hik]at e';exact hi i o' e'
theorem LendR.box{own:Own}{m z:Nat}{e:TypeId}{cs:List DV}(hb:own m=some ⟨false,z,e,cs⟩):LendR own (.loc m 0) (.ip cs) [m]:=fun{C h r own' w x} hw hm hx=>by
 have hbr:=hw.ow m _ ((hm m (by simp)).trans hb);rw[BlkRep.boxE rfl]at hbr;obtain⟨k,c,p1,p2,p3,p4⟩:=hbr;obtain⟨k',⟨g1,_⟩,g2⟩:=hx;rw[p1]at g1;simp only[aD,Option.some.injEq]at g1;subst g1;obtain⟨h',f1,f2,f3⟩:=Bi hw.hi p2;exact⟨h',f1,f2,k,0,c,e,(0,0),g2,f3,(DReps.mono f1 _ _ p4).congr fun q _=>by rw[XH]⟩
theorem Eff.lend{P:Program}{dst:Option Nat}{f:FuncId}{args:Array Operand}{tys:Array TypeId}{ty:TypeId}{pos:String}{af:Array Edge}{gd:Option (Nat×Bool)}{d:Nat}{ρ:Operand->AV}{own:Own}{v v':AV}{l:List AV}{res:AV}{rd:List Nat}(h0:args.toList.map ρ=v::l)(hl:LendR own v v' rd)(hf:Iw res)(hc:ak P f (v'::l) res):Eff P ⟨dst,.call ⟨.value (.func f),args,tys⟩,ty,pos,af,gd⟩ d ρ own res [] none rd:=by
 intro C h r own' a w K Q hrep hrd hw _ hK;unfold Oper.wp;have hrun:(execOp a.eval ⟨dst,.call ⟨.value (.func f),args,tys⟩,ty,pos,af,gd⟩).run P w=.ok (.enter f (args.map a.eval)) w:=by
  simp only[execOp,resolve,Sem.run_bind,Act.eval,Deferred.ofValue,Sem.run_pure,Result.andThen_ok,invoke,Array.empty_append,Array.append_empty];exact bU hc.fn _ w
 rw[hrun];have hra:RepArgs h r (args.toList.map ρ) (args.map a.eval).toList:=by
  rw[VU];exact cX _ fun x hx=>hrep x (by simp only[Op.operands,Call.operands];exact Wa.2 (.inr (VN.1 hx)))
 rw[h0]at hra;have hra2:∃ h2,Hle h h2∧(∀ i o,h2 i=some o->w.heap[i]?=some o)∧RepArgs h2 r (v'::l) (args.map a.eval).toList:=by
  generalize (args.map a.eval).toList=xs at hra ⊢;cases xs with
  |nil=>exact hra.elim
  |cons x xs =>
   obtain⟨h2,f1,f2,f3⟩:=hl hw hrd hra.1;refine⟨h2,f1,f2,f3,?_⟩;have:∀ (as0:List AV) (ys:List Value),RepArgs h r as0 ys->RepArgs h2 r as0 ys:=by
    intro as0;induction as0 with
    |nil=>intro ys k;cases ys <;> exact k
    |cons p ps ih=>intro ys k;cases ys with
     |nil=>exact k.elim
     |cons y ys=>exact⟨AVRep.mono f1 _ _ k.1,ih ys k.2⟩
   exact this _ _ hra.2
 obtain⟨h2,g1,g2,g3⟩:=hra2;refine Calls.mono (hc.go h2 r w (args.map a.eval) g3 ⟨fun m b e=>(by cases e),fun m n k e=>absurd rfl e,g2,fun m k e=>absurd rfl e,hw.gl.mono g1⟩) ?_;rintro e w' ⟨x,h',rfl,hv,hq⟩;exact hK x h r w' (.refl _) (fun _ _=>rfl) (hf _ _ _ _ hv) (hw.beside hq.os hq.tape hq.output hq.size fun i hi=>hq.old i hi (fun⟨m,hm,_⟩=>hm rfl))
abbrev Nm(g:Value)(m:Nat):AV:=.axm (fun _ v _=>v=g) m
section ghost
variable {P:Program}{B:Bool}{N np:Nat}{Q:Exit->St->Prop}{s:St}{c:Code}
theorem l9(m j p t:Nat){e:TypeId}{cs:List DV}{b:Blk}(hm:s.own m=some ⟨false,j+2,e,cs⟩)(hb:s.own j=some b)(hbv:b.vec=true)(hs0:Nat.blt 0 b.sz=true)(hp:jE cs=p)(hl:Nat.blt p cs.length=true)(h:∀ g,AWp P B N np c Q ⟨upd s.regs t (Nm g j),upd s.own m (some ⟨false,1,e,cs.set p (.v g)⟩)⟩)(ht:Nat.ble N t=true:=by rfl):AWp P B N np c Q s:=by
 intro ro hB C hh r a w hn hc;have hl':p<cs.length:=by simpa using hl
 have hs0':0<b.sz:=by simpa using hs0
 have hone:(r j).oneCell'=true:=by
  have hbr:=hc.wk.ow j b hb;rw[BlkRep.slE hbv hs0']at hbr;obtain⟨ad,l,cap,q1,_⟩:=hbr;rw[q1];rfl
 obtain⟨k,tt,q1,q2⟩:=hc.wk.lk m _ j hm (by simp[lnk]);have hbm:=hc.wk.ow m _ hm;rw[BlkRep.boxE rfl]at hbm;obtain⟨k0,c0,p1,p2,p3,p4⟩:=hbm;rw[p1]at q1;simp only[Value.pointer.injEq,Option.some.injEq,Addr.mk.injEq]at q1;obtain⟨rfl,_,_⟩:=q1;rw[p2]at q2;have hc0:c0=lkC cs tt (r j):=by simp only[Option.some.injEq,Obj.cells.injEq]at q2;exact q2.1
 have hcp:c0[p]?=some (r j):=by rw[hc0];exact pN hp hl' (by rw[<- hc0];exact p3)
 refine h (r j) ro hB C hh r a w hn ⟨hc.sz,hc.df,fun t'=>?_,hc.wk.reboxF (m:=m) hm ?_⟩
 ·show AVRep _ _ (upd s.regs t _ t') _;by_cases e':t'=t
  ·subst e';rw[upd_same];exact fun _ _=>rfl
  rw[aj _ _ _ _ e'];exact hc.rg t'
 rw[BlkRep.boxE rfl];refine⟨k0,c0,p1,p2,by rw[UL];exact p3,?_⟩;rw[DReps.iff]at p4 ⊢;intro q dv hq;rw[VH]at hq;by_cases e3:p=q
 ·subst e3;rw[H2 rfl,H2 hl']at hq;cases hq;exact⟨_,hcp,by simp only[DRep];exact⟨trivial,hone⟩⟩
 rw[G2 e3]at hq;exact p4 q dv hq
theorem ma(m j p t:Nat){z:Nat}{e:TypeId}{cs cs':List DV}{g:Value}(hm:s.own m=some ⟨false,z,e,cs⟩)(ht:s.regs t=Nm g j)(hg:cs[p]?=some (.v g))(hcs:cs.set p .any=cs')(hp:jE cs'=p)(h:AWp P B N np c Q ⟨s.regs,upd s.own m (some ⟨false,j+2,e,cs'⟩)⟩):AWp P B N np c Q s:=by
 intro ro hB C hh r a w hn hc;have hl':p<cs.length:=(Uu.1 hg).1;have hlen:cs'.length=cs.length:=by rw[<- hcs,UL]
 have hrj:r j=g:=by
  have:=hc.rg t;rw[ht]at this;exact this hh (fun _ _ _ e=>e)
 have hold:=hc.wk.ow m _ hm;rw[BlkRep.boxE rfl]at hold;obtain⟨k0,c0,p1,p2,p3,p4⟩:=hold;obtain⟨y,g1,g2⟩:=p4.get p _ hg;have hone:g.oneCell'=true:=by simp only[DRep]at g2;exact g2.2
 have hc0p:c0[p]?=some (r j):=by
  simp only[DRep]at g2;rw[hrj,<- g2.1];exact g1
 refine h ro hB C hh r a w hn ⟨hc.sz,hc.df,hc.rg,hc.wk.relinkF hm ?_ ⟨k0,(e,c0),p1,?_⟩⟩
 ·rw[BlkRep.boxE rfl];refine⟨k0,c0,p1,p2,p3.trans hlen.symm,?_⟩;rw[DReps.iff]at p4 ⊢;intro q dv hq;rw[<- hcs,VH]at hq;by_cases e3:p=q
  ·subst e3;rw[H2 rfl,H2 hl']at hq;cases hq;exact⟨_,hc0p,by simp only[DRep];rw[hrj];exact hone⟩
  rw[G2 e3]at hq;exact p4 q dv hq
 rw[p2,qT hp (by rw[hlen];exact hl') (by rw[p3,hlen]) hc0p]
end ghost
def T7(n:Nat):Hp->Value->Value->Prop:=fun _ v x=>∃ k,v=.pointer (some ⟨k,0,none⟩)∧x=.slice (some ⟨k,0,none⟩) n n
abbrev SB(n m:Nat):AV:=.axm (T7 n) m
def Ub(c:Nat):Hp->Value->Value->Prop:=fun _ v x=>x=v∧∃ a n,v=.slice a n c
abbrev CV(c m:Nat):AV:=.axm (Ub c) m
theorem sa(h:Hp):Hlf h h:=fun _ _ _ e=>e
section ops
variable {P:Program}{tt:TT}(hT:bM P tt)
variable {dst:Option Nat}{ty:TypeId}{pos:String}{af:Array Edge}{gd:Option (Nat×Bool)}{d:Nat}{ρ:Operand->AV}{own:Own}
variable {T:TypeId}{i:TyI}{x y:Operand}
include hT
theorem wm{e:Nat}{j:TyI}{k k':IntKind}{l:Int}{z:List DV}(ht:tt T=some i)(hs:i.sh=.sl e)(he:tt e=some j)(hz:j.zero=z)(hx:ρ x=.p (.c (.v (.int k l))))(hy:ρ y=.p (.c (.v (.int k' l))))(h0:0<=l)(hb:l<=140737488355328)(hbytes:(j.bytes:Int)*l<=281474976710656)(_hj:j.size=1:=by rfl) :
  Eff P ⟨dst,.makeSlice T x y,ty,pos,af,gd⟩ d ρ own (SB l.toNat d) [] (some ⟨false,1,e,reps l.toNat z⟩) []:=by
 subst hz;intro C h r own' a w K Q hrep hrd hw hal hK;have e1:=hrep x (by simp[Op.operands]);have e2:=hrep y (by simp[Op.operands]);rw[hx]at e1;rw[hy]at e2;obtain⟨ti,g1,g2,g3,z,g4,g5,g6,g7⟩:=(hT e j he).info;have hr:=run_make (P:=P) w T e ti z ((hT T i ht).slice hs) g1 g4 k k' l l h0 (XZ _) (by rw[g3];exact hbytes) (by omega);obtain⟨hd,hp,hnl⟩:=hal (by simp);unfold Oper.wp;have hrun:(execOp a.eval ⟨dst,.makeSlice T x y,ty,pos,af,gd⟩).run P w=.ok (.value (.slice (some ⟨w.heap.size,0,none⟩) l.toNat l.toNat)) (w.alloc (.cells (madeCells z.cells (l.toNat*ti.size)) e)):=by
  simp only[execOp,bh e1,bh e2,Sem.run_bind,hr,Result.andThen_ok,Sem.run_pure]
 rw[hrun];refine hK _ h (upd r d (.pointer (some ⟨w.heap.size,0,none⟩))) _ (.refl _) (fun m hm=>aj _ _ _ _ (hm (by simp))) (fun h' _=>⟨w.heap.size,upd_same _ _ _,rfl⟩) (hw.alloc hd hp (b:=⟨false,1,e,reps l.toNat j.zero⟩) (fun k hk=>by simpa[aD]using hk.symm) ?_ hnl rfl);rw[BlkRep.boxE rfl];refine⟨w.heap.size,_,rfl,by rw[heap_alloc,H2 rfl],by rw[size_madeCells,g2,fi,g6],?_⟩;rw[g2,<- g5];exact nr _ (by rw[g5,g6]) (g7 h)
theorem kQ{e m N:Nat}{j:TyI}{k:IntKind}{n:Int}{b:Blk}(ht:tt T=some i)(hs:i.sh=.sl e)(he:tt e=some j)(hj:j.size=1)(hx:ρ x=SB N m)(_hb:own m=some b)(_hbv:b.vec=false)(hy:ρ y=.p (.c (.v (.int k n))))(hn:0<=n∧n<N) :
  Eff P ⟨dst,.indexAddr T x y,ty,pos,af,gd⟩ d ρ own (.loc m n.toNat) [] none [m] :=
 aP fun C h r own' a w hrep hrd hw=>by
  have e1:=hrep x (by simp[Op.operands]);have e2:=hrep y (by simp[Op.operands]);rw[hx]at e1;rw[hy]at e2;obtain⟨k',q1,q2⟩:=e1 h (sa h);have hu:=(hT T i ht).slice hs;refine⟨.pointer (some ⟨k',n.toNat,none⟩),?_,k',?_,rfl⟩
  ·simp only[execOp,q2,bh e2,Instr.indexAt,asIntOf,Sem.run_bind,Sem.run_pure,Result.andThen_ok,run_underlying hu,hn.1,hn.2,and_self,if_true,(hT e j he).size,Addr.add_lit,Nat.zero_add,hj,Nat.mul_one]
  rw[q1];exact⟨rfl,rfl⟩
theorem Fz{N m:Nat}{e:TypeId}(ht:tt T=some i)(hs:i.sh=.sl e)(hx:ρ x=SB N m):Eff P ⟨dst,.call ⟨.builtin .len,#[x],#[T]⟩,ty,pos,af,gd⟩ d ρ own (.p (.c (.v (.int .i64 N)))) [] none [] :=
 gv (fun C h r own' a w hrep _=>by
  have e1:=hrep x (by simp);rw[hx]at e1;obtain⟨k',q1,e2⟩:=e1 h (sa h);simp[builtin,e2,Builtin.len_,run_underlying ((hT T i ht).slice hs),goInt]) rfl
theorem Fx{e:Nat}{j:TyI}{k k':IntKind}{c:Int}(ht:tt T=some i)(hs:i.sh=.sl e)(he:tt e=some j)(hx:ρ x=.p (.c (.v (.int k 0))))(hy:ρ y=.p (.c (.v (.int k' c))))(h0:0<=c)(hb:c<=140737488355328)(hbytes:(j.bytes:Int)*c<=281474976710656)(hj:Nat.blt 0 j.size=true:=by rfl) :
  Eff P ⟨dst,.makeSlice T x y,ty,pos,af,gd⟩ d ρ own (CV c.toNat d) [] (some ⟨true,j.size,e,[]⟩) []:=by
 intro C h r own' a w K Q hrep hrd hw hal hK;have e1:=hrep x (by simp[Op.operands]);have e2:=hrep y (by simp[Op.operands]);rw[hx]at e1;rw[hy]at e2;obtain⟨ti,g1,g2,g3,z,g4,g5,g6,g7⟩:=(hT e j he).info;have hr:=run_make (P:=P) w T e ti z ((hT T i ht).slice hs) g1 g4 k k' 0 c (XZ _) h0 (by rw[g3];exact hbytes) (by omega);obtain⟨hd,hp,hnl⟩:=hal (by simp);unfold Oper.wp;have hrun:(execOp a.eval ⟨dst,.makeSlice T x y,ty,pos,af,gd⟩).run P w=.ok (.value (.slice (some ⟨w.heap.size,0,none⟩) (0:Int).toNat c.toNat)) (w.alloc (.cells (madeCells z.cells (c.toNat*ti.size)) e)):=by
  simp only[execOp,bh e1,bh e2,Sem.run_bind,hr,Result.andThen_ok,Sem.run_pure]
 rw[hrun];refine hK _ h (upd r d (.slice (some ⟨w.heap.size,0,none⟩) 0 c.toNat)) _ (.refl _) (fun m hm=>aj _ _ _ _ (hm (by simp))) (fun h' _=>⟨(upd_same _ _ _).symm,_,0,upd_same _ _ _⟩) (hw.alloc hd hp (b:=⟨true,j.size,e,[]⟩) (fun k hk=>by
  simp only[aD]at hk;split at hk
  ·cases hk
  simpa using hk.symm) ?_ hnl rfl)
 rw[BlkRep.slE (b:=⟨true,j.size,e,[]⟩) rfl (bL0 hj)];exact⟨_,0,c.toNat,rfl,by simp,Uv _,by omega,.inr ⟨w.heap.size,_,rfl,by rw[heap_alloc,if_pos rfl],by rw[size_madeCells,g2],by simp only[DReps]⟩⟩
theorem zt{e m c l:Nat}{j:TyI}{b:Blk}{xs:List DV}(ht:tt T=some i)(hs:i.sh=.sl e)(he:tt e=some j)(hx:ρ x=CV c m)(hb:own m=some b)(hbv:b.vec=true)(hbs:b.sz=j.size)(hbe:b.e=e)(hl:b.cs.length=l*j.size)(hroom0:l<c)(hy:ρ y=.p (.c (.sl 1 xs)))(hlen:xs.length=j.size)(hfit:l<=10000000)(hj:Nat.blt 0 j.size=true:=by rfl) :
  Eff P ⟨dst,.call ⟨.builtin .append,#[x,y],#[T,T]⟩,ty,pos,af,gd⟩ d ρ own (CV c d) [(m,none)] (some ⟨true,j.size,e,b.cs++xs⟩) [m]:=by
 intro C h r own' a w K Q hrep hrd hw hal hK;have hb':=(hrd m (by simp)).trans hb;have e1:=hrep x (by simp[Op.operands,Call.operands]);have e2:=hrep y (by simp[Op.operands,Call.operands]);rw[hx]at e1;rw[hy]at e2;obtain⟨e1',ca,cn,hcap⟩:=e1 h (sa h);obtain⟨ad,cap,h1,h2,h3⟩:=fZ (n:=1) (xs:=xs) hw (by simp only[AVRep,PRep]at e2;exact e2);have hj':0<j.size:=bL0 hj;obtain⟨ti,g1,g2,g3,z,g4,g5,g6,g7⟩:=(hT e j he).info;have hu:=(hT T i ht).slice hs;have hold:=hw.ow m b hb';rw[BlkRep.slE hbv (by omega)]at hold;obtain⟨ba,l',bcap,q1,q2,q3,q4,q5⟩:=hold;rw[hbs]at q2;have hl':l'=l:=U4 hj' (q2.trans hl);subst hl';have hbc:bcap=c:=by rw[q1]at hcap;simp only[Value.slice.injEq]at hcap;exact hcap.2.2
 subst hbc;have hal':=hal (by simp);have hlow:own' m≠none:=by rw[hb'];simp
 have hroom:l'+1<=bcap:=hroom0;obtain⟨vs,v1,v2,v3,v4⟩:∃ vs:List Value,vs.length=j.size∧(Builtin.firstCells j.size 1 (.slice ad 1 cap)).run P w=.ok vs.toArray w∧(∀ v∈vs,v.oneCell'=true)∧DReps h xs fun p=>vs[p]?:=by
  rcases h3 with h3|⟨A,rfl,h3⟩
  ·subst h3;simp at hlen;omega
  obtain⟨vs,k1,k2,k3,k4⟩:=h3.values;exact⟨vs,by rw[k1,hlen],run_firstCells_some w j.size 1 A 1 cap vs (by rw[k1,hlen,Xm]) (fun p v hp=>k2 p v hp),k3,k4⟩
 unfold Oper.wp;rcases q5 with q5|⟨k,c0,rfl,p2,p3,p4⟩
 ·omega
 have hc0:¬ bcap=0:=by omega
 have hbk:aD (r m)=some k:=by rw[q1];simp only[aD];rw[G2 hc0]
 rw[hbs]at p3;have hfitc:l'*j.size+vs.length<=c0.size:=by
  rw[v1,p3];calc l'*j.size+j.size=(l'+1)*j.size:=by rw[Vt,Xm]
   _<=bcap*j.size:=Uy _ hroom
 obtain⟨w',c',k1,k2,k3,k4,k5⟩:=bJ P k b.e vs (l'*j.size) 0 w c0 p2 (by simpa using hfitc) v3;have hrun:(Builtin.append_ #[T,T] ty #[.slice (some ⟨k,0,none⟩) l' bcap,.slice ad 1 cap]).run P w=.ok (.slice (some ⟨k,0,none⟩) (l'+1) bcap) w':=by
  simp[Builtin.append_,run_underlying hu,sizeOf,typeInfo,g1,g2,Builtin.lenOf,hroom,v2,Addr.add_lit,k1]
 have ap:(execOp a.eval ⟨dst,.call ⟨.builtin .append,#[x,y],#[T,T]⟩,ty,pos,af,gd⟩).run P w=.ok (.value (.slice (some ⟨k,0,none⟩) (l'+1) bcap)) w':=by
  apply eC;simp only[List.map_toArray,List.map_cons,List.map_nil,e1',q1,h1,builtin,Sem.run_bind,hrun,Result.andThen_ok,Sem.run_pure]
 rw[ap];have hcsr:DReps h b.cs fun p=>c'[p]?:=p4.congr fun p hp=>by
  have:=k5 p;simp only[Nat.add_zero]at this;rw[this,G2 (by rw[q2];omega)]
 have hw':=hw.write hlow hbk k2 (b:=b) (by
  rw[BlkRep.slE hbv (by omega)];exact⟨_,l',bcap,q1,by rw[hbs];exact q2,q3,q4,.inr ⟨k,c',rfl,k3,by rw[k4,p3,hbs],hcsr⟩⟩) (by rw[js hbv];intro j hj;cases hj)
 have e0:upd own' m (some b)=own':=by
  funext p
  by_cases hp:p=m
  ·subst hp;rw[upd_same,hb']
  rw[aj _ _ _ _ hp]
 rw[e0]at hw';refine hK _ h (upd r d (.slice (some ⟨k,0,none⟩) (l'+1) bcap)) w' (.refl _) (fun p hp=>aj _ _ _ _ (hp (by simp))) (fun h' _=>⟨(upd_same _ _ _).symm,_,_,upd_same _ _ _⟩) ?_;refine hw'.rename hlow hal'.1 hal'.2.1 (fun p hp=>by
  rw[q1];simp only[aD]at hp ⊢;exact hp) ?_ hal'.2.2 rfl
 rw[BlkRep.slE (b:=⟨true,j.size,e,b.cs++xs⟩) rfl hj'];refine⟨_,l'+1,bcap,rfl,by rw[UB,<- q2,hlen,Vt,Xm],hroom,by omega,.inr ⟨k,c',rfl,by rw[k3,hbe],by rw[k4,p3],?_⟩⟩;rw[DReps.iff];intro p dv' hp;by_cases hlt:p<b.cs.length
 ·rw[UQ hlt]at hp;exact hcsr.get p dv' hp
 rw[US (by omega)]at hp;have hpl:=(Uu.1 hp).1;obtain⟨u,u1,u2⟩:=v4.get _ _ hp;refine⟨u,?_,u2⟩;have:=k5 p;simp only[Nat.add_zero]at this;rw[this,H2 (by rw[q2,v1,<- hlen];omega),q2];exact u1
theorem ud{n c:Nat}{e:TypeId}{xs:List DV}(ht:tt T=some i)(hs:i.sh=.sl e)(hx:ρ x=.p (.c (.sx n c xs))):Eff P ⟨dst,.call ⟨.builtin .len,#[x],#[T]⟩,ty,pos,af,gd⟩ d ρ own (.p (.c (.v (.int .i64 n)))) [] none [] :=
 gv (fun C h r own' a w hrep _=>by
  have e1:=hrep x (by simp);rw[hx]at e1;simp only[AVRep,PRep,DRep]at e1;obtain⟨ad,e2,_⟩:=e1;simp[builtin,e2,Builtin.len_,run_underlying ((hT T i ht).slice hs),goInt]) rfl
end ops
theorem WOK.frzC{C:Ctx}{h:Hp}{r:Nat->Value}{own:Own}{w:World}(k:WOK C h r own w){m n c:Nat}{b:Blk}(hb:own m=some b)(hbv:b.vec=true)(hn:n*b.sz=b.cs.length)(hsz:0<b.sz)(hc:∃ a l,r m=.slice a l c) :
  ∃ h',Hle h h'∧WOK C h' r (upd own m none) w∧DRep h' (.sx n c b.cs) (r m):=by
 obtain⟨h',g1,g2,g3⟩:=k.frz hb hbv hn hsz;refine⟨h',g1,g2,?_⟩;obtain⟨a0,l0,hc⟩:=hc;simp only[DRep]at g3 ⊢;obtain⟨a,cap,q1,q2,q3,q4⟩:=g3;rw[hc]at q1;simp only[Value.slice.injEq]at q1;obtain⟨rfl,rfl,rfl⟩:=q1;exact⟨a0,hc,q2,q3,q4⟩
section
variable {P:Program}{dst:Option Nat}{d:Nat}{own:Own}
theorem Eff.frzC{o:Oper}{regs:eR}{v:AV}{m n c t:Nat}{b:Blk}(ht:regs t=CV c m)(hb:own m=some b)(hbv:b.vec=true)(hn:n*b.sz=b.cs.length)(hsz:Nat.blt 0 b.sz=true)(hin:∀ own,Eff P o d (ev (upd regs t (.p (.c (.sx n c b.cs))))) own v [] none []) :
  Eff P o d (ev regs) own v [(m,none)] none [m]:=by
 intro C h r own' a w K Q hrep hrd hw _ hK;by_cases hmem:Operand.tmp t∈o.op.operands
 ·have e1:=hrep _ hmem;have e1':AVRep h r (CV c m) (a.eval (.tmp t)):=by
   have:ev regs (.tmp t)=CV c m:=ht;rw[this]at e1;exact e1
  obtain⟨q1,q2⟩:=e1' h (sa h);obtain⟨h2,g1,g2,g3⟩:=hw.frzC ((hrd m (by simp)).trans hb) hbv hn (by simpa using hsz) q2;refine hin (upd own' m none) C h2 r (upd own' m none) a w K Q (fun x hx=>?_) (fun _ q=>by cases q) g2 (fun q=>absurd rfl q) (fun x h' r' w' q1 q2 q3 q4=>?_)
  ·have hx':=hrep x hx;cases x with
   |tmp k =>
    by_cases e:k=t
    ·subst e;show AVRep h2 r (upd regs k _ k) _;rw[upd_same,q1];exact g3
    show AVRep h2 r (upd regs t _ k) _;rw[aj _ _ _ _ e];exact AVRep.mono g1 _ _ hx'
   |_=>exact AVRep.mono g1 _ _ hx'
  exact hK x h' r' w' (g1.trans q1) (fun m _=>q2 m fun z=>absurd rfl z) q3 q4
 refine hin (upd own' m none) C h r (upd own' m none) a w K Q (fun x hx=>?_) (fun _ q=>by cases q) (hw.forget fun p=>?_) (fun q=>absurd rfl q) (fun x h' r' w' q1 q2 q3 q4=>?_)
 ·have hx':=hrep x hx;cases x with
  |tmp k =>
   have e:k≠t:=fun e=>hmem (e▸hx)
   show AVRep h r (upd regs t _ k) _;rw[aj _ _ _ _ e];exact hx'
  |_=>exact hx'
 ·by_cases e:p=m
  ·subst e;exact .inr (by simp)
  exact .inl (by rw[aj _ _ _ _ e])
 exact hK x h' r' w' q1 (fun m _=>q2 m fun z=>absurd rfl z) q3 q4
theorem Eff.frzM{o:Oper}{regs:eR}{v:AV}{m t:Nat}{a:Option Nat}{E:List En}(ht:regs t=.vec m)(hb:own m=some (MB a E))(hw0:EW a E)(hin:∀ own,Eff P o d (ev (upd regs t (.p (.c (MP a E))))) own v [] none []) :
  Eff P o d (ev regs) own v [(m,none)] none [m]:=by
 intro C h r own' ac w K Q hrep hrd hw _ hK;have hb':=(hrd m (by simp)).trans hb;have hbr:=hw.ow m _ hb';obtain⟨k,es,clk,h1,h2,h3,h4⟩:=(oC hw0).1 hbr;obtain⟨g2,g1⟩:=hw.freeze (m:=m) (i:=k) (o:=.map es clk) (by rw[hb'];simp) (by rw[h1];rfl) h2;have g3:DRep _ (MP a E) (r m):=(wB (h:=fun j=>if j=k then some (.map es clk)else h j) hw0).2 ⟨k,es,clk,h1,H2 rfl,h3,h4.mono g1⟩;refine hin (upd own' m none) C _ r (upd own' m none) ac w K Q (fun x hx=>?_) (fun _ q=>by cases q) g2 (fun q=>absurd rfl q) (fun x h' r' w' q1 q2 q3 q4=>?_)
 ·have hx':=hrep x hx;cases x with
  |tmp k =>
   by_cases e:k=t
   ·subst e;show AVRep _ r (upd regs k _ k) _;have e2:ev regs (.tmp k)=.vec m:=ht;rw[e2]at hx';have e3:ac.eval (.tmp k)=r m:=hx';rw[upd_same,e3];exact g3
   show AVRep _ r (upd regs t _ k) _;rw[aj _ _ _ _ e];exact AVRep.mono g1 _ _ hx'
  |_=>exact AVRep.mono g1 _ _ hx'
 exact hK x h' r' w' (g1.trans q1) (fun m _=>q2 m fun z=>absurd rfl z) q3 q4
end
section ghost
variable {P:Program}{B:Bool}{N np:Nat}{Q:Exit->St->Prop}{s:St}{c:Code}
theorem Ay(t m d n:Nat){z:Nat}{e:TypeId}{cs:List DV}(ht:s.regs t=SB n m)(hm:s.own m=some ⟨false,z,e,cs⟩)(hz:Nat.blt z 2=true)(hcs:cs.length=n)(hn:n<=140737488355328)(hmd:Nat.beq m d=false)(hp:Nat.ble np d=true)(h:AWp P B N np c Q ⟨upd (bt [d] s).regs t (.vec d),upd (upd (bt [d] s).own m none) d (some ⟨true,1,e,cs⟩)⟩):AWp P B N np c Q s:=by
 intro ro hB C hh r a w hn' hc;have hne:m≠d:=fun e=>by rw[e,WH]at hmd;cases hmd
 have hk:=e9 [d] hc;have hm':(bt [d] s).own m=some ⟨false,z,e,cs⟩:=by
  show(bif [d].contains m then none else iS [d] (s.own m))=_;have:[d].contains m=false:=by simp;exact hne
  rw[this,hm];have hl:lnk ⟨false,z,e,cs⟩=[]:=by
   match z,hz with
   |0,_=>rfl
   |1,_=>rfl
  show some (dp [d] _)=_;unfold dp;rw[hl];rfl
 have hx:=hc.rg t;rw[ht]at hx;obtain⟨k,q1,q2⟩:=hx hh (sa hh);have hbr:=hk.wk.ow m _ hm';rw[BlkRep.boxE rfl]at hbr;obtain⟨k0,c0,p1,p2,p3,p4⟩:=hbr;have hkk:k0=k:=by rw[p1]at q1;simpa using q1
 subst hkk;have hw:=hk.wk.rename (m:=m) (d:=d) (v:=.slice (some ⟨k0,0,none⟩) n n) (b:=⟨true,1,e,cs⟩) (by rw[hm'];simp) (fp [d] s d (by simp)) (by rw[hn'.1];exact bL0 hp) (fun i hi=>by
  simp only[aD]at hi;split at hi
  ·cases hi
  ·rw[q1];exact hi) (by
  rw[BlkRep.slE (b:=⟨true,1,e,cs⟩) rfl (Nat.one_pos)];exact⟨_,n,n,rfl,by rw[VK,hcs],Iv _,hn,.inr ⟨k0,c0,rfl,p2,by rw[VK,<- hcs];exact p3,p4⟩⟩) (fq [d] s d (by simp)) rfl
 refine h ro hB C hh (upd r d (.slice (some ⟨k0,0,none⟩) n n)) a w hn' ⟨hk.sz,hk.df,fun t'=>?_,hw⟩;show AVRep _ _ (upd (bt [d] s).regs t (.vec d) t') _;by_cases e':t'=t
 ·subst e';rw[upd_same];show _=upd r d _ d;rw[upd_same];exact q2
 rw[aj _ _ _ _ e'];exact AVRep.rebind _ _ (fun n hn'=>aj _ _ _ _ (fun x=>fU [d] s d (by simp) t' (x▸hn'))) (hk.rg t')
end ghost
abbrev Mx:=List (List Int)
abbrev aO(r:List Int):List DV:=[SL enI r]
theorem aG(r:List Int):(aO r).length=1:=rfl
abbrev ARw(r:List Int):AV:=.p (.c (SL enI r))
abbrev AMx(m:Mx):AV:=.p (.c (SL aO m))
def smz(z:Int):Bool:=decide (z.natAbs<1048576)
theorem u6{z:Int}(h:smz z=true):-1048576<z∧z<1048576:=by
 unfold smz at h;have:=dT0 h;omega
theorem dS{z:Int}(h:smz z=true):L 5 z:=by
 have:=u6 h;unfold L;omega
def dq(r:List Int):Bool:=r.all smz
theorem ce{r:List Int}(h:dq r=true)(k:Nat):smz (r.getD k 0)=true:=by
 rw[As];cases e:r[k]? with
 |none=>decide
 |some z=>exact Uo.1 h z (U8 e)
def eP(f:Int->Int->Int)(a b:List Int):List Int:=List.zipWith f a b
structure MixI(f:Int->Int->Int)(a b o:List Int)(k:Nat):Prop where
 le:k<=a.length
 len:o.length=a.length
 eq:∀ j,j<k->o.getD j 0=f (a.getD j 0) (b.getD j 0)
theorem MixI.start{f:Int->Int->Int}{a b:List Int}:MixI f a b (List.replicate ((a.length:Nat):Int).toNat 0) 0:=⟨Uv _,by simp,fun j h=>absurd h (Vz _)⟩
theorem oK(l:List Int)(i k:Nat)(x:Int)(h:i<l.length):(l.set i x).getD k 0=if k=i then x else l.getD k 0:=by
 rw[As,VH,As];by_cases e:i=k
 ·subst e;rw[H2 rfl,H2 h,H2 rfl];rfl
 rw[G2 e,G2 (fun x=>e x.symm)]
theorem MixI.next{f:Int->Int->Int}{a b o:List Int}{k:Nat}(h:MixI f a b o k)(hk:k<a.length):MixI f a b (o.set k (f (a.getD k 0) (b.getD k 0))) (k+1) :=
 ⟨hk,by rw[UL];exact h.len,fun j hj=>by
  rw[oK _ _ _ _ (by rw[h.len];exact hk)];by_cases e:j=k
  ·subst e;rw[H2 rfl]
  rw[G2 e];exact h.eq j (by omega)⟩
theorem MixI.done{f:Int->Int->Int}{a b o:List Int}(hl:b.length=a.length)(h:MixI f a b o a.length):o=eP f a b:=by
 refine List.ext_getElem (by unfold eP;rw[XG,h.len,hl,Nat.min_self]) fun i h1 h2=>?_
 have hi:i<a.length:=by rw[<- h.len];exact h1
 have:=h.eq i hi;rw[As,As,As,Fl h1,Fl hi,Fl (by omega:i<b.length)]at this;have e2:(eP f a b)[i]=f a[i] b[i]:=by simp[eP]
 rw[e2];exact this
def mxr(m:Mx)(i:Nat):List Int:=m.getD i []
def mxg(m:Mx)(i j:Nat):Int:=(mxr m i).getD j 0
def fg(w:Nat)(m:Mx):Bool:=m.all fun r=>decide (r.length=w)&&dq r
theorem cE{w:Nat}{m:Mx}(h:fg w m=true){i:Nat}(hi:i<m.length):(mxr m i).length=w∧dq (mxr m i)=true:=by
 have e:mxr m i=m[i]:=by unfold mxr;rw[As,Fl hi];rfl
 have:=Uo.1 h m[i] (WC hi);rw[Uw]at this;rw[e];exact⟨dT0 this.1,this.2⟩
theorem sL{w:Nat}{m:Mx}(h:fg w m=true){i:Nat}(hi:i<m.length)(j:Nat):smz (mxg m i j)=true:=ce (cE h hi).2 j
def hrS(row col:Nat)(m:Mx)(i:Nat):Mx :=
 if mxg m i col=0 then m else
 (m.set row (eP (fun a b=>bzU (mxg m row col) (mxg m i col)*a+bzV (mxg m row col) (mxg m i col)*b) (mxr m row) (mxr m i))).set i
  (eP (fun a b=>mxg m row col/(Int.gcd (mxg m row col) (mxg m i col):Nat)*b-mxg m i col/(Int.gcd (mxg m row col) (mxg m i col):Nat)*a) (mxr m row) (mxr m i))
def hrI(row col:Nat)(m:Mx):Nat->Mx
 |0=>m
 |k+1=>hrS row col (hrI row col m k) (row+1+k)
def hrN(row col:Nat)(m:Mx):Mx:=if mxg m row col<0 then m.set row (eP (fun a _=>-a) (mxr m row) (mxr m row))else m
def gA(a:List Int)(q:Int)(b:List Int):List Int:=eP (fun x y=>x-q*y) a b
def hrU(row col:Nat)(m:Mx):Nat->Mx
 |0=>m
 |k+1=>(hrU row col m k).set k (gA (mxr (hrU row col m k) k) (mxg (hrU row col m k) k col/mxg (hrU row col m k) row col) (mxr (hrU row col m k) row))
def hrP(s:Mx×Nat)(col:Nat):Mx:=hrI s.2 col s.1 (s.1.length-(s.2+1))
def hrC(s:Mx×Nat)(col:Nat):Mx×Nat :=
 if mxg (hrP s col) s.2 col=0 then(hrP s col,s.2)else(hrU s.2 col (hrN s.2 col (hrP s col)) s.2,s.2+1)
def hrA(m:Mx):Nat->Mx×Nat
 |0=>(m,0)
 |col+1=>if(hrA m col).2<m.length then hrC (hrA m col) col else hrA m col
def hkC(w:Nat)(s:Mx×Nat)(col:Nat):Bool :=
 ((List.range (s.1.length-s.2)).all fun k=>fg w (hrI s.2 col s.1 k))&&(decide (mxg (hrP s col) s.2 col=0)||(List.range (s.2+1)).all fun k=>fg w (hrU s.2 col (hrN s.2 col (hrP s col)) k)&&decide (mxg (hrU s.2 col (hrN s.2 col (hrP s col)) k) s.2 col≠0))
def hkA(w:Nat)(m:Mx)(n:Nat):Bool:=(List.range n).all fun col=>decide (m.length<=(hrA m col).2)||hkC w (hrA m col) col
theorem KX(row col:Nat)(m:Mx)(i:Nat):(hrS row col m i).length=m.length:=by
 unfold hrS;split
 ·rfl
 rw[UL,UL]
theorem pT(row col:Nat)(m:Mx):∀ k,(hrI row col m k).length=m.length
 |0=>rfl
 |k+1=>(KX _ _ _ _).trans (pT row col m k)
theorem zM(row col:Nat)(m:Mx):(hrN row col m).length=m.length:=by
 unfold hrN;split
 ·rw[UL]
 rfl
theorem te(row col:Nat)(m:Mx):∀ k,(hrU row col m k).length=m.length
 |0=>rfl
 |k+1=>by
  show(List.set _ _ _).length=_;rw[UL];exact te row col m k
theorem tf(s:Mx×Nat)(col:Nat):(hrP s col).length=s.1.length:=pT _ _ _ _
theorem KY(s:Mx×Nat)(col:Nat):(hrC s col).1.length=s.1.length:=by
 unfold hrC;split
 ·exact tf s col
 exact(te _ _ _ _).trans ((zM _ _ _).trans (tf s col))
theorem lf(m:Mx):∀ k,(hrA m k).1.length=m.length
 |0=>rfl
 |k+1=>by
  unfold hrA;split
  ·rw[KY,lf m k]
  exact lf m k
theorem mU(m:Mx):∀ k,(hrA m k).2<=m.length
 |0=>Uv _
 |k+1=>by
  unfold hrA;split
  ·next h =>
        unfold hrC;split
        ·exact mU m k
        exact h
  exact mU m k
theorem Gj{m:Mx}{k:Nat}(h:¬ (hrA m k).2<m.length):∀ n,k<=n->hrA m n=hrA m k:=by
 intro n hn;induction n with
 |zero =>
      have:k=0:=by omega
      subst this;rfl
 |succ n ih =>
  rcases Ut k (n+1)with e|e
  ·have h2:=ih (by omega);show(if(hrA m n).2<m.length then _ else hrA m n)=_;rw[h2,G2 h]
  have:k=n+1:=by omega
  rw[this]
theorem RT{m:Mx}{k:Nat}(h:(hrA m k).2<m.length):hrA m (k+1)=hrC (hrA m k) k:=H2 h
theorem KZ{w:Nat}{m:Mx}{n col:Nat}(h:hkA w m n=true)(hc:col<n)(hr:(hrA m col).2<m.length) :
  (∀ k,k<m.length-(hrA m col).2->fg w (hrI (hrA m col).2 col (hrA m col).1 k)=true)∧(mxg (hrP (hrA m col) col) (hrA m col).2 col≠0->∀ k,k<=(hrA m col).2 ->
   fg w (hrU (hrA m col).2 col (hrN (hrA m col).2 col (hrP (hrA m col) col)) k)=true∧mxg (hrU (hrA m col).2 col (hrN (hrA m col).2 col (hrP (hrA m col) col)) k) (hrA m col).2 col≠0):=by
 have h1:=Uo.1 h col (UW.2 hc);rw[VE]at h1;have h2:hkC w (hrA m col) col=true:=by
  rcases h1 with e|e
  ·have:=dT0 e;omega
  exact e
 unfold hkC at h2;rw[Uw,VE,lf]at h2;refine⟨fun k hk=>Uo.1 h2.1 k (UW.2 hk),fun hne k hk=>?_⟩;rcases h2.2 with e|e
 ·exact absurd (dT0 e) hne
 have:=Uo.1 e k (UW.2 (by omega));rw[Uw]at this;exact⟨this.1,dT0 this.2⟩
theorem RS{s:Mx×Nat}{col:Nat}(h:mxg (hrP s col) s.2 col=0):hrC s col=(hrP s col,s.2):=H2 h
theorem RR{s:Mx×Nat}{col:Nat}(h:mxg (hrP s col) s.2 col≠0):hrC s col=(hrU s.2 col (hrN s.2 col (hrP s col)) s.2,s.2+1):=G2 h
theorem RQ{row col:Nat}{m:Mx}(h:¬ mxg m row col<0):hrN row col m=m:=G2 h
theorem RP{row col:Nat}{m:Mx}(h:mxg m row col<0):hrN row col m=m.set row (eP (fun a _=>-a) (mxr m row) (mxr m row)):=H2 h
theorem RO{row col:Nat}{m:Mx}{i:Nat}(h:mxg m i col=0):hrS row col m i=m:=H2 h
theorem RN{row col:Nat}{m:Mx}{i:Nat}(h:¬ mxg m i col=0):hrS row col m i=(m.set row (eP (fun a b=>bzU (mxg m row col) (mxg m i col)*a+bzV (mxg m row col) (mxg m i col)*b) (mxr m row) (mxr m i))).set i
  (eP (fun a b=>mxg m row col/(Int.gcd (mxg m row col) (mxg m i col):Nat)*b-mxg m i col/(Int.gcd (mxg m row col) (mxg m i col):Nat)*a) (mxr m row) (mxr m i)):=G2 h
def bP(m:Mx):Mx:=if m.length=0 then[]else(hrA m (mxr m 0).length).1.take (hrA m (mxr m 0).length).2
def hkH(m:Mx):Bool:=decide (m.length<=12)&&decide ((mxr m 0).length<=12)&&fg (mxr m 0).length m&&hkA (mxr m 0).length m (mxr m 0).length
theorem l7(m:Mx):m.flatMap aO=m.map fun r=>SL enI r:=by
 induction m with
 |nil=>rfl
 |cons a m ih=>rw[UP,ih];rfl
theorem JM{m:Mx}{i:Nat}(h:i<m.length):(m.flatMap aO)[i*1]?=some (SL enI (mxr m i)):=by
 rw[l7,VK,UE,Fl h];unfold mxr;rw[As,Fl h];rfl
theorem JL(m:Mx)(i:Nat)(r:List Int):(m.flatMap aO).set (i*1) (SL enI r)=(m.set i r).flatMap aO:=by
 rw[l7,l7,VK,List.map_set]
theorem qH:∀ n:Nat,reps n (enI 0)=(List.replicate n (0:Int)).flatMap enI
 |0=>rfl
 |n+1=>by
  rw[WX,UP,<- qH n];rfl
theorem Ab:∀ (l:List Int) (k:Nat),k<l.length->∀ z:Int,spl (k*2) (enI z) (l.flatMap enI)=(l.set k z).flatMap enI
 | [],_,h,_=>absurd h (Vz _)
 |a::l,0,_,z=>by
  show spl 0 [zn z,zm z] (zn a::zm a::l.flatMap enI)=zn z::zm z::l.flatMap enI;simp only[spl]
 |a::l,k+1,h,z=>by
  have ih:=Ab l k (by simpa using h) z;rw[List.set_cons_succ,UP,UP,<- ih,show(k+1)*2=k*2+1+1 by omega];show spl (k*2+1+1) [zn z,zm z] (zn a::zm a::l.flatMap enI)=zn a::zm a::spl (k*2) [zn z,zm z] (l.flatMap enI);simp only[spl]
section ops
variable {P:Program}{tt:TT}(hT:bM P tt)
variable {dst:Option Nat}{ty:TypeId}{pos:String}{af:Array Edge}{gd:Option (Nat×Bool)}{d:Nat}{ρ:Operand->AV}{own:Own}
variable {T:TypeId}{i:TyI}{x y:Operand}
include hT
theorem br{k n:Nat}{m:Mx}{be:TypeId}(ht:tt T=some i)(hg:i.sh.agg=false)(hx:ρ x=.loc n (k*1))(hb:own n=some (VB 1 be aO m))(hk:k<m.length) :
  Eff P ⟨dst,.load T x,ty,pos,af,gd⟩ d ρ own (ARw (mxr m k)) [] none [n] :=
 bq hT ht hg hx hb (JM hk)
theorem gp{k n:Nat}{m:Mx}{r:List Int}{be:TypeId}(ht:tt T=some i)(hj:i.size=1)(hx:ρ x=.loc n (k*1))(hy:ρ y=ARw r)(hb:own n=some (VB 1 be aO m))(hk:k<m.length) :
  Eff P ⟨dst,.store T x y,ty,pos,af,gd⟩ d ρ own .junk [(n,some (VB 1 be aO (m.set k r)))] none [n]:=by
 exact fB (dst:=dst) (ty:=ty) (pos:=pos) (af:=af) (gd:=gd) (d:=d) (b:=VB 1 be aO m) hT ht hx hy hb hj (by show _<(m.flatMap aO).length;rw[a6 aG];omega) (JL m k r)
theorem lA{e:TypeId}{j:TyI}{k k':IntKind}{l:Int}(ht:tt T=some i)(hs:i.sh=.sl e)(he:tt e=some j)(hz:j.zero=enI 0)(hj:j.size=2)(hjb:Nat.ble j.bytes 64=true)(hx:ρ x=.p (.c (.v (.int k l))))(hy:ρ y=.p (.c (.v (.int k' l))))(h0:0<=l∧l<=1000000) :
  Eff P ⟨dst,.makeSlice T x y,ty,pos,af,gd⟩ d ρ own (.vec d) [] (some (VB 2 e enI (List.replicate l.toNat 0))) []:=by
 have hjb':=bL0 hjb;have hb:(j.bytes:Int)*l<=281474976710656:=by
  have:(j.bytes:Int)*l<=64*l:=UM (by omega) h0.1;omega
 have h:=zo (dst:=dst) (ty:=ty) (pos:=pos) (af:=af) (gd:=gd) (d:=d) (own:=own) hT ht hs he hz hx hy h0.1 (by omega) hb (by rw[hj];rfl);rw[hj,qH]at h;exact h
theorem jj{k n:Nat}{l:List Int}{z:Int}{be:TypeId}(ht:tt T=some i)(hj:i.size=2)(hx:ρ x=.loc n (k*2))(hy:ρ y=I z)(hb:own n=some (VB 2 be enI l))(hk:k<l.length) :
  Eff P ⟨dst,.store T x y,ty,pos,af,gd⟩ d ρ own .junk [(n,some (VB 2 be enI (l.set k z)))] none [n] :=
 iI hT ht hx hy hb (by rw[hj];rfl) (by show k*2+2<=(l.flatMap enI).length;rw[a6 aI];omega) (Ab l k hk z)
end ops
theorem mJ{r:List Int}(h:dq r=true)(k:Nat):L 6 (r.getD k 0):=(dS (ce h k)).mono (by decide)
theorem gF{w:Nat}{m:Mx}(h:fg w m=true){i:Nat}(hi:i<m.length)(k:Nat):L 6 ((mxr m i).getD k 0):=mJ (cE h hi).2 k
theorem mK{w:Nat}{m:Mx}(h:fg w m=true){i:Nat}(hi:i<m.length)(j:Nat):L 5 (mxg m i j):=dS (sL h hi j)
theorem TZ{x y:Int}(hx:smz x=true)(hy:smz y=true)(h0:y≠0):L 6 ((Int.gcd x y:Nat):Int)∧L 6 (bzU x y)∧L 6 (bzV x y)∧L 6 (x/(Int.gcd x y:Nat))∧L 6 (y/(Int.gcd x y:Nat))∧((Int.gcd x y:Nat):Int)≠0:=by
 have bx:=u6 hx;have b_y:=u6 hy;have hu:=nQ (a:=x) h0;have hv:=Ii (a:=x) h0;have hg:=jY (a:=x) h0;have hg2:((Int.gcd x y:Nat):Int)<=y.natAbs:=by
  have:Int.gcd x y<=y.natAbs:=Wf (by omega) (Int.gcd_dvd_natAbs_right x y);omega
 have hd:∀ z:Int,-1048576<z->z<1048576->L 6 (z/(Int.gcd x y:Nat)):=fun z h1 h2=>by
  have:L 6 z:=by unfold L;omega
  have i1:LB z 6:=⟨this⟩
  exact(inferInstance:LB (z/(Int.gcd x y:Nat)) 6).le
 refine⟨?_,?_,?_,hd x bx.1 bx.2,hd y b_y.1 b_y.2,by omega⟩
 ·unfold L;omega
 ·unfold L;omega
 unfold L;omega
def SubLs:List AV->List AV->Prop
 | [],[]=>True
 |x::xs,y::ys=>Sub x y∧SubLs xs ys
 |_,_=>False
theorem SubLs.rep{h:Hp}{r:Nat->Value}:∀ {xs ys:List AV} {vs:List Value},SubLs xs ys->RepArgs h r xs vs->RepArgs h r ys vs
 | [],[],[],_,_=>trivial
 |_::_,_::_,_::_,k,q=>⟨k.1 _ _ _ q.1,SubLs.rep k.2 q.2⟩
 | [],[],_::_,_,q=>q.elim
 |_::_,_::_,[],_,q=>q.elim
 | [],_::_,_,k,_=>k.elim
 |_::_,[],_,k,_=>k.elim
theorem CallM.sub{P:Program}{f:FuncId}{args args':List AV}{o o':Own}{res:AV}(h:CallM P f args o res o')(k:SubLs args' args):CallM P f args' o res o' :=
 ⟨h.fn,fun hh r w cargs hra hbf=>h.go hh r w cargs (k.rep hra) hbf⟩
theorem ru{g:FuncId}:Sub (.p (.c (.v (.func (.func g) #[] #[])))) (.fn g []):=fun _ _ x k=>by
 have:=bh k;subst this;exact⟨#[],rfl,trivial⟩
def fiX{α:Type}(p:α->Bool)(l:List α):Int:=if l.findIdx p<l.length then(l.findIdx p:Nat)else -1
theorem Dw{α:Type}{p:α->Bool}{l:List α}{d:α}{k:Nat}(h1:k<=l.findIdx p)(h2:k<l.length)(h3:p (l.getD k d)=false):k+1<=l.findIdx p:=by
 rcases Ut k (l.findIdx p)with h|h
 ·exact h
 have e:l.findIdx p=k:=by omega
 have:=Xw (p:=p) (xs:=l) (w:=by omega);rw[As,Fl h2]at h3;simp only[e]at this;simp only[Option.getD_some]at h3;rw[this]at h3;cases h3
theorem zW{α:Type}{p:α->Bool}{l:List α}{d:α}{k:Nat}(h1:k<=l.findIdx p)(h2:k<l.length)(h3:p (l.getD k d)=true):fiX p l=k:=by
 have e:l.findIdx p=k:=by
  rcases Ut k (l.findIdx p)with h|h
  ·have:=Xc h;rw[As,Fl h2]at h3;simp only[Option.getD_some]at h3;rw[h3]at this;cases this
  omega
 unfold fiX;rw[e,H2 h2]
theorem zX{α:Type}{p:α->Bool}{l:List α}{k:Nat}(h1:k<=l.findIdx p)(h2:l.length<=k):fiX p l=-1:=by
 unfold fiX;rw[G2 (by omega)]
theorem zY{α:Type}(p:α->Bool)(l:List α):decide (0<=fiX p l)=l.any p:=by
 unfold fiX;by_cases h:l.findIdx p<l.length
 ·rw[H2 h,Wz.2 ((Xd).1 h)];exact G6 (by omega)
 rw[G2 h];have:l.any p=false:=by
  rw[<- Bool.not_eq_true,Wz];exact fun e=>h (Xd.2 e)
 rw[this];rfl
theorem ct{α:Type}{l:List α}{k:Nat}(d:α)(h:k<l.length):l.getD k d∈l:=by
 rw[As,Fl h];exact WC h
abbrev qP:DV:=.v (.slice none 0 0)
def fiC(m:Mx)(n k:Nat)(x:Option DV):List DV:=(m.take k).map (fun r=>SL enI r)++(match x with|some d=>d::List.replicate (n-(k+1)) qP|none=>List.replicate (n-k) qP)
theorem Lp{m:Mx}{k:Nat}{x:Option DV}(hk:k<=m.length)(hx:x=none∨k<m.length):(fiC m m.length k x).length=m.length:=by
 unfold fiC;rw[UB,Uq,Us,Vu hk];cases x with
 |none=>rw[Wj];omega
 |some d =>
  have:k<m.length:=by((rcases hx with h|h);· cases h);· exact h
  rw[U5,Wj];omega
theorem Ib(m:Mx):reps ((m.length:Nat):Int).toNat [qP]=fiC m m.length 0 none:=by
 unfold fiC;rw[List.take_zero,X8,List.nil_append,Nat.sub_zero,Vq];show reps m.length [qP]=List.replicate m.length qP;generalize m.length=n;induction n with
 |zero=>rfl
 |succ n ih=>rw[WX,<- ih];rfl
theorem z6{m:Mx}{k:Nat}(hk:k<m.length):(fiC m m.length k none).set k .any=fiC m m.length k (some .any):=by
 unfold fiC;have e:((m.take k).map fun r=>SL enI r).length=k:=by rw[Uq,Us];omega
 rw[XV _ _ (by omega),e,WE,show m.length-k=(m.length-(k+1))+1 by omega,WX,Xg]
theorem GC{m:Mx}{k:Nat}(hk:k<m.length):(fiC m m.length k (some .any)).set k .any=fiC m m.length k (some .any):=by
 unfold fiC;have e:((m.take k).map fun r=>SL enI r).length=k:=by rw[Uq,Us];omega
 rw[XV _ _ (by omega),e,WE,Xg]
theorem wF:∀ (l:List (List Int)) (i:Nat) (t:List DV),vc i (l.map (fun r=>SL enI r) ++ .any::t)=i+l.length
 | [],i,t=>rfl
 |r::l,i,t=>by
  show vc (i+1) (l.map (fun r=>SL enI r) ++ .any::t)=_;rw[wF l (i+1) t,U5];omega
theorem jZ{m:Mx}{k:Nat}(hk:k<m.length):jE (fiC m m.length k (some .any))=k:=by
 unfold fiC jE;rw[wF,Us];omega
theorem Lo{m:Mx}{k:Nat}(hk:k<m.length):(fiC m m.length k none)[k]?=some qP:=by
 unfold fiC;rw[US (by rw[Uq,Us];omega),Uq,Us,Vu (by omega),WE,show m.length-k=(m.length-(k+1))+1 by omega,WX];rfl
theorem Ia{m:Mx}{k:Nat}(hk:k<m.length):(fiC m m.length k (some .any)).set k (SL enI (mxr m k))=fiC m m.length (k+1) none:=by
 unfold fiC;have e:((m.take k).map fun r=>SL enI r).length=k:=by rw[Uq,Us];omega
 rw[XV _ _ (by omega),e,WE,Xg,VI,Vj,Wt];have:m[k]?=some (mxr m k):=by
  unfold mxr;rw[As,Fl hk];rfl
 rw[this];rfl
theorem zZ(m:Mx):fiC m m.length m.length none=m.flatMap aO:=by
 unfold fiC;rw[Vm,WE,l7];simp
theorem mX{m:Mx}{k:Nat}(hk:k<m.length){x:Option DV}:Nat.blt k (fiC m m.length k x).length=true:=by
 rw[Lp (by omega) (.inr hk)];simpa using hk
def km(m:Mx)(k:Nat):List Int:=m.map fun r=>r.getD k 0
def trM(m:Mx):Mx:=if m.length=0 then[]else(List.range (mxr m 0).length).map (km m)
theorem Jn{m:Mx}(h:m.length≠0):(trM m).length=(mxr m 0).length:=by unfold trM;rw[G2 h,Uq,V2]
theorem Jm{m:Mx}(h:m.length≠0){k:Nat}(hk:k<(mxr m 0).length):mxr (trM m) k=km m k:=by
 have e:mxr (trM m) k=((List.range (mxr m 0).length).map (km m)).getD k []:=by
  show(trM m).getD k []=_;unfold trM;rw[G2 h]
 rw[e,As,UE,Wb hk];rfl
theorem LA{m:Mx}{k i:Nat}(hi:i<m.length):km (m.take (i+1)) k=km (m.take i) k++[mxg m i k]:=by
 unfold km mxg mxr;rw[VI,Vj,Fl hi,As,As,Fl hi];simp[List.getD_eq_getElem?_getD]
theorem DK(m:Mx)(k:Nat):(km m k).length=m.length:=by unfold km;rw[Uq]
def dgM(m:Mx):Bool:=(List.range m.length).all fun i=>(List.range (mxr m i).length).all fun k=>decide (i=k)||decide (mxg m i k=0)
theorem Pm{m:Mx}{i k:Nat}(hi:i<m.length)(hk:k<(mxr m i).length)(h:i≠k)(h0:mxg m i k≠0):dgM m=false:=by
 cases e:dgM m with
 |false=>rfl
 |true =>
  have h1:=Uo.1 (Uo.1 e i (UW.2 hi)) k (UW.2 hk);rw[VE]at h1;rcases h1 with h1|h1
  ·exact absurd (dT0 h1) h
  exact absurd (dT0 h1) h0
theorem Lt{m:Mx}(h:∀ i,i<m.length->∀ k,k<(mxr m i).length->i=k∨mxg m i k=0):dgM m=true :=
 Uo.2 fun i hi=>Uo.2 fun k hk=>by
  rw[VE];exact(h i (UW.1 hi) k (UW.1 hk)).imp G6 G6
theorem yV:∀ (xs ys:List DV),xs.length=ys.length->spl 0 xs ys=xs
 | [],[],_=>by simp[spl]
 |x::xs,y::ys,h=>by
  show x::spl 0 xs ys=_;rw[yV xs ys (by simpa using h)]
 | [],_::_,h=>by simp at h
 |_::_,[],h=>by simp at h
section ops
variable {P:Program}{tt:TT}(hT:bM P tt)
variable {dst:Option Nat}{ty:TypeId}{pos:String}{af:Array Edge}{gd:Option (Nat×Bool)}{d:Nat}{ρ:Operand->AV}{own:Own}
variable {T:TypeId}{i:TyI}{x y:Operand}
include hT
theorem FE{e:TypeId}{j:TyI}{m:Nat}{l r:List Int}{be:TypeId}(ht:tt T=some i)(hs:i.sh=.sl e)(he:tt e=some j)(hj:j.size=2)(hx:ρ x=.vec m)(hb:own m=some (VB 2 be enI l))(hy:ρ y=ARw r)(hl:r.length=l.length) :
  Eff P ⟨dst,.call ⟨.builtin .copy,#[x,y],#[T,T]⟩,ty,pos,af,gd⟩ d ρ own (.p (.c (.v (.int .i64 r.length)))) [(m,some (VB 2 be enI r))] none [m] :=
 zq (b:=VB 2 be enI l) hT ht hs he hx hb rfl hj.symm hy rfl (by rw[hj];exact a6 aI r) (by show(r.flatMap enI).length<=(l.flatMap enI).length;rw[a6 aI,a6 aI,hl];exact Iv _) (yV _ _ (by rw[a6 aI,a6 aI,hl])) (by rw[hj];rfl)
end ops
theorem tg{m:Mx}(h:hkH m=true):m.length<=12∧(mxr m 0).length<=12∧fg (mxr m 0).length m=true∧hkA (mxr m 0).length m (mxr m 0).length=true:=by
 unfold hkH at h;simp only[Bool.and_eq_true]at h;exact⟨dT0 h.1.1.1,dT0 h.1.1.2,h.1.2,h.2⟩
theorem OR{m:Mx}(h:m.length≠0):AV.p (.c (.sl (((hrA m (mxr m 0).length).2:Nat):Int).toNat (((hrA m (mxr m 0).length).1.take (hrA m (mxr m 0).length).2).flatMap aO)))=AMx (bP m):=by
 unfold bP;rw[G2 h];have e:((hrA m (mxr m 0).length).1.take (hrA m (mxr m 0).length).2).length=(((hrA m (mxr m 0).length).2:Nat):Int).toNat:=by
  rw[Us,lf,Vq];have:=mU m (mxr m 0).length;omega
 show _=AV.p (.c (.sl _ _));rw[e]
theorem OQ{m:Mx}(h:m.length=0):bP m=[]:=by unfold bP;rw[H2 h]
theorem lu{w:Nat}{m:Mx}(h:fg w m=true){r:List Int}(hr:r∈m):r.length=w:=by
 have:=Uo.1 h r hr;rw[Uw]at this;exact dT0 this.1
def wu(h:Mx):Bool:=decide (h.length<=12)&&decide ((mxr h 0).length<=12)&&decide (h.length<=(mxr h 0).length)&&fg (mxr h 0).length h
theorem FH{h:Mx}(k:wu h=true):h.length<=12∧(mxr h 0).length<=12∧h.length<=(mxr h 0).length∧fg (mxr h 0).length h=true:=by
 unfold wu at k;simp only[Bool.and_eq_true]at k;exact⟨dT0 k.1.1.1,dT0 k.1.1.2,dT0 k.1.2,k.2⟩
def smH:Nat->Mx->Option Mx
 |0,_=>none
 |k+1,h=>if wu h=true then(if dgM h=true then some h else if decide (h.length≠0)&&hkH (trM h)then smH k (bP (trM h))else none)else none
theorem Qz{k:Nat}{h q:Mx}(e:smH k h=some q):∃ n,k=n+1∧wu h=true∧(dgM h=true->q=h)∧(dgM h=false->h.length≠0∧hkH (trM h)=true∧smH n (bP (trM h))=some q):=by
 cases k with
 |zero=>cases e
 |succ n =>
  refine⟨n,rfl,?_⟩;unfold smH at e;by_cases h1:wu h=true
  ·rw[H2 h1]at e;refine⟨h1,fun h2=>?_,fun h2=>?_⟩
   ·rw[H2 h2]at e;exact(Vl e).symm
   rw[G2 (by rw[h2];decide)]at e;by_cases h3:(decide (h.length≠0)&&hkH (trM h))=true
   ·rw[H2 h3]at e;rw[Uw]at h3;exact⟨dT0 h3.1,h3.2,e⟩
   rw[G2 h3]at e;cases e
  rw[G2 h1]at e;cases e
def dgL(h:Mx):List Int:=(List.range h.length).map fun i=>mxg h i i
def gcS(d:List Int)(i k:Nat):List Int:=(d.set i ((Int.gcd (d.getD i 0) (d.getD k 0):Nat):Int)).set k (d.getD i 0/(Int.gcd (d.getD i 0) (d.getD k 0):Nat)*d.getD k 0)
def gcI(i:Nat)(d:List Int):Nat->List Int
 |0=>d
 |j+1=>gcS (gcI i d j) i (i+1+j)
def gcA(d:List Int):Nat->List Int
 |0=>d
 |i+1=>gcI i (gcA d i) (d.length-(i+1))
theorem tm(i:Nat)(d:List Int):∀ j,(gcI i d j).length=d.length
 |0=>rfl
 |j+1=>by
  show(List.set _ _ _).length=_;rw[UL,UL];exact tm i d j
theorem zS(d:List Int):∀ i,(gcA d i).length=d.length
 |0=>rfl
 |i+1=>(tm _ _ _).trans (zS d i)
def okG(d:List Int):Bool:=(List.range d.length).all fun i=>(List.range (d.length-i)).all fun j=>dq (gcI i (gcA d i) j)&&decide ((gcI i (gcA d i) j).getD i 0≠0)
theorem J8{d:List Int}(h:okG d=true){i j:Nat}(hi:i<d.length)(hj:j<d.length-i):dq (gcI i (gcA d i) j)=true∧(gcI i (gcA d i) j).getD i 0≠0:=by
 have h1:=Uo.1 (Uo.1 h i (UW.2 hi)) j (UW.2 hj);rw[Uw]at h1;exact⟨h1.1,dT0 h1.2⟩
def smD(m:Mx):Option (List Int):=match smH 9 (bP m)with
 |some q=>if okG (dgL q)=true then some (gcA (dgL q) (dgL q).length)else none
 |none=>none
theorem Jt{m:Mx}{d:List Int}(h:smD m=some d):∃ q,smH 9 (bP m)=some q∧okG (dgL q)=true∧gcA (dgL q) (dgL q).length=d:=by
 unfold smD at h;split at h
 ·next q hq =>
  by_cases h1:okG (dgL q)=true
  ·rw[H2 h1]at h;exact⟨q,hq,h1,Vl h⟩
  rw[G2 h1]at h;cases h
 cases h
theorem Lu(h:Mx):(dgL h).length=h.length:=by unfold dgL;rw[Uq,V2]
theorem Sd(h:Mx)(k:Nat)(hk:k<h.length):(dgL h).take (k+1)=(dgL h).take k++[mxg h k k]:=by
 rw[VI]
 congr 1
 unfold dgL;rw[UE,Wb hk];rfl
theorem vk{z:Int}(h:L 6 z):L 44 z:=h.mono (by decide)
theorem Iu{z:Int}(h:L 6 z):L 45 z:=h.mono (by decide)
theorem Lq{x y:Int}(h:L 6 x):L 6 (x/y):=by
 have i1:LB x 6:=⟨h⟩
 exact(inferInstance:LB (x/y) 6).le
theorem TM{G:List Int}{i:Nat}(h:dq G=true)(h0:G.getD i 0≠0)(k:Nat):L 6 ((Int.gcd (G.getD i 0) (G.getD k 0):Nat):Int)∧((Int.gcd (G.getD i 0) (G.getD k 0):Nat):Int)≠0:=by
 have hb:=u6 (ce h i);have h1:Int.gcd (G.getD i 0) (G.getD k 0)<=(G.getD i 0).natAbs:=Wf (by omega) (Int.gcd_dvd_natAbs_left _ _);have h2:Int.gcd (G.getD i 0) (G.getD k 0)≠0:=fun e=>h0 (Int.gcd_eq_zero_iff.1 e).1
 refine⟨?_,by omega⟩;unfold L;omega
theorem After.of_below{h:Hp}{r:Nat->Value}{w w':World}(hb:Before h r O w)(k:Below w.heap.size w w'):After h r O w h O w' :=
 ⟨fun m b e=>(by cases e),fun m e=>absurd rfl e,fun i o e=>by
  have h1:=hb.hi i o e;rw[k.block i (K0.1 h1).1];exact h1,fun m i e=>absurd rfl e,k.os,k.tape,⟨k.output,trivial⟩,k.size,fun i hi _=>k.block i hi,.refl _,fun i e=>.inl e⟩
theorem BE{w:World}{k:Nat}{os:Array Obj}:Below w.heap.size w (Sort.grow (w.drewN k) os):=by
 refine⟨rfl,rfl,rfl,?_,fun i hi=>?_⟩
 ·show w.heap.size<=(w.heap++os).size;rw[Array.size_append];omega
 show(w.heap++os)[i]?=_;rw[U9 hi]
theorem EY{h:Hp}{l:List Str}{x:Value}(k:DRep h (.sl l.length (l.flatMap eB)) x)(hne:l≠[]):∃ b off cap c e fr,x=.slice (some ⟨b,off,none⟩) l.length cap∧l.length<=cap∧l.length<=140737488355328∧h b=some (.cells c e fr) ∧
  ∀ (j:Nat) s,l[j]?=some s->c[off+j]?=some (dJ s):=by
 simp only[DRep]at k;obtain⟨a,cap,h1,h2,h3,h4⟩:=k;have e0:l.flatMap eB=l.map stD:=by
  clear h4 h1 h2 h3 hne;induction l with
  |nil=>rfl
  |cons s l ih=>rw[UP,ih];rfl
 rcases h4 with h4|⟨b,off,c,e,fr,rfl,g1,g2⟩
 ·rw[e0]at h4;exact absurd (List.map_eq_nil_iff.1 h4) hne
 refine⟨b,off,cap,c,e,fr,h1,h2,h3,g1,fun j s hj=>?_⟩;rw[e0]at g2;obtain⟨y,y1,y2⟩:=g2.get j (stD s) (by rw[UE,hj];rfl);simp only[DRep]at y2;rw[<- y2.1];exact y1
section
variable {P:Program}{ρ:Shelf.Ren}
theorem Db{f:FuncId}(L:Go.Proofs.Lays.n156 P ρ)(X:Go.Proofs.Builder.Extra P ρ)(hf:ρ.f 156=f)(hfn:lS P f)(l:List Str)(sep:Str)(hne:l≠[])(hlen:(Lib.join l sep).length<=1000000) :
  ak P f [.p (.c (.sl l.length (l.flatMap eB))),iD sep] (iD (Lib.join l sep)):=by
 refine⟨hfn,fun h r w cargs hra hbf=>?_⟩;obtain⟨xs,hxs⟩:∃ xs,cargs.toList=xs:=⟨_,rfl⟩
 rw[hxs]at hra
 match xs,hra,hxs with
 | [x,y],⟨k1,k2,_⟩,hxs =>
  simp only[AVRep,PRep]at k1 k2;obtain⟨b,off,cap,c,e,fr,h1,h2,h3,h4,h5⟩:=EY k1 hne;simp only[DRep]at k2;obtain⟨rfl,_⟩:=k2;have hw:=hbf.hi b _ h4;have hd:∀ s:Str,(ByteArray.mk s.toArray).data.toList=s:=fun s=>by simp
  have em:(l.map fun s=>(⟨s.toArray⟩:ByteArray)).map (·.data.toList)=l:=by
   rw[VS];refine(Vy fun s _=>hd s).trans (List.map_id' l)
  have hJ:=Go.Proofs.Any.strings_Join L X b off cap (l.map fun s=>(⟨s.toArray⟩:ByteArray)) ⟨sep.toArray⟩ w (fun j x hj=>by
   rw[UE]at hj;cases hs:l[j]? with
   |none=>rw[hs]at hj;cases hj
   |some s =>
    rw[hs]at hj;cases hj;have:=h5 j s hs;simp only[World.cell?,hw];exact this) (K0.1 hw).1 (by rw[Uq];exact h3) (by rw[Uq];exact h2) (by rw[em,hd];omega)
  rw[em,hd,Uq,hf]at hJ;have ec:cargs=#[.slice (some ⟨b,off,none⟩) l.length cap,.string ⟨sep.toArray⟩]:=by
   apply Array.ext';rw[hxs,h1];rfl
  rw[ec];refine Calls.mono hJ ?_;rintro e w' ⟨rfl,hB⟩;exact⟨_,h,rfl,by simp only[AVRep,PRep,DRep];exact⟨rfl,rfl⟩,After.of_below hbf hB⟩
theorem De{f:FuncId}(L:Go.Proofs.LaysM.n171 P ρ)(hf:ρ.f 171=f)(hfn:lS P f){g:Nat}(hg:P.globalNamed "internal/strconv.uint64pow10" = some g)(hgl:(g,Lib.pow10Tab.map fun z=>Value.int .u64 z)∈vf)(n:Int)(h0:aH n) :
  ak P f [.p (.c (.v (.int .i64 n)))] (iD (Lib.itoa n)):=by
 refine⟨hfn,fun h r w cargs hra hbf=>?_⟩;obtain⟨xs,hxs⟩:∃ xs,cargs.toList=xs:=⟨_,rfl⟩
 rw[hxs]at hra
 match xs,hra,hxs with
 | [x],⟨k1,_⟩,hxs =>
  simp only[AVRep,PRep,DRep]at k1;obtain⟨rfl,_⟩:=k1;obtain⟨c,e,fr,g1,g2,g3⟩:=hbf.gl _ hgl;have hw:=hbf.hi _ _ g1;have ht:Lib.TabIs P w "internal/strconv.uint64pow10" .u64 Lib.pow10Tab:=by
   unfold Lib.TabIs World.var?;rw[hg];show(match w.heap[g]? with|some (.cells cs _ _)=>some cs|_=>none)=_;have hw':w.heap[g]?=some (.cells c e fr):=hw;rw[hw'];show some c=_
   congr 1
   apply Array.ext';refine Xp fun i=>?_
   rw[UJ];have g3':=g3 i;cases hi:(Lib.pow10Tab.map fun z=>Value.int .u64 z)[i]? with
   |some v=>first|(rw[g3' v hi];done)|(rw[g3' v hi];simpa using hi.symm)
   |none =>
    have h1:=List.getElem?_eq_none_iff.1 hi;first|(rw[Array.getElem?_eq_none (by rw[g2];exact h1)];done)|(rw[Array.getElem?_eq_none (by rw[g2];exact h1)];simpa using h1)
  have hI:=Go.Proofs.Any.strconv_Itoa L n h0.1 (by have:=h0.2;omega) w ht;rw[hf]at hI;have ec:cargs=#[.int .i64 n]:=by
   apply Array.ext';rw[hxs]
  rw[ec];refine Calls.mono hI ?_;rintro e w' ⟨rfl,k,os,rfl⟩;exact⟨_,h,rfl,by simp only[AVRep,PRep,DRep];exact⟨rfl,rfl⟩,After.of_below hbf BE⟩
end
theorem Cu:Lib.pow10Tab=[1,10,100,1000,10000,100000,1000000,10000000,100000000,1000000000,10000000000,100000000000,1000000000000,10000000000000,100000000000000,1000000000000000,10000000000000000,100000000000000000,1000000000000000000,10000000000000000000]:=by decide +kernel
theorem rU{u:Nat}(h:u<1000000000):Lib.nDigits u<=9:=by
 rcases Ut (Lib.nDigits u) 10 with h1|h1
 ·omega
 have key:∀ k u,k<=Lib.nDigits u->1<=k->10^(k-1)<=u∨k=1:=by
  intro k;induction k with
  |zero=>intro u _ h;omega
  |succ k ih =>
   intro u hk _;by_cases h10:u<10
   ·rw[Lib.nDigits_small h10]at hk;exact .inr (by omega)
   rw[Lib.nDigits_big h10]at hk;by_cases hk0:k=0
   ·exact .inr (by omega)
   left;rcases ih (u/10) (by omega) (by omega)with h2|h2
   ·rw[XL];have e:(10:Nat)^k=10^(k-1)*10:=by
     rw[<- Vk];congr 1;omega
    rw[e];omega
   subst h2;simp;omega
 rcases key 10 u h1 (by decide)with h2|h2
 ·have:(10:Nat)^(10-1)=1000000000:=by decide
  omega
 omega
theorem lF{z:Int}(hz:-1000000000<z∧z<1000000000):(Lib.itoa z).length<=10:=by
 unfold Lib.itoa;by_cases h:z<0
 ·rw[H2 h,U5,Lib.decDigits_length];have:=rU (u:=z.natAbs) (by omega);omega
 rw[G2 h,Lib.decDigits_length];have:=rU (u:=z.toNat) (by omega);omega
theorem F7(z:Int):Lib.itoa (z.natAbs:Int)=Lib.decDigits z.natAbs:=by
 unfold Lib.itoa;rw[G2 (by omega),Vq]
theorem F6{z:Int}(h:¬ z<0):Lib.join [Lib.itoa (z.natAbs:Int)] []=Lib.itoa z:=by
 rw[Lib.join_one,show((z.natAbs:Nat):Int)=z by omega]
theorem wQ{z:Int}(h:z<0):Lib.join [[45],Lib.itoa (z.natAbs:Int)] []=Lib.itoa z:=by
 rw[F7];unfold Lib.itoa;rw[H2 h];simp[Lib.join,List.intercalate]
theorem Nr{α:Type}{l:List α}{d:α}{k:Nat}(hl:l.length=3)(hk:k<3):l.take (k+1)=l.take k++[l.getD k d]:=by
 rw[VI,As,Fl (by omega:k<l.length)];rfl
def F5(f:Fm):Prop:=(-1000000000<f.a∧f.a<1000000000)∧(-1000000000<f.b∧f.b<1000000000)∧(-1000000000<f.c∧f.c<1000000000)
def ky(f:Fm):Str:=Lib.join [Lib.itoa f.a,Lib.itoa f.b,Lib.itoa f.c] [32]
theorem Bj(f:Fm):ky f=Lib.itoa f.a++32::(Lib.itoa f.b++32::Lib.itoa f.c):=by
 unfold ky;simp[Lib.join,List.intercalate]
theorem OD{f:Fm}(h:F5 f):(Lib.join [Lib.itoa f.a,Lib.itoa f.b,Lib.itoa f.c] [32]).length<=1000000:=by
 show(ky f).length<=_;rw[Bj];have h1:=lF h.1;have h2:=lF h.2.1;have h3:=lF h.2.2;simp only[List.length_append,List.length_cons];omega
theorem fL{h h':Hp}(q:Hlf h h'){b:Nat}{c:Array Value}{e:TypeId}{fr:Nat×Nat}(k:h b=some (.cells c e fr)):h' b=some (.cells c e fr):=q _ _ (fun _=>by simp) k
theorem Hlf.refl(h:Hp):Hlf h h:=fun _ _ _ e=>e
theorem Hlf.trans{a b c:Hp}(h:Hlf a b)(k:Hlf b c):Hlf a c:=fun i o ho e=>k i o ho (h i o ho e)
theorem Hle.hlf{a b:Hp}(h:Hle a b):Hlf a b:=fun i o _ e=>h i o e
mutual
theorem DRep.hlf{h h':Hp}(hh:Hlf h h'):∀ (d:DV) (x:Value),DRep h d x->DRep h' d x
 |.v _,_,r=>by simpa only[DRep]using r
 |.any,_,r=>by simpa only[DRep]using r
 |.sl n xs,x,r=>by
  simp only[DRep]at r ⊢;obtain⟨a,cap,h1,h2,h3,h4⟩:=r;refine⟨a,cap,h1,h2,h3,?_⟩;rcases h4 with h4|⟨b,off,c,e,fr,g1,g2,g3⟩
  ·exact .inl h4
  exact .inr ⟨b,off,c,e,fr,g1,fL hh g2,DReps.hlf hh xs _ g3⟩
 |.sx n cap xs,x,r=>by
  simp only[DRep]at r ⊢;obtain⟨a,h1,h2,h3,h4⟩:=r;refine⟨a,h1,h2,h3,?_⟩;rcases h4 with h4|⟨b,off,c,e,fr,g1,g2,g3⟩
  ·exact .inl h4
  exact .inr ⟨b,off,c,e,fr,g1,fL hh g2,DReps.hlf hh xs _ g3⟩
 |.ip xs,x,r=>by
  simp only[DRep]at r ⊢;obtain⟨b,off,c,e,fr,g1,g2,g3⟩:=r;exact⟨b,off,c,e,fr,g1,fL hh g2,DReps.hlf hh xs _ g3⟩
 |.fn f caps,x,r=>by
  simp only[DRep]at r ⊢;obtain⟨lb,g1,g2,g3⟩:=r;exact⟨lb,g1,g2,DReps.hlf hh caps _ g3⟩
 |.mp a xs,x,r=>by
  simp only[DRep]at r ⊢;obtain⟨k,es,clk,l,g1,g2,g3,g4,g5,g6⟩:=r;exact⟨k,es,clk,l,g1,hh _ _ (fun _=>by simp) g2,g3,g4,g5,DReps.hlf hh xs _ g6⟩
theorem DReps.hlf{h h':Hp}(hh:Hlf h h'):∀ (ds:List DV) (g:Nat->Option Value),DReps h ds g->DReps h' ds g
 | [],_,_=>by simp only[DReps]
 |x::xs,g,r=>by
  simp only[DReps]at r ⊢;obtain⟨⟨y,e,k⟩,r⟩:=r;exact⟨⟨y,e,DRep.hlf hh x y k⟩,DReps.hlf hh xs _ r⟩
end
theorem IpRep.stay{h h':Hp}(q:Hlf h h'){xs:List DV}{x:Value}:IpRep h xs x->IpRep h' xs x
 |⟨b,off,c,e,fr,h1,h2,h3⟩=>⟨b,off,c,e,fr,h1,fL q h2,DReps.hlf q _ _ h3⟩
def gM(row:List Int)(c:Int)(r:List Int):List Int:=eP (fun x a=>x+c*a) row r
def mpC(m:Mx)(q:Int)(i:Nat)(row:List Int):Int:=(q-row.getD i 0%q)*bzU (mxg m i i%q) q%q
def dL(q:Nat)(so:Bool):Nat:=if so=true then q else 2
def mpL(m:Mx)(q:Nat):Nat->List Int->Bool->List (List Int)
 |0,row,so=>if(so&&row.all fun a=>decide (a%(q:Int)=0))=true then[row.map fun a=>a/(q:Int)]else[]
 |rem+1,row,so =>
  if mxg m (m.length-(rem+1)) (m.length-(rem+1))%(q:Int)≠0 then
   mpL m q rem (gM row (mpC m q (m.length-(rem+1)) row) (mxr m (m.length-(rem+1)))) (so||decide (mpC m q (m.length-(rem+1)) row>0))
  else if row.getD (m.length-(rem+1)) 0%(q:Int)≠0 then[]
  else(List.range (dL q so)).flatMap fun(c:Nat)=>mpL m q rem (gM row (c:Int) (mxr m (m.length-(rem+1)))) (so||decide ((c:Int)>0))
def okY(m:Mx)(q:Nat):Nat->List Int->Bool->Bool
 |0,row,_=>dq row
 |rem+1,row,so=>dq row &&
  if mxg m (m.length-(rem+1)) (m.length-(rem+1))%(q:Int)≠0 then
   okY m q rem (gM row (mpC m q (m.length-(rem+1)) row) (mxr m (m.length-(rem+1)))) (so||decide (mpC m q (m.length-(rem+1)) row>0))
  else if row.getD (m.length-(rem+1)) 0%(q:Int)≠0 then true
  else(List.range (dL q so)).all fun(c:Nat)=>okY m q rem (gM row (c:Int) (mxr m (m.length-(rem+1)))) (so||decide ((c:Int)>0))
abbrev yv(l:Nat):DV:=.v (.func (.yield l) #[] #[])
def ChB(f:FuncId)(xs ys zs:List DV)(h:Hp)(x:Value):Prop:=∃ kl e fr p1 p2 p3,x=.pointer (some ⟨kl,0,none⟩)∧h kl=some (.cells #[.func (.func f) #[] #[p1,p2,p3,x]] e fr)∧IpRep h xs p1∧IpRep h ys p2∧IpRep h zs p3
abbrev ChA(f:FuncId)(xs ys zs:List DV):AV:=.ax (ChB f xs ys zs)
section ops
variable {P:Program}{tt:TT}(hT:bM P tt)
variable {dst:Option Nat}{ty:TypeId}{pos:String}{af:Array Edge}{gd:Option (Nat×Bool)}{d:Nat}{ρ:Operand->AV}{own:Own}
variable {T:TypeId}{i:TyI}{x y:Operand}
theorem jB{f:FuncId}{c1 c2 c3 c4 c5:Operand}{v1 v2 v3 v5:List DV}{R:Hp->Value->Prop}(h1:ρ c1=.ip v1)(h2:ρ c2=.ip v2)(h3:ρ c3=.ip v3)(h4:ρ c4=.ax R)(h5:ρ c5=.ip v5) :
  Eff P ⟨dst,.makeFunc (.func f) #[] #[c1,c2,c3,c4,c5],ty,pos,af,gd⟩ d ρ own (.ax (FnX f [.ip v1,.ip v2,.ip v3,.ax R,.ip v5])) [] none [] :=
 aP fun C h r own' a w hrep hrd hw=>by
  have e1:=hrep c1 (by simp[Op.operands]);have e2:=hrep c2 (by simp[Op.operands]);have e3:=hrep c3 (by simp[Op.operands]);have e4:=hrep c4 (by simp[Op.operands]);have e5:=hrep c5 (by simp[Op.operands]);rw[h1]at e1;rw[h2]at e2;rw[h3]at e3;rw[h4]at e4;rw[h5]at e5;refine⟨.func (.func f) #[] #[a.eval c1,a.eval c2,a.eval c3,a.eval c4,a.eval c5],?_,?_⟩
  ·simp[execOp,Instr.makeFunc]
  intro h' q;refine⟨_,rfl,?_⟩;have st:∀ {xs:List DV} {x:Value},AVRep h r (.ip xs) x->AVRep h' (fun _=>undef) (.ip xs) x:=fun{xs x} ⟨b,off,c,e,fr,z1,z2,z3⟩=>⟨b,off,c,e,fr,z1,fL q z2,DReps.hlf q _ _ z3⟩
  exact⟨st e1,st e2,st e3,fun h'' q2=>e4 h'' (q.trans q2),st e5,trivial⟩
include hT in
theorem ua{f:FuncId}{xs ys zs:List DV}(ht:tt T=some i)(hg:i.sh.agg=false)(hx:ρ x=ChA f xs ys zs):Eff P ⟨dst,.load T x,ty,pos,af,gd⟩ d ρ own (.ax (FnX f [.ip xs,.ip ys,.ip zs,ChA f xs ys zs])) [] none [] :=
 aP fun C h r own' a w hrep hrd hw=>by
  have e1:=hrep x (by simp[Op.operands]);rw[hx]at e1;obtain⟨kl,e,fr,p1,p2,p3,h1,h2,h3,h4,h5⟩:=e1 h (Hlf.refl h);refine⟨.func (.func f) #[] #[p1,p2,p3,a.eval x],?_,?_⟩
  ·have hcell:w.cell? ⟨kl,0,none⟩=some (.func (.func f) #[] #[p1,p2,p3,a.eval x]):=by
    simp only[World.cell?,hw.hi _ _ h2];rfl
   obtain⟨x',g1,g2⟩:=gy (hT T i ht) hg (h:=h) (w:=w) (a:=⟨kl,0,none⟩) (d:=.v (.func (.func f) #[] #[p1,p2,p3,a.eval x])) (fun j d' hj=>by
    cases j with
    |zero =>
     simp at hj;subst hj;exact⟨_,by rw[Addr.add_lit,Wh];exact hcell,by simp only[DRep];exact⟨trivial,rfl⟩⟩
    |succ j=>simp at hj)
   have hx':x'=.func (.func f) #[] #[p1,p2,p3,a.eval x]:=by have:=g2;simp only[PRep,DRep]at this;exact this.1
   rw[hx']at g1;rw[h1]at g1 ⊢;simp only[execOp,h1,Sem.run_bind,ez,g1,Result.andThen_ok,Sem.run_pure]
  intro h' q;exact⟨_,rfl,h3.stay q,h4.stay q,h5.stay q,fun h'' q2=>e1 h'' (q.trans q2),trivial⟩
end ops
section ghost
variable {P:Program}{B:Bool}{N np:Nat}{Q:Exit->St->Prop}{s:St}{c:Code}
theorem G9{tt:TT}(hT:bM P tt){id t1 t2 t3 t7 t11 n T z:Nat}{i:TyI}{xs ys zs:List DV}{e:TypeId}{dv:DV}{fl:FuncId}{y1 y2:TypeId}{p1 p2:String}{a1 a2:Array Edge}(ht:tt T=some i)(hsz:i.size=1)(h1:s.regs t1=.ip xs)(h2:s.regs t2=.ip ys)(h3:s.regs t3=.ip zs)(h7:s.regs t7=.loc n 0)(hb:s.own n=some ⟨false,z,e,[dv]⟩)(hd:(!Nat.beq t7 t11&&Nat.blt t11 N)=true)(h:Q .normal ⟨upd (upd s.regs t11 .junk) t7 (ChA fl xs ys zs),upd s.own n none⟩) :
  AWp P B N np (.region id #[⟨some t11,.makeFunc (.func fl) #[] #[.tmp t1,.tmp t2,.tmp t3,.tmp t7],y1,p1,a1,none⟩,⟨none,.store T (.tmp t7) (.tmp t11),y2,p2,a2,none⟩] false) Q s:=by
 intro ro hB C hh r a w hnp hc;simp only[Bool.and_eq_true,Nat.blt_eq]at hd;obtain⟨d7,n1⟩:=hd;have d7':t7≠t11:=fun e=>by rw[e]at d7;simp at d7
 have hs0:a.tmps.size=N:=hc.sz;have r1:=hc.rg t1;have r2:=hc.rg t2;have r3:=hc.rg t3;have r7:=hc.rg t7;rw[h1]at r1;rw[h2]at r2;rw[h3]at r3;rw[h7]at r7;obtain⟨k,⟨g1,_⟩,g2⟩:=r7;have hbx:=hc.wk.ow n _ hb;rw[BlkRep.boxE rfl]at hbx;obtain⟨k0,c0,q1,q2,q3,q4⟩:=hbx;rw[q1]at g1;simp only[aD,Option.some.injEq]at g1;subst g1;apply wpIn_region;show wpOpsIn (Wd ro) 0 P _ _ [0,1] a w;rw[wpOpsIn_cons]
 let F:Value:=.func (.func fl) #[] #[a.eval (.tmp t1),a.eval (.tmp t2),a.eval (.tmp t3),a.eval (.tmp t7)]
 refine dw (o:=⟨some t11,.makeFunc (.func fl) #[] #[.tmp t1,.tmp t2,.tmp t3,.tmp t7],y1,p1,a1,none⟩) rfl rfl rfl (x:=F) (w':=w) (by simp[execOp,Instr.makeFunc,F]) ?_;rw[wpOpsIn_cons];have v7:(a.put (some t11) F).eval (.tmp t7)=.pointer (some ⟨k0,0,none⟩):=by
  rw[<- g2];simp[Act.put,Act.eval,d7'.symm]
 have v11:(a.put (some t11) F).eval (.tmp t11)=F:=by
  simp[Act.put,Act.eval,hs0,n1]
 obtain⟨w',c',k1,k2,k3,k4,k5⟩:=bJ P k0 e [F] 0 0 w c0 q2 (by simp[q3]) (by intro v hv;rw[U3]at hv;subst hv;rfl);have hc':c'=#[F]:=by
  have h0:=k5 0;simp at h0;have hsz':c0.size=1:=q3;apply Array.ext (by simp;omega);intro q hq1 hq2;have:q=0:=by omega
  subst this;rw[UR (by omega)]at h0;simpa using h0
 refine x7 (o:=⟨none,.store T (.tmp t7) (.tmp t11),y2,p2,a2,none⟩) rfl rfl rfl (w':=w') (by
  have hcells:(F).cells=#[F]:=rfl;have hs:¬ ((F).cells.size≠i.size):=by rw[hcells,hsz];simp
  simp only[execOp,v7,v11,Instr.storeAt,Instr.sureAddr,storeVar,Sem.run_bind,Sem.run_pure,(hT T i ht).size,Result.andThen_ok,hs,if_false];rw[hcells];simp only[Result.andThen_ok,k1]) ?_
 have hk1:aD (r n)=some k0:=by rw[q1];rfl
 have hw1:=hc.wk.write (w':=w') (by rw[hb];simp) hk1 k2 (b:=⟨false,1,e,[.any]⟩) (by
  rw[BlkRep.boxE rfl];refine⟨k0,c',q1,k3,by rw[hc'];rfl,?_⟩;rw[hc'];simp only[DReps,DRep];exact⟨⟨F,rfl,rfl⟩,trivial⟩) (by intro j hj;cases hj)
 obtain⟨f1,f2⟩:=hw1.freeze (m:=n) (i:=k0) (by rw[upd_same];simp) hk1 k3;have e0:upd (upd s.own n (some (⟨false,1,e,[.any]⟩:Blk))) n none=upd s.own n none:=by
  funext p
  by_cases hp:p=n
  ·subst hp;rw[upd_same,upd_same]
  rw[aj _ _ _ _ hp,aj _ _ _ _ hp,aj _ _ _ _ hp]
 rw[e0]at f1;show ∃ s' h' r',Q .normal s'∧Conc C N h' r' s' _ _;refine⟨_,_,r,h,?_,hc.df.mono f2,fun t'=>?_,f1⟩
 ·simp[Act.put];exact hs0
 have rr:=(show RegsOK hh r s.regs a from hc.rg).put (dst:=some t11) (fun d' e=>by cases e;omega) (v:=.junk) (x:=F) trivial;show AVRep _ r (upd (upd s.regs t11 .junk) t7 _ t') _;by_cases e':t'=t7
 ·subst e';rw[upd_same];have hv:(a.put (some t11) F).tmps.getD t' undef=.pointer (some ⟨k0,0,none⟩):=v7;have hx7:a.eval (.tmp t')=.pointer (some ⟨k0,0,none⟩):=g2;intro h' q;refine⟨k0,e,(0,0),a.eval (.tmp t1),a.eval (.tmp t2),a.eval (.tmp t3),hv,?_,?_,?_,?_⟩
  ·refine fL q ?_;rw[H2 rfl];have:c'=#[.func (.func fl) #[] #[a.eval (.tmp t1),a.eval (.tmp t2),a.eval (.tmp t3),(a.put (some t11) F).tmps.getD t' undef]]:=by
    rw[hc',hv,<- hx7]
   rw[this];rfl
  ·exact IpRep.stay (f2.hlf.trans q) r1
  ·exact IpRep.stay (f2.hlf.trans q) r2
  exact IpRep.stay (f2.hlf.trans q) r3
 rw[aj _ _ _ _ e'];exact AVRep.mono f2 _ _ (rr t')
end ghost
theorem k9:∀ {l:List AV},l.flatMap men=[]->∀ v∈l,men v=[]
 |_,h,v,hv=>by
  have:=List.flatMap_eq_nil_iff.1 h v hv;exact this
theorem Rj{n k:Nat}{b:Bool}(h:b=false):n<nx n k b:=by rw[h];show n<n+1+k;omega
section rj
variable {P:Program}{n0:Nat}{J:Nat->Hp->(Nat->Prop)->World->Prop}{N np:Nat}{Q:Exit->Nat->St->Prop}{k:Nat}{s:St}{ops:Array Oper}{os:List Oper}{i:Nat}
theorem Mh(s':St)(h0:∀ (C:Ctx) (h:Hp) (r:Nat->Value) (a:Act) (w:World),C.np=np->Conc C N h r s a w->∃ h' r',Conc C N h' r' s' a w)(h:RY P n0 J N np Q ops os i k s'):RY P n0 J N np Q ops os i k s:=by
 intro hd ro S hh r a w G hc;obtain⟨C,hw,hj,hs,hF,hn,hm,hr0,hfr⟩:=hc.kj;obtain⟨h',r',c'⟩:=h0 C hh r a w hn ⟨hc.sz,by rw[hc.df];trivial,hc.rg,hw⟩;exact h hd ro S h' r' a w G ⟨c'.sz,hc.df,c'.rg,C,c'.wk,hj,hs,hF,hn,hm,hr0,hfr⟩
theorem xn{β:Type}{encD:β->List DV}{z:Nat}(hL:∀ b,(encD b).length=z)(hz:Nat.blt 0 z=true){t m:Nat}{l:List β}{e:TypeId}(ht:s.regs t=.vec m)(hb:s.own m=some (VB z e encD l))(C:Ctx)(hh:Hp)(r:Nat->Value)(a:Act)(w:World)(hc:Conc C N hh r s a w) :
  ∃ h' r',Conc C N h' r' ⟨upd s.regs t (.p (.c (SL encD l))),upd s.own m none⟩ a w:=by
  have hz':0<z:=by simpa using hz
  have hbr:=hc.wk.ow m _ hb;rw[BlkRep.slE rfl hz']at hbr;obtain⟨ad,n,cap,p1,p2,p3,p4,p5⟩:=hbr;have hn:n=l.length:=U4 hz' (p2.trans (a6 hL l));subst hn;have hx:=hc.rg t;rw[ht]at hx;have hx':a.tmps.getD t undef=r m:=hx;have hfg:∀ p,upd s.own m none p=s.own p∨upd s.own m none p=none:=fun p=>by
   by_cases e:p=m
   ·subst e;exact .inr (by simp)
   exact .inl (by rw[aj _ _ _ _ e])
  have fin:∀ h',Hle hh h'->WOK C h' r (upd s.own m none) w->DRep h' (SL encD l) (r m)->Conc C N h' r ⟨upd s.regs t (.p (.c (SL encD l))),upd s.own m none⟩ a w:=fun h' f2 f1 f3=>⟨hc.sz,hc.df.mono f2,fun t'=>by
   show AVRep _ _ (upd s.regs t _ t') _;by_cases e':t'=t
   ·subst e';rw[upd_same,hx'];exact f3
   rw[aj _ _ _ _ e'];exact AVRep.mono f2 _ _ (hc.rg t'),f1⟩
  rcases p5 with p5|⟨i,cc,rfl,q2,q3,q4⟩
  ·refine⟨hh,r,fin hh (.refl _) (hc.wk.forget hfg) ?_⟩;simp only[DRep];have hl:l=[]:=Ux (by omega);exact⟨ad,cap,p1,p3,p4,.inl (by rw[hl];rfl)⟩
  by_cases hc0:cap=0
  ·refine⟨hh,r,fin hh (.refl _) (hc.wk.forget hfg) ?_⟩;simp only[DRep];have hl:l=[]:=Ux (by omega);exact⟨_,cap,p1,p3,p4,.inl (by rw[hl];rfl)⟩
  obtain⟨f1,f2⟩:=hc.wk.freeze (m:=m) (i:=i) (by rw[hb];simp) (by rw[p1];simp[aD,hc0]) q2;refine⟨_,r,fin _ f2 f1 ?_⟩;simp only[DRep];exact⟨_,cap,p1,p3,p4,.inr ⟨i,0,cc,e,(0,0),rfl,H2 rfl,(DReps.mono f2 _ _ q4).congr fun q _=>by rw[XH]⟩⟩
theorem RY.freezeG{β:Type}{encD:β->List DV}{z:Nat}(hL:∀ b,(encD b).length=z)(hz:Nat.blt 0 z=true){t m:Nat}{l:List β}{e:TypeId}(ht:s.regs t=.vec m)(hb:s.own m=some (VB z e encD l))(h:RY P n0 J N np Q ops os i k ⟨upd s.regs t (.p (.c (SL encD l))),upd s.own m none⟩):RY P n0 J N np Q ops os i k s :=
 Mh _ (fun C hh r a w _ hc=>xn hL hz ht hb C hh r a w hc) h
end rj
section ops
variable {P:Program}{tt:TT}(hT:bM P tt)
variable {dst:Option Nat}{ty:TypeId}{pos:String}{af:Array Edge}{gd:Option (Nat×Bool)}{d:Nat}{ρ:Operand->AV}{own:Own}
variable {T yT e:TypeId}{i j:TyI}{x y:Operand}
include hT in
theorem CH{n:Nat}{xs:List DV}(ht:tt T=some i)(hs:i.sh=.sl e)(hx:ρ x=.p (.c (.sl n xs)))(hl:xs≠[]) :
  Eff P ⟨dst,.binOp .eql T x (.const (.slice none 0 0)) yT,ty,pos,af,gd⟩ d ρ own (.p (.c (.v (.bool false)))) [] none [] :=
 aP fun C h r own' a w hrep _ hw=>by
  have e1:=hrep x (by simp[Op.operands]);rw[hx]at e1;obtain⟨ad,cap,h1,h2,h3⟩:=fZ hw (show DRep h (.sl n xs) _ from e1);rcases h3 with h3|⟨A,rfl,_⟩
  ·exact absurd h3 hl
  refine⟨.bool false,?_,jp _ _ _⟩;have e2:a.eval (.const (.slice none 0 0))=.slice none 0 0:=rfl;simp only[execOp,h1,e2,eqGuard_at_slice,Sem.run_bind,Sem.run_pure,Result.andThen_ok,Lib.run_eql_slice_nil w T e _ _ _ 0 0 ((hT T i ht).slice hs),Option.isNone_some]
include hT in
theorem rQ{β:Type}{encD:β->List DV}{z:Nat}(hL:∀ b,(encD b).length=z)(hz:Nat.blt 0 z=true){m:Nat}{l:List β}(ht:tt T=some i)(hs:i.sh=.sl e)(he:tt e=some j)(hj:j.size=z)(hjb:Nat.ble j.bytes (32*z)=true)(hx:ρ x=.vec m)(hb:own m=some (VB z e encD []))(hy:ρ y=.p (.c (SL encD l)))(hfit:l.length<=10000000)(hmd:m≠d)(hzb:Nat.ble z 96=true:=by rfl) :
  Eff P ⟨dst,.call ⟨.builtin .append,#[x,y],#[T,T]⟩,ty,pos,af,gd⟩ d ρ own (.vec d) [(m,none)] (some (VB z e encD l)) [m]:=by
 have hz2:=bL0 hzb;have h1:l.length*z<=10000000*96:=VJ hfit hz2;have h:=gI (dst:=dst) (ty:=ty) (pos:=pos) (af:=af) (gd:=gd) (d:=d) hT ht hs he hx hb rfl hj.symm rfl hy (by rfl) (by rw[hj];exact a6 hL l) (by rw[hj];exact hjb) (by rw[hj];show 32*(0+_)<=_;omega) (by rw[hj];exact hz) hmd;rw[hj]at h;exact h
end ops
theorem Rq(m:Mx)(q:Nat)(row:List Int):mpL m q 0 row false=[]:=by
 unfold mpL;rfl
theorem all_get{row:List Int}{q:Nat}:(row.all fun a=>decide (a%(q:Int)=0))=true↔∀ j,j<row.length->row.getD j 0%(q:Int)=0:=by
 rw[Uo];constructor
 ·intro h j hj;have:=h (row.getD j 0) (ct 0 hj);exact dT0 this
 intro h x hx;obtain⟨j,hj,rfl⟩:=Wx hx;have:=h j hj;rw[As,Fl hj]at this;exact G6 this
theorem Om{m:Mx}{q:Nat}{row:List Int}{so:Bool}{j:Nat}(hj:j<row.length)(h:row.getD j 0%(q:Int)≠0):mpL m q 0 row so=[]:=by
 unfold mpL;rw[G2];intro e;rw[Uw]at e;exact h (all_get.1 e.2 j hj)
theorem Kp{m:Mx}{q:Nat}{row:List Int}(h:∀ j,j<row.length->row.getD j 0%(q:Int)=0):mpL m q 0 row true=[row.map fun a=>a/(q:Int)]:=by
 unfold mpL;rw[H2];rw[Uw];exact⟨rfl,all_get.2 h⟩
theorem uh(f:Int->Int):∀ l:List Int,eP (fun x _=>f x) l l=l.map f
 | []=>rfl
 |x::l=>by
  have:=uh f l;unfold eP at this ⊢;rw[List.zipWith_cons_cons,this,WF]
structure DivI(row:List Int)(q:Nat)(o:List Int)(k:Nat):Prop where
 mx:MixI (fun x _=>x/(q:Int)) row row o k
 ok:∀ j,j<k->row.getD j 0%(q:Int)=0
theorem DivI.start{row:List Int}{q:Nat}:DivI row q (List.replicate ((row.length:Nat):Int).toNat 0) 0:=⟨.start,fun _ h=>absurd h (Vz _)⟩
theorem DivI.next{row:List Int}{q:Nat}{o:List Int}{k:Nat}(h:DivI row q o k)(hk:k<row.length)(h0:row.getD k 0%(q:Int)=0):DivI row q (o.set k (row.getD k 0/(q:Int))) (k+1) :=
 ⟨h.mx.next hk,fun j hj=>by
  by_cases e:j=k
  ·subst e;exact h0
  exact h.ok j (by omega)⟩
theorem DivI.done{row:List Int}{q:Nat}{o:List Int}(h:DivI row q o row.length):o=row.map fun a=>a/(q:Int):=by
 rw[<- uh];exact h.mx.done rfl
structure AddI(row r:List Int)(c:Int)(o:List Int)(k:Nat):Prop where
 le:k<=row.length
 len:o.length=row.length
 lo:∀ j,j<k->o.getD j 0=row.getD j 0+c*r.getD j 0
 hi:∀ j,k<=j->o.getD j 0=row.getD j 0
theorem AddI.start{row r:List Int}{c:Int}:AddI row r c row 0:=⟨Uv _,rfl,fun _ h=>absurd h (Vz _),fun _ _=>rfl⟩
theorem AddI.next{row r o:List Int}{c:Int}{k:Nat}(h:AddI row r c o k)(hk:k<row.length):AddI row r c (o.set k (row.getD k 0+c*r.getD k 0)) (k+1) :=
 ⟨hk,by rw[UL];exact h.len,fun j hj=>by
  rw[oK _ _ _ _ (by rw[h.len];exact hk)];by_cases e:j=k
  ·subst e;rw[H2 rfl]
  ·rw[G2 e];exact h.lo j (by omega),fun j hj=>by
  rw[oK _ _ _ _ (by rw[h.len];exact hk),G2 (by omega)];exact h.hi j (by omega)⟩
theorem AddI.done{row r o:List Int}{c:Int}(h:AddI row r c o row.length)(hl:r.length=row.length):o=gM row c r :=
 (show MixI (fun x a=>x+c*a) row r o row.length from ⟨Iv _,h.len,h.lo⟩).done hl
theorem G8{row r:List Int}{c:Int}(hl:r.length=row.length):(gM row c r).length=row.length:=by
 unfold gM eP;rw[XG,hl,Nat.min_self]
theorem Ol{m:Mx}{q rem i:Nat}{row:List Int}{so:Bool}(hi:i+(rem+1)=m.length)(h:mxg m i i%(q:Int)≠0):mpL m q (rem+1) row so=mpL m q rem (gM row (mpC m q i row) (mxr m i)) (so||decide (mpC m q i row>0)):=by
 conv=>lhs;unfold mpL
 rw[show m.length-(rem+1)=i by omega,H2 h]
theorem Ok{m:Mx}{q rem i:Nat}{row:List Int}{so:Bool}(hi:i+(rem+1)=m.length)(h:mxg m i i%(q:Int)=0)(hz:row.getD i 0%(q:Int)≠0):mpL m q (rem+1) row so=[]:=by
 conv=>lhs;unfold mpL
 rw[show m.length-(rem+1)=i by omega,G2 (fun e=>e h),H2 hz]
theorem Oj{m:Mx}{q rem i:Nat}{row:List Int}{so:Bool}(hi:i+(rem+1)=m.length)(h:mxg m i i%(q:Int)=0)(hz:row.getD i 0%(q:Int)=0):mpL m q (rem+1) row so=(List.range (dL q so)).flatMap fun(c:Nat)=>mpL m q rem (gM row (c:Int) (mxr m i)) (so||decide ((c:Int)>0)):=by
 conv=>lhs;unfold mpL
 rw[show m.length-(rem+1)=i by omega,G2 (fun e=>e h),G2 (fun e=>e hz)]
theorem HU{m:Mx}{q rem:Nat}{row:List Int}{so:Bool}(h:okY m q rem row so=true):dq row=true:=by
 cases rem with
 |zero=>unfold okY at h;exact h
 |succ r=>unfold okY at h;rw[Uw]at h;exact h.1
theorem N5{m:Mx}{q rem i:Nat}{row:List Int}{so:Bool}(hi:i+(rem+1)=m.length)(h:mxg m i i%(q:Int)≠0)(hk:okY m q (rem+1) row so=true):okY m q rem (gM row (mpC m q i row) (mxr m i)) (so||decide (mpC m q i row>0))=true:=by
 unfold okY at hk;rw[show m.length-(rem+1)=i by omega,H2 h,Uw]at hk;exact hk.2
theorem N4{m:Mx}{q rem i:Nat}{row:List Int}{so:Bool}(hi:i+(rem+1)=m.length)(h:mxg m i i%(q:Int)=0)(hz:row.getD i 0%(q:Int)=0)(hk:okY m q (rem+1) row so=true)(c:Nat)(hc:c<dL q so):okY m q rem (gM row (c:Int) (mxr m i)) (so||decide ((c:Int)>0))=true:=by
 unfold okY at hk;rw[show m.length-(rem+1)=i by omega,G2 (fun e=>e h),G2 (fun e=>e hz),Uw]at hk;exact Uo.1 hk.2 c (UW.2 hc)
theorem Rr{m:Mx}{q i:Nat}{row:List Int}(hq:1<=q):0<=mpC m q i row∧mpC m q i row<q:=by
 have h0:(q:Int)≠0:=by omega
 exact⟨UF _ h0,UK _ (by omega)⟩
def oz(g:Nat->List (List Int)):Nat->Nat
 |0=>0
 |c+1=>oz g c+(g c).length
theorem lZ(g:Nat->List (List Int)):∀ n,((List.range n).flatMap g).length=oz g n
 |0=>rfl
 |n+1=>by rw[V7,VF,UB,lZ g n];simp[oz]
theorem uI(g:Nat->List (List Int)):∀ (n c j:Nat) (x:List Int),c<n->(g c)[j]?=some x->((List.range n).flatMap g)[oz g c+j]?=some x
 |0,_,_,_,h,_=>absurd h (Vz _)
 |n+1,c,j,x,h,hx=>by
  have hj:j<(g c).length:=(Uu.1 hx).1;rw[V7,VF];by_cases e:c=n
  ·subst e;rw[US (by rw[lZ];omega),lZ];rw[show oz g c+j-oz g c=j by omega];simpa using hx
  have hi:=uI g n c j x (by omega) hx;have hl:oz g c+j<((List.range n).flatMap g).length:=(Uu.1 hi).1;rw[UQ hl];exact hi
end Go.AM
