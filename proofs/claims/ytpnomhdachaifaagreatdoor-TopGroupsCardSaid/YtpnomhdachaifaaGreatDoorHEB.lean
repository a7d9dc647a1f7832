import Derived.Test.YtpnomhdachaifaaGreatDoorHEA
import Derived.RangeFuncSeq
import Derived.RangeFuncRecord
import Derived.RangeFuncIn
set_option maxRecDepth 100000
set_option maxHeartbeats 1000000
namespace Go.AM
open Go Go.RowKit
def ZOK:List DV->List Value->Prop
 | [],[]=>True
 |d::ds,y::ys=>(∀ h,DRep h d y)∧ZOK ds ys
 |_,_=>False
theorem z_v(x:Value)(k:x.oneCell'=true):∀ h,DRep h (.v x) x:=fun h=>by simp only[DRep];exact⟨trivial,k⟩
theorem dH:∀ h,DRep h (.sl 0 []) (.slice none 0 0):=fun h=>by simp only[DRep];exact⟨none,0,rfl,Iv _,by omega,.inl trivial⟩
theorem bY:∀ h,DRep h (zn 0) (.bool false):=fun h=>by unfold zn;simp only[DRep];exact⟨rfl,rfl⟩
theorem bZ:∀ h,DRep h (zm 0) (.slice none 0 0):=dH
theorem ZOK.reps{h:Hp}:∀ {ds:List DV} {ys:List Value},ZOK ds ys->DReps h ds fun j=>ys[j]?
 | [],[],_=>by simp only[DReps]
 |d::ds,y::ys,k=>by
  simp only[DReps];exact⟨⟨y,rfl,k.1 h⟩,by simpa using ZOK.reps (h:=h) k.2⟩
 | [],_::_,k=>k.elim
 |_::_,[],k=>k.elim
theorem ZOK.len:∀ {ds:List DV} {ys:List Value},ZOK ds ys->ds.length=ys.length
 | [],[],_=>rfl
 |_::_,_::_,k=>by simp[ZOK.len k.2]
 | [],_::_,k=>k.elim
 |_::_,[],k=>k.elim
theorem TyOK.mk'{P:Program}{T:TypeId}{i:TyI}{z:Value}{dd:TypeDesc}(h:(P.info? T).map (fun i=>(i.zero,i.size,i.bytes))=some (some z,i.size,i.bytes))(hu:P.underlying T=some dd)(hs:lR dd i.sh)(hl:i.zero.length=i.size)(hz:ZOK i.zero z.cells.toList):TyOK P T i:=by
 refine⟨?_,dd,hu,hs⟩;cases e:P.info? T with
 |none=>rw[e]at h;cases h
 |some ti =>
  rw[e]at h;simp only[Option.map_some,Option.some.injEq,Prod.mk.injEq]at h;refine⟨ti,rfl,h.2.1,h.2.2,z,h.1,?_,hl,fun hh=>?_⟩
  ·have:=hz.len;simp only[Array.length_toList]at this;omega
  have:=hz.reps (h:=hh);simpa using this
def vg:List (Nat×TyI)->TT
 | [],_=>none
 |(k,i)::l,T=>bif Nat.beq T k then some i else vg l T
def AllT(P:Program):List (Nat×TyI)->Prop
 | []=>True
 |(k,i)::l=>TyOK P k i∧AllT P l
theorem AllT.ok{P:Program}:∀ {l:List (Nat×TyI)},AllT P l->bM P (vg l)
 | [],_,T,i,h=>by cases h
 |(k,j)::l,hl,T,i,h=>by
  simp only[vg]at h;cases e:Nat.beq T k with
  |true =>
   rw[e]at h;simp only[cond_true,Option.some.injEq]at h;subst h;rw[UT e];exact hl.1
  |false=>rw[e]at h;exact AllT.ok hl.2 T i h
theorem aU{P:Program}{N np:Nat}{ops:Array Oper}{draw:Bool}{os:List Oper}{s:St}{acc:List Io}{K:St->Prop}{t:Nat}{b:Bool}(_h:s.regs t=.p (.c (.v (.bool b))))(h1:b=true->RK P N np ops draw os s acc K)(h2:b=false->RK P N np ops draw os s acc K):RK P N np ops draw os s acc K:=by
 cases b with
 |true=>exact h1 rfl
 |false=>exact h2 rfl
theorem yS(v:DV):∀ (off:Nat) (cs:List DV),spl off [v] cs=cs.set off v
 |0,[]=>rfl
 |0,_::cs=>by cases cs <;> rfl
 |_+1,[]=>rfl
 |n+1,c::cs=>by simp[spl,yS v n cs]
section ops
variable {P:Program}{tt:TT}(hT:bM P tt)
variable {dst:Option Nat}{ty:TypeId}{pos:String}{af:Array Edge}{gd:Option (Nat×Bool)}{d:Nat}{ρ:Operand->AV}{own:Own}
variable {T:TypeId}{i:TyI}{x y:Operand}
include hT in
theorem nu{e m n:Nat}{b:Blk}(ht:tt T=some i)(hs:i.sh=.sl e)(hx:ρ x=.vec m)(hb:own m=some b)(hbv:b.vec=true)(hsz:Nat.blt 0 b.sz=true)(hn:n*b.sz=b.cs.length):Eff P ⟨dst,.call ⟨.builtin .len,#[x],#[T]⟩,ty,pos,af,gd⟩ d ρ own (.p (.c (.v (.int .i64 n)))) [] none [m] :=
 aP fun C h r own' a w hrep hrd hw=>by
  have e1:=hrep x (by simp[Op.operands,Call.operands]);rw[hx]at e1;have e1':a.eval x=r m:=e1;have hold:=hw.ow m b ((hrd m (by simp)).trans hb);rw[BlkRep.slE hbv (bL0 hsz)]at hold;obtain⟨ad,l,cap,q1,q2,q3,q4,q5⟩:=hold;have hl:l=n:=U4 (bL0 hsz) (q2.trans hn.symm);subst hl;refine⟨_,?_,lC _ _ _ _⟩;apply eC;simp only[List.map_toArray,List.map_cons,List.map_nil,e1',q1,builtin,Builtin.len_,Sem.run_bind];simp[run_underlying ((hT T i ht).slice hs),goInt]
include hT in
theorem fB{m off:Nat}{b:Blk}{dv:DV}{cs:List DV}(ht:tt T=some i)(hx:ρ x=.loc m off)(hy:ρ y=.p (.c dv))(hb:own m=some b)(hl:i.size=1)(hin:off<b.cs.length)(hcs:b.cs.set off dv=cs) :
  Eff P ⟨dst,.store T x y,ty,pos,af,gd⟩ d ρ own .junk [(m,some ⟨b.vec,usz b,b.e,cs⟩)] none [m] :=
 iI hT ht hx hy hb (by rw[hl];rfl) (by simp only[bv,List.length_cons,List.length_nil];omega) (by rw[<- hcs];exact yS dv off b.cs)
end ops
def wv:List Nat->Nat
 | []=>0
 |x::xs=>x+4294967296*wv xs
def okW(l:List Nat):Prop:=∀ x∈l,x<4294967296
theorem yD:∀ (f m:Nat),m<=f->wv (ie f m)=m
 |0,m,h=>by(have:m=0:=by omega);subst this;rfl
 |f+1,m,h=>by
  simp only[ie];by_cases h0:m=0
  ·simp[h0,wv]
  rw[G2 h0];simp only[wv];rw[yD f (m/4294967296) (by omega)];omega
theorem bE(m:Nat):wv (wl m)=m:=yD m m (Iv _)
theorem yE:∀ (f m:Nat),okW (ie f m)
 |0,m=>by intro x hx;simp[ie]at hx
 |f+1,m=>by
  intro x hx;simp only[ie]at hx;by_cases h0:m=0
  ·simp[h0]at hx
  rw[G2 h0]at hx;rcases Vh.1 hx with hx|hx
  ·omega
  exact yE f _ x hx
theorem bI(m:Nat):okW (wl m):=yE m m
theorem tI:∀ (f m:Nat),m<=f->ie (f+1) m=ie f m
 |0,m,h=>by(have:m=0:=by omega);subst this;rfl
 |f+1,m,h=>by
  by_cases h0:m=0
  ·simp[ie,h0]
  have:=tI f (m/4294967296) (by omega);have e1:ie (f+1+1) m=m%4294967296::ie (f+1) (m/4294967296):=G2 h0;have e2:ie (f+1) m=m%4294967296::ie f (m/4294967296):=G2 h0;rw[e1,e2,this]
theorem Ee:∀ (f m:Nat),m<=f->ie f m=wl m:=by
 intro f m h;obtain⟨k,rfl⟩:=Nat.le.dest h;induction k with
 |zero=>rfl
 |succ k ih=>rw[<- We,tI _ _ (by omega)];exact ih (by omega)
theorem pk:wl 0=[]:=rfl
theorem n6{m:Nat}(h:0<m):wl m=m%4294967296::wl (m/4294967296):=by
 unfold wl;obtain⟨k,rfl⟩:∃ k,m=k+1:=⟨m-1,by omega⟩
 rw[ie,G2 (by omega)]
 congr 1
 exact Ee _ _ (by omega)
theorem IG{x r:Nat}(hx:x<4294967296)(h:0<x+4294967296*r):wl (x+4294967296*r)=x::wl r:=by
 rw[n6 h];rw[show(x+4294967296*r)%4294967296=x by omega,show(x+4294967296*r)/4294967296=r by omega]
theorem gC(l r:List Nat):wv (l++r)=wv l+4294967296^l.length*wv r:=by
 induction l with
 |nil=>simp[wv]
 |cons x l ih =>
  simp only[List.cons_append,wv,ih,List.length_cons,Nat.pow_succ,Nat.mul_add];rw[show 4294967296^l.length*4294967296*wv r=4294967296*(4294967296^l.length*wv r) by
   rw[Va (4294967296^l.length) 4294967296,UV]]
  omega
theorem kg{l:List Nat}(h:okW l):wv l<4294967296^l.length:=by
 induction l with
 |nil=>simp[wv]
 |cons x l ih =>
  have h1:=h x (by simp);have h2:=ih fun y hy=>h y (by simp[hy])
  simp only[wv,List.length_cons,Nat.pow_succ];have:4294967296*(wv l+1)<=4294967296*4294967296^l.length:=UD _ h2;rw[Va (4294967296^l.length)];omega
theorem kO:∀ (l:List Nat),okW l->∃ k,l=wl (wv l)++List.replicate k 0
 | [],_=>⟨0,rfl⟩
 |x::l,h=>by
  obtain⟨k,hk⟩:=kO l fun y hy=>h y (by simp[hy])
  have hx:=h x (by simp);by_cases h0:wv (x::l)=0
  ·simp only[wv]at h0;have hx0:x=0:=by omega
   have hl0:wv l=0:=by omega
   rw[hl0]at hk;refine⟨k+1,?_⟩;simp only[wv,hx0,hl0,pk,List.nil_append,Nat.mul_zero,Nat.add_zero]at hk ⊢;rw[WX,<- hk]
  refine⟨k,?_⟩;simp only[wv]at h0 ⊢;rw[IG hx (by omega),XA,<- hk]
theorem yB{m:Nat}(h:wl m≠[]):(wl m).getLast h≠0:=by
 intro h0;have h1:=kO (wl m) (bI m);have h2:=Wp h;rw[h0]at h2;have h3:wv (wl m).dropLast=m:=by
  have:=bE m;rw[<- h2,gC]at this;simpa[wv]using this
 have h4:okW (wl m).dropLast:=fun x hx=>bI m x (List.dropLast_subset _ hx)
 obtain⟨k,hk⟩:=kO _ h4;rw[h3]at hk;have:=Ur List.length hk;rw[List.length_dropLast,UB]at this;have hp:0<(wl m).length:=WY.2 h;omega
theorem Qm{l:List Nat}(h:okW l)(hl:∀ h:l≠[],l.getLast h≠0):wl (wv l)=l:=by
 obtain⟨k,hk⟩:=kO l h;cases k with
 |zero=>simpa using hk.symm
 |succ k =>
  exfalso;have hne:l≠[]:=by rw[hk];simp
  apply hl hne;have:l.getLast?=some 0:=by rw[hk,List.replicate_succ'];simp[<- List.append_assoc]
  rw[List.getLast?_eq_some_getLast hne]at this;exact Vl this
theorem je(m:Nat):m<4294967296^(wl m).length:=by
 have:=kg (bI m)
 rwa [bE]at this
theorem jf{m k:Nat}(h:m<4294967296^k):(wl m).length<=k:=by
 rcases Ut k (wl m).length with hlt|hge
 ·exfalso;have hne:wl m≠[]:=by intro h0;rw[h0]at hlt;simp at hlt
  have h2:=Wp hne;have h3:=bE m;rw[<- h2,gC]at h3;simp only[List.length_dropLast,wv,Nat.mul_zero,Nat.add_zero]at h3;have h4:=yB hne;have h5:4294967296^k<=4294967296^((wl m).length-1):=UZ (by omega) (by omega);have h6:4294967296^((wl m).length-1)<=4294967296^((wl m).length-1)*(wl m).getLast hne:=Wo _ (by omega);omega
 exact hge
theorem kh{m n:Nat}(h:m<=n):(wl m).length<=(wl n).length:=jf (Wk h (je n))
def W(ws:List Nat):DV:=.sl ws.length (ws.map w32)
def nt(m:Nat):DV:=W (wl m)
theorem Ql(z:Int):zm z=nt z.natAbs:=rfl
def L(n:Nat)(z:Int):Prop:=z.natAbs<2^2^n
theorem L.mono{n m:Nat}{z:Int}(h:L n z)(k:n<=m):L m z:=Vf h (UZ (by omega) (UZ (by omega) k))
theorem n9(n:Nat):2^2^(n+1)=2^2^n*2^2^n:=by rw[<- VQ,Vk];congr 1;omega
theorem Nj(n:Nat):2<=2^2^n:=by
 have h:1<=2^n:=Nat.one_le_two_pow;calc 2=2^1:=rfl
  _<=2^2^n:=UZ (by omega) h
theorem L.mul{n:Nat}{a b:Int}(h:L n a)(k:L n b):L (n+1) (a*b):=by
 unfold L at *;rw[VZ,n9];exact Nat.mul_lt_mul'' h k
theorem L.add{n:Nat}{a b:Int}(h:L n a)(k:L n b):L (n+1) (a+b):=by
 unfold L at *;have h1:=Int.natAbs_add_le a b;have h2:=Nj n;have h3:2*2^2^n<=2^2^n*2^2^n:=Uy _ h2;rw[n9];omega
theorem L.neg{n:Nat}{a:Int}(h:L n a):L n (-a):=by unfold L at *;rwa [Int.natAbs_neg]
theorem L.sub{n:Nat}{a b:Int}(h:L n a)(k:L n b):L (n+1) (a-b):=by rw[Int.sub_eq_add_neg];exact h.add k.neg
theorem L.of_le{n:Nat}{a b:Int}(h:L n b)(k:a.natAbs<=b.natAbs):L n a:=Wk k h
theorem Ed{n:Nat}{z:Int}(h:L (n+5) z):(wl z.natAbs).length<=2^n:=by
 apply jf;unfold L at h;have e:2^2^(n+5)=4294967296^2^n:=by
  rw[show(4294967296:Nat)=2^32 by rfl,<- Nat.pow_mul]
  congr 1
  rw[VQ];omega
 rwa [e]at h
theorem nh{P:Program}{B:Bool}{N np:Nat}{Q:Exit->St->Prop}{s:St}{c:Code}{t n:Nat}{dv:DV}{xs:List DV}(ht:s.regs t=.p (.c dv))(hd:oZ dv=some (n,xs))(h:n<=140737488355328->AWp P B N np c Q s):AWp P B N np c Q s:=by
 intro ro hB C hh r a w hnp hc;have e:=hc.rg t;rw[ht]at e;have e2:=iZ hd e;simp only[DRep]at e2;obtain⟨_,_,_,_,h3,_⟩:=e2;exact h h3 ro hB C hh r a w hnp hc
theorem nR{ws:List Nat}(h:0<ws.length):ws.map w32≠[]:=by
 cases ws with
 |nil=>simp at h
 |cons x l=>simp
theorem jP{ws:List Nat}{n:Nat}(h:n<ws.length):((ws.map w32).drop (n*1))[0]?=some (w32 (ws.getD n 0)):=by
 rw[VC,VK,Wh,UE,Fl h,As,Fl h];rfl
theorem gD{ws:List Nat}{n:Nat}(h:n<ws.length):(ws.map w32)[n*1]?=some (w32 (ws.getD n 0)):=by
 rw[VK,UE,Fl h,As,Fl h];rfl
theorem P8{ws:List Nat}{k:Nat}(h:k<=ws.length):DV.sl k ((ws.map w32).take (k*1))=W (ws.take k):=by
 unfold W;rw[VK,<- List.map_take,Us,Vu h]
theorem okW.take{ws:List Nat}(h:okW ws)(k:Nat):okW (ws.take k):=fun x hx=>h x (List.mem_of_mem_take hx)
theorem okW.drop{ws:List Nat}(h:okW ws)(k:Nat):okW (ws.drop k):=fun x hx=>h x (List.mem_of_mem_drop hx)
theorem okW.getD{ws:List Nat}(h:okW ws)(k:Nat):ws.getD k 0<4294967296:=by
 rw[As];cases e:ws[k]? with
 |none=>simp
 |some x=>exact h x (U8 e)
theorem mF{ws:List Nat}{k:Nat}(h:k<ws.length):ws.take (k+1)=ws.take k++[ws.getD k 0]:=by
 rw[List.take_succ_eq_append_getElem h,As,Fl h];rfl
theorem fM{ws:List Nat}{k:Nat}(h:k<ws.length):ws.drop k=ws.getD k 0::ws.drop (k+1):=by
 rw[Vn h,As,Fl h];rfl
theorem AP{ws:List Nat}(h:0<ws.length):ws=ws.take (ws.length-1)++[ws.getD (ws.length-1) 0]:=by
 have:=mF (ws:=ws) (k:=ws.length-1) (by omega);rw[<- this,VA (by omega)]
theorem vo{ws:List Nat}(h:0<ws.length)(h0:ws.getD (ws.length-1) 0=0):wv (ws.take (ws.length-1))=wv ws:=by
 conv=>rhs;rw[AP h]
 rw[gC,h0];simp[wv]
theorem AD{ws:List Nat}(hok:okW ws)(h0:ws.length=0∨ws.getD (ws.length-1) 0≠0):wl (wv ws)=ws:=by
 apply Qm hok;intro hne hl;have hp:0<ws.length:=WY.2 hne;rcases h0 with h0|h0
 ·omega
 apply h0;rw[List.getLast_eq_getElem]at hl;rw[As,Fl (by omega)];simpa using hl
theorem u9{ws:List Nat}(hok:okW ws)(h0:ws.length=0∨ws.getD (ws.length-1) 0≠0):W ws=nt (wv ws):=by unfold nt;rw[AD hok h0]
theorem Iq(ws:List Nat):(ws.map w32).length=ws.length*1:=by simp
section ops
variable {P:Program}{tt:TT}(hT:bM P tt)
variable {dst:Option Nat}{ty:TypeId}{pos:String}{af:Array Edge}{gd:Option (Nat×Bool)}{d:Nat}{ρ:Operand->AV}{own:Own}
variable {T:TypeId}{i:TyI}{x y:Operand}
include hT in
theorem mf{e:Nat}{j:TyI}{k':IntKind}{hi:Int}{ws:List Nat}{yh:Operand}(ht:tt T=some i)(hs:i.sh=.sl e)(he:tt e=some j)(hj:j.size=1)(hx:ρ x=.p (.c (W ws)))(hh:ρ yh=.p (.c (.v (.int k' hi))))(h0:0<=hi∧hi<=ws.length) :
  Eff P ⟨dst,.slice T x none (some yh) none,ty,pos,af,gd⟩ d ρ own (.p (.c (W (ws.take hi.toNat)))) [] none []:=by
 have:=kP (dst:=dst) (ty:=ty) (pos:=pos) (af:=af) (gd:=gd) (d:=d) (own:=own) hT ht hs he hx rfl hh (by rw[hj];exact Iq ws) h0 rfl;rw[hj,P8 (by omega)]at this;exact this
end ops
theorem ci{a b:Int}(h:(a != b)=false):a=b:=by simpa[bne]using h
theorem cg{a b:Int}(h:(a != b)=true):a≠b:=by simpa[bne]using h
theorem bF{a b:Int}(h:(a==b)=false):a≠b:=by simpa using h
theorem bT{a b:Int}(h:(a==b)=true):a=b:=by simpa using h
theorem dV{b:Bool}(h:(!b)=true):b=false:=by simpa using h
theorem dI{b:Bool}(h:(!b)=false):b=true:=by simpa using h
def WB(e:TypeId)(ws:List Nat):Blk:=⟨true,1,e,ws.map w32⟩
theorem Js(xs:List Nat):∀ (ws:List Nat),xs.length<=ws.length->spl 0 (xs.map w32) (ws.map w32)=(xs++ws.drop xs.length).map w32:=by
 induction xs with
 |nil=>intro ws _;cases ws <;> rfl
 |cons x xs ih =>
  intro ws h;cases ws with
  |nil=>simp at h
  |cons w ws =>
   simp only[List.map_cons,spl,List.length_cons,List.drop_succ_cons,List.cons_append];rw[ih ws (by simpa using h)]
section ops
variable {P:Program}{tt:TT}(hT:bM P tt)
variable {dst:Option Nat}{ty:TypeId}{pos:String}{af:Array Edge}{gd:Option (Nat×Bool)}{d:Nat}{ρ:Operand->AV}{own:Own}
variable {T:TypeId}{i:TyI}{x y:Operand}{e:TypeId}{j:TyI}
include hT in
theorem gH{k k':IntKind}{l:Int}(ht:tt T=some i)(hs:i.sh=.sl e)(he:tt e=some j)(hz:j.zero=[w32 0])(hj:j.size=1)(hjb:Nat.ble j.bytes 4=true)(hx:ρ x=.p (.c (.v (.int k l))))(hy:ρ y=.p (.c (.v (.int k' l))))(h0:0<=l∧l<=70368744177664) :
  Eff P ⟨dst,.makeSlice T x y,ty,pos,af,gd⟩ d ρ own (.vec d) [] (some (WB e (List.replicate l.toNat 0))) []:=by
 have hjb':=bL0 hjb;have hb:(j.bytes:Int)*l<=281474976710656:=by
  have:(j.bytes:Int)*l<=4*l:=UM (by omega) h0.1;omega
 have h:=zo (dst:=dst) (ty:=ty) (pos:=pos) (af:=af) (gd:=gd) (d:=d) (own:=own) hT ht hs he hz hx hy h0.1 (by omega) hb;rw[Fe,hj]at h;unfold WB;rw[List.map_replicate];exact h
include hT in
theorem FD{m:Nat}{ws xs:List Nat}{be:TypeId}(ht:tt T=some i)(hs:i.sh=.sl e)(he:tt e=some j)(hj:j.size=1)(hx:ρ x=.vec m)(hb:own m=some (WB be ws))(hy:ρ y=.p (.c (W xs)))(hfit:xs.length<=ws.length) :
  Eff P ⟨dst,.call ⟨.builtin .copy,#[x,y],#[T,T]⟩,ty,pos,af,gd⟩ d ρ own (.p (.c (.v (.int .i64 xs.length)))) [(m,some (WB be (xs++ws.drop xs.length)))] none [m] :=
 zq (b:=WB be ws) hT ht hs he hx hb rfl hj.symm hy rfl (by rw[hj];exact Iq xs) (by simpa[WB]using hfit) (Js xs ws hfit) (by rw[hj];rfl)
include hT in
theorem kG{m:Nat}{k:IntKind}{n:Int}{ws:List Nat}{be:TypeId}(ht:tt T=some i)(hs:i.sh=.sl e)(he:tt e=some j)(hj:j.size=1)(hx:ρ x=.vec m)(hb:own m=some (WB be ws))(hy:ρ y=.p (.c (.v (.int k n))))(hn:0<=n∧n<ws.length) :
  Eff P ⟨dst,.indexAddr T x y,ty,pos,af,gd⟩ d ρ own (.loc m n.toNat) [] none [m]:=by
 have h:=lB (dst:=dst) (ty:=ty) (pos:=pos) (af:=af) (gd:=gd) (d:=d) hT ht hs he hx hb rfl hj.symm hy ⟨hn.1,by simp only[WB,List.length_map];rw[hj];omega⟩ (by rw[hj];rfl);rw[hj,VK]at h;exact h
include hT in
theorem Fy{m off:Nat}{ws:List Nat}{be:TypeId}(ht:tt T=some i)(hg:i.sh.agg=false)(hx:ρ x=.loc m off)(hb:own m=some (WB be ws))(hn:off<ws.length) :
  Eff P ⟨dst,.load T x,ty,pos,af,gd⟩ d ρ own (.p (.c (w32 (ws.getD off 0)))) [] none [m] :=
 bq hT ht hg hx hb (by
  have:=gD hn;rw[VK]at this;exact this)
include hT in
theorem Cx{m off v:Nat}{ws:List Nat}{be:TypeId}(ht:tt T=some i)(hj:i.size=1)(hx:ρ x=.loc m off)(hy:ρ y=.p (.c (w32 v)))(hb:own m=some (WB be ws))(hn:off<ws.length) :
  Eff P ⟨dst,.store T x y,ty,pos,af,gd⟩ d ρ own .junk [(m,some (WB be (ws.set off v)))] none [m]:=by
 have h:=fB (dst:=dst) (ty:=ty) (pos:=pos) (af:=af) (gd:=gd) (d:=d) (b:=WB be ws) hT ht hx hy hb hj (by simpa[WB]using hn) rfl;have e:(WB be ws).cs.set off (w32 v)=(ws.set off v).map w32:=by simp[WB,List.map_set]
 rw[e]at h;exact h
include hT in
theorem iK{m:Nat}{ws:List Nat}{be:TypeId}(ht:tt T=some i)(hs:i.sh=.sl e)(hx:ρ x=.vec m)(hb:own m=some (WB be ws)):Eff P ⟨dst,.call ⟨.builtin .len,#[x],#[T]⟩,ty,pos,af,gd⟩ d ρ own (.p (.c (.v (.int .i64 (ws.length:Nat))))) [] none [m] :=
 nu hT ht hs hx hb rfl rfl (by simp[WB])
end ops
section ghost
variable {P:Program}{B:Bool}{N np:Nat}{Q:Exit->St->Prop}{s:St}{c:Code}
theorem eE{t m:Nat}{ws:List Nat}{be:TypeId}(ht:s.regs t=.vec m)(hb:s.own m=some (WB be ws))(h:AWp P B N np c Q ⟨upd s.regs t (.p (.c (W ws))),upd s.own m none⟩):AWp P B N np c Q s:=by
 refine fe (n:=ws.length) ht hb rfl (by simp[WB]) (by simp[WB]) ?_;exact h
theorem bR{ι:Type}{x y:Code}(I:ι->St)(F:ι->Prop)(h:AWp P B N np x (kn (fun s'=>∃ i,F i∧Le s' (I i)) Q) s)(k:∀ i,F i->AWp P B N np y Q (I i)):AWp P B N np (.seq x y) Q s:=by
 refine bi (AWp.mono h ?_);intro e s' hq;cases e with
 |normal =>
  obtain⟨i,hF,hle⟩:=hq;exact eh hle (k i hF)
 |_=>exact hq
end ghost
theorem bN(l:List Nat)(k:Nat):wv (l.take (k+1))=wv (l.take k)+4294967296^k*l.getD k 0:=by
 by_cases h:k<l.length
 ·rw[mF h,gC,Us,Vu (by omega)];simp[wv]
 rw[VA (by omega),VA (by omega),As,UU (by omega)];simp
theorem sd{l r:List Nat}:(l++r).getD l.length 0=r.getD 0 0:=by
 rw[As,As,US (Iv _),WE]
theorem JG{l:List Nat}{x v:Nat}{r:List Nat}:(l++x::r).set l.length v=(l++[v])++r:=by
 induction l with
 |nil=>rfl
 |cons a l ih=>simp only[List.cons_append,List.length_cons,List.set_cons_succ,ih]
theorem sE(l:List Nat)(v:Nat):wv (l++[v])=wv l+4294967296^l.length*v:=by rw[gC];simp[wv]
theorem okW.snoc{l:List Nat}(h:okW l){v:Nat}(hv:v<4294967296):okW (l++[v]):=by
 intro x hx;rcases Vi.1 hx with hx|hx
 ·exact h x hx
 simp at hx;omega
theorem okW.app{l r:List Nat}(h:okW l)(k:okW r):okW (l++r):=by
 intro x hx;rcases Vi.1 hx with hx|hx
 ·exact h x hx
 exact k x hx
theorem okW.nil:okW []:=fun x hx=>by simp at hx
theorem okW.rep(n:Nat):okW (List.replicate n 0):=fun x hx=>by
 have:=List.eq_of_mem_replicate hx;omega
theorem rp(n:Nat):wv (List.replicate n 0)=0:=by
 induction n with
 |zero=>rfl
 |succ n ih=>simp[List.replicate_succ,wv,ih]
def n7:IntKind->Bool
 |.u8 | .u16 | .u32 | .u64=>true
 |_=>false
theorem lq{k:IntKind}(hk:n7 k=true)(n:Nat)(h:n<2^k.bits):k.wrap (n:Int)=n:=by
 have hs:k.signed=false:=by cases k <;> first|rfl|cases hk
 unfold IntKind.wrap;simp only[hs,Bool.false_and,Bool.false_eq_true,if_false];rw[Int.emod_eq_of_lt (by omega)];have:((2^k.bits:Nat):Int)=2^k.bits:=by simp
 omega
theorem gr{w n:Nat}(h:n<2^w):(BitVec.ofInt w (n:Int)).toNat=n:=by
 rw[BitVec.ofInt_natCast,BitVec.toNat_ofNat,V0 h]
theorem GZ{k:IntKind}(hk:n7 k=true){m n:Nat}(hm:m<2^k.bits)(hn:n<2^k.bits):bits .and k m n=((m &&& n:Nat):Int):=by
 unfold bits;simp only[BitVec.toNat_and,gr hm,gr hn];exact lq hk _ (Wk Nat.and_le_left hm)
theorem ql{k:IntKind}(hk:n7 k=true){m n:Nat}(hm:m<2^k.bits)(hn:n<2^k.bits):bits .or k m n=((m ||| n:Nat):Int):=by
 unfold bits;simp only[BitVec.toNat_or,gr hm,gr hn];exact lq hk _ (Nat.or_lt_two_pow hm hn)
theorem xQ{k:IntKind}(hk:n7 k=true){m n:Nat}(hm:m<2^k.bits)(hn:n<2^k.bits):bits .xor k m n=((m ^^^ n:Nat):Int):=by
 unfold bits;simp only[BitVec.toNat_xor,gr hm,gr hn];exact lq hk _ (Nat.xor_lt_two_pow hm hn)
section ops
variable {P:Program}
variable {dst:Option Nat}{ty:TypeId}{pos:String}{af:Array Edge}{gd:Option (Nat×Bool)}{d:Nat}{ρ:Operand->AV}{own:Own}
variable {T yT:TypeId}{x y:Operand}{k k':IntKind}{m n:Nat}{c:Int}
theorem pH(hx:ρ x=.p (.c (.v (.int k m))))(hy:ρ y=.p (.c (.v (.int k n))))(hk:n7 k=true)(hm:m<2^k.bits)(hn:n<2^k.bits):Eff P ⟨dst,.binOp .and T x y yT,ty,pos,af,gd⟩ d ρ own (.p (.c (.v (.int k ((m &&& n:Nat):Int))))) [] none [] :=
 N3 hx hy (GZ hk hm hn)
theorem Cy(hx:ρ x=.p (.c (.v (.int k m))))(hy:ρ y=.p (.c (.v (.int k n))))(hk:n7 k=true)(hm:m<2^k.bits)(hn:n<2^k.bits):Eff P ⟨dst,.binOp .or T x y yT,ty,pos,af,gd⟩ d ρ own (.p (.c (.v (.int k ((m ||| n:Nat):Int))))) [] none [] :=
 pE hx hy (ql hk hm hn)
theorem J5(hx:ρ x=.p (.c (.v (.int k m))))(hy:ρ y=.p (.c (.v (.int k n))))(hk:n7 k=true)(hm:m<2^k.bits)(hn:n<2^k.bits):Eff P ⟨dst,.binOp .xor T x y yT,ty,pos,af,gd⟩ d ρ own (.p (.c (.v (.int k ((m ^^^ n:Nat):Int))))) [] none [] :=
 cB hx hy (fun w=>by rw[binOp_xor,intBits_xor,xQ hk hm hn];rfl) rfl
theorem ug(hx:ρ x=.p (.c (.v (.int .u32 m))))(hm:m<4294967296):Eff P ⟨dst,.unOp .xor T x,ty,pos,af,gd⟩ d ρ own (.p (.c (.v (.int .u32 ((4294967295-m:Nat):Int))))) [] none [] :=
 aP fun C h r own' a w hrep _ _=>by
  have h1:=hrep x (by simp[Op.operands]);rw[hx]at h1;refine⟨_,?_,lC _ _ _ _⟩;have e:bits .xor .u32 (4294967295:Nat) (m:Nat)=((4294967295-m:Nat):Int):=by
   rw[xQ rfl (by decide) hm]
   congr 1
   have:(4294967295:Nat)=2^32-1:=rfl;rw[this,Nat.xor_comm];have h2:m<2^32:=hm;apply Nat.eq_of_testBit_eq;intro i;rw[Nat.testBit_xor,Nat.testBit_two_pow_sub_one,show 2^32-1-m=2^32-(m+1) by omega,Nat.testBit_two_pow_sub_succ h2];by_cases hi:i<32
   ·simp[hi]
   have:m.testBit i=false:=Nat.testBit_lt_two_pow (Vf h2 (UZ (by omega) (by omega)));simp[hi,this]
  have hmx:(if IntKind.u32.signed=true then(-1:Int)else IntKind.u32.max)=((4294967295:Nat):Int):=by decide
  simp only[execOp,bh h1,Op.unary,hmx,intBits_xor,e];rfl
theorem eK{j:Nat}(hx:ρ x=.p (.c (.v (.int k m))))(hy:ρ y=.p (.c (.v (.int k' j))))(hj:j<=k.bits):Eff P ⟨dst,.binOp .shr T x y yT,ty,pos,af,gd⟩ d ρ own (.p (.c (.v (.int k ((m/2^j:Nat):Int))))) [] none [] :=
 N1 hx hy (by omega) (by
  rw[Vq,Vu hj,Int.fdiv_eq_ediv_of_nonneg _ (Int.pow_nonneg (by omega))];simp)
theorem pD{j:Nat}(hx:ρ x=.p (.c (.v (.int k m))))(hy:ρ y=.p (.c (.v (.int k' j))))(hj:j<=k.bits)(hk:n7 k=true):Eff P ⟨dst,.binOp .shl T x y yT,ty,pos,af,gd⟩ d ρ own (.p (.c (.v (.int k ((m*2^j%2^k.bits:Nat):Int))))) [] none [] :=
 rJ hx hy (by omega) (by
  rw[Vq,Vu hj];have hs:k.signed=false:=by cases k <;> first|rfl|cases hk
  unfold IntKind.wrap;simp only[hs,Bool.false_and,Bool.false_eq_true,if_false];simp)
end ops
theorem BC(x y b:Nat)(hx:x<4294967296)(hy:y<4294967296)(hb:b<2) :
  (((4294967295-x) &&& y) ||| ((4294967295-(x ^^^ y)) &&& ((x+8589934592-y-b)%4294967296)))/2^31=if x<y+b then 1 else 0:=by
 have hd:∀ m n:Nat,(m &&& n)/2^31=(m/2^31) &&& (n/2^31):=fun m n=>by
  rw[<- Vw,<- Vw,<- Vw,Nat.shiftRight_and_distrib]
 have ho:∀ m n:Nat,(m ||| n)/2^31=(m/2^31) ||| (n/2^31):=fun m n=>by
  rw[<- Vw,<- Vw,<- Vw,Nat.shiftRight_or_distrib]
 have hxx:∀ m n:Nat,(m ^^^ n)/2^31=(m/2^31) ^^^ (n/2^31):=fun m n=>by
  rw[<- Vw,<- Vw,<- Vw,Nat.shiftRight_xor_distrib]
 have hxy:(x ^^^ y)<4294967296:=Nat.xor_lt_two_pow (n:=32) hx hy;have hX:=hxx x y;rw[ho,hd,hd];generalize hq:x ^^^ y=q at *;have e1:x/2^31=0∨x/2^31=1:=by omega
 have e2:y/2^31=0∨y/2^31=1:=by omega
 generalize hD:(x+8589934592-y-b)%4294967296=D;have e3:D/2^31=0∨D/2^31=1:=by omega
 have e4:(4294967295-x)/2^31=1-x/2^31:=by omega
 have e5:(4294967295-q)/2^31=1-q/2^31:=by omega
 rw[e4,e5,hX];rcases e1 with e1|e1 <;> rcases e2 with e2|e2 <;> rcases e3 with e3|e3 <;> rw[e1,e2,e3] <;> simp <;> omega
theorem jU{m:Nat}(h:m<4294967296):m<2^IntKind.u32.bits:=h
theorem jT{m:Nat}(h:m<18446744073709551616):m<2^IntKind.u64.bits:=h
def aX(a b:Int):Int:=if a<b then -1 else if b<a then 1 else 0
def aV(n:Nat):Nat:=if n=0 then 0 else n.log2+1
theorem gY{n:Nat}:n<2^aV n:=by
 unfold aV;split
 ·subst_vars;exact VR 0
 exact Nat.lt_log2_self
theorem jw{n k:Nat}(h:n<2^k):aV n<=k:=by
 unfold aV;split
 ·omega
 rename_i h0;have:=(Nat.log2_lt h0).2 h;omega
theorem qi{n:Nat}(h:0<n):2^(aV n-1)<=n:=by
 unfold aV;rw[G2 (by omega)];exact Nat.log2_self_le (by omega)
theorem lP{n k:Nat}(h:2^k<=n):aV n=k+aV (n/2^k):=by
 have hp:0<2^k:=VR k;have hq:0<n/2^k:=Nat.div_pos h hp;apply Nat.le_antisymm
 ·apply jw;rw[VQ,Va];exact(Vp hp).1 gY
 have h1:=qi hq;have h2:2^(k+(aV (n/2^k)-1))<=n:=by
  rw[VQ];calc 2^k*2^(aV (n/2^k)-1)<=2^k*(n/2^k):=UD _ h1
   _<=n:=Nat.mul_div_le n _
 have h3:2^(k+(aV (n/2^k)-1))<2^aV n:=Wk h2 gY;have h4:=(Nat.pow_lt_pow_iff_right (by omega:1<2)).1 h3;have h5:0<aV (n/2^k):=by
  rcases UI (aV (n/2^k))with h0|h0
  ·have:=gY (n:=n/2^k);rw[h0]at this;omega
  exact h0
 omega
theorem zj{hi lo:Nat}(h1:hi<4294967296)(h2:lo<4294967296):(hi*2^32%2^IntKind.u64.bits ||| lo)=hi*4294967296+lo:=by
 have e:hi*2^32%2^IntKind.u64.bits=2^32*hi:=by
  show hi*2^32%2^64=_;omega
 rw[e,<- Xh (i:=32) (by omega)];omega
section ops
variable {P:Program}{tt:TT}(hT:bM P tt)
variable {dst:Option Nat}{ty:TypeId}{pos:String}{af:Array Edge}{gd:Option (Nat×Bool)}{d:Nat}{ρ:Operand->AV}{own:Own}
variable {T:TypeId}{i:TyI}{x y:Operand}
theorem TyOK.str(h:TyOK P T i)(hs:i.sh=.str):P.underlying T=some .string:=by
 obtain⟨d,h1,h2⟩:=h.und;rw[hs]at h2;rw[h1];cases d <;> simp only[lR]at h2 <;> simp_all
include hT in
theorem wn{k:IntKind}{n:Int}{s:ByteArray}{b:UInt8}(ht:tt T=some i)(hs:i.sh=.str)(hx:ρ x=.p (.c (.v (.string s))))(hy:ρ y=.p (.c (.v (.int k n))))(hn:0<=n)(hb:s[n.toNat]?=some b) :
  Eff P ⟨dst,.index T x y,ty,pos,af,gd⟩ d ρ own (.p (.c (.v (.int .u8 b.toNat)))) [] none [] :=
 aP fun C h r own' a w hrep hrd hw=>by
  have e1:=hrep x (by simp[Op.operands]);have e2:=hrep y (by simp[Op.operands]);rw[hx]at e1;rw[hy]at e2;refine⟨_,?_,lC _ _ _ _⟩;simp only[execOp,bh e1,bh e2,Instr.index,asIntOf,Sem.run_bind,Sem.run_pure,Result.andThen_ok,run_underlying ((hT T i ht).str hs),hn,if_true,hb]
end ops
theorem oX{hi lo:Nat}(h1:hi<4294967296)(h2:lo<4294967296):bits .or .u64 ((hi*2^32%2^IntKind.u64.bits:Nat):Int) (lo:Int)=((hi*4294967296+lo:Nat):Int):=by
 have h3:hi*2^32%2^IntKind.u64.bits<2^IntKind.u64.bits:=Vc _ (VR _);rw[ql (k:=.u64) rfl h3 (jT (by omega)),zj h1 h2]
theorem eo{m:Nat}(h:m<18446744073709551616):IntKind.u64.wrap (m:Int)=m:=lq rfl m (jT h)
theorem sG{m:Nat}(h:m<4294967296):IntKind.u32.wrap (m:Int)=m:=lq rfl m (jU h)
theorem am{k:IntKind}{m n:Int}(h:m=n):Sub (.p (.c (.v (.int k m)))) (.p (.c (.v (.int k n)))):=ao (by rw[h])
theorem bn{m n:Bool}(h:m=n):Sub (.p (.c (.v (.bool m)))) (.p (.c (.v (.bool n)))):=ao (by rw[h])
theorem bl{m:Nat}(h:m<256):aV m<=8:=jw (k:=8) h
end Go.AM
section
namespace Go.AM
open Go Go.RowKit
theorem fN(l:List Nat)(i:Nat)(h:i<=l.length):wv l=wv (l.take i)+4294967296^i*wv (l.drop i):=by
 conv=>lhs;rw[<- Wi i l]
 rw[gC,Us,Vu h]
theorem Al{a b:Int}(h:aX a b≠0):(a<b∧aX a b=-1)∨(b<a∧aX a b=1):=by
 unfold aX at *;by_cases h1:a<b
 ·rw[H2 h1]at *;exact .inl ⟨h1,rfl⟩
 rw[G2 h1]at *;by_cases h2:b<a
 ·rw[H2 h2]at *;exact .inr ⟨h2,rfl⟩
 rw[G2 h2]at h;exact absurd rfl h
theorem tx{a b:Int}(h:aX a b=0):a=b:=by
 unfold aX at h;by_cases h1:a<b
 ·rw[H2 h1]at h;cases h
 rw[G2 h1]at h;by_cases h2:b<a
 ·rw[H2 h2]at h;cases h
 omega
theorem lh{a b:Int}(h:a<b):aX a b=-1:=H2 h
theorem li{a b:Int}(h:b<a):aX a b=1:=by unfold aX;rw[G2 (by omega),H2 h]
theorem l8(a:Int):aX a a=0:=by unfold aX;rw[G2 (by omega),G2 (by omega)]
theorem oD{m n:Nat}(h:(wl m).length<(wl n).length):m<n:=by
 rcases Ut m n with h1|h1
 ·exact h1
 have:=kh h1;omega
theorem LC{m n:Nat}(h:aX (wl m).length (wl n).length≠0):aX ((wl m).length:Nat) ((wl n).length:Nat)=aX m n:=by
 rcases Al h with⟨h1,h2⟩|⟨h1,h2⟩
 ·rw[h2,lh];have:=oD (m:=m) (n:=n) (by omega);omega
 rw[h2,li];have:=oD (m:=n) (n:=m) (by omega);omega
theorem GO{a b:List Nat}(ha:okW a)(hb:okW b)(hl:a.length=b.length){k:Nat}(hk:k<a.length)(he:a.drop (k+1)=b.drop (k+1))(h:aX (a.getD k 0) (b.getD k 0)≠0) :
  aX ((a.getD k 0:Nat):Int) ((b.getD k 0:Nat):Int)=aX (wv a) (wv b):=by
 have e1:=fN a k (by omega);have e2:=fN b k (by omega);rw[fM hk,he]at e1;rw[fM (by omega)]at e2;simp only[wv]at e1 e2;have l1:=kg (ha.take k);have l2:=kg (hb.take k);rw[Us,Vu (by omega)]at l1 l2;generalize a.getD k 0=x at *;generalize b.getD k 0=y at *;generalize wv (b.drop (k+1))=d at *;generalize 4294967296^k=p at *;have key:∀ (u v s t:Nat),s<p->t<p->u<v->s+p*(u+4294967296*d)<t+p*(v+4294967296*d):=by
  intro u v s t hs ht huv;have:p*(u+4294967296*d+1)<=p*(v+4294967296*d):=UD _ (by omega);rw[UN,VK]at this;omega
 rcases Al h with⟨h1,h2⟩|⟨h1,h2⟩
 ·rw[h2,lh];have:=key x y _ _ l1 l2 (by omega);omega
 rw[h2,li];have:=key y x _ _ l2 l1 (by omega);omega
theorem D1{A b l _r:List Nat}{k c:Nat}(_hk:k<A.length)(hl:l.length=k)(hv:wv l+4294967296^k*c=wv (A.take k)+wv (b.take k))(s:Nat)(hs:s=A.getD k 0+b.getD k 0+c) :
  wv (l++[s%4294967296])+4294967296^(k+1)*(s/4294967296)=wv (A.take (k+1))+wv (b.take (k+1)):=by
 rw[sE,hl,bN,bN,Vk];have e:4294967296^k*(s%4294967296)+4294967296^k*4294967296*(s/4294967296)=4294967296^k*s:=by
  rw[UV,<- UN];congr 1;omega
 rw[hs]at e ⊢;simp only[Nat.mul_add]at e ⊢;omega
theorem BY{A b l:List Nat}{k c:Nat}(hl:l.length=k)(hc:c<2)(hA:okW A)(hb:okW b)(hv:wv l+wv (b.take k)=wv (A.take k)+4294967296^k*c) :
  wv (l++[(A.getD k 0+8589934592-b.getD k 0-c)%4294967296])+wv (b.take (k+1))=wv (A.take (k+1))+4294967296^(k+1)*(if A.getD k 0<b.getD k 0+c then 1 else 0):=by
 rw[sE,hl,bN,bN,Vk];have h1:=hA.getD k;have h2:=hb.getD k;generalize A.getD k 0=x at *;generalize b.getD k 0=y at *;generalize 4294967296^k=p at *;by_cases h:x<y+c
 ·rw[H2 h];have e:(x+8589934592-y-c)%4294967296=x+4294967296-y-c:=by omega
  rw[e];have e2:p*(x+4294967296-y-c)+p*y+p*c=p*x+p*4294967296:=by
   rw[<- UN,<- UN,<- UN];congr 1;omega
  omega
 rw[G2 h];have e:(x+8589934592-y-c)%4294967296=x-y-c:=by omega
 rw[e];have e2:p*(x-y-c)+p*y+p*c=p*x:=by
  rw[<- UN,<- UN];congr 1;omega
 omega
end Go.AM
namespace Go.AM
open Go Go.RowKit
section ops
variable {P:Program}{tt:TT}(hT:bM P tt)
variable {dst:Option Nat}{ty:TypeId}{pos:String}{af:Array Edge}{gd:Option (Nat×Bool)}{d:Nat}{ρ:Operand->AV}{own:Own}
variable {T:TypeId}{i:TyI}{x y:Operand}{e:TypeId}{j:TyI}
include hT in
theorem dT{m off v:Nat}{ws:List Nat}{be:TypeId}(ht:tt T=some i)(hg:i.sh.agg=false)(hx:ρ x=.loc m off)(hb:own m=some (WB be ws))(hn:off<ws.length)(hv:ws.getD off 0=v) :
  Eff P ⟨dst,.load T x,ty,pos,af,gd⟩ d ρ own (.p (.c (w32 v))) [] none [m]:=by
 subst hv;exact Fy hT ht hg hx hb hn
include hT in
theorem c8{m off v:Nat}{ws ws':List Nat}{be:TypeId}(ht:tt T=some i)(hj:i.size=1)(hx:ρ x=.loc m off)(hy:ρ y=.p (.c (w32 v)))(hb:own m=some (WB be ws))(hn:off<ws.length)(hs:ws.set off v=ws') :
  Eff P ⟨dst,.store T x y,ty,pos,af,gd⟩ d ρ own .junk [(m,some (WB be ws'))] none [m]:=by
 subst hs;exact Cx hT ht hj hx hy hb hn
include hT in
theorem ou{m:Nat}{ws xs ws':List Nat}{be:TypeId}(ht:tt T=some i)(hs:i.sh=.sl e)(he:tt e=some j)(hj:j.size=1)(hx:ρ x=.vec m)(hb:own m=some (WB be ws))(hy:ρ y=.p (.c (W xs)))(hfit:xs.length<=ws.length)(hw:xs++ws.drop xs.length=ws') :
  Eff P ⟨dst,.call ⟨.builtin .copy,#[x,y],#[T,T]⟩,ty,pos,af,gd⟩ d ρ own (.p (.c (.v (.int .i64 xs.length)))) [(m,some (WB be ws'))] none [m]:=by
 subst hw;exact FD hT ht hs he hj hx hb hy hfit
end ops
theorem Ff(n:Nat):(List.replicate ((n:Int)+1).toNat 0).drop n=[0]:=by
 rw[show((n:Int)+1).toNat=n+1 by omega,XE,show n+1-n=1 by omega];rfl
theorem Fg(n:Nat):(List.replicate ((n:Nat):Int).toNat 0).drop n=[]:=by
 rw[Vq,XE,WE];rfl
theorem th{l:List Nat}{k:Nat}(h:l.length<=k):l.getD k 0=0:=by
 rw[As,UU h];rfl
theorem zD{l A:List Nat}(h:l.length<A.length):(l++A.drop l.length).getD l.length 0=A.getD l.length 0:=by
 rw[sd,fM h];rfl
theorem zB{l A:List Nat}{v:Nat}(h:l.length<A.length):(l++A.drop l.length).set l.length v=(l++[v])++A.drop (l++[v]).length:=by
 rw[fM h,JG];simp
theorem zC{l A:List Nat}(h:l.length<=A.length):(l++A.drop l.length).length=A.length:=by simp;omega
end Go.AM
namespace Go.AM
open Go Go.RowKit
theorem D2{a b l:List Nat}{c:Nat}(hl:l.length=(a++[0]).length)(hab:b.length<=a.length)(ha:okW a)(hb:okW b)(_ho:okW l)(hv:wv l+4294967296^l.length*c=wv ((a++[0]).take l.length)+wv (b.take l.length)):wv (l++(a++[0]).drop l.length)=wv a+wv b:=by
 rw[hl,XB,VD];rw[hl,Vm,VA (by simp;omega),sE]at hv;simp only[Nat.mul_zero,Nat.add_zero,List.length_append,List.length_cons,List.length_nil,Nat.zero_add,Nat.pow_succ]at hv;have h1:=kg ha;have h2:=kg hb;have h3:4294967296^b.length<=4294967296^a.length:=UZ (by omega) hab;generalize 4294967296^a.length=p at *;generalize 4294967296^b.length=q at *;rcases UI c with h0|h0
 ·rw[h0,Ws]at hv;omega
 have h4:p*4294967296<=p*4294967296*c:=Wo _ h0;generalize p*4294967296*c=t at *;omega
end Go.AM
namespace Go.AM
open Go Go.RowKit
theorem BZ{a b l:List Nat}{c:Nat}(hl:l.length=a.length)(hab:b.length<=a.length)(hle:wv b<=wv a)(ho:okW l)(hv:wv l+wv (b.take l.length)=wv (a.take l.length)+4294967296^l.length*c):wv (l++a.drop l.length)=wv a-wv b:=by
 rw[hl,XB,VD];rw[hl,Vm,VA hab]at hv;have h1:=kg ho;rw[hl]at h1;generalize 4294967296^a.length=p at *;rcases UI c with h0|h0
 ·subst h0;omega
 have:p*1<=p*c:=UD _ h0;omega
end Go.AM
end
namespace Go.AM
open Go Go.RowKit
theorem kq(o:List Nat)(j v:Nat)(h:j<o.length):wv (o.set j v)+4294967296^j*o.getD j 0=wv o+4294967296^j*v:=by
 induction o generalizing j with
 |nil=>simp at h
 |cons x o ih =>
  cases j with
  |zero=>simp[wv,List.getD_eq_getElem?_getD];omega
  |succ j =>
   have:=ih j (by simpa using h);simp only[List.set_cons_succ,wv,List.getD_eq_getElem?_getD,List.getElem?_cons_succ,Nat.pow_succ]at this ⊢;have e1:4294967296^j*4294967296*o[j]?.getD 0=4294967296*(4294967296^j*o[j]?.getD 0):=by
    rw[Va (4294967296^j) 4294967296,UV]
   have e2:4294967296^j*4294967296*v=4294967296*(4294967296^j*v):=by
    rw[Va (4294967296^j) 4294967296,UV]
   rw[e1,e2];omega
theorem okW.set{o:List Nat}(h:okW o){j v:Nat}(hv:v<4294967296):okW (o.set j v):=by
 intro x hx;rcases List.mem_or_eq_of_mem_set hx with hx|hx
 ·exact h x hx
 omega
theorem iY(o:List Nat)(j v k:Nat)(h:j<o.length):(o.set j v).getD k 0=if j=k then v else o.getD k 0:=by
 rw[As,VH];by_cases e:j=k
 ·rw[H2 e,H2 e,H2 h];rfl
 rw[G2 e,G2 e,As]
theorem qX(n k:Nat):(List.replicate n 0).getD k 0=0:=by
 rw[As,Wq];split <;> rfl
theorem CR{o b:List Nat}{x c S i k t:Nat}(hlen:i+k<o.length)(ht:t=x*b.getD k 0+o.getD (i+k) 0+c)(hv:wv o+4294967296^(i+k)*c=S+4294967296^i*(x*wv (b.take k))) :
  wv (o.set (i+k) (t%4294967296))+4294967296^(i+(k+1))*(t/4294967296)=S+4294967296^i*(x*wv (b.take (k+1))):=by
 have h1:=kq o (i+k) (t%4294967296) hlen;rw[bN,UN,UN,<- We,<- We,<- hv,Vk];have e1:4294967296^i*(x*(4294967296^k*b.getD k 0))=4294967296^(i+k)*(x*b.getD k 0):=by
  rw[VQ,UV];congr 1;exact Vx _ _ _
 rw[e1];generalize o.getD (i+k) 0=y at *;generalize x*b.getD k 0=z at *;generalize 4294967296^(i+k)=p at *;have e2:p*4294967296*(t/4294967296)+p*(t%4294967296)=p*z+p*y+p*c:=by
  rw[UV,<- UN,<- UN,<- UN];congr 1;omega
 omega
theorem CT{o o' a b:List Nat}{i c S:Nat}(hlen:i+b.length<o'.length)(hz:o'.getD (i+b.length) 0=0)(hS:S=wv o)(ho:wv o=wv (a.take i)*wv b)(hv:wv o'+4294967296^(i+b.length)*c=S+4294967296^i*(a.getD i 0*wv (b.take b.length))) :
  wv (o'.set (i+b.length) c)=wv (a.take (i+1))*wv b:=by
 have h1:=kq o' (i+b.length) c hlen;rw[hz,Ws,Wh]at h1;rw[Vm]at hv;rw[h1,hv,hS,ho,bN,Vt,UV]
theorem Cb{o a:List Nat}{n i q s x:Nat}(hn:n=32*q+s)(hs:s<32)(hlen:i+q+1<o.length)(hx:x=a.getD i 0)(hlo:o.getD (i+q) 0<2^s)(hz:o.getD (i+q+1) 0=0)(hv:wv o=wv (a.take i)*2^n) :
  wv ((o.set (i+q) (o.getD (i+q) 0 ||| x*2^s%4294967296)).set (i+q+1) (x*2^s/4294967296))=wv (a.take (i+1))*2^n:=by
 have hB:(4294967296:Nat)=2^s*2^(32-s):=by rw[<- VQ,show s+(32-s)=32 by omega]
 have hor:o.getD (i+q) 0 ||| x*2^s%4294967296=o.getD (i+q) 0+x*2^s%4294967296:=by
  have e:x*2^s%4294967296=2^s*(x%2^(32-s)):=by
   rw[hB,Va x,Nat.mul_mod_mul_left]
  rw[e,Nat.or_comm,<- Xh hlo,Nat.add_comm]
 rw[hor];have h1:=kq o (i+q) (o.getD (i+q) 0+x*2^s%4294967296) (by omega);have h2:=kq (o.set (i+q) (o.getD (i+q) 0+x*2^s%4294967296)) (i+q+1) (x*2^s/4294967296) (by simp;omega);rw[iY _ _ _ _ (by omega),G2 (by omega),hz,Ws,Wh]at h2;rw[bN,Vt,<- hv,<- hx];rw[h2];have e3:4294967296^i*x*2^n=4294967296^(i+q)*(x*2^s):=by
  have:(2:Nat)^n=4294967296^q*2^s:=by rw[hn,VQ,Nat.pow_mul]
  rw[this,VQ,UV,UV];congr 1;exact Vx _ _ _
 rw[e3,Vk];generalize x*2^s=t at *;generalize o.getD (i+q) 0=y at *;generalize 4294967296^(i+q)=p at *;have e4:p*4294967296*(t/4294967296)+p*(t%4294967296)=p*t:=by
  rw[UV,<- UN];congr 1;omega
 rw[UN]at h1;omega
def jQ(a:List Nat)(n i:Nat):Nat:=(a.getD i 0+4294967296*a.getD (i+1) 0)/2^n%4294967296
theorem yY(n:Nat)(hn:n<32):∀ (a:List Nat),okW a->wv ((List.range a.length).map (jQ a n))=wv a/2^n
 | [],_=>by simp[wv]
 |x::l,h=>by
  have ih:=yY n hn l fun y hy=>h y (by simp[hy])
  have hx:=h x (by simp);have hp:0<2^n:=VR n;have hB:(4294967296:Nat)=2^n*2^(32-n):=by rw[<- VQ,show n+(32-n)=32 by omega]
  have e0:(List.range (x::l).length).map (jQ (x::l) n)=jQ (x::l) n 0::(List.range l.length).map (jQ l n):=by
   rw[U5,List.range_succ_eq_map,WF,VS]
   congr 1
  rw[e0];simp only[wv];rw[ih];have hl:∃ M,wv l=l.getD 0 0+4294967296*M:=by
   cases l with
   |nil=>exact⟨0,by simp[wv]⟩
   |cons y r=>exact⟨wv r,by simp[wv]⟩
  obtain⟨M,hM⟩:=hl;have hs:jQ (x::l) n 0=(x+4294967296*l.getD 0 0)/2^n%4294967296:=by
   unfold jQ;simp[List.getD_eq_getElem?_getD]
  rw[hs,hM];generalize l.getD 0 0=y;generalize hu:(2:Nat)^n=u at *;generalize hw:(2:Nat)^(32-n)=w at *;have hwp:0<w:=by rw[<- hw];exact VR _
  have d1:∀ X Y:Nat,(X+4294967296*Y)/u=X/u+w*Y:=fun X Y=>by
   rw[hB,UV,Nat.add_mul_div_left _ _ hp]
  have hxu:x/u<w:=by
   rw[Vp hp,Va,<- hB];exact hx
  rw[d1 x y,d1 x (y+4294967296*M),d1 y M];have hy:y=u*(y/u)+y%u:=(Wv y u).symm;have hyu:y%u<u:=Vc _ hp;have e1:w*y=4294967296*(y/u)+w*(y%u):=by
   conv=>lhs;rw[hy]
   rw[UN,hB,Va u w,UV]
  have e2:w*(y%u)+w<=4294967296:=by
   rw[hB,Va u w,<- WU];exact UD _ hyu
  have e3:(x/u+w*y)%4294967296=x/u+w*(y%u):=by
   rw[e1,show x/u+(4294967296*(y/u)+w*(y%u))=x/u+w*(y%u)+4294967296*(y/u) by omega,Nat.add_mul_mod_self_left];exact V0 (by omega)
  rw[e3,UN 4294967296,UN w y,e1];have e4:w*(4294967296*M)=4294967296*(w*M):=Vx _ _ _;omega
theorem xy{o:List Nat}{j v:Nat}(h:j<o.length):(o.set j v).drop j=v::o.drop (j+1):=by
 have h2:j<(o.set j v).length:=by simpa using h
 rw[Vn h2,List.getElem_set_self,XF (by omega)]
theorem Bx{a o:List Nat}{k r d:Nat}(hk:k<a.length)(ho:o.length=a.length)(hv:wv (a.drop (k+1))=d*wv (o.drop (k+1))+r)(_hd:0<d) :
  wv (a.drop k)=d*wv ((o.set k ((r*4294967296+a.getD k 0)/d)).drop k)+(r*4294967296+a.getD k 0)%d:=by
 rw[fM hk,xy (by omega)];simp only[wv];rw[hv];have e:=Wv (r*4294967296+a.getD k 0) d;generalize (r*4294967296+a.getD k 0)/d=q at *;generalize (r*4294967296+a.getD k 0)%d=m at *;rw[UN d q,Vx d 4294967296];omega
theorem Cc{x s:Nat}(hx:x<4294967296)(hs:s<32):x*2^s/4294967296<4294967296:=by
 rw[Vp (by omega)];have h1:2^s<=2^32:=UZ (by omega) (by omega);calc x*2^s<=x*2^32:=UD _ h1
  _<4294967296*4294967296:=by omega
theorem QC{x s:Nat}(hx:x<4294967296)(hs:s<32):IntKind.u64.wrap ((x:Int)*2^(min ((s:Nat):Int).toNat IntKind.u64.bits))=((x*2^s:Nat):Int):=by
 have h1:min ((s:Nat):Int).toNat IntKind.u64.bits=s:=by rw[Vq];exact Vu (by show s<=64;omega)
 rw[h1];have h2:=Cc hx hs;have h3:x*2^s<18446744073709551616:=by
  rw[Vp (by omega)]at h2;omega
 have e:(x:Int)*2^s=((x*2^s:Nat):Int):=by simp
 rw[e,eo h3]
theorem DT{hi lo:Nat}(h1:lo<4294967296)(h2:hi<4294967296):bits .or .u64 (lo:Int) ((hi*2^32%2^IntKind.u64.bits:Nat):Int)=((lo+4294967296*hi:Nat):Int):=by
 have h3:hi*2^32%2^IntKind.u64.bits<2^IntKind.u64.bits:=Vc _ (VR _);rw[ql (k:=.u64) rfl (jT (by omega)) h3,Nat.or_comm,zj h2 h1]
 congr 1;omega
theorem Nz(a:List Nat)(k:Nat):okW ((List.range a.length).map (jQ a k)):=by
 intro x hx;obtain⟨j,_,rfl⟩:=UO.1 hx;exact Vc _ (by omega)
theorem JA{a o:List Nat}{k:Nat}(hv:∀ j,j<a.length->o.getD j 0=jQ a k j)(hl:o.length=a.length):o=(List.range a.length).map (jQ a k):=by
 apply List.ext_getElem
 ·simp[hl]
 intro j h1 h2;have:=hv j (by omega);rw[As,Fl h1]at this;simpa using this
section ops
variable {P:Program}{tt:TT}(hT:bM P tt)
variable {dst:Option Nat}{ty:TypeId}{pos:String}{af:Array Edge}{gd:Option (Nat×Bool)}{d:Nat}{ρ:Operand->AV}{own:Own}
variable {T:TypeId}{i:TyI}{x y:Operand}{e:TypeId}{j:TyI}
include hT in
theorem gq{k:IntKind}{n:Nat}{ws:List Nat}(ht:tt T=some i)(hs:i.sh=.sl e)(he:tt e=some j)(hj:j.size=1)(hx:ρ x=.p (.c (W ws)))(hy:ρ y=.p (.c (.v (.int k (n:Nat)))))(hn:n<ws.length) :
  Eff P ⟨dst,.indexAddr T x y,ty,pos,af,gd⟩ d ρ own (.ip ((ws.map w32).drop (n*1))) [] none []:=by
 have h:=b8 (dst:=dst) (ty:=ty) (pos:=pos) (af:=af) (gd:=gd) (d:=d) (own:=own) hT ht hs he hx rfl hy (by omega) (nR (by omega));rw[hj,Vq]at h;exact h
include hT in
theorem mQ{m:Nat}{k:IntKind}{n:Nat}{ws:List Nat}{be:TypeId}(ht:tt T=some i)(hs:i.sh=.sl e)(he:tt e=some j)(hj:j.size=1)(hx:ρ x=.vec m)(hb:own m=some (WB be ws))(hy:ρ y=.p (.c (.v (.int k (n:Nat)))))(hn:n<ws.length) :
  Eff P ⟨dst,.indexAddr T x y,ty,pos,af,gd⟩ d ρ own (.loc m n) [] none [m]:=by
 have h:=kG (dst:=dst) (ty:=ty) (pos:=pos) (af:=af) (gd:=gd) (d:=d) hT ht hs he hj hx hb hy (by omega);rw[Vq]at h;exact h
end ops
def sg(neg:Bool)(m:Nat):Int:=if neg then -(m:Int)else m
section zip
variable {P:Program}{N np:Nat}{ops:Array Oper}{draw:Bool}{os:List Oper}{s:St}{acc:List Io}{K:St->Prop}
variable {op:Op}{ty:TypeId}{pos:String}{af:Array Edge}{t:Nat}
theorem ae{v:AV}{rd:List Nat}(he:Eff P ⟨some t,op,ty,pos,af,none⟩ t (ev s.regs) s.own v [] none rd)(hr:RK P N np ops draw os ⟨upd s.regs t v,s.own⟩ (acc++[⟨men v++[],[],rd,false⟩]) K):RK P N np ops draw (⟨some t,op,ty,pos,af,none⟩::os) s acc K:=an ag he hr
theorem jd{x:Operand}{v:DV}(hx:ev s.regs x=AV.p (.c v))(hr:RK P N np ops draw os ⟨upd s.regs t (.p (.c v)),s.own⟩ (acc++[⟨men (.p (.c v))++[],[],[],false⟩]) K):RK P N np ops draw (⟨some t,.move x,ty,pos,af,none⟩::os) s acc K:=an ag (aK hx) hr
theorem sA{x:Operand}{v:DV}(hx:ev s.regs x=AV.p (.c v))(hr:RK P N np ops draw os ⟨upd s.regs t (.p (.c v)),s.own⟩ (acc++[⟨men (.p (.c v))++[],[],[],false⟩]) K):RK P N np ops draw (⟨some t,.assign x,ty,pos,af,none⟩::os) s acc K:=an ag (bW hx) hr
theorem rm(hK:K s)(h:(BB np (dA ops.toList) (fy ops ops.toList acc)&&(!draw||xM ops.toList (fy ops ops.toList acc))&&BA N ops.toList)=true:=by kernel_rfl) :
  RK P N np ops draw [] s acc K:=RK.done h hK
section
variable {tt:TT}(hT:bM P tt){T:TypeId}{i:TyI}{x y:Operand}{m off:Nat}{b:Blk}{rest:List DV}
include hT
theorem SF{c1 c2:DV}(ht:tt T=some i)(hg:i.sh.agg=true)(hx:ev s.regs x=.loc m off)(hb:s.own m=some b)(hcs:b.cs.drop off=[c1,c2]++rest)(hl:[c1,c2].length=i.size)(hr:RK P N np ops draw os ⟨upd s.regs t (.p (.a [c1,c2])),s.own⟩ (acc++[⟨men (.p (.a [c1,c2]))++[],[],[m],false⟩]) K):RK P N np ops draw (⟨some t,.load T x,ty,pos,af,none⟩::os) s acc K :=
 an ag (aN hT ht hg hx hb hcs hl) hr
theorem SE{c1 c2 c3 c4 c5 c6:DV}(ht:tt T=some i)(hg:i.sh.agg=true)(hx:ev s.regs x=.loc m off)(hb:s.own m=some b)(hcs:b.cs.drop off=[c1,c2,c3,c4,c5,c6]++rest)(hl:[c1,c2,c3,c4,c5,c6].length=i.size)(hr:RK P N np ops draw os ⟨upd s.regs t (.p (.a [c1,c2,c3,c4,c5,c6])),s.own⟩ (acc++[⟨men (.p (.a [c1,c2,c3,c4,c5,c6]))++[],[],[m],false⟩]) K):RK P N np ops draw (⟨some t,.load T x,ty,pos,af,none⟩::os) s acc K :=
 an ag (aN hT ht hg hx hb hcs hl) hr
theorem T8{v:PV}{cs:List DV}(ht:tt T=some i)(hx:ev s.regs x=.loc m off)(hy:ev s.regs y=.p v)(hb:s.own m=some b)(hl:(bv v).length=i.size)(hin:Nat.ble (off+(bv v).length) b.cs.length=true)(hcs:spl off (bv v) b.cs=cs)(hr:RK P N np ops draw os ⟨s.regs,upd s.own m (some ⟨b.vec,usz b,b.e,cs⟩)⟩ (acc++[⟨men .junk++lE [(m,some ⟨b.vec,usz b,b.e,cs⟩)] none,[m],[m],false⟩]) K):RK P N np ops draw (⟨none,.store T x y,ty,pos,af,none⟩::os) s acc K :=
 aZ ag (dO hT ht hx hy hb hl hin hcs) hr
theorem Ua{l:List (Nat×Nat)}{f fo ft:Nat}{j:TyI}(ht:tt T=some i)(hs:i.sh=.st l)(hf:l[f]?=some (fo,ft))(hft:tt ft=some j)(hj:Nat.blt 0 j.size=true)(hx:ev s.regs x=.loc m off)(hr:RK P N np ops draw os ⟨upd s.regs t (.loc m (off+fo)),s.own⟩ (acc++[⟨men (.loc m (off+fo))++[],[],[],false⟩]) K):RK P N np ops draw (⟨some t,.fieldAddr T x f,ty,pos,af,none⟩::os) s acc K :=
 an ag (dU hT ht hs hf hft hj hx) hr
end
theorem aE{B:Bool}{Q:Exit->St->Prop}{id:Nat}{y:Code}(hP:P.follows .mixedOrders=true)(h:RK P N np ops draw ops.toList (bt (dA ops.toList) s) [] (kn (AWp P B N np y Q) Q .normal)):AWp P B N np (.seq (.region id ops draw) y) Q s :=
 bi (bp hP h)
end zip
section zip2
variable {P:Program}{N np:Nat}{ops:Array Oper}{draw:Bool}{os:List Oper}{s:St}{acc:List Io}{K:St->Prop}
variable {op:Op}{ty:TypeId}{pos:String}{af:Array Edge}{t:Nat}
theorem az{v:AV}{rd:List Nat}{j t':Nat}{want c:Bool}(h3:c=want)(he:Eff P ⟨some t,op,ty,pos,af,some (j,want)⟩ t (ev s.regs) s.own v [] none rd)(hr:RK P N np ops draw os ⟨upd s.regs t v,s.own⟩ (acc++[⟨men v++[],[],rd,false⟩]) K)(h1:kL ops j=some t':=by exact rfl)(h2:s.regs t'=.p (.c (.v (.bool c))):=by exact rfl):RK P N np ops draw (⟨some t,op,ty,pos,af,some (j,want)⟩::os) s acc K:=an (aw h1 h2 h3) he hr
theorem BH{j t':Nat}{want c:Bool}(h3:c = !want)(hr:RK P N np ops draw os ⟨upd s.regs t (.t []),s.own⟩ (acc++[⟨[],[],[],false⟩]) K)(h1:kL ops j=some t':=by exact rfl)(h2:s.regs t'=.p (.c (.v (.bool c))):=by exact rfl):RK P N np ops draw (⟨some t,op,ty,pos,af,some (j,want)⟩::os) s acc K:=nc (jX h1 h2 h3) hr
theorem Is{j t':Nat}{want:Bool}(hr:RK P N np ops draw os ⟨upd s.regs t (.t []),s.own⟩ (acc++[⟨[],[],[],false⟩]) K)(h1:kL ops j=some t':=by exact rfl)(h2:s.regs t'=.t []:=by exact rfl):RK P N np ops draw (⟨some t,op,ty,pos,af,some (j,want)⟩::os) s acc K:=nc (Gl h1 h2) hr
theorem T9{tt:TT}(hT:bM P tt){T:TypeId}{i:TyI}{x:Operand}{m off:Nat}{b:Blk}{dv:DV}(ht:tt T=some i)(hg:i.sh.agg=false)(hx:ev s.regs x=.loc m off)(hb:s.own m=some b)(hr:RK P N np ops draw os ⟨upd s.regs t (.p (.c dv)),s.own⟩ (acc++[⟨men (.p (.c dv))++[],[],[m],false⟩]) K)(hcs:b.cs[off]?=some dv:=by first|rfl|exact gD (by omega)):RK P N np ops draw (⟨some t,.load T x,ty,pos,af,none⟩::os) s acc K :=
  an ag (bq hT ht hg hx hb hcs) hr
theorem aF{x y:Operand}{T yT:TypeId}{k:IntKind}{m n c:Int}(hx:ev s.regs x=.p (.c (.v (.int k m))))(hy:ev s.regs y=.p (.c (.v (.int k n))))(hr:RK P N np ops draw os ⟨upd s.regs t (.p (.c (.v (.int k c)))),s.own⟩ (acc++[⟨men (.p (.c (.v (.int k c))))++[],[],[],false⟩]) K)(hc:k.wrap (m+n)=c:=by first|exact IntWalk.i64_in _ (by omega)|rfl):RK P N np ops draw (⟨some t,.binOp .add T x y yT,ty,pos,af,none⟩::os) s acc K :=
  an ag (bB hx hy hc) hr
theorem aq{f:FuncId}{fn:Func}{c:Code}{args:List AV}{res:AV}(hf:P.funcs[f]?=some fn)(hb:fn.body=some c)(hN:fn.ntmps=N)(hna:Nat.ble args.length N=true)(hres:men res=[])(h:AWp P false N 0 c (nS P fn res O) ⟨fun t=>args.getD t .junk,O⟩)(hnm:(fn.name == "runtime.NumGoroutine")=false:=by kernel_rfl):CallM P f args O res O :=
  dk (np:=0) hf hnm hb hN (Nat.le_of_ble_eq_true hna) (fun m h=>absurd rfl h) (fun m h=>absurd rfl h) hres h
theorem E1{fn:Func}{t:Nat}{pv:PV}{res:AV}(hres:fn.results=#[.tmp t])(h:s.regs t=.p pv)(hs:Sub (.p pv) res):nS P fn res O .ret s :=
  bK hres (.inr rfl) (a8 h) hs bd
theorem E11{fn:Func}{t u:Nat}{pv pu:PV}{res:AV}(hres:fn.results=#[.tmp t,.tmp u])(h:s.regs t=.p pv)(h2:s.regs u=.p pu)(hs:Sub (.t [pv,pu]) res):nS P fn res O .ret s :=
  b9 hres (.inr rfl) (a8 h) (a8 h2) hs bd
theorem E2{tt:TT}(hT:bM P tt){fn:Func}{t m off:Nat}{T:TypeId}{i:TyI}{b:Blk}{c1 c2:DV}{rest:List DV}{res:AV}(hres:fn.results=#[.cell t T])(ht:tt T=some i)(hg:i.sh.agg=true)(h:s.regs t=.loc m off)(hb:s.own m=some b)(hcs:b.cs.drop off=[c1,c2]++rest)(hl:[c1,c2].length=i.size)(hs:Sub (.p (.a [c1,c2])) res):nS P fn res O .ret s :=
  bK hres (.inr rfl) (aA hT ht hg h hb hcs hl) hs bd
theorem xZ{tt:TT}(hT:bM P tt){T:TypeId}{i:TyI}{x y:Operand}{m off:Nat}{b:Blk}{v:PV}{cs:List DV}(h:(tt T,ev s.regs x,ev s.regs y,s.own m,(bv v).length,Nat.ble (off+(bv v).length) b.cs.length,spl off (bv v) b.cs)=(some i,.loc m off,.p v,some b,i.size,true,cs))(hr:RK P N np ops draw os ⟨s.regs,upd s.own m (some ⟨b.vec,usz b,b.e,cs⟩)⟩ (acc++[⟨men .junk++lE [(m,some ⟨b.vec,usz b,b.e,cs⟩)] none,[m],[m],false⟩]) K):RK P N np ops draw (⟨none,.store T x y,ty,pos,af,none⟩::os) s acc K:=by
  injection h with h1 h;injection h with h2 h;injection h with h3 h;injection h with h4 h;injection h with h5 h;injection h with h6 h7
  exact T8 hT h1 h2 h3 h4 h5 h6 h7 hr
theorem It{tt:TT}(hT:bM P tt){T:TypeId}{i:TyI}{x:Operand}{m off:Nat}{b:Blk}{rest:List DV}{c1 c2:DV}(h:(tt T,i.sh.agg,ev s.regs x,s.own m,b.cs.drop off,[c1,c2].length)=(some i,true,.loc m off,some b,[c1,c2]++rest,i.size))(hr:RK P N np ops draw os ⟨upd s.regs t (.p (.a [c1,c2])),s.own⟩ (acc++[⟨men (.p (.a [c1,c2]))++[],[],[m],false⟩]) K):RK P N np ops draw (⟨some t,.load T x,ty,pos,af,none⟩::os) s acc K:=by
  injection h with h1 h;injection h with h2 h;injection h with h3 h;injection h with h4 h;injection h with h5 h6
  exact SF hT h1 h2 h3 h4 h5 h6 hr
theorem fY{tt:TT}(hT:bM P tt){T:TypeId}{i:TyI}{x:Operand}{m off:Nat}{l:List (Nat×Nat)}{f fo ft:Nat}{j:TyI}(h:(tt T,i.sh,l[f]?,tt ft,Nat.blt 0 j.size,ev s.regs x)=(some i,.st l,some (fo,ft),some j,true,.loc m off))(hr:RK P N np ops draw os ⟨upd s.regs t (.loc m (off+fo)),s.own⟩ (acc++[⟨men (.loc m (off+fo))++[],[],[],false⟩]) K):RK P N np ops draw (⟨some t,.fieldAddr T x f,ty,pos,af,none⟩::os) s acc K:=by
  injection h with h1 h;injection h with h2 h;injection h with h3 h;injection h with h4 h;injection h with h5 h6
  exact Ua hT h1 h2 h3 h4 h5 h6 hr
theorem Qc{tt:TT}(hT:bM P tt){T:TypeId}{i:TyI}{x:Operand}{xs:List DV}{dv:DV}(ht:tt T=some i)(hg:i.sh.agg=false)(hx:ev s.regs x=.ip xs)(hr:RK P N np ops draw os ⟨upd s.regs t (.p (.c dv)),s.own⟩ (acc++[⟨men (.p (.c dv))++[],[],[],false⟩]) K)(hcs:xs[0]?=some dv:=by first|rfl|exact jP (by omega)):RK P N np ops draw (⟨some t,.load T x,ty,pos,af,none⟩::os) s acc K :=
  an ag (aM hT ht hg hx hcs) hr
theorem cO{v:AV}{rd:List Nat}{T:TypeId}{x y:Operand}(hr:RK P N np ops draw os ⟨upd s.regs t v,s.own⟩ (acc++[⟨men v++[],[],rd,false⟩]) K)(he:Eff P ⟨some t,.indexAddr T x y,ty,pos,af,none⟩ t (ev s.regs) s.own v [] none rd:=by first|exact gq hT rfl rfl rfl rfl rfl rfl (by omega)|exact b8 hT rfl rfl rfl rfl rfl rfl (by omega) (by first|exact nR (by omega)|simp)):RK P N np ops draw (⟨some t,.indexAddr T x y,ty,pos,af,none⟩::os) s acc K:=an ag he hr
theorem dE{v:AV}{rd:List Nat}{T:TypeId}{x y:Operand}(hr:RK P N np ops draw os ⟨upd s.regs t v,s.own⟩ (acc++[⟨men v++[],[],rd,false⟩]) K)(he:Eff P ⟨some t,.indexAddr T x y,ty,pos,af,none⟩ t (ev s.regs) s.own v [] none rd:=by first|exact mQ hT rfl rfl rfl rfl rfl rfl rfl (by first|omega|(simp;omega))|exact kG hT rfl rfl rfl rfl rfl rfl rfl (by first|omega|(simp;omega))):RK P N np ops draw (⟨some t,.indexAddr T x y,ty,pos,af,none⟩::os) s acc K:=an ag he hr
end zip2
theorem Pc{g v1 r N B u2 v2:Nat}(hg:g*v1+r=N)(h:r*B+u2<g*v2):N*B+u2<g*(v1*B+v2):=by
 rw[<- hg,Vt,UN,<- UV];omega
theorem Pb{g v1 r N B u2 v2:Nat}(hg:g*v1+r=N)(h:g*v2<=r*B+u2):g*(v1*B+v2)<=N*B+u2:=by
 rw[<- hg,Vt,UN,<- UV];omega
section guess
variable {P V T N u2 v1 v2 vl tl g r:Nat}
theorem O8(hV:V=P*(v1*4294967296+v2)+vl)(hT:T=P*(N*4294967296+u2)+tl)(htl:tl<P)(hu2:u2<4294967296)(hv1:0<v1):T/V<=N/v1:=by
 rw[XS hv1];have h1:T/V*V<=T:=X0 T V;generalize T/V=q at *;have h2:q*(P*(v1*4294967296))<=q*V:=UD _ (by rw[hV,UN];omega);have h3:T<P*((N+1)*4294967296):=by
  have:P*(N*4294967296+u2)+P<=P*((N+1)*4294967296):=by
   rw[<- WU];exact UD _ (by omega)
  omega
 have h4:P*(q*v1*4294967296)<P*((N+1)*4294967296):=by
  have e:P*(q*v1*4294967296)=q*(P*(v1*4294967296)):=by
   rw[UV q v1,Vx]
  omega
 have h5:=VM h4;omega
theorem Pa(hV:V=P*(v1*4294967296+v2)+vl)(hT:T=P*(N*4294967296+u2)+tl)(htl:tl<P)(hg:g*v1+r=N)(h:r*4294967296+u2<g*v2):T/V<g:=by
 have h1:T/V*V<=T:=X0 T V;generalize T/V=q at *;have h2:q*(P*(v1*4294967296+v2))<=q*V:=UD _ (by omega);have h3:P*(q*(v1*4294967296+v2))<P*(N*4294967296+u2+1):=by
  have e:P*(q*(v1*4294967296+v2))=q*(P*(v1*4294967296+v2)):=Vx _ _ _;have e3:P*(N*4294967296+u2+1)=P*(N*4294967296+u2)+P:=WU _ _;omega
 have h5:=VM h3;have h6:N*4294967296+u2<g*(v1*4294967296+v2):=by
  exact Pc hg h
 have h7:q*(v1*4294967296+v2)<g*(v1*4294967296+v2):=by omega
 exact Nat.lt_of_mul_lt_mul_right h7
theorem g_N(hV:V=P*(v1*4294967296+v2)+vl)(hvl:vl<P)(hT:T=P*(N*4294967296+u2)+tl)(hTV:T<4294967296*V):N<=v1*4294967296+v2:=by
 have h1:P*(N*4294967296)<P*(4294967296*(v1*4294967296+v2+1)):=by
  have e:P*(4294967296*(v1*4294967296+v2+1))=4294967296*(P*(v1*4294967296+v2)+P):=by
   rw[Vx,WU]
  have e2:P*(N*4294967296)<=P*(N*4294967296+u2):=UD _ (by omega);omega
 have h2:=VM h1;omega
theorem O9(hV:V=P*(v1*4294967296+v2)+vl)(hvl:vl<P)(hT:T=P*(N*4294967296+u2)+tl)(hv1:2147483648<=v1)(hv2:v2<4294967296)(hN:N<=v1*4294967296+v2)(hg:g*v1+r=N)(h:(g<4294967296∧g*v2<=r*4294967296+u2)∨4294967296<=r):g<4294967296∧g<=T/V+1:=by
 have hgB:g<4294967296:=by
  rcases h with h|h
  ·exact h.1
  rcases Ut g 4294967296 with h1|h1
  ·exact h1
  have:4294967296*v1<=g*v1:=Uy _ h1;omega
 refine⟨hgB,?_⟩;have hle:g*v2<=r*4294967296+u2:=by
  rcases h with h|h
  ·exact h.2
  have h1:g*v2<=4294967296*4294967296:=VJ (by omega) (by omega);have h2:4294967296*4294967296<=r*4294967296:=Uy _ h;omega
 have h6:g*(v1*4294967296+v2)<=N*4294967296+u2:=by
  exact Pb hg hle
 have hPpos:0<P:=by omega
 have hVpos:0<V:=by
  have:0<P*(v1*4294967296+v2):=Nat.mul_pos hPpos (by omega);omega
 have h7:g*V<T+V:=by
  have e1:g*V=P*(g*(v1*4294967296+v2))+g*vl:=by
   rw[hV,UN,Vx]
  have e2:P*(g*(v1*4294967296+v2))<=P*(N*4294967296+u2):=UD _ h6;have e3:g*vl<=g*P:=UD _ (by omega);have e4:g*P<(v1*4294967296+v2)*P:=V4 (by omega) hPpos;have e5:(v1*4294967296+v2)*P=P*(v1*4294967296+v2):=Va _ _;omega
 rcases UI g with h0|h0
 ·subst h0;exact Uv _
 have h8:(g-1)*V<=T:=by
  have:(g-1)*V+V=g*V:=by
   rw[<- WT];congr 1;omega
  omega
 have h9:g-1<=T/V:=(XS hVpos).2 h8;generalize T/V=q at h9 ⊢;omega
end guess
theorem IE(w:List Nat)(k:Nat):wv (w.take (k+3))=4294967296^k*((w.getD (k+2) 0*4294967296+w.getD (k+1) 0)*4294967296+w.getD k 0)+wv (w.take k):=by
 rw[bN,bN,bN,Vk 4294967296 (k+1),Vk 4294967296 k];generalize 4294967296^k=p;generalize w.getD k 0=x;generalize w.getD (k+1) 0=y;generalize w.getD (k+2) 0=z;have e0:p*((z*4294967296+y)*4294967296+x)=p*(z*4294967296*4294967296)+p*(y*4294967296)+p*x:=by
  rw[Vt,UN,UN]
 have e1:p*4294967296*y=p*(y*4294967296):=by rw[UV,Va 4294967296 y]
 have e2:p*4294967296*4294967296*z=p*(z*4294967296*4294967296):=by
  rw[UV,UV,<- UV 4294967296,Va _ z,<- UV z]
 rw[e0,e1,e2];omega
theorem IF(w:List Nat)(k:Nat):wv (w.take (k+2))=4294967296^k*(w.getD (k+1) 0*4294967296+w.getD k 0)+wv (w.take k):=by
 rw[bN,bN,Vk];generalize 4294967296^k=p;generalize w.getD k 0=x;generalize w.getD (k+1) 0=y;have e0:p*(y*4294967296+x)=p*(y*4294967296)+p*x:=UN _ _ _;have e1:p*4294967296*y=p*(y*4294967296):=by rw[UV,Va 4294967296 y]
 rw[e0,e1];omega
theorem oL(w:List Nat)(j k:Nat):(w.drop j).getD k 0=w.getD (j+k) 0:=by
 rw[As,VC,As]
theorem el{w:List Nat}(h:okW w)(k:Nat):wv (w.take k)<4294967296^k:=by
 have h1:=kg (h.take k);refine Vf h1 (UZ (by omega) ?_);rw[Us];exact Nat.min_le_left _ _
structure Dig(v u:List Nat)(k j:Nat):Prop where
 hv:v.length=k+2
 okv:okW v
 top:2147483648<=v.getD (k+1) 0
 oku:okW u
 hu:j+k+2<u.length
 low:wv (u.drop (j+1))<wv v
section dig
variable {v u:List Nat}{k j:Nat}(h:Dig v u k j)
include h
theorem Dig.V:wv v=4294967296^k*(v.getD (k+1) 0*4294967296+v.getD k 0)+wv (v.take k):=by
 have:=IF v k
 rwa [VA (by rw[h.hv];omega)]at this
theorem Dig.vl:wv (v.take k)<4294967296^k:=el h.okv k
theorem Dig.Vlt:wv v<4294967296^(k+2):=by have:=kg h.okv;rwa [h.hv]at this
theorem Dig.T0:wv (u.drop j)=u.getD j 0+4294967296*wv (u.drop (j+1)):=by
 have:=h.hu;rw[fM (k:=j) (by omega)];rfl
theorem Dig.TV:wv (u.drop j)<4294967296*wv v:=by
 have h1:=h.T0;have h2:=h.low;have h3:=h.oku.getD j;have h4:4294967296*(wv (u.drop (j+1))+1)<=4294967296*wv v:=UD _ h2;omega
theorem Dig.high:wv (u.drop (j+k+3))=0:=by
 have h1:=h.TV;have h2:=h.Vlt;have h3:=fN (u.drop j) (k+3) (by rw[W7];have:=h.hu;omega);rw[Xy]at h3;have e:j+(k+3)=j+k+3:=by omega
 rw[e]at h3;rcases UI (wv (u.drop (j+k+3)))with h0|h0
 ·exact h0
 exfalso;have h4:4294967296^(k+3)<=4294967296^(k+3)*wv (u.drop (j+k+3)):=Wo _ h0;have h5:4294967296^(k+3)=4294967296*4294967296^(k+2):=by rw[Vk,Va]
 have h6:4294967296*wv v<=4294967296*4294967296^(k+2):=UD _ (by omega);omega
theorem Dig.T:wv (u.drop j)=4294967296^k*((u.getD (j+k+2) 0*4294967296+u.getD (j+k+1) 0)*4294967296+u.getD (j+k) 0)+wv ((u.drop j).take k):=by
 have h1:=IE (u.drop j) k;rw[oL,oL,oL]at h1;have e:((u.drop j).take (k+3))=(u.drop j).take (k+3):=rfl;have h3:=fN (u.drop j) (k+3) (by rw[W7];have:=h.hu;omega);rw[Xy,show j+(k+3)=j+k+3 by omega,h.high,Ws,Wh]at h3;rw[h3,h1,show j+(k+2)=j+k+2 by omega,show j+(k+1)=j+k+1 by omega]
theorem Dig.tl:wv ((u.drop j).take k)<4294967296^k:=el (h.oku.drop j) k
def du(v u:List Nat)(j:Nat):Nat:=wv (u.drop j)/wv v
theorem Dig.q_lt:du v u j<4294967296:=by
 have hp:0<wv v:=by have:=h.low;omega
 exact(Vp hp).2 h.TV
theorem Dig.init:du v u j<=(u.getD (j+k+2) 0*4294967296+u.getD (j+k+1) 0)/v.getD (k+1) 0 :=
 O8 h.V h.T h.tl (h.oku.getD _) (by have:=h.top;omega)
theorem Dig.N:u.getD (j+k+2) 0*4294967296+u.getD (j+k+1) 0<=v.getD (k+1) 0*4294967296+v.getD k 0:=g_N h.V h.vl h.T h.TV
theorem Dig.dec{g r:Nat}(hg:g*v.getD (k+1) 0+r=u.getD (j+k+2) 0*4294967296+u.getD (j+k+1) 0)(hc:4294967296<=g∨r*4294967296+u.getD (j+k) 0<g*v.getD k 0):du v u j<g:=by
 rcases hc with hc|hc
 ·have:=h.q_lt;omega
 exact Pa h.V h.T h.tl hg hc
theorem Dig.exit{g r:Nat}(hg:g*v.getD (k+1) 0+r=u.getD (j+k+2) 0*4294967296+u.getD (j+k+1) 0)(hc:(g<4294967296∧g*v.getD k 0<=r*4294967296+u.getD (j+k) 0)∨4294967296<=r):g<4294967296∧g<=du v u j+1 :=
 O9 h.V h.vl h.T h.top (h.okv.getD _) h.N hg hc
end dig
theorem Ba{o v:List Nat}{j i g c e S t:Nat}(hlen:j+i<o.length)(ho:okW o)(he:e<2)(ht:t=g*v.getD i 0+c)(hv:wv o+4294967296^j*(g*wv (v.take i))=S+4294967296^(j+i)*(c+e)) :
  wv (o.set (j+i) ((o.getD (j+i) 0+8589934592-t%4294967296-e)%4294967296))+4294967296^j*(g*wv (v.take (i+1)))=S+4294967296^(j+(i+1))*(t/4294967296+(if o.getD (j+i) 0<t%4294967296+e then 1 else 0)):=by
 have h1:=kq o (j+i) ((o.getD (j+i) 0+8589934592-t%4294967296-e)%4294967296) hlen;have h2:=ho.getD (j+i);rw[bN,UN,UN];have e1:4294967296^j*(g*(4294967296^i*v.getD i 0))=4294967296^(j+i)*(g*v.getD i 0):=by
  rw[VQ,UV];congr 1;exact Vx _ _ _
 rw[e1,show j+(i+1)=j+i+1 by omega,Vk];generalize 4294967296^j*(g*wv (v.take i))=A at *;generalize g*v.getD i 0=z at *;generalize o.getD (j+i) 0=y at *;generalize 4294967296^(j+i)=p at *;have ht2:t%4294967296<4294967296:=Vc _ (by omega);have e3:p*4294967296*(t/4294967296)+p*(t%4294967296)=p*z+p*c:=by
  rw[UV,<- UN,<- UN];congr 1;omega
 rw[UN]at hv ⊢;generalize t%4294967296=l at *;generalize p*4294967296*(t/4294967296)=D at *;by_cases hb:y<l+e
 ·rw[H2 hb,VK];have e4:(y+8589934592-l-e)%4294967296=y+4294967296-l-e:=by omega
  rw[e4]at h1 ⊢;have e5:p*(y+4294967296-l-e)+p*l+p*e=p*y+p*4294967296:=by
   rw[<- UN,<- UN,<- UN];congr 1;omega
  omega
 rw[G2 hb,Ws];have e4:(y+8589934592-l-e)%4294967296=y-l-e:=by omega
 rw[e4]at h1 ⊢;have e5:p*(y-l-e)+p*l+p*e=p*y:=by
  rw[<- UN,<- UN];congr 1;omega
 omega
theorem CW{o:List Nat}{p c e A S:Nat}(hlen:p<o.length)(ho:okW o)(hc:c<4294967296)(he:e<2)(hv:wv o+A=S+4294967296^p*(c+e)) :
  wv (o.set p ((o.getD p 0+8589934592-c-e)%4294967296))+A=S+4294967296^(p+1)*(if o.getD p 0<c+e then 1 else 0):=by
 have h1:=kq o p ((o.getD p 0+8589934592-c-e)%4294967296) hlen;have h2:=ho.getD p;rw[Vk];generalize o.getD p 0=y at *;generalize 4294967296^p=w at *;rw[UN]at hv;by_cases hb:y<c+e
 ·rw[H2 hb,VK];have e4:(y+8589934592-c-e)%4294967296=y+4294967296-c-e:=by omega
  rw[e4]at h1 ⊢;have e5:w*(y+4294967296-c-e)+w*c+w*e=w*y+w*4294967296:=by
   rw[<- UN,<- UN,<- UN];congr 1;omega
  omega
 rw[G2 hb,Ws];have e4:(y+8589934592-c-e)%4294967296=y-c-e:=by omega
 rw[e4]at h1 ⊢;have e5:w*(y-c-e)+w*c+w*e=w*y:=by
  rw[<- UN,<- UN];congr 1;omega
 omega
theorem BG{o v:List Nat}{j i c S t:Nat}(hlen:j+i<o.length)(ht:t=o.getD (j+i) 0+v.getD i 0+c)(hv:wv o+4294967296^(j+i)*c=S+4294967296^j*wv (v.take i)) :
  wv (o.set (j+i) (t%4294967296))+4294967296^(j+(i+1))*(t/4294967296)=S+4294967296^j*wv (v.take (i+1)):=by
 have h1:=kq o (j+i) (t%4294967296) hlen;rw[bN,UN,<- UV,<- VQ,show j+(i+1)=j+i+1 by omega,Vk];generalize v.getD i 0=z at *;generalize o.getD (j+i) 0=y at *;generalize 4294967296^(j+i)=p at *;have e3:p*4294967296*(t/4294967296)+p*(t%4294967296)=p*y+p*z+p*c:=by
  rw[UV,<- UN,<- UN,<- UN];congr 1;omega
 omega
theorem py{n:Nat}{w:List Nat}(h:w.length=n+1):wv w=wv (w.take n)+4294967296^n*w.getD n 0:=by
 have:=bN w n
 rwa [VA (by omega)]at this
theorem vw{k n:Nat}(h:(wl k).length=n+1):(wl k).getD n 0≠0:=by
 have h0:wl k≠[]:=by intro e;rw[e]at h;simp at h
 have:=yB h0;rw[List.getLast_eq_getElem]at this;have e:(wl k).getD n 0=(wl k)[(wl k).length-1]'(by omega):=by
  rw[As,Fl (by omega)];simp[h]
 rwa [e]
theorem A8{k n s:Nat}(hn:(wl k).length=n+1)(hs:s=32-aV ((wl k).getD n 0)) :
  (wl (k*2^s)).length=n+1∧2147483648<=(wl (k*2^s)).getD n 0∧s<32∧4294967296^n<=k:=by
 have ht:=vw hn;have ht2:=(bI k).getD n;have hk:=py hn;have hlo:=el (bI k) n;rw[bE]at hk;generalize (wl k).getD n 0=t at *;have b1:=qi (n:=t) (by omega);have b2:=@gY t;have b3:aV t<=32:=jw (k:=32) (by simpa using ht2);have b4:0<aV t:=by
  rcases UI (aV t)with h|h
  ·rw[h]at b2;simp at b2;omega
  exact h
 generalize wv ((wl k).take n)=lo at *;have hs32:s<32:=by omega
 have hk1:4294967296^n<=k:=by
  have:4294967296^n*1<=4294967296^n*t:=UD _ (by omega);rw[VK]at this;generalize 4294967296^n*t=z at *;omega
 have e1:2^aV t*2^s=4294967296:=by rw[<- VQ,hs,show aV t+(32-aV t)=32 by omega]
 have e2:2^(aV t-1)*2^s=2147483648:=by rw[<- VQ,hs,show aV t-1+(32-aV t)=31 by omega]
 have up:k*2^s<4294967296^(n+1):=by
  have h1:k<4294967296^n*2^aV t:=by
   have:4294967296^n*t+4294967296^n<=4294967296^n*2^aV t:=by rw[<- WU];exact UD _ b2
   generalize 4294967296^n*t=z at *;omega
  have h2:=V4 h1 (VR s)
  rwa [UV,e1,<- Vk]at h2
 have low:4294967296^n*2147483648<=k*2^s:=by
  have h1:4294967296^n*2^(aV t-1)<=k:=by
   have:4294967296^n*2^(aV t-1)<=4294967296^n*t:=UD _ b1;generalize 4294967296^n*t=z at *;omega
  have h2:=Uy (2^s) h1
  rwa [UV,e2]at h2
 have l1:=jf up;have l2:=je (k*2^s);have len:(wl (k*2^s)).length=n+1:=by
  rcases Ut (wl (k*2^s)).length (n+1)with h|h
  ·exfalso;have h3:4294967296^(wl (k*2^s)).length<=4294967296^n:=UZ (by decide) (by omega);have h4:4294967296^n*1<=4294967296^n*2147483648:=UD _ (by omega);omega
  omega
 refine⟨len,?_,hs32,hk1⟩;have hv:=py len;have hlo2:=el (bI (k*2^s)) n;rw[bE]at hv;generalize (wl (k*2^s)).getD n 0=x at *;have h5:4294967296^n*2147483648<4294967296^n*(x+1):=by
  rw[show 4294967296^n*(x+1)=4294967296^n*x+4294967296^n from WU _ _];generalize 4294967296^n*x=z at *;omega
 have:=VM h5;omega
theorem JC{m s:Nat}(hs:s<32):(wl (m*2^s)).length<=(wl m).length+1:=by
 apply jf;have h1:=je m;have h2:2^s<=4294967296:=(UZ (by omega) (show s<=32 by omega):2^s<=2^32)
 calc m*2^s<4294967296^(wl m).length*2^s:=V4 h1 (VR s)
  _<=4294967296^(wl m).length*4294967296:=UD _ h2
  _=_:=(Vk ..).symm
theorem DF{m b s n d:Nat}{u:List Nat}(hu:wv u=m*2^s)(hl:u.length=(wl m).length+1)(hb:4294967296^n<=b)(hd:d+n=(wl m).length):wv (u.drop d)<b*2^s:=by
 have h1:=je m;have h2:=fN u d (by omega);have h3:4294967296^d*wv (u.drop d)<4294967296^d*(b*2^s):=by
  have h4:m*2^s<4294967296^(wl m).length*2^s:=V4 h1 (VR s);have h5:4294967296^(wl m).length*2^s<=4294967296^d*(b*2^s):=by
   rw[<- hd,VQ,UV];exact UD _ (Uy _ hb)
  omega
 exact VM h3
theorem Ls{m b s q r:Nat}(h:m*2^s=b*2^s*q+r)(hr:r<b*2^s):m/b=q∧m%b=r/2^s:=by
 have hp:=VR s;have hb:0<b*2^s:=by omega
 have e1:m*2^s/(b*2^s)=q:=by rw[h,Nat.mul_add_div hb,W8 hr,Wh]
 have e2:m*2^s%(b*2^s)=r:=by rw[h,Nat.mul_add_mod,V0 hr]
 rw[Nat.mul_div_mul_right _ _ hp]at e1;rw[Nat.mul_mod_mul_right]at e2;refine⟨e1,?_⟩;rw[<- e2,Nat.mul_div_cancel _ hp]
section dig
variable {v u:List Nat}{k j:Nat}(h:Dig v u k j)
include h
theorem Dig.split:wv u=wv (u.take j)+4294967296^j*wv (u.drop j):=fN u j (by have:=h.hu;omega)
theorem Dig.qV:du v u j*wv v<=wv (u.drop j):=by
 have _:=h.hu;exact X0 _ _
theorem Dig.done{o:List Nat}(hok:okW o)(hl:o.length=u.length)(hv:wv o+4294967296^j*(du v u j*wv v)=wv u):wv (o.drop j)<wv v:=by
 have hp:0<wv v:=by have:=h.low;omega
 have h1:=h.split;have h2:=fN o j (by rw[hl];have:=h.hu;omega);have h3:=el hok j;have h4:=el h.oku j;have h5:wv (u.drop j)=wv v*du v u j+wv (u.drop j)%wv v:=(Wv _ _).symm;have h6:=Vc (wv (u.drop j)) hp;generalize wv (u.drop j)%wv v=r at *;have e:4294967296^j*wv (u.drop j)=4294967296^j*(du v u j*wv v)+4294967296^j*r:=by
  rw[<- UN,Va (du v u j),<- h5]
 have h7:4294967296^j*wv (o.drop j)<4294967296^j*(r+1):=by
  rw[WU];generalize 4294967296^j*(du v u j*wv v)=z at *;generalize 4294967296^j*wv (o.drop j)=y at *;generalize 4294967296^j*wv (u.drop j)=x at *;omega
 have:=VM h7;omega
theorem Dig.good{o:List Nat}{g:Nat}(hq:du v u j<=g)(hv:wv o+4294967296^j*(g*wv v)=wv u):g=du v u j:=by
 have hp:0<wv v:=by have:=h.low;omega
 have h1:=h.split;have h4:=el h.oku j;have h7:4294967296^j*(g*wv v)<4294967296^j*(wv (u.drop j)+1):=by
  rw[WU];generalize 4294967296^j*(g*wv v)=y at *;generalize 4294967296^j*wv (u.drop j)=x at *;omega
 have h8:=VM h7;have:g<=du v u j:=(XS hp).2 (by omega);omega
theorem Dig.small{o:List Nat}(hok:okW o)(hl:o.length=u.length)(hd:o.drop (j+k+3)=u.drop (j+k+3)):wv o<4294967296^(j+k+3):=by
 have h1:=fN o (j+k+3) (by rw[hl];have:=h.hu;omega);rw[hd,h.high,Ws,Wh]at h1;rw[h1];exact el hok _
theorem Dig.bad{o:List Nat}{g:Nat}(hok:okW o)(hl:o.length=u.length)(hd:o.drop (j+k+3)=u.drop (j+k+3))(hq:g<=du v u j+1)(hv:wv o+4294967296^j*(g*wv v)=wv u+4294967296^(j+k+3)):g=du v u j+1:=by
 have h0:=h.small hok hl hd;rcases Ut (du v u j) g with h1|h1
 ·omega
 exfalso;have h2:=h.qV;have h3:g*wv v<=du v u j*wv v:=Uy _ h1;have h4:=h.split;have h5:4294967296^j*(g*wv v)<=4294967296^j*wv (u.drop j):=UD _ (by omega);generalize 4294967296^j*(g*wv v)=y at *;generalize 4294967296^j*wv (u.drop j)=x at *;generalize 4294967296^(j+k+3)=w at *;omega
theorem Dig.back{o o1:List Nat}{g c S:Nat}(hok:okW o)(hl:o.length=u.length)(hd:o.drop (j+k+3)=u.drop (j+k+3))(hg:g=du v u j+1)(hv:S+4294967296^j*(g*wv v)=wv u+4294967296^(j+k+3))(hb:wv o1+4294967296^(j+k+2)*c=S+4294967296^j*wv v)(ho1:okW o1)(hc:c<2)(ho:o=o1.set (j+k+2) ((o1.getD (j+k+2) 0+c)%4294967296))(hl1:o1.length=u.length) :
  wv o+4294967296^j*(du v u j*wv v)=wv u:=by
 have h1:=kq o1 (j+k+2) ((o1.getD (j+k+2) 0+c)%4294967296) (by rw[hl1];have:=h.hu;omega);rw[<- ho]at h1;have h2:=ho1.getD (j+k+2);have h0:=h.small hok hl hd;have h3:=h.qV;have h4:=h.split;have h5:4294967296^j*(du v u j*wv v)<=4294967296^j*wv (u.drop j):=UD _ h3;have e1:4294967296^j*(g*wv v)=4294967296^j*(du v u j*wv v)+4294967296^j*wv v:=by
  rw[hg,WT,UN]
 have e2:4294967296^(j+k+3)=4294967296^(j+k+2)*4294967296:=Vk ..;rw[e1]at hv;generalize o1.getD (j+k+2) 0=y at *;clear e1 h3 hg ho hl hd hok hl1 ho1;generalize 4294967296^j*(du v u j*wv v)=z at *;generalize 4294967296^j*wv (u.drop j)=x at *;generalize 4294967296^j*wv v=zv at *;generalize 4294967296^(j+k+3)=w3 at *;generalize 4294967296^(j+k+2)=w at *;by_cases hov:y+c<4294967296
 ·exfalso;rw[V0 hov,UN]at h1;omega
 have e3:(y+c)%4294967296=0:=by omega
 have e4:y=4294967295∧c=1:=by omega
 rw[e3,e4.1]at h1;rw[e4.2]at hb;subst e2;omega
end dig
theorem DG{V j M g X:Nat}{q:List Nat}(hj:j<q.length)(hM:M=V*(4294967296^(j+1)*wv (q.drop (j+1)))+X){Y:Nat}(hX:Y+4294967296^j*(g*V)=X):M=V*(4294967296^j*wv ((q.set j g).drop j))+Y:=by
 rw[xy hj];show M=V*(4294967296^j*(g+4294967296*wv (q.drop (j+1))))+Y;have e1:4294967296^j*(g*V)=V*(4294967296^j*g):=by rw[Va g,Vx]
 have e2:V*(4294967296^j*(g+4294967296*wv (q.drop (j+1))))=V*(4294967296^j*g)+V*(4294967296^(j+1)*wv (q.drop (j+1))):=by
  rw[Vk,UV (4294967296^j),<- UN,<- UN]
 rw[hM,<- hX,e1,e2];omega
theorem Q5(n:Nat):(4294967296:Nat)^n=2^(32*n):=by rw[Nat.pow_mul]
theorem GY{m n:Nat}(h:(wl m).length=n+1):aV m=32*n+aV ((wl m).getD n 0):=by
 have h1:=py h;have h2:=el (bI m) n;have h3:=vw h;rw[bE]at h1;generalize (wl m).getD n 0=t at *;generalize wv ((wl m).take n)=lo at *;have hp:0<(4294967296:Nat)^n:=Nat.pow_pos (by decide);have h4:m/4294967296^n=t:=by
  rw[h1,Nat.add_mul_div_left _ _ hp,W8 h2,XH]
 have h5:4294967296^n<=m:=by
  have:=UD (4294967296^n) (show 1<=t by omega);rw[VK]at this;omega
 rw[Q5]at h4 h5;rw[lP h5,h4]
theorem Sub.I{w z:Int}(h:w=z):Sub (.p (.a [zn w,zm w])) (I z):=ao (by rw[h])
theorem sF{m:Nat}(h:(wl m).length=0):m=0:=by
 have:=List.length_eq_zero_iff.1 h;rw[<- bE m,this];rfl
theorem y5(b:Bool):sg b 0=0:=by cases b <;> rfl
theorem Hb{b:Bool}{m:Nat}(h:0<m):zn (sg b m)=.v (.bool b):=by
 unfold zn sg;cases b <;> simp <;> omega
theorem Hc(b:Bool)(m:Nat):zm (sg b m)=nt m:=by
 rw[Ql];unfold sg;cases b <;> simp
theorem sz{z:Int}(h:L 45 z):(wl z.natAbs).length<=1099511627776:=Ed (n:=40) h
section add
variable {x y:Int}
theorem G7(h:(decide (x<0)==decide (y<0))=true):sg (decide (x<0)) (wv (wl x.natAbs)+wv (wl y.natAbs))=x+y:=by
 rw[bE,bE];unfold sg;by_cases h1:x<0 <;> by_cases h2:y<0 <;> simp[h1,h2]at h ⊢ <;> omega
theorem P5(h:(decide (x<0)==decide (y<0))=false)(hc:x.natAbs<y.natAbs):sg (decide (y<0)) (wv (wl y.natAbs)-wv (wl x.natAbs))=x+y:=by
 rw[bE,bE];unfold sg;by_cases h1:x<0 <;> by_cases h2:y<0 <;> simp[h1,h2]at h ⊢ <;> omega
theorem P6(h:(decide (x<0)==decide (y<0))=false)(hc:y.natAbs<=x.natAbs):sg (decide (x<0)) (wv (wl x.natAbs)-wv (wl y.natAbs))=x+y:=by
 rw[bE,bE];unfold sg;by_cases h1:x<0 <;> by_cases h2:y<0 <;> simp[h1,h2]at h ⊢ <;> omega
end add
theorem Og(x y:Int):sg (!(decide (x<0)==decide (y<0))) (wv (wl x.natAbs)*wv (wl y.natAbs))=x*y:=by
 rw[bE,bE,<- VZ];unfold sg;by_cases h1:x<0 <;> by_cases h2:y<0 <;> simp only[h1,h2,decide_true,decide_false,beq_self_eq_true,Bool.not_true,if_false,Bool.false_eq_true]
 ·have:=Int.mul_pos_of_neg_of_neg h1 h2;omega
 ·have:x*y<=0:=Wy (by omega) (by omega);show -((x*y).natAbs:Int)=x*y;omega
 ·have:x*y<=0:=Vb (by omega) (by omega);show -((x*y).natAbs:Int)=x*y;omega
 have:0<=x*y:=Vd (by omega) (by omega);omega
theorem Oa(x:Int):sg (!decide (x<0)) (wv (wl x.natAbs))=-x:=by
 rw[bE];unfold sg;by_cases h1:x<0 <;> simp[h1] <;> omega
theorem P7(x:Int):sg false (wv (wl x.natAbs))=(x.natAbs:Int):=by rw[bE];rfl
theorem Pv{m n:Nat}(h:aX (m:Int) (n:Int)<0):m<n:=by
 unfold aX at h;split at h
 ·omega
 split at h <;> omega
theorem Pw{m n:Nat}(h:¬ aX (m:Int) (n:Int)<0):n<=m:=by
 unfold aX at h;split at h
 ·omega
 omega
class LB(z:Int)(n:outParam Nat):Prop where
 le:L n z
theorem lz{z:Int}{n m:Nat}[h:LB z n](k:Nat.ble n m=true:=by rfl):L m z:=h.le.mono (bL0 k)
instance LB.mul{a b:Int}{n m:Nat}[h:LB a n][k:LB b m]:LB (a*b) (max n m+1):=⟨(h.le.mono (X1 _ _)).mul (k.le.mono (XW _ _))⟩
instance LB.add{a b:Int}{n m:Nat}[h:LB a n][k:LB b m]:LB (a+b) (max n m+1):=⟨(h.le.mono (X1 _ _)).add (k.le.mono (XW _ _))⟩
instance LB.sub{a b:Int}{n m:Nat}[h:LB a n][k:LB b m]:LB (a-b) (max n m+1):=⟨(h.le.mono (X1 _ _)).sub (k.le.mono (XW _ _))⟩
instance LB.neg{a:Int}{n:Nat}[h:LB a n]:LB (-a) n:=⟨h.le.neg⟩
theorem L.abs{a:Int}{n:Nat}(h:L n a):L n (a.natAbs:Int):=by unfold L at *;rwa [Wl]
instance LB.abs{a:Int}{n:Nat}[h:LB a n]:LB (a.natAbs:Int) n:=⟨h.le.abs⟩
instance {n:Nat}{z:Int}:Decidable (L n z):=inferInstanceAs (Decidable (_<_))
instance LB.zero:LB 0 0:=⟨by decide⟩
instance LB.one:LB 1 0:=⟨by decide⟩
instance LB.two:LB 2 1:=⟨by decide⟩
instance LB.four:LB 4 2:=⟨by decide⟩
theorem L.ediv{a b:Int}{n:Nat}(h:L n a):L n (a/b):=L.of_le h (Int.natAbs_ediv_le_natAbs a b)
instance LB.ediv{a b:Int}{n:Nat}[h:LB a n]:LB (a/b) n:=⟨h.le.ediv⟩
theorem L.emod{a b:Int}{n m:Nat}(h:L n a)(k:L m b):L (max n m) (a%b):=by
 by_cases hb:b=0
 ·subst hb;rw[Int.emod_zero];exact h.mono (X1 _ _)
 have h1:=UF a hb;have h2:=X2 a hb;exact(L.of_le k (by omega)).mono (XW _ _)
instance LB.emod{a b:Int}{n m:Nat}[h:LB a n][k:LB b m]:LB (a%b) (max n m):=⟨h.le.emod k.le⟩
def sgn(x:Int):Int:=if x=0 then 0 else if x<0 then -1 else 1
theorem SG(x:Int):L 0 (sgn x):=by unfold sgn;split <;> (try split) <;> decide
theorem sg_lt{b:Bool}{m:Nat}:sg b m<0↔b=true∧0<m:=by unfold sg;cases b <;> simp <;> omega
theorem lg{x y q r:Int}(hy:y≠0)(e:x=y*q+r)(h0:0<=r)(h1:r<y.natAbs):x/y=q∧x%y=r:=by
 rcases Int.lt_or_gt_of_ne hy with h|h
 ·exact(Int.ediv_emod_unique' h).2 ⟨by omega,h0,by omega⟩
 exact(Int.ediv_emod_unique h).2 ⟨by omega,h0,by omega⟩
theorem sn{x y:Int}(hy:y≠0)(h:sg (decide (x<0)) (x.natAbs%y.natAbs)<0) :
  sg (!(decide (x<0)==decide (y<0))) (x.natAbs/y.natAbs)-sgn y=x/y∧sg (decide (x<0)) (x.natAbs%y.natAbs)+y.natAbs=x%y:=by
 obtain⟨h1,h2⟩:=sg_lt.1 h;have h1:=dT0 h1;have hn:0<y.natAbs:=by omega
 have e:=Wv x.natAbs y.natAbs;have l:=Vc x.natAbs hn;generalize x.natAbs/y.natAbs=q at *;generalize x.natAbs%y.natAbs=r at *;have e':(x.natAbs:Int)=y.natAbs*q+r:=by exact_mod_cast e.symm
 unfold sg sgn;simp only[h1,decide_true,if_true];by_cases h3:y<0
 ·simp only[h3,decide_true,beq_self_eq_true,Bool.not_true,Bool.false_eq_true,if_false,if_neg hy,if_true];have hyy:(y.natAbs:Int)=-y:=by omega
  rw[hyy]at e' ⊢;have:=lg (x:=x) (y:=y) (q:=q - -1) (r:=-r + -y) hy (by rw[Int.mul_sub,VO,WO];rw[Ww]at e';omega) (by omega) (by omega);exact⟨this.1.symm,this.2.symm⟩
 simp only[h3,decide_false,beq_false,Bool.not_true,Bool.not_false,if_true,if_neg hy,if_false];have hyy:(y.natAbs:Int)=y:=by omega
 rw[hyy]at e' ⊢;have:=lg (x:=x) (y:=y) (q:=-q-1) (r:=-r+y) hy (by rw[Int.mul_sub,VO,WO];omega) (by omega) (by omega);exact⟨this.1.symm,this.2.symm⟩
theorem sk{x y:Int}(hy:y≠0)(h:¬ sg (decide (x<0)) (x.natAbs%y.natAbs)<0) :
  sg (!(decide (x<0)==decide (y<0))) (x.natAbs/y.natAbs)=x/y∧sg (decide (x<0)) (x.natAbs%y.natAbs)=x%y:=by
 have hn:0<y.natAbs:=by omega
 have e:=Wv x.natAbs y.natAbs;have l:=Vc x.natAbs hn;rw[sg_lt]at h;generalize x.natAbs/y.natAbs=q at *;generalize x.natAbs%y.natAbs=r at *;have e':(x.natAbs:Int)=y.natAbs*q+r:=by exact_mod_cast e.symm
 by_cases h1:x<0
 ·have hr:r=0:=by
   rcases UI r with h2|h2
   ·exact h2
   exact absurd ⟨G6 h1,h2⟩ h
  subst hr;by_cases h3:y<0
  ·have hyy:(y.natAbs:Int)=-y:=by omega
   rw[hyy,Ww]at e';have:=lg (x:=x) (y:=y) (q:=q) (r:=0) hy (by omega) (by omega) (by omega);rw[this.1,this.2];simp[sg,h1,h3]
  have hyy:(y.natAbs:Int)=y:=by omega
  rw[hyy]at e';have:=lg (x:=x) (y:=y) (q:=-q) (r:=0) hy (by rw[VO];omega) (by omega) (by omega);rw[this.1,this.2];simp[sg,h1,h3]
 by_cases h3:y<0
 ·have hyy:(y.natAbs:Int)=-y:=by omega
  rw[hyy,Ww]at e';have:=lg (x:=x) (y:=y) (q:=-q) (r:=r) hy (by rw[VO];omega) (by omega) (by omega);rw[this.1,this.2];simp[sg,h1,h3]
 have hyy:(y.natAbs:Int)=y:=by omega
 rw[hyy]at e';have:=lg (x:=x) (y:=y) (q:=q) (r:=r) hy (by omega) (by omega) (by omega);rw[this.1,this.2];simp[sg,h1,h3]
def isq:Nat->Nat
 |0=>0
 |n+1=>if(isq n+1)*(isq n+1)<=n+1 then isq n+1 else isq n
theorem lG(n:Nat):isq n*isq n<=n∧n<(isq n+1)*(isq n+1):=by
 induction n with
 |zero=>simp[isq]
 |succ n ih =>
  obtain⟨h1,h2⟩:=ih;unfold isq;generalize isq n=r at *;have e1:(r+1)*(r+1)=r*r+2*r+1:=by grind
  have e2:(r+1+1)*(r+1+1)=r*r+4*r+4:=by grind
  split
  ·next h=>exact⟨h,by omega⟩
  next h=>exact⟨by omega,by omega⟩
theorem Ga{n r:Nat}(h1:r*r<=n)(h2:n<(r+1)*(r+1)):isq n=r:=by
 obtain⟨g1,g2⟩:=lG n;rcases XP (isq n) r with h|h|h
 ·have:(isq n+1)*(isq n+1)<=r*r:=VJ h h;omega
 ·exact h
 have:(r+1)*(r+1)<=isq n*isq n:=VJ h h;omega
theorem C3{n r:Nat}(h:r*r<=n):r<=isq n:=by
 obtain⟨g1,g2⟩:=lG n;rcases Ut (isq n) r with h1|h1
 ·have:(isq n+1)*(isq n+1)<=r*r:=VJ h1 h1;omega
 exact h1
theorem CO{a s:Nat}(hs:0<s):isq a<=(s+a/s)/2:=by
 have h1:=(lG a).1;have h3:a<s*(a/s+1):=Nat.lt_mul_div_succ a hs;generalize isq a=r at *;generalize a/s=g at *;rcases Ut ((s+g)/2) r with h|h
 ·exfalso;have h2:s+g+1<=2*r:=by omega
  have h4:s*(g+1)<=s*(2*r-s):=UD _ (by omega);have h5:s*(2*r-s)<=r*r:=by
   obtain⟨t,ht⟩:∃ t,2*r=s+t:=⟨2*r-s,by omega⟩
   rw[show 2*r-s=t by omega];have:4*(s*t)<=(s+t)*(s+t):=by
    rcases Nat.le_total s t with h|h
    ·obtain⟨d,rfl⟩:=Nat.le.dest h;grind
    obtain⟨d,rfl⟩:=Nat.le.dest h;grind
   rw[<- ht]at this;have e:2*r*(2*r)=4*(r*r):=by grind
   omega
  omega
 exact h
theorem yg{a s:Nat}(h:isq a<=s)(h2:s<=(s+a/s)/2):isq a=s:=by
 have h3:s<=a/s:=by omega
 have h4:s*s<=a:=by
  have:=UD s h3;have:=Nat.mul_div_le a s;omega
 exact Nat.le_antisymm h (C3 h4)
theorem KQ{a:Nat}(h:0<a):0<isq a:=C3 (r:=1) (by omega)
theorem OM(a:Nat):isq a<=a:=by
 have:=(lG a).1;rcases UI (isq a)with h|h
 ·omega
 have:=Nat.le_mul_of_pos_left (isq a) h;omega
theorem E0(a:Nat):isq a<=2^((aV a+1)/2):=by
 obtain⟨h1,_⟩:=lG a;have h2:=gY (n:=a);rcases Ut (2^((aV a+1)/2)) (isq a)with h|h
 ·exfalso;have h3:=Nat.mul_lt_mul'' h h;rw[<- VQ]at h3;have h4:2^aV a<=2^((aV a+1)/2+(aV a+1)/2):=UZ (by omega) (by omega);omega
 exact h
theorem EZ{a:Nat}(h:0<a):2^((aV a+1)/2)<=2*a:=by
 have h1:=qi h;have h0:0<aV a:=by
  rcases UI (aV a)with e|e
  ·have:=gY (n:=a);rw[e]at this;omega
  exact e
 have h2:2^((aV a+1)/2)<=2^(aV a-1+1):=UZ (by omega) (by omega);rw[Vk]at h2;omega
theorem PR{n:Nat}{z:Int}(h:L n z):aV z.natAbs<=2^n:=jw h
def iC(z:Int):Bool:=decide (0<=z)&&decide (isq z.toNat*isq z.toNat=z.toNat)
section ops
variable {P:Program}
variable {dst:Option Nat}{ty:TypeId}{pos:String}{af:Array Edge}{gd:Option (Nat×Bool)}{d:Nat}{ρ:Operand->AV}{own:Own}
variable {x y:Operand}{k k':IntKind}{m n:Int}{tys:Array TypeId}
theorem Cz(hx:ρ x=.p (.c (.v (.int k m))))(hy:ρ y=.p (.c (.v (.int k' n)))):Eff P ⟨dst,.call ⟨.builtin .max,#[x,y],tys⟩,ty,pos,af,gd⟩ d ρ own (.p (.c (.v (.int k (if n>m then n else m))))) [] none [] :=
 gv (fun C h r own' a w hrep _=>by
  have e1:=hrep x (by simp);have e2:=hrep y (by simp);rw[hx]at e1;rw[hy]at e2;simp[builtin,bh e1,bh e2,run_max_int2]) rfl
end ops
abbrev PI(z:Int):PV:=.a [zn z,zm z]
abbrev PE(e:Int):PV:=.c (.v (.int .i64 e))
abbrev PB(b:Bool):PV:=.c (.v (.bool b))
theorem wl_len_zero{x:Int}:((wl x.natAbs).length:Int)=0↔x=0:=by
 constructor
 ·intro h;have:=sF (m:=x.natAbs) (by omega);omega
 rintro rfl;rfl
theorem pp{x:Int}(h:decide (x<0)=true):sgn x=-1:=by
 have:=dT0 h;unfold sgn;rw[G2 (by omega),H2 this]
theorem JD{x:Int}(h0:x≠0)(h:decide (x<0)=false):sgn x=1:=by
 have:=dF0 h;unfold sgn;rw[G2 h0,G2 this]
theorem GQ{x y:Int}(h:(!(decide (x<0)==decide (y<0)))=true):aX (sgn x) (sgn y)=aX x y:=by
 by_cases h1:x<0 <;> by_cases h2:y<0 <;> simp[h1,h2]at h
 ·rw[pp (G6 h1),lh (a:=x) (by omega),lh];unfold sgn;split <;> (try split) <;> omega
 rw[pp (G6 h2),li (a:=x) (by omega),li];unfold sgn;split <;> (try split) <;> omega
theorem GP{x y:Int}(h:(!(decide (x<0)==decide (y<0)))=false):IntKind.i64.wrap (aX x.natAbs y.natAbs*(if sgn x=0 then 1 else sgn x))=aX x y:=by
 have key:aX x.natAbs y.natAbs*(if sgn x=0 then 1 else sgn x)=aX x y:=by
  by_cases h1:x<0 <;> by_cases h2:y<0 <;> simp[h1,h2]at h
  ·rw[pp (G6 h1)];rcases Int.lt_trichotomy x y with h|h|h
   ·rw[lh h,li (by omega)];rfl
   ·rw[h,l8,l8];rfl
   rw[li h,lh (by omega)];rfl
  have e:(if sgn x=0 then 1 else sgn x)=1:=by
   unfold sgn;by_cases h0:x=0
   ·simp[h0]
   simp[h0,h1]
  rw[e,WO,Int.natAbs_of_nonneg (by omega),Int.natAbs_of_nonneg (by omega)]
 rw[key];unfold aX;split
 ·rfl
 split <;> rfl
theorem n5(n:Int):IntKind.u64.wrap n=n%18446744073709551616:=by simp[IntKind.wrap,IntKind.bits,IntKind.signed]
theorem vn{m:Nat}:wv [m%4294967296,m/2^32]=m:=by
 simp only[wv];omega
theorem sX{m:Nat}(h:m<18446744073709551616):okW [m%4294967296,m/2^32]:=by
 intro x hx;simp only[List.mem_cons,List.not_mem_nil,or_false]at hx;rcases hx with rfl|rfl
 ·omega
 omega
theorem Cd(b:Bool)(m:Nat):(sg b m).natAbs=m:=by unfold sg;split <;> omega
theorem A6{n:Int}:sg (decide (n<0)) n.natAbs=n:=by
 unfold sg;by_cases h:n<0 <;> simp[h] <;> omega
def aH(n:Int):Prop:=-9223372036854775808<=n∧n<9223372036854775808
instance {n:Int}:Decidable (aH n):=inferInstanceAs (Decidable (_∧_))
theorem IH{z:Int}(h:aH z):IntKind.u64.wrap (if IntKind.i64.wrap (0-z)>z then IntKind.i64.wrap (0-z)else z)=(z.natAbs:Nat):=by
 obtain⟨h1,h2⟩:=h;rw[n5,IntKind.wrap_i64];split <;> omega
theorem mD(m:Nat):IntKind.u32.wrap (m:Int)=((m%4294967296:Nat):Int):=by rw[IntKind.wrap_u32];omega
theorem lK(a b:Int):Int.gcd b (a%b)=Int.gcd a b:=by
 rw[show a%b=a-b*(a/b) by have:=Int.emod_def a b;omega,Int.gcd_sub_mul_left_right,XI]
def rootV(x:Int):Int:=if x<0 then 0 else isq x.toNat
def lW(x:Int):Int:=if x<0 then 1 else 0
theorem vK(x:Int):0<=rootV x:=by unfold rootV;split <;> omega
theorem Fb{x:Int}(h:0<=x):rootV x<=x:=by
 unfold rootV;rw[G2 (by omega)];have:=OM x.toNat;omega
theorem L.rootV{x:Int}{n:Nat}(h:L n x):L n (rootV x):=by
 rcases UY x 0 with h1|h1
 ·unfold AM.rootV;rw[H2 h1];exact h.of_le (by omega)
 exact h.of_le (by have:=Fb h1;have:=vK x;omega)
instance LB.rootV{x:Int}{n:Nat}[h:LB x n]:LB (rootV x) n:=⟨h.le.rootV⟩
theorem uz{x:Int}:iC x=(decide (0<=x)&&decide (x-rootV x*rootV x=0)):=by
 unfold iC rootV;by_cases h:x<0
 ·rw[Ix (by omega)];rfl
 rw[G2 h]
 congr 1
 apply decide_eq_decide.2;have e:((isq x.toNat:Nat):Int)*(isq x.toNat:Nat)=((isq x.toNat*isq x.toNat:Nat):Int):=by rw[V5]
 rw[e];omega
theorem DR{m:Nat}(h:aV m=0):m=0:=by
 have:=gY (n:=m);rw[h]at this;omega
theorem nq{x:Int}(h:0<=x):rootV x=(isq x.toNat:Nat):=by unfold rootV;rw[G2 (by omega)]
theorem lv{x:Int}(h:x<0):rootV x=0∧lW x=1:=by unfold rootV lW;rw[H2 h,H2 h];exact⟨rfl,rfl⟩
theorem lw{x:Int}(h:¬ x<0):lW x=0:=by unfold lW;rw[G2 h]
theorem Cf{x:Int}(h:((aV x.natAbs:Nat):Int)=0):x=0:=by
 have:=DR (m:=x.natAbs) (by omega);omega
theorem AU{x:Int}(h:¬ x<0)(h0:((aV x.natAbs:Nat):Int)≠0)(h2:(2:Int) ≥ (aV x.natAbs:Nat)):rootV x=1:=by
 have h3:=gY (n:=x.natAbs);have h4:2^aV x.natAbs<=2^2:=UZ (by omega) (by omega);have h5:x.natAbs≠0:=fun e=>h0 (by rw[e];rfl)
 rw[nq (by omega),Ga (r:=1) (by omega) (by omega)];rfl
theorem AT{x:Int}(h:0<x):0<((2^((aV x.natAbs+1)/2):Nat):Int)∧rootV x<=((2^((aV x.natAbs+1)/2):Nat):Int)∧((2^((aV x.natAbs+1)/2):Nat):Int)<=2*x:=by
 have e:x.natAbs=x.toNat:=by omega
 have h1:=E0 x.toNat;have h2:=EZ (a:=x.toNat) (by omega);have h3:0<2^((aV x.toNat+1)/2):=Nat.pow_pos (by omega);rw[nq (by omega),e];generalize 2^((aV x.toNat+1)/2)=s at *;omega
theorem og{x s:Int}(h:0<x)(hs:0<s):rootV x<=(s*1+x/s)/2∧0<(s*1+x/s)/2:=by
 obtain⟨a,rfl⟩:=WZ (show 0<=x by omega);obtain⟨t,rfl⟩:=WZ (show 0<=s by omega);have h1:=CO (a:=a) (s:=t) (by omega);have h2:=KQ (a:=a) (by omega);rw[nq (by omega),Vq,WO];have e:(((t:Nat):Int)+(a:Nat)/(t:Nat))/2=(((t+a/t)/2:Nat):Int):=by
  rw[WA,WS,WA];rfl
 rw[e];omega
theorem Cg{x s:Int}(h:0<x)(hs:0<s)(h1:rootV x<=s)(h2:s<=(s*1+x/s)/2):rootV x=s:=by
 obtain⟨a,rfl⟩:=WZ (show 0<=x by omega);obtain⟨t,rfl⟩:=WZ (show 0<=s by omega);rw[nq (by omega),Vq]at *;have e:(((t:Nat):Int)*1+(a:Nat)/(t:Nat))/2=(((t+a/t)/2:Nat):Int):=by
  rw[WO,WA,WS,WA];rfl
 rw[e]at h2;have:=yg (a:=a) (s:=t) (by omega) (by omega);omega
theorem yw{a b:Int}(h:aX a b ≥ 0):b<=a:=by
 unfold aX at h;split at h <;> omega
theorem uY{a b:Int}(h:¬ aX a b ≥ 0):a<b:=by
 unfold aX at h;split at h
 ·assumption
 split at h <;> omega
theorem J7:okW [1]:=by intro x hx;simp at hx;omega
theorem NB(k:Nat):sg false (wv [1]*2^k)=((2^k:Nat):Int):=by simp[sg,wv]
theorem SZ(b:Nat)(h:b<=1099511627776):IntKind.i64.wrap (((b:Int)+2-1).tdiv 2)=(((b+1)/2:Nat):Int):=by
 rw[Uz (by omega)];rw[iW0 _ (by omega)];omega
@[ext] structure Fm where
 a:Int
 b:Int
 c:Int
 deriving DecidableEq
@[ext] structure Mt where
 a:Int
 b:Int
 c:Int
 d:Int
 deriving DecidableEq
abbrev FL(a b c:Int):List DV:=[zn a,zm a,zn b,zm b,zn c,zm c]
abbrev ML(a b c d:Int):List DV:=[zn a,zm a,zn b,zm b,zn c,zm c,zn d,zm d]
abbrev FA(a b c:Int):AV:=.p (.a (FL a b c))
abbrev MA(a b c d:Int):AV:=.p (.a (ML a b c d))
abbrev PF(f:Fm):PV:=.a (FL f.a f.b f.c)
abbrev PM(m:Mt):PV:=.a (ML m.a m.b m.c m.d)
def dsc(a b c:Int):Int:=b*b-4*a*c
def vl(a b c x y:Int):Int:=a*x*x+b*x*y+c*y*y
def apB(a b c p q r s:Int):Int:=2*(a*p*q+c*r*s)+b*(p*s+q*r)
def Fm.disc(f:Fm):Int:=dsc f.a f.b f.c
def Fm.val(f:Fm)(x y:Int):Int:=vl f.a f.b f.c x y
def Fm.app(f:Fm)(m:Mt):Fm:=⟨vl f.a f.b f.c m.a m.c,apB f.a f.b f.c m.a m.b m.c m.d,vl f.a f.b f.c m.b m.d⟩
def Mt.mul(m n:Mt):Mt:=⟨m.a*n.a+m.b*n.c,m.a*n.b+m.b*n.d,m.c*n.a+m.d*n.c,m.c*n.b+m.d*n.d⟩
def Mt.det(m:Mt):Int:=m.a*m.d-m.b*m.c
def Mt.one:Mt:=⟨1,0,0,1⟩
instance LB.dsc{a b c:Int}{k l m:Nat}[h1:LB a k][h2:LB b l][h3:LB c m]:LB (dsc a b c) (max (max k l) m+5):=⟨by
 have i1:LB a (max (max k l) m):=⟨h1.le.mono (by omega)⟩
 have i2:LB b (max (max k l) m):=⟨h2.le.mono (by omega)⟩
 have i3:LB c (max (max k l) m):=⟨h3.le.mono (by omega)⟩
 generalize max (max k l) m=n at *;unfold AM.dsc;have j1:=i2.le.mul i2.le;have j2:=((show L (n+2) 4 from (show L 2 4 by decide).mono (by omega)).mul (i1.le.mono (by omega))).mul (i3.le.mono (m:=n+3) (by omega));exact((j1.mono (m:=n+3+1) (by omega)).sub (j2.mono (m:=n+3+1) (by omega))).mono (by omega)⟩
instance LB.vl{a b c x y:Int}{k1 k2 k3 k4 k5:Nat}[h1:LB a k1][h2:LB b k2][h3:LB c k3][h4:LB x k4][h5:LB y k5]:LB (vl a b c x y) (max (max (max (max k1 k2) k3) k4) k5+4):=⟨by
 have i1:L (max (max (max (max k1 k2) k3) k4) k5) a:=h1.le.mono (by omega);have i2:L (max (max (max (max k1 k2) k3) k4) k5) b:=h2.le.mono (by omega);have i3:L (max (max (max (max k1 k2) k3) k4) k5) c:=h3.le.mono (by omega);have i4:L (max (max (max (max k1 k2) k3) k4) k5) x:=h4.le.mono (by omega);have i5:L (max (max (max (max k1 k2) k3) k4) k5) y:=h5.le.mono (by omega);generalize max (max (max (max k1 k2) k3) k4) k5=n at *;unfold AM.vl;have j1:=(i1.mul i4).mul (i4.mono (m:=n+1) (by omega));have j2:=(i2.mul i4).mul (i5.mono (m:=n+1) (by omega));have j3:=(i3.mul i5).mul (i5.mono (m:=n+1) (by omega));exact(j1.add j2).add (j3.mono (by omega))⟩
instance LB.apB{a b c p q r s:Int}{k1 k2 k3 k4 k5 k6 k7:Nat}[h1:LB a k1][h2:LB b k2][h3:LB c k3][h4:LB p k4][h5:LB q k5][h6:LB r k6][h7:LB s k7]:LB (apB a b c p q r s) (max (max (max (max (max (max k1 k2) k3) k4) k5) k6) k7+6):=⟨by
 have i1:L (max (max (max (max (max (max k1 k2) k3) k4) k5) k6) k7) a:=h1.le.mono (by omega);have i2:L (max (max (max (max (max (max k1 k2) k3) k4) k5) k6) k7) b:=h2.le.mono (by omega);have i3:L (max (max (max (max (max (max k1 k2) k3) k4) k5) k6) k7) c:=h3.le.mono (by omega);have i4:L (max (max (max (max (max (max k1 k2) k3) k4) k5) k6) k7) p:=h4.le.mono (by omega);have i5:L (max (max (max (max (max (max k1 k2) k3) k4) k5) k6) k7) q:=h5.le.mono (by omega);have i6:L (max (max (max (max (max (max k1 k2) k3) k4) k5) k6) k7) r:=h6.le.mono (by omega);have i7:L (max (max (max (max (max (max k1 k2) k3) k4) k5) k6) k7) s:=h7.le.mono (by omega);generalize max (max (max (max (max (max k1 k2) k3) k4) k5) k6) k7=n at *;unfold AM.apB;have j1:=(i1.mul i4).mul (i5.mono (m:=n+1) (by omega));have j2:=(i3.mul i6).mul (i7.mono (m:=n+1) (by omega));have j3:=(show L (n+3) 2 from (show L 1 2 by decide).mono (by omega)).mul (j1.add j2);have j4:=(i2.mono (m:=n+2) (by omega)).mul ((i4.mul i7).add (i5.mul i6));exact(j3.add (j4.mono (by omega))).mono (by omega)⟩
theorem BS(f:Fm)(m:Mt)(x y:Int):(f.app m).val x y=f.val (m.a*x+m.b*y) (m.c*x+m.d*y):=by
 simp only[Fm.app,Fm.val,vl,apB];grind
theorem j9(f:Fm)(m n:Mt):(f.app m).app n=f.app (m.mul n):=by
 simp only[Fm.app,Mt.mul,vl,apB,Fm.mk.injEq];refine⟨?_,?_,?_⟩ <;> grind
theorem xz(f:Fm)(m:Mt):(f.app m).disc=f.disc*(m.det*m.det):=by
 simp only[Fm.app,Fm.disc,dsc,vl,apB,Mt.det];grind
theorem j7(m n:Mt):(m.mul n).det=m.det*n.det:=by
 simp only[Mt.mul,Mt.det];grind
theorem tC(f:Fm):f.app .one=f:=by
 simp only[Fm.app,Mt.one,vl,apB];ext <;> simp <;> grind
theorem sgn_zero_iff{x:Int}:sgn x=0↔x=0:=by unfold sgn;split <;> (try split) <;> omega
theorem sgn_lt_iff{x:Int}:sgn x<0↔x<0:=by unfold sgn;split <;> (try split) <;> omega
theorem sgn_gt_iff{x:Int}:sgn x>0↔0<x:=by unfold sgn;split <;> (try split) <;> omega
theorem sgn_le_iff{x:Int}:sgn x<=0↔x<=0:=by unfold sgn;split <;> (try split) <;> omega
theorem sgn_ge_iff{x:Int}:sgn x ≥ 0↔0<=x:=by unfold sgn;split <;> (try split) <;> omega
theorem Gb{x:Int}(h:(lW x==0)=true):(sgn (if x<0 then 0 else x-rootV x*rootV x)==0)=iC x:=by
 have h0:¬ x<0:=fun h1=>by rw[(lv h1).2]at h;cases h
 rw[G2 h0,uz,G6 (show 0<=x by omega),Bool.true_and,Vg];simp[sgn_zero_iff]
theorem KR{x:Int}(h:(lW x==0)=false):false=iC x:=by
 have h0:x<0:=by
  rcases UY x 0 with h1|h1
  ·exact h1
  rw[lw (by omega)]at h;cases h
 rw[uz,Ix (by omega)];rfl
def ck(a b c:Int):Int:=if iC (dsc a b c)then 5 else if dsc a b c<0∧a<=0 then 1 else 0
def prim(a b c:Int):Bool:=decide (Int.gcd a (Int.gcd b c:Int)=1)
def rdd(a b c:Int):Bool:=decide (ck a b c=0)&&decide (dsc a b c<=0)&&decide ((b.natAbs:Int)<=a)&&decide (a<=c)&&(decide ((b.natAbs:Int)<a)&&decide (a<c)||decide (0<=b))
theorem Sp{a b c:Int}(h:iC (dsc a b c)=true):5=ck a b c:=by unfold ck;rw[H2 h]
theorem PG{a b c:Int}(h:iC (dsc a b c)=false)(h1:sgn (dsc a b c)<0)(h2:sgn a<=0):1=ck a b c:=by
 unfold ck;rw[G2 (by simp[h]),H2 ⟨sgn_lt_iff.1 h1,sgn_le_iff.1 h2⟩]
theorem Sq{a b c:Int}(h:iC (dsc a b c)=false)(_h1:sgn (dsc a b c)<0)(h2:¬ sgn a<=0):0=ck a b c:=by
 unfold ck;rw[G2 (by simp[h]),G2 (fun h3=>h2 (sgn_le_iff.2 h3.2))]
theorem PD{a b c:Int}(h:iC (dsc a b c)=false)(h1:¬ sgn (dsc a b c)<0):0=ck a b c:=by
 unfold ck;rw[G2 (by simp[h]),G2 (fun h3=>h1 (sgn_lt_iff.2 h3.1))]
theorem Qg{b c:Int}{n:Nat}(hb:L n b)(hc:L n c):LB ((Int.gcd b c:Nat):Int) n:=⟨by
 by_cases h:b=0
 ·subst h;exact L.of_le hc (by simp)
 refine L.of_le hb ?_;rw[Wl];exact Wf (by omega) (by simpa using WG.2 (U7 ..))⟩
theorem cmpI_eq_zero{a b:Int}:aX a b=0↔a=b:=by
 constructor
 ·exact tx
 rintro rfl;exact l8 a
theorem cmpI_le_zero{a b:Int}:aX a b<=0↔a<=b:=by unfold aX;split <;> (try split) <;> omega
theorem cmpI_lt_zero{a b:Int}:aX a b<0↔a<b:=by unfold aX;split <;> (try split) <;> omega
theorem cmpI_gt_zero{a b:Int}:aX a b>0↔b<a:=by unfold aX;split <;> (try split) <;> omega
theorem Fp(a b c:Int):(aX (Int.gcd a (Int.gcd b c:Int):Nat) 1==0)=prim a b c:=by
 unfold prim;rw[Vg];simp only[beq_iff_eq,cmpI_eq_zero,decide_eq_true_iff];omega
section
variable {a b c:Int}
theorem rdd_iff:rdd a b c=true↔ck a b c=0∧dsc a b c<=0∧(b.natAbs:Int)<=a∧a<=c∧(((b.natAbs:Int)<a∧a<c)∨0<=b):=by
 unfold rdd;simp[and_assoc]
theorem rE(h:¬ (ck a b c=0∧dsc a b c<=0∧(b.natAbs:Int)<=a∧a<=c∧(((b.natAbs:Int)<a∧a<c)∨0<=b))):false=rdd a b c:=by
 rw[<- rdd_iff]at h;exact(Bool.eq_false_iff.2 h).symm
theorem QZ(h:ck a b c≠0):false=rdd a b c:=rE fun x=>h x.1
theorem QY(h:sgn (dsc a b c)>0):false=rdd a b c:=rE fun x=>by have:=sgn_gt_iff.1 h;omega
theorem QX(h1:ck a b c=0)(h2:¬ sgn (dsc a b c)>0)(h5:aX b.natAbs a<0)(h6:aX a c<0):true=rdd a b c:=by
 rw[sgn_gt_iff]at h2;rw[cmpI_lt_zero]at h5 h6;exact(rdd_iff.2 ⟨h1,by omega,by omega,by omega,.inl ⟨h5,h6⟩⟩).symm
theorem HR(h1:ck a b c=0)(h2:¬ sgn (dsc a b c)>0)(h3:aX b.natAbs a<=0)(h4:aX a c<=0)(h5:¬ (aX b.natAbs a<0∧aX a c<0)):decide (sgn b ≥ 0)=rdd a b c:=by
 rw[sgn_gt_iff]at h2;rw[cmpI_lt_zero,cmpI_lt_zero]at h5;rw[cmpI_le_zero]at h3 h4;rw[Vg,rdd_iff,decide_eq_true_iff,sgn_ge_iff];constructor
 ·intro h;exact⟨h1,by omega,h3,h4,.inr h⟩
 rintro⟨_,_,_,_,h|h⟩
 ·exact absurd h h5
 exact h
theorem QW(h:¬ aX a c<=0):false=rdd a b c:=rE fun x=>h (cmpI_le_zero.2 x.2.2.2.1)
theorem QV(h:¬ aX b.natAbs a<=0):false=rdd a b c:=rE fun x=>h (cmpI_le_zero.2 x.2.2.1)
end
def Fm.red(f:Fm):Bool:=rdd f.a f.b f.c
def Mt.S:Mt:=⟨0,-1,1,0⟩
def Mt.T(k:Int):Mt:=⟨1,k,0,1⟩
def Fm.k(f:Fm):Int:=(f.a-f.b)/(2*f.a)
def stp(s:Fm×Mt):Fm×Mt :=
 let f1:=s.1.app (.T s.1.k)
 let m1:=s.2.mul (.T s.1.k)
 if f1.red then(f1,m1)else(f1.app .S,m1.mul .S)
def fQ:Nat->Fm×Mt->Fm×Mt
 |0,s=>s
 |n+1,s=>if s.1.red then s else fQ n (stp s)
def Fm.mu(f:Fm):Nat:=if f.red then 0 else f.a.toNat+1
def Fm.pos(f:Fm):Prop:=0<f.a∧f.disc<0
theorem cz(x:Int):0<=x*x:=by
 rcases Int.le_total 0 x with h|h
 ·exact Vd h h
 exact Int.mul_nonneg_of_nonpos_of_nonpos h h
theorem fx{x y:Int}(h:x.natAbs<=y.natAbs):x*x<=y*y:=by
 rw[<- Int.natAbs_mul_self (a:=x),<- Int.natAbs_mul_self (a:=y)]
 exact_mod_cast VJ h h
theorem jL{x:Int}{m:Int}(hm:0<=m)(h:x*x<=m*m):(x.natAbs:Int)<=m:=by
 rcases UY m (x.natAbs:Int)with h1|h1
 ·exfalso;have h2:m*m<(x.natAbs:Int)*x.natAbs:=Int.mul_self_lt_mul_self hm h1;rw[Xt]at h2;omega
 exact h1
theorem Fm.pos.c{f:Fm}(h:f.pos):0<f.c:=by
 obtain⟨h1,h2⟩:=h;unfold Fm.disc dsc at h2;have h3:=cz f.b;rcases UY 0 f.c with h4|h4
 ·exact h4
 have:f.a*f.c<=0:=Vb (by omega) h4;have e:4*f.a*f.c=4*(f.a*f.c):=by rw[UG]
 omega
theorem Ik(f:Fm)(k:Int):f.app (.T k)=⟨f.a,f.b+2*f.a*k,f.a*k*k+f.b*k+f.c⟩:=by
 simp only[Fm.app,Mt.T,vl,apB,Fm.mk.injEq];refine⟨?_,?_,?_⟩ <;> grind
theorem BF(f:Fm):f.app .S=⟨f.c,-f.b,f.a⟩:=by
 simp only[Fm.app,Mt.S,vl,apB,Fm.mk.injEq];refine⟨?_,?_,?_⟩ <;> grind
theorem ss(k:Int):(Mt.T k).det=1:=by simp[Mt.T,Mt.det]
theorem vh:Mt.S.det=1:=by simp[Mt.S,Mt.det]
theorem b_T{f:Fm}(h:0<f.a):-f.a<f.b+2*f.a*f.k∧f.b+2*f.a*f.k<=f.a∧((f.b+2*f.a*f.k).natAbs<=f.b.natAbs):=by
 have h1:=UC (f.a-f.b) (2*f.a);have h2:=UF (f.a-f.b) (show 2*f.a≠0 by omega);have h3:=UK (f.a-f.b) (show 0<2*f.a by omega);have hk:(f.a-f.b)/(2*f.a)=f.k:=rfl;rw[hk]at h1;generalize (f.a-f.b)%(2*f.a)=r at *;have e:f.b+2*f.a*f.k=f.a-r:=by omega
 refine⟨by omega,by omega,?_⟩;by_cases hb:-f.a<f.b∧f.b<=f.a
 ·have h0:f.k=0:=by unfold Fm.k;exact Int.ediv_eq_zero_of_lt (by omega) (by omega)
  rw[h0];simp
 omega
theorem lM{f:Fm}{m:Mt}(h:m.det=1):(f.app m).disc=f.disc:=by rw[xz,h];omega
structure Good(f0:Fm)(M:Int)(s:Fm×Mt):Prop where
 eq:s.1=f0.app s.2
 det:s.2.det=1
 pos:s.1.pos
 ha:s.1.a<=M
 hc:s.1.c<=M
theorem Tb{f:Fm}(h:f.pos):f.a*f.k*f.k+f.b*f.k+f.c<=f.c:=by
 obtain⟨h1,h2,h3⟩:=b_T h.1;have h4:=fx h3;have e:4*f.a*(f.a*f.k*f.k+f.b*f.k)=(f.b+2*f.a*f.k)*(f.b+2*f.a*f.k)-f.b*f.b:=by grind
 rcases UY 0 (f.a*f.k*f.k+f.b*f.k)with h5|h5
 ·have:=VX (show 0<4*f.a by have:=h.1;omega) h5;omega
 omega
theorem pC{f:Fm}{m:Mt}(h:f.pos)(hd:m.det=1)(ha:0<(f.app m).a):(f.app m).pos:=⟨ha,by rw[lM hd];exact h.2⟩
theorem Good.T{f0:Fm}{M:Int}{s:Fm×Mt}(h:Good f0 M s):Good f0 M (s.1.app (.T s.1.k),s.2.mul (.T s.1.k)):=by
 have e:=Ik s.1 s.1.k;refine⟨?_,?_,pC h.pos (ss _) ?_,?_,?_⟩
 ·show s.1.app _=f0.app _;rw[<- j9,<- h.eq]
 ·show(s.2.mul _).det=1;rw[j7,h.det,ss];rfl
 ·rw[e];exact h.pos.1
 ·show(s.1.app _).a<=M;rw[e];exact h.ha
 show(s.1.app _).c<=M;rw[e];exact X6 (Tb h.pos) h.hc
theorem Good.S{f0:Fm}{M:Int}{s:Fm×Mt}(h:Good f0 M s):Good f0 M (s.1.app .S,s.2.mul .S):=by
 have e:=BF s.1;refine⟨?_,?_,pC h.pos vh ?_,?_,?_⟩
 ·show s.1.app _=f0.app _;rw[<- j9,<- h.eq]
 ·show(s.2.mul _).det=1;rw[j7,h.det,vh];rfl
 ·rw[e];exact h.pos.c
 ·show(s.1.app _).a<=M;rw[e];exact h.hc
 show(s.1.app _).c<=M;rw[e];exact h.ha
theorem Good.stp{f0:Fm}{M:Int}{s:Fm×Mt}(h:Good f0 M s):Good f0 M (stp s):=by
 unfold AM.stp;simp only;split
 ·exact h.T
 exact h.T.S
theorem wR{x:Int}(h:x<0):iC x=false:=by unfold iC;rw[Ix (by omega)];rfl
theorem rH{f:Fm}(h:f.pos):ck f.a f.b f.c=0:=by
 unfold ck;rw[wR (show dsc f.a f.b f.c<0 from h.2),G2 (by simp),G2];intro h1;have:=h.1;omega
theorem px{f:Fm}(h:f.pos):f.red=true↔(f.b.natAbs:Int)<=f.a∧f.a<=f.c∧(((f.b.natAbs:Int)<f.a∧f.a<f.c)∨0<=f.b):=by
 unfold Fm.red;rw[rdd_iff];have h1:dsc f.a f.b f.c<0:=h.2;constructor
 ·rintro⟨_,_,h2⟩;exact h2
 intro h2;exact⟨rH h,by omega,h2⟩
theorem CU{s:Fm×Mt}(h:s.1.pos)(hr:s.1.red=false):(stp s).1.mu<s.1.mu:=by
 obtain⟨h1,h2,h3⟩:=b_T h.1;have e:=Ik s.1 s.1.k;have hp:(s.1.app (.T s.1.k)).pos:=pC h (ss _) (by rw[e];exact h.1);have hm:s.1.mu=s.1.a.toNat+1:=by unfold Fm.mu;rw[hr];rfl
 rw[hm];unfold AM.stp;simp only;split
 ·next hg=>unfold Fm.mu;rw[hg];simp
 next hg =>
 have hp2:((s.1.app (.T s.1.k)).app .S).pos:=pC hp vh (by rw[BF];exact hp.c);unfold Fm.mu;split
 ·omega
 next hg2 =>
 have hg1:¬ ((s.1.app (.T s.1.k)).red=true):=hg;rw[px hp]at hg1;rw[px hp2]at hg2;rw[BF]at hg2 ⊢;rw[e]at hg1 hg2 ⊢;simp only at hg1 hg2 ⊢;have hc:0<s.1.a*s.1.k*s.1.k+s.1.b*s.1.k+s.1.c:=by have:=hp.c;rw[e]at this;exact this
 have ha:=h.1;omega
theorem tT{n:Nat}{s:Fm×Mt}(h:s.1.red=true):fQ n s=s:=by
 cases n with
 |zero=>rfl
 |succ n=>unfold fQ;rw[H2 h]
theorem tS{n:Nat}{s:Fm×Mt}(h:s.1.red=false)(hn:s.1.mu<=n):fQ n s=fQ (n-1) (stp s):=by
 have h0:0<s.1.mu:=by unfold Fm.mu;rw[h];simp
 obtain⟨k,rfl⟩:∃ k,n=k+1:=⟨n-1,by omega⟩
 rw[XL];show(if s.1.red then s else fQ k (stp s))=_;rw[h];rfl
theorem rF{f0:Fm}{M:Int}:∀ (n:Nat) {s:Fm×Mt},Good f0 M s->s.1.mu<=n->Good f0 M (fQ n s)∧(fQ n s).1.red=true
 |0,s,h,hn=>by
  refine⟨h,?_⟩;unfold Fm.mu at hn;cases hr:s.1.red with
  |true=>exact hr
  |false=>rw[hr]at hn;simp at hn
 |n+1,s,h,hn=>by
  cases hr:s.1.red with
  |true=>rw[tT hr];exact⟨h,hr⟩
  |false =>
   rw[tS hr hn,XL];have:=CU h.pos hr;exact rF n h.stp (by omega)
def rdE(a b c:Int):Int:=if ck a b c=0∧0<dsc a b c then 5 else ck a b c
def rdS(a b c:Int):Fm×Mt:=if rdE a b c=0 then fQ (Fm.mu ⟨a,b,c⟩) (⟨a,b,c⟩,.one)else(⟨0,0,0⟩,⟨0,0,0,0⟩)
def rdF(a b c:Int):Fm:=(rdS a b c).1
def rdM(a b c:Int):Mt:=(rdS a b c).2
theorem uy:iC 0=true:=by decide
theorem sQ{a b c:Int}(h:rdE a b c=0):Fm.pos ⟨a,b,c⟩:=by
 unfold rdE at h;split at h
 ·cases h
 next h1 =>
 have h2:ck a b c=0:=h;have h3:¬ 0<dsc a b c:=fun x=>h1 ⟨h2,x⟩
 unfold ck at h2;split at h2
 ·cases h2
 next h4 =>
 have h5:dsc a b c≠0:=fun e=>h4 (by rw[e];exact uy)
 split at h2
 ·cases h2
 next h6 =>
 have h7:dsc a b c<0:=by omega
 refine⟨?_,h7⟩;show 0<a;rcases UY 0 a with h8|h8
 ·exact h8
 exact absurd ⟨h7,h8⟩ h6
theorem pz{a b c:Int}(h:Fm.pos ⟨a,b,c⟩):rdE a b c=0:=by
 unfold rdE;have h1:dsc a b c<0:=h.2;rw[G2 (by omega)];exact rH h
theorem xf{f:Fm}{M:Int}(h:f.pos)(ha:f.a<=M)(hc:f.c<=M):Good f M (f,.one):=⟨(tC f).symm,by simp[Mt.one,Mt.det],h,ha,hc⟩
theorem qK{a b c M:Int}(h:Fm.pos ⟨a,b,c⟩)(ha:a<=M)(hc:c<=M):Good ⟨a,b,c⟩ M (rdS a b c)∧(rdF a b c).red=true:=by
 unfold rdF rdS;rw[H2 (pz h)];exact rF _ (xf h ha hc) (Iv _)
theorem vS{a b c:Int}(h:rdE a b c≠0):rdF a b c=⟨0,0,0⟩∧rdM a b c=⟨0,0,0,0⟩:=by
 unfold rdF rdM rdS;rw[G2 h];exact⟨rfl,rfl⟩
theorem nJ{a b c p r v M:Int}(hD:b*b-4*a*c<=-3)(ha:0<=a)(haM:a<=M)(hv:a*p*p+b*p*r+c*r*r=v)(h0:0<=v)(hM:v<=M):(r.natAbs:Int)<=2*M:=by
 refine jL (by omega) ?_;have e:4*(a*v)=(2*a*p+b*r)*(2*a*p+b*r)+(4*a*c-b*b)*(r*r):=by rw[<- hv];grind
 have h1:=cz (2*a*p+b*r);have h2:=cz r;have h3:3*(r*r)<=(4*a*c-b*b)*(r*r):=UM (by omega) h2;have h4:a*v<=M*M:=Ve haM hM h0 (by omega);have e2:2*M*(2*M)=4*(M*M):=by grind
 omega
theorem GG(a b c:Int):(b*b-4*a*c)%4=0∨(b*b-4*a*c)%4=1:=by
 have e:4*a*c=4*(a*c):=by rw[UG]
 rw[e];have h:b*b%4=0∨b*b%4=1:=by
  have h1:=Int.emod_add_mul_ediv b 2;rcases Int.emod_two_eq b with h2|h2
  ·left;rw[h2]at h1;have:b*b=4*(b/2*(b/2)):=by rw[<- h1];grind
   omega
  right;rw[h2]at h1;have:b*b=4*(b/2*(b/2)+b/2)+1:=by grind
  omega
 omega
theorem Ae{f:Fm}(h:f.pos):f.b*f.b-4*f.a*f.c<=-3:=by
 have h1:f.b*f.b-4*f.a*f.c<0:=h.2;have h2:=GG f.a f.b f.c;omega
theorem Good.b{f0:Fm}{M:Int}{s:Fm×Mt}(h:Good f0 M s):(s.1.b.natAbs:Int)<=2*M:=by
 have h1:=Ae h.pos;have h2:=h.pos.1;have h3:=h.pos.c;have h4:s.1.a*s.1.c<=M*M:=Ve h.ha h.hc (by omega) (by have:=h.ha;omega);refine jL (by have:=h.ha;omega) ?_;have e2:2*M*(2*M)=4*(M*M):=by grind
 have e:4*s.1.a*s.1.c=4*(s.1.a*s.1.c):=by rw[UG]
 omega
theorem Good.m{f0:Fm}{M:Int}{s:Fm×Mt}(h:Good f0 M s)(h0:f0.pos)(ha:f0.a<=M)(hc:f0.c<=M) :
  (s.2.a.natAbs:Int)<=2*M∧(s.2.b.natAbs:Int)<=2*M∧(s.2.c.natAbs:Int)<=2*M∧(s.2.d.natAbs:Int)<=2*M:=by
 have hD:=Ae h0;have hD':f0.b*f0.b-4*f0.c*f0.a<=-3:=by
  have e:4*f0.c*f0.a=4*f0.a*f0.c:=by grind
  rw[e];exact hD
 have e1:vl f0.a f0.b f0.c s.2.a s.2.c=s.1.a:=by rw[h.eq];rfl
 have e2:vl f0.a f0.b f0.c s.2.b s.2.d=s.1.c:=by rw[h.eq];rfl
 unfold vl at e1 e2;have p1:=h.pos.1;have p2:=h.pos.c;have q1:=h0.1;have q2:=h0.c;refine⟨nJ hD' (WV q2) hc (p:=s.2.c) ?_ (WV p1) h.ha,nJ hD' (WV q2) hc (p:=s.2.d) ?_ (WV p2) h.hc,nJ hD (WV q1) ha e1 (WV p1) h.ha,nJ hD (WV q1) ha e2 (WV p2) h.hc⟩
 ·rw[<- e1];grind
 rw[<- e2];grind
theorem L.max2{a c:Int}{n:Nat}(ha:L n a)(hc:L n c):∃ M,a<=M∧c<=M∧0<=M∧L n M:=by
 rcases Int.le_total (a.natAbs:Int) c.natAbs with h|h
 ·exact⟨c.natAbs,by omega,by omega,by omega,hc.abs⟩
 exact⟨a.natAbs,by omega,by omega,by omega,ha.abs⟩
theorem L.two{x M:Int}{n:Nat}(hM:L n M)(h0:0<=M)(h:(x.natAbs:Int)<=2*M):L (n+1) x:=by
 have:L (n+1) (2*M):=by
  have:=hM.add hM
  rwa [<- Int.two_mul]at this
 exact this.of_le (by omega)
structure LF(n:Nat)(f:Fm):Prop where
 a:L n f.a
 b:L n f.b
 c:L n f.c
structure LM(n:Nat)(m:Mt):Prop where
 a:L n m.a
 b:L n m.b
 c:L n m.c
 d:L n m.d
theorem Good.L{f0:Fm}{M:Int}{n:Nat}{s:Fm×Mt}(h:Good f0 M s)(h0:f0.pos)(ha:f0.a<=M)(hc:f0.c<=M)(hM:L n M):LF (n+1) s.1∧LM (n+1) s.2:=by
 have p1:=h.pos.1;have p2:=h.pos.c;have p3:=h.ha;have p4:=h.hc;obtain⟨m1,m2,m3,m4⟩:=h.m h0 ha hc;have hM0:0<=M:=by omega
 exact⟨⟨hM.two hM0 (by omega),hM.two hM0 h.b,hM.two hM0 (by omega)⟩,hM.two hM0 m1,hM.two hM0 m2,hM.two hM0 m3,hM.two hM0 m4⟩
def mc(σ:Nat->Nat):AV->AV
 |.loc m o=>.loc (σ m) o
 |.vec m=>.vec (σ m)
 |.fnl f m=>.fnl f (σ m)
 |.it m=>.it (σ m)
 |.axm R m=>.axm R (σ m)
 |.axl R ms=>.axl R (ms.map σ)
 |v=>v
theorem Fi{h:Hp}{r:Nat->Value}{σ:Nat->Nat}:∀ (v:AV) (x:Value),AVRep h r (mc σ v) x->AVRep h (fun n=>r (σ n)) v x
 |.p _,_,k=>k
 |.t _,_,k=>k
 |.loc _ _,_,k=>k
 |.vec _,_,k=>k
 |.ip _,_,k=>k
 |.fn _ _,_,k=>k
 |.fnl _ _,_,k=>k
 |.it _,_,k=>k
 |.axm _ _,_,k=>k
 |.axl R ms,_,k=>fun h' hq=>by
  have:=k h' hq;rw[VS]at this;exact this
 |.ax _,_,k=>k
 |.junk,_,k=>k
theorem CallM.ren{P:Program}{f:FuncId}{args iV:List AV}{o o2 o' o2':Own}{res:AV}(hc:CallM P f args o res o')(σ:Nat->Nat)(hres:men res=[])(ha:iV=args.map (mc σ))(hinj:∀ m n,o m≠none->o n≠none->σ m=σ n->m=n)(h1:∀ m,o m≠none->o2 (σ m)=o m)(_h2:∀ n,o2 n≠none->∃ m,o m≠none∧σ m=n)(h3:∀ m,o m≠none->o2' (σ m)=o' m)(h4:∀ n,o2' n≠none->∃ m,o m≠none∧σ m=n):CallM P f iV o2 res o2':=by
 refine⟨hc.fn,?_⟩;intro h r w cargs hra hbf;have hra':RepArgs h (fun n=>r (σ n)) args cargs.toList:=by
  rw[ha]at hra;have:∀ (as0:List AV) (xs:List Value),RepArgs h r (as0.map (mc σ)) xs->RepArgs h (fun n=>r (σ n)) as0 xs:=by
   intro as0;induction as0 with
   |nil=>intro xs k;cases xs <;> exact k
   |cons p ps ih=>intro xs k;cases xs with
    |nil=>exact k.elim
    |cons x xs=>exact⟨Fi _ _ k.1,ih xs k.2⟩
  exact this _ _ hra
 have e2:∀ m,o m≠none->o2 (σ m)≠none:=fun m hm=>by rw[h1 m hm];exact hm
 refine Calls.mono (hc.go h (fun n=>r (σ n)) w cargs hra' ⟨fun m b hb=>hbf.ow (σ m) b (by rw[h1 m (by rw[hb];simp)];exact hb),fun m n k hm hn e f=>hinj m n hm hn (hbf.inj _ _ k (e2 m hm) (e2 n hn) e f),hbf.hi,fun m k hm e=>hbf.ho _ k (e2 m hm) e,hbf.gl⟩) ?_;rintro e w' ⟨v,h',rfl,hv,q⟩;refine⟨v,h',rfl,AVRep.rebind _ _ (fun m hm=>by rw[hres]at hm;simp at hm) hv,?_⟩;refine⟨fun n b hb=>?_,fun n hn=>?_,q.hi,fun n k hn e=>?_,q.os,q.tape,q.output,q.size,fun k hk hno=>q.old k hk ?_,q.hg,fun k hk=>?_⟩
 ·obtain⟨m,hm,rfl⟩:=h4 n (by rw[hb];simp);exact q.ow m b (by rw[<- h3 m hm];exact hb)
 ·obtain⟨m,hm,rfl⟩:=h4 n hn;exact e2 m hm
 ·obtain⟨m,hm,rfl⟩:=h4 n hn;exact q.ho m k (by rw[<- h3 m hm];exact hn) e
 ·rintro⟨m,hm,e⟩;exact hno ⟨σ m,e2 m hm,e⟩
 rcases q.hn k hk with g|g|⟨m,hm,e⟩
 ·exact .inl g
 ·exact .inr (.inl g)
 exact .inr (.inr ⟨σ m,e2 m hm,e⟩)
theorem CallM.ren1{P:Program}{f:FuncId}{args iV:List AV}{b b':Blk}{res:AV}(m:Nat)(hc:CallM P f args (upd O 0 (some b)) res (upd O 0 (some b')))(hres:men res=[])(ha:iV=args.map (mc fun _=>m)) :
  CallM P f iV (upd O m (some b)) res (upd O m (some b')):=by
 have z:∀ (b:Blk) (k n:Nat),upd O k (some b) n≠none->n=k:=fun b k n hn=>by
  by_cases e:n=k
  ·exact e
  rw[aj _ _ _ _ e]at hn;exact absurd rfl hn
 refine hc.ren (fun _=>m) hres ha (fun p q hp hq _=>by rw[z _ _ _ hp,z _ _ _ hq]) (fun p hp=>by rw[z _ _ _ hp];simp) (fun n hn=>⟨0,by simp,(z _ _ _ hn).symm⟩) (fun p hp=>by rw[z _ _ _ hp];simp) (fun n hn=>⟨0,by simp,(z _ _ _ hn).symm⟩)
theorem CallM.ren2{P:Program}{f:FuncId}{args iV:List AV}{b b' c c':Blk}{res:AV}(m n:Nat)(hmn:Nat.beq m n=false)(hc:CallM P f args (upd (upd O 0 (some b)) 1 (some c)) res (upd (upd O 0 (some b')) 1 (some c')))(hres:men res=[])(ha:iV=args.map (mc fun k=>bif Nat.beq k 0 then m else n)) :
  CallM P f iV (upd (upd O m (some b)) n (some c)) res (upd (upd O m (some b')) n (some c')):=by
 have hne:m≠n:=fun e=>by rw[e,WH]at hmn;cases hmn
 have z:∀ (b c:Blk) (k l q:Nat),upd (upd O k (some b)) l (some c) q≠none->q=k∨q=l:=fun b c k l q hn=>by
  by_cases e:q=l
  ·exact .inr e
  rw[aj _ _ _ _ e]at hn;by_cases e2:q=k
  ·exact .inl e2
  rw[aj _ _ _ _ e2]at hn;exact absurd rfl hn
 have s0:(fun k=>bif Nat.beq k 0 then m else n) 0=m:=rfl;have s1:(fun k=>bif Nat.beq k 0 then m else n) 1=n:=rfl;refine hc.ren (fun k=>bif Nat.beq k 0 then m else n) hres ha (fun p q hp hq e=>?_) (fun p hp=>?_) (fun q hq=>?_) (fun p hp=>?_) (fun q hq=>?_)
 ·rcases z _ _ _ _ _ hp with rfl|rfl <;> rcases z _ _ _ _ _ hq with rfl|rfl
  ·rfl
  ·exact absurd e hne
  ·exact absurd e.symm hne
  rfl
 ·rcases z _ _ _ _ _ hp with rfl|rfl
  ·show upd _ _ _ m=_;rw[aj _ _ _ _ hne,upd_same];rfl
  show upd _ _ _ n=_;simp
 ·rcases z _ _ _ _ _ hq with rfl|rfl
  ·exact⟨0,by show some b≠none;simp,rfl⟩
  exact⟨1,by simp,rfl⟩
 ·rcases z _ _ _ _ _ hp with rfl|rfl
  ·show upd _ _ _ m=_;rw[aj _ _ _ _ hne,upd_same];rfl
  show upd _ _ _ n=_;simp
 rcases z _ _ _ _ _ hq with rfl|rfl
 ·exact⟨0,by show some b≠none;simp,rfl⟩
 exact⟨1,by simp,rfl⟩
theorem eJ{b:Blk}:∀ m,upd O 0 (some b) m≠none->m<1:=fun m hm=>by
 by_cases e:m=0
 ·omega
 rw[aj _ _ _ _ e]at hm;exact absurd rfl hm
theorem ff{b b':Blk}:∀ m,upd O 0 (some b') m≠none->upd O 0 (some b) m≠none:=fun m hm=>by
 by_cases e:m=0
 ·subst e;simp
 rw[aj _ _ _ _ e]at hm;exact absurd rfl hm
theorem dX{s:St}{b:Blk}(h:s.own 0=some b):∀ m c,upd O 0 (some b) m=some c->s.own m=some c:=fun m c hm=>by
 by_cases e:m=0
 ·subst e;rw[upd_same]at hm;rw[h,hm]
 rw[aj _ _ _ _ e]at hm;cases hm
theorem dN{k:Nat}{b:Blk}:∀ m,upd O k (some b) m≠none->m∈[k]:=fun m hm=>by
 by_cases e:m=k
 ·simp[e]
 rw[aj _ _ _ _ e]at hm;exact absurd rfl hm
theorem gG{own:Own}{k:Nat}{b:Blk}(h:own k=some b):∀ m∈[k],own m=upd O k (some b) m:=fun m hm=>by
 rw[U3.1 hm,upd_same,h]
theorem Qs{s:Fm×Mt}(h:(!rdd (s.1.app (.T s.1.k)).a (s.1.app (.T s.1.k)).b (s.1.app (.T s.1.k)).c)=false):stp s=(s.1.app (.T s.1.k),s.2.mul (.T s.1.k)):=by
 unfold stp;simp only;rw[H2 (show(s.1.app (.T s.1.k)).red=true by unfold Fm.red;simpa using h)]
theorem Qt{s:Fm×Mt}(h:(!rdd (s.1.app (.T s.1.k)).a (s.1.app (.T s.1.k)).b (s.1.app (.T s.1.k)).c)=true):stp s=((s.1.app (.T s.1.k)).app .S,(s.2.mul (.T s.1.k)).mul .S):=by
 unfold stp;simp only;rw[G2 (show ¬ (s.1.app (.T s.1.k)).red=true by unfold Fm.red;simpa using h)]
theorem zc{f0:Fm}{M:Int}{s s' R:Fm×Mt}{n:Nat}(hG:Good f0 M s)(hn:s.1.mu<=n)(hR:fQ n s=R)(hr:(!rdd s.1.a s.1.b s.1.c)=true)(e:stp s=s'):(Good f0 M s'∧s'.1.mu<=n-1∧fQ (n-1) s'=R)∧n-1<n:=by
 have hr':s.1.red=false:=by unfold Fm.red;simpa using hr
 have h1:=CU hG.pos hr';refine⟨⟨e▸hG.stp,by rw[<- e];omega,?_⟩,by omega⟩;rw[<- hR,tS hr' hn,e]
theorem JP{s R:Fm×Mt}{n:Nat}(hR:fQ n s=R)(hr:(!rdd s.1.a s.1.b s.1.c)=false):s=R:=by
 rw[<- hR,tT];unfold Fm.red;simpa using hr
theorem Q1{a b c:Int}(h1:(ck a b c==0)=true)(h2:¬ sgn (dsc a b c)>0):rdE a b c=0:=by
 have h3:ck a b c=0:=by simpa using h1
 rw[sgn_gt_iff]at h2;unfold rdE;rw[G2 (fun x=>h2 x.2),h3]
theorem Q0{a b c:Int}(h1:(ck a b c==0)=true)(h2:sgn (dsc a b c)>0):rdE a b c=5:=by
 have h3:ck a b c=0:=by simpa using h1
 rw[sgn_gt_iff]at h2;unfold rdE;rw[H2 ⟨h3,h2⟩]
theorem NJ{a b c:Int}(h1:(ck a b c==0)=false):rdE a b c=ck a b c∧rdE a b c≠0:=by
 have h3:ck a b c≠0:=by simpa using h1
 have:rdE a b c=ck a b c:=by unfold rdE;rw[G2 (fun x=>h3 x.1)]
 exact⟨this,by rw[this];exact h3⟩
theorem zb{a b c e:Int}(h:rdE a b c=e)(h0:e≠0):AV.t [PF ⟨0,0,0⟩,PM ⟨0,0,0,0⟩,PE e]=AV.t [PF (rdF a b c),PM (rdM a b c),PE (rdE a b c)]:=by
 rw[(vS (h▸h0)).1,(vS (h▸h0)).2,h]
theorem NE{a b c:Int}{s:Fm×Mt}(h:rdE a b c=0)(hs:s=fQ (Fm.mu ⟨a,b,c⟩) (⟨a,b,c⟩,.one)):AV.t [PF s.1,PM s.2,PE 0]=AV.t [PF (rdF a b c),PM (rdM a b c),PE (rdE a b c)]:=by
 unfold rdF rdM rdS;rw[H2 h,<- hs,h]
theorem Ac(a b c:Int):dsc a (-b) c=dsc a b c:=by unfold dsc;grind
def smB(a b c p q r:Int):Bool:=decide (rdE a b c=0∧rdE p q r=0∧rdF a b c=rdF p q r)
def Mt.adj(n:Mt):Mt:=⟨n.d,-n.b,-n.c,n.a⟩
def smM(a b c p q r:Int):Mt:=if smB a b c p q r then(rdM a b c).mul (rdM p q r).adj else⟨0,0,0,0⟩
def prE(d:Int):Int:=if 1<d%4∨iC d=true then 5 else 0
def prF(d:Int):Fm:=if prE d=0 then⟨1,d%4,-(d/4)⟩else⟨0,0,0⟩
theorem HS{d:Int}(h:1<d%4∨iC d=true):AV.t [PF ⟨0,0,0⟩,PE 5]=AV.t [PF (prF d),PE (prE d)]:=by
 have h1:prE d=5:=H2 h;unfold prF;rw[h1,G2 (by decide)]
theorem Cr{d:Int}(h:¬ 1<d%4)(h2:iC d=false):AV.t [PF ⟨1,d%4,-(d/4)⟩,PE 0]=AV.t [PF (prF d),PE (prE d)]:=by
 have h1:prE d=0:=G2 (fun x=>x.elim h (fun y=>by rw[h2]at y;cases y));unfold prF;rw[h1,H2 rfl]
def wd(ws:List Nat)(i:Int):Nat:=if i<0 then 0 else ws.getD i.toNat 0
theorem AG{z:Int}:IntKind.u64.wrap z=(((z%18446744073709551616).toNat:Nat):Int):=by rw[n5];omega
theorem Ei{z:Int}(hz:aH z)(h:z<0):IntKind.u64.wrap (0-(((z%18446744073709551616).toNat:Nat):Int))=(z.natAbs:Nat):=by
 obtain⟨h1,h2⟩:=hz;rw[n5];omega
theorem HV{z:Int}(hz:aH z)(h:¬ z<0):IntKind.u32.wrap (((z%18446744073709551616).toNat:Nat):Int)=((z.natAbs%4294967296:Nat):Int):=by
 obtain⟨h1,h2⟩:=hz;rw[mD];omega
theorem HW{z:Int}(hz:aH z)(h:¬ z<0):IntKind.u32.wrap (((z%18446744073709551616).toNat/2^32:Nat):Int)=((z.natAbs/2^32:Nat):Int):=by
 obtain⟨h1,h2⟩:=hz;rw[mD];omega
theorem CM{z:Int}(hz:aH z):IntKind.u32.wrap ((z.natAbs/2^32:Nat):Int)=((z.natAbs/2^32:Nat):Int):=by
 obtain⟨h1,h2⟩:=hz;rw[mD];omega
def rnS(m d:Nat)(b:Blk)(s:St):St:=⟨fun t=>mc (fun k=>bif Nat.beq k m then d else k) ((bt [d] s).regs t),upd (upd (bt [d] s).own m none) d (some b)⟩
theorem dm{P:Program}{B:Bool}{N np:Nat}{Q:Exit->St->Prop}{s:St}{c:Code}(m d:Nat){b:Blk}(hb:s.own m=some b)(hd:Nat.beq m d=false)(hp:Nat.ble np d=true)(h:AWp P B N np c Q (rnS m d b s))(hl0:lnk b=[]:=by rfl):AWp P B N np c Q s:=by
 have hne:m≠d:=fun e=>by rw[e,WH]at hd;cases hd
 intro ro hB C hh r a w hn hc;have hk:=e9 [d] hc;have hown:(bt [d] s).own d=none:=fp [d] s d (by simp);have hmen:=fU [d] s d (by simp);have hm:(bt [d] s).own m=some b:=by
  have:(bt [d] s).own m=s.own m:=by
   show(bif [d].contains m then none else iS [d] (s.own m))=s.own m;have:[d].contains m=false:=by simp;exact hne
   rw[this,hb];show some (dp [d] b)=some b;unfold dp;rw[hl0];rfl
  rw[this];exact hb
 have hbr:=hk.wk.ow m b hm;have hw:=hk.wk.rename (m:=m) (d:=d) (v:=r m) (b:=b) (by rw[hm];simp) hown (by rw[hn.1];exact bL0 hp) (fun _ e=>e) hbr (fq [d] s d (by simp)) hl0;refine h ro hB C hh (upd r d (r m)) a w hn ⟨hk.sz,hk.df,fun t=>?_,hw⟩;have hr:=hk.rg t;have hmt:=hmen t;show AVRep hh (upd r d (r m)) (mc (fun k=>bif Nat.beq k m then d else k) ((bt [d] s).regs t)) _;generalize (bt [d] s).regs t=v at hr hmt;have key:∀ k,d≠k->upd r d (r m) (bif Nat.beq k m then d else k)=r k:=fun k hk=>by
  cases e:Nat.beq k m with
  |true=>rw[UT e];simp
  |false=>simp only[cond_false];rw[aj _ _ _ _ (fun x=>hk x.symm)]
 cases v with
 |loc k o =>
  obtain⟨q,h1,h2⟩:=hr;exact⟨q,by rw[key k (by simpa[men]using hmt)];exact h1,h2⟩
 |vec k =>
  show _=upd r d (r m) _;rw[key k (by simpa[men]using hmt)];exact hr
 |p v=>exact hr
 |t vs=>exact hr
 |ip xs=>exact hr
 |fn f caps=>exact hr
 |fnl f k =>
  obtain⟨q,h1,h2⟩:=hr;exact⟨q,by rw[key k (by simpa[men]using hmt)];exact h1,h2⟩
 |it k =>
  obtain⟨q,h1,h2⟩:=hr;exact⟨q,by rw[key k (by simpa[men]using hmt)];exact h1,h2⟩
 |axm R k =>
  intro h' hq;show R h' (upd r d (r m) _) _;rw[key k (by simpa[men]using hmt)];exact hr h' hq
 |axl R ks =>
  intro h' hq;show R h' ((ks.map _).map (upd r d (r m))) _;rw[VS];have:ks.map (upd r d (r m) ∘ fun k=>bif Nat.beq k m then d else k)=ks.map r:=Vy fun k hk=>key k (fun x=>hmt (x▸hk))
  rw[this];exact hr h' hq
 |ax R=>exact hr
 |junk=>exact hr
def dgs:Nat->Nat->List Nat
 |0,_=>[]
 |n+1,v=>v%4294967296::dgs n (v/4294967296)
section add
end add
structure CallV(P:Program)(f:FuncId)(args:List AV)(b:Blk):Prop where
 fn:lS P f
 go:∀ (h:Hp) (r:Nat->Value) (w:World) (cargs:Array Value),RepArgs h r args cargs.toList->Before h r O w ->
  Calls P f cargs w fun e w'=>∃ v h',e=.returned v∧BlkRep h' w' v b∧(∀ k,aD v=some k->w.heap.size<=k∧h' k=none)∧After h r O w h' O w'
theorem Eff.callV{P:Program}{dst:Option Nat}{f:FuncId}{args:Array Operand}{tys:Array TypeId}{ty:TypeId}{pos:String}{af:Array Edge}{gd:Option (Nat×Bool)}{d:Nat}{ρ:Operand->AV}{own:Own}{b:Blk}(hc:CallV P f (args.toList.map ρ) b)(hl0:lnk b=[]:=by rfl):Eff P ⟨dst,.call ⟨.value (.func f),args,tys⟩,ty,pos,af,gd⟩ d ρ own (.vec d) [] (some b) []:=by
 intro C h r own' a w K Q hrep hrd hw hnew hK;unfold Oper.wp;have hrun:(execOp a.eval ⟨dst,.call ⟨.value (.func f),args,tys⟩,ty,pos,af,gd⟩).run P w=.ok (.enter f (args.map a.eval)) w:=by
  simp only[execOp,resolve,Sem.run_bind,Act.eval,Deferred.ofValue,Sem.run_pure,Result.andThen_ok,invoke,Array.empty_append,Array.append_empty];exact bU hc.fn _ w
 rw[hrun];refine Calls.mono (hc.go h r w (args.map a.eval) ?_ (hw.before fun m hm=>absurd rfl hm)) ?_
 ·rw[VU];exact cX _ fun x hx=>hrep x (by simp only[Op.operands,Call.operands];exact Wa.2 (.inr (VN.1 hx)))
 rintro e w' ⟨v,h',rfl,hv,hfr,hq⟩;obtain⟨hd,hp,hnl⟩:=hnew (by simp);have hw':WOK C h' r own' w':=hw.after (fun m hm=>absurd rfl hm) hq (fun m=>by simp) (fun m b hm=>absurd rfl hm);refine hK v h' (upd r d v) w' hq.hg (fun m hm=>aj _ _ _ _ (hm (by simp))) (by show v=upd r d v d;rw[upd_same]) ?_;show WOK C h' (upd r d v) (upd own' d (some b)) w';have live:∀ m,m≠d->upd own' d (some b) m≠none->own' m≠none:=fun m h1 hm=>by rwa [aj _ _ _ _ h1]at hm
 have below:∀ m k,own' m≠none->aD (r m)=some k->k<w.heap.size:=fun m k hm hk=>hw.lt hm hk
 refine⟨?_,?_,hw'.hi,?_,hw'.os,hw'.tape,hw'.output,hw'.size,hw'.old,?_,hw'.hg,hw'.hn,hw'.gl,?_,?_⟩
 ·intro m b' e;by_cases h1:m=d
  ·subst h1;rw[upd_same]at e ⊢;cases e;exact hv
  rw[aj _ _ _ _ h1]at e ⊢;exact hw'.ow m b' e
 ·intro m n k hm hn e f';by_cases h1:m=d <;> by_cases h2:n=d
  ·rw[h1,h2]
  ·subst h1;rw[upd_same]at e;rw[aj _ _ _ _ h2]at f';have:=below n k (live n h2 hn) f';have:=(hfr k e).1;omega
  ·subst h2;rw[upd_same]at f';rw[aj _ _ _ _ h1]at e;have:=below m k (live m h1 hm) e;have:=(hfr k f').1;omega
  rw[aj _ _ _ _ h1]at e;rw[aj _ _ _ _ h2]at f';exact hw'.inj m n k (live m h1 hm) (live n h2 hn) e f'
 ·intro m k hm e;by_cases h1:m=d
  ·subst h1;rw[upd_same]at e;exact(hfr k e).2
  rw[aj _ _ _ _ h1]at e;exact hw'.ho m k (live m h1 hm) e
 ·intro m k hm e;by_cases h1:m=d
  ·subst h1;rw[upd_same]at e;exact .inl (UA hw.size (hfr k e).1)
  rw[aj _ _ _ _ h1]at e;exact hw'.fo m k (live m h1 hm) e
 ·intro m hm;rw[aj _ _ _ _ (by omega)];exact hw'.kp m hm
 intro m b' j e hj;by_cases h1:m=d
 ·subst h1;rw[upd_same]at e;cases e;rw[hl0]at hj;cases hj
 rw[aj _ _ _ _ h1]at e;have hjd:j≠d:=fun x=>hnl m b' e (x▸hj)
 rw[aj _ _ _ _ h1,aj _ _ _ _ hjd];exact hw'.lk m b' j e hj
def SN(fn:Func)(b:Blk)(e:Exit)(s:St):Prop:=(e=.normal∨e=.ret)∧∃ t m,fn.results=#[.tmp t]∧s.regs t=.vec m∧s.own m=some b
theorem nP{P:Program}{f:FuncId}{fn:Func}{c:Code}{N:Nat}{args:List AV}{b:Blk}(hf:P.funcs[f]?=some fn)(hnm:(fn.name == "runtime.NumGoroutine")=false)(hb:fn.body=some c)(hN:fn.ntmps=N)(hna:args.length<=N)(h:AWp P false N 0 c (SN fn b) ⟨fun t=>args.getD t .junk,O⟩):CallV P f args b:=by
 refine⟨⟨fn,hf,hnm,by rw[hb];rfl⟩,?_⟩;intro hh r w cargs hra hbf;have hlen:cargs.size=args.length:=by
  have:∀ (as0:List AV) (xs:List Value),RepArgs hh r as0 xs->xs.length=as0.length:=by
   intro as0;induction as0 with
   |nil=>intro xs h;cases xs with
    |nil=>rfl
    |cons _ _=>exact h.elim
   |cons p ps ih=>intro xs h;cases xs with
    |nil=>exact h.elim
    |cons x xs=>simp[ih xs h.2]
  simpa using this _ _ hra
 have hget:∀ (as0:List AV) (xs:List Value),RepArgs hh r as0 xs->∀ (t:Nat) (x:AV),as0[t]?=some x->∃ y,xs[t]?=some y∧AVRep hh r x y:=by
  intro as0;induction as0 with
  |nil=>intro xs _ t x h;simp at h
  |cons p ps ih=>intro xs h t x hx;cases xs with
   |nil=>exact h.elim
   |cons y ys=>cases t with
    |zero=>simp at hx;subst hx;exact⟨y,rfl,h.1⟩
    |succ t=>exact ih ys h.2 t x (by simpa using hx)
 refine mZ (n:=0) (callsIn_of_wp_marks hf hb trivial ?_)
 let C:Ctx:=⟨w,hh,fun _=>False,r,0,true⟩
 refine wpIn_mono (h none (fun _=>rfl) C hh r _ w ⟨rfl,rfl⟩ ⟨?_,trivial,?_,⟨hbf.ow,hbf.inj,hbf.hi,hbf.ho,rfl,rfl,.refl _,Iv _,fun _ _ _=>rfl,fun m k hm=>absurd rfl hm,.refl _,fun k hk=>.inl hk,hbf.gl,fun _ _=>rfl,fun m b j hb=>by cases hb⟩⟩) ?_
 ·simp[hN];omega
 ·intro t;show AVRep hh r (args.getD t .junk) _;rw[As];cases ht:args[t]? with
  |none=>exact trivial
  |some x =>
   obtain⟨y,h1,h2⟩:=hget _ _ hra t x ht;have h1':cargs[t]?=some y:=by rw[<- UJ];exact h1
   have hlt:t<cargs.size:=(K0.1 h1').1;simp only[Array.getD_eq_getD_getElem?,Array.getElem?_append_left hlt,h1',Option.getD_some];exact h2
 rintro e a' w' ⟨s',h',r',⟨he,t,m,hres,hreg,hown⟩,hc⟩;have fin:LeavesInM (Wd none) 0 P fn a'.tmps (fun e w'=>∃ v h',e=.returned v∧BlkRep h' w' v b∧(∀ k,aD v=some k->w.heap.size<=k∧h' k=none)∧After hh r O w h' O w') a'.defers .returning w':=by
  refine iM hc ?_;intro h' w' hc;have hx:a'.tmps.getD t undef=r' m:=by
   have:=hc.rg t;rw[hreg]at this;exact this
  have hv1:(results fn a'.tmps).run P w'=.ok (r' m) w':=by
   rw[eY,hres];simp[iG,hx]
  have hk:=hc.wk;have hlow:s'.own m≠none:=by rw[hown];simp
  refine⟨r' m,hv1,r' m,h',rfl,hk.ow m b hown,fun k e=>⟨?_,hk.ho m k hlow e⟩,?_⟩
  ·rcases hk.fo m k hlow e with g|g
   ·exact g
   exact g.elim
  refine⟨fun m b e=>(by cases e),fun m hm=>absurd rfl hm,hk.hi,fun m k hm=>absurd rfl hm,hk.os,hk.tape,hk.output,hk.size,fun k h1 _=>hk.old k h1 (fun x=>x),hk.hg,fun k e=>?_⟩;rcases hk.hn k e with g|g|g
  ·exact .inl g
  ·exact .inr (.inl g)
  exact g.elim
 rcases he with rfl|rfl <;> exact fin
theorem RK.mutL{P:Program}{N np:Nat}{ops:Array Oper}{draw:Bool}{os:List Oper}{s:St}{acc:List Io}{K:St->Prop}{t:Nat}{op:Op}{ty:TypeId}{pos:String}{af:Array Edge}{gd:Option (Nat×Bool)}{v:AV}{st:Chg}{rd:List Nat}(hg:cm ops ⟨some t,op,ty,pos,af,gd⟩ s.regs true)(he:Eff P ⟨some t,op,ty,pos,af,gd⟩ t (ev s.regs) s.own v st none rd)(hr:RK P N np ops draw os ⟨upd s.regs t v,cw s.own st⟩ (acc++[⟨men v++lE st none,st.map (·.1),rd,false⟩]) K):RK P N np ops draw (⟨some t,op,ty,pos,af,gd⟩::os) s acc K:=by
 refine RK.step (Step.run v st none rd hg he (fun h=>absurd rfl h)) ?_;simp only[Option.isSome_none,Bool.false_eq_true,if_false,List.append_nil];exact hr
def hlf(l:List Nat)(i:Nat):List Nat:=(dgs l.length (wv l/2)).take i++l.drop i
theorem yI{b c:Blk}:∀ m,upd (upd O 0 (some b)) 1 (some c) m≠none->m<2:=fun m hm=>by
 by_cases e:m=1
 ·omega
 rw[aj _ _ _ _ e]at hm;have:=eJ m hm;omega
theorem vr{b c b' c':Blk}:∀ m,upd (upd O 0 (some b')) 1 (some c') m≠none->upd (upd O 0 (some b)) 1 (some c) m≠none:=fun m hm=>by
 by_cases e:m=1
 ·subst e;simp
 rw[aj _ _ _ _ e]at hm ⊢;exact ff m hm
theorem we{s:St}{b c:Blk}(h:s.own 0=some b)(k:s.own 1=some c):∀ m d,upd (upd O 0 (some b)) 1 (some c) m=some d->s.own m=some d:=fun m d hm=>by
 by_cases e:m=1
 ·subst e;rw[upd_same]at hm;rw[k,hm]
 rw[aj _ _ _ _ e]at hm;exact dX h m d hm
theorem vq{k l:Nat}{b c:Blk}:∀ m,upd (upd O k (some b)) l (some c) m≠none->m∈[k,l]:=fun m hm=>by
 by_cases e:m=l
 ·simp[e]
 rw[aj _ _ _ _ e]at hm;have:=dN m hm;simp at this;simp[this]
theorem NS{own:Own}{k l:Nat}{b c:Blk}(hkl:Nat.beq k l=false)(h:own k=some b)(h2:own l=some c):∀ m∈[k,l],own m=upd (upd O k (some b)) l (some c) m:=fun m hm=>by
 have hne:k≠l:=fun e=>by rw[e,WH]at hkl;cases hkl
 simp only[List.mem_cons,List.not_mem_nil,or_false]at hm;rcases hm with rfl|rfl
 ·rw[aj _ _ _ _ hne,upd_same,h]
 rw[upd_same,h2]
theorem Ox{a:Nat}(h:(wl a).length<=2):a<18446744073709551616:=by
 have h1:=je a;have h2:4294967296^(wl a).length<=4294967296^2:=UZ (by decide) h;omega
theorem PH{a b c:Int}(h:ck a b c=0):dsc a b c≠0:=fun e=>by
 unfold ck at h;rw[e,uy]at h;simp at h
def gO(b:Nat):Mt:=((Mt.T ((b:Int)%8-3)).mul .S).mul (.T ((b:Int)/8%8-4))
theorem qZ(b:Nat):(gO b).det=1:=by unfold gO;rw[j7,j7,ss,ss,vh];rfl
def md(n:Bool)(w:List Nat):Int:=sg n (wv (w.take 2))
instance :LB 7 3:=⟨by decide⟩
instance :LB 9 3:=⟨by decide⟩
instance :LB 10 3:=⟨by decide⟩
instance :LB 11 3:=⟨by decide⟩
instance :LB 12 3:=⟨by decide⟩
instance :LB 13 3:=⟨by decide⟩
instance :LB 14 3:=⟨by decide⟩
instance :LB 15 3:=⟨by decide⟩
instance :LB 16 3:=⟨by decide⟩
instance :LB 17 3:=⟨by decide⟩
instance :LB 18 3:=⟨by decide⟩
instance :LB 19 3:=⟨by decide⟩
instance :LB 20 3:=⟨by decide⟩
instance :LB 21 3:=⟨by decide⟩
instance :LB 22 3:=⟨by decide⟩
instance :LB 23 3:=⟨by decide⟩
instance :LB 24 3:=⟨by decide⟩
instance :LB 25 3:=⟨by decide⟩
instance :LB 26 3:=⟨by decide⟩
instance :LB 27 3:=⟨by decide⟩
instance :LB 28 3:=⟨by decide⟩
instance :LB 29 3:=⟨by decide⟩
instance :LB 30 3:=⟨by decide⟩
instance :LB 31 3:=⟨by decide⟩
instance :LB 32 3:=⟨by decide⟩
instance :LB 33 3:=⟨by decide⟩
instance :LB 34 3:=⟨by decide⟩
instance :LB 35 3:=⟨by decide⟩
instance :LB 36 3:=⟨by decide⟩
instance :LB 37 3:=⟨by decide⟩
instance :LB 38 3:=⟨by decide⟩
instance :LB 39 3:=⟨by decide⟩
instance :LB 40 3:=⟨by decide⟩
instance :LB 41 3:=⟨by decide⟩
instance :LB 42 3:=⟨by decide⟩
instance :LB 43 3:=⟨by decide⟩
instance :LB 44 3:=⟨by decide⟩
instance :LB 45 3:=⟨by decide⟩
instance :LB 46 3:=⟨by decide⟩
instance :LB 47 3:=⟨by decide⟩
instance :LB 48 3:=⟨by decide⟩
instance :LB 49 3:=⟨by decide⟩
instance :LB 50 3:=⟨by decide⟩
instance :LB 51 3:=⟨by decide⟩
instance :LB 52 3:=⟨by decide⟩
instance :LB 53 3:=⟨by decide⟩
instance :LB 54 3:=⟨by decide⟩
instance :LB 55 3:=⟨by decide⟩
instance :LB 56 3:=⟨by decide⟩
instance :LB 57 3:=⟨by decide⟩
instance :LB 58 3:=⟨by decide⟩
instance :LB 59 3:=⟨by decide⟩
instance :LB 60 3:=⟨by decide⟩
instance :LB 61 3:=⟨by decide⟩
instance :LB 62 3:=⟨by decide⟩
instance :LB 63 3:=⟨by decide⟩
instance :LB 64 3:=⟨by decide⟩
theorem NF{a b c:Int}(h:rdE a b c=0):rdd (rdF a b c).a (rdF a b c).b (rdF a b c).c=true:=by
 obtain⟨M,h1,h2⟩:∃ M,a<=M∧c<=M:=⟨max a c,Int.le_max_left _ _,Int.le_max_right _ _⟩
 exact(qK (sQ h) h1 h2).2
theorem NG{a b c:Int}(h:rdE a b c=0):(rdF a b c).pos:=by
 obtain⟨M,h1,h2⟩:∃ M,a<=M∧c<=M:=⟨max a c,Int.le_max_left _ _,Int.le_max_right _ _⟩
 exact(qK (sQ h) h1 h2).1.pos
def my(f:Fm):Int:=(Int.gcd f.a (Int.gcd f.b f.c:Int):Nat)
theorem xF(f:Fm):my f∣f.a:=U7 ..
theorem xE(f:Fm):my f∣f.b:=Vr (UX ..) (U7 ..)
theorem xD(f:Fm):my f∣f.c:=Vr (UX ..) (UX ..)
theorem DE{d a b c:Int}(ha:d∣a)(hb:d∣b)(hc:d∣c)(x y:Int):d∣vl a b c x y:=by
 unfold vl;exact V6 (V6 (Vo (Vo ha)) (Vo (Vo hb))) (Vo (Vo hc))
theorem Lr{d a b c:Int}(ha:d∣a)(hb:d∣b)(hc:d∣c)(p q r s:Int):d∣apB a b c p q r s:=by
 unfold apB;exact V6 (Int.dvd_mul_of_dvd_right (V6 (Vo (Vo ha)) (Vo (Vo hc)))) (Vo hb)
theorem GE{d:Int}{f:Fm}(ha:d∣f.a)(hb:d∣f.b)(hc:d∣f.c):d∣my f:=Xi ha (Xi hb hc)
theorem GJ(f:Fm)(m:Mt):my f∣my (f.app m) :=
 GE (DE (xF f) (xE f) (xD f) _ _) (Lr (xF f) (xE f) (xD f) _ _ _ _) (DE (xF f) (xE f) (xD f) _ _)
theorem Cq{f:Fm}:prim f.a f.b f.c=true↔my f=1:=by
 unfold prim my;rw[decide_eq_true_iff];omega
theorem Lz(f:Fm):0<=my f:=by unfold my;omega
theorem zf{f:Fm}{m:Mt}(h:prim (f.app m).a (f.app m).b (f.app m).c=true):prim f.a f.b f.c=true:=by
 rw[Cq]at h ⊢;have h1:=GJ f m;rw[h]at h1;exact Int.eq_one_of_dvd_one (Lz f) h1
def Mt.inv(m:Mt):Mt:=⟨m.d*m.det,-m.b*m.det,-m.c*m.det,m.a*m.det⟩
theorem Ko{m:Mt}(h:m.det*m.det=1):m.mul m.inv=.one:=by
 unfold Mt.mul Mt.inv Mt.one;have e:m.a*m.d-m.b*m.c=m.det:=rfl;simp only[Mt.mk.injEq];refine⟨?_,?_,?_,?_⟩ <;> grind
theorem LZ{f:Fm}{m:Mt}(h:m.det*m.det=1):(f.app m).app m.inv=f:=by rw[j9,Ko h,tC]
theorem v6(f:Fm){m:Mt}(h:m.det*m.det=1):prim f.a f.b f.c=prim (f.app m).a (f.app m).b (f.app m).c:=by
 rw[Vg];constructor
 ·intro h1;rw[<- LZ (f:=f) h]at h1;exact zf h1
 exact zf
theorem yF{a b c x y:Int}(hd:dsc a b c<0)(hxy:¬ (x=0∧y=0)):0<a*vl a b c x y:=by
 have e:4*(a*vl a b c x y)=(2*a*x+b*y)*(2*a*x+b*y)-dsc a b c*(y*y):=by unfold vl dsc;grind
 have ha:a≠0:=by
  rintro rfl;unfold dsc at hd;have:=cz b;omega
 have h1:=cz (2*a*x+b*y);by_cases hy:y=0
 ·subst hy;have hx:x≠0:=fun e=>hxy ⟨e,rfl⟩
  have h2:(2*a*x+b*0)*(2*a*x+b*0)=4*((a*x)*(a*x)):=by grind
  have h3:0<(a*x)*(a*x):=by
   have h4:=cz (a*x);have h5:(a*x)*(a*x)≠0:=X3 (X3 ha hx) (X3 ha hx);omega
  simp only[Int.mul_zero,Int.sub_zero]at e;simp only[Int.mul_zero]at h2;omega
 have h2:0<y*y:=by
  have h4:=cz y;have h5:y*y≠0:=X3 hy hy;omega
 have h3:0 < -(dsc a b c)*(y*y):=VX (by omega) h2;rw[Ww]at h3;omega
def FC(f:Fm):List DV:=FL f.a f.b f.c
def FB(e:TypeId)(fs:List Fm):Blk:=⟨true,6,e,fs.flatMap FC⟩
def FsL(fs:List Fm):DV:=.sl fs.length (fs.flatMap FC)
theorem eS(fs:List Fm):(fs.flatMap FC).length=fs.length*6:=by
 induction fs with
 |nil=>rfl
 |cons f fs ih=>rw[UP,UB,ih,U5];show 6+_=_;omega
theorem tG:∀ (fs:List Fm) (i:Nat) (h:i<fs.length),(fs.flatMap FC).drop (i*6)=FC fs[i]++(fs.drop (i+1)).flatMap FC
 | [],_,h=>absurd h (Vz _)
 |f::fs,0,_=>rfl
 |f::fs,i+1,h=>by
  have e:(i+1)*6=6+i*6:=by omega
  rw[e,<- Xy];exact tG fs i (by simpa using h)
section ops
variable {P:Program}{tt:TT}(hT:bM P tt)
variable {dst:Option Nat}{ty:TypeId}{pos:String}{af:Array Edge}{gd:Option (Nat×Bool)}{d:Nat}{ρ:Operand->AV}{own:Own}
variable {T:TypeId}{i:TyI}{x y:Operand}{e:TypeId}{j:TyI}
include hT
theorem rP{m:Nat}{fs:List Fm}{f:Fm}(ht:tt T=some i)(hs:i.sh=.sl e)(he:tt e=some j)(hj:j.size=6)(hjb:Nat.ble j.bytes 192=true)(hx:ρ x=.vec m)(hb:own m=some (FB e fs))(hy:ρ y=.p (.c (.sl 1 (FC f))))(hfit:fs.length<=100000000)(hmd:m≠d) :
  Eff P ⟨dst,.call ⟨.builtin .append,#[x,y],#[T,T]⟩,ty,pos,af,gd⟩ d ρ own (.vec d) [(m,none)] (some (FB e (fs++[f]))) [m]:=by
 have hl:(FB e fs).cs.length=fs.length*6:=eS fs;have h:=gI (dst:=dst) (ty:=ty) (pos:=pos) (af:=af) (gd:=gd) hT ht hs he hx hb rfl hj.symm rfl hy (by rfl) (by rw[hj];rfl) (by rw[hj];exact hjb) (by rw[hl,hj];omega) (by rw[hj];rfl) hmd;rw[hj]at h;unfold FB;rw[VF];have e1:[f].flatMap FC=FC f:=by simp
 rw[e1];exact h
theorem CF{k:IntKind}{n:Int}{fs:List Fm}(ht:tt T=some i)(hs:i.sh=.sl e)(he:tt e=some j)(hj:j.size=6)(hx:ρ x=.p (.c (FsL fs)))(hy:ρ y=.p (.c (.v (.int k n))))(hn:0<=n∧n<fs.length) :
  Eff P ⟨dst,.indexAddr T x y,ty,pos,af,gd⟩ d ρ own (.ip (FC (fs.getD n.toNat ⟨0,0,0⟩)++(fs.drop (n.toNat+1)).flatMap FC)) [] none []:=by
 have hi:n.toNat<fs.length:=by omega
 have h:=b8 (dst:=dst) (ty:=ty) (pos:=pos) (af:=af) (gd:=gd) (d:=d) (own:=own) hT ht hs he hx (l:=fs.length) (xs:=fs.flatMap FC) (by rfl) hy hn (by
  intro h0;have:=eS fs;rw[h0]at this;simp at this;omega)
 rw[hj,tG fs n.toNat hi]at h;have e1:fs.getD n.toNat ⟨0,0,0⟩=fs[n.toNat]:=by simp[List.getD,hi]
 rw[e1];exact h
end ops
def okF(n a b:Int):Bool:=decide ((b*b+n)%(4*a)=0)&&(rdd a b ((b*b+n)/(4*a))&&prim a b ((b*b+n)/(4*a)))
def gR(n a:Int):Nat->Int->List Fm
 |0,_=>[]
 |k+1,b=>(if okF n a b then[⟨a,b,(b*b+n)/(4*a)⟩]else[])++gR n a k (b+1)
def dW(n:Int):Nat->Int->List Fm
 |0,_=>[]
 |k+1,a=>if 3*a*a<=n then gR n a (2*a+1).toNat (-a)++dW n k (a+1)else[]
def lst(n:Int):List Fm:=dW n 100 1
theorem fJ{n a:Int}{f:Fm}:∀ {k:Nat} {b:Int},f∈gR n a k b->∃ b',b<=b'∧b'<b+k∧okF n a b'=true∧f=⟨a,b',(b'*b'+n)/(4*a)⟩
 |0,b,h=>by simp[gR]at h
 |k+1,b,h=>by
  unfold gR at h;rw[Vi]at h;rcases h with h|h
  ·split at h
   ·next hk=>simp at h;exact⟨b,by omega,by omega,hk,h⟩
   simp at h
  obtain⟨b',h1,h2,h3,h4⟩:=fJ h;exact⟨b',by omega,by omega,h3,h4⟩
theorem uj{n:Int}{f:Fm}:∀ {k:Nat} {a:Int},1<=a->f∈dW n k a->∃ a' b',1<=a'∧3*a'*a'<=n∧-a'<=b'∧b'<=a'∧okF n a' b'=true∧f=⟨a',b',(b'*b'+n)/(4*a')⟩
 |0,a,_,h=>by simp[dW]at h
 |k+1,a,ha,h=>by
  unfold dW at h;split at h
  ·next hk =>
   rw[Vi]at h;rcases h with h|h
   ·obtain⟨b',h1,h2,h3,h4⟩:=fJ h;exact⟨a,b',ha,hk,h1,by omega,h3,h4⟩
   exact uj (by omega) h
  simp at h
theorem zI{n:Int}{f:Fm}(h:f∈lst n):1<=f.a∧3*f.a*f.a<=n∧-f.a<=f.b∧f.b<=f.a∧dsc f.a f.b f.c=-n∧rdd f.a f.b f.c=true∧prim f.a f.b f.c=true:=by
 obtain⟨a,b,h1,h2,h3,h4,h5,rfl⟩:=uj (by omega) h;unfold okF at h5;rw[Uw,Uw,decide_eq_true_iff]at h5;refine⟨h1,h2,h3,h4,?_,h5.2.1,h5.2.2⟩;have h6:=UC (b*b+n) (4*a);rw[h5.1]at h6;show b*b-4*a*((b*b+n)/(4*a))=-n;omega
theorem OA{n:Int}(h3:3<=n)(h:n%4=0∨n%4=3):lst n≠[]:=by
 have key:∀ b:Int,b=0∨b=1->(b*b+n)%4=0->okF n 1 b=true:=by
  intro b hb h4;have hc:(b*b+n)/(4*1)=(b*b+n)/4:=rfl;have hd:dsc 1 b ((b*b+n)/4)=-n:=by
   unfold dsc;have:=UC (b*b+n) 4;omega
  unfold okF;rw[Uw,Uw,decide_eq_true_iff,hc];have hp:Fm.pos ⟨1,b,(b*b+n)/4⟩:=⟨by show(0:Int)<1;omega,by show dsc _ _ _<0;rw[hd];omega⟩
  refine⟨h4,?_,?_⟩
  ·refine(px hp).2 ?_;rcases hb with rfl|rfl
   ·simp only;omega
   simp only;omega
  unfold prim;rw[decide_eq_true_iff];exact Int.one_gcd
 have e:lst n=gR n 1 3 (-1)++dW n 99 2:=by
  show dW n (99+1) 1=_;unfold dW;rw[H2 (by omega)];rfl
 rw[e];intro h0;have h1:=(W9.1 h0).1;have e2:gR n 1 3 (-1)=(if okF n 1 (-1)then[⟨1,-1,((-1)*(-1)+n)/(4*1)⟩]else[])++((if okF n 1 0 then[⟨1,0,(0*0+n)/(4*1)⟩]else[])++((if okF n 1 1 then[⟨1,1,(1*1+n)/(4*1)⟩]else[])++[])):=rfl;rw[e2]at h1;have h2:=(W9.1 (W9.1 h1).2)
 rcases h with h|h
 ·rw[H2 (key 0 (.inl rfl) (by omega))]at h2;exact absurd h2.1 (by simp)
 have h5:=(W9.1 h2.2).1;rw[H2 (key 1 (.inr rfl) (by omega))]at h5;exact absurd h5 (by simp)
section ghost
variable {P:Program}{B:Bool}{N np:Nat}{Q:Exit->St->Prop}{s:St}{c:Code}
theorem mA{t m:Nat}{fs:List Fm}{be:TypeId}(ht:s.regs t=.vec m)(hb:s.own m=some (FB be fs))(h:AWp P B N np c Q ⟨upd s.regs t (.p (.c (FsL fs))),upd s.own m none⟩):AWp P B N np c Q s:=by
 refine fe (n:=fs.length) ht hb rfl (eS fs).symm (by show 0<6;omega) ?_;exact h
end ghost
theorem sK{x m:Int}(h:-m<=x∧x<=m):0<=x*x∧x*x<=m*m:=⟨cz x,fx (by omega)⟩
theorem T6{a N:Int}(_h1:1<=a)(h:3*a*a<=N)(hN:N<=2003):a<=25:=by
 rcases UY 25 a with h2|h2
 ·have h3:(26:Int)*26<=a*a:=Ve (by omega) (by omega) (by omega) (by omega);have e:3*a*a=3*(a*a):=UG ..;omega
 exact h2
def szz(D:Nat):Int:=if(3+(D:Int)%2000)%4=1 then 3+(D:Int)%2000+2 else if(3+(D:Int)%2000)%4=2 then 3+(D:Int)%2000+1 else 3+(D:Int)%2000
theorem dj(D:Nat):3+(D:Int)%2000<=szz D∧3<=szz D∧szz D<=2003∧(szz D%4=0∨szz D%4=3)∧∀ n:Int,3+(D:Int)%2000<=n->n<=szz D->(n%4=0∨n%4=3)->n=szz D:=by
 unfold szz;have h1:=UF (D:Int) (show(2000:Int)≠0 by omega);have h2:=UK (D:Int) (show(0:Int)<2000 by omega);generalize (D:Int)%2000=d at *;split
 ·refine⟨by omega,by omega,by omega,by omega,fun n _ _ _=>by omega⟩
 split
 ·refine⟨by omega,by omega,by omega,by omega,fun n _ _ _=>by omega⟩
 refine⟨by omega,by omega,by omega,by omega,fun n _ _ _=>by omega⟩
def pik(D i:Nat):Fm:=(lst (szz D)).getD ((i:Int)%((lst (szz D)).length:Nat)).toNat ⟨0,0,0⟩
def mkF(D i m:Nat):Fm:=if m%4=0 then pik D i else(pik D i).app (gO m)
theorem KD(D:Nat):0<(lst (szz D)).length:=WY.2 (OA (dj D).2.1 (dj D).2.2.2.1)
theorem J0(D i:Nat):pik D i∈lst (szz D):=by
 unfold pik;have h:=KD D;have h1:=UF (i:Int) (show((lst (szz D)).length:Int)≠0 by omega);have h2:=UK (i:Int) (show(0:Int)<((lst (szz D)).length:Int) by omega);have h3:((i:Int)%((lst (szz D)).length:Nat)).toNat<(lst (szz D)).length:=by omega
 rw[List.getD,Fl h3];exact WC h3
theorem oj(D i:Nat):1<=(pik D i).a∧(pik D i).a<=25∧-(pik D i).a<=(pik D i).b∧(pik D i).b<=(pik D i).a∧dsc (pik D i).a (pik D i).b (pik D i).c=-szz D∧rdd (pik D i).a (pik D i).b (pik D i).c=true∧prim (pik D i).a (pik D i).b (pik D i).c=true:=by
 obtain⟨h1,h2,h3,h4,h5,h6,h7⟩:=zI (J0 D i);exact⟨h1,T6 h1 h2 (dj D).2.2.1,h3,h4,h5,h6,h7⟩
theorem N6{n a b:Int}(h:(b*b+n)%(4*a)=0):okF n a b=(rdd a b ((b*b+n)/(4*a))&&prim a b ((b*b+n)/(4*a))):=by unfold okF;rw[G6 h];rfl
theorem Mr{a b c x y:Int}(hb:(b.natAbs:Int)<=a):a*((x.natAbs:Int)*x.natAbs)-a*((x.natAbs:Int)*y.natAbs)+c*((y.natAbs:Int)*y.natAbs)<=vl a b c x y:=by
 have e1:a*x*x=a*((x.natAbs:Int)*x.natAbs):=by rw[Xt,UG]
 have e2:c*y*y=c*((y.natAbs:Int)*y.natAbs):=by rw[Xt,UG]
 have e3:((b*x*y).natAbs:Int)=(b.natAbs:Int)*((x.natAbs:Int)*y.natAbs):=by rw[VZ,VZ];simp[Int.mul_assoc]
 have h1:(b.natAbs:Int)*((x.natAbs:Int)*y.natAbs)<=a*((x.natAbs:Int)*y.natAbs):=UM hb (Vd (by omega) (by omega));unfold vl;rw[e1,e2];omega
theorem HY{a b c x y:Int}(ha:0<a)(hb:(b.natAbs:Int)<=a)(hc:a<=c)(hy:y≠0):c<=vl a b c x y:=by
 refine X6 ?_ (Mr hb);have hy1:1<=(y.natAbs:Int):=by omega
 have hx0:0<=(x.natAbs:Int):=by omega
 generalize (x.natAbs:Int)=u at *;generalize (y.natAbs:Int)=v at *;have k1:a*(u*u)-a*(u*v)=a*(u*(u-v)):=by grind
 have hv:1<=v*v:=by
  have:1*1<=v*v:=Ve hy1 hy1 (by omega) (by omega);omega
 rcases Int.le_total v u with h|h
 ·have h1:0<=a*(u*(u-v)):=Vd (by omega) (Vd hx0 (by omega));have h2:c*1<=c*(v*v):=Up hv (by omega);omega
 have h0:0<=a*(u*u):=Vd (by omega) (cz u);rcases UY u v with h'|h'
 ·have h3:a*(u*v)<=c*(u*v):=UM hc (Vd hx0 (by omega));have k2:c*(v*v)-c*(u*v)=c*(v*(v-u)):=by grind
  have h4:1*1<=v*(v-u):=Ve hy1 (by omega) (by omega) (by omega);have h5:c*1<=c*(v*(v-u)):=Up (by omega) (by omega);omega
 have e:u=v:=by omega
 subst e;have h2:c*1<=c*(u*u):=Up hv (by omega);omega
theorem Rs{a b c x y:Int}(ha:0<a)(hb:(b.natAbs:Int)<=a)(hc:a<=c)(h:x≠0∨y≠0):a<=vl a b c x y:=by
 by_cases hy:y=0
 ·subst hy;have hx:x≠0:=h.resolve_right (fun k=>k rfl);have e:vl a b c x 0=a*((x.natAbs:Int)*x.natAbs):=by unfold vl;rw[Xt];grind
  rw[e];have hx1:1<=(x.natAbs:Int):=by omega
  generalize (x.natAbs:Int)=u at *;have h1:1*1<=u*u:=Ve hx1 hx1 (by omega) (by omega);have h2:a*1<=a*(u*u):=Up (by omega) (by omega);omega
 exact X6 hc (HY ha hb hc hy)
theorem Kt(D i m:Nat):(mkF D i m).pos:=by
 obtain⟨h1,_,_,_,h5,_⟩:=oj D i;have h3:=(dj D).2.1;have hp:(pik D i).pos:=⟨by omega,by show dsc _ _ _<0;omega⟩
 unfold mkF;split
 ·exact hp
 have hd:=qZ m;refine⟨?_,?_⟩
 ·have hm:¬ ((gO m).a=0∧(gO m).c=0):=by
   rintro⟨k1,k2⟩;unfold Mt.det at hd;rw[k1,k2]at hd;simp at hd
  have hs:=yF (a:=(pik D i).a) (b:=(pik D i).b) (c:=(pik D i).c) (x:=(gO m).a) (y:=(gO m).c) (by omega) hm;show 0<vl (pik D i).a (pik D i).b (pik D i).c (gO m).a (gO m).c;rcases UY 0 (vl (pik D i).a (pik D i).b (pik D i).c (gO m).a (gO m).c)with h|h
  ·exact h
  have:=Vb (show 0<=(pik D i).a by omega) h;omega
 show((pik D i).app (gO m)).disc<0;rw[lM hd];exact hp.2
structure Rd(g:Fm):Prop where
 a:0<g.a
 b:(g.b.natAbs:Int)<=g.a
 c:g.a<=g.c
 s:((g.b.natAbs:Int)<g.a∧g.a<g.c)∨0<=g.b
theorem Rd.of{g:Fm}(hp:0<g.a)(h:rdd g.a g.b g.c=true):Rd g:=by
 have h1:=rdd_iff.1 h;exact⟨hp,h1.2.2.1,h1.2.2.2.1,h1.2.2.2.2⟩
theorem DH{m:Mt}(h:m.det=1):m.a≠0∨m.c≠0:=by
 by_cases h1:m.a=0
 ·right;intro h2;unfold Mt.det at h;rw[h1,h2]at h;simp at h
 exact .inl h1
theorem tE{m:Mt}:m.adj.det=m.det:=by unfold Mt.adj Mt.det;grind
theorem lj{g:Fm}{m:Mt}(h:m.det=1):(g.app m).app m.adj=g:=by
 rw[j9];have e:m.mul m.adj=.one:=by
  have h':m.a*m.d-m.b*m.c=1:=h;unfold Mt.mul Mt.adj Mt.one;simp only[Mt.mk.injEq];refine⟨?_,?_,?_,?_⟩ <;> grind
 rw[e,tC]
theorem Rd.le{g:Fm}{m:Mt}(hg:Rd g)(h:m.det=1):g.a<=(g.app m).a:=Rs hg.a hg.b hg.c (DH h)
theorem Rd.cle{g:Fm}{m:Mt}(hg:Rd g)(h:m.c≠0):g.c<=(g.app m).a:=HY hg.a hg.b hg.c h
theorem vR{g:Fm}{m:Mt}(hg:Rd g)(hm:m.det=1)(hh:Rd (g.app m)):g.app m=g:=by
 have ha:(g.app m).a=g.a:=by
  have h1:=hg.le hm;have h2:=hh.le (m:=m.adj) (by rw[tE];exact hm);rw[lj hm]at h2;omega
 have hd:(g.app m).disc=g.disc:=lM hm;have fin:(g.app m).b=g.b->g.app m=g:=by
  intro hb;have hc:(g.app m).c=g.c:=by
   have h1:(g.app m).b*(g.app m).b-4*(g.app m).a*(g.app m).c=g.b*g.b-4*g.a*g.c:=hd;rw[hb,ha]at h1;have h2:g.a*(g.app m).c=g.a*g.c:=by
    have e1:4*g.a*(g.app m).c=4*(g.a*(g.app m).c):=UG ..;have e2:4*g.a*g.c=4*(g.a*g.c):=UG ..;omega
   exact U0 (by have:=hg.a;omega) h2
  exact Fm.ext ha hb hc
 apply fin;by_cases hy:m.c=0
 ·have h1:m.a*m.d=1:=by
   have:m.a*m.d-m.b*m.c=1:=hm;rw[hy]at this;omega
  have hb:(g.app m).b=g.b+2*g.a*(m.a*m.b):=by
   show apB g.a g.b g.c m.a m.b m.c m.d=_;unfold apB;rw[hy];grind
  have s1:=hg.s;have s2:=hh.s;have b1:=hg.b;have b2:=hh.b;have a1:=hg.a;rw[ha]at s2 b2;generalize (g.app m).b=B at *;generalize m.a*m.b=t at *;have ht:t=0:=by
   rcases UY t 0 with h|h
   ·exfalso;have:g.a*t<=g.a*(-1):=Up (by omega) (by omega);have e:2*g.a*t=2*(g.a*t):=UG ..;omega
   rcases UY 0 t with h'|h'
   ·exfalso;have:g.a*1<=g.a*t:=Up (by omega) (by omega);have e:2*g.a*t=2*(g.a*t):=UG ..;omega
   omega
  rw[ht]at hb;omega
 have h1:g.c<=(g.app m).a:=hg.cle hy;have h2:(g.app m).c<=g.a:=by
  have:=hh.cle (m:=m.adj) (by show -m.c≠0;omega);rw[lj hm]at this;exact this
 have c1:=hg.c;have c2:=hh.c;have s1:=hg.s;have s2:=hh.s;have e1:g.c=g.a:=by omega
 have e2:(g.app m).c=g.a:=by omega
 have h3:(g.app m).b*(g.app m).b-4*(g.app m).a*(g.app m).c=g.b*g.b-4*g.a*g.c:=hd;rw[ha,e2,e1]at h3;have h4:(g.app m).b*(g.app m).b=g.b*g.b:=by omega
 have p1:0<=g.b:=by omega
 have p2:0<=(g.app m).b:=by omega
 have q1:=jL p1 (Int.le_of_eq h4);have q2:=jL p2 (Int.le_of_eq h4.symm);omega
theorem sP{f:Fm}(hf:f.pos):∃ m:Mt,m.det=1∧rdF f.a f.b f.c=f.app m:=by
 have he:rdE f.a f.b f.c=0:=pz hf;obtain⟨h1,_⟩:=qK (M:=max f.a f.c) hf (by omega) (by omega);exact⟨(rdS f.a f.b f.c).2,h1.det,h1.eq⟩
theorem JY{f:Fm}{m:Mt}(hf:f.pos)(hd:m.det=1):(f.app m).pos:=by
 refine⟨?_,?_⟩
 ·have hm:¬ (m.a=0∧m.c=0):=by
   rintro⟨k1,k2⟩;rcases DH hd with h|h
   ·exact h k1
   exact h k2
  have hs:=yF (a:=f.a) (b:=f.b) (c:=f.c) (x:=m.a) (y:=m.c) hf.2 hm;show 0<vl f.a f.b f.c m.a m.c;rcases UY 0 (vl f.a f.b f.c m.a m.c)with h|h
  ·exact h
  have h0:=hf.1;have:=Vb (show 0<=f.a by omega) h;omega
 show(f.app m).disc<0;rw[lM hd];exact hf.2
theorem Rd.rdF{f:Fm}(hf:f.pos):Rd (AM.rdF f.a f.b f.c):=by
 have he:rdE f.a f.b f.c=0:=pz hf;exact Rd.of (NG he).1 (NF he)
theorem Eh{f:Fm}{t:Mt}(hf:f.pos)(ht:t.det=1):rdF (f.app t).a (f.app t).b (f.app t).c=rdF f.a f.b f.c:=by
 have hp:=JY hf ht;obtain⟨m,hm,e⟩:=sP hf;obtain⟨k,hk,e'⟩:=sP hp;have r1:=Rd.rdF hf;have r2:=Rd.rdF hp;have e3:(f.app m).app (m.adj.mul (t.mul k))=(f.app t).app k:=by
  rw[<- j9,lj hm,j9]
 rw[e]at r1;rw[e']at r2;rw[e,e'];rw[<- e3]at r2 ⊢;exact vR r1 (by rw[j7,j7,tE,hm,ht,hk];rfl) r2
theorem Ku(D i m:Nat):dsc (mkF D i m).a (mkF D i m).b (mkF D i m).c=-szz D:=by
 obtain⟨_,_,_,_,h5,_⟩:=oj D i;unfold mkF;split
 ·exact h5
 have:=lM (f:=pik D i) (qZ m);exact Eq.trans this h5
def Fm.mi(f:Fm):Fm:=⟨f.a,-f.b,f.c⟩
theorem Rv(f:Fm):f.mi.mi=f:=by unfold Fm.mi;simp
theorem Oq{f:Fm}(h:f.pos):f.mi.pos:=⟨h.1,by show dsc _ (-_) _<0;rw[Ac];exact h.2⟩
def Fm.rd(f:Fm):Fm:=rdF f.a f.b f.c
theorem mN{f:Fm}{t:Mt}(hf:f.pos)(ht:t.det=1):(f.app t).rd=f.rd:=Eh hf ht
theorem ly{f:Fm}(hf:f.pos):∃ m:Mt,m.det=1∧f.rd=f.app m:=sP hf
structure Rest(n0:Nat)(G:Nat->Prop)(h:Hp)(W:World)(h':Hp)(W':World):Prop where
 os:W'.os=W.os
 tape:W'.tape=W.tape
 output:OutD W' W
 size:W.heap.size<=W'.heap.size
 old:∀ i,i<W.heap.size->W'.heap[i]?=W.heap[i]?∨(n0<=i∧¬ G i∧h i=none)
 hi:∀ i o,h' i=some o->W'.heap[i]?=some o
 hg:Hle h h'
 hn:∀ i,h' i≠none->h i≠none∨(n0<=i∧¬ G i)
structure Gave(G:Nat->Prop)(h:Hp)(W:World)(G':Nat->Prop)(h':Hp)(W':World):Prop where
 os:W'.os=W.os
 tape:W'.tape=W.tape
 output:OutD W' W
 size:W.heap.size<=W'.heap.size
 old:∀ i,i<W.heap.size->¬ G i->W'.heap[i]?=W.heap[i]?
 hg:Hle h h'
 hn:∀ i,h' i≠none->h i≠none∨W.heap.size<=i∨G i
 gg:∀ i,G' i->G i∨W.heap.size<=i
structure Keeps(P:Program)(l:Nat)(xs:List (List PV))(n0:Nat)(J:Nat->Hp->(Nat->Prop)->World->Prop):Prop where
 hi:∀ k h G W,J k h G W->∀ i o,h i=some o->W.heap[i]?=some o
 g:∀ k h G W,J k h G W->∀ i,G i->i<W.heap.size∧h i=none
 rest:∀ k h G W h' W',J k h G W->Rest n0 G h W h' W'->J k h' G W'
 give:∀ k h G W x vals,xs[k]?=some x->J k h G W->PReps h x vals->YieldAt (Wd none) 0 P l vals.toArray W fun e W'=>e=.returned (.bool true)∧∃ h' G',J (k+1) h' G' W'∧Gave G h W G' h' W'
structure Iter(P:Program)(gf:FuncId)(caps:List (List DV))(xs:List (List PV)):Prop where
 fn:lS P gf
 go:∀ (l:Nat) (lb:Array Value) (J:Nat->Hp->(Nat->Prop)->World->Prop) (h:Hp) (G:Nat->Prop) (W:World),CapsRep h caps lb.toList->GlOK h->Keeps P l xs W.heap.size J->J 0 h G W ->
  CallsIn (Wd none) 0 P gf (#[.func (.yield l) #[] #[]]++lb) W fun e W'=>(∃ v,e=.returned v)∧∃ h' G',J xs.length h' G' W'
def nl:eR->List Nat->List PV->eR
 |regs,p::ps,x::xs=>nl (upd regs p (.p x)) ps xs
 |regs,_,_=>regs
theorem gj{h:Hp}{r:Nat->Value}:∀ (ps:List Nat) (x:List PV) (vals:List Value) (regs:eR) (t:Array Value),PReps h x vals->x.length=ps.length->(∀ p∈ps,p<t.size) ->
  RegsOK h r regs { tmps:=t,defers:=[] } ->
  RegsOK h r (nl regs ps x) { tmps:=(ps.zip vals).foldl (fun t (p,v)=>t.setIfInBounds p v) t,defers:=[] }∧((ps.zip vals).foldl (fun t (p,v)=>t.setIfInBounds p v) t).size=t.size
 | [],[],vals,regs,t,_,_,_,k=>by simp[nl];exact k
 |p::ps,[],_,_,_,_,hl,_,_=>by simp at hl
 | [],x::xs,_,_,_,_,hl,_,_=>by simp at hl
 |p::ps,x::xs,[],_,_,hv,_,_,_=>hv.elim
 |p::ps,x::xs,v::vals,regs,t,hv,hl,hp,k=>by
  have k1:RegsOK h r (upd regs p (.p x)) { tmps:=t.setIfInBounds p v,defers:=[] }:=by
   intro u;show AVRep h r (upd regs p (.p x) u) ((t.setIfInBounds p v).getD u undef);rw[kD _ _ _ _ (hp p (by simp)),vp];by_cases e:u=p
   ·rw[H2 e,H2 e];exact hv.1
   rw[G2 e,G2 e];exact k u
  obtain⟨g1,g2⟩:=gj ps xs vals (upd regs p (.p x)) (t.setIfInBounds p v) hv.2 (by simpa using hl) (fun q hq=>by simpa using hp q (by simp[hq])) k1;exact⟨g1,by rw[List.zip_cons_cons,List.foldl_cons];rw[g2];simp⟩
section round
variable {C:Ctx}{h h':Hp}{r r':Nat->Value}{own own':Own}{w w':World}{L np':Nat}
def Ctx.round(h:Hp)(r:Nat->Value)(own:Own)(w:World)(np':Nat):Ctx:=⟨w,h,fun i=>∃ m,own m≠none∧aD (r m)=some i,r,np',false⟩
theorem WOK.enter(k:WOK C h r own w):WOK (Ctx.round h r own w np') h r own w :=
 ⟨k.ow,k.inj,k.hi,k.ho,rfl,rfl,.refl _,Iv _,fun _ _ _=>rfl,fun m _ hm e=>.inr ⟨m,hm,e⟩,.refl _,fun _ e=>.inl e,k.gl,fun _ _=>rfl,k.lk⟩
theorem WOK.leave(k:WOK C h r own w)(q:WOK (Ctx.round h r own w np') h' r' own' w')(hnp:C.np<=np'):WOK C h' r' own' w':=by
 have hF:∀ i,(Ctx.round h r own w np').F i->C.w0.heap.size<=i∨C.F i:=by
  rintro i ⟨m,hm,e⟩;exact k.fo m i hm e
 refine⟨q.ow,q.inj,q.hi,q.ho,q.os.trans k.os,q.tape.trans k.tape,q.output.trans k.output,UA k.size q.size,fun i hi hf=>?_,fun m i hm e=>?_,k.hg.trans q.hg,fun i hi=>?_,q.gl,fun m hm=>?_,q.lk⟩
 ·have:=q.old i (Vf hi k.size) (fun x=>by
   rcases hF i x with g|g
   ·omega
   exact hf g)
  rw[this];exact k.old i hi hf
 ·rcases q.fo m i hm e with g|g
  ·exact .inl (UA k.size g)
  exact hF i g
 ·rcases q.hn i hi with g|g|g
  ·exact k.hn i g
  ·exact .inr (.inl (UA k.size g))
  exact .inr (hF i g)
 rw[q.kp m (Vf hm hnp)];exact k.kp m hm
theorem WOK.putL{o:Obj}(k:WOK C h r own w)(hL:∀ m,own m≠none->aD (r m)≠some L)(hh:h L=none)(hs:C.w0.heap.size<=L):WOK C h r own (w.putObj L o):=by
 have old:∀ i,i≠L->(w.putObj L o).heap[i]?=w.heap[i]?:=fun i hi=>bO hi
 refine⟨fun m b e=>(k.ow m b e).world fun i hi=>old i fun x=>hL m (by rw[e];simp) (by rw[hi,x]),k.inj,fun i o' e=>?_,k.ho,k.os,k.tape,k.output,by rw[bb];exact k.size,fun i hi hf=>?_,k.fo,k.hg,k.hn,k.gl,k.kp,fun m b j e hj=>?_⟩
 ·rw[old i fun x=>by subst x;rw[hh]at e;cases e];exact k.hi i o' e
 ·rw[old i (by omega)];exact k.old i hi hf
 obtain⟨q,t,h1,h2⟩:=k.lk m b j e hj;refine⟨q,t,h1,?_⟩;rw[old q fun x=>hL m (by rw[e];simp) (by rw[h1,x];rfl)];exact h2
theorem WOK.rec_left(hL0:∀ m,own m≠none->aD (r m)≠some L)(q:WOK (Ctx.round h r own w np') h' r' own' w'){o:Obj}(hL:w.heap[L]?=some o)(hh:h L=none):w'.heap[L]?=some o∧h' L=none∧∀ m,own' m≠none->aD (r' m)≠some L:=by
 have hlt:L<w.heap.size:=(K0.1 hL).1;have hF:¬ (Ctx.round h r own w np').F L:=by rintro⟨m,hm,e⟩;exact hL0 m hm e
 refine⟨?_,?_,fun m hm e=>?_⟩
 ·rw[q.old L hlt hF];exact hL
 ·cases e:h' L with
  |none=>rfl
  |some o' =>
   rcases q.hn L (by rw[e];simp)with g|g|g
   ·exact absurd hh g
   ·have:w.heap.size<=L:=g;omega
   exact absurd g hF
 rcases q.fo m L hm e with g|g
 ·have:w.heap.size<=L:=g;omega
 exact hF g
theorem WOK.rest(k:WOK C h r own w){n0:Nat}{G:Nat->Prop}(q:Rest n0 G h w h' w')(hG:∀ m i,own m≠none->aD (r m)=some i->G i)(h0:C.w0.heap.size<=n0):WOK C h' r own w':=by
 have same:∀ m i,own m≠none->aD (r m)=some i->w'.heap[i]?=w.heap[i]?:=fun m i hm e=>by
  rcases q.old i (k.lt hm e)with g|⟨_,g,_⟩
  ·exact g
  exact absurd (hG m i hm e) g
 refine⟨fun m b e=>((k.ow m b e).mono q.hg).world fun i hi=>same m i (by rw[e];simp) hi,k.inj,q.hi,fun m i hm e=>?_,q.os.trans k.os,q.tape.trans k.tape,q.output.trans k.output,UA k.size q.size,fun i hi hf=>?_,k.fo,k.hg.trans q.hg,fun i hi=>?_,k.gl.mono q.hg,k.kp,fun m b j e hj=>?_⟩
 ·cases hh:h' i with
  |none=>rfl
  |some o =>
   rcases q.hn i (by rw[hh];simp)with g|g
   ·exact absurd (k.ho m i hm e) g
   exact absurd (hG m i hm e) g.2
 ·rcases q.old i (Vf hi k.size)with g|⟨g,_,_⟩
  ·rw[g];exact k.old i hi hf
  omega
 ·rcases q.hn i hi with g|g
  ·exact k.hn i g
  exact .inr (.inl (UA h0 g.1))
 obtain⟨q1,t,h1,h2⟩:=k.lk m b j e hj;exact⟨q1,t,h1,by rw[same m q1 (by rw[e];simp) (by rw[h1];rfl)];exact h2⟩
end round
def GW(np':Nat)(o o':Own):Prop:=∀ (C:Ctx) (h:Hp) (r:Nat->Value) (w:World),C.np<=np'->WOK C h r o w ->
 ∃ r2,(∀ m,m<np'->r2 m=r m)∧WOK C h r2 o' w∧∀ m i,o' m≠none->aD (r2 m)=some i->∃ m2,o m2≠none∧aD (r m2)=some i
theorem GW.forget{np':Nat}{o o':Own}(e:∀ m,o' m=o m∨o' m=none):GW np' o o':=fun C h r w _ k =>
 ⟨r,fun _ _=>rfl,k.forget e,fun m i hm hi=>⟨m,by
  rcases e m with g|g
  ·rw[<- g];exact hm
  exact absurd g hm,hi⟩⟩
def ta(np':Nat)(l:List (Nat×AV)):Bool:=l.all fun p=>(men p.2).all fun m=>Nat.blt m np'
theorem lD{np':Nat}:∀ {l:List (Nat×AV)},ta np' l=true->∀ t,∀ m∈men (a7 l t),m<np'
 | [],_,t,m,hm=>by simp[a7,men]at hm
 |(k,v)::l,h,t,m,hm=>by
  unfold ta at h;rw[List.all_cons,Uw]at h;simp only[a7,vp]at hm;by_cases e:t=k
  ·rw[H2 e]at hm;have:=Uo.1 h.1 m hm;simpa using this
  rw[G2 e]at hm;exact lD (l:=l) h.2 t m hm
theorem ny{C:Ctx}{h:Hp}{D:Nat}(hD:h D=none):∀ {ds:List Deferred},Marks C h ds->∀ x∈ds,x.target≠.collected D
 | [],_,x,hx=>by simp at hx
 |d::ds,⟨_,⟨D',h1,_,_,h4,_⟩,k⟩,x,hx=>by
  rcases Vh.1 hx with rfl|hx
  ·intro e;rw[h1]at e;have:D'=D:=by simpa using e
   subst this;rw[hD]at h4;cases h4
  exact ny hD k x hx
theorem o9{P:Program}{N np:Nat}{Q:Exit->St->Prop}{l:List (Nat×AV)}{g:Operand}{ps:Array Tmp}{assign body:Code}{gf:FuncId}{caps:List (List DV)}{xs:List (List PV)}(np':Nat)(own:Nat->Own)(hg:ev (a7 l) g=.fn gf caps)(hit:Iter P gf caps xs)(hps:∀ x∈xs,x.length=ps.toList.length)(hfix:ta np' l=true)(hnp:Nat.ble np np'=true)(hpN:(ps.toList.all fun p=>Nat.blt p N)=true)(hround:∀ (k:Nat) (x:List PV),xs[k]?=some x->AWp P true N np' assign (kn (AWp P true N np' body (fun e s'=>e=.normal∧GW np' s'.own (own (k+1)))) (fun _ _=>False)) ⟨nl (a7 l) ps.toList x,own k⟩)(hdone:Q .normal ⟨a7 l,own xs.length⟩):AWp P false N np (.rangeFunc g ps assign body) Q ⟨a7 l,own 0⟩:=by
 intro ro hB C hh r a w hn hc;have hro:ro=none:=hB rfl;subst hro;have hnp':=bL0 hnp;have hmar:C.mar=true:=hn.2;refine wpIn_rangeFunc ?_;intro fn _;have hgv:=eL hc.rg g;rw[hg]at hgv;obtain⟨lb,hval,hcaps⟩:=hgv;obtain⟨rec,hrec⟩:∃ rec:LoopState->Option Code->Loop,rec=fun st pe=>{ state:=st,pending:=pe,fn,tmps:=a.tmps,params:=ps,assign,body,defers:=w.heap.size }:=⟨_,rfl⟩
 obtain⟨W1,hW1⟩:∃ W1,(w.alloc (.deferred (some []))).alloc (.loop (rec .ready none))=W1:=⟨_,rfl⟩
 obtain⟨hw1,hle1⟩:=hc.wk.imm (.deferred (some []));obtain⟨h1,hh1⟩:∃ h1:Hp,h1=fun i=>if i=w.heap.size then some (.deferred (some []))else hh i:=⟨_,rfl⟩
 rw[<- hh1]at hw1 hle1;have hs1:W1.heap.size=w.heap.size+2:=by rw[<- hW1];simp
 have hold1:∀ i,i<(w.alloc (.deferred (some []))).heap.size->W1.heap[i]?=(w.alloc (.deferred (some []))).heap[i]?:=fun i hi=>by
  rw[<- hW1,heap_alloc,G2 (by omega)]
 have hw2:WOK C h1 r (own 0) W1:=hw1.beside (by rw[<- hW1];rfl) (by rw[<- hW1];rfl) (by rw[<- hW1];exact⟨rfl,trivial⟩) (by rw[hs1];simp) hold1;have hL1:W1.heap[w.heap.size+1]?=some (.loop (rec .ready none)):=by
  rw[<- hW1,heap_alloc,H2 (by simp)]
 have hD0:hh w.heap.size=none:=by
  cases e:hh w.heap.size with
  |none=>rfl
  |some o=>have:=hc.wk.hlt e;omega
 have hhL:h1 (w.heap.size+1)=none:=by
  rw[hh1];show(if w.heap.size+1=w.heap.size then _ else hh (w.heap.size+1))=none;rw[G2 (by omega)];cases e:hh (w.heap.size+1)with
  |none=>rfl
  |some o=>have:=hc.wk.hlt e;omega
 have hnoL:∀ m,own 0 m≠none->aD (r m)≠some (w.heap.size+1):=fun m hm e=>by
  have:=hc.wk.lt hm e;omega
 have hD1:h1 w.heap.size=some (.deferred (some [])):=by rw[hh1];exact H2 rfl
 generalize hLL:w.heap.size+1=L at *;have hCL:C.w0.heap.size<=L:=by have:=hc.wk.size;omega
 refine⟨L,[{ target:=.collected w.heap.size,args:=#[] }],W1,{ target:=.fn (.func gf) lb,args:=#[.func (.yield L) #[] #[]] },W1,gf,#[.func (.yield L) #[] #[]]++lb,W1,?_,?_,fun _ _=>trivial,?_,fun e=>by simp[Wd]at e,?_⟩
 ·rw[<- hW1,hrec,<- hLL];exact run_enterLoop_outer _ _ _ _ _
 ·simp only[resolve,hval];simp[go_sem]
 ·have eg:∀ args w,(callFunc gf args).run P w=.ok (.enter gf args) w:=fun args w=>bU hit.fn args w
  simp[invoke,go_sem,eg]
 have hmen:=lD hfix;obtain⟨J,hJ⟩:∃ J:Nat->Hp->(Nat->Prop)->World->Prop,J=fun k h G W=>∃ r',(∀ m,m<np'->r' m=r m)∧WOK C h r' (own k) W∧W.heap[L]?=some (.loop (rec .ready none))∧h L=none∧(∀ m,own k m≠none->aD (r' m)≠some L)∧Hle h1 h ∧
   G=fun i=>i=L∨∃ m,own k m≠none∧aD (r' m)=some i:=⟨_,rfl⟩
 have hrg:∀ h r',Hle h1 h->(∀ m,m<np'->r' m=r m)->RegsOK h r' (a7 l) a:=fun h r' hl hr t =>
  AVRep.rebind _ _ (fun m hm=>hr m (hmen t m hm)) (AVRep.mono (hle1.trans hl) _ _ (hc.rg t))
 refine CallsIn.mono (hit.go L lb J h1 (fun i=>i=L∨∃ m,own 0 m≠none∧aD (r m)=some i) W1 (hcaps.mono hle1) hw2.gl ⟨?_,?_,?_,?_⟩ ?_) ?_
 ·intro k h G W hk;rw[hJ]at hk;obtain⟨r',_,q,_⟩:=hk;exact q.hi
 ·intro k h G W hk i hi;rw[hJ]at hk;obtain⟨r',e1,e2,e3,e4,e5,e6,rfl⟩:=hk;rcases hi with rfl|⟨m,hm,e⟩
  ·exact⟨(K0.1 e3).1,e4⟩
  exact⟨e2.lt hm e,e2.ho m i hm e⟩
 ·intro k h G W h' W' hk q;rw[hJ]at hk ⊢;obtain⟨r',e1,e2,e3,e4,e5,e6,rfl⟩:=hk;have hlt:L<W.heap.size:=(K0.1 e3).1;refine⟨r',e1,e2.rest q (fun m i hm e=>.inr ⟨m,hm,e⟩) (UA hw2.size (Iv _)),?_,?_,e5,e6.trans q.hg,rfl⟩
  ·rcases q.old L hlt with g|⟨_,g,_⟩
   ·rw[g];exact e3
   exact absurd (.inl rfl) g
  cases e:h' L with
  |none=>rfl
  |some o =>
   rcases q.hn L (by rw[e];simp)with g|g
   ·exact absurd e4 g
   exact absurd (.inl rfl) g.2
 ·intro k h G W x vals hx hk hv;rw[hJ]at hk;obtain⟨r',e1,e2,e3,e4,e5,e6,rfl⟩:=hk;have hlen:x.length=ps.toList.length:=hps x (U8 hx);have hvl:vals.length=x.length:=by
   have:∀ (ps:List PV) (vs:List Value),PReps h ps vs->vs.length=ps.length:=by
    intro ps;induction ps with
    |nil=>intro vs k;cases vs with
     |nil=>rfl
     |cons _ _=>exact k.elim
    |cons p ps ih=>intro vs k;cases vs with
     |nil=>exact k.elim
     |cons v vs=>simp[ih vs k.2]
   exact this _ _ hv
  have hsz:vals.toArray.size=(rec .ready none).params.size:=by
   rw[hrec];show vals.length=ps.size;rw[hvl,hlen];simp
  refine⟨_,_,_,_,run_yield e3 hsz,roundIn_of_wpIn trivial ?_⟩;rw[hrec];show assign.wpIn (Wd (some L)) 0 P _ { tmps:=(ps.zip vals.toArray).foldl (fun t (p,v)=>t.setIfInBounds p v) a.tmps,defers:=[] } W;have hzip:(ps.zip vals.toArray).foldl (fun t (p,v)=>t.setIfInBounds p v) a.tmps=(ps.toList.zip vals).foldl (fun t (p,v)=>t.setIfInBounds p v) a.tmps:=by
   rw[<- Xe,XX]
  rw[hzip];obtain⟨f1,f2⟩:=gj (r:=r') ps.toList x vals (a7 l) a.tmps hv hlen (fun p hp=>by
   have:=Uo.1 hpN p hp;rw[hc.sz];simpa using this) (fun t=>hrg h r' e6 e1 t)
  refine wpIn_mono (hround k x hx (some L) (fun e=>by cases e) (Ctx.round h r' (own k) W np') h r' _ W ⟨rfl,rfl⟩ ⟨f2.trans hc.sz,trivial,f1,e2.enter⟩) ?_;rintro e a1 w1 ⟨s1,h2,r2,q1,c1⟩;cases e with
  |normal =>
   have hwk1:=e2.leave c1.wk (UA (V1 hn.1) hnp');obtain⟨g1,g2,g3⟩:=WOK.rec_left e5 c1.wk e3 e4;have hd1:a1.defers=[]:=by
    have:=c1.df;cases hd:a1.defers with
    |nil=>rfl
    |cons d ds=>rw[hd]at this;cases this.1
   have hw3:=hwk1.putL (o:=.loop { rec .ready none with state:=.busy }) g3 g2 hCL;have hLw:L<w1.heap.size:=(K0.1 g1).1;have hLb:(w1.putObj L (.loop { rec .ready none with state:=.busy })).heap[L]?=some (.loop { rec .ready none with state:=.busy }):=World.putObj_heap_same hLw;refine⟨_,run_beginRound g1 (by rw[hrec]),?_⟩;refine wpIn_mono (q1 (some L) (fun e=>by cases e) (Ctx.round h2 r2 s1.own _ np') h2 r2 a1 _ ⟨rfl,rfl⟩ ⟨c1.sz,by rw[hd1];trivial,c1.rg,hw3.enter⟩) ?_;rintro e a2 w2 ⟨s2,h3,r3,⟨rfl,q2⟩,c2⟩;have hwk2:=hw3.leave c2.wk (UA (V1 hn.1) hnp');obtain⟨k1,k2,k3⟩:=WOK.rec_left g3 c2.wk hLb g2;obtain⟨r4,q3,hwk3,q4⟩:=q2 C h3 r3 w2 (UA (V1 hn.1) hnp') hwk2;have k3':∀ m,own (k+1) m≠none->aD (r4 m)≠some L:=fun m hm e=>by
    obtain⟨m2,g1,g2⟩:=q4 m L hm e;exact k3 m2 g1 g2
   have F2:∀ i,(Ctx.round h2 r2 s1.own (w1.putObj L (.loop { rec .ready none with state:=.busy })) np').F i->W.heap.size<=i∨∃ m,own k m≠none∧aD (r' m)=some i:=by
    rintro i ⟨m,hm,e⟩;exact c1.wk.fo m i hm e
   have sz1:W.heap.size<=w1.heap.size:=c1.wk.size;have sz2:w1.heap.size<=w2.heap.size:=by have:(w1.putObj L _).heap.size<=w2.heap.size:=c2.wk.size;rwa [bb]at this
   refine⟨_,_,run_endRound none k1,rfl,h3,fun i=>i=L∨∃ m,own (k+1) m≠none∧aD (r4 m)=some i,?_,?_⟩
   ·rw[hJ];refine⟨r4,fun m hm=>?_,hwk3.putL k3' k2 hCL,?_,k2,k3',e6.trans (c1.wk.hg.trans c2.wk.hg),rfl⟩
    ·rw[q3 m hm,c2.wk.kp m hm];show r2 m=r m;rw[c1.wk.kp m hm];exact e1 m hm
    rw[World.putObj_heap_same (K0.1 k1).1,hrec];rfl
   refine⟨c2.wk.os.trans c1.wk.os,c2.wk.tape.trans c1.wk.tape,c2.wk.output.trans c1.wk.output,by rw[bb];omega,fun i hi hg=>?_,c1.wk.hg.trans c2.wk.hg,fun i hi=>?_,fun i hi=>?_⟩
   ·have hiL:i≠L:=fun x=>hg (.inl x)
    rw[bO hiL,c2.wk.old i (by rw[show(Ctx.round h2 r2 s1.own (w1.putObj L (.loop { rec .ready none with state:=.busy })) np').w0.heap.size=w1.heap.size from bb _ _ _];omega) (fun x=>by
     rcases F2 i x with g|g
     ·omega
     exact hg (.inr g))]
    show(w1.putObj L _).heap[i]?=_;rw[bO hiL];exact c1.wk.old i hi (fun x=>hg (.inr x))
   ·rcases c2.wk.hn i hi with g|g|g
    ·rcases c1.wk.hn i g with g|g|g
     ·exact .inl g
     ·exact .inr (.inl g)
     exact .inr (.inr (.inr g))
    ·have g':(w1.putObj L (.loop { rec .ready none with state:=.busy })).heap.size<=i:=g;rw[bb]at g';exact .inr (.inl (by omega))
    rcases F2 i g with g|g
    ·exact .inr (.inl g)
    exact .inr (.inr (.inr g))
   rcases hi with rfl|⟨m,hm,e⟩
   ·exact .inl (.inl rfl)
   obtain⟨m2,g1,g2⟩:=q4 m i hm e;rcases c2.wk.fo m2 i g1 g2 with g|g
   ·have g':(w1.putObj L (.loop { rec .ready none with state:=.busy })).heap.size<=i:=g;rw[bb]at g';exact .inr (by omega)
   rcases F2 i g with g|g
   ·exact .inr g
   exact .inl (.inr g)
  |_=>exact q1.elim
 ·rw[hJ];exact⟨r,fun _ _=>rfl,hw2,hL1,hhL,hnoL,.refl _,rfl⟩
 rintro e W3 ⟨⟨v,rfl⟩,h',G',hk⟩;rw[hJ]at hk;obtain⟨r',e1,e2,e3,e4,e5,e6,_⟩:=hk;refine⟨none,_,by have:=run_endLoop (P:=P) e3 (by rw[hrec];simp);rw[hrec]at this;exact this,?_⟩;refine⟨⟨a7 l,own xs.length⟩,h',r',hdone,hc.sz,?_,fun t=>hrg h' r' e6 e1 t,e2.putL e5 e4 hCL⟩;refine⟨hmar,⟨w.heap.size,rfl,hc.wk.size,?_,e6 _ _ hD1,ny hD0 hc.df⟩,hc.df.mono (hle1.trans e6)⟩;cases e:C.h0 w.heap.size with
 |none=>rfl
 |some o=>have:=hc.wk.hg _ _ e;rw[hD0]at this;cases this
section ops
variable {P:Program}{tt:TT}(hT:bM P tt)
variable {dst:Option Nat}{ty:TypeId}{pos:String}{af:Array Edge}{gd:Option (Nat×Bool)}{d:Nat}{ρ:Operand->AV}{own:Own}
variable {T:TypeId}{i:TyI}{x y:Operand}
theorem iJ{f:FuncId}{c:Operand}{xs:List DV}(hx:ρ c=.ip xs):Eff P ⟨dst,.makeFunc (.func f) #[] #[c],ty,pos,af,gd⟩ d ρ own (.fn f [xs]) [] none [] :=
 aP fun C h r own' a w hrep hrd hw=>by
  have e1:=hrep c (by simp[Op.operands]);rw[hx]at e1;refine⟨.func (.func f) #[] #[a.eval c],?_,#[a.eval c],rfl,e1,trivial⟩;simp[execOp,Instr.makeFunc]
theorem Dz{h:Hp}{r:Nat->Value}{f:FuncId}{v:Value}(e:AVRep h r (.p (.c (.v (.func (.func f) #[] #[])))) v):v=.func (.func f) #[] #[]:=by
 simp only[AVRep,PRep,DRep]at e;exact e.1
theorem Eff.callF{f:FuncId}{c:Operand}{args:Array Operand}{tys:Array TypeId}{res:AV}(hx:ρ c=.p (.c (.v (.func (.func f) #[] #[]))))(hc:ak P f (args.toList.map ρ) res) :
  Eff P ⟨dst,.call ⟨.value c,args,tys⟩,ty,pos,af,gd⟩ d ρ own res [] none []:=by
 intro C h r own' a w K Q hrep hrd hw _ hK;have e1:=hrep c (by simp[Op.operands,Call.operands]);rw[hx]at e1;have e2:=Dz e1;unfold Oper.wp;have hrun:(execOp a.eval ⟨dst,.call ⟨.value c,args,tys⟩,ty,pos,af,gd⟩).run P w=.ok (.enter f (args.map a.eval)) w:=by
  simp only[execOp,resolve,Sem.run_bind,e2,Deferred.ofValue,Sem.run_pure,Result.andThen_ok,invoke,Array.empty_append,Array.append_empty];exact bU hc.fn _ w
 rw[hrun];refine Calls.mono (hc.go h r w (args.map a.eval) ?_ (hw.before fun m hm=>absurd rfl hm)) ?_
 ·rw[VU];exact cX _ fun x hx=>hrep x (by simp only[Op.operands,Call.operands];exact Wa.2 (.inr (VN.1 hx)))
 rintro e w' ⟨v,h',rfl,hv,hq⟩;exact hK v h' r w' hq.hg (fun _ _=>rfl) hv (hw.after (fun m hm=>absurd rfl hm) hq (fun m=>by simp[gJ,cw]) (fun m b hm=>absurd rfl hm))
include hT in
theorem wq(ht:tt T=some i)(hu:(P.info? T).bind (·.zero)=some (.slice none 0 0)):Eff P ⟨dst,.alloc T,ty,pos,af,gd⟩ d ρ own (.loc d 0) [] (some ⟨false,1,T,[.v (.slice none 0 0)]⟩) []:=by
 intro C h r own' a w K Q hrep _ hw hal hK;obtain⟨ti,g1,g2,g3,z,g4,g5,g6,g7⟩:=(hT T i ht).info;have hzz:z=.slice none 0 0:=by
  rw[g1]at hu;simp only[Option.bind_some,g4,Option.some.injEq]at hu;exact hu
 subst hzz;refine iP (hal (by simp)) hw (x:=.pointer (some ⟨w.heap.size,0,none⟩)) (c:=#[.slice none 0 0]) ?_ ?_ ?_ ?_ hK
 ·intro k hk;simp[aD]at hk;exact hk.symm
 ·refine⟨w.heap.size,#[.slice none 0 0],rfl,by rw[heap_alloc,H2 rfl],rfl,?_⟩;simp only[DReps,DRep];exact⟨⟨_,rfl,rfl,rfl⟩,trivial⟩
 ·intro h r' hr;exact⟨w.heap.size,⟨by rw[hr];rfl,by rw[hr];rfl⟩,rfl⟩
 have hz1:(zeroValue T).run P w=.ok (.slice none 0 0) w:=by simp[zeroValue,typeInfo,g1,g4]
 simp only[execOp,Instr.alloc,newVar,newRow,Sem.run_bind,hz1,run_newObj,Result.andThen_ok,Sem.run_pure];rfl
include hT in
theorem tZ{m j:Nat}{v:Bool}{z:Nat}{e:TypeId}{dv:DV}(ht:tt T=some i)(hg:i.sh.agg=false)(hx:ρ x=.loc m 0)(hb:own m=some ⟨v,z,e,[dv]⟩)(hj:lnk ⟨v,z,e,[dv]⟩=[j]) :
  Eff P ⟨dst,.load T x,ty,pos,af,gd⟩ d ρ own (.vec j) [] none [m] :=
 aP fun C h r own' a w hrep hrd hw=>by
  have e1:=hrep x (by simp[Op.operands]);rw[hx]at e1;obtain⟨k,⟨h1,_⟩,h2⟩:=e1;obtain⟨q,t,h3,h4⟩:=hw.lk m _ j ((hrd m (by simp)).trans hb) (by rw[hj];simp);rw[h3]at h1;simp only[aD,Option.some.injEq]at h1;subst h1;refine⟨r j,?_,rfl⟩;have hc:w.cell? ⟨q,0,none⟩=some (r j):=by simp[World.cell?,h4,lkC]
  simp only[execOp,h2,Sem.run_bind,ez,loadVar,(hT T i ht).isAgg,hg,Result.andThen_ok,Bool.false_eq_true,if_false,run_load,hc,Sem.run_pure]
include hT in
theorem A3{m j n z:Nat}{e:TypeId}{dv:DV}{b:Blk}(ht:tt T=some i)(hsz:i.size=1)(hx:ρ x=.loc m 0)(hy:ρ y=.vec j)(hb:own m=some ⟨false,z,e,[dv]⟩)(hbj:own j=some b)(hbv:b.vec=true)(hn:n*b.sz=b.cs.length)(hs0:0<b.sz) :
  Eff P ⟨none,.store T x y,ty,pos,af,gd⟩ d ρ own .junk [(m,some ⟨false,j+2,e,[.sl n []]⟩)] none [m,j]:=by
 intro C h r own' a w K Q hrep hrd hw _ hK;have hb':=(hrd m (by simp)).trans hb;have hj':=(hrd j (by simp)).trans hbj;have e1:=hrep x (by simp[Op.operands]);have e2:=hrep y (by simp[Op.operands]);rw[hx]at e1;rw[hy]at e2;obtain⟨k,h1,h2,c,h3,h4,h5⟩:=lY hw hb' e1;have e2':a.eval y=r j:=e2;have hbr:=hw.ow j b hj';rw[BlkRep.slE hbv hs0]at hbr;obtain⟨ad,l,cap,q1,q2,q3,q4,q5⟩:=hbr;have hl:l=n:=U4 hs0 (q2.trans hn.symm);subst hl;have hcells:(a.eval y).cells=#[r j]:=by rw[e2',q1];rfl
 have hone:(r j).oneCell'=true:=by rw[q1];rfl
 have hbx:=hw.ow m _ hb';unfold BlkRep at hbx;simp only at hbx;obtain⟨k0,c0,p1,p2,p3,p4⟩:=hbx;rw[p1]at h2;simp only[aD,Option.some.injEq]at h2;subst h2;rw[p2]at h3;have hcc:c0=c:=by simpa using h3
 subst hcc;have hsize:c0.size=1:=p3;obtain⟨w',c',k1,k2,k3,k4,k5⟩:=bJ P k0 e [r j] 0 0 w c0 p2 (by simp;omega) (by simpa using hone);have hc':c'=#[r j]:=by
  have h0:=k5 0;simp at h0;apply Array.ext (by simp;omega);intro q hq1 hq2;have:q=0:=by omega
  subst this;rw[UR (by omega)]at h0;simpa using h0
 have hrun:(execOp a.eval ⟨none,.store T x y,ty,pos,af,gd⟩).run P w=.ok .skip w':=by
  have hs:¬ ((a.eval y).cells.size≠i.size):=by rw[hcells,hsz];simp
  simp only[execOp,h1,Instr.storeAt,Instr.sureAddr,storeVar,Sem.run_bind,Sem.run_pure,(hT T i ht).size,Result.andThen_ok,hs,if_false];rw[hcells];simp only[Result.andThen_ok,k1]
 unfold Oper.wp;rw[hrun];refine hK undef h r w' (.refl _) (fun _ _=>rfl) trivial (hw.write (by rw[hb'];simp) (by rw[p1];rfl) k2 (b:=⟨false,j+2,e,[.sl l []]⟩) ?_ ?_)
 ·refine⟨k0,c',p1,k3,by rw[hc'];rfl,?_⟩;rw[hc'];simp only[DReps,DRep];exact⟨⟨r j,rfl,ad,cap,q1,q3,q4,.inl trivial⟩,trivial⟩
 intro j' hj;have:j'=j:=by simpa[lnk]using hj
 subst this;exact⟨k0,(e,#[]),p1,by rw[k3,hc'];rfl⟩
include hT in
theorem nV{g e l:Nat}{vs:List Value}{j:TyI}{k:IntKind}{n:Int}(ht:tt T=some i)(hs:i.sh=.ar l e)(he:tt e=some j)(hj:j.size=1)(hgl:(g,vs)∈vf)(hone:(vs.all Value.oneCell')=true)(hy:ρ y=.p (.c (.v (.int k n))))(hn:0<=n∧n<l) :
  Eff P ⟨dst,.indexAddr T (.global g) y,ty,pos,af,gd⟩ d ρ own (.ip ((vs.drop n.toNat).map .v)) [] none [] :=
 aP fun C h r own' a w hrep hrd hw=>by
  have e2:=hrep y (by simp[Op.operands]);rw[hy]at e2;obtain⟨c,t,fr,h1,h2⟩:=hw.gl _ hgl;refine⟨.pointer (some ⟨g,0+n.toNat*j.size,none⟩),?_,g,_,c,t,fr,rfl,h1,?_⟩
  ·have hu:=(hT T i ht).array hs;have hgv:a.eval (.global g)=.pointer (some ⟨g,0,none⟩):=rfl;simp only[execOp,hgv,bh e2,Instr.indexAt,asIntOf,Sem.run_bind,Sem.run_pure,Result.andThen_ok,run_underlying hu,Instr.sureAddr,hn,and_self,if_true,(hT e j he).size,Addr.add_lit]
  rw[DReps.iff];intro p dv hp;rw[UE,VC]at hp;cases hv:vs[n.toNat+p]? with
  |none=>rw[hv]at hp;cases hp
  |some v =>
   rw[hv]at hp;cases hp;refine⟨v,?_,?_⟩
   ·have e3:0+n.toNat*j.size+p=n.toNat+p:=by rw[hj];omega
    show c[0+n.toNat*j.size+p]?=some v;rw[e3];exact h2.2 _ _ hv
   simp only[DRep,true_and];exact Uo.1 hone v (U8 hv)
end ops
section ghost
variable {P:Program}{B:Bool}{N np:Nat}{Q:Exit->St->Prop}{s:St}{c:Code}
theorem bo{t m z:Nat}{e:TypeId}{cs:List DV}(ht:s.regs t=.loc m 0)(hb:s.own m=some ⟨false,z,e,cs⟩)(h:AWp P B N np c Q ⟨upd s.regs t (.ip cs),upd s.own m none⟩):AWp P B N np c Q s:=by
 intro ro hB C hh r a w hn hc;have hold:=hc.wk.ow m _ hb;unfold BlkRep at hold;simp only at hold;obtain⟨k,cc,q1,q2,q3,q4⟩:=hold;obtain⟨f1,f2⟩:=hc.wk.freeze (m:=m) (i:=k) (by rw[hb];simp) (by rw[q1];rfl) q2;refine h ro hB C _ r a w hn ⟨hc.sz,hc.df.mono f2,fun t'=>?_,f1⟩;show AVRep _ _ (upd s.regs t _ t') _;by_cases e':t'=t
 ·subst e';rw[upd_same];have hx:=hc.rg t';rw[ht]at hx;obtain⟨k',⟨g1,_⟩,g2⟩:=hx;rw[q1]at g1;simp only[aD,Option.some.injEq]at g1;subst g1;exact⟨k,0,cc,e,(0,0),g2,H2 rfl,by simpa using DReps.mono f2 _ _ q4⟩
 rw[aj _ _ _ _ e'];exact AVRep.mono f2 _ _ (hc.rg t')
theorem WOK.relink{C:Ctx}{h:Hp}{r:Nat->Value}{own:Own}{w:World}(k:WOK C h r own w){m z j n:Nat}{e:TypeId}{cs:List DV}(hb:own m=some ⟨false,z,e,cs⟩)(hc:∃ (q:Nat) (t:TypeId×Array Value),r m=.pointer (some ⟨q,0,none⟩)∧w.heap[q]?=some (.cells #[r j] t.1 (0,0)))(hr:DReps h [DV.sl n []] fun i=>(#[r j])[i]?):WOK C h r (upd own m (some ⟨false,j+2,e,[.sl n []]⟩)) w:=by
 have live:∀ p,upd own m (some ⟨false,j+2,e,[.sl n []]⟩) p≠none->own p≠none:=fun p hp=>by
  by_cases h1:p=m
  ·subst h1;rw[hb];simp
  rwa [aj _ _ _ _ h1]at hp
 refine⟨fun p b hp=>?_,fun p q i hp hq=>k.inj p q i (live p hp) (live q hq),k.hi,fun p i hp=>k.ho p i (live p hp),k.os,k.tape,k.output,k.size,k.old,fun p i hp=>k.fo p i (live p hp),k.hg,k.hn,k.gl,k.kp,fun p b j' hp hj=>?_⟩
 ·by_cases h1:p=m
  ·subst h1;rw[upd_same]at hp;cases hp;have hold:=k.ow p _ hb;unfold BlkRep at hold ⊢;simp only at hold ⊢;obtain⟨k0,c0,p1,p2,p3,p4⟩:=hold;obtain⟨q,t,g1,g2⟩:=hc;rw[p1]at g1;have:k0=q:=by simpa using g1
   subst this;rw[p2]at g2;have e2:c0=#[r j]:=by simp only[Option.some.injEq,Obj.cells.injEq]at g2;exact g2.1
   subst e2;exact⟨k0,_,p1,p2,rfl,hr⟩
  rw[aj _ _ _ _ h1]at hp;exact k.ow p b hp
 by_cases h1:p=m
 ·subst h1;rw[upd_same]at hp;cases hp;have:j'=j:=by simpa[lnk]using hj
  subst this;exact hc
 rw[aj _ _ _ _ h1]at hp;exact k.lk p b j' hp hj
theorem WOK.newNil{C:Ctx}{h:Hp}{r:Nat->Value}{own:Own}{w:World}(k:WOK C h r own w){j sz:Nat}{be:TypeId}(hs0:0<sz)(hd:own j=none)(hp:C.np<=j)(hl:∀ m b,own m=some b->j ∉ lnk b):WOK C h (upd r j (.slice none 0 0)) (upd own j (some ⟨true,sz,be,[]⟩)) w:=by
 have live:∀ n,n≠j->upd own j (some (⟨true,sz,be,[]⟩:Blk)) n≠none->own n≠none:=fun n h1 hn=>by rwa [aj _ _ _ _ h1]at hn
 have nb:∀ i,aD (upd r j (.slice none 0 0) j)=some i->False:=fun i e=>by rw[upd_same]at e;cases e
 refine⟨fun m b e=>?_,fun m n i hm hn e f=>?_,k.hi,fun m i hm e=>?_,k.os,k.tape,k.output,k.size,k.old,fun m i hm e=>?_,k.hg,k.hn,k.gl,fun m hm=>?_,fun m b j' e hj=>?_⟩
 ·by_cases h1:m=j
  ·subst h1;rw[upd_same]at e ⊢;cases e;rw[BlkRep.slE rfl hs0];exact⟨none,0,0,rfl,by simp,by omega,by omega,.inl rfl⟩
  rw[aj _ _ _ _ h1]at e ⊢;exact k.ow m b e
 ·by_cases h1:m=j
  ·subst h1;exact(nb i e).elim
  by_cases h2:n=j
  ·subst h2;exact(nb i f).elim
  rw[aj _ _ _ _ h1]at e;rw[aj _ _ _ _ h2]at f;exact k.inj m n i (live m h1 hm) (live n h2 hn) e f
 ·by_cases h1:m=j
  ·subst h1;exact(nb i e).elim
  rw[aj _ _ _ _ h1]at e;exact k.ho m i (live m h1 hm) e
 ·by_cases h1:m=j
  ·subst h1;exact(nb i e).elim
  rw[aj _ _ _ _ h1]at e;exact k.fo m i (live m h1 hm) e
 ·rw[aj _ _ _ _ (by omega)];exact k.kp m hm
 by_cases h1:m=j
 ·subst h1;rw[upd_same]at e;cases e;simp[lnk]at hj
 rw[aj _ _ _ _ h1]at e;have hjj:j'≠j:=fun x=>hl m b e (x▸hj)
 rw[aj _ _ _ _ h1,aj _ _ _ _ hjj];exact k.lk m b j' e hj
def RF(m j sz:Nat)(be e:TypeId)(s:St):St:=⟨(bt [j] s).regs,upd (upd (bt [j] s).own j (some ⟨true,sz,be,[]⟩)) m (some ⟨false,j+2,e,[.sl 0 []]⟩)⟩
theorem BI(m j sz:Nat)(be:TypeId){z:Nat}{e:TypeId}(hb:s.own m=some ⟨false,z,e,[.v (.slice none 0 0)]⟩)(hz:Nat.blt z 2=true)(hj:Nat.beq m j=false)(hp:Nat.ble np j=true)(h:AWp P B N np c Q (RF m j sz be e s))(hs0:Nat.blt 0 sz=true:=by rfl):AWp P B N np c Q s:=by
 have hne:m≠j:=fun e=>by rw[e,WH]at hj;cases hj
 intro ro hB C hh r a w hn hc;have hk:=e9 [j] hc;have hm:(bt [j] s).own m=some ⟨false,z,e,[.v (.slice none 0 0)]⟩:=by
  show(bif [j].contains m then none else iS [j] (s.own m))=_;have:[j].contains m=false:=by simp;exact hne
  rw[this,hb];have hl:lnk ⟨false,z,e,[.v (.slice none 0 0)]⟩=[]:=by
   match z,hz with
   |0,_=>rfl
   |1,_=>rfl
  show some (dp [j] _)=_;unfold dp;rw[hl];rfl
 have hw:=hk.wk.newNil (j:=j) (sz:=sz) (be:=be) (bL0 hs0) (fp [j] s j (by simp)) (by rw[hn.1];exact bL0 hp) (fq [j] s j (by simp));have hold:=hk.wk.ow m _ hm;unfold BlkRep at hold;simp only at hold;obtain⟨k0,c0,p1,p2,p3,p4⟩:=hold;have hc0:c0=#[.slice none 0 0]:=by
  simp only[DReps,DRep]at p4;obtain⟨⟨y,g1,g2⟩,_⟩:=p4;apply Array.ext (by simpa using p3);intro q hq1 hq2;have:q=0:=by have:q<1:=hq2;omega
  subst this;rw[UR (by simpa using hq1)]at g1;simp at g1;rw[g1,g2.1];rfl
 subst hc0;have hw2:=hw.relink (m:=m) (z:=z) (j:=j) (n:=0) (e:=e) (cs:=[.v (.slice none 0 0)]) (by rw[aj _ _ _ _ hne];exact hm) ⟨k0,(e,#[]),by rw[aj _ _ _ _ hne];exact p1,by rw[upd_same];exact p2⟩ (by
  rw[upd_same];simp only[DReps,DRep];exact⟨⟨_,rfl,none,0,rfl,by omega,by omega,.inl trivial⟩,trivial⟩)
 refine h ro hB C hh (upd r j (.slice none 0 0)) a w hn ⟨hk.sz,hk.df,fun t=>?_,hw2⟩;exact AVRep.rebind _ _ (fun n hn'=>aj _ _ _ _ (fun x=>fU [j] s j (by simp) t (x▸hn'))) (hk.rg t)
end ghost
theorem GW.rnL{np':Nat}{o o':Own}(m j d n:Nat){e:TypeId}{dv:DV}{b:Blk}(hm:o m=some ⟨false,j+2,e,[dv]⟩)(hb:o j=some b)(hbv:b.vec=true)(hn:n*b.sz=b.cs.length)(hs0:0<b.sz)(hmj:Nat.beq m j=false)(hmd:Nat.beq m d=false)(hjd:Nat.beq j d=false)(hp:Nat.ble np' d=true)(hfin:∀ x,o' x=(upd (upd (upd (bt [d] ⟨fun _=>.junk,o⟩).own j none) d (some b)) m (some ⟨false,d+2,e,[.sl n []]⟩)) x∨o' x=none):GW np' o o':=by
 have neq:∀ {x y:Nat},Nat.beq x y=false->x≠y:=fun h e=>by rw[e,WH]at h;cases h
 have h1:=neq hmj;have h2:=neq hmd;have h3:=neq hjd;intro C hh r w hnp hk0;have hdp:=bL0 hp;have hk:WOK C hh r (bt [d] ⟨fun _=>.junk,o⟩).own w:=hk0.killed (A:=[d]) fun x=>by
  show(bif [d].contains x then none else iS [d] (o x))=_∨(bif [d].contains x then none else iS [d] (o x))=none;cases[d].contains x with
  |true=>exact .inr rfl
  |false=>exact .inl rfl
 have kown:∀ p,p≠d->(bt [d] ⟨fun _=>.junk,o⟩).own p=iS [d] (o p):=fun p hpd=>by
  show(bif [d].contains p then none else iS [d] (o p))=_;have:[d].contains p=false:=by simp;exact hpd
  rw[this];rfl
 have hm':(bt [d] ⟨fun _=>.junk,o⟩).own m=some ⟨false,j+2,e,[dv]⟩:=by
  rw[kown m h2,hm];show some (dp [d] _)=_;have hl:lnk ⟨false,j+2,e,[dv]⟩=[j]:=rfl;unfold dp;rw[hl];have:([j].any [d].contains)=false:=by simp;exact h3
  rw[this];rfl
 have hb':(bt [d] ⟨fun _=>.junk,o⟩).own j=some b:=by
  rw[kown j h3,hb];show some (dp [d] b)=_;unfold dp;rw[js hbv];rfl
 have hbr:=hk.ow j b hb';have hw:=hk.rename (m:=j) (d:=d) (v:=r j) (b:=b) (by rw[hb'];simp) (fp [d] _ d (by simp)) (UA hnp hdp) (fun _ e=>e) hbr (fq [d] _ d (by simp)) (js hbv);have hown:upd (upd (bt [d] ⟨fun _=>.junk,o⟩).own j none) d (some b) m=some ⟨false,j+2,e,[dv]⟩:=by rw[aj _ _ _ _ h2,aj _ _ _ _ h1];exact hm'
 obtain⟨q,t,g1,g2⟩:=hk.lk m _ j hm' (by simp[lnk]);have hbr2:=hbr;rw[BlkRep.slE hbv hs0]at hbr2;obtain⟨ad,l,cap,q1,q2,q3,q4,_⟩:=hbr2;have hl:l=n:=U4 hs0 (q2.trans hn.symm);subst hl;have hw2:=hw.relink (m:=m) (z:=j+2) (j:=d) (n:=l) (e:=e) (cs:=[dv]) hown ⟨q,t,by rw[aj _ _ _ _ h2];exact g1,by rw[upd_same];exact g2⟩ (by
  rw[upd_same];simp only[DReps,DRep];exact⟨⟨_,rfl,ad,cap,q1,q3,q4,.inl trivial⟩,trivial⟩)
 refine⟨upd r d (r j),fun x hx=>aj _ _ _ _ (by omega),hw2.forget hfin,fun x i hx hi=>?_⟩;have hx2:upd (upd (upd (bt [d] ⟨fun _=>.junk,o⟩).own j none) d (some b)) m (some ⟨false,d+2,e,[.sl l []]⟩) x≠none:=by
  rcases hfin x with g|g
  ·rw[<- g];exact hx
  exact absurd g hx
 by_cases e1:x=d
 ·subst e1;rw[upd_same]at hi;exact⟨j,by rw[hb];simp,hi⟩
 rw[aj _ _ _ _ e1]at hi;refine⟨x,?_,hi⟩;by_cases e2:x=m
 ·subst e2;rw[hm];simp
 rw[aj _ _ _ _ e2,aj _ _ _ _ e1]at hx2;by_cases e3:x=j
 ·subst e3;rw[hb];simp
 rw[aj _ _ _ _ e3,kown x e1]at hx2;intro e4;rw[e4]at hx2;exact hx2 rfl
section
variable {P:Program}{ro:Option Nat}{ops:Array Oper}{Q:Exit->Act->World->Prop}{K:Act->World->Prop}{a:Act}{w w':World}{i:Nat}{o:Oper}
theorem dw{x:Value}(ho:ops[i]?=some o)(hg:o.guard=none)(hd:jR o=true)(hrun:(execOp a.eval o).run P w=.ok (.value x) w')(hK:K (a.put o.dst x) w'):wpOpIn (Wd ro) 0 P ops Q i K a w:=by
 unfold wpOpIn;have hw:Region.wanted o (yielded ops a.tmps)=true:=by unfold Region.wanted;rw[hg]
 simp only[ho];rw[H2 hw];refine⟨fun _ _=>trivial,?_⟩;rw[Oper.semAt_eq _ _ _ (jD hd),hrun];exact hK
theorem x7(ho:ops[i]?=some o)(hg:o.guard=none)(hd:jR o=true)(hrun:(execOp a.eval o).run P w=.ok .skip w')(hK:K (a.put o.dst undef) w'):wpOpIn (Wd ro) 0 P ops Q i K a w:=by
 unfold wpOpIn;have hw:Region.wanted o (yielded ops a.tmps)=true:=by unfold Region.wanted;rw[hg]
 simp only[ho];rw[H2 hw];refine⟨fun _ _=>trivial,?_⟩;rw[Oper.semAt_eq _ _ _ (jD hd),hrun];exact hK
end
end Go.AM
