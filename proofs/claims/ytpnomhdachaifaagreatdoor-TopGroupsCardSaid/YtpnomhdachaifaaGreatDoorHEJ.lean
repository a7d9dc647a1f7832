import Derived.Test.YtpnomhdachaifaaGreatDoorHED
import Derived.Test.YtpnomhdachaifaaGreatDoorHEI
import Derived.Test.YtpnomhdachaifaaGreatDoorHEC
import Derived.Test.YtpnomhdachaifaaGreatDoorHEB
import Derived.Test.YtpnomhdachaifaaGreatDoorHEF
import Derived.Lib.AppendZerosOnto
set_option maxRecDepth 100000
namespace Go.AM
open Go Go.RowKit
def stq(p:Nat):Nat->Nat->Nat
 |0,n=>n
 |f+1,n=>if n%p=0 then stq p f (n/p)else n
def dvP(n p:Nat):Nat:=if p*p>n then n else p
def dvD:Nat->Nat->Nat->List Nat
 |0,_,_=>[]
 |f+1,n,p=>if n<=1 then[]else if n%dvP n p≠0 then dvD f n (dvP n p+1)else dvP n p::dvD f (stq (dvP n p) n n) (dvP n p+1)
def okD:Nat->Nat->Nat->Bool
 |0,n,_=>decide (n<=1)
 |f+1,n,p=>if n<=1 then true else decide (2<=dvP n p)&&decide (p<=20000)&&if n%dvP n p≠0 then okD f n (dvP n p+1)else okD f (stq (dvP n p) n n) (dvP n p+1)
def StI(p n m:Nat):Prop:=0<m∧m<=n∧∃ f,m<=f∧stq p f m=stq p n n
theorem StI.start{p n:Nat}(hn:0<n):StI p n n:=⟨hn,Iv _,n,Iv _,rfl⟩
theorem StI.next{p n m:Nat}(hp:2<=p)(h:StI p n m)(hm:m%p=0):StI p n (m/p)∧m/p<m:=by
 obtain⟨h1,h2,f,h4,h5⟩:=h;have hpm:p<=m:=Wf h1 (Xb hm);have k1:0<m/p:=Nat.div_pos hpm (by omega);have k2:m/p<m:=Nat.div_lt_self h1 (by omega);refine⟨⟨k1,by omega,?_⟩,k2⟩;cases f with
 |zero=>omega
 |succ f =>
  refine⟨f,by omega,?_⟩;rw[<- h5];conv=>rhs;unfold stq
  rw[H2 hm]
theorem StI.done{p n m:Nat}(h:StI p n m)(hm:¬ m%p=0):m=stq p n n:=by
 obtain⟨h1,h2,f,h4,h5⟩:=h;cases f with
 |zero=>omega
 |succ f =>
  rw[<- h5];unfold stq;rw[G2 hm]
structure PdI(xs:List Nat)(n p i f:Nat):Prop where
 nb:n<=1000000
 ok:okD f n p=true
 eq:xs.drop i=dvD f n p
theorem PdI.start{h:Nat}(hb:h<=1000000)(hk:okD (h+2) h 2=true):PdI (dvD (h+2) h 2) h 2 0 (h+2):=⟨hb,hk,rfl⟩
theorem PdI.fin{xs:List Nat}{n p i f:Nat}(h:PdI xs n p i f)(hn:n<=1):xs.length<=i:=by
 have:=h.eq;have e:dvD f n p=[]:=by
  cases f with
  |zero=>rfl
  |succ f=>unfold dvD;rw[H2 hn]
 rw[e]at this;exact WQ.1 this
theorem PdI.pos{xs:List Nat}{n p i f:Nat}(h:PdI xs n p i f)(hn:¬ n<=1):0<f∧2<=dvP n p∧p<=20000:=by
 have hk:=h.ok;cases f with
 |zero=>unfold okD at hk;exact absurd (dT0 hk) hn
 |succ g =>
  unfold okD at hk;rw[G2 hn,Uw,Uw]at hk;exact⟨Nat.succ_pos g,dT0 hk.1.1,dT0 hk.1.2⟩
theorem PdI.no{xs:List Nat}{n p i f d:Nat}(h:PdI xs n p i f)(hd:dvP n p=d)(hn:¬ n<=1)(hm:n%d≠0):PdI xs n (d+1) i (f-1):=by
 subst hd;have hf:=(h.pos hn).1;have hk:=h.ok;have he:=h.eq;cases f with
 |zero=>omega
 |succ g =>
  unfold okD at hk;unfold dvD at he;rw[G2 hn,H2 hm,Uw]at hk;rw[G2 hn,H2 hm]at he;exact⟨h.nb,hk.2,he⟩
theorem PdI.yes{xs:List Nat}{n p i f d:Nat}(h:PdI xs n p i f)(hd:dvP n p=d)(hn:¬ n<=1)(hm:n%d=0):xs[i]?=some d∧∀ m,m=stq d n n->m<=n->PdI xs m (d+1) (i+1) (f-1):=by
 subst hd;have hf:=(h.pos hn).1;have hk:=h.ok;have he:=h.eq;cases f with
 |zero=>omega
 |succ g =>
  unfold okD at hk;unfold dvD at he;rw[G2 hn,G2 (fun e=>e hm),Uw]at hk;rw[G2 hn,G2 (fun e=>e hm)]at he;constructor
  ·have h0:(xs.drop i)[0]?=some (dvP n p):=by rw[he];rfl
   rw[VC]at h0;exact h0
  intro m e hle;subst e;refine⟨UA hle h.nb,hk.2,?_⟩;have h1:(xs.drop i).drop 1=dvD g (stq (dvP n p) n n) (dvP n p+1):=by rw[he];rfl
  rw[Xy]at h1;exact h1
theorem PdI.lt{xs:List Nat}{n p i f d:Nat}(h:PdI xs n p i f)(hd:dvP n p=d)(hn:¬ n<=1):d<=1000000:=by
 have h1:=(h.pos hn).2.2;have h2:=h.nb;unfold dvP at hd;split at hd <;> omega
theorem R9{n p:Nat}(h:p*p>n):dvP n p=n:=H2 h
theorem Sa{n p:Nat}(h:¬ p*p>n):dvP n p=p:=G2 h
theorem S6{a b:Nat}(h:a*b<=1000000000):(.i64:IntKind).wrap ((a:Int)*(b:Int))=((a*b:Nat):Int):=by
 rw[<- V5];exact iW0 _ (by omega)
theorem rT{a:Nat}(h:((a:Nat):Int)=0):a=0:=by omega
theorem rS{a:Nat}(h:¬ ((a:Nat):Int)=0):a≠0:=by omega
abbrev gaC(D:Int)(g:List Fm)(m:Mx)(how:Int):List DV:=[zn D,zm D,FsL g,SL aO m,.v (.int .i64 how)]
abbrev GA(D:Int)(g:List Fm)(m:Mx)(how:Int):AV:=.p (.a (gaC D g m how))
theorem Cv{rest:List (Nat×Blk)}{m:Nat}{b:Blk}(h:c9 rest m=none):∀ x,c9 rest x=upd (c9 ((m,b)::rest)) m none x:=by
 intro x;show _=upd (upd (c9 rest) m (some b)) m none x;by_cases e:x=m
 ·subst e;rw[upd_same,h]
 rw[aj _ _ _ _ e,aj _ _ _ _ e]
theorem Pi{l:List Nat}:∀ x∈l.map (fun(q:Nat)=>([PE (q:Int)]:List PV)),x.length=1:=by
 intro x hx;obtain⟨p,_,rfl⟩:=UO.1 hx;rfl
theorem R8{l:List Nat}{k:Nat}{x:List PV}(h:(l.map (fun(q:Nat)=>([PE (q:Int)]:List PV)))[k]?=some x):∃ q,q∈l∧x=[PE (q:Int)]:=by
 obtain⟨q,h1,rfl⟩:=UO.1 (U8 h);exact⟨q,h1,rfl⟩
theorem Oi{l:List (List Int)}:∀ x∈l.map (fun r=>([.c (SL enI r)]:List PV)),x.length=1:=by
 intro x hx;obtain⟨p,_,rfl⟩:=UO.1 hx;rfl
theorem Rp{l:List (List Int)}{k:Nat}{x:List PV}(h:(l.map (fun r=>([.c (SL enI r)]:List PV)))[k]?=some x):∃ r,r∈l∧x=[.c (SL enI r)]:=by
 obtain⟨q,h1,rfl⟩:=UO.1 (U8 h);exact⟨q,h1,rfl⟩
def TlP(z off:Nat)(_:Hp)(v x:Value):Prop:=∃ a b n cap,v=.slice a n cap∧off<=n∧n<=cap∧x=.slice b (n-off) (cap-off)∧(off<cap->∃ k,a=some ⟨k,0,none⟩∧b=some ⟨k,off*z,none⟩)
section
variable {P:Program}{tt:TT}(hT:bM P tt)
variable {dst:Option Nat}{ty:TypeId}{pos:String}{af:Array Edge}{gd:Option (Nat×Bool)}{d:Nat}{ρ:Operand->AV}{own:Own}
variable {T e be:TypeId}{i j:TyI}{x y:Operand}{m off z:Nat}{cs:List DV}
theorem TlP.len{h:Hp}{r:Nat->Value}{own':Own}{w:World}{C:Ctx}(hw:WOK C h r own' w)(hb:own' m=some ⟨true,z,be,cs⟩)(hz:0<z){x:Value}(k:TlP z off h (r m) x){l:Nat}(hl:cs.length=l*z) :
  ∃ a b cap,r m=.slice a l cap∧off<=l∧l<=cap∧l<=140737488355328∧x=.slice b (l-off) (cap-off)∧(off<cap->∃ k,a=some ⟨k,0,none⟩∧b=some ⟨k,off*z,none⟩)∧(cap=0∨∃ k c,a=some ⟨k,0,none⟩∧w.heap[k]?=some (.cells c be (0,0))∧c.size=cap*z∧DReps h cs fun i=>c[i]?):=by
 have hold:=hw.ow m _ hb;rw[BlkRep.slE rfl hz]at hold;obtain⟨ad,l',cap,q1,q2,q3,q4,q5⟩:=hold;have e1:l'=l:=U4 hz (q2.trans hl);subst e1;obtain⟨a,b,n,cap',g1,g2,g3,g4,g5⟩:=k;rw[q1]at g1;simp only[Value.slice.injEq]at g1;obtain⟨rfl,rfl,rfl⟩:=g1;exact⟨ad,b,cap,q1,g2,q3,q4,g4,g5,q5⟩
include hT
theorem yb(ht:tt T=some i)(hs:i.sh=.sl e)(hx:ρ x=.axm (TlP z off) m)(hb:own m=some ⟨true,z,be,cs⟩)(hz:Nat.blt 0 z=true){l:Nat}(hl:cs.length=l*z) :
  Eff P ⟨dst,.call ⟨.builtin .len,#[x],#[T]⟩,ty,pos,af,gd⟩ d ρ own (.p (.c (.v (.int .i64 ((l-off:Nat):Int))))) [] none [m] :=
 aP fun C h r own' a w hrep hrd hw=>by
  have e1:=hrep x (by simp[Op.operands,Call.operands]);rw[hx]at e1;obtain⟨ad,b,cap,_,_,_,_,q4,_,_⟩:=TlP.len hw ((hrd m (by simp)).trans hb) (by simpa using hz) (e1 h fun _ _ _ e=>e) hl;refine⟨goInt ((l-off:Nat):Int),?_,by simp only[AVRep,PRep,DRep];exact⟨rfl,rfl⟩⟩;simp only[execOp,resolve,Sem.run_bind,Sem.run_pure,Result.andThen_ok,invoke];simp[builtin,q4,Builtin.len_,run_underlying ((hT T i ht).slice hs),goInt]
theorem sV{k:IntKind}(ht:tt T=some i)(hs:i.sh=.sl e)(he:tt e=some j)(_hj:j.size=z)(hx:ρ x=.axm (TlP z off) m)(hb:own m=some ⟨true,z,be,cs⟩)(hz:Nat.blt 0 z=true){l:Nat}(hl:cs.length=l*z)(hy:ρ y=.p (.c (.v (.int k 0))))(hn:off<l) :
  Eff P ⟨dst,.indexAddr T x y,ty,pos,af,gd⟩ d ρ own (.loc m (off*z)) [] none [m] :=
 aP fun C h r own' a w hrep hrd hw=>by
  have e1:=hrep x (by simp[Op.operands]);have e2:=hrep y (by simp[Op.operands]);rw[hx]at e1;rw[hy]at e2;obtain⟨ad,b,cap,q1,q2,q3,_,q4,q5,_⟩:=TlP.len hw ((hrd m (by simp)).trans hb) (by simpa using hz) (e1 h fun _ _ _ e=>e) hl;obtain⟨k',rfl,rfl⟩:=q5 (by omega);have hu:=(hT T i ht).slice hs;have hlt:(0:Int)<((l-off:Nat):Int):=by omega
  refine⟨.pointer (some ⟨k',off*z,none⟩),?_,k',?_,rfl⟩
  ·simp only[execOp,q4,bh e2,Instr.indexAt,asIntOf,Sem.run_bind,Sem.run_pure,Result.andThen_ok,run_underlying hu,Int.le_refl,hlt,and_self,if_true,(hT e j he).size,Addr.add_lit,Int.toNat_zero,Nat.zero_mul,Nat.add_zero]
  rw[q1];simp only[aD];rw[G2 (by omega)];exact⟨rfl,rfl⟩
theorem yd{k:IntKind}{off:Nat}(ht:tt T=some i)(hs:i.sh=.sl e)(he:tt e=some j)(hj:j.size=z)(hx:ρ x=.vec m)(hb:own m=some ⟨true,z,be,cs⟩)(hz:Nat.blt 0 z=true){l:Nat}(hl:cs.length=l*z)(hy:ρ y=.p (.c (.v (.int k (off:Int)))))(hn:off<=l) :
  Eff P ⟨dst,.slice T x (some y) none none,ty,pos,af,gd⟩ d ρ own (.axm (TlP z off) m) [] none [m] :=
 aP fun C h r own' a w hrep hrd hw=>by
  have e1:=hrep x (by simp[Op.operands]);have e2:=hrep y (by simp[Op.operands]);rw[hx]at e1;rw[hy]at e2;have hz1:0<z:=by simpa using hz
  have hold:=hw.ow m _ ((hrd m (by simp)).trans hb);rw[BlkRep.slE rfl hz1]at hold;obtain⟨ad,l',cap,q1,q2,q3,q4,q5⟩:=hold;have hl':l'=l:=U4 hz1 (q2.trans hl);subst hl';have v1:a.eval x=.slice ad l' cap:=(show a.eval x=r m from e1).trans q1;have v2:a.eval y=.int k (off:Int):=bh e2;have hu:=(hT T i ht).slice hs;have hel:P.elem T=e:=by simp[Program.elem,hu]
  have hu':P.underlying T=some (.slice (P.elem T)):=by rw[hel];exact hu
  refine⟨sliced ad off l' cap j.size,?_,fun h' _=>⟨ad,if cap=off then ad else ad.map (·.add (off*j.size)),l',cap,q1,hn,q3,?_,fun hlt=>?_⟩⟩
  ·simp only[execOp,v1,Option.map_some,Option.map_none,v2,Sem.run_bind,run_sliceAt_slice w T _ _ _ _ hu',run_slice_l w T _ l' cap hu' k (off:Int) (by omega) (by omega),hel,(hT e j he).size,Result.andThen_ok,Sem.run_pure,Int.toNat_natCast]
  ·simp only[sliced]
  rcases q5 with q5|⟨kk,c,rfl,_⟩
  ·omega
  refine⟨kk,rfl,?_⟩;rw[G2 (by omega),hj];simp only[Option.map_some,Addr.add_lit,Nat.zero_add]
end
def BxN:Hp->Value->Value->Prop:=fun h v x=>∃ k c e fr,x=.pointer (some ⟨k,0,none⟩)∧h k=some (.cells c e fr)∧c[0]?=some v
abbrev BN(m:Nat):AV:=.axm BxN m
section ghost
variable {P:Program}{B:Bool}{N np:Nat}{Q:Exit->St->Prop}{s:St}{c:Code}
theorem Ha{t m j:Nat}{e:TypeId}(ht:s.regs t=.loc m 0)(hm:s.own m=some ⟨false,j+2,e,[.any]⟩)(h:AWp P B N np c Q ⟨upd s.regs t (BN j),upd s.own m none⟩):AWp P B N np c Q s:=by
 intro ro hB C hh r a w hn hc;obtain⟨k,tt,q1,q2⟩:=hc.wk.lk m _ j hm (by simp[lnk]);have hbm:=hc.wk.ow m _ hm;rw[BlkRep.boxE rfl]at hbm;obtain⟨k0,c0,p1,p2,p3,p4⟩:=hbm;rw[p1]at q1;simp only[Value.pointer.injEq,Option.some.injEq,Addr.mk.injEq]at q1;obtain⟨rfl,_,_⟩:=q1;rw[p2]at q2;have hc0:c0=lkC [.any] tt (r j):=by simp only[Option.some.injEq,Obj.cells.injEq]at q2;exact q2.1
 have hcp:c0[0]?=some (r j):=by rw[hc0];exact pN rfl (by decide) (by rw[<- hc0];exact p3)
 obtain⟨f1,f2⟩:=hc.wk.freeze (m:=m) (i:=k0) (by rw[hm];simp) (by rw[p1];rfl) p2;refine h ro hB C _ r a w hn ⟨hc.sz,hc.df.mono f2,fun t'=>?_,f1⟩;show AVRep _ _ (upd s.regs t _ t') _;by_cases e':t'=t
 ·subst e';rw[upd_same];have hx:=hc.rg t';rw[ht]at hx;obtain⟨k2,⟨g1,_⟩,g2⟩:=hx;rw[p1]at g1;simp only[aD,Option.some.injEq]at g1;subst g1;intro h' q;exact⟨k0,c0,e,(0,0),g2,fL q (H2 rfl),hcp⟩
 rw[aj _ _ _ _ e'];exact AVRep.mono f2 _ _ (hc.rg t')
end ghost
section ops
variable {P:Program}{tt:TT}(hT:bM P tt)
variable {dst:Option Nat}{ty:TypeId}{pos:String}{af:Array Edge}{gd:Option (Nat×Bool)}{d:Nat}{ρ:Operand->AV}{own:Own}
variable {T:TypeId}{i:TyI}{x y:Operand}
include hT in
theorem uc{m:Nat}(ht:tt T=some i)(hg:i.sh.agg=false)(hx:ρ x=BN m):Eff P ⟨dst,.load T x,ty,pos,af,gd⟩ d ρ own (.vec m) [] none [] :=
 aP fun C h r own' a w hrep hrd hw=>by
  have e1:=hrep x (by simp[Op.operands]);rw[hx]at e1;obtain⟨k,c,e,fr,g1,g2,g3⟩:=e1 h (fun _ _ _ e=>e);refine⟨r m,?_,rfl⟩;have hc:w.cell? ⟨k,0,none⟩=some (r m):=by simp[World.cell?,hw.hi _ _ g2,g3]
  simp only[execOp,g1,Sem.run_bind,ez,loadVar,(hT T i ht).isAgg,hg,Result.andThen_ok,Bool.false_eq_true,if_false,run_load,hc,Sem.run_pure]
theorem Eff.callMc{f:FuncId}{c:Operand}{args:Array Operand}{tys:Array TypeId}{res v:AV}{caps:List AV}{o o':Own}{rd:List Nat}(hx:ρ c=v)(hv:∀ h r x,AVRep h r v x->∃ lb:Array Value,x=.func (.func f) #[] lb∧RepArgs h r caps lb.toList)(hc:CallM P f (args.toList.map ρ++caps) o res o')(ho:∀ m∈rd,own m=o m)(hd:∀ m,o m≠none->m∈rd)(hlk:rd.all (fun m=>(wH (o' m)).isEmpty)=true:=by rfl) :
  Eff P ⟨dst,.call ⟨.value c,args,tys⟩,ty,pos,af,gd⟩ d ρ own res (rd.map fun m=>(m,o' m)) none rd:=by
 intro C h r own' a w K Q hrep hrd hw _ hK;have ho':∀ m,o m≠none->own' m=o m:=fun m hm=>(hrd m (hd m hm)).trans (ho m (hd m hm))
 have e1:=hrep c (by simp[Op.operands,Call.operands]);rw[hx]at e1;obtain⟨lb,e2,e3⟩:=hv _ _ _ e1;unfold Oper.wp;have hrun:(execOp a.eval ⟨dst,.call ⟨.value c,args,tys⟩,ty,pos,af,gd⟩).run P w=.ok (.enter f (args.map a.eval++lb)) w:=by
  simp only[execOp,resolve,Sem.run_bind,e2,Deferred.ofValue,Sem.run_pure,Result.andThen_ok,invoke,Array.empty_append];exact bU hc.fn _ w
 rw[hrun];refine Calls.mono (hc.go h r w (args.map a.eval++lb) ?_ (hw.before ho')) ?_
 ·rw[W5,VU];exact RepArgs.app (cX _ fun x hx=>hrep x (by simp only[Op.operands,Call.operands];exact Wa.2 (.inr (VN.1 hx)))) e3
 rintro e w' ⟨v,h',rfl,hv,hq⟩;refine hK v h' r w' hq.hg (fun _ _=>rfl) hv (hw.after ho' hq (fun m=>?_) fun m b hm hb=>?_)
 rotate_left
 ·have:=Uo.1 hlk m (hd m hm);rw[hb]at this;exact List.isEmpty_iff.1 this
 show cw own' _ m=_;rw[qD];by_cases hm:m∈rd
 ·rw[H2 hm];by_cases hom:o m≠none
  ·rw[H2 hom]
  rw[G2 hom];have h1:own' m=o m:=(hrd m hm).trans (ho m hm);have h2:o m=none:=by
   cases h:o m with
   |none=>rfl
   |some b=>exact absurd (by rw[h];simp) hom
  rw[h1,h2];cases h3:o' m with
  |none=>rfl
  |some b=>exact absurd (hq.dom m (by rw[h3];simp)) (by simp[h2])
 rw[G2 hm,G2 fun hom=>hm (hd m hom)]
def ClD(f:FuncId)(ps qs:List DV):Hp->List Value->Value->Prop:=fun h vs y=>∃ v u p1 p2 p3 k,vs=[v,u]∧y=.func (.func f) #[] #[p1,p2,p3,.pointer (some ⟨k,0,none⟩)]∧BxN h v p1∧IpRep h ps p2∧IpRep h qs p3∧aD u=some k∧isMap u=false
abbrev ClA(f:FuncId)(ps qs:List DV)(m n:Nat):AV:=.axl (ClD f ps qs) [m,n]
theorem BxN.stay{h h':Hp}{v x:Value}(q:Hlf h h'):BxN h v x->BxN h' v x
 |⟨k,c,e,fr,h1,h2,h3⟩=>⟨k,c,e,fr,h1,fL q h2,h3⟩
theorem wY{h:Hp}{r:Nat->Value}{xs:List DV}{x:Value}(k:IpRep h xs x):AVRep h r (.ip xs) x:=by
 obtain⟨b,off,c,e,fr,z1,z2,z3⟩:=k;exact⟨b,off,c,e,fr,z1,z2,z3⟩
theorem ClA.caps{f:FuncId}{ps qs:List DV}{m n:Nat}(h:Hp)(r:Nat->Value)(x:Value)(k:AVRep h r (ClA f ps qs m n) x):∃ lb:Array Value,x=.func (.func f) #[] lb∧RepArgs h r [BN m,.ip ps,.ip qs,.loc n 0] lb.toList:=by
 obtain⟨v,u,p1,p2,p3,kk,hv,hx,g1,g2,g3,g4,g5⟩:=k h (fun _ _ _ e=>e);simp only[List.map_cons,List.map_nil,List.cons.injEq,and_true]at hv;obtain⟨rfl,rfl⟩:=hv;exact⟨_,hx,fun h' q=>g1.stay q,wY g2,wY g3,⟨kk,⟨g4,g5⟩,rfl⟩,trivial⟩
theorem uV{f:FuncId}{c1 c2 c3 c4:Operand}{m n:Nat}{ps qs:List DV}(h1:ρ c1=BN m)(h2:ρ c2=.ip ps)(h3:ρ c3=.ip qs)(h4:ρ c4=.loc n 0) :
  Eff P ⟨dst,.makeFunc (.func f) #[] #[c1,c2,c3,c4],ty,pos,af,gd⟩ d ρ own (ClA f ps qs m n) [] none [] :=
 aP fun C h r own' a w hrep hrd hw=>by
  have e1:=hrep c1 (by simp[Op.operands]);have e2:=hrep c2 (by simp[Op.operands]);have e3:=hrep c3 (by simp[Op.operands]);have e4:=hrep c4 (by simp[Op.operands]);rw[h1]at e1;rw[h2]at e2;rw[h3]at e3;rw[h4]at e4;obtain⟨k,⟨g1,g2⟩,g3⟩:=e4;refine⟨.func (.func f) #[] #[a.eval c1,a.eval c2,a.eval c3,a.eval c4],?_,?_⟩
  ·simp[execOp,Instr.makeFunc]
  intro h' q;exact⟨r m,r n,_,_,_,k,rfl,by rw[g3],e1 h' q,IpRep.stay q e2,IpRep.stay q e3,g1,g2⟩
end ops
def dtF(m:Mx)(k i:Nat)(last u v:Int):Int:=(u*mxg m k k-mxg m i k*v)/last
def dtR(k:Nat)(last:Int)(m:Mx)(i:Nat):Mx:=m.set i (eP (dtF m k i last) (mxr m i) (mxr m k))
def dtC(k:Nat)(last:Int)(m:Mx):Nat->Mx
 |0=>m
 |j+1=>dtR k last (dtC k last m j) (k+1+j)
def dtA(m:Mx):Nat->Mx×Int
 |0=>(m,1)
 |k+1=>(dtC k (dtA m k).2 (dtA m k).1 (m.length-(k+1)),mxg (dtC k (dtA m k).2 (dtA m k).1 (m.length-(k+1))) k k)
def dtL(m:Mx):Int:=(dtA m m.length).2
def oy(m:Mx):Bool:=decide (m.length<=12)&&decide (0<m.length)&&(List.range m.length).all fun k=>decide (mxg (dtA m k).1 k k≠0)&&smz (dtA m k).2&&decide ((dtA m k).2≠0)&&(List.range (m.length-k)).all fun j=>fg m.length (dtC k (dtA m k).2 (dtA m k).1 j)
theorem qd(k:Nat)(last:Int)(m:Mx):∀ j,(dtC k last m j).length=m.length
 |0=>rfl
 |j+1=>by
  show((dtC k last m j).set _ _).length=_;rw[UL,qd k last m j]
theorem j0(m:Mx):∀ k,(dtA m k).1.length=m.length
 |0=>rfl
 |k+1=>by
  show(dtC _ _ _ _).length=_;rw[qd,j0 m k]
theorem FI{m:Mx}(h:oy m=true):m.length<=12∧0<m.length:=by
 unfold oy at h;simp only[Bool.and_eq_true]at h;exact⟨dT0 h.1.1,dT0 h.1.2⟩
theorem FJ{m:Mx}(h:oy m=true){k:Nat}(hk:k<m.length):mxg (dtA m k).1 k k≠0∧L 5 (dtA m k).2∧(dtA m k).2≠0∧∀ j,j<m.length-k->fg m.length (dtC k (dtA m k).2 (dtA m k).1 j)=true:=by
 unfold oy at h;simp only[Bool.and_eq_true]at h;have h1:=Uo.1 h.2 k (UW.2 hk);simp only[Bool.and_eq_true]at h1;exact⟨dT0 h1.1.1.1,dS h1.1.1.2,dT0 h1.1.2,fun j hj=>Uo.1 h1.2 j (UW.2 hj)⟩
def xw:List UInt8->Nat->Nat
 | [],a=>a
 |x::l,a=>xw l (10*a+(x.toNat-48))
theorem xu:∀ (l m:List UInt8) (a:Nat),xw (l++m) a=xw m (xw l a)
 | [],_,_=>rfl
 |_::l,m,_=>xu l m _
theorem uL{i:Nat}(h:i<10):(UInt8.ofNat (48+i)).toNat-48=i:=by
 have:(UInt8.ofNat (48+i)).toNat=48+i:=by
  rw[UInt8.toNat_ofNat'];omega
 omega
theorem xt(u:Nat):xw (Lib.decDigits u) 0=u:=by
 induction u using Nat.strongRecOn with
 |_ u ih =>
  rw[Lib.decDigits];by_cases h:u<10
  ·rw[dif_pos h];show 10*0+((UInt8.ofNat (48+u)).toNat-48)=u;rw[uL h];omega
  rw[dif_neg h,xu,ih (u/10) (by omega)];show 10*(u/10)+((UInt8.ofNat (48+u%10)).toNat-48)=u;rw[uL (by omega)];omega
theorem xA(u:Nat):∀ x∈Lib.decDigits u,48<=x.toNat:=by
 induction u using Nat.strongRecOn with
 |_ u ih =>
  rw[Lib.decDigits];have key:∀ i,i<10->48<=(UInt8.ofNat (48+i)).toNat:=fun i h=>by rw[UInt8.toNat_ofNat'];omega
  by_cases h:u<10
  ·rw[dif_pos h];intro x hx;rw[U3]at hx;subst hx;exact key u h
  rw[dif_neg h];intro x hx;rcases Vi.1 hx with hx|hx
  ·exact ih (u/10) (by omega) x hx
  rw[U3]at hx;subst hx;exact key _ (by omega)
theorem Af{u v:Nat}(h:Lib.decDigits u=Lib.decDigits v):u=v:=by
 rw[<- xt u,<- xt v,h]
theorem pQ(z:Int):∀ x∈Lib.itoa z,45<=x.toNat:=by
 unfold Lib.itoa;intro x hx;split at hx
 ·rcases Vh.1 hx with rfl|hx
  ·decide
  have:=xA _ x hx;omega
 have:=xA _ x hx;omega
theorem qU{a b:Int}(h:Lib.itoa a=Lib.itoa b):a=b:=by
 have hd:∀ (u v:Nat),Lib.decDigits u≠45::Lib.decDigits v:=fun u v e=>by
  have:=xA u 45 (by rw[e];simp)
  revert this;decide
 unfold Lib.itoa at h;by_cases h1:a<0 <;> by_cases h2:b<0
 ·rw[H2 h1,H2 h2]at h;have:=Af (WN h).2;omega
 ·rw[H2 h1,G2 h2]at h;exact absurd h.symm (hd _ _)
 ·rw[G2 h1,H2 h2]at h;exact absurd h (hd _ _)
 rw[G2 h1,G2 h2]at h;have:=Af h;omega
theorem xB:∀ {l l' m m':List UInt8},(∀ x∈l,45<=x.toNat)->(∀ x∈l',45<=x.toNat)->l++32::m=l'++32::m'->l=l'∧m=m'
 | [],[],_,_,_,_,e=>⟨rfl,(WN e).2⟩
 | [],y::l',_,_,_,h2,e=>by
  have h:=(WN e).1;have:=h2 y (by simp);rw[<- h]at this;exact absurd this (by decide)
 |x::l,[],_,_,h1,_,e=>by
  have h:=(WN e).1;have:=h1 x (by simp);rw[h]at this;exact absurd this (by decide)
 |x::l,y::l',_,_,h1,h2,e=>by
  obtain⟨e1,e2⟩:=WN e;obtain⟨e3,e4⟩:=xB (fun z hz=>h1 z (by simp[hz])) (fun z hz=>h2 z (by simp[hz])) e2;exact⟨by rw[e1,e3],e4⟩
theorem C5{f g:Fm}(h:ky f=ky g):f=g:=by
 rw[Bj,Bj]at h;obtain⟨h1,h2⟩:=xB (pQ _) (pQ _) h;obtain⟨h3,h4⟩:=xB (pQ _) (pQ _) h2;have e1:=qU h1;have e2:=qU h3;have e3:=qU h4;cases f;cases g;simp only at e1 e2 e3;rw[e1,e2,e3]
theorem da{a b:Int}(h:a=b):(a != b)=false:=by simp[h]
theorem Sv{a b:Int}(h:a≠b):(a != b)=true:=by simpa using h
structure Gd(D:Int)(f:Fm):Prop where
 cl:Cl D f
 rd:f.rd=f
def Dok(D:Int):Prop:=-65536<=D∧D<0
section
variable {D:Int}{f g:Fm}
theorem Gd.small(h:Gd D f)(hD:Dok D):(0<f.a∧f.a<=2000)∧(-2000<=f.b∧f.b<=2000)∧0<f.c∧f.c<=1400000:=qJ h.cl h.rd (by have:=hD.1;omega)
theorem Gd.L6(h:Gd D f)(hD:Dok D):L 6 f.a∧L 6 f.b∧L 6 f.c:=by
 have:=h.small hD;refine⟨?_,?_,?_⟩ <;> (unfold L;omega)
theorem Gd.ky(h:Gd D f)(hD:Dok D):F5 f:=by
 have:=h.small hD;refine⟨?_,?_,?_⟩ <;> omega
theorem Gd.mlt(hf:Gd D f)(hg:Gd D g):Gd D (mlt f g):=⟨gh hf.cl hg.cl,oB hf.cl hg.cl⟩
theorem Gd.one(h:Cl D f):Gd D (prP D):=⟨dZ h,jA h⟩
theorem Gd.zpw(h:Gd D f)(n:Int):Gd D (zpw D f n):=⟨(BM h.cl n).1,(BM h.cl n).2⟩
theorem Gd.pw(h:Gd D f)(n:Nat):Gd D (pw D f n):=⟨(cA h.cl n).1,(cA h.cl n).2⟩
theorem Gd.comp(hf:Gd D f)(hg:Gd D g):AV.t [PF (cmV f g),PE (cmE f g)]=AV.t [PF (AM.mlt f g),PE 0]:=by
 obtain⟨h1,h2⟩:=PA hf.cl hg.cl;rw[h1,h2]
theorem Gd.powr(hf:Gd D f)(n:Int):AV.t [PF (pwV f n),PE (rfE f)]=AV.t [PF (AM.zpw D f n),PE 0]:=by
 have h:=lN hf.cl;have hd:=hf.cl.disc;unfold pwV;rw[H2 h,h,hd]
theorem Gd.ck(h:Gd D f):ck f.a f.b f.c=0:=rH h.cl.pos
end
def imF(D:Int)(gs:List Fm)(e:List Int):Nat->Fm
 |0=>prP D
 |i+1=>mlt (imF D gs e i) (zpw D (gs.getD i ⟨0,0,0⟩) (e.getD i 0))
theorem w7{D:Int}{gs:List Fm}{e:List Int}{f:Fm}(h0:Cl D f)(hg:∀ g∈gs,Gd D g):∀ i,i<=gs.length->Gd D (imF D gs e i)
 |0,_=>Gd.one h0
 |i+1,h=>(w7 h0 hg i (by omega)).mlt ((hg _ (ct _ (by omega))).zpw _)
theorem GB{α:Type}(p:α->Bool){l:List α}(h:∀ x∈l,p x=false):fiX p l=-1:=by
 unfold fiX;rw[G2];intro e;obtain⟨x,hx,hp⟩:=Xd.1 e;rw[h x hx]at hp;cases hp
abbrev enZ(z:Int):List DV:=[.v (.int .i64 z)]
theorem qb:∀ z,(enZ z).length=1:=fun _=>rfl
abbrev Tab:=List (Fm×List Int)
def aW:Tab->Fm->Option (List Int)
 | [],_=>none
 |p::T,f=>if p.1=f then some p.2 else aW T f
def mS(T:Tab):MM Str:=T.map fun p=>(ky p.1,[SL enZ p.2])
theorem l4(T:Tab):EW none (enE dJ (mS T)):=Dy (fun p hp=>by
 obtain⟨q,_,rfl⟩:=UO.1 hp;rfl)
theorem pV:∀ (T:Tab) (f:Fm),fD (mS T) (ky f)=(aW T f).map fun e=>[SL enZ e]
 | [],_=>rfl
 |p::T,f=>by
  show fD ((ky p.1,[SL enZ p.2])::mS T) (ky f)=(aW (p::T) f).map _;unfold fD aW;by_cases h:p.1=f
  ·rw[H2 h,H2 (by rw[h])];rfl
  rw[G2 h,G2 (fun e=>h (C5 e))];exact pV T f
theorem H0(T:Tab)(f:Fm):lkV none (mS T) (ky f) [.sl 0 []] true=.t [.c (SL enZ ((aW T f).getD [])),.c (.v (.bool (aW T f).isSome))]:=by
 show AV.t [lkP none (mS T) (ky f) [.sl 0 []],.c (.v (.bool (fD (mS T) (ky f)).isSome))]=_;unfold lkP;rw[pV];cases aW T f with
 |none=>rfl
 |some e=>rfl
theorem H1(T:Tab)(f:Fm):lkV none (mS T) (ky f) [.sl 0 []] false=.p (.c (SL enZ ((aW T f).getD []))):=by
 show AV.p (lkP none (mS T) (ky f) [.sl 0 []])=_;unfold lkP;rw[pV];cases aW T f with
 |none=>rfl
 |some e=>rfl
theorem pJ(h:Hp):PRep h (pvM none [.sl 0 []]) (.slice none 0 0):=by
 show DRep h (.sl 0 []) _;simp only[DRep];exact⟨none,0,rfl,Iv _,by omega,.inl trivial⟩
abbrev sbC(D:Int)(c2 c3:DV)(how:Int)(T:Tab)(l:List Fm):List DV:=[zn D,zm D,c2,c3,.v (.int .i64 how),MP none (enE dJ (mS T)),FsL l]
theorem Gd.pw1{D:Int}{f:Fm}(h:Gd D f):AM.pw D f 1=f:=(vV h.cl).trans h.rd
structure OrdT(D:Int)(T:Tab)(f:Fm)(k:Nat):Prop where
 pos:1<=k
 le:k<=1000000
 hit:(aW T (pw D f k)).isSome=true
 no:∀ j,1<=j->j<k->aW T (pw D f j)=none
theorem OrdT.at{D:Int}{T:Tab}{f:Fm}{k j:Nat}(h:OrdT D T f k)(h1:1<=j)(h2:j<=k)(hs:(aW T (pw D f j)).isSome=true):j=k:=by
 rcases Ut j k with g|g
 ·rw[h.no j h1 g]at hs;cases hs
 omega
theorem OrdT.lt{D:Int}{T:Tab}{f:Fm}{k j:Nat}(h:OrdT D T f k)(h2:j<=k)(hs:(aW T (pw D f j)).isSome=false):j<k:=by
 rcases Ut j k with g|g
 ·exact g
 have:j=k:=by omega
 subst this;rw[h.hit]at hs;cases hs
def o3(b0 b1 b2:Blk):Own:=upd (upd (upd O 0 (some b0)) 1 (some b1)) 2 (some b2)
theorem S5(b0 b1 b2:Blk):o3 b0 b1 b2 0=some b0:=rfl
theorem S4(b0 b1 b2:Blk):o3 b0 b1 b2 1=some b1:=rfl
theorem S3(b0 b1 b2:Blk):o3 b0 b1 b2 2=some b2:=rfl
theorem u7{b0 b1 b2:Blk}{m:Nat}(h:o3 b0 b1 b2 m≠none):m=0∨m=1∨m=2:=by
 by_cases e2:m=2
 ·exact .inr (.inr e2)
 by_cases e1:m=1
 ·exact .inr (.inl e1)
 by_cases e0:m=0
 ·exact .inl e0
 unfold o3 at h;rw[aj _ _ _ _ e2,aj _ _ _ _ e1,aj _ _ _ _ e0]at h;exact absurd rfl h
structure AfterR(h:Hp)(r:Nat->Value)(o:Own)(w:World)(h':Hp)(r':Nat->Value)(o':Own)(w':World):Prop where
 ow:∀ m b,o' m=some b->BlkRep h' w' (r' m) b
 inj:∀ m n k,o' m≠none->o' n≠none->aD (r' m)=some k->aD (r' n)=some k->m=n
 fr:∀ m k,o' m≠none->aD (r' m)=some k->w.heap.size<=k∨∃ n,o n≠none∧aD (r n)=some k
 hi:∀ k ob,h' k=some ob->w'.heap[k]?=some ob
 ho:∀ m k,o' m≠none->aD (r' m)=some k->h' k=none
 os:w'.os=w.os
 tape:w'.tape=w.tape
 output:OutD w' w
 size:w.heap.size<=w'.heap.size
 old:∀ k,k<w.heap.size->(¬ ∃ m,o m≠none∧aD (r m)=some k)->w'.heap[k]?=w.heap[k]?
 hg:Hle h h'
 hn:∀ k,h' k≠none->h k≠none∨w.heap.size<=k∨∃ m,o m≠none∧aD (r m)=some k
def r3(r:Nat->Value)(g1 g2:Value):Nat->Value:=fun n=>if n=1 then g1 else if n=2 then g2 else r n
structure CallS(P:Program)(f:FuncId)(args:List AV)(B0:Value->Value->Blk)(B1 B2:Blk)(B0':Value->Value->Blk)(B1' B2':Blk):Prop where
 fn:lS P f
 go:∀ (h:Hp) (r:Nat->Value) (w:World) (cargs:Array Value),RepArgs h r args cargs.toList->Before h r (o3 (B0 (r 1) (r 2)) B1 B2) w ->
  Calls P f cargs w fun e w'=>∃ v h' g1 g2,e=.returned v∧AfterR h r (o3 (B0 (r 1) (r 2)) B1 B2) w h' (r3 r g1 g2) (o3 (B0' g1 g2) B1' B2') w'
def SO(fn:Func)(B0':Value->Value->Blk)(B1' B2':Blk)(e:Exit)(s:St):Prop:=(e=.normal∨e=.ret)∧fn.results=#[]∧∃ g1 g2 n1 n2 t1 t2,s.own 0=some (B0' g1 g2)∧s.own n1=some B1'∧s.own n2=some B2'∧s.regs t1=Nm g1 n1∧s.regs t2=Nm g2 n2∧n1≠n2∧n1≠0∧n2≠0
theorem GU{P:Program}{f:FuncId}{fn:Func}{c:Code}{N:Nat}{args:List AV}{B0 B0':Value->Value->Blk}{B1 B2 B1' B2':Blk}(hf:P.funcs[f]?=some fn)(hnm:(fn.name == "runtime.NumGoroutine")=false)(hb:fn.body=some c)(hN:fn.ntmps=N)(hna:args.length<=N)(hlk:∀ g1 g2 m b,o3 (B0 g1 g2) B1 B2 m=some b->lnk b=[])(h:∀ g1 g2,AWp P false N 3 c (SO fn B0' B1' B2') ⟨upd (upd (fun t=>args.getD t .junk) N (Nm g1 1)) (N+1) (Nm g2 2),o3 (B0 g1 g2) B1 B2⟩):CallS P f args B0 B1 B2 B0' B1' B2':=by
 refine⟨⟨fn,hf,hnm,by rw[hb];rfl⟩,?_⟩;intro hh r w cargs hra hbf;have hlen:cargs.size=args.length:=by
  have:∀ (aa:List AV) (xs:List Value),RepArgs hh r aa xs->xs.length=aa.length:=by
   intro aa;induction aa with
   |nil=>intro xs h;cases xs with
    |nil=>rfl
    |cons _ _=>exact h.elim
   |cons p ps ih=>intro xs h;cases xs with
    |nil=>exact h.elim
    |cons x xs=>simp[ih xs h.2]
  simpa using this _ _ hra
 have hget:∀ (aa:List AV) (xs:List Value),RepArgs hh r aa xs->∀ (t:Nat) (x:AV),aa[t]?=some x->∃ y,xs[t]?=some y∧AVRep hh r x y:=by
  intro aa;induction aa with
  |nil=>intro xs _ t x h;simp at h
  |cons p ps ih=>intro xs h t x hx;cases xs with
   |nil=>exact h.elim
   |cons y ys=>cases t with
    |zero=>simp at hx;subst hx;exact⟨y,rfl,h.1⟩
    |succ t=>exact ih ys h.2 t x (by simpa using hx)
 refine mZ (n:=0) (callsIn_of_wp_marks hf hb trivial ?_)
 let o:=o3 (B0 (r 1) (r 2)) B1 B2
 let C:Ctx:=⟨w,hh,fun k=>∃ m,o m≠none∧aD (r m)=some k,r,3,true⟩
 refine wpIn_mono (h (r 1) (r 2) none (fun _=>rfl) C hh r _ w ⟨rfl,rfl⟩ ⟨?_,trivial,?_,⟨hbf.ow,hbf.inj,hbf.hi,hbf.ho,rfl,rfl,.refl _,Iv _,fun _ _ _=>rfl,fun m k hm hk=>.inr ⟨m,hm,hk⟩,.refl _,fun k hk=>.inl hk,hbf.gl,fun _ _=>rfl,fun m b j hb hj=>by rw[hlk _ _ m b hb]at hj;cases hj⟩⟩) ?_
 ·simp[hN];omega
 ·intro t;show AVRep hh r (upd (upd (fun t=>args.getD t .junk) N (Nm (r 1) 1)) (N+1) (Nm (r 2) 2) t) _;by_cases e2:t=N+1
  ·subst e2;rw[upd_same];exact fun _ _=>rfl
  rw[aj _ _ _ _ e2];by_cases e1:t=N
  ·subst e1;rw[upd_same];exact fun _ _=>rfl
  rw[aj _ _ _ _ e1];rw[As];cases ht:args[t]? with
  |none=>exact trivial
  |some x =>
   obtain⟨y,h1,h2⟩:=hget _ _ hra t x ht;have h1':cargs[t]?=some y:=by rw[<- UJ];exact h1
   have hlt:t<cargs.size:=(K0.1 h1').1;simp only[Array.getD_eq_getD_getElem?,Array.getElem?_append_left hlt,h1',Option.getD_some];exact h2
 rintro e a' w' ⟨s',h',r',⟨he,hres,g1,g2,n1,n2,t1,t2,q0,q1,q2,q3,q4,q5,q6,q7⟩,hc⟩;have fin:LeavesInM (Wd none) 0 P fn a'.tmps (fun e w'=>∃ v h' g1 g2,e=.returned v∧AfterR hh r o w h' (r3 r g1 g2) (o3 (B0' g1 g2) B1' B2') w') a'.defers .returning w':=by
  refine iM hc ?_;intro h' w' hc;have hk:=hc.wk;have e1:r' n1=g1:=by
   have:=hc.rg t1;rw[q3]at this;exact this h' (fun _ _ _ e=>e)
  have e2:r' n2=g2:=by
   have:=hc.rg t2;rw[q4]at this;exact this h' (fun _ _ _ e=>e)
  have e0:r' 0=r 0:=hk.kp 0 (by show 0<3;omega);obtain⟨v,hv1,_⟩:=qn (P:=P) (fn:=fn) (s:=s') (pvs:=[]) (by rw[hres];exact .nil) hc;refine⟨v,hv1,_,h',g1,g2,rfl,?_⟩;have nm:∀ m,o3 (B0' g1 g2) B1' B2' m≠none->∃ n,s'.own n=o3 (B0' g1 g2) B1' B2' m∧r' n=r3 r g1 g2 m∧(m=0∧n=0∨m=1∧n=n1∨m=2∧n=n2):=by
   intro m hm;rcases u7 hm with rfl|rfl|rfl
   ·exact⟨0,q0,e0,.inl ⟨rfl,rfl⟩⟩
   ·exact⟨n1,q1,e1,.inr (.inl ⟨rfl,rfl⟩)⟩
   exact⟨n2,q2,e2,.inr (.inr ⟨rfl,rfl⟩)⟩
  refine⟨fun m b hb=>?_,fun m n k hm hn k1 k2=>?_,fun m k hm hk1=>?_,hk.hi,fun m k hm hk1=>?_,hk.os,hk.tape,hk.output,hk.size,hk.old,hk.hg,hk.hn⟩
  ·obtain⟨n,p1,p2,_⟩:=nm m (by rw[hb];simp);rw[<- p2];exact hk.ow n b (p1.trans hb)
  ·obtain⟨m',p1,p2,p3⟩:=nm m hm;obtain⟨n',p4,p5,p6⟩:=nm n hn;rw[<- p2]at k1;rw[<- p5]at k2;have:=hk.inj m' n' k (by rw[p1];exact hm) (by rw[p4];exact hn) k1 k2;omega
  ·obtain⟨n,p1,p2,_⟩:=nm m hm;rw[<- p2]at hk1;exact hk.fo n k (by rw[p1];exact hm) hk1
  obtain⟨n,p1,p2,_⟩:=nm m hm;rw[<- p2]at hk1;exact hk.ho n k (by rw[p1];exact hm) hk1
 rcases he with rfl|rfl <;> exact fin
theorem pM:∀ {l:List (Nat×Blk)},(l.all fun p=>(lnk p.2).isEmpty)=true->∀ m b,c9 l m=some b->lnk b=[]
 | [],_,_,_,e=>by cases e
 |(k,b0)::l,h,m,b,e=>by
  rw[List.all_cons,Uw]at h;by_cases hm:m=k
  ·subst hm;have:some b0=some b:=(upd_same _ _ _).symm.trans e;cases this;exact List.isEmpty_iff.1 h.1
  have e':c9 l m=some b:=by
   rw[<- e];exact(aj _ _ _ _ hm).symm
  exact pM h.2 m b e'
theorem RE{b0 b1 b2:Blk}(h0:lnk b0=[])(h1:lnk b1=[])(h2:lnk b2=[]):∀ m b,o3 b0 b1 b2 m=some b->lnk b=[]:=fun m b e=>by
 rcases u7 (m:=m) (by rw[e];simp)with rfl|rfl|rfl
 ·cases e;exact h0
 ·cases e;exact h1
 cases e;exact h2
theorem rZ{m1 m2:Nat}:∀ {l:List (Nat×AV)},(l.all fun p=>!(men p.2).contains m1 && !(men p.2).contains m2)=true->∀ t,∀ m∈men (a7 l t),m≠m1∧m≠m2
 | [],_,t,m,hm=>by simp[a7,men]at hm
 |(k,v)::l,h,t,m,hm=>by
  rw[List.all_cons,Uw]at h;by_cases e:t=k
  ·subst e;rw[show a7 ((t,v)::l) t=v from upd_same _ _ _]at hm;simp only[Bool.and_eq_true,Bool.not_eq_true',List.contains_eq_mem,decide_eq_false_iff_not]at h;exact⟨fun x=>h.1.1 (x▸hm),fun x=>h.1.2 (x▸hm)⟩
  rw[show a7 ((k,v)::l) t=a7 l t from aj _ _ _ _ e]at hm;exact rZ h.2 t m hm
theorem WOK.afterS{C:Ctx}{h h':Hp}{r:Nat->Value}{o:Own}{w w':World}(k:WOK C h r o w){mS m1 m2:Nat}{b0 b1 b2 b0' b1' b2':Blk}{g1 g2:Value}(hS:o mS=some b0)(h1:o m1=some b1)(h2:o m2=some b2)(d1:mS≠m1)(d2:mS≠m2)(d3:m1≠m2)(n1:C.np<=m1)(n2:C.np<=m2)(hlk:∀ m b,o m=some b->lnk b=[])(l0:lnk b0'=[])(l1:lnk b1'=[])(l2:lnk b2'=[])(q:AfterR h (fun n=>if n=0 then r mS else if n=1 then r m1 else r m2) (o3 b0 b1 b2) w h' (r3 (fun n=>if n=0 then r mS else if n=1 then r m1 else r m2) g1 g2) (o3 b0' b1' b2') w') :
  WOK C h' (upd (upd r m1 g1) m2 g2) (upd (upd (upd o mS (some b0')) m1 (some b1')) m2 (some b2')) w':=by
 have cs:∀ m,(∃ n,upd (upd (upd o mS (some b0')) m1 (some b1')) m2 (some b2') m=o3 b0' b1' b2' n∧upd (upd r m1 g1) m2 g2 m=r3 (fun n=>if n=0 then r mS else if n=1 then r m1 else r m2) g1 g2 n∧o3 b0' b1' b2' n≠none∧o m≠none∧((m=mS∧n=0)∨(m=m1∧n=1)∨(m=m2∧n=2))) ∨
   (m≠mS∧m≠m1∧m≠m2∧upd (upd (upd o mS (some b0')) m1 (some b1')) m2 (some b2') m=o m∧upd (upd r m1 g1) m2 g2 m=r m):=by
  intro m;by_cases e2:m=m2
  ·subst e2;exact .inl ⟨2,by rw[upd_same];rfl,by rw[upd_same];rfl,by rw[S3];simp,by rw[h2];simp,.inr (.inr ⟨rfl,rfl⟩)⟩
  by_cases e1:m=m1
  ·subst e1;exact .inl ⟨1,by rw[aj _ _ _ _ e2,upd_same];rfl,by rw[aj _ _ _ _ e2,upd_same];rfl,by rw[S4];simp,by rw[h1];simp,.inr (.inl ⟨rfl,rfl⟩)⟩
  by_cases e0:m=mS
  ·subst e0;exact .inl ⟨0,by rw[aj _ _ _ _ e2,aj _ _ _ _ e1,upd_same];rfl,by rw[aj _ _ _ _ e2,aj _ _ _ _ e1];rfl,by rw[S5];simp,by rw[hS];simp,.inl ⟨rfl,rfl⟩⟩
  exact .inr ⟨e0,e1,e2,by rw[aj _ _ _ _ e2,aj _ _ _ _ e1,aj _ _ _ _ e0],by rw[aj _ _ _ _ e2,aj _ _ _ _ e1]⟩
 have ov:∀ n i,o3 b0 b1 b2 n≠none->aD ((fun n=>if n=0 then r mS else if n=1 then r m1 else r m2) n)=some i->∃ m,(m=mS∨m=m1∨m=m2)∧o m≠none∧aD (r m)=some i:=by
  intro n i hn e;rcases u7 hn with rfl|rfl|rfl
  ·exact⟨mS,.inl rfl,by rw[hS];simp,e⟩
  ·exact⟨m1,.inr (.inl rfl),by rw[h1];simp,e⟩
  exact⟨m2,.inr (.inr rfl),by rw[h2];simp,e⟩
 have rest:∀ m i,o m≠none->m≠mS->m≠m1->m≠m2->aD (r m)=some i->w'.heap[i]?=w.heap[i]?∧h' i=none:=by
  intro m i hm z0 z1 z2 hi;have no:¬ ∃ n,o3 b0 b1 b2 n≠none∧aD ((fun n=>if n=0 then r mS else if n=1 then r m1 else r m2) n)=some i:=by
   rintro⟨n,hn,e⟩;obtain⟨m',hm',ho',e'⟩:=ov n i hn e;have:=k.inj m m' i hm ho' hi e';subst this;rcases hm' with x|x|x
   ·exact z0 x
   ·exact z1 x
   exact z2 x
  refine⟨q.old i (k.lt hm hi) no,?_⟩;cases hh:h' i with
  |none=>rfl
  |some ob =>
   rcases q.hn i (by rw[hh];simp)with g|g|g
   ·exact absurd (k.ho m i hm hi) g
   ·have:=k.lt hm hi;omega
   exact absurd g no
 have frs:∀ n i,o3 b0' b1' b2' n≠none->aD (r3 (fun n=>if n=0 then r mS else if n=1 then r m1 else r m2) g1 g2 n)=some i->w.heap.size<=i∨∃ m,(m=mS∨m=m1∨m=m2)∧o m≠none∧aD (r m)=some i:=fun n i hn e=>by
  rcases q.fr n i hn e with g|⟨n',g1,g2⟩
  ·exact .inl g
  exact .inr (ov n' i g1 g2)
 refine⟨fun m b hb=>?_,fun m n i hm hn e f=>?_,q.hi,fun m i hm e=>?_,q.os.trans k.os,q.tape.trans k.tape,q.output.trans k.output,UA k.size q.size,fun i hi hf=>?_,fun m i hm e=>?_,k.hg.trans q.hg,fun i hi=>?_,k.gl.mono q.hg,fun m hm=>?_,fun m b j hb hj=>?_⟩
 ·rcases cs m with⟨n,p1,p2,_,_,_⟩|⟨z0,z1,z2,p1,p2⟩
  ·rw[p2];exact q.ow n b (p1▸hb)
  rw[p2];rw[p1]at hb;exact((k.ow m b hb).mono q.hg).world fun i hi=>(rest m i (by rw[hb];simp) z0 z1 z2 hi).1
 ·rcases cs m with⟨n',p1,p2,p3,p4,p5⟩|⟨z0,z1,z2,p1,p2⟩ <;> rcases cs n with⟨n'',s1,s2,s3,s4,s5⟩|⟨y0,y1,y2,s1,s2⟩
  ·rw[p2]at e;rw[s2]at f;have:=q.inj n' n'' i p3 s3 e f;omega
  ·rw[p2]at e;rw[s2]at f;rw[s1]at hn;rcases frs n' i p3 e with g|⟨m',hm',ho',e'⟩
   ·have:=k.lt hn f;omega
   have:=k.inj n m' i hn ho' f e';omega
  ·rw[p2]at e;rw[s2]at f;rw[p1]at hm;rcases frs n'' i s3 f with g|⟨m',hm',ho',e'⟩
   ·have:=k.lt hm e;omega
   have:=k.inj m m' i hm ho' e e';omega
  rw[p2]at e;rw[s2]at f;rw[p1]at hm;rw[s1]at hn;exact k.inj m n i hm hn e f
 ·rcases cs m with⟨n',p1,p2,p3,_,_⟩|⟨z0,z1,z2,p1,p2⟩
  ·rw[p2]at e;exact q.ho n' i p3 e
  rw[p2]at e;rw[p1]at hm;exact(rest m i hm z0 z1 z2 e).2
 ·rw[q.old i (Vf hi k.size) ?_]
  ·exact k.old i hi hf
  rintro⟨n,hn,e⟩;obtain⟨m',_,ho',e'⟩:=ov n i hn e;rcases k.fo m' i ho' e' with g|g
  ·omega
  exact hf g
 ·rcases cs m with⟨n',p1,p2,p3,_,_⟩|⟨z0,z1,z2,p1,p2⟩
  ·rw[p2]at e;rcases frs n' i p3 e with g|⟨m',_,ho',e'⟩
   ·exact .inl (UA k.size g)
   exact k.fo m' i ho' e'
  rw[p2]at e;rw[p1]at hm;exact k.fo m i hm e
 ·rcases q.hn i hi with g|g|⟨n,hn,e⟩
  ·exact k.hn i g
  ·exact .inr (.inl (UA k.size g))
  obtain⟨m',_,ho',e'⟩:=ov n i hn e;exact .inr (k.fo m' i ho' e')
 ·rw[aj _ _ _ _ (by omega),aj _ _ _ _ (by omega)];exact k.kp m hm
 exfalso;have hl:lnk b=[]:=by
  rcases cs m with⟨n',p1,p2,p3,_,p5⟩|⟨z0,z1,z2,p1,p2⟩
  ·rw[p1]at hb;rcases p5 with⟨_,rfl⟩|⟨_,rfl⟩|⟨_,rfl⟩
   ·cases hb;exact l0
   ·cases hb;exact l1
   cases hb;exact l2
  rw[p1]at hb;exact hlk m b hb
 rw[hl]at hj;cases hj
theorem pi{P:Program}{tt:TT}(hT:bM P tt){B:Bool}{N np:Nat}{Q:Exit->St->Prop}{l:List (Nat×AV)}{o:Own}{id t9 t10 t94 t95 t96 u1 u2 mS m1 m2 mb z T:Nat}{i:TyI}{e:TypeId}{f:FuncId}{fc:List DV}{g1 g2:Value}{B0 B0':Value->Value->Blk}{B1 B2 B1' B2':Blk}{tys:Array TypeId}{y1 y2 y3:TypeId}{p1 p2 p3:String}{a1 a2 a3:Array Edge}(hf:CallS P f [.loc 0 0,.p (.a fc)] B0 B1 B2 B0' B1' B2')(ht:tt T=some i)(hg:i.sh.agg=true)(hsz:fc.length=i.size)(h9:a7 l t9=.loc mS 0)(h10:a7 l t10=.loc mb 0)(hbb:o mb=some ⟨false,z,e,fc⟩)(hS:o mS=some (B0 g1 g2))(h1:o m1=some B1)(h2:o m2=some B2)(hlk:∀ m b,o m=some b->lnk b=[])(hl':∀ v w,lnk (B0' v w)=[])(hl1:lnk B1'=[])(hl2:lnk B2'=[])(hd:(!Nat.beq mS m1 && !Nat.beq mS m2 && !Nat.beq m1 m2 && !Nat.beq u1 u2 && !Nat.beq t9 u1 && !Nat.beq t9 u2 && !Nat.beq t10 u1 && !Nat.beq t10 u2 && !Nat.beq t9 t94 && !Nat.beq t10 t94 && !Nat.beq t94 t95&&Nat.blt t94 N&&Nat.blt t95 N&&Nat.blt t96 N&&Nat.ble np m1&&Nat.ble np m2)=true)(hmen:(l.all fun p=>!(men p.2).contains m1 && !(men p.2).contains m2)=true)(hj1:a7 l t94=.junk)(hj2:a7 l t95=.junk)(hj3:a7 l t96=.junk)(h:∀ v1 v2,Q .normal ⟨a7 ((u1,Nm v1 m1)::(u2,Nm v2 m2)::l),upd (upd (upd o mS (some (B0' v1 v2))) m1 (some B1')) m2 (some B2')⟩) :
  AWp P B N np (.region id #[⟨some t94,.move (.tmp t9),y1,p1,a1,none⟩,⟨some t95,.load T (.tmp t10),y2,p2,a2,none⟩,⟨some t96,.call ⟨.value (.func f),#[.tmp t94,.tmp t95],tys⟩,y3,p3,a3,none⟩] false) Q ⟨a7 ((u1,Nm g1 m1)::(u2,Nm g2 m2)::l),o⟩:=by
 intro ro hB C hh r a w hnp hc;have ne:∀ {x y:Nat},(!Nat.beq x y)=true->x≠y:=fun{x y} h q=>by subst q;simp at h
 simp only[Bool.and_eq_true,Nat.blt_eq]at hd;obtain⟨⟨⟨⟨⟨⟨⟨⟨⟨⟨⟨⟨⟨⟨⟨d1,d2⟩,d3⟩,d4⟩,d5⟩,d6⟩,d7⟩,d8⟩,d9⟩,d10⟩,d11⟩,n1⟩,n2⟩,n3⟩,k1⟩,k2⟩:=hd;have d1:=ne d1;have d2:=ne d2;have d3:=ne d3;have d4:=ne d4;have d5:=ne d5;have d6:=ne d6;have d7:=ne d7;have d8:=ne d8;have d9:=ne d9;have d10:=ne d10;have d11:=ne d11;have k1:=bL0 k1;have k2:=bL0 k2;have hs0:a.tmps.size=N:=hc.sz;have wk:WOK C hh r o w:=hc.wk;have rl:∀ t,t≠u1->t≠u2->AVRep hh r (a7 l t) (a.tmps.getD t undef):=fun t q1 q2=>by
  have:=(show AVRep hh r (a7 ((u1,Nm g1 m1)::(u2,Nm g2 m2)::l) t) (a.tmps.getD t undef) from hc.rg t)
  rwa [show a7 ((u1,Nm g1 m1)::(u2,Nm g2 m2)::l) t=a7 l t from (aj _ _ _ _ q1).trans (aj _ _ _ _ q2)]at this
 have e1:r m1=g1:=by
  have:=(show AVRep hh r (a7 ((u1,Nm g1 m1)::(u2,Nm g2 m2)::l) u1) (a.tmps.getD u1 undef) from hc.rg u1)
  rw[show a7 ((u1,Nm g1 m1)::(u2,Nm g2 m2)::l) u1=Nm g1 m1 from upd_same _ _ _]at this;exact this hh (fun _ _ _ e=>e)
 have e2:r m2=g2:=by
  have:=(show AVRep hh r (a7 ((u1,Nm g1 m1)::(u2,Nm g2 m2)::l) u2) (a.tmps.getD u2 undef) from hc.rg u2)
  rw[show a7 ((u1,Nm g1 m1)::(u2,Nm g2 m2)::l) u2=Nm g2 m2 from (aj _ _ _ _ (fun e=>d4 e.symm)).trans (upd_same _ _ _)]at this;exact this hh (fun _ _ _ e=>e)
 have r9:=rl t9 d5 d6;have r10:=rl t10 d7 d8;rw[h9]at r9;rw[h10]at r10;obtain⟨kb,q1,q2⟩:=fz hc.wk hbb r10;obtain⟨y,q3,q4⟩:=gz (hT T i ht) hg hsz (q2.take (es:=fc) ⟨[],by simp⟩);apply wpIn_region;show wpOpsIn (Wd ro) 0 P _ _ [0,1,2] a w;rw[wpOpsIn_cons];refine dw (o:=⟨some t94,.move (.tmp t9),y1,p1,a1,none⟩) rfl rfl rfl (x:=a.eval (.tmp t9)) (w':=w) (by simp[execOp]) ?_;rw[wpOpsIn_cons];have v10:(a.put (some t94) (a.eval (.tmp t9))).eval (.tmp t10)=a.eval (.tmp t10):=by simp[Act.put,Act.eval,d10.symm]
 refine dw (o:=⟨some t95,.load T (.tmp t10),y2,p2,a2,none⟩) rfl rfl rfl (x:=y) (w':=w) (by
  simp only[execOp,v10];rw[show a.eval (.tmp t10)=_ from q1];simp only[Sem.run_bind,ez];rw[q3];simp only[Result.andThen_ok,Sem.run_pure]) ?_
 rw[wpOpsIn_cons];obtain⟨aa,haa⟩:∃ aa,(a.put (some t94) (a.eval (.tmp t9))).put (some t95) y=aa:=⟨_,rfl⟩
 show wpOpIn (Wd ro) 0 P _ _ 2 _ ((a.put (some t94) (a.eval (.tmp t9))).put (some t95) y) w;rw[haa];have w94:aa.eval (.tmp t94)=a.eval (.tmp t9):=by rw[<- haa];simp[Act.put,Act.eval,hs0,n1,d11.symm]
 have w95:aa.eval (.tmp t95)=y:=by rw[<- haa];simp[Act.put,Act.eval,hs0,n2]
 unfold wpOpIn;have hw:Region.wanted (⟨some t96,.call ⟨.value (.func f),#[.tmp t94,.tmp t95],tys⟩,y3,p3,a3,none⟩:Oper) (yielded #[⟨some t94,.move (.tmp t9),y1,p1,a1,none⟩,⟨some t95,.load T (.tmp t10),y2,p2,a2,none⟩,⟨some t96,.call ⟨.value (.func f),#[.tmp t94,.tmp t95],tys⟩,y3,p3,a3,none⟩] aa.tmps)=true:=rfl;have ho:(#[⟨some t94,.move (.tmp t9),y1,p1,a1,none⟩,⟨some t95,.load T (.tmp t10),y2,p2,a2,none⟩,⟨some t96,.call ⟨.value (.func f),#[.tmp t94,.tmp t95],tys⟩,y3,p3,a3,none⟩]:Array Oper)[2]?=some (⟨some t96,.call ⟨.value (.func f),#[.tmp t94,.tmp t95],tys⟩,y3,p3,a3,none⟩:Oper):=rfl;simp only[ho];rw[H2 hw];refine⟨fun _ _=>trivial,?_⟩;rw[Oper.semAt_eq _ _ _ (fun c' e=>by cases e)];have hex:(execOp aa.eval ⟨some t96,.call ⟨.value (.func f),#[.tmp t94,.tmp t95],tys⟩,y3,p3,a3,none⟩).run P w=.ok (.enter f #[a.eval (.tmp t9),y]) w:=by
  have hm:(#[.tmp t94,.tmp t95]:Array Operand).map aa.eval=#[a.eval (.tmp t9),y]:=by simp[w94,w95]
  simp only[execOp,resolve,Sem.run_bind,Act.eval,Deferred.ofValue,Sem.run_pure,Result.andThen_ok,invoke,Array.empty_append,Array.append_empty];rw[show(#[.tmp t94,.tmp t95]:Array Operand).map (fun o=>aa.eval o)=#[a.eval (.tmp t9),y] from hm];exact bU hf.fn _ w
 rw[hex];obtain⟨ρ,hρ⟩:∃ ρ:Nat->Value,ρ=fun n=>if n=0 then r mS else if n=1 then r m1 else r m2:=⟨_,rfl⟩
 have ρ0:ρ 0=r mS:=by rw[hρ];rfl
 have ρ1:ρ 1=r m1:=by rw[hρ];rfl
 have ρ2:ρ 2=r m2:=by rw[hρ];rfl
 have hB:B0 (ρ 1) (ρ 2)=B0 g1 g2:=by rw[ρ1,ρ2,e1,e2]
 have hbf:Before hh ρ (o3 (B0 g1 g2) B1 B2) w:=by
  have nm:∀ n,o3 (B0 g1 g2) B1 B2 n≠none->∃ m,o m=o3 (B0 g1 g2) B1 B2 n∧r m=ρ n∧((n=0∧m=mS)∨(n=1∧m=m1)∨(n=2∧m=m2)):=by
   intro n hn;rcases u7 hn with rfl|rfl|rfl
   ·exact⟨mS,hS,ρ0.symm,.inl ⟨rfl,rfl⟩⟩
   ·exact⟨m1,h1,ρ1.symm,.inr (.inl ⟨rfl,rfl⟩)⟩
   exact⟨m2,h2,ρ2.symm,.inr (.inr ⟨rfl,rfl⟩)⟩
  refine⟨fun n b hb=>?_,fun n n' k hn hn' x1 x2=>?_,wk.hi,fun n k hn x1=>?_,wk.gl⟩
  ·obtain⟨m,s1,s2,_⟩:=nm n (by rw[hb];simp);rw[<- s2];exact wk.ow m b (s1.trans hb)
  ·obtain⟨m,s1,s2,s3⟩:=nm n hn;obtain⟨m',s4,s5,s6⟩:=nm n' hn';rw[<- s2]at x1;rw[<- s5]at x2;have:=wk.inj m m' k (by rw[s1];exact hn) (by rw[s4];exact hn') x1 x2;omega
  obtain⟨m,s1,s2,_⟩:=nm n hn;rw[<- s2]at x1;exact wk.ho m k (by rw[s1];exact hn) x1
 have r9':AVRep hh ρ (.loc 0 0) (a.eval (.tmp t9)):=by
  obtain⟨k,s1,s2⟩:=r9;exact⟨k,by rw[ρ0];exact s1,s2⟩
 have hgo:=hf.go hh ρ w #[a.eval (.tmp t9),y] ⟨r9',q4,trivial⟩ (by rw[hB];exact hbf);rw[hB,hρ]at hgo;refine⟨fun e=>by simp[Wd]at e,CallsIn.mono (DN hgo) ?_⟩;rintro e' w' ⟨v,h',v1,v2,rfl,hq⟩;have hk:=wk.afterS hS h1 h2 d1 d2 d3 (by rw[hnp.1];exact k1) (by rw[hnp.1];exact k2) hlk (hl' _ _) hl1 hl2 hq;show ∃ s' h' r',Q .normal s'∧Conc C N h' r' s' _ _;refine⟨_,h',_,h v1 v2,?_,?_,fun t=>?_,hk⟩
 ·rw[<- haa];simp[Act.put];exact hs0
 ·rw[<- haa];exact hc.df.mono hq.hg
 show AVRep h' _ (a7 ((u1,Nm v1 m1)::(u2,Nm v2 m2)::l) t) _;by_cases x1:t=u1
 ·subst x1;rw[show a7 ((t,Nm v1 m1)::(u2,Nm v2 m2)::l) t=Nm v1 m1 from upd_same _ _ _];exact fun _ _=>(aj _ _ _ _ d3).trans (upd_same _ _ _)
 by_cases x2:t=u2
 ·subst x2;rw[show a7 ((u1,Nm v1 m1)::(t,Nm v2 m2)::l) t=Nm v2 m2 from (aj _ _ _ _ x1).trans (upd_same _ _ _)];exact fun _ _=>upd_same _ _ _
 rw[show a7 ((u1,Nm v1 m1)::(u2,Nm v2 m2)::l) t=a7 l t from (aj _ _ _ _ x1).trans (aj _ _ _ _ x2)];by_cases y1:t=t94
 ·subst y1;rw[hj1];exact trivial
 by_cases y2:t=t95
 ·subst y2;rw[hj2];exact trivial
 by_cases y3:t=t96
 ·subst y3;rw[hj3];exact trivial
 have ev:(aa.put (some t96) v).tmps.getD t undef=a.tmps.getD t undef:=by
  rw[<- haa];simp only[Act.put,Array.getD_eq_getD_getElem?,Array.getElem?_setIfInBounds];rw[G2 (fun q=>y3 q.symm),G2 (fun q=>y2 q.symm),G2 (fun q=>y1 q.symm)]
 rw[show((aa.put (some t96) v).tmps.getD t undef)=_ from ev];refine AVRep.rebind _ _ (fun m hm=>?_) (AVRep.mono hq.hg _ _ (rl t x1 x2));have:=rZ hmen t m hm;exact(aj _ _ _ _ this.2).trans (aj _ _ _ _ this.1)
section
variable {P:Program}{tt:TT}(hT:bM P tt)
variable {dst:Option Nat}{ty:TypeId}{pos:String}{af:Array Edge}{gd:Option (Nat×Bool)}{d:Nat}{ρ:Operand->AV}{own:Own}
variable {T yT:TypeId}{i:TyI}{x y:Operand}{e:TypeId}{j:TyI}
abbrev Mw(p:Prop):AV:=.ax fun _ v=>∃ b:Bool,v=.bool b∧(b=true->p)
include hT in
theorem CG{n:Nat}{xs:List DV}(ht:tt T=some i)(hs:i.sh=.sl e)(hx:ρ x=.p (.c (.sl n xs))) :
  Eff P ⟨dst,.binOp .eql T x (.const (.slice none 0 0)) yT,ty,pos,af,gd⟩ d ρ own (Mw (xs=[])) [] none [] :=
 aP fun C h r own' a w hrep _ hw=>by
  have e1:=hrep x (by simp[Op.operands]);rw[hx]at e1;have e1':DRep h (.sl n xs) (a.eval x):=e1;simp only[DRep]at e1';obtain⟨ad,cap,h1,h2,h3,h4⟩:=e1';have e2:a.eval (.const (.slice none 0 0))=.slice none 0 0:=rfl;refine⟨.bool ad.isNone,?_,fun h' _=>⟨ad.isNone,rfl,fun hb=>?_⟩⟩
  ·simp only[execOp,h1,e2,eqGuard_at_slice,Sem.run_bind,Sem.run_pure,Result.andThen_ok,Lib.run_eql_slice_nil w T e _ _ _ 0 0 ((hT T i ht).slice hs)]
  cases ad with
  |none =>
   rcases h4 with h4|⟨b,off,c,e',fr,g1,_⟩
   ·exact h4
   cases g1
  |some=>cases hb
theorem Mj{B:Bool}{N np:Nat}{Q:Exit->St->Prop}{s:St}{c:Code}{t:Nat}{p:Prop}(ht:s.regs t=Mw p)(h:∀ b:Bool,(b=true->p)->AWp P B N np c Q ⟨upd s.regs t (.p (.c (.v (.bool b)))),s.own⟩):AWp P B N np c Q s:=by
 intro ro hB C hh r a w hn hc;have hx:=hc.rg t;rw[ht]at hx;obtain⟨b,h1,h2⟩:=hx hh fun _ _ _ e=>e
 refine h b h2 ro hB C hh r a w hn ⟨hc.sz,hc.df,fun t'=>?_,hc.wk⟩;show AVRep hh r (upd s.regs t (.p (.c (.v (.bool b)))) t') _;by_cases e1:t'=t
 ·subst e1;rw[upd_same,h1];exact jp _ _ _
 rw[aj _ _ _ _ e1];exact hc.rg t'
theorem Eff.frzW{β:Type}{encD:β->List DV}{z:Nat}(hL:∀ b,(encD b).length=z)(hz:Nat.blt 0 z=true)(t m:Nat){l:List β}{e:TypeId}{o:Oper}{regs:eR}{v:AV}{st:Chg}{rd:List Nat}(ht:regs t=.vec m)(hb:own m=some (VB z e encD l))(hm:rd.all (fun n=>!Nat.beq n m)=true)(hin:Eff P o d (ev (upd regs t (.p (.c (SL encD l))))) own v st none rd):Eff P o d (ev regs) own v ((m,none)::st) none (m::rd):=by
 intro C h r own' a w K Q hrep hrd hw _ hK;obtain⟨h2,g1,g2,g3⟩:=hw.frz ((hrd m (by simp)).trans hb) rfl (n:=l.length) (a6 hL l).symm (show 0<z by simpa using hz);refine hin C h2 r (upd own' m none) a w K Q (fun x hx=>?_) (fun n hn=>?_) g2 (fun q=>absurd rfl q) (fun x h' r' w' q1 q2 q3 q4=>?_)
 ·cases x with
  |tmp k =>
   show AVRep h2 r (upd regs t _ k) _;by_cases e1:k=t
   ·subst e1;rw[upd_same];have e3:a.eval (.tmp k)=r m:=by
     have:=hrep _ hx;rw[show ev regs (.tmp k)=.vec m from ht]at this;exact this
    show DRep _ _ _;rw[e3];exact g3
   rw[aj _ _ _ _ e1];exact AVRep.mono g1 _ _ (hrep _ hx)
  |const v=>exact AVRep.mono g1 _ _ (hrep _ hx)
  |global g=>exact AVRep.mono g1 _ _ (hrep _ hx)
  |func f=>exact AVRep.mono g1 _ _ (hrep _ hx)
 ·have hne:n≠m:=fun e=>by
   have:=Uo.1 hm n hn;rw[e]at this;simp at this
  rw[aj _ _ _ _ hne];exact hrd n (by simp[hn])
 exact hK x h' r' w' (g1.trans q1) q2 q3 q4
end
theorem RK.stoL{P:Program}{N np:Nat}{ops:Array Oper}{draw:Bool}{os:List Oper}{s:St}{acc:List Io}{K:St->Prop}{op:Op}{ty:TypeId}{pos:String}{af:Array Edge}{gd:Option (Nat×Bool)}{v:AV}{st:Chg}{rd:List Nat}(hg:cm ops ⟨none,op,ty,pos,af,gd⟩ s.regs true)(he:Eff P ⟨none,op,ty,pos,af,gd⟩ 0 (ev s.regs) s.own v st none rd)(hr:RK P N np ops draw os ⟨s.regs,cw s.own st⟩ (acc++[⟨men v++lE st none,st.map (·.1),rd,false⟩]) K):RK P N np ops draw (⟨none,op,ty,pos,af,gd⟩::os) s acc K:=by
 refine RK.step (Step.run v st none rd hg he (fun h=>absurd rfl h)) ?_;simp only[Option.isSome_none,Bool.false_eq_true,if_false,List.append_nil];exact hr
def rwT(D:Int)(f:Fm)(T:Tab)(j:Nat)(l:List Fm):Tab:=l.map fun p=>(mlt p (pw D f j),(aW T p).getD []++[(j:Int)])
def nwT(D:Int)(f:Fm)(T:Tab)(l:List Fm)(j i:Nat):Tab:=((List.range j).flatMap fun j=>rwT D f T j l)++rwT D f T j (l.take i)
theorem qN{D:Int}{f:Fm}{T:Tab}{l:List Fm}{j i:Nat}(hi:i<l.length):nwT D f T l j (i+1)=nwT D f T l j i++[(mlt (l.getD i ⟨0,0,0⟩) (pw D f j),(aW T (l.getD i ⟨0,0,0⟩)).getD []++[(j:Int)])]:=by
 have e:l.take (i+1)=l.take i++[l.getD i ⟨0,0,0⟩]:=by
  rw[VI,As,Fl hi];rfl
 unfold nwT;rw[e,Wt]
 congr 1
 unfold rwT;rw[Vj];rfl
theorem nwT_row{D:Int}{f:Fm}{T:Tab}{l:List Fm}{j:Nat}:nwT D f T l (j+1) 0=nwT D f T l j l.length:=by
 unfold nwT;rw[V7,VF,Vm];simp[rwT]
theorem Kc{D:Int}{f:Fm}{T:Tab}{l:List Fm}{k j i:Nat}(hj:j<k):∃ m,nwT D f T l k 0=nwT D f T l j i++m:=by
 induction k with
 |zero=>omega
 |succ k ih =>
  rw[nwT_row];by_cases e:j=k
  ·subst e;refine⟨rwT D f T j (l.drop i),?_⟩;unfold nwT;rw[Wt]
   congr 1
   unfold rwT;rw[<- Vj,Wi,Vm]
  obtain⟨m,hm⟩:=ih (by omega);refine⟨m++rwT D f T k l,?_⟩;rw[<- Wt,<- hm];unfold nwT;simp[rwT]
theorem uF:∀ {T:Tab} {f:Fm},f ∉ T.map (·.1)->aW T f=none
 | [],_,_=>rfl
 |p::T,f,h=>by
  unfold aW;rw[G2 (fun e=>h (by simp[e]))];exact uF fun x=>h (by simp at x ⊢;exact .inr x)
theorem Kd{D:Int}{f:Fm}{T:Tab}{l:List Fm}{k j i:Nat}(hn:((nwT D f T l k 0).map (·.1)).Nodup)(hj:j<k)(hi:i<l.length):aW (nwT D f T l j i) (mlt (l.getD i ⟨0,0,0⟩) (pw D f j))=none:=by
 obtain⟨m,hm⟩:=Kc (D:=D) (f:=f) (T:=T) (l:=l) (i:=i+1) hj;rw[hm,qN hi]at hn;apply uF;intro hx;rw[Vj,Vj]at hn;have h1:=(Xo.1 (Xo.1 hn).1).2.2;exact h1 _ hx _ (by simp) rfl
theorem Ow{T:Tab}{f:Fm}{e:List Int}(h:aW T f=none):gw (mS T) (ky f) [SL enZ e]=mS (T++[(f,e)]):=by
 rw[qM]
 ·unfold mS;simp
 have h1:fD (mS T) (ky f)=none:=by rw[pV,h];rfl
 exact oJ h1
abbrev enX(r:List Int):List DV:=[.sx r.length r.length (r.flatMap enI)]
theorem Aa:∀ r,(enX r).length=1:=fun _=>rfl
theorem yH(l:List Int)(x:Int):some (⟨true,2,29,l.flatMap enI++[zn x,zm x]⟩:Blk)=some (VB 2 29 enI (l++[x])):=by
 show some (⟨true,2,29,_⟩:Blk)=some ⟨true,2,29,(l++[x]).flatMap enI⟩;rw[VF];simp
theorem FO{l:List Int}{i:Nat}(hi:i<l.length):(l.take (i+1)).map (fun x=>-x)=(l.take i).map (fun x=>-x)++[-(l.getD i 0)]:=by
 have e:l.take (i+1)=l.take i++[l.getD i 0]:=by
  rw[VI,As,Fl hi];rfl
 rw[e,Vj];rfl
theorem Kh{l:List Int}{i:Nat}(hi:i<=l.length):((l.take i).map (fun x=>-x)).length=i:=by
 rw[Uq,Us];omega
theorem y8{D:Int}{f:Fm}{T:Tab}{j:Nat}{l:List Fm}:(rwT D f T j l).length=l.length:=by unfold rwT;rw[Uq]
theorem Ke{D:Int}{f:Fm}{T:Tab}{l:List Fm}{j i:Nat}(hi:i<=l.length):(nwT D f T l j i).length=j*l.length+i:=by
 unfold nwT;rw[UB,y8,Us,Vu hi]
 congr 1
 induction j with
 |zero=>simp
 |succ j ih=>rw[V7,VF,UB,ih,WT];simp[y8]
theorem Rk{D:Int}{f:Fm}{T:Tab}{l:List Fm}{j i:Nat}(_h:aW (nwT D f T l j i) (mlt (l.getD i ⟨0,0,0⟩) (pw D f j))=none)(hi:i<l.length) :
  mS (nwT D f T l j i++[(mlt (l.getD i ⟨0,0,0⟩) (pw D f j),(aW T (l.getD i ⟨0,0,0⟩)).getD []++[(j:Int)])])=mS (nwT D f T l j (i+1)):=by rw[qN hi]
theorem Rl{D:Int}{f:Fm}{T:Tab}{l:List Fm}{j i:Nat}(hi:i<l.length):(nwT D f T l j i).map (·.1)++[mlt (l.getD i ⟨0,0,0⟩) (pw D f j)]=(nwT D f T l j (i+1)).map (·.1):=by rw[qN hi,Vj];rfl
section ghost
variable {P:Program}{B:Bool}{N np:Nat}{Q:Exit->St->Prop}{s:St}{c:Code}
theorem x5(t d sz:Nat)(e:TypeId)(hp:Nat.ble np d=true)(h:AWp P B N np c Q ⟨upd (bt [d] s).regs t (Nm (.slice none 0 0) d),upd (bt [d] s).own d (some ⟨true,sz,e,[]⟩)⟩)(hs0:0<sz:=by decide):AWp P B N np c Q s:=by
 intro ro hB C hh r a w hn hc;have hk:=e9 [d] hc;have hown:(bt [d] s).own d=none:=fp [d] s d (by simp);have hmen:=fU [d] s d (by simp);refine h ro hB C hh (upd r d (.slice none 0 0)) a w hn ⟨hk.sz,hk.df,fun t'=>?_,hk.wk.nilV hs0 hown (by rw[hn.1];exact bL0 hp) (fq [d] s d (by simp))⟩;show AVRep hh _ (upd (bt [d] s).regs t (Nm (.slice none 0 0) d) t') _;by_cases e1:t'=t
 ·subst e1;rw[upd_same];exact fun _ _=>upd_same _ _ _
 rw[aj _ _ _ _ e1];refine AVRep.rebind _ _ (fun m hm=>?_) (hk.rg t');have:m≠d:=fun x=>hmen t' (x▸hm)
 exact aj _ _ _ _ this
theorem uO{β:Type}{encD:β->List DV}{z:Nat}(hL:∀ b,(encD b).length=z)(hz:Nat.blt 0 z=true)(m j p t:Nat){zz:Nat}{e e':TypeId}{cs cs':List DV}{g:Value}{l:List β}(hm:s.own m=some ⟨false,zz,e,cs⟩)(hj:s.own j=some (VB z e' encD l))(ht:s.regs t=Nm g j)(hg:cs[p]?=some (.v g))(hcs:cs.set p (SL encD l)=cs')(hmj:Nat.beq m j=false)(h:AWp P B N np c Q ⟨s.regs,upd (upd s.own j none) m (some ⟨false,1,e,cs'⟩)⟩):AWp P B N np c Q s:=by
 intro ro hB C hh r a w hn hc;have hne:m≠j:=fun e=>by rw[e,WH]at hmj;cases hmj
 have hl':p<cs.length:=(Uu.1 hg).1;have hrj:r j=g:=by
  have:=hc.rg t;rw[ht]at this;exact this hh (fun _ _ _ e=>e)
 obtain⟨h2,g1,g2,g3⟩:=hc.wk.frz hj rfl (n:=l.length) (a6 hL l).symm (show 0<z by simpa using hz);have hm2:upd s.own j none m=some ⟨false,zz,e,cs⟩:=by rw[aj _ _ _ _ hne];exact hm
 have hold:=g2.ow m _ hm2;rw[BlkRep.boxE rfl]at hold;obtain⟨k0,c0,p1,p2,p3,p4⟩:=hold;obtain⟨y,q1,q2⟩:=p4.get p _ hg;have hy:y=g:=by simp only[DRep]at q2;exact q2.1
 refine h ro hB C h2 r a w hn ⟨hc.sz,hc.df.mono g1,fun t'=>AVRep.mono g1 _ _ (hc.rg t'),g2.reboxF hm2 ?_⟩;rw[BlkRep.boxE rfl];refine⟨k0,c0,p1,p2,by rw[<- hcs,UL];exact p3,?_⟩;rw[DReps.iff]at p4 ⊢;intro q dv hq;rw[<- hcs,VH]at hq;by_cases e3:p=q
 ·subst e3;rw[H2 rfl,H2 hl']at hq;cases hq;exact⟨y,q1,by rw[hy,<- hrj];exact g3⟩
 rw[G2 e3]at hq;exact p4 q dv hq
end ghost
theorem Eff.arg{P:Program}{o:Oper}{d:Nat}{ρ ρ':Operand->AV}{own:Own}{v:AV}{st:Chg}{al:Option Blk}{rd:List Nat}(hs:∀ x,Sub (ρ x) (ρ' x))(he:Eff P o d ρ' own v st al rd):Eff P o d ρ own v st al rd :=
 fun C h r own' a w K Q hrep hrd hw hal hK=>he C h r own' a w K Q (fun x hx=>hs x _ _ _ (hrep x hx)) hrd hw hal hK
section ops
variable {P:Program}{tt:TT}(hT:bM P tt)
variable {dst:Option Nat}{ty:TypeId}{pos:String}{af:Array Edge}{gd:Option (Nat×Bool)}{d:Nat}{ρ:Operand->AV}{own:Own}
variable {T T2:TypeId}{i i2:TyI}{x y:Operand}
include hT
theorem FG{e:Nat}{j:TyI}{n c:Nat}{xs:List DV}{kd:IntKind}(ht:tt T=some i)(hs:i.sh=.sl e)(he:tt e=some j)(ht2:tt T2=some i2)(hs2:i2.sh=.int kd)(hx:ρ x=.p (.c (.sx n c xs)))(hy:ρ y=.p (.c (.v (.int .i64 0)))) :
  Eff P ⟨dst,.call ⟨.builtin .append,#[x,y],#[T,T2]⟩,ty,pos,af,gd⟩ d ρ own (.p (.c (.sl n xs))) [] none [] :=
 aP fun C h r own' a w hrep hrd hw=>by
  have e1:=hrep x (by simp[Op.operands,Call.operands]);have e2:=hrep y (by simp[Op.operands,Call.operands]);rw[hx]at e1;rw[hy]at e2;have e1':DRep h (.sx n c xs) (a.eval x):=e1;simp only[DRep]at e1';obtain⟨ad,h1,h2,h3,h4⟩:=e1';obtain⟨ti,g1,g2,g3,z,g4,g5,g6,g7⟩:=(hT e j he).info;have hu:=(hT T i ht).slice hs;have hu2:P.underlying T2=some (.int kd):=(hT T2 i2 ht2).int hs2;refine⟨.slice ad n c,?_,?_⟩
  ·apply eC;have hw0:IntKind.i64.wrap 0=0:=by decide
   simp only[List.map_toArray,List.map_cons,List.map_nil,h1,bh e2,builtin,Sem.run_bind];cases ad with
   |none=>simp[Builtin.append_,run_underlying hu,run_underlying hu2,sizeOf,typeInfo,g1,asInt,asIntOf,hw0,h2]
   |some ad=>simp[Builtin.append_,run_underlying hu,run_underlying hu2,sizeOf,typeInfo,g1,asInt,asIntOf,hw0,h2,storeCells]
  show DRep h (.sl n xs) _;simp only[DRep];exact⟨ad,c,rfl,h2,h3,h4⟩
theorem FF{e:Nat}{j:TyI}{n k:Nat}{xs zs:List DV}{kd:IntKind}(ht:tt T=some i)(hs:i.sh=.sl e)(he:tt e=some j)(ht2:tt T2=some i2)(hs2:i2.sh=.int kd)(hx:ρ x=.p (.c (.sx n n xs)))(hlen:xs.length=n*j.size)(hy:ρ y=.p (.c (.v (.int .i64 (k:Int)))))(h0:0<k)(hxs:xs≠[])(hz:reps k j.zero=zs)(hb:(n+k)*j.bytes<=140737488355328)(hb2:n+k<=1000000)(hj:Nat.blt 0 j.size=true:=by rfl) :
  Eff P ⟨dst,.call ⟨.builtin .append,#[x,y],#[T,T2]⟩,ty,pos,af,gd⟩ d ρ own (.vec d) [] (some ⟨true,j.size,e,xs++zs⟩) []:=by
 intro C h r own' a w K Q hrep hrd hw hal hK;have e1:=hrep x (by simp[Op.operands,Call.operands]);have e2:=hrep y (by simp[Op.operands,Call.operands]);rw[hx]at e1;rw[hy]at e2;have hj':0<j.size:=bL0 hj;have e1':DRep h (.sx n n xs) (a.eval x):=e1;simp only[DRep]at e1';obtain⟨ad,h1,h2,h3,h4⟩:=e1';obtain⟨ti,g1,g2,g3,z,g4,g5,g6,g7⟩:=(hT e j he).info;have hu:=(hT T i ht).slice hs;have hu2:P.underlying T2=some (.int kd):=(hT T2 i2 ht2).int hs2;rcases h4 with h4|⟨b,off,c,e',fr,rfl,h6,h7⟩
 ·exact absurd h4 hxs
 have h8:Reads h w.drew ⟨b,off,none⟩ xs:=Reads.of_cells (show w.drew.heap[b]?=_ from hw.hi _ _ h6) h7;obtain⟨vs,k1,k2,k3,k4⟩:=h8.values;have hold:=run_firstCells_some (P:=P) w.drew ti.size n ⟨b,off,none⟩ n n vs (by rw[k1,hlen,g2]) k2;have hr:=Lib.run_append_grow_zeros (P:=P) w T T2 ty e ti z .i64 kd hu hu2 g1 g4 (some ⟨b,off,none⟩) n n vs hold k h0 (by rw[g2];exact hj') (by omega) (by omega) (by rw[g3];exact UA (Uy _ (Nat.le_add_left k n)) (by omega)) (growslice_fits (by omega) (by rw[g3];exact hb));refine xV (b:=⟨true,j.size,e,xs++zs⟩) (w2:=w.drew) (hal (by simp)) hw.draw (x:=.slice (some ⟨w.heap.size,0,none⟩) (n+k) (grownCap w (n+k) n e)) (c:=vs.toArray++Builtin.zeroCells z.cells k++Builtin.zeroCells z.cells (grownCap w (n+k) n e-(n+k))) ?_ ?_ ?_ ?_ hK
 ·intro q hq;simp only[aD]at hq;split at hq
  ·cases hq
  simpa using hq.symm
 ·have hge:=grownCap_ge w (n+k) n e;have hzl:zs.length=k*j.size:=by rw[<- hz,fi,g6]
  have hzz:(Builtin.zeroCells z.cells k).size=k*j.size:=by rw[size_zeroCells,g5]
  rw[BlkRep.slE (b:=⟨true,j.size,e,xs++zs⟩) rfl hj'];refine⟨_,n+k,grownCap w (n+k) n e,rfl,by show(n+k)*j.size=(xs++zs).length;rw[UB,hlen,hzl,Vt],hge,by omega,.inr ⟨w.heap.size,_,rfl,by rw[heap_alloc];exact H2 rfl,?_,?_⟩⟩
  ·simp only[Array.size_append,List.size_toArray,size_zeroCells,k1,hlen,g5];rw[<- Vt,<- Vt];congr 1;omega
  have hdz:DReps h zs fun q=>(Builtin.zeroCells z.cells k).toList[q]?:=by
   have hm:=nr (h:=h) k (by rw[g5,g6]) (g7 h);rw[hz]at hm;refine hm.congr fun q hq=>?_
   rw[UJ];rfl
  have hA:=DReps.append (us:=(Builtin.zeroCells z.cells k).toList) k1 k4 hdz;refine hA.congr fun q hq=>?_
  rw[UB,hlen,hzl]at hq;rw[U9 (by simp only[Array.size_append,List.size_toArray,k1,hlen,hzz];omega)];rw[<- UJ,W5]
 ·intro h r' hr;exact hr.symm
 apply eC;simp only[List.map_toArray,List.map_cons,List.map_nil,bh e2,h1,builtin,Sem.run_bind,hr,Result.andThen_ok,Sem.run_pure]
theorem CE{κ:Type}[DecidableEq κ]{kv:κ->Value}{M M':MM κ}{kt et:Nat}{j:TyI}{m a b:Nat}{k:κ}{regs:eR}(ht:tt T=some i)(hs:i.sh=.mp kt et)(hk:tt kt=some j)(hjk:oH j.sh=true)(K:KeyT (mn j.sh) kv)(hx:regs a=.vec m)(hb:own m=some (MB none (enE kv M)))(hw0:EW none (enE kv M))(hy:regs b=.p (.c (.v (kv k))))(hM:(gw M k [.sl 0 []]).Perm M') :
  Eff P ⟨dst,.insert T (.tmp a) (.tmp b) (.const (.slice none 0 0)),ty,pos,af,gd⟩ d (ev regs) own .junk [(m,some (MB none (enE kv M')))] none [m] :=
 Eff.arg (ρ':=fun o=>match o with
  |.const (.slice none 0 0)=>.p (.c (.sl 0 []))
  |o=>ev regs o) (fun o=>by
   split
   ·intro h r x hx;have e:x=.slice none 0 0:=bh (show AVRep h r (.p (.c (.v (.slice none 0 0)))) x from hx);subst e;show DRep h (.sl 0 []) _;simp only[DRep];exact⟨none,0,rfl,Iv _,by omega,.inl trivial⟩
   exact .refl _) (CC hT ht hs hk hjk K (a:=none) (v:=.c (.sl 0 [])) hx hb hw0 hy rfl rfl hM)
end ops
def fG(ko:Fm->Nat)(T:Tab):List Fm->Fm×Nat×Nat->Fm×Nat×Nat
 | [],q=>q
 |f::L,q=>if(aW T f).isSome=true then fG ko T L q
  else if q.2.2+1=20 then(if ko f>q.2.1 then(f,ko f,q.2.2+1)else(q.1,q.2.1,q.2.2+1))
  else fG ko T L (if ko f>q.2.1 then(f,ko f,q.2.2+1)else(q.1,q.2.1,q.2.2+1))
theorem LR{ko:Fm->Nat}{T:Tab}{L:List Fm}{i:Nat}{q R:Fm×Nat×Nat}(h:fG ko T (L.drop i) q=R)(hi:L.length<=i):q=R:=by
 rw[WQ.2 hi]at h;exact h
theorem rf{ko:Fm->Nat}{T:Tab}{L:List Fm}{i:Nat}{q R:Fm×Nat×Nat}(h:fG ko T (L.drop i) q=R)(hi:i<L.length):fG ko T (L.getD i ⟨0,0,0⟩::L.drop (i+1)) q=R:=by
 rw[Vn hi]at h;rw[As,Fl hi];exact h
theorem GX{ko:Fm->Nat}{T:Tab}{L:List Fm}{i:Nat}{q R:Fm×Nat×Nat}(h:fG ko T (L.drop i) q=R)(hi:i<L.length)(hs:(aW T (L.getD i ⟨0,0,0⟩)).isSome=true):fG ko T (L.drop (i+1)) q=R:=by
 have h:=rf h hi;unfold fG at h;rw[H2 hs]at h;exact h
theorem xO{ko:Fm->Nat}{T:Tab}{L:List Fm}{i c m:Nat}{b:Fm}{R:Fm×Nat×Nat}(h:fG ko T (L.drop i) (b,m,c)=R)(hi:i<L.length)(hs:(aW T (L.getD i ⟨0,0,0⟩)).isSome=false)(hc:c+1=20) :
  (ko (L.getD i ⟨0,0,0⟩)>m->L.getD i ⟨0,0,0⟩=R.1)∧(¬ ko (L.getD i ⟨0,0,0⟩)>m->b=R.1):=by
 have h:=rf h hi;unfold fG at h;rw[G2 (by rw[hs];simp),H2 hc]at h;subst h;constructor
 ·intro g;rw[H2 g]
 intro g;rw[G2 g]
theorem xN{ko:Fm->Nat}{T:Tab}{L:List Fm}{i c m:Nat}{b:Fm}{R:Fm×Nat×Nat}(h:fG ko T (L.drop i) (b,m,c)=R)(hi:i<L.length)(hs:(aW T (L.getD i ⟨0,0,0⟩)).isSome=false)(hc:c+1≠20) :
  (ko (L.getD i ⟨0,0,0⟩)>m->fG ko T (L.drop (i+1)) (L.getD i ⟨0,0,0⟩,ko (L.getD i ⟨0,0,0⟩),c+1)=R)∧(¬ ko (L.getD i ⟨0,0,0⟩)>m->fG ko T (L.drop (i+1)) (b,m,c+1)=R):=by
 have h:=rf h hi;unfold fG at h;rw[G2 (by rw[hs];simp),G2 hc]at h;constructor
 ·intro g;rw[H2 g]at h;exact h
 intro g;rw[G2 g]at h;exact h
theorem Lh{α:Type}{o:Option α}(h:o.isSome=false):o=none:=by
 cases o with
 |none=>rfl
 |some x=>cases h
structure Sg where
 T:Tab
 l:List Fm
 g:List Fm
 r:List (List Int)
def stM(D:Int)(bs:List (Fm×Nat)):Nat->Sg
 |0=>⟨[(prP D,[])],[prP D],[],[]⟩
 |s+1=>⟨nwT D (bs.getD s (⟨0,0,0⟩,0)).1 (stM D bs s).T (stM D bs s).l (bs.getD s (⟨0,0,0⟩,0)).2 0,(nwT D (bs.getD s (⟨0,0,0⟩,0)).1 (stM D bs s).T (stM D bs s).l (bs.getD s (⟨0,0,0⟩,0)).2 0).map (·.1),
  (stM D bs s).g++[(bs.getD s (⟨0,0,0⟩,0)).1],(stM D bs s).r++[(((aW (stM D bs s).T (pw D (bs.getD s (⟨0,0,0⟩,0)).1 (bs.getD s (⟨0,0,0⟩,0)).2)).getD []).map fun x=>-x)++[((bs.getD s (⟨0,0,0⟩,0)).2:Int)]]⟩
structure StepOK(D:Int)(L:List Fm)(q:Sg)(b:Fm×Nat)(ko:Fm->Nat):Prop where
 lt:q.l.length<L.length
 ord:∀ f∈L,aW q.T f=none->OrdT D q.T f (ko f)∧ko f<=1000
 best:(fG ko q.T L (⟨0,0,0⟩,0,0)).1=b.1
 gd:Gd D b.1
 od:OrdT D q.T b.1 b.2
 k:b.2<=1000
 hl:∀ p∈q.l,Gd D p
 hll:q.l.length<=1000
 gl:q.g.length<=12
 rl:q.r.length<=12
 he:((aW q.T (pw D b.1 b.2)).getD []).length=q.g.length
 hE:∀ x∈(aW q.T (pw D b.1 b.2)).getD [],-1000000<=x∧x<=1000000
 hT:∀ p,((aW q.T p).getD []).length<=12
 hn:((nwT D b.1 q.T q.l b.2 0).map (·.1)).Nodup
def iA(n:Nat)(r:List Int):List Int:=r++List.replicate (n-r.length) 0
abbrev enY(p:Bool×List Int):List DV:=if p.1=true then aO p.2 else enX p.2
theorem gX:∀ p,(enY p).length=1:=fun p=>by
 unfold enY;split <;> rfl
def mxY(n:Nat)(rs:List (List Int))(i:Nat):List (Bool×List Int):=((rs.take i).map fun r=>(true,iA n r))++(rs.drop i).map fun r=>(false,r)
theorem Rn(n:Nat)(rs:List (List Int)):(mxY n rs 0).flatMap enY=rs.flatMap enX:=by
 unfold mxY;simp[List.flatMap_map];rfl
theorem Kn(n:Nat)(rs:List (List Int)):(mxY n rs rs.length).flatMap enY=(rs.map (iA n)).flatMap aO:=by
 unfold mxY;simp[List.flatMap_map];rfl
theorem s8(n:Nat)(rs:List (List Int)){i:Nat}(hi:i<=rs.length):(mxY n rs i).length=rs.length:=by
 unfold mxY;rw[UB,Uq,Uq,Us,W7];omega
theorem uJ{β:Type}{enc:β->List DV}(hL:∀ b,(enc b).length=1):∀ (l:List β) (i:Nat) (b:β),l[i]?=some b->(l.flatMap enc)[i*1]?=(enc b)[0]?
 | [],i,b,h=>by simp at h
 |x::l,0,b,h=>by
  simp at h;subst h;rw[UP];rw[UQ (by rw[hL];omega)]
 |x::l,i+1,b,h=>by
  rw[UP,US (by rw[hL];omega),hL];rw[show(i+1)*1-1=i*1 by omega];exact uJ hL l i b (by simpa using h)
theorem Od{n:Nat}{rs:List (List Int)}{i:Nat}(hi:i<rs.length):(mxY n rs i)[i]?=some (false,rs.getD i []):=by
 unfold mxY;rw[US (by rw[Uq,Us];omega),Uq,Us,show i-min i rs.length=0 by omega,UE,VC,Wh];rw[Fl hi,As,Fl hi];rfl
theorem Km{n:Nat}{rs:List (List Int)}{i:Nat}(hi:i<rs.length):((mxY n rs i).flatMap enY)[i*1]?=some (.sx (rs.getD i []).length (rs.getD i []).length ((rs.getD i []).flatMap enI)):=by
 rw[uJ gX _ _ _ (Od hi)];rfl
theorem oQ{β:Type}{enc:β->List DV}(hL:∀ b,(enc b).length=1):∀ (l:List β) (i:Nat) (b:β) (dv:DV),enc b=[dv]->i<l.length->(l.flatMap enc).set (i*1) dv=(l.set i b).flatMap enc
 | [],_,_,_,_,h=>absurd h (Vz _)
 |x::l,0,b,dv,he,_=>by
  obtain⟨y,hy⟩:∃ y,enc x=[y]:=List.length_eq_one_iff.1 (hL x);rw[Xg,UP,UP,hy,he];rfl
 |x::l,i+1,b,dv,he,h=>by
  obtain⟨y,hy⟩:∃ y,enc x=[y]:=List.length_eq_one_iff.1 (hL x);have ih:=oQ hL l i b dv he (by simpa using h);rw[List.set_cons_succ,UP,UP,hy,<- ih];rw[show(i+1)*1=i*1+1 by omega];rfl
theorem zA{n:Nat}{rs:List (List Int)}{i:Nat}(hi:i<rs.length):(mxY n rs i).set i (true,iA n (rs.getD i []))=mxY n rs (i+1):=by
 apply Xp;intro q;have hl1:=s8 n rs (i:=i) (by omega);by_cases e:q=i
 ·subst e;rw[VH,H2 rfl,H2 (by omega)];unfold mxY;rw[UQ (by rw[Uq,Us];omega),UE,VY,H2 (by omega)];rw[Fl hi,As,Fl hi];rfl
 rw[VH,G2 (fun x=>e x.symm)];unfold mxY;by_cases hq:q<i
 ·rw[UQ (by rw[Uq,Us];omega),UQ (by rw[Uq,Us];omega),UE,UE,VY,VY,H2 hq,H2 (by omega)]
 rw[US (by rw[Uq,Us];omega),US (by rw[Uq,Us];omega),UE,UE,VC,VC,Uq,Uq,Us,Us]
 congr 2;omega
theorem Fu{n:Nat}{r:List Int}(h:(n:Int)-(r.length:Int)=0):iA n r=r:=by
 unfold iA;rw[show n-r.length=0 by omega];simp
theorem J1(n:Nat)(r:List Int):some (⟨true,2,29,r.flatMap enI++(List.replicate (n-r.length) (0:Int)).flatMap enI⟩:Blk)=some (VB 2 29 enI (iA n r)):=by
 show _=some (⟨true,2,29,(iA n r).flatMap enI⟩:Blk);unfold iA;rw[VF]
theorem Gy{r:List Int}(h:r≠[]):r.flatMap enI≠[]:=by
 cases r with
 |nil=>exact absurd rfl h
 |cons x l=>simp
def lsI(inv:List Int):Nat->Int
 |0=>1
 |k+1=>inv.getD k 0
def evI(inv:List Int):Nat->Nat
 |0=>1
 |k+1=>if inv.getD k 0%2=0 then 2*evI inv k else evI inv k
def mxO(o:Fm->Nat)(l:List Fm):Nat->Nat
 |0=>1
 |k+1=>max (mxO o l k) (o (l.getD k ⟨0,0,0⟩))
def sqO(o:Fm->Nat)(l:List Fm):Nat->Nat
 |0=>0
 |k+1=>if o (l.getD k ⟨0,0,0⟩)<=2 then sqO o l k+1 else sqO o l k
theorem DB(inv:List Int):∀ k,evI inv k<=2^k
 |0=>Iv _
 |k+1=>by
  have:=DB inv k;unfold evI;rw[Vk];split <;> omega
theorem B3(o:Fm->Nat)(l:List Fm):∀ k,sqO o l k<=k
 |0=>Iv _
 |k+1=>by
  have:=B3 o l k;unfold sqO;split <;> omega
theorem jK{a b:Int}(h:a=b):(a==b)=true:=by rw[h];exact beq_self_eq_true b
theorem pL(o:Fm->Nat)(l:List Fm)(k:Nat):(if(o (l.getD k ⟨0,0,0⟩):Int)>(mxO o l k:Int)then(o (l.getD k ⟨0,0,0⟩):Int)else(mxO o l k:Int))=(mxO o l (k+1):Int):=by
 show _=((max (mxO o l k) (o (l.getD k ⟨0,0,0⟩)):Nat):Int);split <;> omega
theorem TW{inv:List Int}{k:Nat}(h:inv.getD k 0%2=0):2*(evI inv k:Int)=(evI inv (k+1):Int):=by
 conv=>rhs;unfold evI
 rw[H2 h];omega
theorem TX{inv:List Int}{k:Nat}(h:¬ inv.getD k 0%2=0):(evI inv k:Int)=(evI inv (k+1):Int):=by
 conv=>rhs;unfold evI
 rw[G2 h]
theorem Nv{o:Fm->Nat}{l:List Fm}{k:Nat}(h:o (l.getD k ⟨0,0,0⟩)<=2):(sqO o l k:Int)+1=(sqO o l (k+1):Int):=by
 conv=>rhs;unfold sqO
 rw[H2 h];omega
theorem Nw{o:Fm->Nat}{l:List Fm}{k:Nat}(h:¬ o (l.getD k ⟨0,0,0⟩)<=2):(sqO o l k:Int)=(sqO o l (k+1):Int):=by
 conv=>rhs;unfold sqO
 rw[G2 h]
def imV(D:Int)(gb:Nat->Fm)(e:Nat->Int):Nat->Fm
 |0=>prP D
 |i+1=>mlt (imV D gb e i) (zpw D (gb i) (e i))
theorem S7{D:Int}{a b c d:Fm}(ha:Gd D a)(hb:Gd D b)(hc:Gd D c)(hd:Gd D d):mlt (mlt a b) (mlt c d)=mlt (mlt a c) (mlt b d):=by
 have e1:mlt (mlt a b) (mlt c d)=mlt a (mlt b (mlt c d)):=dl ha.cl hb.cl (hc.mlt hd).cl;have e2:mlt b (mlt c d)=mlt c (mlt b d):=by
  rw[<- dl hb.cl hc.cl hd.cl,fS hb.cl hc.cl,dl hc.cl hb.cl hd.cl]
 rw[e1,e2,<- dl ha.cl hc.cl (hb.mlt hd).cl]
section
variable {D:Int}{gb:Nat->Fm}(hg:∀ i,Gd D (gb i))
include hg
theorem Gd.prP:Gd D (AM.prP D):=Gd.one (hg 0).cl
theorem jF(e:Nat->Int):∀ i,Gd D (imV D gb e i)
 |0=>Gd.one (hg 0).cl
 |i+1=>(jF e i).mlt ((hg i).zpw _)
theorem jW(u v:Nat->Int):∀ i,mlt (imV D gb u i) (imV D gb v i)=imV D gb (fun j=>u j+v j) i
 |0=>by
  show mlt (AM.prP D) (AM.prP D)=AM.prP D;rw[dP (Gd.prP hg).cl,(Gd.prP hg).rd]
 |i+1=>by
  show mlt (mlt _ _) (mlt _ _)=mlt (imV D gb (fun j=>u j+v j) i) (zpw D (gb i) (u i+v i));rw[S7 (jF hg u i) ((hg i).zpw _) (jF hg v i) ((hg i).zpw _),jW u v i,ID (hg i).cl]
omit hg in
theorem eW{u v:Nat->Int}:∀ {i:Nat},(∀ j,j<i->u j=v j)->imV D gb u i=imV D gb v i
 |0,_=>rfl
 |i+1,h=>by
  show mlt _ (zpw D (gb i) (u i))=mlt _ (zpw D (gb i) (v i));rw[eW (i:=i) fun j hj=>h j (by omega),h i (by omega)]
omit hg in
theorem Qk(f:Fm):zpw D f 0=AM.prP D:=by
 unfold zpw;rw[G2 (by omega)];rfl
theorem ld{u:Nat->Int}{s:Nat}:∀ {i:Nat},s<=i->(∀ j,s<=j->j<i->u j=0)->imV D gb u i=imV D gb u s
 |0,hs,_=>by rw[show s=0 by omega]
 |i+1,hs,h=>by
  by_cases e:s=i+1
  ·rw[e]
  show mlt (imV D gb u i) (zpw D (gb i) (u i))=_;rw[h i (by omega) (by omega),Qk,dP (jF hg u i).cl,(jF hg u i).rd];exact ld (by omega) fun j h1 h2=>h j h1 (by omega)
theorem lH{u:Nat->Int}{i:Nat}(h:∀ j,j<i->u j=0):imV D gb u i=AM.prP D :=
 ld hg (s:=0) (Uv _) fun j _ h2=>h j h2
theorem w6(v:Nat->Int)(i:Nat):∀ k:Nat,pw D (imV D gb v i) k=imV D gb (fun j=>(k:Int)*v j) i
 |0=>(lH hg (u:=fun j=>((0:Nat):Int)*v j) (i:=i) fun j _=>by simp).symm
 |k+1=>by
  show mlt (pw D (imV D gb v i) k) (imV D gb v i)=_;rw[w6 v i k,jW hg];refine eW fun j _=>?_
  show(k:Int)*v j+v j=((k+1:Nat):Int)*v j;rw[show((k+1:Nat):Int)=(k:Int)+1 by omega,Int.add_mul,WP]
theorem KW{u r:Nat->Int}{i:Nat}(hr:imV D gb r i=AM.prP D)(q:Int):imV D gb (fun j=>u j-q*r j) i=imV D gb u i:=by
 have key:∀ k:Nat,imV D gb (fun j=>(k:Int)*r j) i=AM.prP D:=fun k=>by
  rw[<- w6 hg,hr];induction k with
  |zero=>rfl
  |succ k ih =>
   show mlt (pw D (AM.prP D) k) (AM.prP D)=_;rw[ih,dP (Gd.prP hg).cl,(Gd.prP hg).rd]
 have hO:=(Gd.prP hg)
 by_cases h:0<=q
 ·have h1:=jW hg (fun j=>u j-q*r j) (fun j=>(q.toNat:Int)*r j) i;rw[key,dP (jF hg _ i).cl,(jF hg _ i).rd]at h1;rw[h1];refine eW fun j _=>?_
  show u j-q*r j+(q.toNat:Int)*r j=u j;rw[W4 h];omega
 have h1:=jW hg u (fun j=>((-q).toNat:Int)*r j) i;rw[key,dP (jF hg _ i).cl,(jF hg _ i).rd]at h1;rw[h1];refine eW fun j _=>?_
 show u j-q*r j=u j+((-q).toNat:Int)*r j;rw[W4 (by omega),Ww];omega
end
theorem fW:∀ {T:Tab} {f:Fm} {e:List Int},aW T f=some e->(f,e)∈T
 | [],_,_,h=>by cases h
 |p::T,f,e,h=>by
  unfold aW at h;by_cases hp:p.1=f
  ·rw[H2 hp]at h;cases h;subst hp;exact Vs ..
  rw[G2 hp]at h;exact Vv _ (fW h)
theorem gV:∀ {T:Tab} {f:Fm} {e:List Int},(T.map (·.1)).Nodup->(f,e)∈T->aW T f=some e
 | [],_,_,_,h=>by cases h
 |p::T,f,e,hn,h=>by
  rw[WF,Wu]at hn;unfold aW;rcases Vh.1 h with rfl|h
  ·rw[H2 rfl]
  rw[G2 (fun e2=>hn.1 (UO.2 ⟨(f,e),h,e2.symm⟩))];exact gV hn.2 h
structure TabOK(D:Int)(gb:Nat->Fm)(kb:Nat->Nat)(s:Nat)(T:Tab):Prop where
 nd:(T.map (·.1)).Nodup
 im:∀ p∈T,p.2.length=s∧(∀ j,j<s->0<=p.2.getD j 0∧p.2.getD j 0<kb j)∧p.1=imV D gb (fun j=>p.2.getD j 0) s
 all:∀ u:List Int,u.length=s->(∀ j,j<s->0<=u.getD j 0∧u.getD j 0<kb j)->∃ f,(f,u)∈T
theorem fb(l:List Int)(x:Int)(j:Nat):(l++[x]).getD j 0=if j<l.length then l.getD j 0 else if j=l.length then x else 0:=by
 rw[As,Xx];by_cases h:j<l.length
 ·rw[H2 h,H2 h,As]
 rw[G2 h,G2 h];by_cases e:j=l.length
 ·rw[H2 e,e,WE];rfl
 rw[G2 e,UU (by simp;omega)];rfl
section
variable {D:Int}{gb:Nat->Fm}(hg:∀ i,Gd D (gb i)){kb:Nat->Nat}
include hg
omit hg in
theorem TabOK.zero:TabOK D gb kb 0 [(AM.prP D,[])]:=⟨by simp,fun p hp=>by
  rw[U3]at hp;subst hp;exact⟨rfl,fun j h=>absurd h (Vz _),rfl⟩,fun u hu _=>⟨AM.prP D,by rw[Ux hu];simp⟩⟩
omit hg in
theorem TabOK.next{s:Nat}{T:Tab}(h:TabOK D gb kb s T)(hn:((nwT D (gb s) T (T.map (·.1)) (kb s) 0).map (·.1)).Nodup):TabOK D gb kb (s+1) (nwT D (gb s) T (T.map (·.1)) (kb s) 0):=by
 have e0:nwT D (gb s) T (T.map (·.1)) (kb s) 0=(List.range (kb s)).flatMap fun j=>T.map fun q=>(mlt q.1 (pw D (gb s) j),q.2++[(j:Int)]):=by
  unfold nwT rwT;rw[List.take_zero,X8,VD]
  congr 1
  funext j
  rw[VS];refine Vy fun q hq=>?_
  show(mlt q.1 _,(aW T q.1).getD []++_)=_;rw[gV h.nd (show(q.1,q.2)∈T from hq)];rfl
 refine⟨hn,fun p hp=>?_,fun u hu hb=>?_⟩
 ·rw[e0]at hp;obtain⟨j,hj,hp⟩:=XD.1 hp;obtain⟨q,hq,rfl⟩:=UO.1 hp;obtain⟨h1,h2,h3⟩:=h.im q hq;have hjk:=UW.1 hj;refine⟨by simp[h1],fun i hi=>?_,?_⟩
  ·rw[fb,h1];by_cases e:i<s
   ·rw[H2 e];exact h2 i e
   rw[G2 e,H2 (by omega),show i=s by omega];omega
  show mlt q.1 (pw D (gb s) j)=mlt (imV D gb _ s) (zpw D (gb s) ((q.2++[(j:Int)]).getD s 0));rw[fb,h1,G2 (by omega),H2 rfl];rw[eW (v:=fun i=>q.2.getD i 0) fun i hi=>by show(q.2++[(j:Int)]).getD i 0=_;rw[fb,h1,H2 hi],<- h3]
  congr 1
 obtain⟨x,u',rfl⟩:∃ x u',u=u'++[x]:=by
  have hne:u≠[]:=fun e=>by rw[e]at hu;simp at hu
  exact⟨u.getLast hne,u.dropLast,(Wp hne).symm⟩
 have hl':u'.length=s:=by simpa using hu
 obtain⟨f,hf⟩:=h.all u' hl' fun j hj=>by
  have:=hb j (by omega)
  rwa [fb,hl',H2 hj]at this
 have hx:=hb s (by omega);rw[fb,hl',G2 (by omega),H2 rfl]at hx;refine⟨mlt f (pw D (gb s) x.toNat),?_⟩;rw[e0];refine XD.2 ⟨x.toNat,UW.2 (by omega),UO.2 ⟨(f,u'),hf,?_⟩⟩;show(_,u'++[((x.toNat:Nat):Int)])=_;rw[W4 hx.1]
end
structure RelOK(D:Int)(gb:Nat->Fm)(kb:Nat->Nat)(n:Nat)(R:Mx):Prop where
 len:R.length=n
 row:∀ i,i<n->(mxr R i).length=n
 dia:∀ i,i<n->mxg R i i=(kb i:Int)∧0<kb i
 up:∀ i j,i<j->mxg R i j=0
 rel:∀ i,i<n->imV D gb (fun j=>mxg R i j) n=prP D
def nfD(R:Mx):Nat->List Int->List Int
 |0,v=>v
 |i+1,v=>nfD R i (gA v (v.getD i 0/mxg R i i) (mxr R i))
theorem l5{a b:List Int}{q:Int}(h:b.length=a.length):(gA a q b).length=a.length:=by
 unfold gA eP;rw[XG,h,Nat.min_self]
theorem oF{a b:List Int}{q:Int}(h:b.length=a.length)(j:Nat):(gA a q b).getD j 0=a.getD j 0-q*b.getD j 0:=by
 unfold gA eP;rw[As,List.getElem?_zipWith,As,As];by_cases hj:j<a.length
 ·rw[Fl hj,Fl (show j<b.length by omega)];rfl
 rw[UU (by omega),UU (by omega)];simp
section
variable {D:Int}{gb:Nat->Fm}{kb:Nat->Nat}{n:Nat}{R:Mx}(hR:RelOK D gb kb n R)
include hR
theorem pK:∀ {i:Nat} {v:List Int},i<=n->v.length=n->(nfD R i v).length=n
 |0,_,_,h=>h
 |i+1,v,hi,h=>pK (i:=i) (by omega) ((l5 (by rw[hR.row i (by omega),h])).trans h)
theorem rR(hg:∀ i,Gd D (gb i)):∀ {i:Nat} {v:List Int},i<=n->v.length=n->imV D gb (fun j=>(nfD R i v).getD j 0) n=imV D gb (fun j=>v.getD j 0) n
 |0,_,_,_=>rfl
 |i+1,v,hi,h=>by
  have hl:(mxr R i).length=v.length:=by rw[hR.row i (by omega),h]
  show imV D gb (fun j=>(nfD R i (gA v (v.getD i 0/mxg R i i) (mxr R i))).getD j 0) n=_;rw[rR hg (i:=i) (by omega) ((l5 hl).trans h)];have e:=KW hg (u:=fun j=>v.getD j 0) (hR.rel i (by omega)) (v.getD i 0/mxg R i i);rw[<- e];exact eW fun j _=>oF hl j
theorem CN:∀ {i:Nat} {v:List Int} {j:Nat},i<=n->v.length=n->i<=j->(nfD R i v).getD j 0=v.getD j 0
 |0,_,_,_,_,_=>rfl
 |i+1,v,j,hi,h,hj=>by
  have hl:(mxr R i).length=v.length:=by rw[hR.row i (by omega),h]
  show(nfD R i (gA v (v.getD i 0/mxg R i i) (mxr R i))).getD j 0=_;rw[CN (i:=i) (by omega) ((l5 hl).trans h) (by omega),oF hl];have:(mxr R i).getD j 0=0:=hR.up i j (by omega);rw[this];omega
theorem sY:∀ {i:Nat} {v:List Int} {j:Nat},i<=n->v.length=n->j<i->0<=(nfD R i v).getD j 0∧(nfD R i v).getD j 0<kb j
 |0,_,_,_,_,h=>absurd h (Vz _)
 |i+1,v,j,hi,h,hj=>by
  have hl:(mxr R i).length=v.length:=by rw[hR.row i (by omega),h]
  have h':(gA v (v.getD i 0/mxg R i i) (mxr R i)).length=n:=(l5 hl).trans h;show 0<=(nfD R i (gA v (v.getD i 0/mxg R i i) (mxr R i))).getD j 0∧_;by_cases e:j=i
  ·subst e;obtain⟨d1,d2⟩:=hR.dia j (by omega);rw[show nfD R (j+1) v=nfD R j (gA v (v.getD j 0/mxg R j j) (mxr R j)) from rfl];rw[CN hR (by omega) h' (Iv _),oF hl];rw[show(mxr R j).getD j 0=mxg R j j from rfl,d1];have hk:(kb j:Int)≠0:=by omega
   have e1:=Int.emod_def (v.getD j 0) (kb j:Int);have e2:=UF (v.getD j 0) hk;have e3:=UK (v.getD j 0) (show(0:Int)<kb j by omega);rw[Xl]at e1;omega
  exact sY (i:=i) (by omega) h' (by omega)
theorem sb(hg:∀ i,Gd D (gb i)){T:Tab}(hT:TabOK D gb kb n T){v:List Int}(hv:v.length=n):aW T (imV D gb (fun j=>v.getD j 0) n)=some (nfD R n v):=by
 obtain⟨f,hf⟩:=hT.all (nfD R n v) (pK hR (Iv _) hv) fun j hj=>sY hR (Iv _) hv hj
 have h2:=(hT.im _ hf).2.2;rw[show(f,nfD R n v).1=f from rfl,show(f,nfD R n v).2=nfD R n v from rfl,rR hR hg (Iv _) hv]at h2;rw[<- h2];exact gV hT.nd hf
end
def zfr(s:Nat)(v:List Int):Bool:=(v.drop s).all fun x=>x==0
theorem zfr_get{s:Nat}{v:List Int}:zfr s v=true↔∀ j,s<=j->v.getD j 0=0:=by
 unfold zfr;rw[Uo];constructor
 ·intro h j hj;by_cases hl:j<v.length
  ·have:=h v[j] (by rw[List.mem_drop_iff_getElem];exact⟨j-s,by omega,by congr 1;omega⟩);rw[As,Fl hl];simpa using this
  rw[As,UU (by omega)];rfl
 intro h x hx;obtain⟨i,hi,rfl⟩:=List.mem_drop_iff_getElem.1 hx;have:=h (s+i) (by omega);rw[As,Fl (by omega)]at this;simpa using this
theorem zR{D:Int}{gb:Nat->Fm}{kb:Nat->Nat}{n s:Nat}{R:Mx}(hR:RelOK D gb kb n R)(hg:∀ i,Gd D (gb i)){T S:Tab}(hT:TabOK D gb kb n T)(hS:TabOK D gb kb s S)(hs:s<=n){v:List Int}(hv:v.length=n) :
  aW S (imV D gb (fun j=>v.getD j 0) n)=if zfr s (nfD R n v)=true then some ((nfD R n v).take s)else none:=by
 have hw:=pK hR (Iv _) hv;by_cases hz:zfr s (nfD R n v)=true
 ·rw[H2 hz];have hz':=zfr_get.1 hz;have hlt:((nfD R n v).take s).length=s:=by rw[Us];omega
  have tk:∀ j,j<s->((nfD R n v).take s).getD j 0=(nfD R n v).getD j 0:=fun j hj=>by
   rw[As,VY,H2 hj,As]
  obtain⟨f,hf⟩:=hS.all ((nfD R n v).take s) hlt fun j hj=>by
   rw[tk j hj];exact sY hR (Iv _) hv (by omega)
  have h2:=(hS.im _ hf).2.2;have e:imV D gb (fun j=>v.getD j 0) n=f:=by
   rw[<- rR hR hg (Iv _) hv,ld hg hs fun j h1 _=>hz' j h1];rw[show(f,(nfD R n v).take s).1=f from rfl]at h2;rw[h2];exact(eW fun j hj=>tk j hj).symm
  rw[e];exact gV hS.nd hf
 rw[G2 hz];cases hc:aW S (imV D gb (fun j=>v.getD j 0) n)with
 |none=>rfl
 |some u =>
  exfalso;obtain⟨h1,h2,h3⟩:=hS.im _ (fW hc);have hg2:=sb hR hg hT hv;have e3:imV D gb (fun j=>v.getD j 0) n=imV D gb (fun j=>u.getD j 0) s:=h3;have hu0:∀ j,s<=j->u.getD j 0=0:=fun j hj=>by
   rw[As,UU (by show u.length<=j;have:u.length=s:=h1;omega)];rfl
  have hp:∀ j,(u++List.replicate (n-s) (0:Int)).getD j 0=u.getD j 0:=fun j=>by
   have h1':u.length=s:=h1;rw[As,Xx];by_cases hj:j<u.length
   ·rw[H2 hj,As]
   rw[G2 hj,hu0 j (by omega),Wq];split <;> rfl
  have hl:(u++List.replicate (n-s) (0:Int)).length=n:=by
   have h1':u.length=s:=h1;rw[UB,Wj];omega
  obtain⟨f,hf⟩:=hT.all (u++List.replicate (n-s) 0) hl fun j hj=>by
   rw[hp];by_cases hjs:j<s
   ·exact h2 j hjs
   rw[hu0 j (by omega)];have:=(hR.dia j hj).2;omega
  have h4:=(hT.im _ hf).2.2;have e4:f=imV D gb (fun j=>v.getD j 0) n:=by
   rw[show f=imV D gb (fun j=>(u++List.replicate (n-s) (0:Int)).getD j 0) n from h4,e3];rw[ld hg hs fun j h1 _=>by rw[hp];exact hu0 j h1];exact eW fun j _=>hp j
  rw[<- e4,gV hT.nd hf]at hg2;have heq:=Vl hg2;exact hz (zfr_get.2 fun j hj=>by rw[<- heq,hp];exact hu0 j hj)
def eN(k:Nat)(v:List Int):List Int:=v.map fun x=>(k:Int)*x
theorem mulR_len{k:Nat}{v:List Int}:(eN k v).length=v.length:=by unfold eN;rw[Uq]
theorem qQ{k:Nat}{v:List Int}(j:Nat):(eN k v).getD j 0=(k:Int)*v.getD j 0:=by
 unfold eN;rw[As,UE,As];cases v[j]? <;> simp
theorem Oh{v:List Int}:eN 1 v=v:=by
 unfold eN;have:(fun x:Int=>((1:Nat):Int)*x)=fun x=>x:=by funext x;omega
 rw[this,List.map_id''];intro x;rfl
def adR(a b:List Int):List Int:=eP (fun x y=>x+y) a b
theorem Mf{a b:List Int}(h:b.length=a.length):(adR a b).length=a.length:=by
 unfold adR eP;rw[XG,h,Nat.min_self]
theorem Mg{a b:List Int}(h:b.length=a.length)(j:Nat):(adR a b).getD j 0=a.getD j 0+b.getD j 0:=by
 unfold adR eP;rw[As,List.getElem?_zipWith,As,As];by_cases hj:j<a.length
 ·rw[Fl hj,Fl (show j<b.length by omega)];rfl
 rw[UU (by omega),UU (by omega)];simp
def koG(R:Mx)(n s:Nat)(v:List Int):Nat->List Int->Nat->Nat
 |0,_,_=>0
 |f+1,w,k=>bif zfr s w then k else xo (nfD R n (adR w v)) fun w'=>koG R n s v f w' (k+1)
def koV(R:Mx)(n s:Nat)(v:List Int):Nat:=koG R n s v 60 v 1
abbrev imL(D:Int)(gb:Nat->Fm)(n:Nat)(v:List Int):Fm:=imV D gb (fun j=>v.getD j 0) n
section
variable {D:Int}{gb:Nat->Fm}{kb:Nat->Nat}{n:Nat}{R:Mx}(hR:RelOK D gb kb n R)(hg:∀ i,Gd D (gb i)){T:Tab}(hT:TabOK D gb kb n T)
include hR hg hT
theorem zw{u v:List Int}(hu:u.length=n)(hv:v.length=n)(e:imL D gb n u=imL D gb n v):nfD R n u=nfD R n v:=by
 have h1:=sb hR hg hT hu;rw[show imV D gb (fun j=>u.getD j 0) n=imV D gb (fun j=>v.getD j 0) n from e,sb hR hg hT hv]at h1;exact(Vl h1).symm
theorem Kg{v:List Int}(hv:v.length=n)(k:Nat):nfD R n (adR (nfD R n (eN k v)) v)=nfD R n (eN (k+1) v):=by
 have hl:(eN k v).length=n:=mulR_len.trans hv;have hl2:(nfD R n (eN k v)).length=n:=pK hR (Iv _) hl;refine zw hR hg hT ((Mf (by rw[hl2,hv])).trans hl2) (mulR_len.trans hv) ?_;show imV D gb (fun j=>(adR (nfD R n (eN k v)) v).getD j 0) n=imV D gb (fun j=>(eN (k+1) v).getD j 0) n;rw[eW (v:=fun j=>(nfD R n (eN k v)).getD j 0+v.getD j 0) fun j _=>Mg (by rw[hl2,hv]) j,<- jW hg,rR hR hg (Iv _) hl,jW hg];refine eW fun j _=>?_
 show(eN k v).getD j 0+v.getD j 0=(eN (k+1) v).getD j 0;rw[qQ,qQ,show((k+1:Nat):Int)=(k:Int)+1 by omega,Int.add_mul,WP]
theorem wO{s:Nat}{v:List Int}(hv:v.length=n):∀ (f:Nat) (w:List Int) (k:Nat),nfD R n (eN k v)=w->koG R n s v f w k≠0 ->
  k<=koG R n s v f w k∧koG R n s v f w k<k+f∧zfr s (nfD R n (eN (koG R n s v f w k) v))=true∧∀ j,k<=j->j<koG R n s v f w k->zfr s (nfD R n (eN j v))=false
 |0,_,_,_,h=>absurd rfl h
 |f+1,w,k,hw,h=>by
  unfold koG at h ⊢;rw[p8]at h ⊢;cases hz:zfr s w with
  |true =>
   rw[cond_true];exact⟨Iv _,by omega,by rw[hw,hz],fun j h1 h2=>by omega⟩
  |false =>
   rw[hz,cond_false]at h;rw[cond_false];obtain⟨h1,h2,h3,h4⟩:=wO hv f (nfD R n (adR w v)) (k+1) (by rw[<- hw];exact(Kg hR hg hT hv k).symm) h;refine⟨by omega,by omega,h3,fun j q1 q2=>?_⟩;by_cases e:j=k
   ·rw[e,hw];exact hz
   exact h4 j (by omega) q2
theorem wz{v:List Int}(hv:v.length=n)(hb:∀ j,j<n->0<=v.getD j 0∧v.getD j 0<kb j):nfD R n v=v:=by
 obtain⟨f,hf⟩:=hT.all v hv hb;have h1:=(hT.im _ hf).2.2;have h2:=sb hR hg hT hv;rw[<- show f=imV D gb (fun j=>v.getD j 0) n from h1,gV hT.nd hf]at h2;exact(Vl h2).symm
omit hR hT in
theorem OP(v:List Int)(k:Nat):pw D (imL D gb n v) k=imL D gb n (eN k v):=by
 show pw D (imV D gb (fun j=>v.getD j 0) n) k=_;rw[w6 hg];exact eW fun j _=>(qQ j).symm
theorem sT{S:Tab}{s:Nat}(hS:TabOK D gb kb s S)(hs:s<=n){v:List Int}(hv:v.length=n)(hn:nfD R n v=v)(h0:koV R n s v≠0):OrdT D S (imL D gb n v) (koV R n s v)∧koV R n s v<=60:=by
 obtain⟨h1,h2,h3,h4⟩:=wO hR hg hT (s:=s) hv 60 v 1 (by rw[Oh,hn]) h0;have h1:1<=koV R n s v:=h1;have h2:koV R n s v<1+60:=h2;have h3:zfr s (nfD R n (eN (koV R n s v) v))=true:=h3;have h4:∀ j,1<=j->j<koV R n s v->zfr s (nfD R n (eN j v))=false:=h4;have key:∀ j,aW S (pw D (imL D gb n v) j)=if zfr s (nfD R n (eN j v))=true then some ((nfD R n (eN j v)).take s)else none:=fun j=>by
  rw[OP hg];exact zR hR hg hT hS hs (mulR_len.trans hv)
 refine⟨⟨h1,by omega,?_,fun j q1 q2=>?_⟩,by omega⟩
 ·rw[key,H2 h3];rfl
 rw[key,G2 (by rw[h4 j q1 q2];simp)]
theorem NT{v:List Int}(hv:v.length=n)(hn:nfD R n v=v)(h0:koV R n 0 v≠0):Ord D (imL D gb n v) (koV R n 0 v):=by
 obtain⟨h,_⟩:=sT hR hg hT (S:=[(AM.prP D,[])]) (s:=0) TabOK.zero (Uv _) hv hn h0;refine⟨h.pos,?_,fun k h1 h2 e=>?_⟩
 ·have:=h.hit;unfold aW at this;by_cases q:(AM.prP D)=pw D (imL D gb n v) (koV R n 0 v)
  ·exact q.symm
  rw[G2 q]at this;cases this
 have:=h.no k h1 h2;unfold aW at this;rw[H2 e.symm]at this;cases this
omit hT hR in
theorem Gi{s:Nat}{v:List Int}(hs:s<n)(h:∀ j,v.getD j 0=if j=s then 1 else 0):imL D gb n v=gb s:=by
 show imV D gb (fun j=>v.getD j 0) n=_;rw[ld hg (s:=s+1) (by omega) fun j h1 _=>by show v.getD j 0=0;rw[h,G2 (by omega)]];show mlt (imV D gb _ s) (zpw D (gb s) (v.getD s 0))=_;rw[lH hg (i:=s) fun j hj=>by show v.getD j 0=0;rw[h,G2 (by omega)],h,H2 rfl];show mlt (AM.prP D) (pw D (gb s) 1)=_;rw[(hg s).pw1,k8 (hg s).cl,(hg s).rd]
end
def tp{α:Type}(x:Nat)(k:Nat->α):α:=match x with
 |0=>k 0
 |y+1=>k (y+1)
theorem pZ{α:Type}(x:Nat)(k:Nat->α):tp x k=k x:=by cases x <;> rfl
theorem blt_i{x y:Nat}:Nat.blt x y=true↔x<y:=by unfold Nat.blt;rw[Nat.ble_eq];exact Iff.rfl
theorem Ij{x y:Nat}(h:¬ x<y):Nat.blt x y=false:=by
 cases e:Nat.blt x y with
 |true=>exact absurd (blt_i.1 e) h
 |false=>rfl
def eqZ:List Int->List Int->Bool
 | [],[]=>true
 |x::a,y::b=>decide (x=y)&&eqZ a b
 |_,_=>false
theorem z8:∀ {a b:List Int},eqZ a b=true->a=b
 | [],[],_=>rfl
 |x::a,y::b,h=>by
  unfold eqZ at h;rw[Uw]at h;rw[dT0 h.1,z8 h.2]
 | [],_::_,h=>by cases h
 |_::_,[],h=>by cases h
def eqW(f g:Fm):Bool:=decide (f.a=g.a)&&(decide (f.b=g.b)&&decide (f.c=g.c))
theorem eqW_iff{f g:Fm}:eqW f g=true↔f=g:=by
 unfold eqW;rw[Uw,Uw,decide_eq_true_iff,decide_eq_true_iff,decide_eq_true_iff];constructor
 ·rintro⟨h1,h2,h3⟩;exact Fm.ext h1 h2 h3
 intro h;subst h;exact⟨rfl,rfl,rfl⟩
def xi:Tab->Fm->Option (List Int)
 | [],_=>none
 |p::T,f=>bif eqW p.1 f then some p.2 else xi T f
theorem getK_eq:∀ {T:Tab} {f:Fm},xi T f=aW T f
 | [],_=>rfl
 |p::T,f=>by
  unfold xi aW;cases h:eqW p.1 f with
  |true=>rw[cond_true,H2 (eqW_iff.1 h)]
  |false=>rw[cond_false,G2 (fun e=>by rw[eqW_iff.2 e]at h;cases h),getK_eq]
def fdE:Tab->List Int->Option Fm
 | [],_=>none
 |p::T,e=>bif eqZ p.2 e then some p.1 else fdE T e
theorem tq:∀ {T:Tab} {e:List Int} {f:Fm},fdE T e=some f->(f,e)∈T
 | [],_,_,h=>by cases h
 |p::T,e,f,h=>by
  unfold fdE at h;cases q:eqZ p.2 e with
  |true =>
   rw[q,cond_true]at h;have h1:=Vl h;rw[<- h1,<- z8 q];exact Vs ..
  |false=>rw[q,cond_false]at h;exact Vv _ (tq h)
def Bt{α:Type}:Tab->(Tab->α)->α
 | [],k=>k []
 |p::l,k=>jG p.1.a fun a=>jG p.1.b fun b=>jG p.1.c fun c=>xo p.2 fun e=>Bt l fun m=>k ((⟨a,b,c⟩,e)::m)
theorem p7{α:Type}:∀ (l:Tab) (k:Tab->α),Bt l k=k l
 | [],k=>rfl
 |p::l,k=>by show jG p.1.a _=_;rw[gW,gW,gW,p8,p7 l]
def grK(b:Fm):Nat->Nat->Tab->Tab
 |0,_,_=>[]
 |k+1,j,row=>Bt row fun r=>(r.map fun q=>(q.1,q.2++[(j:Int)]))++grK b k (j+1) (r.map fun q=>(mlt q.1 b,q.2))
def kTb(D:Int)(bs:List (Fm×Nat)):Nat->Tab
 |0=>[(prP D,[])]
 |s+1=>grK (bs.getD s (⟨0,0,0⟩,0)).1 (bs.getD s (⟨0,0,0⟩,0)).2 0 (kTb D bs s)
def AX(R:Mx)(s:Nat)(b:Fm)(k:Nat)(T T':Tab):Bool :=
 match fdE T' (List.replicate s 0++[((k-1:Nat):Int)]),fdE T (((mxr R s).take s).map fun x=>-x)with
 |some c,some p=>eqW (mlt c b) p
 |_,_=>false
def tbK(R:Mx)(fin:Tab->Bool):List (Fm×Nat)->Nat->Tab->Bool
 | [],_,T=>fin T
 |b::l,s,T=>Bt (grK b.1 b.2 0 T) fun T'=>AX R s b.1 b.2 T T'&&tbK R fin l (s+1) T'
theorem BV{D:Int}{R:Mx}{fin:Tab->Bool}{bs:List (Fm×Nat)}:∀ {l:List (Fm×Nat)} {s:Nat},bs.drop s=l->s<=bs.length->tbK R fin l s (kTb D bs s)=true ->
  (∀ i,s<=i->i<bs.length->AX R i (bs.getD i (⟨0,0,0⟩,0)).1 (bs.getD i (⟨0,0,0⟩,0)).2 (kTb D bs i) (kTb D bs (i+1))=true)∧fin (kTb D bs bs.length)=true
 | [],s,e,hs,h=>by
  have:bs.length<=s:=WQ.1 e;have hse:s=bs.length:=by omega
  subst hse;exact⟨fun i h1 h2=>by omega,h⟩
 |b::l,s,e,hs,h=>by
  have hlt:s<bs.length:=by
   rcases Ut s bs.length with g|g
   ·exact g
   rw[WQ.2 g]at e;cases e
  have he:=e;rw[Vn hlt]at he;have hb:bs.getD s (⟨0,0,0⟩,0)=b:=by
   rw[As,Fl hlt];exact(WN he).1
  unfold tbK at h;rw[p7,Uw,<- hb]at h;obtain⟨h1,h2⟩:=BV (D:=D) (l:=l) (s:=s+1) (WN he).2 hlt h.2;refine⟨fun i q1 q2=>?_,h2⟩;by_cases ei:i=s
  ·subst ei;exact h.1
  exact h1 i (by omega) q2
theorem Kb{D:Int}{f:Fm}{T:Tab}{k:Nat}(hn:(T.map (·.1)).Nodup):nwT D f T (T.map (·.1)) k 0=(List.range k).flatMap fun j=>T.map fun q=>(mlt q.1 (pw D f j),q.2++[(j:Int)]):=by
 unfold nwT rwT;rw[List.take_zero,X8,VD]
 congr 1
 funext j
 rw[VS];refine Vy fun q hq=>?_
 show(mlt q.1 _,(aW T q.1).getD []++_)=_;rw[gV hn (show(q.1,q.2)∈T from hq)];rfl
theorem Dm{D:Int}{b:Fm}(hb:Gd D b){T:Tab}(hT:∀ q∈T,Gd D q.1):∀ (k j:Nat),grK b k j (T.map fun q=>(mlt q.1 (pw D b j),q.2))=(List.range' j k).flatMap fun i=>T.map fun q=>(mlt q.1 (pw D b i),q.2++[(i:Int)])
 |0,_=>rfl
 |k+1,j=>by
  have ih:=Dm hb hT k (j+1);unfold grK;rw[p7,V8,UP,VS,VS,<- ih]
  congr 2
  refine Vy fun q hq=>?_
  show(mlt (mlt q.1 (pw D b j)) b,q.2)=(mlt q.1 (pw D b (j+1)),q.2);rw[dl (hT q hq).cl (hb.pw j).cl hb.cl];rfl
theorem ve{D:Int}{b:Fm}(hb:Gd D b){T:Tab}(hT:∀ q∈T,Gd D q.1)(k:Nat):grK b k 0 T=(List.range k).flatMap fun i=>T.map fun q=>(mlt q.1 (pw D b i),q.2++[(i:Int)]):=by
 have h:=Dm hb hT k 0;rw[Xs,<- h]
 congr 1
 conv=>lhs;rw[<- List.map_id T]
 refine Vy fun q hq=>?_
 show q=(mlt q.1 (prP D),q.2);rw[dP (hT q hq).cl,(hT q hq).rd]
theorem OY{D:Int}{b:Fm}(hb:Gd D b){T:Tab}(hT:∀ q∈T,Gd D q.1)(k:Nat):∀ q∈grK b k 0 T,Gd D q.1:=by
 rw[ve hb hT];intro q hq;obtain⟨j,_,hq⟩:=XD.1 hq;obtain⟨p,hp,rfl⟩:=UO.1 hq;exact(hT p hp).mlt (hb.pw j)
theorem Lc{b:Fm}{T:Tab}{k:Nat}(hk:0<k):∃ m,(grK b k 0 T).map (·.1)=T.map (·.1)++m:=by
 obtain⟨k,rfl⟩:∃ q,k=q+1:=⟨k-1,by omega⟩
 unfold grK;rw[p7,Vj,VS];exact⟨_,rfl⟩
theorem Ld{D:Int}{b:Fm}(hb:Gd D b){T:Tab}(hT:∀ q∈T,Gd D q.1)(k:Nat):(grK b k 0 T).length=k*T.length:=by
 rw[ve hb hT];induction k with
 |zero=>simp
 |succ k ih=>rw[V7,VF,UB,ih,WT];simp
def exK(T:Tab):List Fm->Option Tab
 | []=>some []
 |f::L=>match xi T f with
  |none=>none
  |some e=>match exK T L with
   |none=>none
   |some E=>some ((f,e)::E)
theorem tr{T:Tab}:∀ {L:List Fm} {E:Tab},exK T L=some E->E.map (·.1)=L∧∀ p∈E,aW T p.1=some p.2
 | [],E,h=>by
  have:[]=E:=Vl h;subst this;exact⟨rfl,fun p hp=>by cases hp⟩
 |f::L,E,h=>by
  unfold exK at h;cases h1:xi T f with
  |none=>rw[h1]at h;cases h
  |some e =>
   rw[h1]at h;cases h2:exK T L with
   |none=>rw[h2]at h;cases h
   |some E' =>
    rw[h2]at h;have:(f,e)::E'=E:=Vl h;subst this;obtain⟨q1,q2⟩:=tr h2;refine⟨by rw[WF,q1],fun p hp=>?_⟩;rcases Vh.1 hp with rfl|hp
    ·exact getK_eq.symm.trans h1
    exact q2 p hp
def bsE(R:Mx)(n s:Nat):Tab->Fm×Nat×Nat->Fm
 | [],q=>q.1
 |p::E,q=>bif zfr s p.2 then bsE R n s E q else tp (koV R n s p.2) fun k =>
  bif Nat.beq (q.2.2+1) 20 then(bif Nat.blt q.2.1 k then p.1 else q.1)
  else bif Nat.blt q.2.1 k then bsE R n s E (p.1,k,q.2.2+1)else bsE R n s E (q.1,q.2.1,q.2.2+1)
theorem DQ{R:Mx}{n s:Nat}{S:Tab}{ko:Fm->Nat}:∀ {E:Tab},(∀ p∈E,(aW S p.1).isSome=zfr s p.2∧ko p.1=koV R n s p.2)->∀ q,bsE R n s E q=(fG ko S (E.map (·.1)) q).1
 | [],_,_=>rfl
 |p::E,h,q=>by
  obtain⟨h1,h2⟩:=h p (Vs ..);have ih:=DQ (E:=E) fun x hx=>h x (Vv _ hx)
  unfold bsE;rw[WF,pZ];unfold fG;cases hz:zfr s p.2 with
  |true=>rw[cond_true,H2 (h1.trans hz)];exact ih q
  |false =>
   rw[cond_false,G2 (by rw[h1,hz];simp),h2];by_cases h20:q.2.2+1=20
   ·rw[H2 h20,show Nat.beq (q.2.2+1) 20=true by rw[h20];rfl,cond_true];by_cases hg:koV R n s p.2>q.2.1
    ·rw[H2 hg,blt_i.2 hg,cond_true]
    rw[G2 hg,Ij hg,cond_false]
   rw[G2 h20,show Nat.beq (q.2.2+1) 20=false by
    cases e:Nat.beq (q.2.2+1) 20 with
    |true=>exact absurd (UT e) h20
    |false=>rfl,cond_false]
   by_cases hg:koV R n s p.2>q.2.1
   ·rw[H2 hg,blt_i.2 hg,cond_true];exact ih _
   rw[G2 hg,Ij hg,cond_false];exact ih _
def bsA(R:Mx)(n:Nat)(E:Tab):List (Fm×Nat)->Nat->Bool
 | [],_=>true
 |b::l,s=>eqW (bsE R n s E (⟨0,0,0⟩,0,0)) b.1&&bsA R n E l (s+1)
theorem Ap{R:Mx}{n:Nat}{E:Tab}{bs:List (Fm×Nat)}:∀ {l:List (Fm×Nat)} {s:Nat},bs.drop s=l->bsA R n E l s=true->∀ i,s<=i->i<bs.length->bsE R n i E (⟨0,0,0⟩,0,0)=(bs.getD i (⟨0,0,0⟩,0)).1
 | [],s,e,_,i,h1,h2=>by
  have:bs.length<=s:=WQ.1 e;omega
 |b::l,s,e,h,i,h1,h2=>by
  unfold bsA at h;rw[Uw]at h;have he:=e;have hlt:s<bs.length:=by omega
  rw[Vn hlt]at he;by_cases ei:i=s
  ·subst ei;rw[As,Fl hlt,eqW_iff.1 h.1];exact Ur Prod.fst (WN he).1.symm
  exact Ap (WN he).2 h.2 i (by omega) h2
def Gz(R:Mx)(bs:List (Fm×Nat))(L:List Fm)(T:Tab):Bool:=Nat.beq T.length L.length&&match exK T L with
 |none=>false
 |some E=>bsA R bs.length E bs 0
def dC(D:Int)(L:List Fm)(R:Mx)(bs:List (Fm×Nat)):Bool:=Nat.beq bs.length R.length&&tbK R (Gz R bs L) bs 0 [(prP D,[])]
theorem oA{α:Type}[DecidableEq α]:∀ {M L:List α},L.Nodup->(∀ x∈L,x∈M)->M.length<=L.length->M.Nodup
 | [],_,_,_,_=>List.nodup_nil
 |x::M,L,hn,hs,hl=>by
  rw[Wu];rw[U5]at hl;have hx:x ∉ M:=fun hx=>by
   have:=qO (m:=M) hn fun y hy=>by
    rcases Vh.1 (hs y hy)with rfl|h
    ·exact hx
    exact h
   omega
  refine⟨hx,oA (L:=L.erase x) (hn.erase x) (fun y hy=>?_) ?_⟩
  ·rcases Vh.1 (hs y (List.mem_of_mem_erase hy))with rfl|h
   ·exact absurd hy (fun h=>(List.Nodup.mem_erase_iff hn).1 h |>.1 rfl)
   exact h
  have:=List.length_erase (a:=x) (l:=L);split at this <;> omega
def bxV(R:Mx)(v:List Int):Prop:=v.length=R.length∧∀ j,j<R.length->0<=v.getD j 0∧v.getD j 0<mxg R j j
def nk(n s:Nat):List Int:=(List.range n).map fun j=>if j=s then 1 else 0
theorem vt{n s j:Nat}(hs:s<n):(nk n s).getD j 0=if j=s then 1 else 0:=by
 unfold nk;rw[As,UE];rcases Ut j n with h|h
 ·rw[Wb h];rfl
 rw[UU (by rw[V2];omega),G2 (by omega)];rfl
structure MxG(R:Mx):Prop where
 n8:R.length<=8
 row:∀ i,i<R.length->(mxr R i).length=R.length
 dia:∀ i,i<R.length->2<=mxg R i i∧mxg R i i<=1000
 up:∀ i j,i<j->mxg R i j=0
 ko:∀ v,bxV R v->∀ s,s<=R.length->koV R R.length s v≠0
 un:∀ s,s<R.length->koV R R.length s (nk R.length s)=(mxg R s s).toNat
structure GrI(D:Int)(L:List Fm)(R:Mx)(bs:List (Fm×Nat)):Prop where
 w:Whole D L
 one:Cl D (prP D)
 m:MxG R
 ck:dC D L R bs=true
 bm:∀ i,i<bs.length->(bs.getD i (⟨0,0,0⟩,0)).1∈L
 bk:∀ i,i<bs.length->(bs.getD i (⟨0,0,0⟩,0)).2=(mxg R i i).toNat
def gbF(D:Int)(bs:List (Fm×Nat))(i:Nat):Fm:=if i<bs.length then(bs.getD i (⟨0,0,0⟩,0)).1 else prP D
def kbF(R:Mx)(i:Nat):Nat:=(mxg R i i).toNat
section
variable {D:Int}{L:List Fm}{R:Mx}{bs:List (Fm×Nat)}(G:GrI D L R bs)
include G
theorem GrI.len:bs.length=R.length:=by
 have h:=G.ck;unfold dC at h;rw[Uw]at h;exact UT h.1
theorem GrI.steps:(∀ i,i<bs.length->AX R i (bs.getD i (⟨0,0,0⟩,0)).1 (bs.getD i (⟨0,0,0⟩,0)).2 (kTb D bs i) (kTb D bs (i+1))=true)∧Gz R bs L (kTb D bs bs.length)=true:=by
 have h:=G.ck;unfold dC at h;rw[Uw]at h;obtain⟨h1,h2⟩:=BV (D:=D) (bs:=bs) (l:=bs) (s:=0) rfl (Uv _) h.2;exact⟨fun i hi=>h1 i (Uv _) hi,h2⟩
theorem GrI.bgd{i:Nat}(hi:i<bs.length):Gd D (bs.getD i (⟨0,0,0⟩,0)).1:=by
 obtain⟨a,b⟩:=(G.w.mem _).1 (G.bm i hi);exact⟨a,b⟩
theorem GrI.hg(i:Nat):Gd D (gbF D bs i):=by
 unfold gbF;split
 ·next h=>exact G.bgd h
 exact Gd.one G.one
omit G in
theorem pX{i:Nat}(hi:i<bs.length):gbF D bs i=(bs.getD i (⟨0,0,0⟩,0)).1:=H2 hi
theorem GrI.kb{i:Nat}(hi:i<bs.length):kbF R i=(bs.getD i (⟨0,0,0⟩,0)).2:=(G.bk i hi).symm
theorem GrI.k2{i:Nat}(hi:i<bs.length):2<=kbF R i∧kbF R i<=1000∧(kbF R i:Int)=mxg R i i:=by
 have:=G.m.dia i (by rw[<- G.len];exact hi);unfold kbF;omega
theorem GrI.kgd:∀ {s:Nat},s<=bs.length->∀ q∈kTb D bs s,Gd D q.1
 |0,_,q,hq=>by
  have hq:q∈[((prP D,[]):Fm×List Int)]:=hq;rw[U3]at hq;subst hq;exact Gd.one G.one
 |s+1,hs,q,hq=>OY (G.bgd (i:=s) (by omega)) (GrI.kgd (s:=s) (by omega)) _ q hq
theorem GrI.klen{s:Nat}(hs:s<bs.length):(kTb D bs (s+1)).length=kbF R s*(kTb D bs s).length:=by
 rw[G.kb hs];exact Ld (G.bgd hs) (G.kgd (by omega)) _
theorem GrI.kpos:∀ {s:Nat},s<=bs.length->0<(kTb D bs s).length
 |0,_=>Nat.zero_lt_one
 |s+1,hs=>by
  rw[G.klen (s:=s) (by omega)];exact Nat.mul_pos (by have:=(G.k2 (i:=s) (by omega)).1;omega) (GrI.kpos (by omega))
theorem GrI.fin:(kTb D bs bs.length).length=L.length∧∃ E,exK (kTb D bs bs.length) L=some E∧bsA R bs.length E bs 0=true:=by
 have h:=G.steps.2;unfold Gz at h;rw[Uw]at h;refine⟨UT h.1,?_⟩;cases e:exK (kTb D bs bs.length) L with
 |none=>rw[e]at h;cases h.2
 |some E=>rw[e]at h;exact⟨E,rfl,h.2⟩
theorem GrI.all{f:Fm}(hf:f∈L):∃ e,aW (kTb D bs bs.length) f=some e:=by
 obtain⟨_,E,h1,_⟩:=G.fin;obtain⟨h2,h3⟩:=tr h1;rw[<- h2]at hf;obtain⟨p,hp,rfl⟩:=UO.1 hf;exact⟨p.2,h3 p hp⟩
theorem GrI.nd:∀ (d:Nat) {s:Nat},s+d=bs.length->((kTb D bs s).map (·.1)).Nodup
 |0,s,hs=>by
  have:s=bs.length:=by omega
  subst this;refine oA G.w.nd (fun f hf=>?_) (by rw[Uq,G.fin.1];exact Iv _);obtain⟨e,he⟩:=G.all hf;exact UO.2 ⟨_,fW he,rfl⟩
 |d+1,s,hs=>by
  have h:=GrI.nd d (s:=s+1) (by omega);have hk:=(G.k2 (i:=s) (by omega)).1;rw[G.kb (i:=s) (by omega)]at hk;obtain⟨m,hm⟩:=Lc (b:=(bs.getD s (⟨0,0,0⟩,0)).1) (T:=kTb D bs s) (k:=(bs.getD s (⟨0,0,0⟩,0)).2) (by omega);rw[show kTb D bs (s+1)=grK (bs.getD s (⟨0,0,0⟩,0)).1 (bs.getD s (⟨0,0,0⟩,0)).2 0 (kTb D bs s) from rfl,hm]at h;exact(Xo.1 h).1
theorem GrI.nod{s:Nat}(hs:s<=bs.length):((kTb D bs s).map (·.1)).Nodup:=G.nd (bs.length-s) (by omega)
theorem GrI.nxt{s:Nat}(hs:s<bs.length):nwT D (bs.getD s (⟨0,0,0⟩,0)).1 (kTb D bs s) ((kTb D bs s).map (·.1)) (bs.getD s (⟨0,0,0⟩,0)).2 0=kTb D bs (s+1):=by
 rw[Kb (G.nod (by omega))];exact(ve (G.bgd hs) (G.kgd (by omega)) _).symm
theorem GrI.tab:∀ {s:Nat},s<=bs.length->TabOK D (gbF D bs) (kbF R) s (kTb D bs s)
 |0,_=>TabOK.zero
 |s+1,hs=>by
  have h:=GrI.tab (s:=s) (by omega);have e:=G.nxt (s:=s) (by omega);rw[<- pX (i:=s) (by omega),<- G.kb (i:=s) (by omega)]at e;have h2:=h.next (by rw[e];exact G.nod hs);rw[e]at h2;exact h2
theorem GrI.rel{s:Nat}(hs:s<bs.length):aW (kTb D bs s) (pw D (gbF D bs s) (kbF R s))=some (((mxr R s).take s).map fun x=>-x):=by
 have h:=G.steps.1 s hs;unfold AX at h;cases h1:fdE (kTb D bs (s+1)) (List.replicate s 0++[(((bs.getD s (⟨0,0,0⟩,0)).2-1:Nat):Int)])with
 |none=>rw[h1]at h;cases h
 |some c =>
  cases h2:fdE (kTb D bs s) (((mxr R s).take s).map fun x=>-x)with
  |none=>rw[h1,h2]at h;cases h
  |some p =>
   rw[h1,h2]at h;have e:=eqW_iff.1 h;have m1:=tq h1;have m2:=tq h2;have hk:=(G.k2 hs).1;have hc:c=pw D (gbF D bs s) (kbF R s-1):=by
    have h3:=((G.tab (s:=s+1) hs).im _ m1).2.2;rw[<- G.kb hs]at h3;have h3:c=mlt (imV D (gbF D bs) (fun j=>(List.replicate s (0:Int)++[((kbF R s-1:Nat):Int)]).getD j 0) s) (zpw D (gbF D bs s) ((List.replicate s (0:Int)++[((kbF R s-1:Nat):Int)]).getD s 0)):=h3;rw[lH G.hg (i:=s) fun j hj=>by
     show(List.replicate s (0:Int)++[((kbF R s-1:Nat):Int)]).getD j 0=0;rw[fb,Wj,H2 hj,As,Wq,H2 hj];rfl]at h3
    rw[fb,Wj,G2 (Nat.lt_irrefl _),H2 rfl]at h3;rw[h3];have e2:zpw D (gbF D bs s) ((kbF R s-1:Nat):Int)=pw D (gbF D bs s) (kbF R s-1):=by
     unfold zpw;rw[G2 (by omega)];rfl
    rw[e2,k8 ((G.hg s).pw _).cl,((G.hg s).pw _).rd]
   have hp:pw D (gbF D bs s) (kbF R s)=p:=by
    rw[<- e,hc,<- pX hs,show kbF R s=(kbF R s-1)+1 by omega];rfl
   rw[hp];exact gV (G.nod (by omega)) m2
end
def koF(D:Int)(R:Mx)(bs:List (Fm×Nat))(s:Nat)(f:Fm):Nat:=koV R bs.length s ((aW (kTb D bs bs.length) f).getD [])
theorem FN{r:List Int}{i j:Nat}(hj:j<i):((r.take i).map fun x=>-x).getD j 0=-(r.getD j 0):=by
 rw[As,UE,VY,H2 hj,As];cases r[j]? <;> rfl
theorem S9(bs:List (Fm×Nat))(i:Nat):(bs.map (·.1)).getD i ⟨0,0,0⟩=(bs.getD i (⟨0,0,0⟩,0)).1:=by
 rw[As,UE,As];cases bs[i]? <;> rfl
theorem Bo{D:Int}{gs:List Fm}{gb:Nat->Fm}{e:List Int}:∀ {i:Nat},(∀ j,j<i->gs.getD j ⟨0,0,0⟩=gb j)->imF D gs e i=imV D gb (fun j=>e.getD j 0) i
 |0,_=>rfl
 |i+1,h=>by
  show mlt (imF D gs e i) (zpw D (gs.getD i ⟨0,0,0⟩) (e.getD i 0))=mlt _ (zpw D (gb i) (e.getD i 0));rw[Bo (i:=i) fun j hj=>h j (by omega),h i (by omega)]
theorem Jo{r:List Int}{s:Nat}(h:s<r.length):r.take (s+1)=r.take s++[r.getD s 0]:=by
 rw[VI,As,Fl h];rfl
theorem N9(l:List Int):(l.map fun x=>-x).map (fun x=>-x)=l:=by
 rw[VS];conv=>rhs;rw[<- List.map_id l]
 exact Vy fun x _=>by show - -x=x;omega
section
variable {D:Int}{L:List Fm}{R:Mx}{bs:List (Fm×Nat)}(G:GrI D L R bs)
include G
theorem GrI.rowl{i:Nat}(hi:i<bs.length):(mxr R i).length=bs.length:=by
 rw[G.m.row i (by rw[<- G.len];exact hi),G.len]
theorem GrI.relok:RelOK D (gbF D bs) (kbF R) bs.length R:=⟨G.len.symm,fun i hi=>G.rowl hi,fun i hi=>by
  have:=G.k2 hi;exact⟨this.2.2.symm,by omega⟩,G.m.up,fun i hi=>by
  have hg:=G.hg;rw[ld hg (s:=i+1) (by omega) fun j h1 _=>G.m.up i j (by omega)];show mlt (imV D (gbF D bs) (fun j=>mxg R i j) i) (zpw D (gbF D bs i) (mxg R i i))=_;have h1:zpw D (gbF D bs i) (mxg R i i)=pw D (gbF D bs i) (kbF R i):=by
   rw[<- (G.k2 hi).2.2];unfold zpw;rw[G2 (by omega)];rfl
  have h2:=((G.tab (s:=i) (by omega)).im _ (fW (G.rel hi))).2.2;have h2:pw D (gbF D bs i) (kbF R i)=imV D (gbF D bs) (fun j=>(((mxr R i).take i).map fun x=>-x).getD j 0) i:=h2;rw[h1,h2,eW (v:=fun j=>-(mxg R i j)) fun j hj=>FN hj,jW hg];exact lH hg fun j _=>by show mxg R i j + -mxg R i j=0;omega⟩
theorem GrI.cls{f:Fm}(hf:f∈L):∃ e,aW (kTb D bs bs.length) f=some e∧bxV R e∧f=imL D (gbF D bs) bs.length e∧nfD R bs.length e=e:=by
 obtain⟨e,he⟩:=G.all hf;have ht:=G.tab (Iv _);obtain⟨h1,h2,h3⟩:=ht.im _ (fW he);refine⟨e,he,⟨by rw[<- G.len];exact h1,fun j hj=>?_⟩,h3,wz G.relok G.hg ht h1 h2⟩;have hj':j<bs.length:=by rw[G.len];exact hj
 have h4:=h2 j hj';rw[(G.k2 hj').2.2]at h4;exact h4
theorem GrI.ord{f:Fm}(hf:f∈L){s:Nat}(hs:s<=bs.length):OrdT D (kTb D bs s) f (koF D R bs s f)∧koF D R bs s f<=60:=by
 obtain⟨e,h1,h2,h3,h4⟩:=G.cls hf;have h0:koV R bs.length s e≠0:=by rw[G.len];exact G.m.ko e h2 s (by rw[<- G.len];exact hs)
 unfold koF;rw[h1];show OrdT D _ f (koV R bs.length s e)∧koV R bs.length s e<=60;have h:=sT G.relok G.hg (G.tab (Iv _)) (G.tab hs) hs (h2.1.trans G.len.symm) h4 h0;rw[<- h3]at h;exact h
theorem GrI.ord0{f:Fm}(hf:f∈L):Ord D f (koF D R bs 0 f):=by
 obtain⟨e,h1,h2,h3,h4⟩:=G.cls hf;have h0:koV R bs.length 0 e≠0:=by rw[G.len];exact G.m.ko e h2 0 (Uv _)
 unfold koF;rw[h1];show Ord D f (koV R bs.length 0 e);have h:=NT G.relok G.hg (G.tab (Iv _)) (h2.1.trans G.len.symm) h4 h0;rw[<- h3]at h;exact h
theorem GrI.isS{f:Fm}(hf:f∈L){s:Nat}(hs:s<=bs.length){e:List Int}(he:aW (kTb D bs bs.length) f=some e):(aW (kTb D bs s) f).isSome=zfr s e:=by
 obtain⟨e',h1,h2,h3,h4⟩:=G.cls hf;rw[he]at h1;have:=Vl h1;subst this;have h:=zR G.relok G.hg (G.tab (Iv _)) (G.tab hs) hs (v:=e) (h2.1.trans G.len.symm);rw[<- show f=imV D (gbF D bs) (fun j=>e.getD j 0) bs.length from h3,h4]at h;rw[h];cases zfr s e <;> rfl
theorem GrI.un{s:Nat}(hs:s<bs.length):OrdT D (kTb D bs s) (bs.getD s (⟨0,0,0⟩,0)).1 (bs.getD s (⟨0,0,0⟩,0)).2:=by
 have hl:(nk bs.length s).length=bs.length:=by unfold nk;rw[Uq,V2]
 have hb:∀ j,j<bs.length->0<=(nk bs.length s).getD j 0∧(nk bs.length s).getD j 0<kbF R j:=fun j hj=>by
  have:=(G.k2 hj).1;rw[vt hs];split <;> omega
 have hko:koV R bs.length s (nk bs.length s)=kbF R s:=by
  rw[G.len];exact G.m.un s (by rw[<- G.len];exact hs)
 have h:=(sT G.relok G.hg (G.tab (Iv _)) (G.tab (s:=s) (by omega)) (by omega) hl (wz G.relok G.hg (G.tab (Iv _)) hl hb) (by rw[hko];have:=(G.k2 hs).1;omega)).1;rw[hko,Gi G.hg hs fun j=>vt hs,pX hs,G.kb hs]at h;exact h
theorem GrI.st:∀ {s:Nat},s<=bs.length->stM D bs s=⟨kTb D bs s,(kTb D bs s).map (·.1),(bs.take s).map (·.1),(List.range s).map fun i=>(mxr R i).take (i+1)⟩
 |0,_=>rfl
 |s+1,hs=>by
  have ih:=GrI.st (s:=s) (by omega);have hlt:s<bs.length:=by omega
  have hr:=G.rel hlt;rw[pX hlt,G.kb hlt]at hr;have hl:=G.rowl hlt;unfold stM;rw[ih];simp only;rw[G.nxt hlt,hr,V7,Vj]
  congr 1
  ·rw[VI,As,Fl hlt,Vj];rfl
  congr 1
  show[((((mxr R s).take s).map fun x=>-x).map fun x=>-x)++[((bs.getD s (⟨0,0,0⟩,0)).2:Int)]]=[(mxr R s).take (s+1)];rw[N9,Jo (by omega),<- G.kb hlt,(G.k2 hlt).2.2];rfl
theorem GrI.lt{s:Nat}(hs:s<bs.length):(kTb D bs s).length<(kTb D bs (s+1)).length:=by
 have h1:=G.kpos (s:=s) (by omega);have h2:=(G.k2 hs).1;rw[G.klen hs];have:2*(kTb D bs s).length<=kbF R s*(kTb D bs s).length:=Uy _ h2;omega
theorem GrI.le:∀ (d:Nat) {s:Nat},s+d=bs.length->(kTb D bs s).length<=L.length
 |0,s,hs=>by
  have:s=bs.length:=by omega
  subst this;rw[G.fin.1];exact Iv _
 |d+1,s,hs=>by
  have h1:=G.lt (s:=s) (by omega);have h2:=GrI.le d (s:=s+1) (by omega);omega
theorem GrI.best{s:Nat}(hs:s<bs.length):(fG (koF D R bs s) (kTb D bs s) L (⟨0,0,0⟩,0,0)).1=(bs.getD s (⟨0,0,0⟩,0)).1:=by
 obtain⟨_,E,h1,h2⟩:=G.fin;obtain⟨h3,h4⟩:=tr h1;have h5:=Ap (bs:=bs) (l:=bs) (s:=0) rfl h2 s (Uv _) hs;rw[<- h5,DQ (S:=kTb D bs s) (ko:=koF D R bs s) fun p hp=>?_,h3];have hf:p.1∈L:=by rw[<- h3];exact UO.2 ⟨p,hp,rfl⟩
 refine⟨G.isS hf (by omega) (h4 p hp),?_⟩;unfold koF;rw[h4 p hp];rfl
theorem GrI.step(hL:L.length<=199){s:Nat}(hs:s<bs.length):StepOK D L (stM D bs s) (bs.getD s (⟨0,0,0⟩,0)) (koF D R bs s):=by
 have h8:bs.length<=8:=by rw[G.len];exact G.m.n8
 have hle:=G.le (bs.length-s) (s:=s) (by omega);have hle2:=G.le (bs.length-(s+1)) (s:=s+1) (by omega);have hlt:=G.lt hs;have hk:=G.k2 hs;have ht:=G.tab (s:=s) (by omega);have hr:=G.rel hs;have him:=ht.im _ (fW hr);rw[pX hs,G.kb hs]at hr;rw[G.st (s:=s) (by omega)];refine⟨?_,fun f hf _=>?_,G.best hs,G.bgd hs,G.un hs,?_,fun p hp=>?_,?_,?_,?_,?_,fun x hx=>?_,fun p=>?_,?_⟩
 ·show((kTb D bs s).map (·.1)).length<L.length;rw[Uq];omega
 ·have:=G.ord hf (s:=s) (by omega);exact⟨this.1,by omega⟩
 ·rw[<- G.kb hs];omega
 ·obtain⟨q,hq,rfl⟩:=UO.1 hp;exact G.kgd (by omega) q hq
 ·show((kTb D bs s).map (·.1)).length<=1000;rw[Uq];omega
 ·show((bs.take s).map (·.1)).length<=12;rw[Uq,Us];omega
 ·show((List.range s).map _).length<=12;rw[Uq,V2];omega
 ·show((aW (kTb D bs s) _).getD []).length=((bs.take s).map (·.1)).length;rw[hr];show(((mxr R s).take s).map fun x=>-x).length=_;rw[show(((mxr R s).take s).map fun x=>-x).length=s from him.1,Uq,Us];omega
 ·have hx:x∈(aW (kTb D bs s) (pw D (bs.getD s (⟨0,0,0⟩,0)).1 (bs.getD s (⟨0,0,0⟩,0)).2)).getD []:=hx;rw[hr]at hx;have hx:x∈((mxr R s).take s).map fun x=>-x:=hx
  obtain⟨j,hj,rfl⟩:=Wx hx;have h1:(((mxr R s).take s).map fun x=>-x).length=s:=him.1;have h2:=him.2.1 j (by omega);have e:(((mxr R s).take s).map fun x=>-x).getD j 0=(((mxr R s).take s).map fun x=>-x)[j]:=by
   rw[As,Fl hj];rfl
  have hkj:=G.k2 (i:=j) (by omega);have h2:0<=(((mxr R s).take s).map fun x=>-x).getD j 0∧(((mxr R s).take s).map fun x=>-x).getD j 0<kbF R j:=h2;rw[e]at h2;omega
 ·show((aW (kTb D bs s) p).getD []).length<=12;cases e:aW (kTb D bs s) p with
  |none=>exact Uv _
  |some v =>
   have:=(ht.im _ (fW e)).1;show v.length<=12;have:v.length=s:=this;omega
 show((nwT D _ (kTb D bs s) ((kTb D bs s).map (·.1)) _ 0).map (·.1)).Nodup;rw[G.nxt hs];exact G.nod (by omega)
theorem GrI.gens:(stM D bs bs.length).g=bs.map (·.1):=by rw[G.st (Iv _),Vm]
theorem GrI.rels:(stM D bs bs.length).r=(List.range bs.length).map fun i=>(mxr R i).take (i+1):=by rw[G.st (Iv _)]
theorem GrI.pad:(stM D bs bs.length).r.map (iA bs.length)=R:=by
 rw[G.rels,VS];apply Xp;intro i;rw[UE];rcases Ut i bs.length with h|h
 ·have hl:=G.rowl h;have hR:i<R.length:=by rw[<- G.len];exact h
  rw[Wb h];show some (iA bs.length ((mxr R i).take (i+1)))=R[i]?;rw[Fl hR];have e:mxr R i=R[i]:=by unfold mxr;rw[As,Fl hR];rfl
  rw[<- e]
  congr 1
  unfold iA;rw[Us,hl,Vu (by omega)];apply Xp;intro j;rw[Xx,Us,hl,Vu (by omega)];by_cases hj:j<i+1
  ·rw[H2 hj,VY,H2 hj]
  rw[G2 hj,Wq];have hu:=G.m.up i j (by omega);unfold mxg at hu;rw[As]at hu;by_cases hj2:j<bs.length
  ·rw[H2 (by omega)];rw[Fl (by omega)]at hu ⊢;exact Ur some hu.symm
  rw[G2 (by omega),UU (by omega)]
 rw[UU (by rw[V2];exact h),UU (by rw[<- G.len];exact h)];rfl
omit G in
theorem xj{j:Nat}(hj:j<bs.length):(bs.map (·.1)).getD j ⟨0,0,0⟩=gbF D bs j:=by rw[S9,pX hj]
theorem GrI.ggd:∀ f∈bs.map (·.1),Gd D f:=fun f hf=>by
 obtain⟨j,hj,rfl⟩:=Wx hf;rw[Uq]at hj;have:=xj (D:=D) hj;rw[As,Fl (by rw[Uq];exact hj)]at this;have this:(bs.map (·.1))[j]'(by rw[Uq];exact hj)=gbF D bs j:=this;rw[this];exact G.hg j
theorem GrI.rel1{r:List Int}(hr:r∈R):imF D (bs.map (·.1)) r bs.length=prP D:=by
 obtain⟨i,hi,rfl⟩:=Wx hr;have hi':i<bs.length:=by rw[G.len];exact hi
 rw[Bo fun j hj=>xj hj];have h:=G.relok.rel i hi';have e:mxr R i=R[i]:=by unfold mxr;rw[As,Fl hi];rfl
 rw[<- e];exact h
theorem GrI.rel0{r:List Int}(hr:r.length=bs.length)(h:zfr 0 (nfD R bs.length r)=false):imF D (bs.map (·.1)) r bs.length≠prP D:=by
 intro e;rw[Bo fun j hj=>xj hj]at e;have hz:∀ j,(List.replicate bs.length (0:Int)).getD j 0=0:=fun j=>by
  rw[As,Wq];split <;> rfl
 have hl:(List.replicate bs.length (0:Int)).length=bs.length:=Wj;have e2:imL D (gbF D bs) bs.length (List.replicate bs.length 0)=prP D:=lH G.hg fun j _=>hz j
 have h1:=zw G.relok G.hg (G.tab (Iv _)) hr hl (e.trans e2.symm);have h2:=wz G.relok G.hg (G.tab (Iv _)) hl fun j hj=>by
  rw[hz];have:=(G.k2 hj).1;omega
 rw[h1,h2,zfr_get.2 fun j _=>hz j]at h;cases h
end
def bxE(R:Mx):Nat->List (List Int)
 |0=>[[]]
 |s+1=>(List.range (mxg R s s).toNat).flatMap fun(j:Nat)=>(bxE R s).map fun v=>v++[(j:Int)]
theorem Ao{R:Mx}:∀ {s:Nat} {v:List Int},v.length=s->(∀ j,j<s->0<=v.getD j 0∧v.getD j 0<mxg R j j)->v∈bxE R s
 |0,v,h,_=>by rw[Ux h];exact U3.2 rfl
 |s+1,v,h,hb=>by
  obtain⟨x,u,rfl⟩:∃ x u,v=u++[x]:=by
   have hne:v≠[]:=fun e=>by rw[e]at h;simp at h
   exact⟨v.getLast hne,v.dropLast,(Wp hne).symm⟩
  have hl:u.length=s:=by simpa using h
  have hx:=hb s (by omega);rw[fb,hl,G2 (by omega),H2 rfl]at hx;refine XD.2 ⟨x.toNat,UW.2 (by omega),UO.2 ⟨u,Ao hl fun j hj=>?_,?_⟩⟩
  ·have:=hb j (by omega)
   rwa [fb,hl,H2 hj]at this
  show u++[((x.toNat:Nat):Int)]=_;rw[W4 hx.1]
def mxA(R:Mx):Bool:=Nat.ble R.length 8&&fg R.length R&&(List.range R.length).all fun i=>(decide (2<=mxg R i i)&&decide (mxg R i i<=1000))&&(List.range R.length).all fun j=>Nat.ble j i||decide (mxg R i j=0)
def mxB(R:Mx):Bool:=((bxE R R.length).all fun v=>(List.range (R.length+1)).all fun s=>!Nat.beq (koV R R.length s v) 0)&&(List.range R.length).all fun s=>Nat.beq (koV R R.length s (nk R.length s)) (mxg R s s).toNat
def HX(R H:Mx)(q:Nat):Bool:=(Nat.ble 1 q&&Nat.ble q 65536)&&(okY H q H.length (List.replicate H.length 0) false&&(mpL H q H.length (List.replicate H.length 0) false).all fun r=>(Nat.beq r.length R.length&&dq r) && !zfr 0 (nfD R R.length r))
def mxC(R:Mx)(h:Nat):Bool:=(hkH R&&(R.all fun r=>!Nat.beq r.length 0))&&((Nat.ble (bP R).length 12&&fg (bP R).length (bP R))&&((Nat.ble h 199&&okD (h+2) h 2)&&(dvD (h+2) h 2).all fun q=>HX R (bP R) q))
def mxE(_R:Mx)(h:Nat)(inv:List Int)(os:List Nat):Bool:=((inv.all fun a=>decide (a≠1))&&(Nat.ble inv.length 12&&dq inv))&&((os.all fun o=>Nat.beq (h%o) 0&&decide (lsI inv inv.length%(o:Int)=0))&&((os.any fun o=>decide ((o:Int)=lsI inv inv.length))&&Nat.beq (os.filter fun o=>Nat.ble o 2).length (evI inv inv.length)))
def mxI(R:Mx)(h:Nat):Bool:=Nat.beq R.length 0||(oy R&&Nat.beq (dtL R).natAbs h)
def Bu{α:Type}:List Nat->(List Nat->α)->α
 | [],k=>k []
 |x::l,k=>tp x fun y=>Bu l fun m=>k (y::m)
theorem zU{α:Type}:∀ (l:List Nat) (k:List Nat->α),Bu l k=k l
 | [],k=>rfl
 |x::l,k=>by show tp x _=_;rw[pZ,zU l]
def mxK(R:Mx):Bool:=tp (bxE R R.length).length fun h=>(mxA R&&mxB R)&&((mxC R h&&mxI R h)&&match smD R with
 |none=>false
 |some inv=>Bu ((bxE R R.length).map (koV R R.length 0)) fun os=>mxE R h inv os)
structure MxH(R:Mx)(h:Nat)(inv:List Int):Prop where
 g:MxG R
 sr:∀ r∈R,r.length=R.length∧dq r=true
 hk:hkH R=true
 h0:∀ r∈R,r.length≠0
 h12:(bP R).length<=12
 hsq:fg (bP R).length (bP R)=true
 hh:h<=199
 okd:okD (h+2) h 2=true
 hq:∀ q∈dvD (h+2) h 2,(1<=q∧q<=65536)∧okY (bP R) q (bP R).length (List.replicate (bP R).length 0) false=true
 hr:∀ q∈dvD (h+2) h 2,∀ r∈mpL (bP R) q (bP R).length (List.replicate (bP R).length 0) false,r.length=R.length∧dq r=true∧zfr 0 (nfD R R.length r)=false
 ix:R.length=0∨(oy R=true∧(dtL R).natAbs=h)
 sm:smD R=some inv
 i1:∀ a∈inv,a≠1
 i12:inv.length<=12
 is:dq inv=true
 hl:h=(bxE R R.length).length
 od:∀ v∈bxE R R.length,h%koV R R.length 0 v=0∧lsI inv inv.length%(koV R R.length 0 v:Int)=0
 mx:∃ v∈bxE R R.length,(koV R R.length 0 v:Int)=lsI inv inv.length
 ev:((bxE R R.length).filter fun v=>Nat.ble (koV R R.length 0 v) 2).length=evI inv inv.length
theorem qm{a b:Nat}(h:Nat.beq a b=true):a=b:=UT h
theorem Ro{R:Mx}(h1:mxA R=true)(h2:mxB R=true):MxG R:=by
 unfold mxA at h1;unfold mxB at h2;simp only[Bool.and_eq_true]at h1 h2;have hrow:∀ i,i<R.length->(mxr R i).length=R.length:=fun i hi=>(cE h1.1.2 hi).1
 have hup:∀ i j,i<j->mxg R i j=0:=fun i j hij=>by
  rcases Ut i R.length with hi|hi
  ·rcases Ut j R.length with hj|hj
   ·have h:=Uo.1 h1.2 i (UW.2 hi);rw[Uw]at h;have h:=Uo.1 h.2 j (UW.2 hj);rw[VE]at h;rcases h with h|h
    ·have:=bL0 h;omega
    exact dT0 h
   unfold mxg;rw[As,UU (by rw[hrow i hi];exact hj)];rfl
  unfold mxg mxr;rw[As (l:=R),UU (show R.length<=i from hi)];rfl
 refine⟨bL0 h1.1.1,hrow,fun i hi=>?_,hup,fun v hv s hs=>?_,fun s hs=>?_⟩
 ·have h:=Uo.1 h1.2 i (UW.2 hi);simp only[Bool.and_eq_true]at h;exact⟨dT0 h.1.1,dT0 h.1.2⟩
 ·have h:=Uo.1 h2.1 v (Ao hv.1 hv.2);have h:=Uo.1 h s (UW.2 (by omega));intro e;rw[e]at h;cases h
 exact qm (Uo.1 h2.2 s (UW.2 hs))
theorem Of{R:Mx}(h:mxK R=true):∃ inv,MxH R (bxE R R.length).length inv:=by
 unfold mxK at h;rw[pZ]at h;simp only[Bool.and_eq_true]at h;obtain⟨⟨h1,h2⟩,⟨h3,h4⟩,h5⟩:=h;cases e:smD R with
 |none=>rw[e]at h5;cases h5
 |some inv =>
  rw[e]at h5;have h5:Bu ((bxE R R.length).map (koV R R.length 0)) (fun os=>mxE R (bxE R R.length).length inv os)=true:=h5;rw[zU]at h5;have hG:=Ro h1 h2;unfold mxA at h1;unfold mxC at h3;unfold mxI at h4;unfold mxE at h5;simp only[Bool.and_eq_true]at h1 h3 h5;obtain⟨⟨c1,c2⟩,⟨c3,c4⟩,⟨c5,c6⟩,c7⟩:=h3;obtain⟨⟨d1,d2,d3⟩,d4,d5,d6⟩:=h5;have hq:=fun q (hq:q∈dvD ((bxE R R.length).length+2) (bxE R R.length).length 2)=>Uo.1 c7 q hq
  unfold HX at hq;simp only[Bool.and_eq_true]at hq;refine⟨inv,hG,fun r hr=>?_,c1,fun r hr e=>?_,bL0 c3,c4,bL0 c5,c6,fun q h=>⟨⟨bL0 (hq q h).1.1,bL0 (hq q h).1.2⟩,(hq q h).2.1⟩,fun q h r hr=>?_,?_,e,fun a ha=>dT0 (Uo.1 d1 a ha),bL0 d2,d3,rfl,fun v hv=>?_,?_,?_⟩
  ·have hs:=Uo.1 h1.1.2 r hr;rw[Uw]at hs;exact⟨dT0 hs.1,hs.2⟩
  ·have:=Uo.1 c2 r hr;rw[e]at this;cases this
  ·have h:=Uo.1 (hq q h).2.2 r hr;simp only[Bool.and_eq_true,Bool.not_eq_true']at h;exact⟨qm h.1.1,h.1.2,h.2⟩
  ·rw[VE,Uw]at h4;rcases h4 with h|h
   ·exact .inl (qm h)
   exact .inr ⟨h.1,qm h.2⟩
  ·have h:=Uo.1 d4 _ (UO.2 ⟨v,hv,rfl⟩);rw[Uw]at h;exact⟨qm h.1,dT0 h.2⟩
  ·obtain⟨o,ho,h⟩:=Wz.1 d5;obtain⟨v,hv,rfl⟩:=UO.1 ho;exact⟨v,hv,dT0 h⟩
  have h:=qm d6;rw[X4,Uq]at h;exact h
end Go.AM
