import Derived.Test.YtpnomhdachaifaaGreatDoorHED
import Derived.Test.YtpnomhdachaifaaGreatDoorHEE
set_option maxRecDepth 100000
namespace Go.AM
open Go Go.RowKit
theorem PQ{n k N X u:Int}(hn:0<n)(h:12*k<=4*n)(e:4*k*N=X*X+n*(u*u))(hk:0<k)(hN:N<=4000):-80<=u∧u<=80:=by
 have hX:=cz X;have h1:k*N<=k*4000:=Up hN (by omega);have e1:4*k*N=4*(k*N):=UG ..;have key:¬ 6561<=u*u:=fun g=>by
  have h2:n*6561<=n*(u*u):=Up g (by omega);omega
 constructor
 ·rcases UY u (-80)with g|g
  ·refine absurd ?_ key;have:=Ve (show 81<=-u by omega) (show 81<=-u by omega) (by omega) (by omega);rw[Int.neg_mul_neg]at this;omega
  exact g
 rcases UY 80 u with g|g
 ·refine absurd ?_ key;have:=Ve (show 81<=u by omega) (show 81<=u by omega) (by omega) (by omega);omega
 exact g
theorem box{c:Fm}{n N u v:Int}(hr:Rd c)(hd:dsc c.a c.b c.c=-n)(hv:vl c.a c.b c.c u v=N)(hN:N<=4000):(-80<=u∧u<=80)∧-80<=v∧v<=80:=by
 have ha:=hr.a;have hc:=hr.c;have h3:=hr.sq3 hd;have e3:3*c.a*c.a=3*(c.a*c.a):=UG ..;have h1:1*c.a<=c.a*c.a:=UM (by omega) (by omega);have h2:1*c.c<=c.a*c.c:=UM (by omega) (by omega);have hb:c.b*c.b<=c.a*c.a:=fx (by have:=hr.b;omega);have hd':c.b*c.b-4*(c.a*c.c)=-n:=by have:=hd;unfold dsc at this;rw[UG]at this;exact this
 have en:n=4*(c.a*c.c)-c.b*c.b:=by omega
 refine⟨PQ (n:=n) (k:=c.c) (X:=2*c.c*v+c.b*u) (by omega) (by omega) ?_ (by omega) hN,PQ (n:=n) (k:=c.a) (X:=2*c.a*u+c.b*v) (by omega) (by omega) ?_ ha hN⟩
 ·rw[<- hv,en];unfold vl;grind
 rw[<- hv,en];unfold vl;grind
theorem Mq(a b c x y:Int):vl a b c (-x) (-y)=vl a b c x y:=by unfold vl;grind
theorem found{D:Int}{f g:Fm}{N x y z w:Int}(hf:Cl D f)(hg:Cl D g)(e:vl f.a f.b f.c x y*vl g.a g.b g.c z w=N)(hN:N<=4000) :
  ∃ a b:Int,(0<=a∧a<=80)∧(-80<=b∧b<=80)∧vl (mlt f g).a (mlt f g).b (mlt f g).c b a=N:=by
 have hc:=gh hf hg;have hr:=On hf hg;have hi:IsC D f g (oW f g):=dR hf hg;refine(wV hf hg hi x y z w).elim fun u hu=>hu.elim fun v hv=>?_
 rw[e]at hv;obtain⟨m,hm,em⟩:=ly (dR hf hg).1.pos;have hval:∃ u v:Int,vl (mlt f g).a (mlt f g).b (mlt f g).c u v=N:=by
  have e2:mlt f g=(oW f g).app m:=em;have e3:(mlt f g).app m.adj=oW f g:=by rw[e2,lj hm]
  have e4:=BS (mlt f g) m.adj u v;rw[e3]at e4;exact⟨_,_,(e4.symm.trans hv.symm)⟩
 refine hval.elim fun u hu=>hu.elim fun v hv=>?_
 have hb:=box hr (hc.disc.trans (by rw[XQ])) hv hN (n:=-D);rcases UY v 0 with g0|g0
 ·exact⟨-v,-u,by omega,by omega,by rw[Mq];exact hv⟩
 exact⟨v,u,by omega,by omega,hv⟩
theorem QH{D:Int}{f:Fm}{l:List Fm}(w:Whole D l)(hl:l.length<=199)(hf:Cl D f):ii f l=0∧kF f l=rtW l f:=by
 have h:=HQ (l:=l) (lN hf) (show ¬ (l.length:Int)>400 by omega);refine⟨h.1,h.2.trans ?_⟩;unfold rtW;refine VV fun g hg=>?_
 have c:=((w.mem g).1 hg).1;unfold rtB;rw[G6 (lN c),G6 (c.disc.trans hf.disc.symm)];rfl
theorem J2{D:Int}{f:Fm}{o h:Nat}(ho:Ord D f o)(hf:Cl D f)(hh:o∣h)(h1:1<=h):orV f (h:Int)=(o:Int)∧orE f (h:Int)=0:=by
 have e:=hf.disc;have hB:orB f (h:Int)=true:=by
  unfold orB;rw[e,Uw,decide_eq_true_iff,decide_eq_true_iff];exact⟨by omega,(ho.zpw hf _).2 (W2 (Int.ofNat_dvd.2 hh))⟩
 have:=Cw (lN hf) hB (e▸ho);injection this with h2
 injection h2 with h3 h4
 injection h4 with h5 h6
 injection h3 with h7;injection h5 with h8
 injection h7 with h9;injection h8 with h10
 injection h9 with _ h11;injection h10 with _ h12
 exact⟨h11.symm,h12.symm⟩
theorem Du(φ:Fm->Fm)(r:Nat):∀ (P l:List Fm),(∀ x∈l,φ x∈P)->(∀ g,(l.filter fun x=>decide (φ x=g)).length<=r)->l.length<=P.length*r
 | [],l,h,_=>by
  cases l with
  |nil=>simp
  |cons x l=>exact absurd (h x (by simp)) (by simp)
 |g::P,l,h,hr=>by
  have h1:=Du φ r P (l.filter fun x=>!decide (φ x=g)) (fun x hx=>by
   obtain⟨a,b⟩:=VG.1 hx;have:=h x a;rcases Vh.1 this with q|q
   ·rw[G6 q]at b;exact absurd b (by decide)
   ·exact q) (fun g'=>by
   refine UA ?_ (hr g');exact List.Sublist.length_le (List.filter_sublist.filter _))
  have h2:=hr g;have h3:l.length=(l.filter fun x=>decide (φ x=g)).length+(l.filter fun x=>!decide (φ x=g)).length:=by
   clear h h1 h2 hr;induction l with
   |nil=>rfl
   |cons x l ih =>
    by_cases q:φ x=g <;> simp[q]at ih ⊢ <;> omega
  rw[h3,U5,WT];omega
section
variable {d:Int}{f g:Fm}
theorem OS(hf:Cl d f)(hd:-4194304<=d)(h0:d<0)(hE:szE d=0):gvL f.rd=gvL f:=by
 have h1:=sf hf hd h0;rw[<- kC hf hd h0 hE h1.1 h1.2,<- kC hf.rd hd h0 hE (by rw[hf.rd_rd];exact h1.1) h1.2]
theorem Do(hf:Cl d f)(hd:-4194304<=d)(h0:d<0)(hE:szE d=0):gpr f.rd=gpr f:=by
 rw[Vg,pU hf hd h0 hE,pU hf.rd hd h0 hE,OS hf hd h0 hE]
theorem JW{l:List Fm}(w:Whole d l)(hf:Cl d f)(hd:-4194304<=d)(h0:d<0)(hE:szE d=0)(hK:(prW l).length*(rtW l (prP d)).length=l.length):gpr f=true↔rtW l f≠[]:=by
 have hc:∀ x∈l,Cl d x∧x.rd=x:=fun x hx=>(w.mem x).1 hx
 constructor
 ·intro hp he;have hr:=WY.2 (JK w hf);have hm:f.rd∈prW l:=VG.2 ⟨w.rd hf,by rw[Do hf hd h0 hE];exact hp⟩;have hP:((prW l).filter fun x=>decide (x≠f.rd)).length<(prW l).length:=by
   refine Nat.lt_of_le_of_ne (WI _ _) fun e=>?_
   have:=List.length_filter_eq_length_iff.1 e _ hm;simp at this
  have h1:=Du (fun x=>mlt x x) (rtW l (prP d)).length ((prW l).filter fun x=>decide (x≠f.rd)) l (fun x hx=>by
   refine VG.2 ⟨VG.2 ⟨w.mlt (hc x hx).1 (hc x hx).1,Dn (hc x hx).1 hd h0 hE⟩,G6 fun e=>?_⟩;have:x∈rtW l f:=rtW_mem.2 ⟨hx,e⟩;rw[he]at this;exact absurd this (by simp)) (fun g=>by
   by_cases q:(l.filter fun x=>decide (mlt x x=g))=[]
   ·rw[q];exact Uv _
   obtain⟨y,hy⟩:=Xz _ q;obtain⟨y1,y2⟩:=VG.1 hy;have y3:=dT0 y2;have hg:Cl d g:=y3▸gh (hc y y1).1 (hc y y1).1;have hgr:g.rd=g:=y3▸oB (hc y y1).1 (hc y y1).1;have e:(l.filter fun x=>decide (mlt x x=g))=rtW l g:=by unfold rtW;rw[hgr]
   rw[e]at q ⊢;exact V1 (za w hg q))
  have h2:(((prW l).filter fun x=>decide (x≠f.rd)).length+1)*(rtW l (prP d)).length<=(prW l).length*(rtW l (prP d)).length:=Uy _ hP;rw[hK,WT]at h2;omega
 intro h;obtain⟨y,hy⟩:=Xz _ h;obtain⟨y1,y2⟩:=rtW_mem.1 hy;rw[<- Do hf hd h0 hE,<- y2];exact Dn (hc y y1).1 hd h0 hE
end
def frq(D n b:Int):Fm:=⟨n,b,(b*b-D)/(4*n)⟩
def auM(g:Fm)(t u:Int):Mt:=⟨(t-g.b*u)/2,-g.c*u,g.a*u,(t+g.b*u)/2⟩
def smm(f g:Fm):Mt:=smM f.a f.b f.c g.a g.b g.c
def Pu(f:Fm)(D n b:Int)(p:Int×Int):Mt:=(smm f (frq D n b)).mul (auM (frq D n b) p.1 p.2)
def col(f:Fm)(D n b:Int)(p:Int×Int):Int×Int:=((Pu f D n b p).a,(Pu f D n b p).c)
def HP(p:Nat):Nat->Nat->Nat->Nat×Nat
 |0,n,q=>(n,q)
 |f+1,n,q=>if n%p=0 then HP p f (n/p) (q*p)else(n,q)
def ptN(p n:Nat):Nat×Nat:=HP p n n 1
def ppL:Nat->Nat->Nat->List Nat
 |0,_,_=>[]
 |f+1,n,p=>if n<=1 then[]else(if 1<(ptN p n).2 then[(ptN p n).2]else[])++ppL f (ptN p n).1 (p+1)
def parts(n:Nat):List Nat:=ppL n n 2
def jG{α:Type}(x:Int)(k:Int->α):α:=match x with
 |.ofNat 0=>k 0
 |.ofNat (n+1)=>k (.ofNat (n+1))
 |.negSucc n=>k (.negSucc n)
theorem gW{α:Type}(x:Int)(k:Int->α):jG x k=k x:=by
 unfold jG;split <;> rfl
def xo{α:Type}:List Int->(List Int->α)->α
 | [],k=>k []
 |x::l,k=>jG x fun y=>xo l fun m=>k (y::m)
theorem p8{α:Type}:∀ (l:List Int) (k:List Int->α),xo l k=k l
 | [],k=>rfl
 |x::l,k=>by show jG x _=_;rw[gW,p8 l]
def xp{α:Type}:List Fm->(List Fm->α)->α
 | [],k=>k []
 |f::l,k=>jG f.a fun a=>jG f.b fun b=>jG f.c fun c=>xp l fun m=>k (⟨a,b,c⟩::m)
theorem p9{α:Type}:∀ (l:List Fm) (k:List Fm->α),xp l k=k l
 | [],k=>rfl
 |f::l,k=>by show jG f.a _=_;rw[gW,gW,gW,p9 l]
def cpl:List (Int×Int):=[(1,0),(0,1),(1,1),(1,-1),(2,1),(1,2),(2,-1),(1,-2),(3,1),(1,3),(3,-1),(1,-3)]
def mv(f:Fm)(m:Int):List (Int×Int)->Int
 | []=>0
 |p::l=>jG (vl f.a f.b f.c p.1 p.2) fun N=>bif Nat.beq (Int.gcd N m) 1 then N else mv f m l
def pr1(cs:List Int)(m:Int)(f:Fm):Bool:=jG (mv f m cpl) fun N=>bif decide (N=0)then gpr f else cs.all fun c=>decide (cv c N=1)
theorem Aj(f:Fm)(m:Int):∀ l,mv f m l≠0->RpN f (mv f m l)∧Int.gcd (mv f m l) m=1
 | [],h=>absurd rfl h
 |p::l,h=>by
  have e:mv f m (p::l)=bif Nat.beq (Int.gcd (vl f.a f.b f.c p.1 p.2) m) 1 then vl f.a f.b f.c p.1 p.2 else mv f m l:=gW _ _
  rw[e]at h ⊢;cases q:Nat.beq (Int.gcd (vl f.a f.b f.c p.1 p.2) m) 1 with
  |true=>exact⟨⟨_,_,rfl⟩,UT q⟩
  |false=>rw[q]at h;exact Aj f m l h
theorem NQ{d:Int}{f:Fm}(hf:Cl d f)(hr:f.rd=f)(hd:-4194304<=d)(h0:d<0)(hE:szE d=0):pr1 (chs d) (2*d) f=gpr f:=by
 have e:pr1 (chs d) (2*d) f=bif decide (mv f (2*d) cpl=0)then gpr f else(chs d).all fun c=>decide (cv c (mv f (2*d) cpl)=1):=gW _ _
 rw[e];by_cases q:mv f (2*d) cpl=0
 ·rw[G6 q];rfl
 obtain⟨h1,h2⟩:=Aj f (2*d) cpl q;rw[Ix q,cond_false,Vg,pU hf hd h0 hE,<- kC hf hd h0 hE (hr.symm▸h1) h2,Uo];constructor
 ·intro h x hx;obtain⟨c,hc,rfl⟩:=UO.1 hx;exact dT0 (h c hc)
 intro h c hc;exact G6 (h _ (UO.2 ⟨c,hc,rfl⟩))
def amb(f:Fm):Bool:=decide (f.b=0)||(decide (f.a=f.b)||decide (f.a=f.c))
def fKn(n:Nat):Bool:=xo (chs (-(n:Int))) fun cs=>xp (lst (n:Int)) fun l=>Nat.beq ((l.filter (pr1 cs (2 * -(n:Int)))).length*2^(cs.length-1)) l.length&&Nat.beq (l.filter amb).length (2^(cs.length-1))
theorem Pg{n:Nat}(h:fKn n=true)(h1:3<=n)(h2:n<=2003)(hE:szE (-(n:Int))=0):(prW (lst (n:Int))).length*2^((chs (-(n:Int))).length-1)=(lst (n:Int)).length∧((lst (n:Int)).filter amb).length=2^((chs (-(n:Int))).length-1):=by
 unfold fKn at h;rw[p8,p9,Uw]at h;have w:=jr (n:=(n:Int)) (by omega);have e:(lst (n:Int)).filter (pr1 (chs (-(n:Int))) (2 * -(n:Int)))=prW (lst (n:Int)):=by
  refine VV fun x hx=>?_
  obtain⟨a,b⟩:=(w.mem x).1 hx;exact NQ a b (by omega) (by omega) hE
 rw[e]at h;exact⟨UT h.1,UT h.2⟩
def rK(g:Nat->Bool)(a:Nat):Nat->Bool
 |0=>true
 |k+1=>((Nat.ble 1 ((a+k)%4)&&Nat.ble ((a+k)%4) 2)||g (a+k))&&rK g a k
theorem fw{g:Nat->Bool}{a:Nat}:∀ {k:Nat},rK g a k=true->∀ n,a<=n->n<a+k->(n%4=0∨n%4=3)->g n=true
 |0,_,n,h1,h2,_=>by omega
 |k+1,h,n,h1,h2,h3=>by
  unfold rK at h;rw[Uw]at h;rcases Ut n (a+k)with q|q
  ·exact fw h.2 n h1 q h3
  have e:n=a+k:=by omega
  rw[<- e,VE,Uw]at h;rcases h.1 with z|z
  ·have:=bL0 z.1;have:=bL0 z.2;omega
  exact z
end Go.AM
