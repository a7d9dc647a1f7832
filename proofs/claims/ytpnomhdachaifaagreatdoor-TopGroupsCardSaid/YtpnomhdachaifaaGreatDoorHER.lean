import Derived.Test.YtpnomhdachaifaaGreatDoorHEP
import Derived.Test.YtpnomhdachaifaaGreatDoorHEQ
set_option maxRecDepth 100000
namespace Go.AM
open Go Go.RowKit
theorem x4{n:Int}{f:Fm}(hn:n<=4194304)(h:f∈LW n prG):f.pos∧Rd f∧dsc f.a f.b f.c=-n∧prim f.a f.b f.c=true:=by
 have h1:=(D6 hn).1 h;have h2:Rd f:=h1.1.rd;exact⟨h1.1.pos,h2,h1.1.dsc,h1.2⟩
theorem NI{n:Int}{f:Fm}(hn:n<=4194304)(hf:Cl (-n) f)(hr:f.rd=f):f∈LW n prG:=by
 rw[D6 hn];have h2:Rd f:=hr▸hf.rd_Rd;have h3:=h2.redT;rw[hf.disc,XQ]at h3;exact⟨h3,hf.prim⟩
theorem D7{n:Int}(hn:n<=20000):LW n (fun f=>prim f.a f.b f.c)=lst n:=by
 refine tN ((SI n _).imp_of_mem fun{a b} ha hb h=>?_) (zH n) fun f=>?_
 ·obtain⟨p1,_,d1,_⟩:=x4 (n:=n) (by omega) (show a∈LW n prG from ha);obtain⟨p2,_,d2,_⟩:=x4 (n:=n) (by omega) (show b∈LW n prG from hb);rw[gk];unfold lsF at h;rcases dT0 h with h|⟨h1,h|⟨h2,h3⟩⟩
  ·exact .inl h
  ·exact .inr ⟨h1,h⟩
  exfalso;have e:=d1.trans d2.symm;unfold dsc at e;rw[h1,h2]at e;have ha:0<b.a:=p2.1;have e2:4*b.a*a.c=4*b.a*b.c:=by omega
  have:=U0 (by omega) e2;omega
 rw[(jr hn).mem];constructor
 ·intro h;obtain⟨h1,h2,h3,h4⟩:=x4 (n:=n) (by omega) (show f∈LW n prG from h);exact⟨⟨h1,h4,h3⟩,fP h2 h1⟩
 intro h;exact NI (by omega) h.1 h.2
def lQ(n:Nat):Bool:=Nat.ble (amL (n:Int)).length 12
theorem T5:rK lQ 3 197=true:=by decide +kernel
theorem P0:rK lQ 200 200=true:=by decide +kernel
theorem PZ:rK lQ 400 200=true:=by decide +kernel
theorem PY:rK lQ 600 200=true:=by decide +kernel
theorem PX:rK lQ 800 200=true:=by decide +kernel
theorem L8:rK lQ 1000 200=true:=by decide +kernel
theorem L7:rK lQ 1200 200=true:=by decide +kernel
theorem L5:rK lQ 1400 200=true:=by decide +kernel
theorem L4:rK lQ 1600 200=true:=by decide +kernel
theorem L3:rK lQ 1800 204=true:=by decide +kernel
theorem PW{n:Nat}(h1:3<=n)(h2:n<=2003)(h:n%4=0∨n%4=3):lQ n=true:=by
 rcases Ut n 200 with q|q
 ·exact fw T5 n (by omega) (by omega) h
 rcases Ut n 400 with q|q
 ·exact fw P0 n (by omega) (by omega) h
 rcases Ut n 600 with q|q
 ·exact fw PZ n (by omega) (by omega) h
 rcases Ut n 800 with q|q
 ·exact fw PY n (by omega) (by omega) h
 rcases Ut n 1000 with q|q
 ·exact fw PX n (by omega) (by omega) h
 rcases Ut n 1200 with q|q
 ·exact fw L8 n (by omega) (by omega) h
 rcases Ut n 1400 with q|q
 ·exact fw L7 n (by omega) (by omega) h
 rcases Ut n 1600 with q|q
 ·exact fw L5 n (by omega) (by omega) h
 rcases Ut n 1800 with q|q
 ·exact fw L4 n (by omega) (by omega) h
 exact fw L3 n q (by omega) h
theorem P3(D:Nat):(amL (- -szz D)).length<=12:=by
 have hs:=dj D;obtain⟨n,hn⟩:∃ n:Nat,szz D=(n:Int):=⟨(szz D).toNat,by omega⟩
 rw[hn]at hs ⊢;rw[XQ];exact bL0 (PW (by omega) (by omega) (by omega))
theorem Jp(D:Nat):Cl (-szz D) (prP (-szz D)):=dZ (Oo D 0 0)
theorem OU(D:Nat):∃ R bs inv,GrI (-szz D) (lst (szz D)) R bs∧MxH R (bxE R R.length).length inv:=by
 have hs:=dj D;have h1:=Jp D;obtain⟨n,hn⟩:∃ n:Nat,szz D=(n:Int):=⟨(szz D).toNat,by omega⟩
 rw[hn]at h1 hs ⊢;exact K7 (by omega) (by omega) (by omega) h1
section
variable {d:Int}{L:List Fm}{R:Mx}{bs:List (Fm×Nat)}(G:GrI d L R bs)
include G
theorem GrI.root(hd:-4194304<=d)(h0:d<0)(hE:szE d=0)(hK:(prW L).length*(rtW L (prP d)).length=L.length){f:Fm}(hf:f∈L):(gpr f=true->(rtW L f).length=(L.filter kN).length)∧(gpr f=false->(rtW L f).length=0):=by
 obtain⟨a,b⟩:=(G.w.mem f).1 hf;have h:=JW G.w a hd h0 hE hK;constructor
 ·intro e;rw[za G.w a (h.1 e),G.rt1]
 intro e;rcases UI (rtW L f).length with q|q
 ·exact q
 have:=h.2 (WY.1 q);rw[this]at e;cases e
theorem GrI.Lgd:∀ f∈L,Gd d f:=fun f hf=>by
 obtain⟨a,b⟩:=(G.w.mem f).1 hf;exact⟨a,b⟩
theorem GrI.Lne:0<L.length:=by
 have:=G.kpos (Iv _);have:=G.fin.1;omega
end
end Go.AM
