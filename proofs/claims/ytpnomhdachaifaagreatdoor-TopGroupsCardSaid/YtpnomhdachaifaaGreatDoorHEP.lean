import Derived.Test.YtpnomhdachaifaaGreatDoorHEL
import Derived.Test.YtpnomhdachaifaaGreatDoorHEM
import Derived.Test.YtpnomhdachaifaaGreatDoorHEN
import Derived.Test.YtpnomhdachaifaaGreatDoorHEO
set_option maxRecDepth 100000
namespace Go.AM
open Go Go.RowKit
theorem Ad:∀ {l:List (Nat×List Nat)} {i:Nat},dkA i l=true->∀ j,j<l.length->∃ R gi,R∈mats∧dK (nI (i+j)) R gi=true
 | [],_,_,j,h=>absurd h (Vz _)
 |x::l,i,h,j,hj=>by
  unfold dkA at h;rw[pZ,Uw,Uw]at h;cases j with
  |zero=>exact⟨_,x.2,ct [] (blt_i.1 h.1.1),h.1.2⟩
  |succ j =>
   obtain⟨R,gi,h1,h2⟩:=Ad h.2 j (by simpa using hj);exact⟨R,gi,h1,by rw[show i+(j+1)=i+1+j by omega];exact h2⟩
theorem di{l:List (Nat×List Nat)}{i k:Nat}(h:dkA i l=true)(h1:i<=k)(h2:k<i+l.length):∃ R gi,R∈mats∧dK (nI k) R gi=true:=by
 obtain⟨R,gi,h3,h4⟩:=Ad h (k-i) (by omega);exact⟨R,gi,h3,by rw[show k=i+(k-i) by omega];exact h4⟩
theorem O1{k:Nat}(hk:k<=1000):∃ R gi,R∈mats∧dK (nI k) R gi=true:=by
 rcases Ut k 50 with q|q
 ·exact di gk0 (by omega) (show k<0+50 from q)
 rcases Ut k 100 with q|q
 ·exact di gk1 (by omega) (show k<50+50 from q)
 rcases Ut k 150 with q|q
 ·exact di gk2 (by omega) (show k<100+50 from q)
 rcases Ut k 200 with q|q
 ·exact di gk3 (by omega) (show k<150+50 from q)
 rcases Ut k 250 with q|q
 ·exact di gk4 (by omega) (show k<200+50 from q)
 rcases Ut k 300 with q|q
 ·exact di gk5 (by omega) (show k<250+50 from q)
 rcases Ut k 350 with q|q
 ·exact di gk6 (by omega) (show k<300+50 from q)
 rcases Ut k 400 with q|q
 ·exact di gk7 (by omega) (show k<350+50 from q)
 rcases Ut k 450 with q|q
 ·exact di gk8 (by omega) (show k<400+50 from q)
 rcases Ut k 500 with q|q
 ·exact di gk9 (by omega) (show k<450+50 from q)
 rcases Ut k 550 with q|q
 ·exact di Tw (by omega) (show k<500+50 from q)
 rcases Ut k 600 with q|q
 ·exact di Tv (by omega) (show k<550+50 from q)
 rcases Ut k 650 with q|q
 ·exact di Tu (by omega) (show k<600+50 from q)
 rcases Ut k 700 with q|q
 ·exact di Tt (by omega) (show k<650+50 from q)
 rcases Ut k 750 with q|q
 ·exact di Ts (by omega) (show k<700+50 from q)
 rcases Ut k 800 with q|q
 ·exact di Tq (by omega) (show k<750+50 from q)
 rcases Ut k 850 with q|q
 ·exact di Tp (by omega) (show k<800+50 from q)
 rcases Ut k 900 with q|q
 ·exact di To (by omega) (show k<850+50 from q)
 rcases Ut k 950 with q|q
 ·exact di Tn (by omega) (show k<900+50 from q)
 rcases Ut k 1000 with q|q
 ·exact di Tm (by omega) (show k<950+50 from q)
 exact di Tl q (show k<1000+1 by omega)
theorem Rm{n:Nat}(h1:3<=n)(h2:n<=2003)(h:n%4=0∨n%4=3):∃ k,k<=1000∧nI k=n:=by
 unfold nI;rcases h with h|h
 ·exact⟨2*(n/4-1)+1,by omega,by omega⟩
 exact⟨2*(n/4),by omega,by omega⟩
theorem tz{R:Mx}:∀ {gs:List Fm} {s:Nat},(bsK R gs s).length=gs.length
 | [],_=>rfl
 |g::gs,s=>by
  show(bsK R gs (s+1)).length+1=_;rw[tz];rfl
theorem tA{R:Mx}:∀ {gs:List Fm} {s i:Nat},i<gs.length->(bsK R gs s).getD i (⟨0,0,0⟩,0)=(gs.getD i ⟨0,0,0⟩,(mxg R (s+i) (s+i)).toNat)
 | [],_,_,h=>absurd h (Vz _)
 |g::gs,s,0,_=>rfl
 |g::gs,s,i+1,h=>by
  have e:=tA (R:=R) (gs:=gs) (s:=s+1) (i:=i) (by simpa using h);rw[show s+(i+1)=s+1+i by omega];exact e
theorem K7{n:Nat}(h1:3<=n)(h2:n<=2003)(h:n%4=0∨n%4=3)(h0:Cl (-(n:Int)) (prP (-(n:Int)))):∃ R bs inv,GrI (-(n:Int)) (lst (n:Int)) R bs∧MxH R (bxE R R.length).length inv:=by
 obtain⟨k,hk,rfl⟩:=Rm h1 h2 h;obtain⟨R,gi,hR,hd⟩:=O1 hk;obtain⟨inv,H⟩:=Of (Uo.1 Oc R hR);unfold dK at hd;rw[p9,Uw,p9]at hd;obtain⟨d1,d2⟩:=hd;have hl:(gi.map fun g=>(lst (nI k:Int)).getD g ⟨0,0,0⟩).length=gi.length:=Uq ..;refine⟨R,_,inv,⟨jr (by omega),h0,H.g,d2,fun i hi=>?_,fun i hi=>?_⟩,H⟩
 ·rw[tz]at hi;rw[tA hi];show(gi.map fun g=>(lst (nI k:Int)).getD g ⟨0,0,0⟩).getD i ⟨0,0,0⟩∈_;have hi':i<gi.length:=by rw[<- hl];exact hi
  rw[As,UE,Fl hi'];exact ct _ (blt_i.1 (Uo.1 d1 _ (WC hi')))
 rw[tz]at hi;rw[tA hi,XH]
end Go.AM
