import Derived.Test.YtpnomhdachaifaaGreatDoorHEJ
import Derived.Test.YtpnomhdachaifaaGreatDoorHEI
import Derived.Test.YtpnomhdachaifaaGreatDoorHEF
set_option maxRecDepth 100000
namespace Go.AM
open Go Go.RowKit
theorem CP{o:Fm->Nat}{l:List Fm}{M:Nat}(h:∀ f∈l,o f<=M)(h1:1<=M):∀ k,k<=l.length->mxO o l k<=M
 |0,_=>h1
 |k+1,hk=>by
  have h2:=CP h h1 k (by omega);have h3:=h _ (ct (⟨0,0,0⟩:Fm) (show k<l.length by omega));show max (mxO o l k) (o (l.getD k ⟨0,0,0⟩))<=M;omega
theorem CQ{o:Fm->Nat}{l:List Fm}{j:Nat}:∀ k,j<k->o (l.getD j ⟨0,0,0⟩)<=mxO o l k
 |0,h=>absurd h (Vz _)
 |k+1,h=>by
  show _<=max (mxO o l k) (o (l.getD k ⟨0,0,0⟩));by_cases e:j=k
  ·subst e;omega
  have:=CQ (o:=o) (l:=l) (j:=j) k (by omega);omega
theorem Oe{o:Fm->Nat}{l:List Fm}{M:Nat}(h:∀ f∈l,o f<=M)(h1:1<=M){f:Fm}(hf:f∈l)(e:o f=M):mxO o l l.length=M:=by
 obtain⟨j,hj,rfl⟩:=Wx hf;have h2:=CP h h1 l.length (Iv _);have h3:=CQ (o:=o) (l:=l) (j:=j) l.length hj;rw[As,Fl hj]at h3;have h3:o l[j]<=mxO o l l.length:=h3;omega
theorem vC{o:Fm->Nat}{l:List Fm}:∀ k,k<=l.length->sqO o l k=((l.take k).filter fun f=>Nat.ble (o f) 2).length
 |0,_=>rfl
 |k+1,hk=>by
  have ih:=vC (o:=o) (l:=l) k (by omega);have hlt:k<l.length:=by omega
  have e:l.take (k+1)=l.take k++[l.getD k ⟨0,0,0⟩]:=by
   rw[VI,As,Fl hlt];rfl
  unfold sqO;rw[e,WM,UB,ih];by_cases q:o (l.getD k ⟨0,0,0⟩)<=2
  ·rw[H2 q,V9,H2 (Nat.ble_eq_true_of_le q)];rfl
  rw[G2 q,V9,G2 (fun x=>q (bL0 x))];rfl
section
variable {D:Int}{L:List Fm}{R:Mx}{bs:List (Fm×Nat)}(G:GrI D L R bs)
include G
theorem GrI.exs:∀ {s:Nat},s<=bs.length->(kTb D bs s).map (·.2)=bxE R s
 |0,_=>rfl
 |s+1,hs=>by
  have ih:=GrI.exs (s:=s) (by omega);have e:kTb D bs (s+1)=_:=ve (G.bgd (i:=s) (by omega)) (G.kgd (s:=s) (by omega)) (bs.getD s (⟨0,0,0⟩,0)).2;rw[e,<- G.kb (by omega),List.map_flatMap];show _=(List.range (mxg R s s).toNat).flatMap fun(j:Nat)=>(bxE R s).map fun v=>v++[(j:Int)]
  rw[<- ih]
  congr 1
  funext j
  rw[VS,VS];rfl
theorem GrI.hlen:L.length=(bxE R R.length).length:=by
 have h:=G.exs (Iv _);rw[<- G.fin.1,<- G.len,<- h,Uq]
theorem GrI.mem{q:Fm×List Int}(hq:q∈kTb D bs bs.length):q.1∈L:=by
 have h:=G.kgd (Iv _) q hq;exact(G.w.mem _).2 ⟨h.cl,h.rd⟩
theorem GrI.perm:((kTb D bs bs.length).map (·.1)).Perm L:=by
 refine(Xr (G.nod (Iv _)) G.w.nd).2 fun f=>⟨fun h=>?_,fun h=>?_⟩
 ·obtain⟨q,hq,rfl⟩:=UO.1 h;exact G.mem hq
 obtain⟨e,he⟩:=G.all h;exact UO.2 ⟨_,fW he,rfl⟩
theorem GrI.koq{q:Fm×List Int}(hq:q∈kTb D bs bs.length):koF D R bs 0 q.1=koV R R.length 0 q.2:=by
 unfold koF;rw[gV (G.nod (Iv _)) (show(q.1,q.2)∈_ from hq),G.len];rfl
theorem GrI.sq:((L.filter fun f=>Nat.ble (koF D R bs 0 f) 2)).length=((bxE R R.length).filter fun v=>Nat.ble (koV R R.length 0 v) 2).length:=by
 rw[<- (G.perm.filter _).length_eq,<- G.len,<- G.exs (Iv _),X4,X4,Uq,Uq,G.len]
 congr 1
 refine VV fun q hq=>?_
 show Nat.ble (koF D R bs 0 q.1) 2=Nat.ble (koV R R.length 0 q.2) 2;rw[G.koq (by rw[G.len];exact hq)]
theorem GrI.amb{f:Fm}(hf:f∈L):Nat.ble (koF D R bs 0 f) 2=kN f:=by
 obtain⟨a,b⟩:=(G.w.mem f).1 hf;have ho:=G.ord0 hf;have h2:pw D f 2=mlt f f:=by
  show mlt (pw D f 1) f=_;rw[vV a,b]
 have h1:=ho.iff a 2;rw[h2,AO a,b]at h1;unfold kN;have hp:=ho.o1;rw[Vg,decide_eq_true_iff,h1,Nat.ble_eq];constructor
 ·intro h;generalize koF D R bs 0 f=o at *;rcases(show o=1∨o=2 by omega)with rfl|rfl <;> decide
 intro h;exact Wf (by omega) h
theorem GrI.gen:(L.filter kN).length=((bxE R R.length).filter fun v=>Nat.ble (koV R R.length 0 v) 2).length:=by
 rw[<- G.sq]
 congr 1
 exact(VV fun f hf=>G.amb hf).symm
theorem GrI.rt1:rtW L (prP D)=L.filter kN:=by
 unfold rtW;refine VV fun x hx=>?_
 obtain⟨a,b⟩:=(G.w.mem x).1 hx;unfold kN;rw[Vg,decide_eq_true_iff,decide_eq_true_iff,jA a,AO a,b]
theorem GrI.sqL:sqO (koF D R bs 0) L L.length=(L.filter kN).length:=by
 rw[vC _ (Iv _),Vm]
 congr 1
 exact VV fun f hf=>G.amb hf
variable {inv:List Int}(H:MxH R (bxE R R.length).length inv)
include H
theorem GrI.div{f:Fm}(hf:f∈L):koF D R bs 0 f∣L.length∧lsI inv inv.length%(koF D R bs 0 f:Int)=0:=by
 obtain⟨e,he⟩:=G.all hf;have hm:=fW he;have hv:e∈bxE R R.length:=by rw[<- G.len,<- G.exs (Iv _)];exact UO.2 ⟨_,hm,rfl⟩
 have h:=H.od e hv;rw[show koF D R bs 0 f=koV R R.length 0 e from G.koq hm,G.hlen];exact⟨Xb h.1,h.2⟩
theorem GrI.mxL:lsI inv inv.length=(mxO (koF D R bs 0) L L.length:Int):=by
 obtain⟨v,hv,e⟩:=H.mx;rw[<- G.len,<- G.exs (Iv _)]at hv;obtain⟨q,hq,rfl⟩:=UO.1 hv;have hqL:=G.mem hq;have e:(koF D R bs 0 q.1:Int)=lsI inv inv.length:=by rw[G.koq hq];exact e
 have hp:=(G.ord0 hqL).o1;rw[<- e];refine Ur _ (Oe (fun f hf=>?_) hp hqL rfl).symm;have h:=(G.div H hf).2;rw[<- e]at h;have:=WJ (by omega) (Wr h);omega
theorem GrI.evL:evI inv inv.length=(L.filter kN).length:=by rw[G.gen,H.ev]
end
end Go.AM
