import Derived.Test.YthaiejfjnllglaaGreatDoorABB
import Derived.RangeFuncSeq
import Derived.RangeFuncRecord
import Derived.RangeFuncIn
import Derived.RangeFuncLeaves
set_option maxRecDepth 100000
set_option maxHeartbeats 1000000
namespace Go.AM
section
open Go Go.RowKit
structure Rest (n0:Nat) (G:Nat→Prop) (h:Hp) (W:World) (h':Hp) (W':World):Prop where
 os:W'.os=W.os
 tape:W'.tape=W.tape
 output:OutD W' W
 size:W.heap.size≤W'.heap.size
 old:∀ i,i < W.heap.size→W'.heap[i]?=W.heap[i]?∨(n0≤i∧¬ G i∧h i=none)
 hi:∀ i o,h' i=some o→W'.heap[i]?=some o
 hg:Hle h h'
 hn:∀ i,h' i≠none→h i≠none∨(n0≤i∧¬ G i)
structure Gave (G:Nat→Prop) (h:Hp) (W:World) (G':Nat→Prop) (h':Hp) (W':World):Prop where
 os:W'.os=W.os
 tape:W'.tape=W.tape
 output:OutD W' W
 size:W.heap.size≤W'.heap.size
 old:∀ i,i < W.heap.size→¬ G i→W'.heap[i]?=W.heap[i]?
 hg:Hle h h'
 hn:∀ i,h' i≠none→h i≠none∨W.heap.size≤i∨G i
 gg:∀ i,G' i→G i∨W.heap.size≤i
structure Keeps (P:Program) (l:Nat) (xs:List (List PV)) (n0:Nat) (J:Nat→Hp→(Nat→Prop)→World→Prop):Prop where
 hi:∀ k h G W,J k h G W→∀ i o,h i=some o→W.heap[i]?=some o
 g:∀ k h G W,J k h G W→∀ i,G i→i < W.heap.size∧h i=none
 rest:∀ k h G W h' W',J k h G W→Rest n0 G h W h' W'→J k h' G W'
 give:∀ k h G W x vals,xs[k]?=some x→J k h G W→PReps h x vals→YieldAt (Wd none) 0 P l vals.toArray W fun e W'=>e=.returned (.bool true)∧∃ h' G',J (k+1) h' G' W'∧Gave G h W G' h' W'
structure Iter (P:Program) (gf:FuncId) (caps:List (List DV)) (xs:List (List PV)):Prop where
 fn:o9 P gf
 go:∀ (l:Nat) (lb:Array Value) (J:Nat→Hp→(Nat→Prop)→World→Prop) (h:Hp) (G:Nat→Prop) (W:World),CapsRep h caps lb.toList→GlOK h→Keeps P l xs W.heap.size J→J 0 h G W →
  CallsIn (Wd none) 0 P gf (#[.func (.yield l) #[] #[]] ++ lb) W fun e W'=>(∃ v,e=.returned v)∧∃ h' G',J xs.length h' G' W'
def jV:fQ→List Nat→List PV→fQ
 | regs,p :: ps,x :: xs=>jV (upd regs p (.p x)) ps xs
 | regs,_,_=>regs
theorem fG {h:Hp} {r:Nat→Value}:∀ (ps:List Nat) (x:List PV) (vals:List Value) (regs:fQ) (t:Array Value),PReps h x vals→x.length=ps.length→(∀ p∈ps,p < t.size) →
  RegsOK h r regs { tmps:=t,defers:=[] } →
  RegsOK h r (jV regs ps x) { tmps:=(ps.zip vals).foldl (fun t (p,v)=>t.setIfInBounds p v) t,defers:=[] }∧((ps.zip vals).foldl (fun t (p,v)=>t.setIfInBounds p v) t).size=t.size
 | [],[],vals,regs,t,_,_,_,k=>by simp [jV];exact k
 | p :: ps,[],_,_,_,_,hl,_,_=>by simp at hl
 | [],x :: xs,_,_,_,_,hl,_,_=>by simp at hl
 | p :: ps,x :: xs,[],_,_,hv,_,_,_=>hv.elim
 | p :: ps,x :: xs,v :: vals,regs,t,hv,hl,hp,k=>by
  have k1:RegsOK h r (upd regs p (.p x)) { tmps:=t.setIfInBounds p v,defers:=[] }:=by
   intro u
   show AVRep h r (upd regs p (.p x) u) ((t.setIfInBounds p v).getD u undef)
   rw [eZ _ _ _ _ (hp p (by simp)),sW]
   by_cases e:u=p
   ·rw [if_pos e,if_pos e];exact hv.1
   rw [if_neg e,if_neg e];exact k u
  obtain ⟨g1,g2⟩:=fG ps xs vals (upd regs p (.p x)) (t.setIfInBounds p v) hv.2 (by simpa using hl) (fun q hq=>by simpa using hp q (by simp [hq])) k1
  exact ⟨g1,by rw [List.zip_cons_cons,List.foldl_cons];rw [g2];simp⟩
section round
variable {C:Ctx} {h h':Hp} {r r':Nat→Value} {own own':Own} {w w':World} {L np':Nat}
def Ctx.round (h:Hp) (r:Nat→Value) (own:Own) (w:World) (np':Nat):Ctx:=⟨w,h,fun i=>∃ m,own m≠none∧bo (r m)=some i,r,np',false⟩
theorem WOK.enter (k:WOK C h r own w):WOK (Ctx.round h r own w np') h r own w :=
 ⟨k.ow,k.inj,k.hi,k.ho,rfl,rfl,.refl _,Nat.le_refl _,fun _ _ _=>rfl,fun m _ hm e=>.inr ⟨m,hm,e⟩,.refl _,fun _ e=>.inl e,k.gl,fun _ _=>rfl,k.lk⟩
theorem WOK.leave (k:WOK C h r own w) (q:WOK (Ctx.round h r own w np') h' r' own' w') (hnp:C.np≤np'):WOK C h' r' own' w':=by
 have hF:∀ i,(Ctx.round h r own w np').F i→C.w0.heap.size≤i∨C.F i:=by
  rintro i ⟨m,hm,e⟩;exact k.fo m i hm e
 refine ⟨q.ow,q.inj,q.hi,q.ho,q.os.trans k.os,q.tape.trans k.tape,q.output.trans k.output,Nat.le_trans k.size q.size,fun i hi hf=>?_,fun m i hm e=>?_,k.hg.trans q.hg,fun i hi=>?_,q.gl,fun m hm=>?_,q.lk⟩
 ·have:=q.old i (Nat.lt_of_lt_of_le hi k.size) (fun x=>by
   rcases hF i x with g | g
   ·omega
   exact hf g)
  rw [this];exact k.old i hi hf
 ·rcases q.fo m i hm e with g | g
  ·exact .inl (Nat.le_trans k.size g)
  exact hF i g
 ·rcases q.hn i hi with g | g | g
  ·exact k.hn i g
  ·exact .inr (.inl (Nat.le_trans k.size g))
  exact .inr (hF i g)
 rw [q.kp m (Nat.lt_of_lt_of_le hm hnp)];exact k.kp m hm
theorem WOK.putL {o:Obj} (k:WOK C h r own w) (hL:∀ m,own m≠none→bo (r m)≠some L) (hh:h L=none) (hs:C.w0.heap.size≤L):WOK C h r own (w.putObj L o):=by
 have old:∀ i,i≠L→(w.putObj L o).heap[i]?=w.heap[i]?:=fun i hi=>ce hi
 refine ⟨fun m b e=>(k.ow m b e).world fun i hi=>old i fun x=>hL m (by rw [e];simp) (by rw [hi,x]),k.inj,fun i o' e=>?_,k.ho,k.os,k.tape,k.output,by rw [bP];exact k.size,fun i hi hf=>?_,k.fo,k.hg,k.hn,k.gl,k.kp,fun m b j e hj=>?_⟩
 ·rw [old i fun x=>by subst x;rw [hh] at e;cases e];exact k.hi i o' e
 ·rw [old i (by omega)];exact k.old i hi hf
 obtain ⟨q,t,h1,h2⟩:=k.lk m b j e hj
 refine ⟨q,t,h1,?_⟩
 rw [old q fun x=>hL m (by rw [e];simp) (by rw [h1,x];rfl)];exact h2
theorem WOK.rec_left (hL0:∀ m,own m≠none→bo (r m)≠some L) (q:WOK (Ctx.round h r own w np') h' r' own' w') {o:Obj} (hL:w.heap[L]?=some o) (hh:h L=none):w'.heap[L]?=some o∧h' L=none∧∀ m,own' m≠none→bo (r' m)≠some L:=by
 have hlt:L < w.heap.size:=(Array.getElem?_eq_some_iff.1 hL).1
 have hF:¬ (Ctx.round h r own w np').F L:=by rintro ⟨m,hm,e⟩;exact hL0 m hm e
 refine ⟨?_,?_,fun m hm e=>?_⟩
 ·rw [q.old L hlt hF];exact hL
 ·cases e:h' L with
  | none=>rfl
  | some o' =>
   rcases q.hn L (by rw [e];simp) with g | g | g
   ·exact absurd hh g
   ·have:w.heap.size≤L:=g;omega
   exact absurd g hF
 rcases q.fo m L hm e with g | g
 ·have:w.heap.size≤L:=g;omega
 exact hF g
theorem WOK.rest (k:WOK C h r own w) {n0:Nat} {G:Nat→Prop} (q:Rest n0 G h w h' w') (hG:∀ m i,own m≠none→bo (r m)=some i→G i) (h0:C.w0.heap.size≤n0):WOK C h' r own w':=by
 have same:∀ m i,own m≠none→bo (r m)=some i→w'.heap[i]?=w.heap[i]?:=fun m i hm e=>by
  rcases q.old i (k.lt hm e) with g | ⟨_,g,_⟩
  ·exact g
  exact absurd (hG m i hm e) g
 refine ⟨fun m b e=>((k.ow m b e).mono q.hg).world fun i hi=>same m i (by rw [e];simp) hi,k.inj,q.hi,fun m i hm e=>?_,q.os.trans k.os,q.tape.trans k.tape,q.output.trans k.output,Nat.le_trans k.size q.size,fun i hi hf=>?_,k.fo,k.hg.trans q.hg,fun i hi=>?_,k.gl.mono q.hg,k.kp,fun m b j e hj=>?_⟩
 ·cases hh:h' i with
  | none=>rfl
  | some o =>
   rcases q.hn i (by rw [hh];simp) with g | g
   ·exact absurd (k.ho m i hm e) g
   exact absurd (hG m i hm e) g.2
 ·rcases q.old i (Nat.lt_of_lt_of_le hi k.size) with g | ⟨g,_,_⟩
  ·rw [g];exact k.old i hi hf
  omega
 ·rcases q.hn i hi with g | g
  ·exact k.hn i g
  exact .inr (.inl (Nat.le_trans h0 g.1))
 obtain ⟨q1,t,h1,h2⟩:=k.lk m b j e hj
 exact ⟨q1,t,h1,by rw [same m q1 (by rw [e];simp) (by rw [h1];rfl)];exact h2⟩
end round
def GW (np':Nat) (o o':Own):Prop:=∀ (C:Ctx) (h:Hp) (r:Nat→Value) (w:World),C.np≤np'→WOK C h r o w →
 ∃ r2,(∀ m,m < np'→r2 m=r m)∧WOK C h r2 o' w∧∀ m i,o' m≠none→bo (r2 m)=some i→∃ m2,o m2≠none∧bo (r m2)=some i
theorem GW.forget {np':Nat} {o o':Own} (e:∀ m,o' m=o m∨o' m=none):GW np' o o':=fun C h r w _ k =>
 ⟨r,fun _ _=>rfl,k.forget e,fun m i hm hi=>⟨m,by
  rcases e m with g | g
  ·rw [← g];exact hm
  exact absurd g hm,hi⟩⟩
def qH (np':Nat) (l:List (Nat × AV)):Bool:=l.all fun p=>(men p.2).all fun m=>Nat.blt m np'
theorem kw {np':Nat}:∀ {l:List (Nat × AV)},qH np' l=true→∀ t,∀ m∈men (cp l t),m < np'
 | [],_,t,m,hm=>by simp [cp,men] at hm
 | (k,v) :: l,h,t,m,hm=>by
  unfold qH at h
  rw [List.all_cons,Bool.and_eq_true] at h
  simp only [cp,sW] at hm
  by_cases e:t=k
  ·rw [if_pos e] at hm
   have:=List.all_eq_true.1 h.1 m hm
   simpa using this
  rw [if_neg e] at hm
  exact kw (l:=l) h.2 t m hm
theorem l9 {C:Ctx} {h:Hp} {D:Nat} (hD:h D=none):∀ {ds:List Deferred},Marks C h ds→∀ x∈ds,x.target≠.collected D
 | [],_,x,hx=>by simp at hx
 | d :: ds,⟨_,⟨D',h1,_,_,h4,_⟩,k⟩,x,hx=>by
  rcases List.mem_cons.1 hx with rfl | hx
  ·intro e
   rw [h1] at e
   have:D'=D:=by simpa using e
   subst this;rw [hD] at h4;cases h4
  exact l9 hD k x hx
theorem AX {P:Program} {N np:Nat} {Q:Exit→St→Prop} {l:List (Nat × AV)} {g:Operand} {ps:Array Tmp} {assign body:Code} {gf:FuncId} {caps:List (List DV)} {xs:List (List PV)} (np':Nat) (own:Nat→Own)
  (hg:ev (cp l) g=.fn gf caps) (hit:Iter P gf caps xs) (hps:∀ x∈xs,x.length=ps.toList.length)
  (hfix:qH np' l=true) (hnp:Nat.ble np np'=true) (hpN:(ps.toList.all fun p=>Nat.blt p N)=true)
  (hround:∀ (k:Nat) (x:List PV),xs[k]?=some x→AWp P true N np' assign (j7 (AWp P true N np' body (fun e s'=>e=.normal∧GW np' s'.own (own (k+1)))) (fun _ _=>False)) ⟨jV (cp l) ps.toList x,own k⟩)
  (hdone:Q .normal ⟨cp l,own xs.length⟩):AWp P false N np (.rangeFunc g ps assign body) Q ⟨cp l,own 0⟩:=by
 intro ro hB C hh r a w hn hc
 have hro:ro=none:=hB rfl
 subst hro
 have hnp':=bL0 hnp
 have hmar:C.mar=true:=hn.2
 refine wpIn_rangeFunc ?_
 intro fn _
 have hgv:=dN hc.rg g
 rw [hg] at hgv
 obtain ⟨lb,hval,hcaps⟩:=hgv
 obtain ⟨rec,hrec⟩:∃ rec:LoopState→Option Code→Loop,rec=fun st pe=>{ state:=st,pending:=pe,fn,tmps:=a.tmps,params:=ps,assign,body,defers:=w.heap.size }:=⟨_,rfl⟩
 obtain ⟨W1,hW1⟩:∃ W1,(w.alloc (.deferred (some []))).alloc (.loop (rec .ready none))=W1:=⟨_,rfl⟩
 obtain ⟨hw1,hle1⟩:=hc.wk.imm (.deferred (some []))
 obtain ⟨h1,hh1⟩:∃ h1:Hp,h1=fun i=>if i=w.heap.size then some (.deferred (some [])) else hh i:=⟨_,rfl⟩
 rw [← hh1] at hw1 hle1
 have hs1:W1.heap.size=w.heap.size+2:=by rw [← hW1];simp
 have hold1:∀ i,i < (w.alloc (.deferred (some []))).heap.size→W1.heap[i]?=(w.alloc (.deferred (some []))).heap[i]?:=fun i hi=>by
  rw [← hW1,bV,if_neg (by omega)]
 have hw2:WOK C h1 r (own 0) W1:=hw1.beside (by rw [← hW1];rfl) (by rw [← hW1];rfl) (by rw [← hW1];exact ⟨rfl,Nat.le_refl _⟩) (by rw [hs1];simp) hold1
 have hL1:W1.heap[w.heap.size+1]?=some (.loop (rec .ready none)):=by
  rw [← hW1,bV,if_pos (by simp)]
 have hD0:hh w.heap.size=none:=by
  cases e:hh w.heap.size with
  | none=>rfl
  | some o=>have:=hc.wk.hlt e;omega
 have hhL:h1 (w.heap.size+1)=none:=by
  rw [hh1]
  show (if w.heap.size+1=w.heap.size then _ else hh (w.heap.size+1))=none
  rw [if_neg (by omega)]
  cases e:hh (w.heap.size+1) with
  | none=>rfl
  | some o=>have:=hc.wk.hlt e;omega
 have hnoL:∀ m,own 0 m≠none→bo (r m)≠some (w.heap.size+1):=fun m hm e=>by
  have:=hc.wk.lt hm e;omega
 have hD1:h1 w.heap.size=some (.deferred (some [])):=by rw [hh1];exact if_pos rfl
 generalize hLL:w.heap.size+1=L at *
 have hCL:C.w0.heap.size≤L:=by have:=hc.wk.size;omega
 refine ⟨L,[{ target:=.collected w.heap.size,args:=#[] }],W1,{ target:=.fn (.func gf) lb,args:=#[.func (.yield L) #[] #[]] },W1,gf,#[.func (.yield L) #[] #[]] ++ lb,W1,?_,?_,fun _ _=>trivial,?_,fun e=>by simp [Wd] at e,?_⟩
 ·rw [← hW1,hrec,← hLL];exact run_enterLoop_outer _ _ _ _ _
 ·simp only [resolve,hval]
  simp [go_sem]
 ·have eg:∀ args w,(callFunc gf args).run P w=.ok (.enter gf args) w:=fun args w=>cL hit.fn args w
  simp [invoke,go_sem,eg]
 have hmen:=kw hfix
 obtain ⟨J,hJ⟩:∃ J:Nat→Hp→(Nat→Prop)→World→Prop,J=fun k h G W=>∃ r',(∀ m,m < np'→r' m=r m)∧WOK C h r' (own k) W∧W.heap[L]?=some (.loop (rec .ready none))∧h L=none∧(∀ m,own k m≠none→bo (r' m)≠some L)∧Hle h1 h ∧
   G=fun i=>i=L∨∃ m,own k m≠none∧bo (r' m)=some i:=⟨_,rfl⟩
 have hrg:∀ h r',Hle h1 h→(∀ m,m < np'→r' m=r m)→RegsOK h r' (cp l) a:=fun h r' hl hr t =>
  AVRep.rebind _ _ (fun m hm=>hr m (hmen t m hm)) (AVRep.mono (hle1.trans hl) _ _ (hc.rg t))
 refine CallsIn.mono (hit.go L lb J h1 (fun i=>i=L∨∃ m,own 0 m≠none∧bo (r m)=some i) W1 (hcaps.mono hle1) hw2.gl ⟨?_,?_,?_,?_⟩ ?_) ?_
 ·intro k h G W hk
  rw [hJ] at hk
  obtain ⟨r',_,q,_⟩:=hk
  exact q.hi
 ·intro k h G W hk i hi
  rw [hJ] at hk
  obtain ⟨r',e1,e2,e3,e4,e5,e6,rfl⟩:=hk
  rcases hi with rfl | ⟨m,hm,e⟩
  ·exact ⟨(Array.getElem?_eq_some_iff.1 e3).1,e4⟩
  exact ⟨e2.lt hm e,e2.ho m i hm e⟩
 ·intro k h G W h' W' hk q
  rw [hJ] at hk ⊢
  obtain ⟨r',e1,e2,e3,e4,e5,e6,rfl⟩:=hk
  have hlt:L < W.heap.size:=(Array.getElem?_eq_some_iff.1 e3).1
  refine ⟨r',e1,e2.rest q (fun m i hm e=>.inr ⟨m,hm,e⟩) (Nat.le_trans hw2.size (Nat.le_refl _)),?_,?_,e5,e6.trans q.hg,rfl⟩
  ·rcases q.old L hlt with g | ⟨_,g,_⟩
   ·rw [g];exact e3
   exact absurd (.inl rfl) g
  cases e:h' L with
  | none=>rfl
  | some o =>
   rcases q.hn L (by rw [e];simp) with g | g
   ·exact absurd e4 g
   exact absurd (.inl rfl) g.2
 ·intro k h G W x vals hx hk hv
  rw [hJ] at hk
  obtain ⟨r',e1,e2,e3,e4,e5,e6,rfl⟩:=hk
  have hlen:x.length=ps.toList.length:=hps x (List.mem_of_getElem? hx)
  have hvl:vals.length=x.length:=by
   have:∀ (ps:List PV) (vs:List Value),PReps h ps vs→vs.length=ps.length:=by
    intro ps
    induction ps with
    | nil=>intro vs k;cases vs with
     | nil=>rfl
     | cons _ _=>exact k.elim
    | cons p ps ih=>intro vs k;cases vs with
     | nil=>exact k.elim
     | cons v vs=>simp [ih vs k.2]
   exact this _ _ hv
  have hsz:vals.toArray.size=(rec .ready none).params.size:=by
   rw [hrec]
   show vals.length=ps.size
   rw [hvl,hlen];simp
  refine ⟨_,_,_,_,run_yield e3 hsz,roundIn_of_wpIn trivial ?_⟩
  rw [hrec]
  show assign.wpIn (Wd (some L)) 0 P _ { tmps:=(ps.zip vals.toArray).foldl (fun t (p,v)=>t.setIfInBounds p v) a.tmps,defers:=[] } W
  have hzip:(ps.zip vals.toArray).foldl (fun t (p,v)=>t.setIfInBounds p v) a.tmps=(ps.toList.zip vals).foldl (fun t (p,v)=>t.setIfInBounds p v) a.tmps:=by
   rw [← Array.foldl_toList,Array.toList_zip]
  rw [hzip]
  obtain ⟨f1,f2⟩:=fG (r:=r') ps.toList x vals (cp l) a.tmps hv hlen (fun p hp=>by
   have:=List.all_eq_true.1 hpN p hp
   rw [hc.sz];simpa using this) (fun t=>hrg h r' e6 e1 t)
  refine wpIn_mono (hround k x hx (some L) (fun e=>by cases e) (Ctx.round h r' (own k) W np') h r' _ W ⟨rfl,rfl⟩ ⟨f2.trans hc.sz,trivial,f1,e2.enter⟩) ?_
  rintro e a1 w1 ⟨s1,h2,r2,q1,c1⟩
  cases e with
  | normal =>
   have hwk1:=e2.leave c1.wk (Nat.le_trans (Nat.le_of_eq hn.1) hnp')
   obtain ⟨g1,g2,g3⟩:=WOK.rec_left e5 c1.wk e3 e4
   have hd1:a1.defers=[]:=by
    have:=c1.df
    cases hd:a1.defers with
    | nil=>rfl
    | cons d ds=>rw [hd] at this;cases this.1
   have hw3:=hwk1.putL (o:=.loop { rec .ready none with state:=.busy }) g3 g2 hCL
   have hLw:L < w1.heap.size:=(Array.getElem?_eq_some_iff.1 g1).1
   have hLb:(w1.putObj L (.loop { rec .ready none with state:=.busy })).heap[L]?=some (.loop { rec .ready none with state:=.busy }):=World.putObj_heap_same hLw
   refine ⟨_,run_beginRound g1 (by rw [hrec]),?_⟩
   refine wpIn_mono (q1 (some L) (fun e=>by cases e) (Ctx.round h2 r2 s1.own _ np') h2 r2 a1 _ ⟨rfl,rfl⟩ ⟨c1.sz,by rw [hd1];trivial,c1.rg,hw3.enter⟩) ?_
   rintro e a2 w2 ⟨s2,h3,r3,⟨rfl,q2⟩,c2⟩
   have hwk2:=hw3.leave c2.wk (Nat.le_trans (Nat.le_of_eq hn.1) hnp')
   obtain ⟨k1,k2,k3⟩:=WOK.rec_left g3 c2.wk hLb g2
   obtain ⟨r4,q3,hwk3,q4⟩:=q2 C h3 r3 w2 (Nat.le_trans (Nat.le_of_eq hn.1) hnp') hwk2
   have k3':∀ m,own (k+1) m≠none→bo (r4 m)≠some L:=fun m hm e=>by
    obtain ⟨m2,g1,g2⟩:=q4 m L hm e
    exact k3 m2 g1 g2
   have F2:∀ i,(Ctx.round h2 r2 s1.own (w1.putObj L (.loop { rec .ready none with state:=.busy })) np').F i→W.heap.size≤i∨∃ m,own k m≠none∧bo (r' m)=some i:=by
    rintro i ⟨m,hm,e⟩;exact c1.wk.fo m i hm e
   have sz1:W.heap.size≤w1.heap.size:=c1.wk.size
   have sz2:w1.heap.size≤w2.heap.size:=by have:(w1.putObj L _).heap.size≤w2.heap.size:=c2.wk.size;rwa [bP] at this
   refine ⟨_,_,run_endRound none k1,rfl,h3,fun i=>i=L∨∃ m,own (k+1) m≠none∧bo (r4 m)=some i,?_,?_⟩
   ·rw [hJ]
    refine ⟨r4,fun m hm=>?_,hwk3.putL k3' k2 hCL,?_,k2,k3',e6.trans (c1.wk.hg.trans c2.wk.hg),rfl⟩
    ·rw [q3 m hm,c2.wk.kp m hm]
     show r2 m=r m
     rw [c1.wk.kp m hm]
     exact e1 m hm
    rw [World.putObj_heap_same (Array.getElem?_eq_some_iff.1 k1).1,hrec];rfl
   refine ⟨c2.wk.os.trans c1.wk.os,c2.wk.tape.trans c1.wk.tape,c2.wk.output.trans c1.wk.output,by rw [bP];omega,fun i hi hg=>?_,c1.wk.hg.trans c2.wk.hg,fun i hi=>?_,fun i hi=>?_⟩
   ·have hiL:i≠L:=fun x=>hg (.inl x)
    rw [ce hiL,c2.wk.old i (by rw [show (Ctx.round h2 r2 s1.own (w1.putObj L (.loop { rec .ready none with state:=.busy })) np').w0.heap.size=w1.heap.size from bP _ _ _];omega) (fun x=>by
     rcases F2 i x with g | g
     ·omega
     exact hg (.inr g))]
    show (w1.putObj L _).heap[i]?=_
    rw [ce hiL]
    exact c1.wk.old i hi (fun x=>hg (.inr x))
   ·rcases c2.wk.hn i hi with g | g | g
    ·rcases c1.wk.hn i g with g | g | g
     ·exact .inl g
     ·exact .inr (.inl g)
     exact .inr (.inr (.inr g))
    ·have g':(w1.putObj L (.loop { rec .ready none with state:=.busy })).heap.size≤i:=g
     rw [bP] at g'
     exact .inr (.inl (by omega))
    rcases F2 i g with g | g
    ·exact .inr (.inl g)
    exact .inr (.inr (.inr g))
   rcases hi with rfl | ⟨m,hm,e⟩
   ·exact .inl (.inl rfl)
   obtain ⟨m2,g1,g2⟩:=q4 m i hm e
   rcases c2.wk.fo m2 i g1 g2 with g | g
   ·have g':(w1.putObj L (.loop { rec .ready none with state:=.busy })).heap.size≤i:=g
    rw [bP] at g'
    exact .inr (by omega)
   rcases F2 i g with g | g
   ·exact .inr g
   exact .inl (.inr g)
  | _=>exact q1.elim
 ·rw [hJ]
  exact ⟨r,fun _ _=>rfl,hw2,hL1,hhL,hnoL,.refl _,rfl⟩
 rintro e W3 ⟨⟨v,rfl⟩,h',G',hk⟩
 rw [hJ] at hk
 obtain ⟨r',e1,e2,e3,e4,e5,e6,_⟩:=hk
 refine ⟨none,_,by have:=run_endLoop (P:=P) e3 (by rw [hrec];simp);rw [hrec] at this;exact this,?_⟩
 refine ⟨⟨cp l,own xs.length⟩,h',r',hdone,hc.sz,?_,fun t=>hrg h' r' e6 e1 t,e2.putL e5 e4 hCL⟩
 refine ⟨hmar,⟨w.heap.size,rfl,hc.wk.size,?_,e6 _ _ hD1,l9 hD0 hc.df⟩,hc.df.mono (hle1.trans e6)⟩
 cases e:C.h0 w.heap.size with
 | none=>rfl
 | some o=>have:=hc.wk.hg _ _ e;rw [hD0] at this;cases this
end
section
open Go Go.RowKit
section ops
variable {P:Program} {tt:TT} (hT:dW P tt)
variable {dst:Option Nat} {ty:TypeId} {pos:String} {af:Array Edge} {gd:Option (Nat × Bool)} {d:Nat} {ρ:Operand→AV} {own:Own}
variable {T:TypeId} {i:TyI} {x y:Operand}
theorem ou {f:FuncId} {c:Operand} {xs:List DV} (hx:ρ c=.ip xs):Eff P ⟨dst,.makeFunc (.func f) #[] #[c],ty,pos,af,gd⟩ d ρ own (.fn f [xs]) [] none [] :=
 bE fun C h r own' a w hrep hrd hw=>by
  have e1:=hrep c (by simp [Op.operands])
  rw [hx] at e1
  refine ⟨.func (.func f) #[] #[a.eval c],?_,#[a.eval c],rfl,e1,trivial⟩
  simp [execOp,Instr.makeFunc]
theorem Ag {h:Hp} {r:Nat→Value} {f:FuncId} {v:Value} (e:AVRep h r (.p (.c (.v (.func (.func f) #[] #[])))) v):v=.func (.func f) #[] #[]:=by
 simp only [AVRep,PRep,DRep] at e
 exact e.1
theorem Eff.callF {f:FuncId} {c:Operand} {args:Array Operand} {tys:Array TypeId} {res:AV} (hx:ρ c=.p (.c (.v (.func (.func f) #[] #[])))) (hc:aJ P f (args.toList.map ρ) res) :
  Eff P ⟨dst,.call ⟨.value c,args,tys⟩,ty,pos,af,gd⟩ d ρ own res [] none []:=by
 intro C h r own' a w K Q hrep hrd hw _ hK
 have e1:=hrep c (by simp [Op.operands,Call.operands])
 rw [hx] at e1
 have e2:=Ag e1
 unfold Oper.wp
 have hrun:(execOp a.eval ⟨dst,.call ⟨.value c,args,tys⟩,ty,pos,af,gd⟩).run P w=.ok (.enter f (args.map a.eval)) w:=by
  simp only [execOp,resolve,Sem.run_bind,e2,Deferred.ofValue,Sem.run_pure,Result.andThen_ok,invoke,Array.empty_append,Array.append_empty]
  exact cL hc.fn _ w
 rw [hrun]
 refine Calls.mono (hc.go h r w (args.map a.eval) ?_ (hw.before fun m hm=>absurd rfl hm)) ?_
 ·rw [Array.toList_map]
  exact dF _ fun x hx=>hrep x (by simp only [Op.operands,Call.operands];exact Array.mem_append.2 (.inr (Array.mem_toList_iff.1 hx)))
 rintro e w' ⟨v,h',rfl,hv,hq⟩
 exact hK v h' r w' hq.hg (fun _ _=>rfl) hv (hw.after (fun m hm=>absurd rfl hm) hq (fun m=>by simp [gA,dl]) (fun m b hm=>absurd rfl hm))
include hT in
theorem mS (ht:tt T=some i) (hu:(P.info? T).bind (·.zero)=some (.slice none 0 0)):Eff P ⟨dst,.alloc T,ty,pos,af,gd⟩ d ρ own (.loc d 0) [] (some ⟨false,1,T,[.v (.slice none 0 0)]⟩) []:=by
 intro C h r own' a w K Q hrep _ hw hal hK
 obtain ⟨ti,g1,g2,g3,z,g4,g5,g6,g7⟩:=(hT T i ht).info
 have hzz:z=.slice none 0 0:=by
  rw [g1] at hu
  simp only [Option.bind_some,g4,Option.some.injEq] at hu
  exact hu
 subst hzz
 refine gI (hal (by simp)) hw (x:=.pointer (some ⟨w.heap.size,0,none⟩)) (c:=#[.slice none 0 0]) ?_ ?_ ?_ ?_ hK
 ·intro k hk;simp [bo] at hk;exact hk.symm
 ·refine ⟨w.heap.size,#[.slice none 0 0],rfl,by rw [bV,if_pos rfl],rfl,?_⟩
  simp only [DReps,DRep]
  exact ⟨⟨_,rfl,rfl,rfl⟩,trivial⟩
 ·intro h r' hr;exact ⟨w.heap.size,by rw [hr];rfl,rfl⟩
 have hz1:(zeroValue T).run P w=.ok (.slice none 0 0) w:=by simp [zeroValue,typeInfo,g1,g4]
 simp only [execOp,Instr.alloc,newVar,newRow,Sem.run_bind,hz1,run_newObj,Result.andThen_ok,Sem.run_pure];rfl
include hT in
theorem hZ {m j:Nat} {b:Blk} (ht:tt T=some i) (hg:i.sh.agg=false) (hx:ρ x=.loc m 0) (hb:own m=some b) (hj:lnk b=[j]) :
  Eff P ⟨dst,.load T x,ty,pos,af,gd⟩ d ρ own (.vec j) [] none [m] :=
 bE fun C h r own' a w hrep hrd hw=>by
  have e1:=hrep x (by simp [Op.operands])
  rw [hx] at e1
  obtain ⟨k,h1,h2⟩:=e1
  obtain ⟨q,t,h3,h4⟩:=hw.lk m b j ((hrd m (by simp)).trans hb) (by rw [hj];simp)
  rw [h3] at h1
  simp only [bo,Option.some.injEq] at h1
  subst h1
  refine ⟨r j,?_,rfl⟩
  have hc:w.cell? ⟨q,0,none⟩=some (r j):=by simp [World.cell?,h4]
  simp only [execOp,h2,Sem.run_bind,iQ,loadVar,(hT T i ht).isAgg,hg,Result.andThen_ok,Bool.false_eq_true,if_false,run_load,hc,Sem.run_pure]
include hT in
theorem l6 {m j n z:Nat} {e:TypeId} {dv:DV} {b:Blk} (ht:tt T=some i) (hsz:i.size=1) (hx:ρ x=.loc m 0) (hy:ρ y=.vec j) (hb:own m=some ⟨false,z,e,[dv]⟩) (hbj:own j=some b) (hbv:b.vec=true) (hn:n*b.sz=b.cs.length) (hs0:0 < b.sz) :
  Eff P ⟨none,.store T x y,ty,pos,af,gd⟩ d ρ own .junk [(m,some ⟨false,j+2,e,[.sl n []]⟩)] none [m,j]:=by
 intro C h r own' a w K Q hrep hrd hw _ hK
 have hb':=(hrd m (by simp)).trans hb
 have hj':=(hrd j (by simp)).trans hbj
 have e1:=hrep x (by simp [Op.operands])
 have e2:=hrep y (by simp [Op.operands])
 rw [hx] at e1;rw [hy] at e2
 obtain ⟨k,h1,h2,c,h3,h4,h5⟩:=mO hw hb' e1
 have e2':a.eval y=r j:=e2
 have hbr:=hw.ow j b hj'
 unfold BlkRep at hbr
 rw [hbv] at hbr
 obtain ⟨ad,l,cap,q1,q2,q3,q4,q5⟩:=hbr
 have hl:l=n:=Nat.eq_of_mul_eq_mul_right hs0 (q2.trans hn.symm)
 subst hl
 have hcells:(a.eval y).cells=#[r j]:=by rw [e2',q1];rfl
 have hone:(r j).oneCell'=true:=by rw [q1];rfl
 have hbx:=hw.ow m _ hb'
 unfold BlkRep at hbx
 simp only at hbx
 obtain ⟨k0,c0,p1,p2,p3,p4⟩:=hbx
 rw [p1] at h2;simp only [bo,Option.some.injEq] at h2;subst h2
 rw [p2] at h3
 have hcc:c0=c:=by simpa using h3
 subst hcc
 have hsize:c0.size=1:=p3
 obtain ⟨w',c',k1,k2,k3,k4,k5⟩:=dG P k0 e [r j] 0 0 w c0 p2 (by simp;omega) (by simpa using hone)
 have hc':c'=#[r j]:=by
  have h0:=k5 0
  simp at h0
  apply Array.ext (by simp;omega)
  intro q hq1 hq2
  have:q=0:=by omega
  subst this
  rw [Array.getElem?_eq_getElem (by omega)] at h0
  simpa using h0
 have hrun:(execOp a.eval ⟨none,.store T x y,ty,pos,af,gd⟩).run P w=.ok .skip w':=by
  have hs:¬ ((a.eval y).cells.size≠i.size):=by rw [hcells,hsz];simp
  simp only [execOp,h1,Instr.storeAt,Instr.sureAddr,storeVar,Sem.run_bind,Sem.run_pure,(hT T i ht).size,Result.andThen_ok,hs,if_false]
  rw [hcells]
  simp only [Result.andThen_ok,k1]
 unfold Oper.wp
 rw [hrun]
 refine hK undef h r w' (.refl _) (fun _ _=>rfl) trivial (hw.write (by rw [hb'];simp) (by rw [p1];rfl) k2 (b:=⟨false,j+2,e,[.sl l []]⟩) ?_ ?_)
 ·refine ⟨k0,c',p1,k3,by rw [hc'];rfl,?_⟩
  rw [hc']
  simp only [DReps,DRep]
  exact ⟨⟨r j,rfl,ad,cap,q1,q3,q4,.inl trivial⟩,trivial⟩
 intro j' hj
 have:j'=j:=by simpa [lnk] using hj
 subst this
 exact ⟨k0,e,p1,by rw [k3,hc']⟩
include hT in
theorem mz {g e l:Nat} {vs:List Value} {j:TyI} {k:IntKind} {n:Int} (ht:tt T=some i) (hs:i.sh=.ar l e) (he:tt e=some j) (hj:j.size=1) (hgl:(g,vs)∈yp) (hone:(vs.all Value.oneCell')=true) (hy:ρ y=.p (.c (.v (.int k n)))) (hn:0≤n∧n < l) :
  Eff P ⟨dst,.indexAddr T (.global g) y,ty,pos,af,gd⟩ d ρ own (.ip ((vs.drop n.toNat).map .v)) [] none [] :=
 bE fun C h r own' a w hrep hrd hw=>by
  have e2:=hrep y (by simp [Op.operands])
  rw [hy] at e2
  obtain ⟨c,t,fr,h1,h2⟩:=hw.gl _ hgl
  refine ⟨.pointer (some ⟨g,0+n.toNat*j.size,none⟩),?_,g,_,c,t,fr,rfl,h1,?_⟩
  ·have hu:=(hT T i ht).array hs
   have hgv:a.eval (.global g)=.pointer (some ⟨g,0,none⟩):=rfl
   simp only [execOp,hgv,b7 e2,Instr.indexAt,asIntOf,Sem.run_bind,Sem.run_pure,Result.andThen_ok,run_underlying hu,Instr.sureAddr,hn,and_self,if_true,(hT e j he).size,Addr.add_lit]
  rw [DReps.iff]
  intro p dv hp
  rw [List.getElem?_map,List.getElem?_drop] at hp
  cases hv:vs[n.toNat+p]? with
  | none=>rw [hv] at hp;cases hp
  | some v =>
   rw [hv] at hp
   cases hp
   refine ⟨v,?_,?_⟩
   ·have e3:0+n.toNat*j.size+p=n.toNat+p:=by rw [hj];omega
    show c[0+n.toNat*j.size+p]?=some v
    rw [e3];exact h2 _ _ hv
   simp only [DRep,true_and]
   exact List.all_eq_true.1 hone v (List.mem_of_getElem? hv)
end ops
section ghost
variable {P:Program} {B:Bool} {N np:Nat} {Q:Exit→St→Prop} {s:St} {c:Code}
theorem cT {t m z:Nat} {e:TypeId} {cs:List DV} (ht:s.regs t=.loc m 0) (hb:s.own m=some ⟨false,z,e,cs⟩) (h:AWp P B N np c Q ⟨upd s.regs t (.ip cs),upd s.own m none⟩):AWp P B N np c Q s:=by
 intro ro hB C hh r a w hn hc
 have hold:=hc.wk.ow m _ hb
 unfold BlkRep at hold
 simp only at hold
 obtain ⟨k,cc,q1,q2,q3,q4⟩:=hold
 obtain ⟨f1,f2⟩:=hc.wk.freeze (m:=m) (i:=k) (by rw [hb];simp) (by rw [q1];rfl) q2
 refine h ro hB C _ r a w hn ⟨hc.sz,hc.df.mono f2,fun t'=>?_,f1⟩
 show AVRep _ _ (upd s.regs t _ t') _
 by_cases e':t'=t
 ·subst e'
  rw [upd_same]
  have hx:=hc.rg t'
  rw [ht] at hx
  obtain ⟨k',g1,g2⟩:=hx
  rw [q1] at g1;simp only [bo,Option.some.injEq] at g1;subst g1
  exact ⟨k,0,cc,e,(0,0),g2,if_pos rfl,by simpa using DReps.mono f2 _ _ q4⟩
 rw [aR _ _ _ _ e'];exact AVRep.mono f2 _ _ (hc.rg t')
theorem WOK.relink {C:Ctx} {h:Hp} {r:Nat→Value} {own:Own} {w:World} (k:WOK C h r own w) {m z j n:Nat} {e:TypeId} {cs:List DV} (hb:own m=some ⟨false,z,e,cs⟩) (hc:∃ q t,r m=.pointer (some ⟨q,0,none⟩)∧w.heap[q]?=some (.cells #[r j] t (0,0)))
  (hr:DReps h [DV.sl n []] fun i=>(#[r j])[i]?):WOK C h r (upd own m (some ⟨false,j+2,e,[.sl n []]⟩)) w:=by
 have live:∀ p,upd own m (some ⟨false,j+2,e,[.sl n []]⟩) p≠none→own p≠none:=fun p hp=>by
  by_cases h1:p=m
  ·subst h1;rw [hb];simp
  rwa [aR _ _ _ _ h1] at hp
 refine ⟨fun p b hp=>?_,fun p q i hp hq=>k.inj p q i (live p hp) (live q hq),k.hi,fun p i hp=>k.ho p i (live p hp),k.os,k.tape,k.output,k.size,k.old,fun p i hp=>k.fo p i (live p hp),k.hg,k.hn,k.gl,k.kp,fun p b j' hp hj=>?_⟩
 ·by_cases h1:p=m
  ·subst h1;rw [upd_same] at hp;cases hp
   have hold:=k.ow p _ hb
   unfold BlkRep at hold ⊢
   simp only at hold ⊢
   obtain ⟨k0,c0,p1,p2,p3,p4⟩:=hold
   obtain ⟨q,t,g1,g2⟩:=hc
   rw [p1] at g1
   have:k0=q:=by simpa using g1
   subst this
   rw [p2] at g2
   have e2:c0=#[r j]:=by simp only [Option.some.injEq,Obj.cells.injEq] at g2;exact g2.1
   subst e2
   exact ⟨k0,_,p1,p2,rfl,hr⟩
  rw [aR _ _ _ _ h1] at hp;exact k.ow p b hp
 by_cases h1:p=m
 ·subst h1;rw [upd_same] at hp;cases hp
  have:j'=j:=by simpa [lnk] using hj
  subst this
  exact hc
 rw [aR _ _ _ _ h1] at hp;exact k.lk p b j' hp hj
theorem WOK.newNil {C:Ctx} {h:Hp} {r:Nat→Value} {own:Own} {w:World} (k:WOK C h r own w) {j sz:Nat} {be:TypeId} (hd:own j=none) (hp:C.np≤j) (hl:∀ m b,own m=some b→j ∉ lnk b):WOK C h (upd r j (.slice none 0 0)) (upd own j (some ⟨true,sz,be,[]⟩)) w:=by
 have live:∀ n,n≠j→upd own j (some (⟨true,sz,be,[]⟩:Blk)) n≠none→own n≠none:=fun n h1 hn=>by rwa [aR _ _ _ _ h1] at hn
 have nb:∀ i,bo (upd r j (.slice none 0 0) j)=some i→False:=fun i e=>by rw [upd_same] at e;cases e
 refine ⟨fun m b e=>?_,fun m n i hm hn e f=>?_,k.hi,fun m i hm e=>?_,k.os,k.tape,k.output,k.size,k.old,fun m i hm e=>?_,k.hg,k.hn,k.gl,fun m hm=>?_,fun m b j' e hj=>?_⟩
 ·by_cases h1:m=j
  ·subst h1;rw [upd_same] at e ⊢;cases e
   exact ⟨none,0,0,rfl,by simp,by omega,by omega,.inl rfl⟩
  rw [aR _ _ _ _ h1] at e ⊢;exact k.ow m b e
 ·by_cases h1:m=j
  ·subst h1;exact (nb i e).elim
  by_cases h2:n=j
  ·subst h2;exact (nb i f).elim
  rw [aR _ _ _ _ h1] at e;rw [aR _ _ _ _ h2] at f
  exact k.inj m n i (live m h1 hm) (live n h2 hn) e f
 ·by_cases h1:m=j
  ·subst h1;exact (nb i e).elim
  rw [aR _ _ _ _ h1] at e;exact k.ho m i (live m h1 hm) e
 ·by_cases h1:m=j
  ·subst h1;exact (nb i e).elim
  rw [aR _ _ _ _ h1] at e;exact k.fo m i (live m h1 hm) e
 ·rw [aR _ _ _ _ (by omega)];exact k.kp m hm
 by_cases h1:m=j
 ·subst h1;rw [upd_same] at e;cases e;simp [lnk] at hj
 rw [aR _ _ _ _ h1] at e
 have hjj:j'≠j:=fun x=>hl m b e (x ▸ hj)
 rw [aR _ _ _ _ h1,aR _ _ _ _ hjj]
 exact k.lk m b j' e hj
def Md (m j sz:Nat) (be e:TypeId) (s:St):St:=⟨(c8 [j] s).regs,upd (upd (c8 [j] s).own j (some ⟨true,sz,be,[]⟩)) m (some ⟨false,j+2,e,[.sl 0 []]⟩)⟩
theorem mr (m j sz:Nat) (be:TypeId) {z:Nat} {e:TypeId} (hb:s.own m=some ⟨false,z,e,[.v (.slice none 0 0)]⟩) (hz:Nat.blt z 2=true) (hj:Nat.beq m j=false) (hp:Nat.ble np j=true) (h:AWp P B N np c Q (Md m j sz be e s)):AWp P B N np c Q s:=by
 have hne:m≠j:=fun e=>by rw [e,Nat.beq_refl] at hj;cases hj
 intro ro hB C hh r a w hn hc
 have hk:=jI [j] hc
 have hm:(c8 [j] s).own m=some ⟨false,z,e,[.v (.slice none 0 0)]⟩:=by
  show (bif [j].contains m then none else kM [j] (s.own m))=_
  have:[j].contains m=false:=by simp;exact hne
  rw [this,hb]
  have hl:lnk ⟨false,z,e,[.v (.slice none 0 0)]⟩=[]:=by
   match z,hz with
   | 0,_=>rfl
   | 1,_=>rfl
  show some (fR [j] _)=_
  unfold fR;rw [hl];rfl
 have hw:=hk.wk.newNil (j:=j) (sz:=sz) (be:=be) (jp [j] s j (by simp)) (by rw [hn.1];exact bL0 hp) (jq [j] s j (by simp))
 have hold:=hk.wk.ow m _ hm
 unfold BlkRep at hold
 simp only at hold
 obtain ⟨k0,c0,p1,p2,p3,p4⟩:=hold
 have hc0:c0=#[.slice none 0 0]:=by
  simp only [DReps,DRep] at p4
  obtain ⟨⟨y,g1,g2⟩,_⟩:=p4
  apply Array.ext (by simpa using p3)
  intro q hq1 hq2
  have:q=0:=by have:q < 1:=hq2;omega
  subst this
  rw [Array.getElem?_eq_getElem (by simpa using hq1)] at g1
  simp at g1
  rw [g1,g2.1];rfl
 subst hc0
 have hw2:=hw.relink (m:=m) (z:=z) (j:=j) (n:=0) (e:=e) (cs:=[.v (.slice none 0 0)]) (by rw [aR _ _ _ _ hne];exact hm) ⟨k0,e,by rw [aR _ _ _ _ hne];exact p1,by rw [upd_same];exact p2⟩ (by
  rw [upd_same]
  simp only [DReps,DRep]
  exact ⟨⟨_,rfl,none,0,rfl,by omega,by omega,.inl trivial⟩,trivial⟩)
 refine h ro hB C hh (upd r j (.slice none 0 0)) a w hn ⟨hk.sz,hk.df,fun t=>?_,hw2⟩
 exact AVRep.rebind _ _ (fun n hn'=>aR _ _ _ _ (fun x=>ky [j] s j (by simp) t (x ▸ hn'))) (hk.rg t)
end ghost
theorem GW.rnL {np':Nat} {o o':Own} (m j d n:Nat) {e:TypeId} {cs:List DV} {b:Blk} (hm:o m=some ⟨false,j+2,e,cs⟩) (hb:o j=some b) (hbv:b.vec=true) (hn:n*b.sz=b.cs.length) (hs0:0 < b.sz) (hmj:Nat.beq m j=false) (hmd:Nat.beq m d=false) (hjd:Nat.beq j d=false) (hp:Nat.ble np' d=true)
  (hfin:∀ x,o' x=(upd (upd (upd (c8 [d] ⟨fun _=>.junk,o⟩).own j none) d (some b)) m (some ⟨false,d+2,e,[.sl n []]⟩)) x∨o' x=none):GW np' o o':=by
 have neq:∀ {x y:Nat},Nat.beq x y=false→x≠y:=fun h e=>by rw [e,Nat.beq_refl] at h;cases h
 have h1:=neq hmj;have h2:=neq hmd;have h3:=neq hjd
 intro C hh r w hnp hk0
 have hdp:=bL0 hp
 have hk:WOK C hh r (c8 [d] ⟨fun _=>.junk,o⟩).own w:=hk0.killed (A:=[d]) fun x=>by
  show (bif [d].contains x then none else kM [d] (o x))=_∨(bif [d].contains x then none else kM [d] (o x))=none
  cases [d].contains x with
  | true=>exact .inr rfl
  | false=>exact .inl rfl
 have kown:∀ p,p≠d→(c8 [d] ⟨fun _=>.junk,o⟩).own p=kM [d] (o p):=fun p hpd=>by
  show (bif [d].contains p then none else kM [d] (o p))=_
  have:[d].contains p=false:=by simp;exact hpd
  rw [this];rfl
 have hm':(c8 [d] ⟨fun _=>.junk,o⟩).own m=some ⟨false,j+2,e,cs⟩:=by
  rw [kown m h2,hm]
  show some (fR [d] _)=_
  have hl:lnk ⟨false,j+2,e,cs⟩=[j]:=rfl
  unfold fR
  rw [hl]
  have:([j].any [d].contains)=false:=by simp;exact h3
  rw [this];rfl
 have hb':(c8 [d] ⟨fun _=>.junk,o⟩).own j=some b:=by
  rw [kown j h3,hb]
  show some (fR [d] b)=_
  unfold fR;rw [lw hbv];rfl
 have hbr:=hk.ow j b hb'
 have hw:=hk.rename (m:=j) (d:=d) (v:=r j) (b:=b) (by rw [hb'];simp) (jp [d] _ d (by simp)) (Nat.le_trans hnp hdp) (fun _ e=>e) hbr (jq [d] _ d (by simp)) (lw hbv)
 have hown:upd (upd (c8 [d] ⟨fun _=>.junk,o⟩).own j none) d (some b) m=some ⟨false,j+2,e,cs⟩:=by rw [aR _ _ _ _ h2,aR _ _ _ _ h1];exact hm'
 obtain ⟨q,t,g1,g2⟩:=hk.lk m _ j hm' (by simp [lnk])
 have hbr2:=hbr
 unfold BlkRep at hbr2
 rw [hbv] at hbr2
 obtain ⟨ad,l,cap,q1,q2,q3,q4,_⟩:=hbr2
 have hl:l=n:=Nat.eq_of_mul_eq_mul_right hs0 (q2.trans hn.symm)
 subst hl
 have hw2:=hw.relink (m:=m) (z:=j+2) (j:=d) (n:=l) (e:=e) (cs:=cs) hown ⟨q,t,by rw [aR _ _ _ _ h2];exact g1,by rw [upd_same];exact g2⟩ (by
  rw [upd_same]
  simp only [DReps,DRep]
  exact ⟨⟨_,rfl,ad,cap,q1,q3,q4,.inl trivial⟩,trivial⟩)
 refine ⟨upd r d (r j),fun x hx=>aR _ _ _ _ (by omega),hw2.forget hfin,fun x i hx hi=>?_⟩
 have hx2:upd (upd (upd (c8 [d] ⟨fun _=>.junk,o⟩).own j none) d (some b)) m (some ⟨false,d+2,e,[.sl l []]⟩) x≠none:=by
  rcases hfin x with g | g
  ·rw [← g];exact hx
  exact absurd g hx
 by_cases e1:x=d
 ·subst e1;rw [upd_same] at hi;exact ⟨j,by rw [hb];simp,hi⟩
 rw [aR _ _ _ _ e1] at hi
 refine ⟨x,?_,hi⟩
 by_cases e2:x=m
 ·subst e2;rw [hm];simp
 rw [aR _ _ _ _ e2,aR _ _ _ _ e1] at hx2
 by_cases e3:x=j
 ·subst e3;rw [hb];simp
 rw [aR _ _ _ _ e3,kown x e1] at hx2
 intro e4;rw [e4] at hx2;exact hx2 rfl
end
section
open Go Go.RowKit
section
variable {P:Program} {ro:Option Nat} {ops:Array Oper} {Q:Exit→Act→World→Prop} {K:Act→World→Prop} {a:Act} {w w':World} {i:Nat} {o:Oper}
theorem jT {x:Value} (ho:ops[i]?=some o) (hg:o.guard=none) (hd:jk o=true) (hrun:(execOp a.eval o).run P w=.ok (.value x) w') (hK:K (a.put o.dst x) w'):wpOpIn (Wd ro) 0 P ops Q i K a w:=by
 unfold wpOpIn
 have hw:Region.wanted o (yielded ops a.tmps)=true:=by unfold Region.wanted;rw [hg]
 simp only [ho]
 rw [if_pos hw]
 refine ⟨fun _ _=>trivial,?_⟩
 rw [Oper.semAt_eq _ _ _ (iM hd),hrun]
 exact hK
theorem vn (ho:ops[i]?=some o) (hg:o.guard=none) (hd:jk o=true) (hrun:(execOp a.eval o).run P w=.ok .skip w') (hK:K (a.put o.dst undef) w'):wpOpIn (Wd ro) 0 P ops Q i K a w:=by
 unfold wpOpIn
 have hw:Region.wanted o (yielded ops a.tmps)=true:=by unfold Region.wanted;rw [hg]
 simp only [ho]
 rw [if_pos hw]
 refine ⟨fun _ _=>trivial,?_⟩
 rw [Oper.semAt_eq _ _ _ (iM hd),hrun]
 exact hK
end
section
end
end
section
open Go Go.RowKit
section
variable (P:Program) (l:Nat) (xs:List (List PV)) (n0:Nat) (J:Nat→Hp→(Nat→Prop)→World→Prop) (N:Nat)
structure CJ (k:Nat) (G:Nat→Prop) (h:Hp) (r:Nat→Value) (s:St) (a:Act) (w:World):Prop where
 sz:a.tmps.size=N
 df:a.defers=[]
 rg:RegsOK h r s.regs a
 kj:∃ C:Ctx,WOK C h r s.own w∧J k C.h0 G C.w0∧n0≤C.w0.heap.size∧(∀ i,C.F i→n0≤i∧¬ G i∧C.h0 i=none)∧C.np=0∧C.mar=false
def AJ (c:Code) (Q:Exit→Nat→St→Prop) (k:Nat) (s:St):Prop :=
 ∀ (h:Hp) (r:Nat→Value) (a:Act) (w:World) (G:Nat→Prop),CJ n0 J N k G h r s a w →
  c.wpIn (Wd none) 0 P (fun e a' w'=>∃ k' s' h' r' G',Q e k' s'∧CJ n0 J N k' G' h' r' s' a' w') a w
def RJ (Q:Exit→Nat→St→Prop) (ops:Array Oper) (os:List Oper) (i:Nat) (k:Nat) (s:St):Prop:=ops.toList.drop i=os →
 ∀ (h:Hp) (r:Nat→Value) (a:Act) (w:World) (G:Nat→Prop),CJ n0 J N k G h r s a w →
  wpOpsIn (Wd none) 0 P ops (fun e a' w'=>∃ k' s' h' r' G',Q e k' s'∧CJ n0 J N k' G' h' r' s' a' w') (List.range' i os.length) a w
end
def oe (K:Nat→St→Prop) (Q:Exit→Nat→St→Prop):Exit→Nat→St→Prop
 | .normal,k,s=>K k s
 | e,k,s=>Q e k s
def JIn (id:Nat) (Q:Exit→Nat→St→Prop):Exit→Nat→St→Prop
 | .exit id',k,s=>bif Nat.beq id' id then Q .normal k s else Q (.exit id') k s
 | e,k,s=>Q e k s
section
variable {P:Program} {l:Nat} {xs:List (List PV)} {n0:Nat} {J:Nat→Hp→(Nat→Prop)→World→Prop} {N:Nat} (hK:Keeps P l xs n0 J)
variable {Q:Exit→Nat→St→Prop} {k:Nat} {s:St}
include hK in
theorem CJ.now {G:Nat→Prop} {h:Hp} {r:Nat→Value} {a:Act} {w:World} (c:CJ n0 J N k G h r s a w):J k h G w:=by
 obtain ⟨C,hw,hj,hs,hF,_⟩:=c.kj
 have hg:=hK.g _ _ _ _ hj
 refine hK.rest _ _ _ _ _ _ hj ⟨hw.os,hw.tape,hw.output,hw.size,fun i hi=>?_,hw.hi,hw.hg,fun i hi=>?_⟩
 ·by_cases e:C.F i
  ·exact .inr (hF i e)
  exact .inl (hw.old i hi e)
 rcases hw.hn i hi with g | g | g
 ·exact .inl g
 ·exact .inr ⟨Nat.le_trans hs g,fun x=>by have:=(hg i x).1;omega⟩
 exact .inr ⟨(hF i g).1,(hF i g).2.1⟩
include hK in
theorem CJ.notG {G:Nat→Prop} {h:Hp} {r:Nat→Value} {a:Act} {w:World} (c:CJ n0 J N k G h r s a w) {m i:Nat} (hm:s.own m≠none) (e:bo (r m)=some i):n0≤i∧¬ G i∧i < w.heap.size∧h i=none:=by
 obtain ⟨C,hw,hj,hs,hF,_⟩:=c.kj
 refine ⟨?_,?_,hw.lt hm e,hw.ho m i hm e⟩
 ·rcases hw.fo m i hm e with g | g
  ·exact Nat.le_trans hs g
  exact (hF i g).1
 rcases hw.fo m i hm e with g | g
 ·exact fun x=>by have:=(hK.g _ _ _ _ hj i x).1;omega
 exact (hF i g).2.1
theorem HR {c:Code} (h:AWp P true N 0 c (fun e s'=>Q e k s') s):AJ P n0 J N c Q k s:=by
 intro hh r a w G hc
 obtain ⟨C,hw,hj,hs,hF,hn,hm⟩:=hc.kj
 refine wpIn_mono (h none (fun _=>rfl) C hh r a w ⟨hn,hm⟩ ⟨hc.sz,by rw [hc.df];trivial,hc.rg,hw⟩) ?_
 rintro e a' w' ⟨s',h',r',q,c'⟩
 refine ⟨k,s',h',r',G,q,c'.sz,?_,c'.rg,C,c'.wk,hj,hs,hF,hn,hm⟩
 have:=c'.df
 cases hd:a'.defers with
 | nil=>rfl
 | cons d ds=>rw [hd] at this;have h1:=this.1;rw [hm] at h1;cases h1
theorem nw (hP:P.follows .mixedOrders=true) {id:Nat} {ops:Array Oper} {draw:Bool} (h:RK P N 0 ops draw ops.toList (c8 (dO ops.toList) s) [] (Q .normal k)):AJ P n0 J N (.region id ops draw) Q k s :=
 HR (aw hP h)
theorem nv {x y:Code} (h:AJ P n0 J N x (oe (AJ P n0 J N y Q) Q) k s):AJ P n0 J N (.seq x y) Q k s:=by
 intro hh r a w G hc
 refine wpIn_seq (wpIn_mono (h hh r a w G hc) ?_)
 rintro e a' w' ⟨k',s',h',r',G',q,c⟩
 cases e with
 | normal=>exact q h' r' a' w' G' c
 | _=>exact ⟨k',s',h',r',G',q,c⟩
theorem xe (h:Q .normal k s):AJ P n0 J N .skip Q k s:=fun hh r _ _ G hc=>wpIn_skip ⟨k,s,hh,r,G,h,hc⟩
theorem HS {id:Nat} (h:Q (.exit id) k s):AJ P n0 J N (.exit id) Q k s:=fun hh r _ _ G hc=>wpIn_exit ⟨k,s,hh,r,G,h,hc⟩
theorem vk {id:Nat} {c:Code} (h:AJ P n0 J N c (JIn id Q) k s):AJ P n0 J N (.block id c) Q k s:=by
 intro hh r a w G hc
 refine wpIn_block (wpIn_mono (h hh r a w G hc) ?_)
 rintro e a' w' ⟨k',s',h',r',G',q,c⟩
 cases e with
 | exit id' =>
  simp only [Exit.inBlock]
  simp only [JIn] at q
  by_cases hid:id'=id
  ·subst hid
   rw [if_pos rfl]
   have:Nat.beq id' id'=true:=by simp
   rw [this] at q
   exact ⟨k',s',h',r',G',q,c⟩
  rw [if_neg hid]
  have:Nat.beq id' id=false:=by
   cases e:Nat.beq id' id with
   | false=>rfl
   | true=>exact absurd (Nat.eq_of_beq_eq_true e) hid
  rw [this] at q
  exact ⟨k',s',h',r',G',q,c⟩
 | _=>exact ⟨k',s',h',r',G',q,c⟩
theorem CJ.bool {G:Nat→Prop} {h:Hp} {r:Nat→Value} {a:Act} {w:World} (hc:CJ n0 J N k G h r s a w) {c:Operand} {b:Bool} (he:ev s.regs c=.p (.c (.v (.bool b)))):a.eval c=.bool b:=by
 have:=dN hc.rg c
 rw [he] at this
 simp only [AVRep,PRep,DRep] at this
 exact this.1
theorem xf {c:Operand} {x y:Code} {b:Bool} (he:ev s.regs c=.p (.c (.v (.bool b)))) (ht:b=true→AJ P n0 J N x Q k s) (hf:b=false→AJ P n0 J N y Q k s):AJ P n0 J N (.cond c x y) Q k s:=by
 intro hh r a w G hc
 have hb:=hc.bool he
 cases b with
 | true=>exact wpIn_cond_true hb (ht rfl hh r a w G hc)
 | false=>exact wpIn_cond_false hb (hf rfl hh r a w G hc)
theorem sx {c:Operand} {x y:Code} {b:Bool} (he:ev s.regs c=.p (.c (.v (.bool b)))) (hb:b=false) (hf:AJ P n0 J N y Q k s):AJ P n0 J N (.cond c x y) Q k s :=
 xf he (fun h=>by rw [hb] at h;cases h) (fun _=>hf)
theorem CJ.le {t:St} (q:Le s t) {G:Nat→Prop} {h:Hp} {r:Nat→Value} {a:Act} {w:World} (c:CJ n0 J N k G h r s a w):CJ n0 J N k G h r t a w:=by
 obtain ⟨C,hw,rest⟩:=c.kj
 exact ⟨c.sz,c.df,fun i=>q.regs i h r _ (c.rg i),C,hw.forget q.own,rest⟩
theorem HQ {ι:Type} {c:Code} (I:ι→St) (κ:ι→Nat) (F:ι→Prop) (μ:ι→Nat) (i₀:ι) (h₀:F i₀) (hk:κ i₀=k) (hs:Le s (I i₀))
  (round:∀ i,F i→AJ P n0 J N c (oe (fun k' s'=>∃ j,F j∧μ j < μ i∧κ j=k'∧Le s' (I j)) Q) (κ i) (I i)):AJ P n0 J N (.loop c) Q k s:=by
 intro hh r a w G hc b kk cs hro hfn hroom
 have key:∀ n i h r a w G,μ i=n→F i→CJ n0 J N (κ i) G h r (I i) a w →
   ∃ e a' w',(∃ k' s' h' r' G',Q e k' s'∧CJ n0 J N k' G' h' r' s' a' w')∧ArrivesIn (Machine.fenced P (Wd none)) P (lone (b.atR a (.code c :: .inLoop c :: kk)) cs w) b kk cs e a' w':=by
  intro n
  induction n using Nat.strongRecOn with
  | _ n ih =>
   intro i h r a w G hμ hF hc
   obtain ⟨e,a₁,w₁,⟨k₁,s₁,h₁,r₁,G₁,hq,hc₁⟩,harr⟩:=round i hF h r a w G hc b (.inLoop c :: kk) cs hro hfn hroom
   cases e with
   | normal =>
    obtain ⟨j,hFj,hlt,hκ,hle⟩:=hq
    subst hκ
    obtain ⟨e₂,a₂,w₂,hq₂,harr₂⟩:=ih (μ j) (hμ ▸ hlt) j h₁ r₁ a₁ w₁ G₁ rfl hFj (hc₁.le hle)
    exact ⟨e₂,a₂,w₂,hq₂,.of_steps (StepsIn.trans harr (.one (fenced_calm hfn hroom rfl) stepR_inLoop)) harr₂⟩
   | exit id=>exact ⟨_,a₁,w₁,⟨k₁,s₁,h₁,r₁,G₁,hq,hc₁⟩,.pass (x:=.inLoop c) rfl (fun _ _=>.inl (by simp)) harr⟩
   | goto l=>exact ⟨_,a₁,w₁,⟨k₁,s₁,h₁,r₁,G₁,hq,hc₁⟩,.pass (x:=.inLoop c) rfl (fun _ _=>.inl (by simp)) harr⟩
   | ret=>exact ⟨_,a₁,w₁,⟨k₁,s₁,h₁,r₁,G₁,hq,hc₁⟩,.pass (x:=.inLoop c) rfl (fun _ _=>.inl (by simp)) harr⟩
   | panic ch=>exact ⟨_,a₁,w₁,⟨k₁,s₁,h₁,r₁,G₁,hq,hc₁⟩,.pass (x:=.inLoop c) rfl (fun _ _=>.inl (by simp)) harr⟩
   | outgrown=>exact ⟨_,a₁,w₁,⟨k₁,s₁,h₁,r₁,G₁,hq,hc₁⟩,.pass (x:=.inLoop c) rfl (fun _ _=>.inl (by simp)) harr⟩
 subst hk
 obtain ⟨e,a',w',hq,harr⟩:=key _ i₀ hh r a w G rfl h₀ (hc.le hs)
 exact ⟨e,a',w',hq,.of_steps (.one (fenced_calm hfn hroom rfl) stepR_loop) harr⟩
section rj
variable {ops:Array Oper} {os:List Oper} {i:Nat} {op:Op} {ty:TypeId} {pos:String} {af:Array Edge} {gd:Option (Nat × Bool)} {t:Nat}
theorem yP {id:Nat} (h:RJ P n0 J N Q ops ops.toList 0 k s):AJ P n0 J N (.region id ops false) Q k s:=by
 intro hh r a w G hc
 apply wpIn_region
 rw [List.range_eq_range']
 exact h rfl hh r a w G hc
theorem RJ.done (h:Q .normal k s):RJ P n0 J N Q ops [] i k s:=fun _ hh r _ _ G hc=>⟨k,s,hh,r,G,h,hc⟩
theorem eo {o:Oper} (h:ops.toList.drop i=o :: os):ops[i]?=some o∧ops.toList.drop (i+1)=os:=by
 have h1:(ops.toList.drop i)[0]?=some o:=by rw [h];rfl
 rw [List.getElem?_drop] at h1
 refine ⟨by rw [← Array.getElem?_toList];simpa using h1,?_⟩
 rw [← List.tail_drop,h];rfl
theorem fF {o:Oper} {b:Bool} {h:Hp} {r:Nat→Value} {a:Act} (hc:RegsOK h r s.regs a) (hG:cQ ops o s.regs b):Region.wanted o (yielded ops a.tmps)=b:=by
 unfold cQ at hG
 cases hg:o.guard with
 | none =>
  rw [hg] at hG
  unfold Region.wanted
  rw [hg,hG]
 | some x =>
  obtain ⟨j,want⟩:=x
  rw [hg] at hG
  obtain ⟨t,g1,hG⟩:=hG
  rcases hG with ⟨c,g2,g3⟩ | ⟨g2,g3⟩
  ·have:=lM hc g1 g2
   unfold Region.wanted
   rw [hg]
   simp only [this]
   rw [← g3]
   cases c <;> cases want <;> rfl
  have:=mC hc g1 g2
  unfold Region.wanted
  rw [hg]
  simp only [this]
  rw [g3]
  cases want <;> rfl
theorem CJ.put {G:Nat→Prop} {h h':Hp} {r r':Nat→Value} {a:Act} {w w':World} {C:Ctx} {v:AV} {x:Value} (hc:CJ n0 J N k G h r s a w) (hle:Hle h h') (hr:∀ m,r' m=r m) (ht:t < N) (hv:AVRep h' r' v x)
  (q:WOK C h' r' s.own w') (hj:J k C.h0 G C.w0) (hs:n0≤C.w0.heap.size) (hF:∀ i,C.F i→n0≤i∧¬ G i∧C.h0 i=none) (hn:C.np=0) (hm:C.mar=false):CJ n0 J N k G h' r' ⟨upd s.regs t v,s.own⟩ (a.put (some t) x) w' :=
 ⟨by simp [Act.put,hc.sz],by simpa [Act.put] using hc.df,(show RegsOK h' r' s.regs a from fun u=>AVRep.rebind _ _ (fun m _=>hr m) (AVRep.mono hle _ _ (hc.rg u))).put (dst:=some t) (fun d e=>by cases e;rw [hc.sz];exact ht) hv,C,q,hj,hs,hF,hn,hm⟩
theorem RJ.val {v:AV} {rd:List Nat} (hg:cQ ops ⟨some t,op,ty,pos,af,gd⟩ s.regs true) (he:Eff P ⟨some t,op,ty,pos,af,gd⟩ t (ev s.regs) s.own v [] none rd)
  (hr:RJ P n0 J N Q ops os (i+1) k ⟨upd s.regs t v,s.own⟩) (hN:(Nat.blt t N && jk ⟨some t,op,ty,pos,af,gd⟩)=true:=by rfl):RJ P n0 J N Q ops (⟨some t,op,ty,pos,af,gd⟩ :: os) i k s:=by
 intro hd hh r a w G hc
 obtain ⟨h1,h2⟩:=eo hd
 rw [Bool.and_eq_true,Nat.blt_eq] at hN
 rw [List.length_cons,List.range'_succ,wpOpsIn_cons]
 unfold wpOpIn
 simp only [h1]
 rw [fF hc.rg hg,if_pos rfl]
 obtain ⟨C,hw,hj,hs,hF,hn,hm⟩:=hc.kj
 refine lO (iM hN.2) ?_
 refine he C hh r s.own a w _ _ (fun x _=>dN hc.rg x) (fun _ _=>rfl) hw (fun e=>absurd rfl e) ?_
 intro x h' r' w' hle hrr hv hw'
 exact ⟨hr h2 h' r' _ w' G (hc.put hle (fun m=>hrr m (fun e=>absurd rfl e)) hN.1 hv hw' hj hs hF hn hm),rfl⟩
theorem lS {h:Hp} {r:Nat→Value}:∀ {x:List PV} {vs:List Value},RepArgs h r (x.map .p) vs→PReps h x vs
 | [],[],_=>trivial
 | _ :: _,_ :: _,k=>⟨k.1,lS k.2⟩
 | [],_ :: _,k=>k.elim
 | _ :: _,[],k=>k.elim
theorem RJ.yield (hK:Keeps P l xs n0 J) {c:Operand} {args:Array Operand} {tys:Array TypeId} {x:List PV} (hg:cQ ops ⟨some t,.call ⟨.value c,args,tys⟩,ty,pos,af,gd⟩ s.regs true)
  (hy:ev s.regs c=.p (.c (.v (.func (.yield l) #[] #[])))) (ha:args.toList.map (ev s.regs)=x.map .p) (hx:xs[k]?=some x)
  (hr:RJ P n0 J N Q ops os (i+1) (k+1) ⟨upd s.regs t (.p (.c (.v (.bool true)))),s.own⟩) (hN:Nat.blt t N=true:=by rfl):RJ P n0 J N Q ops (⟨some t,.call ⟨.value c,args,tys⟩,ty,pos,af,gd⟩ :: os) i k s:=by
 intro hd hh r a w G hc
 obtain ⟨h1,h2⟩:=eo hd
 rw [Nat.blt_eq] at hN
 rw [List.length_cons,List.range'_succ,wpOpsIn_cons]
 unfold wpOpIn
 simp only [h1]
 rw [fF hc.rg hg,if_pos rfl]
 have hyv:a.eval c=.func (.yield l) #[] #[]:=by
  have:=dN hc.rg c
  rw [hy] at this
  simp only [AVRep,PRep,DRep] at this
  exact this.1
 have hra:RepArgs hh r (x.map .p) (args.map a.eval).toList:=by
  rw [← ha,Array.toList_map]
  exact dF _ fun x _=>dN hc.rg x
 obtain ⟨fn,tmps,assign,body,hrun,hR⟩:=hK.give k hh G w x _ hx (hc.now hK) (lS hra)
 refine ⟨fun _ _=>trivial,?_⟩
 rw [Oper.semAt_eq _ _ _ (fun c' e=>by cases e)]
 have hex:(execOp a.eval ⟨some t,.call ⟨.value c,args,tys⟩,ty,pos,af,gd⟩).run P w=.ok (.round l fn tmps assign body) w:=by
  simp only [execOp,resolve,Sem.run_bind,hyv,Deferred.ofValue,Sem.run_pure,Result.andThen_ok,invoke,Array.empty_append]
  have e:(args.map a.eval).toList.toArray=args.map a.eval:=Array.toArray_toList
  rw [← e];exact hrun
 rw [hex]
 refine ⟨fun e=>by simp [Wd] at e,RoundIn.mono hR ?_⟩
 rintro e w' ⟨rfl,h',G',hj,q⟩
 have hC:=hc.kj
 obtain ⟨C,hw,hj0,hs,hF,hn,hm⟩:=hC
 have same:∀ m i,s.own m≠none→bo (r m)=some i→w'.heap[i]?=w.heap[i]?:=fun m i hm e=>by
  have:=hc.notG hK hm e
  exact q.old i this.2.2.1 this.2.1
 have hw':WOK ⟨w',h',fun i=>∃ m,s.own m≠none∧bo (r m)=some i,r,0,false⟩ h' r s.own w':=by
  refine ⟨fun m b e=>((hw.ow m b e).mono q.hg).world fun i hi=>same m i (by rw [e];simp) hi,hw.inj,hK.hi _ _ _ _ hj,fun m i hm e=>?_,rfl,rfl,.refl _,Nat.le_refl _,fun _ _ _=>rfl,fun m i hm e=>.inr ⟨m,hm,e⟩,.refl _,fun _ e=>.inl e,hw.gl.mono q.hg,fun _ _=>rfl,fun m b j e hj'=>?_⟩
  ·have hg:=hc.notG hK hm e
   cases hh':h' i with
   | none=>rfl
   | some o =>
    rcases q.hn i (by rw [hh'];simp) with g | g | g
    ·exact absurd hg.2.2.2 g
    ·omega
    exact absurd g hg.2.1
  obtain ⟨q1,t',e1,e2⟩:=hw.lk m b j e hj'
  exact ⟨q1,t',e1,by rw [same m q1 (by rw [e];simp) (by rw [e1];rfl)];exact e2⟩
 have n1:n0≤w'.heap.size:=Nat.le_trans (Nat.le_trans hs hw.size) q.size
 refine hr h2 h' r _ w' G' ⟨by simp [Act.put,hc.sz],by simpa [Act.put] using hc.df,(show RegsOK h' r s.regs a from fun u=>AVRep.mono q.hg _ _ (hc.rg u)).put (dst:=some t) (v:=.p (.c (.v (.bool true)))) (x:=.bool true) (fun d e=>by cases e;rw [hc.sz];exact hN) ⟨rfl,rfl⟩,_,hw',hj,n1,?_,rfl,rfl⟩
 rintro i ⟨m,hm,e⟩
 have hg:=hc.notG hK hm e
 refine ⟨hg.1,fun x=>?_,?_⟩
 ·rcases q.gg i x with g | g
  ·exact hg.2.1 g
  omega
 exact hw'.ho m i hm e
end rj
end
theorem G1 {P:Program} {f:FuncId} {fn:Func} {c:Code} {N:Nat} {caps:List (List DV)} {xs:List (List PV)} (hf:P.funcs[f]?=some fn) (hnm:(fn.name == "runtime.NumGoroutine")=false) (hb:fn.body=some c) (hN:fn.ntmps=N) (hna:caps.length+1≤N) (hres:fn.results=#[])
  (h:∀ l n0 J,Keeps P l xs n0 J→AJ P n0 J N c (fun e k _=>(e=.normal∨e=.ret)∧k=xs.length) 0 ⟨fun t=>((.p (.c (.v (.func (.yield l) #[] #[]))) :: caps.map .ip:List AV)).getD t .junk,O⟩):Iter P f caps xs:=by
 refine ⟨⟨fn,hf,hnm,by rw [hb];rfl⟩,?_⟩
 intro l lb J hh G W hcaps hgl hK h0
 refine callsIn_of_wp hf hb trivial ?_
 have hcl:∀ (cs:List (List DV)) (xs:List Value),CapsRep hh cs xs→xs.length=cs.length:=by
  intro cs
  induction cs with
  | nil=>intro xs k;cases xs with
   | nil=>rfl
   | cons _ _=>exact k.elim
  | cons p ps ih=>intro xs k;cases xs with
   | nil=>exact k.elim
   | cons x xs=>simp [ih xs k.2]
 have hlen:lb.size=caps.length:=by simpa using hcl _ _ hcaps
 have hget:∀ (cs:List (List DV)) (xs:List Value),CapsRep hh cs xs→∀ (t:Nat) (x:List DV),cs[t]?=some x→∃ y,xs[t]?=some y∧IpRep hh x y:=by
  intro cs
  induction cs with
  | nil=>intro xs _ t x h;simp at h
  | cons p ps ih=>intro xs h t x hx;cases xs with
   | nil=>exact h.elim
   | cons y ys=>cases t with
    | zero=>simp at hx;subst hx;exact ⟨y,rfl,h.1⟩
    | succ t=>exact ih ys h.2 t x (by simpa using hx)
 refine wpIn_mono (h l W.heap.size J hK hh (fun _=>.bool false) _ W G ⟨?_,rfl,?_,(⟨W,hh,fun _=>False,fun _=>.bool false,0,false⟩:Ctx),?_,h0,Nat.le_refl _,fun _ e=>e.elim,rfl,rfl⟩) ?_
 ·simp [hN,hlen];omega
 ·intro t
  show AVRep hh _ (((.p (.c (.v (.func (.yield l) #[] #[]))) :: caps.map .ip:List AV)).getD t .junk) _
  rw [List.getD_eq_getElem?_getD]
  cases t with
  | zero =>
   simp only [List.getElem?_cons_zero,Option.getD_some]
   have e0:(#[.func (.yield l) #[] #[]] ++ lb ++ Array.replicate (fn.ntmps - (#[.func (.yield l) #[] #[]] ++ lb:Array Value).size) undef:Array Value).getD 0 undef=.func (.yield l) #[] #[]:=by
    rw [Array.getD_eq_getD_getElem?,Array.getElem?_append_left (by simp;omega),Array.getElem?_append_left (by simp)];rfl
   show AVRep hh _ (.p (.c (.v (.func (.yield l) #[] #[])))) (Array.getD _ 0 undef)
   rw [e0]
   simp only [AVRep,PRep,DRep,true_and];rfl
  | succ t =>
   rw [List.getElem?_cons_succ,List.getElem?_map]
   cases ht:caps[t]? with
   | none=>exact trivial
   | some x =>
    obtain ⟨y,g1,g2⟩:=hget _ _ hcaps t x ht
    have g1':lb[t]?=some y:=by rw [← Array.getElem?_toList];exact g1
    have hlt:t < lb.size:=(Array.getElem?_eq_some_iff.1 g1').1
    simp only [Option.map_some,Option.getD_some,Array.getD_eq_getD_getElem?]
    rw [Array.getElem?_append_left (by simp;omega),Array.getElem?_append_right (by simp)]
    simp only [List.size_toArray,List.length_cons,List.length_nil,Nat.zero_add,Nat.add_sub_cancel,g1',Option.getD_some]
    exact g2
 ·exact ⟨fun m b e=>(by cases e),fun m n k e=>absurd rfl e,hK.hi _ _ _ _ h0,fun m k e=>absurd rfl e,rfl,rfl,.refl _,Nat.le_refl _,fun _ _ _=>rfl,fun m k e=>absurd rfl e,Hle.refl _,fun k e=>Or.inl e,hgl,fun _ _=>rfl,fun m b j e=>(by cases e)⟩
 rintro e a' w' ⟨k',s',h',r',G',⟨he,rfl⟩,c'⟩
 have hr:(results fn a'.tmps).run P w'=.ok (.tuple #[]) w':=by rw [fx,hres];simp
 have fin:∀ e',(e'=Exit.normal∨e'=Exit.ret)→bodyPost P fn (fun e W'=>(∃ v,e=.returned v)∧∃ h' G',J xs.length h' G' W') e' a' w':=by
  rintro e' (rfl | rfl) <;> exact ⟨c'.df,_,hr,⟨_,rfl⟩,h',G',c'.now hK⟩
 exact fin e he
end
section
open Go Go.RowKit
structure Tr where
 a:Int
 b:Int
 c:Int
 deriving DecidableEq
def okT (n a b:Int):Bool:=decide ((b*b+n) % (4*a)=0) && (decide (a≤(b*b+n) / (4*a)) && !(decide (b < 0) && decide (a=(b*b+n) / (4*a))))
def I0 (n a:Int):Nat→Int→List Tr
 | 0,_=>[]
 | k+1,b=>(if okT n a b then [⟨a,b,(b*b+n) / (4*a)⟩] else []) ++ I0 n a k (b+1)
def KT (n:Int):Nat→Int→List Tr
 | 0,_=>[]
 | k+1,a=>if 3*a*a≤n then I0 n a (2*a).toNat (1 - a) ++ KT n k (a+1) else []
def trs (n:Int):List Tr:=KT n 2000 1
section
end
end
section
open Go Go.RowKit
theorem wl_zero_iff {x:Int}:((wl x.natAbs).length:Int)=0↔x=0:=wl_len_zero
theorem vK {m:Nat} (h:0 < (wl m).length):(wl m).getD 0 0=m % 4294967296:=by
 have hm:0 < m:=by
  rcases Nat.eq_zero_or_pos m with e | e
  ·subst e;simp [vJ] at h
  exact e
 rw [yS hm];rfl
def c7 (x:Int):Bool:=decide (x % 2=1)
theorem JO {x:Int} (h:¬ ((wl x.natAbs).length:Int) > 0):false=c7 x:=by
 have h1:((wl x.natAbs).length:Int)=0:=by omega
 have h2:=wl_zero_iff.1 h1
 subst h2;rfl
theorem GC {x:Int} (h:((wl x.natAbs).length:Int) > 0):((((wl x.natAbs).getD 0 0 &&& 1:Nat):Int) == 1)=c7 x:=by
 rw [vK (by omega),Nat.and_one_is_mod]
 unfold c7
 rw [Bool.eq_iff_iff,beq_iff_eq,decide_eq_true_iff]
 omega
theorem Cf {x m:Int} (h:((wl x.natAbs).length:Int)=0):0=x % m:=by rw [wl_zero_iff.1 h];simp
theorem GS {x m:Int} (hm:m=4∨m=8) (h:¬ ((wl x.natAbs).length:Int)=0):((wl x.natAbs).getD 0 0:Int) % m=(x.natAbs:Int) % m:=by
 rw [vK (by omega)]
 rcases hm with rfl | rfl <;> omega
theorem GR {x m:Int} (hm:m=4∨m=8) (h:x < 0) (h2:(x.natAbs:Int) % m > 0):m - (x.natAbs:Int) % m=x % m:=by
 rcases hm with rfl | rfl <;> omega
theorem Cg {x m:Int} (hm:m=4∨m=8) (h:x < 0) (h2:¬ (x.natAbs:Int) % m > 0):(x.natAbs:Int) % m=x % m:=by
 rcases hm with rfl | rfl <;> omega
theorem GQ {x m:Int} (h:¬ x < 0):(x.natAbs:Int) % m=x % m:=by
 rw [show (x.natAbs:Int)=x by omega]
def twG:Nat→Int→Int × Int
 | 0,a=>(a,0)
 | f+1,a=>if c7 a then (a,0) else ((twG f (a / 2)).1,(twG f (a / 2)).2+1)
def tw (a:Int):Int × Int:=twG a.natAbs a
theorem sY:∀ (f:Nat) (a:Int),a≠0→a.natAbs≤f→twG (f+1) a=twG f a
 | 0,a,h0,h=>by omega
 | f+1,a,h0,h=>by
  have e1:twG (f+1+1) a=if c7 a then (a,0) else ((twG (f+1) (a / 2)).1,(twG (f+1) (a / 2)).2+1):=rfl
  have e2:twG (f+1) a=if c7 a then (a,0) else ((twG f (a / 2)).1,(twG f (a / 2)).2+1):=rfl
  rw [e1,e2]
  split
  ·rfl
  next hp =>
  have h2:a % 2=0:=by
   have:¬ a % 2=1:=fun e=>hp (by unfold c7;rw [e];rfl)
   omega
  rw [sY f (a / 2) (by omega) (by omega)]
theorem Fx {f:Nat} {a:Int} (h0:a≠0) (h:a.natAbs≤f):twG f a=tw a:=by
 unfold tw
 induction f with
 | zero=>omega
 | succ f ih =>
  rcases Nat.lt_or_ge f a.natAbs with h1 | h1
  ·have:a.natAbs=f+1:=by omega
   rw [this]
  rw [sY f a h0 h1];exact ih h1
theorem jG {a:Int} (h:c7 a=true):tw a=(a,0):=by
 unfold tw
 cases a.natAbs with
 | zero=>rfl
 | succ n=>rw [twG,if_pos h]
theorem lg {a:Int} (h0:a≠0) (h:c7 a=false):tw a=((tw (a / 2)).1,(tw (a / 2)).2+1):=by
 have h2:a % 2=0:=by
  have:¬ a % 2=1:=fun e=>by unfold c7 at h;rw [e] at h;cases h
  omega
 have h3:a.natAbs=(a.natAbs - 1)+1:=by omega
 have h4:tw a=twG ((a.natAbs - 1)+1) a:=by unfold tw;rw [← h3]
 rw [h4,twG,if_neg (by rw [h];simp),Fx (a:=a / 2) (f:=a.natAbs - 1) (by omega) (by omega)]
theorem Fw {a0 b:Int} {k:Int} (h0:b≠0) (ho:c7 b=false) (h:tw a0=((tw b).1,(tw b).2+k)):tw a0=((tw (b / 2)).1,(tw (b / 2)).2+(k+1)):=by
 rw [h,lg h0 ho]
 simp only [Prod.mk.injEq,true_and]
 omega
theorem vP {a0 b:Int} {k:Int} (ho:c7 b=true) (h:tw a0=((tw b).1,(tw b).2+k)):tw a0=(b,k):=by
 rw [h,jG ho];simp
theorem gC:∀ (n:Nat) (a:Int),a.natAbs≤n→a≠0→(tw a).1.natAbs≤a.natAbs∧(tw a).1≠0∧c7 (tw a).1=true∧0≤(tw a).2∧(tw a).2≤a.natAbs∧(0 < a→0 < (tw a).1)
 | 0,a,h,h0=>by omega
 | n+1,a,h,h0=>by
  cases ho:c7 a with
  | true=>rw [jG ho];exact ⟨Nat.le_refl _,h0,ho,by simp only;omega,by simp only;omega,fun h=>h⟩
  | false =>
   have h2:a % 2=0:=by
    have:¬ a % 2=1:=fun e=>by unfold c7 at ho;rw [e] at ho;cases ho
    omega
   obtain ⟨i1,i2,i3,i4,i5,i6⟩:=gC n (a / 2) (by omega) (by omega)
   rw [lg h0 ho]
   exact ⟨by simp only;omega,i2,i3,by simp only;omega,by simp only;omega,fun hp=>i6 (by omega)⟩
def sg8 (a:Int):Int:=if a % 8=1 then 1 else if a % 8=3 then -1 else if a % 8=5 then -1 else if a % 8=7 then 1 else 0
def ma:Nat→Int→Int→Int→Int × Int
 | 0,k,_,n=>(k,n)
 | f+1,k,a,n=>if 0 < a then
   let k1:=if (tw a).2 % 2=1 then k*sg8 n else k
   let k2:=if (tw a).1 % 4=3∧n % 4=3 then -k1 else k1
   ma f k2 (n % (tw a).1) (tw a).1
  else (k,n)
def kr (a n:Int):Int :=
 if n=0 then (if (a.natAbs:Int)=1 then 1 else 0)
 else if c7 a=false∧c7 n=false then 0
 else
  let k0:Int:=if n < 0∧a < 0 then -1 else 1
  let n1:Int:=n.natAbs
  let k1:=if (tw n1).2 % 2=1 then k0*sg8 a else k0
  let r:=ma (a % (tw n1).1).natAbs.succ k1 (a % (tw n1).1) (tw n1).1
  if r.2=1 then r.1 else 0
end
section
open Go Go.RowKit
def isD (x:Int):Bool:=decide (0 < x) && (decide (x % 4=0) || decide (x % 4=3))
section
end
end
section
open Go Go.RowKit
theorem xP {k n:Nat} {x:Int} (hx:L n x) (h:2 ^ k≤x.natAbs):k < 2 ^ n:=by
 unfold L at hx
 generalize 2 ^ n=e at hx ⊢
 exact (Nat.pow_lt_pow_iff_right (a:=2) (by omega)).1 (Nat.lt_of_le_of_lt h hx)
theorem rE {k:Nat} {x:Int} (hx:L 40 x) (h:2 ^ k≤x.natAbs):k < 1099511627776:=Nat.lt_of_lt_of_eq (xP hx h) (by decide)
structure TwI (x b k:Int):Prop where
 ne:b≠0
 lb:L 40 b
 tw:tw x=((AM.tw b).1,(AM.tw b).2+k)
 k0:0≤k
 le:b.natAbs*2 ^ k.toNat≤x.natAbs
theorem TwI.start {x:Int} (hx:L 40 x) (h:x≠0):TwI x x 0:=⟨h,hx,by simp,by omega,by simp⟩
theorem TwI.lt {x b k:Int} (hx:L 40 x) (h:TwI x b k):k < 1099511627776:=by
 have h1:1*2 ^ k.toNat≤b.natAbs*2 ^ k.toNat:=Nat.mul_le_mul_right _ (by have:=h.ne;omega)
 have:=rE (k:=k.toNat) hx (by have:=h.le;omega)
 have:=h.k0
 omega
theorem TwI.next {x b k:Int} (h:TwI x b k) (ho:c7 b=false):TwI x (b / 2) (k+1)∧(b / 2).natAbs < b.natAbs:=by
 have h2:b % 2=0:=by
  have:¬ b % 2=1:=fun e=>by unfold c7 at ho;rw [e] at ho;cases ho
  omega
 have hne:=h.ne
 have hb:b.natAbs=2*(b / 2).natAbs:=by omega
 refine ⟨⟨by omega,L.of_le h.lb (by omega),Fw hne ho h.tw,by have:=h.k0;omega,?_⟩,by omega⟩
 have e:(k+1).toNat=k.toNat+1:=by have:=h.k0;omega
 have hl:=h.le
 rw [hb] at hl
 rw [e,Nat.pow_succ]
 have e2:(b / 2).natAbs*(2 ^ k.toNat*2)=2*(b / 2).natAbs*2 ^ k.toNat:=by
  rw [Nat.mul_comm (2 ^ k.toNat) 2,← Nat.mul_assoc,Nat.mul_comm _ 2]
 omega
theorem IN {x:Int} (hx:L 40 x) (h0:x≠0):LB (tw x).1 40:=⟨L.of_le hx (gC _ x (Nat.le_refl _) h0).1⟩
theorem IM {x:Int} (hx:L 40 x) (h0:x≠0):0≤(tw x).2∧(tw x).2 < 1099511627776:=by
 have key:∀ (n:Nat) (a:Int),a.natAbs≤n→a≠0→(tw a).1.natAbs*2 ^ (tw a).2.toNat≤a.natAbs:=by
  intro n
  induction n with
  | zero=>intro a h h0;omega
  | succ n ih =>
   intro a h h0
   cases ho:c7 a with
   | true=>rw [jG ho];simp
   | false =>
    have h2:a % 2=0:=by
     have:¬ a % 2=1:=fun e=>by unfold c7 at ho;rw [e] at ho;cases ho
     omega
    have i1:=ih (a / 2) (by omega) (by omega)
    have i2:=(gC _ (a / 2) (Nat.le_refl _) (by omega)).2.2.2.1
    rw [lg h0 ho]
    simp only
    have e:((tw (a / 2)).2+1).toNat=(tw (a / 2)).2.toNat+1:=by omega
    have hb:a.natAbs=2*(a / 2).natAbs:=by omega
    rw [e,Nat.pow_succ]
    have e2:(tw (a / 2)).1.natAbs*(2 ^ (tw (a / 2)).2.toNat*2)=2*((tw (a / 2)).1.natAbs*2 ^ (tw (a / 2)).2.toNat):=by
     rw [← Nat.mul_assoc,Nat.mul_comm _ 2]
    omega
 have h1:=key _ x (Nat.le_refl _) h0
 have h2:=gC _ x (Nat.le_refl _) h0
 have h3:1*2 ^ (tw x).2.toNat≤(tw x).1.natAbs*2 ^ (tw x).2.toNat:=Nat.mul_le_mul_right _ (by omega)
 have:=rE (k:=(tw x).2.toNat) hx (by omega)
 omega
def sgL:List Value:=[.int .i64 0,.int .i64 1,.int .i64 0,.int .i64 (-1),.int .i64 0,.int .i64 (-1),.int .i64 0,.int .i64 1]
theorem vY (x:Int):((sgL.drop (x % 8).toNat).map DV.v)[0]?=some (.v (.int .i64 (sg8 x))):=by
 have h1:=Int.emod_nonneg x (show (8:Int)≠0 by omega)
 have h2:=Int.emod_lt_of_pos x (show (0:Int) < 8 by omega)
 unfold sg8
 generalize x % 8=r at *
 have:r=0∨r=1∨r=2∨r=3∨r=4∨r=5∨r=6∨r=7:=by omega
 rcases this with rfl | rfl | rfl | rfl | rfl | rfl | rfl | rfl <;> rfl
theorem DU (x:Int):-1≤sg8 x∧sg8 x≤1:=by unfold sg8;repeat' split <;> omega
theorem qJ {k x:Int} (h:-1≤k∧k≤1):-1≤k*sg8 x∧k*sg8 x≤1:=by
 have h2:=DU x
 generalize sg8 x=s at *
 have:k=-1∨k=0∨k=1:=by omega
 rcases this with rfl | rfl | rfl <;> omega
structure KrI (R:Int × Int) (f:Nat) (k a n:Int):Prop where
 hk:-1≤k∧k≤1
 a0:0≤a
 n0:0 < n
 la:L 40 a
 ln:L 40 n
 hf:a.natAbs < f
 go:ma f k a n=R
def k1F (k a n:Int):Int:=if (tw a).2 % 2=1 then k*sg8 n else k
def k2F (k1 a n:Int):Int:=if (tw a).1 % 4=3∧n % 4=3 then -k1 else k1
theorem KrI.next {R:Int × Int} {f:Nat} {k a n:Int} (h:KrI R f k a n) (ha:0 < a) :
  KrI R (f - 1) (k2F (k1F k a n) a n) (n % (tw a).1) (tw a).1∧(n % (tw a).1).natAbs < a.natAbs:=by
 have h1:=gC _ a (Nat.le_refl _) (by omega)
 have hp:=h1.2.2.2.2.2 ha
 have h3:=Int.emod_nonneg n (show (tw a).1≠0 by omega)
 have h4:=Int.emod_lt_of_pos n hp
 have hk1:-1≤k1F k a n∧k1F k a n≤1:=by
  unfold k1F;split
  ·exact qJ h.hk
  exact h.hk
 have hla:=h.la
 have hf:=h.hf
 refine ⟨⟨?_,h3,hp,L.of_le hla (by omega),L.of_le hla h1.1,by omega,?_⟩,by omega⟩
 ·unfold k2F;split <;> omega
 have e:f=(f - 1)+1:=by omega
 have:=h.go
 rw [e,ma,if_pos ha] at this
 exact this
theorem KrI.stop {R:Int × Int} {f:Nat} {k a n:Int} (h:KrI R f k a n) (ha:¬ 0 < a):R=(k,n):=by
 have e:f=(f - 1)+1:=by have:=h.hf;omega
 have:=h.go
 rw [e,ma,if_neg ha] at this
 exact this.symm
def k0K (a n:Int):Int:=if n < 0∧a < 0 then -1 else 1
def k1K (a n:Int):Int:=if (tw (n.natAbs:Int)).2 % 2=1 then k0K a n*sg8 a else k0K a n
def RK_ (a n:Int):Int × Int:=ma (a % (tw (n.natAbs:Int)).1).natAbs.succ (k1K a n) (a % (tw (n.natAbs:Int)).1) (tw (n.natAbs:Int)).1
theorem yl (a n:Int):-1≤k0K a n∧k0K a n≤1:=by unfold k0K;split <;> omega
theorem Mi (a n:Int):-1≤k1K a n∧k1K a n≤1:=by
 unfold k1K;split
 ·exact qJ (yl a n)
 exact yl a n
theorem Ny {a n:Int} (h:n=0) (h1:(a.natAbs:Int)=1):1=kr a n:=by unfold kr;rw [if_pos h,if_pos h1]
theorem Mf {a n:Int} (h:n=0) (h1:¬ (a.natAbs:Int)=1):0=kr a n:=by unfold kr;rw [if_pos h,if_neg h1]
theorem GV {a n:Int} (h:¬ n=0) (h1:c7 a=false) (h2:c7 n=false):0=kr a n:=by unfold kr;rw [if_neg h,if_pos ⟨h1,h2⟩]
theorem sJ {a n:Int} (h:¬ n=0) (h1:¬ (c7 a=false∧c7 n=false)):kr a n=if (RK_ a n).2=1 then (RK_ a n).1 else 0:=by unfold kr;rw [if_neg h,if_neg h1];rfl
theorem KrI.start {a n:Int} (h:¬ n=0) (_ha:L 40 a) (hn:L 40 n):KrI (RK_ a n) (a % (tw (n.natAbs:Int)).1).natAbs.succ (k1K a n) (a % (tw (n.natAbs:Int)).1) (tw (n.natAbs:Int)).1:=by
 have h1:=gC _ (n.natAbs:Int) (Nat.le_refl _) (by omega)
 have hp:=h1.2.2.2.2.2 (by omega)
 have h3:=Int.emod_nonneg a (show (tw (n.natAbs:Int)).1≠0 by omega)
 have h4:=Int.emod_lt_of_pos a hp
 exact ⟨Mi a n,h3,hp,L.of_le hn (by omega),L.of_le hn (by omega),Nat.lt_succ_self _,rfl⟩
end
section
open Go Go.RowKit
theorem wF {m:Int} (h:m < 0):((m.natAbs:Nat):Int)=-m:=by omega
theorem Gr {m:Int} (h:¬ m < 0):((m.natAbs:Nat):Int)=m:=by omega
theorem Mj {k a n:Int} (h:-1≤k∧k≤1):-1≤k1F k a n∧k1F k a n≤1:=by
 unfold k1F;split
 ·exact qJ h
 exact h
end
section
open Go Go.RowKit
def MT (fn:Func) (res:AV) (e:Exit) (s:St):Prop:=(e=.normal∨e=.ret)∧∃ t,fn.results=#[.tmp t]∧s.regs t=res
theorem mp {P:Program} {f:FuncId} {fn:Func} {c:Code} {N:Nat} {args:List AV} {res:AV} (hf:P.funcs[f]?=some fn) (hnm:(fn.name == "runtime.NumGoroutine")=false) (hb:fn.body=some c) (hN:fn.ntmps=N) (hna:args.length≤N)
  (hres:men res=[]) (h:AWp P false N 0 c (MT fn res) ⟨fun t=>args.getD t .junk,O⟩):aJ P f args res:=by
 refine ⟨⟨fn,hf,hnm,by rw [hb];rfl⟩,?_⟩
 intro hh r w cargs hra hbf
 have hlen:cargs.size=args.length:=by
  have:∀ (as0:List AV) (xs:List Value),RepArgs hh r as0 xs→xs.length=as0.length:=by
   intro as0
   induction as0 with
   | nil=>intro xs h;cases xs with
    | nil=>rfl
    | cons _ _=>exact h.elim
   | cons p ps ih=>intro xs h;cases xs with
    | nil=>exact h.elim
    | cons x xs=>simp [ih xs h.2]
  simpa using this _ _ hra
 have hget:∀ (as0:List AV) (xs:List Value),RepArgs hh r as0 xs→∀ (t:Nat) (x:AV),as0[t]?=some x→∃ y,xs[t]?=some y∧AVRep hh r x y:=by
  intro as0
  induction as0 with
  | nil=>intro xs _ t x h;simp at h
  | cons p ps ih=>intro xs h t x hx;cases xs with
   | nil=>exact h.elim
   | cons y ys=>cases t with
    | zero=>simp at hx;subst hx;exact ⟨y,rfl,h.1⟩
    | succ t=>exact ih ys h.2 t x (by simpa using hx)
 refine nZ (n:=0) (callsIn_of_wp_marks hf hb trivial ?_)
 let C:Ctx:=⟨w,hh,fun _=>False,r,0,true⟩
 refine wpIn_mono (h none (fun _=>rfl) C hh r _ w ⟨rfl,rfl⟩ ⟨?_,trivial,?_,⟨hbf.ow,hbf.inj,hbf.hi,hbf.ho,rfl,rfl,.refl _,Nat.le_refl _,fun _ _ _=>rfl,fun m k hm=>absurd rfl hm,.refl _,fun k hk=>.inl hk,hbf.gl,fun _ _=>rfl,fun m b j hb=>by cases hb⟩⟩) ?_
 ·simp [hN];omega
 ·intro t
  show AVRep hh r (args.getD t .junk) _
  rw [List.getD_eq_getElem?_getD]
  cases ht:args[t]? with
  | none=>exact trivial
  | some x =>
   obtain ⟨y,h1,h2⟩:=hget _ _ hra t x ht
   have h1':cargs[t]?=some y:=by rw [← Array.getElem?_toList];exact h1
   have hlt:t < cargs.size:=(Array.getElem?_eq_some_iff.1 h1').1
   simp only [Array.getD_eq_getD_getElem?,Array.getElem?_append_left hlt,h1',Option.getD_some]
   exact h2
 rintro e a' w' ⟨s',h',r',⟨he,t,hrs,hreg⟩,hc⟩
 have fin:LeavesInM (Wd none) 0 P fn a'.tmps (fun e w'=>∃ v h',e=.returned v∧AVRep h' r res v∧After hh r O w h' O w') a'.defers .returning w':=by
  refine jB hc ?_
  intro h' w' hc
  have hx:=hc.rg t
  rw [hreg] at hx
  have hv1:(results fn a'.tmps).run P w'=.ok (a'.tmps.getD t undef) w':=by
   rw [fx,hrs]
   simp [iG]
  have hk:=hc.wk
  refine ⟨_,hv1,_,h',rfl,AVRep.rebind _ _ (fun m hm=>by rw [hres] at hm;simp at hm) hx,?_⟩
  refine ⟨fun m b e=>(by cases e),fun m hm=>absurd rfl hm,hk.hi,fun m k hm=>absurd rfl hm,hk.os,hk.tape,hk.output,hk.size,fun k h1 _=>hk.old k h1 (fun x=>x),hk.hg,fun k e=>?_⟩
  rcases hk.hn k e with g | g | g
  ·exact .inl g
  ·exact .inr (.inl g)
  exact g.elim
 rcases he with rfl | rfl <;> exact fin
def Tr.fm (t:Tr):Fm:=⟨t.a,t.b,t.c⟩
def LW (n:Int) (p:Fm→Bool):List Fm:=((trs n).map Tr.fm).filter p
def prT (t:Tr):Bool:=decide (Int.gcd (Int.gcd t.a t.b:Nat) t.c=1)
def cls (n:Int):Int:=((trs n).filter prT).length
def bN:List Int→Int
 | []=>0
 | x :: l=>x+bN l
theorem rh (l:List Int) (x:Int):bN (l ++ [x])=bN l+x:=by
 induction l with
 | nil=>simp [bN]
 | cons y l ih=>simp only [List.cons_append,bN,ih];omega
def szE (d:Int):Int:=if 0≤d∨d % 4 > 1 then 5 else if -d > 4194304 then 2 else 0
def szN (d:Int):Int:=if szE d=0 then -d else 0
theorem DQ {d:Int} (h:szE d=0):szN d=-d∧0 < -d∧-d≤4194304∧d % 4≤1:=by
 have e:szN d=-d:=by unfold szN;rw [if_pos h]
 unfold szE at h
 split at h
 ·cases h
 split at h
 ·cases h
 exact ⟨e,by omega,by omega,by omega⟩
end
section
open Go Go.RowKit
section
end
theorem GW.forget_as {np':Nat} {s o o':Own} (h:o=o') (h2:∀ m,o m=s m∨o m=none):GW np' s o':=GW.forget (by subst h;exact h2)
end
section
open Go Go.RowKit
def KC (p:Int):Nat→Int→Int
 | 0,l=>l
 | k+1,l=>if l % p=0 then KC p k (l / p) else l
def dv (p l:Int):Int:=KC p l.toNat l
end
section
open Go Go.RowKit
def eqG (f g:Fm):Bool:=decide (g.a=f.a∧g.b=f.b∧g.c=f.c)
theorem eqG_iff {f g:Fm}:eqG f g=true↔g=f:=by
 unfold eqG
 rw [decide_eq_true_iff]
 constructor
 ·rintro ⟨h1,h2,h3⟩;cases f;cases g;simp_all
 rintro rfl;exact ⟨rfl,rfl,rfl⟩
structure SmI (l m:List Fm) (k:Nat):Prop where
 k1:k≤l.length
 go:∀ j,j < k→l.getD j ⟨0,0,0⟩=m.getD j ⟨0,0,0⟩
theorem SmI.start (l m:List Fm):SmI l m 0:=⟨Nat.zero_le _,fun j h=>absurd h (Nat.not_lt_zero j)⟩
theorem SmI.next {l m:List Fm} {k:Nat} (h:SmI l m k) (hk:(k:Int) < l.length) (e:eqG (m.getD k ⟨0,0,0⟩) (l.getD k ⟨0,0,0⟩)=true):SmI l m (k+1) :=
 ⟨by omega,fun j hj=>by
  rcases Nat.lt_succ_iff_lt_or_eq.1 hj with h1 | rfl
  ·exact h.go j h1
  exact eqG_iff.1 e⟩
theorem SmI.no {l m:List Fm} {k:Nat} (e:eqG (m.getD k ⟨0,0,0⟩) (l.getD k ⟨0,0,0⟩)=false):false=decide (l=m):=by
 symm;rw [decide_eq_false_iff_not]
 rintro rfl
 rw [eqG_iff.2 rfl] at e
 cases e
theorem SmI.yes {l m:List Fm} {k:Nat} (h:SmI l m k) (hl:(l.length:Int)=m.length) (hk:¬ (k:Int) < l.length):true=decide (l=m):=by
 symm;rw [decide_eq_true_iff]
 have h1:=h.k1
 refine List.ext_getElem (by omega) (fun i h2 h3=>?_)
 have:=h.go i (by omega)
 rw [List.getD_eq_getElem?_getD,List.getD_eq_getElem?_getD,List.getElem?_eq_getElem h2,List.getElem?_eq_getElem h3] at this
 exact this
theorem J0 {l m:List Fm} (h:(l.length:Int)≠m.length):false=decide (l=m):=by
 symm;rw [decide_eq_false_iff_not];rintro rfl;exact h rfl
def lwO (a:Int):Bool:=decide (-9223372036854775808≤a∧a < 9223372036854775808)
def lwV (a:Int):Int:=if lwO a=true then a else 0
def v0 (n:Nat):Nat:=wd (wl n) 0+4294967296*wd (wl n) 1
theorem Di (n:Nat):bits .or .u64 ((wd (wl n) 0:Nat):Int) ((wd (wl n) 1*2 ^ 32 % 2 ^ IntKind.u64.bits:Nat):Int)=(v0 n:Nat):=nj (dX (bG n) 0) (dX (bG n) 1)
theorem K8 (n:Nat):v0 n < 18446744073709551616:=by
 have h0:=dX (bG n) 0
 have h1:=dX (bG n) 1
 unfold v0;omega
theorem K9 {n:Nat} (h:(wl n).length≤2):v0 n=n:=by
 have h0:=Ch h
 rw [Di] at h0
 omega
theorem GE {n:Nat} (h:¬ (wl n).length≤2):18446744073709551616≤n:=by
 rcases Nat.lt_or_ge n 18446744073709551616 with g | g
 ·exact absurd (fT (k:=2) (by rw [show 4294967296 ^ 2=18446744073709551616 by decide];exact g)) h
 exact g
theorem sH {a:Int} (h:a < -9223372036854775808∨9223372036854775808≤a):AV.t [.c (.v (.int .i64 0)),.c (.v (.bool false))]=AV.t [.c (.v (.int .i64 (lwV a))),.c (.v (.bool (lwO a)))]:=by
 have e:lwO a=false:=by unfold lwO;rw [decide_eq_false_iff_not];omega
 unfold lwV;rw [e];rfl
theorem pV {a x:Int} (h:-9223372036854775808≤a∧a < 9223372036854775808) (hx:x=a):AV.t [.c (.v (.int .i64 x)),.c (.v (.bool true))]=AV.t [.c (.v (.int .i64 (lwV a))),.c (.v (.bool (lwO a)))]:=by
 have e:lwO a=true:=by unfold lwO;rw [decide_eq_true_iff];exact h
 unfold lwV;rw [e,if_pos rfl,hx]
def w63 (v:Int):Int:=if v=9223372036854775808 then -9223372036854775808 else v
theorem sR {v:Int} (h:0≤v∧v≤9223372036854775808):IntKind.i64.wrap v=w63 v:=by
 unfold w63;split
 ·rename_i g;subst g;decide
 exact iW0 _ (by omega)
theorem sS {v:Int} (h:0≤v∧v≤9223372036854775808):IntKind.i64.wrap (0 - (w63 v))=-v:=by
 unfold w63;split
 ·rename_i g;subst g;decide
 rw [iW0 _ (by omega)];omega
end
section
open Go Go.RowKit
end
section
open Go Go.RowKit
def KR (n m:Int):Bool:=decide (n % (m*m)=0) && isD (n / (m*m))
theorem yZ {l m:List Int} (h:l.Perm m):bN l=bN m:=by
 induction h with
 | nil=>rfl
 | cons x _ ih=>simp only [bN,ih]
 | swap x y l=>simp only [bN];omega
 | trans _ _ h1 h2=>exact h1.trans h2
def C7 (f:Nat→Int):Nat→Int
 | 0=>0
 | k+1=>C7 f k+f (k+1)
end
section
open Go Go.RowKit
def wN (n:Int):Int:=if n=3 then 4 else if n=4 then 6 else 12
def hTm (n m:Int):Int:=if KR n m=true then wN (n / (m*m))*cls (n / (m*m)) else 0
def hS (n m:Int):Int:=C7 (fun i=>hTm n (i:Int)) (m - 1).toNat
end
section
open Go Go.RowKit
def prG (f:Fm):Bool:=prim f.a f.b f.c
def cTm (n m:Int):Int:=if KR n m=true then ((LW (n / (m*m)) prG).length:Nat) else 0
def cS (n m:Int):Int:=C7 (fun i=>cTm n (i:Int)) (m - 1).toNat
end
section
open Go Go.RowKit
section
end
end
section
open Go Go.RowKit
theorem qI {a:Int} (h:-9223372036854775808≤a∧a < 9223372036854775808):lwO a=true∧lwV a=a:=by
 have e:lwO a=true:=by unfold lwO;rw [decide_eq_true_iff];exact h
 exact ⟨e,by unfold lwV;rw [if_pos e]⟩
theorem lwO_iff {a:Int}:lwO a=true↔-9223372036854775808≤a∧a < 9223372036854775808:=by unfold lwO;rw [decide_eq_true_iff]
theorem Ma {a:Int} (h:lwO a=false):¬ (-9223372036854775808≤a∧a < 9223372036854775808):=by unfold lwO at h;rwa [decide_eq_false_iff_not] at h
end
section
open Go Go.RowKit
end
section
open Go Go.RowKit
end
section
open Go Go.RowKit
structure El where
 x:Int
 y:Int
namespace El
def add (u v:El):El:=⟨u.x+v.x,u.y+v.y⟩
def mul (s d:Int) (u v:El):El:=⟨u.x*v.x+d*(u.y*v.y),u.x*v.y+u.y*v.x+s*(u.y*v.y)⟩
def nm (s d:Int) (u:El):Int:=u.x*u.x+s*(u.x*u.y) - d*(u.y*u.y)
end El
section
end
end
section
open Go Go.RowKit
section
end
end
section
open Go Go.RowKit
def kk (s:Int) (f:Fm):Int:=(f.b - s) / 2
section
variable {s d:Int}
theorem C8:∀ (n:Nat) (a b:Int),b.natAbs≤n→∃ x y:Int,a*x+b*y=(Int.gcd a b:Nat)
 | 0,a,b,h=>by
  have hb:b=0:=by omega
  subst hb
  rw [Int.gcd_zero_right]
  rcases Int.le_total 0 a with g | g
  ·exact ⟨1,0,by omega⟩
  exact ⟨-1,0,by omega⟩
 | n+1,a,b,h=>by
  by_cases hb:b=0
  ·exact C8 n a b (by omega)
  have h1:(a % b).natAbs < b.natAbs:=by
   have:=Int.emod_nonneg a hb
   have:=Int.emod_lt a hb
   omega
  obtain ⟨x,y,e⟩:=C8 n b (a % b) (by omega)
  have eg:Int.gcd b (a % b)=Int.gcd a b:=by
   refine Nat.dvd_antisymm ?_ ?_
   ·refine Int.dvd_gcd ?_ (Int.gcd_dvd_left ..)
    have h1:=Int.gcd_dvd_left (a:=b) (b:=a % b)
    have h2:=Int.gcd_dvd_right (a:=b) (b:=a % b)
    have h3:=Int.dvd_add (Int.dvd_trans h1 ⟨a / b,rfl⟩) h2
    rwa [Int.mul_ediv_add_emod a b] at h3
   refine Int.dvd_gcd (Int.gcd_dvd_right ..) ?_
   have h1:=Int.gcd_dvd_left (a:=a) (b:=b)
   have h2:=Int.gcd_dvd_right (a:=a) (b:=b)
   have e3:a % b=a - b*(a / b):=by have:=Int.mul_ediv_add_emod a b;omega
   rw [e3]
   exact Int.dvd_sub h1 (Int.dvd_trans h2 ⟨_,rfl⟩)
  have em:=Int.mul_ediv_add_emod a b
  refine ⟨y,x - (a / b)*y,?_⟩
  rw [← eg,← e]
  generalize a / b=q at *
  generalize a % b=r at *
  subst em
  grind
theorem bez (a b:Int):∃ x y:Int,a*x+b*y=(Int.gcd a b:Nat):=C8 _ a b (Nat.le_refl _)
end
end
section
open Go Go.RowKit
section
end
end
section
open Go Go.RowKit
theorem gh {a b:Int} (h:a ∣ b) (c:Int):a ∣ b*c:=Int.dvd_trans h ⟨c,rfl⟩
theorem BZ {f:Fm} (hf:f.pos) {m:Mt} (h:m.det=1):(f.app m).pos:=by
 refine ⟨?_,by rw [uO,h];have:=hf.2;omega⟩
 show 0 < vl f.a f.b f.c m.a m.c
 have hd:f.b*f.b - 4*f.a*f.c < 0:=hf.2
 have ha:=hf.1
 have e:4*f.a*vl f.a f.b f.c m.a m.c=(2*f.a*m.a+f.b*m.c)*(2*f.a*m.a+f.b*m.c) + -(f.b*f.b - 4*f.a*f.c)*(m.c*m.c):=by unfold vl;grind
 have s1:=da (2*f.a*m.a+f.b*m.c)
 have s2:=da m.c
 rcases Int.lt_or_le 0 (vl f.a f.b f.c m.a m.c) with g | g
 ·exact g
 exfalso
 have l1:4*f.a*vl f.a f.b f.c m.a m.c≤0:=Int.mul_nonpos_of_nonneg_of_nonpos (by omega) g
 have l2:0≤-(f.b*f.b - 4*f.a*f.c)*(m.c*m.c):=Int.mul_nonneg (by omega) s2
 have l3:-(f.b*f.b - 4*f.a*f.c)*(m.c*m.c)=0:=by omega
 have c0:m.c=0:=by
  rcases Int.mul_eq_zero.1 l3 with q | q
  ·omega
  rcases Int.mul_eq_zero.1 q with q | q <;> exact q
 rw [c0] at e
 have s3:(2*f.a*m.a)*(2*f.a*m.a)=0:=by
  have e2:(2*f.a*m.a+f.b*0)*(2*f.a*m.a+f.b*0)=(2*f.a*m.a)*(2*f.a*m.a):=by simp
  rw [c0,e2] at s1
  rw [e2] at e
  have:-(f.b*f.b - 4*f.a*f.c)*(0*0)=0:=by simp
  rw [this] at e
  rw [c0] at l1
  omega
 have a0:m.a=0:=by
  have:=Int.mul_eq_zero.1 s3
  have h4:2*f.a*m.a=0:=by rcases this with q | q <;> exact q
  rcases Int.mul_eq_zero.1 h4 with q | q
  ·omega
  exact q
 unfold Mt.det at h
 rw [c0,a0] at h
 simp at h
section
variable {s d:Int}
theorem BY {a b c:Int} (h:prim a b c=true):∃ x y z:Int,a*x+b*y+c*z=1:=by
 obtain ⟨y,z,h1⟩:=bez b c
 obtain ⟨x,w,h2⟩:=bez a (Int.gcd b c:Nat)
 unfold prim at h
 rw [dT0 h,← h1] at h2
 exact ⟨x,y*w,z*w,by grind⟩
end
structure Cl (D:Int) (f:Fm):Prop where
 pos:f.pos
 prim:AM.prim f.a f.b f.c=true
 disc:dsc f.a f.b f.c=D
section
variable {D:Int}
theorem Cl.app {f:Fm} {M:Mt} (h:Cl D f) (hM:M.det=1):Cl D (f.app M):=by
 refine ⟨BZ h.pos hM,?_,?_⟩
 ·rw [← tF f (by rw [hM];rfl)];exact h.prim
 have:(f.app M).disc=f.disc:=ly hM
 exact this.trans h.disc
theorem Cl.rd {f:Fm} (h:Cl D f):Cl D f.rd:=by
 obtain ⟨m,h1,h2⟩:=tv h.pos
 rw [h2];exact h.app h1
theorem Cl.rd_Rd {f:Fm} (h:Cl D f):Rd f.rd:=Rd.rdF h.pos
theorem Cl.rd_rd {f:Fm} (h:Cl D f):f.rd.rd=f.rd:=by
 obtain ⟨m,h1,h2⟩:=tv h.pos
 have:=wa h.pos h1
 rwa [← h2] at this
end
end
section
open Go Go.RowKit
def xg:Nat→Int→Int→Int × Int
 | 0,a,_=>(if 0≤a then 1 else -1,0)
 | n+1,a,b=>if b=0 then (if 0≤a then 1 else -1,0) else ((xg n b (a % b)).2,(xg n b (a % b)).1 - (a / b)*(xg n b (a % b)).2)
theorem Cx (a b:Int):Int.gcd b (a % b)=Int.gcd a b:=by
 refine Nat.dvd_antisymm ?_ ?_
 ·refine Int.dvd_gcd ?_ (Int.gcd_dvd_left ..)
  have h1:=Int.gcd_dvd_left (a:=b) (b:=a % b)
  have h2:=Int.gcd_dvd_right (a:=b) (b:=a % b)
  have h3:=Int.dvd_add (Int.dvd_trans h1 ⟨a / b,rfl⟩) h2
  rwa [Int.mul_ediv_add_emod a b] at h3
 refine Int.dvd_gcd (Int.gcd_dvd_right ..) ?_
 have h1:=Int.gcd_dvd_left (a:=a) (b:=b)
 have h2:=Int.gcd_dvd_right (a:=a) (b:=b)
 have e3:a % b=a - b*(a / b):=by have:=Int.mul_ediv_add_emod a b;omega
 rw [e3]
 exact Int.dvd_sub h1 (Int.dvd_trans h2 ⟨_,rfl⟩)
theorem sy:∀ (n:Nat) (a b:Int),b.natAbs≤n→(xg n a b).1*a+(xg n a b).2*b=(Int.gcd a b:Nat)
 | 0,a,b,h=>by
  have hb:b=0:=by omega
  subst hb
  rw [Int.gcd_zero_right]
  unfold xg
  simp only
  split <;> omega
 | n+1,a,b,h=>by
  unfold xg
  by_cases hb:b=0
  ·subst hb
   rw [if_pos rfl,Int.gcd_zero_right]
   simp only
   split <;> omega
  rw [if_neg hb]
  have h1:(a % b).natAbs < b.natAbs:=by
   have:=Int.emod_nonneg a hb
   have:=Int.emod_lt a hb
   omega
  have e:=sy n b (a % b) (by omega)
  rw [Cx] at e
  have em:=Int.mul_ediv_add_emod a b
  rw [← e]
  simp only
  generalize xg n b (a % b)=p
  generalize a / b=q at *
  generalize a % b=r at *
  subst em
  grind
section
end
end
section
open Go Go.RowKit
def gm:List Int→Int
 | []=>1
 | x :: l=>x*gm l
theorem xO {l m:List Int} (h:l.Perm m):gm l=gm m:=by
 induction h with
 | nil=>rfl
 | cons x _ ih=>simp only [gm,ih]
 | swap x y l=>simp only [gm];grind
 | trans _ _ h1 h2=>exact h1.trans h2
theorem rD {α:Type} (f g:α→Int):∀ l:List α,gm (l.map fun x=>f x*g x)=gm (l.map f)*gm (l.map g)
 | []=>rfl
 | x :: l=>by simp only [List.map_cons,gm,rD f g l];grind
theorem gU {α:Type} (f g:α→Int):∀ l:List α,bN (l.map fun x=>f x+g x)=bN (l.map f)+bN (l.map g)
 | []=>rfl
 | x :: l=>by simp only [List.map_cons,bN,gU f g l];omega
theorem mI {α:Type} (c:Int) (f:α→Int):∀ l:List α,bN (l.map fun x=>c*f x)=c*bN (l.map f)
 | []=>by simp [bN]
 | x :: l=>by simp only [List.map_cons,bN,mI c f l];grind
def rg (n:Int):List Int:=(List.range (n / 2).toNat).map fun (i:Nat)=>(i:Int)+1
theorem fE {n x:Int} (_hn:0 < n):x∈rg n↔1≤x∧x≤n / 2:=by
 unfold rg
 rw [List.mem_map]
 constructor
 ·rintro ⟨i,hi,rfl⟩
  rw [List.mem_range] at hi
  omega
 rintro ⟨h1,h2⟩
 exact ⟨(x - 1).toNat,by rw [List.mem_range];omega,by omega⟩
theorem to (n:Int):(rg n).Nodup:=by
 unfold rg
 refine List.Pairwise.map (R:=(· ≠ ·)) _ (fun a b h e=>h ?_) (List.nodup_range)
 omega
def sgR (n r:Int):Int:=if r % n≤n / 2 then 1 else -1
def abR (n r:Int):Int:=if r % n≤n / 2 then r % n else n - r % n
def SS (a n:Int):Int:=gm ((rg n).map fun x=>sgR n (a*x))
section
variable {n:Int}
theorem vX (r:Int):sgR n r=sgR n (r % n):=by unfold sgR;rw [Int.emod_emod]
theorem mJ {r t:Int} (h:n ∣ r - t):sgR n r=sgR n t:=by
 rw [vX r,vX t,(Int.emod_eq_emod_iff_emod_sub_eq_zero).2 (Int.emod_eq_zero_of_dvd h)]
theorem sO (h0:0 < n) {r:Int} (hr:r % n≠0):1≤abR n r∧abR n r≤n / 2:=by
 have h1:=Int.emod_nonneg r (show n≠0 by omega)
 have h2:=Int.emod_lt_of_pos r h0
 unfold abR
 split <;> omega
theorem px (r:Int):n ∣ r - sgR n r*abR n r:=by
 have e:=Int.mul_ediv_add_emod r n
 unfold sgR abR
 split
 ·exact ⟨r / n,by omega⟩
 exact ⟨r / n+1,by rw [Int.mul_add];omega⟩
theorem FJ (h0:0 < n) (ho:n % 2=1) {r:Int} (hr:r % n≠0):sgR n (-r)=-sgR n r:=by
 have h1:=Int.emod_nonneg r (show n≠0 by omega)
 have h2:=Int.emod_lt_of_pos r h0
 have e:(-r) % n=n - r % n:=by
  have e1:=Int.mul_ediv_add_emod r n
  have e2:-r=(n - r % n)+n*(-(r / n) - 1):=by rw [Int.mul_sub,Int.mul_neg];omega
  rw [e2,Int.add_mul_emod_self_left,Int.emod_eq_of_lt (by omega) (by omega)]
 unfold sgR
 rw [e]
 by_cases g:r % n≤n / 2
 ·rw [if_pos g,if_neg (by omega)]
 rw [if_neg g,if_pos (by omega)];rfl
theorem li (r:Int):sgR n r=1∨sgR n r=-1:=by unfold sgR;split;exact .inl rfl;exact .inr rfl
def Cop (a n:Int):Prop:=Int.gcd a n=1
instance Cop.dec (a n:Int):Decidable (Cop a n):=inferInstanceAs (Decidable (Int.gcd a n=1))
theorem Cop.symm {a n:Int} (h:Cop a n):Cop n a:=by unfold Cop at h ⊢;rw [Int.gcd_comm];exact h
theorem Cop.inv {a:Int} (h:Cop a n):∃ b,n ∣ a*b - 1:=by
 obtain ⟨x,y,e⟩:=bez a n
 rw [h] at e
 exact ⟨x,⟨-y,by rw [Int.mul_neg];omega⟩⟩
theorem Cop.of_inv {a b:Int} (h:n ∣ a*b - 1):Cop a n:=by
 obtain ⟨q,hq⟩:=h
 have h1:((Int.gcd a n:Nat):Int) ∣ 1:=by
  have l:=Int.gcd_dvd_left (a:=a) (b:=n)
  have r:=Int.gcd_dvd_right (a:=a) (b:=n)
  have e:(1:Int)=a*b - n*q:=by omega
  rw [e]
  exact Int.dvd_sub (gh l _) (gh r _)
 have:=Int.le_of_dvd (by omega) h1
 have h2:Int.gcd a n≠0:=fun e=>by rw [e] at h1;have:=Int.zero_dvd.1 h1;omega
 unfold Cop
 omega
theorem Cop.mul {a b:Int} (h:Cop a n) (h1:Cop b n):Cop (a*b) n:=by
 obtain ⟨x,p,hp⟩:=h.inv
 obtain ⟨y,q,hq⟩:=h1.inv
 refine Cop.of_inv (b:=x*y) ⟨p*(b*y)+q,?_⟩
 have e:a*x=1+n*p:=by omega
 have e2:b*y=1+n*q:=by omega
 have:a*b*(x*y)=(a*x)*(b*y):=by grind
 rw [this,e,e2];grind
theorem Cop.left {a b:Int} (h:Cop (a*b) n):Cop a n:=by
 obtain ⟨x,q,hq⟩:=h.inv
 exact Cop.of_inv (b:=b*x) ⟨q,by rw [← hq];grind⟩
theorem Cop.right {a b:Int} (h:Cop (a*b) n):Cop b n:=Cop.left (a:=b) (b:=a) (by rw [Int.mul_comm];exact h)
theorem Cop.nz {a x:Int} (_h0:0 < n) (h:Cop a n) (hx:1≤x∧x≤n / 2):(a*x) % n≠0:=by
 intro e
 obtain ⟨b,q,hq⟩:=h.inv
 obtain ⟨p,hp⟩:=Int.dvd_of_emod_eq_zero e
 have:n ∣ x:=⟨b*p - q*x,by
  have e1:a*b*x - n*q*x=x:=by (have:a*b=1+n*q:=by omega);rw [this];grind
  have e2:a*b*x=b*(n*p):=by rw [← hp];grind
  rw [← e1,e2];grind⟩
 have:=Int.le_of_dvd (by omega) this
 omega
theorem gi {a b:Int} (h:n ∣ a - b) (hb:Cop a n):Cop b n:=by
 obtain ⟨x,q,hq⟩:=hb.inv
 obtain ⟨p,hp⟩:=h
 refine Cop.of_inv (b:=x) ⟨q - p*x,?_⟩
 have e:b=a - n*p:=by omega
 rw [e]
 have e2:a*x=1+n*q:=by omega
 have:(a - n*p)*x=a*x - n*(p*x):=by grind
 rw [this,e2];grind
theorem xa (h0:0 < n) (ho:n % 2=1) {b:Int} (hb:Cop b n):((rg n).map fun x=>abR n (b*x)).Perm (rg n):=by
 have inj:∀ x y,1≤x∧x≤n / 2→1≤y∧y≤n / 2→abR n (b*x)=abR n (b*y)→x=y:=by
  intro x y hx hy e
  obtain ⟨c,q,hq⟩:=hb.inv
  have h1:=px (n:=n) (b*x)
  have h2:=px (n:=n) (b*y)
  rw [← e] at h2
  generalize abR n (b*x)=w at h1 h2
  have h3:n ∣ x - y∨n ∣ x+y:=by
   have cx:∀ z,n ∣ b*z→n ∣ z:=fun z ⟨p,hp⟩=>⟨c*p - q*z,by
    have e1:b*c*z - n*q*z=z:=by (have:b*c=1+n*q:=by omega);rw [this];grind
    have e2:b*c*z=c*(n*p):=by rw [← hp];grind
    rw [← e1,e2];grind⟩
   rcases li (n:=n) (b*x) with s1 | s1 <;> rcases li (n:=n) (b*y) with s2 | s2 <;> rw [s1] at h1 <;> rw [s2] at h2
   ·left;refine cx _ ?_;have:=Int.dvd_sub h1 h2;have e:b*x - 1*w - (b*y - 1*w)=b*(x - y):=by grind
    rwa [e] at this
   ·right;refine cx _ ?_;have:=Int.dvd_add h1 h2;have e:b*x - 1*w+(b*y - -1*w)=b*(x+y):=by grind
    rwa [e] at this
   ·right;refine cx _ ?_;have:=Int.dvd_add h1 h2;have e:b*x - -1*w+(b*y - 1*w)=b*(x+y):=by grind
    rwa [e] at this
   left;refine cx _ ?_;have:=Int.dvd_sub h1 h2;have e:b*x - -1*w - (b*y - -1*w)=b*(x - y):=by grind
   rwa [e] at this
  rcases h3 with ⟨p,hp⟩ | ⟨p,hp⟩
  ·have:p=0:=by
    rcases (show p≤-1∨p=0∨1≤p by omega) with g | g | g
    ·have:n*p≤n*(-1):=Int.mul_le_mul_of_nonneg_left g (by omega)
     omega
    ·exact g
    have:n*1≤n*p:=Int.mul_le_mul_of_nonneg_left g (by omega)
    omega
   subst this;omega
  exfalso
  rcases (show p≤0∨1≤p by omega) with g | g
  ·have:n*p≤n*0:=Int.mul_le_mul_of_nonneg_left g (by omega)
   omega
  have:n*1≤n*p:=Int.mul_le_mul_of_nonneg_left g (by omega)
  omega
 refine (List.perm_ext_iff_of_nodup ?_ (to n)).2 (fun y=>?_)
 ·unfold List.Nodup
  rw [List.pairwise_map]
  refine List.Pairwise.imp_of_mem (R:=(· ≠ ·)) (fun {x y} hx hy h e=>h ?_) (to n)
  exact inj x y ((fE h0).1 hx) ((fE h0).1 hy) e
 rw [List.mem_map,fE h0]
 constructor
 ·rintro ⟨x,hx,rfl⟩
  exact sO h0 (hb.nz h0 ((fE h0).1 hx))
 intro hy
 obtain ⟨c,hc⟩:=hb.inv
 have hcc:Cop c n:=Cop.of_inv (b:=b) (by rw [Int.mul_comm];exact hc)
 have hz:=hcc.nz h0 hy
 have hx:=sO h0 hz
 refine ⟨abR n (c*y),(fE h0).2 hx,?_⟩
 have h1:=px (n:=n) (c*y)
 have h2:=px (n:=n) (b*abR n (c*y))
 have h3:=sO h0 (hb.nz h0 hx)
 generalize abR n (c*y)=x at *
 generalize abR n (b*x)=w at *
 have key:n ∣ y - w∨n ∣ y+w:=by
  obtain ⟨p,hp⟩:=h1
  obtain ⟨q,hq⟩:=h2
  obtain ⟨r,hr⟩:=hc
  rcases li (n:=n) (c*y) with s1 | s1 <;> rcases li (n:=n) (b*x) with s2 | s2 <;> rw [s1] at hp <;> rw [s2] at hq
  ·left;refine ⟨b*p+q - r*y,?_⟩
   have e:y=b*c*y - n*r*y:=by (have:b*c=1+n*r:=by omega);rw [this];grind
   have e2:b*c*y=b*(n*p+x):=by (have:c*y=n*p+x:=by omega);rw [Int.mul_assoc,this]
   grind
  ·right;refine ⟨b*p+q - r*y,?_⟩
   have e:y=b*c*y - n*r*y:=by (have:b*c=1+n*r:=by omega);rw [this];grind
   have e2:b*c*y=b*(n*p+x):=by (have:c*y=n*p+x:=by omega);rw [Int.mul_assoc,this]
   grind
  ·right;refine ⟨b*p - q - r*y,?_⟩
   have e:y=b*c*y - n*r*y:=by (have:b*c=1+n*r:=by omega);rw [this];grind
   have e2:b*c*y=b*(n*p - x):=by (have:c*y=n*p - x:=by omega);rw [Int.mul_assoc,this]
   grind
  left;refine ⟨b*p - q - r*y,?_⟩
  have e:y=b*c*y - n*r*y:=by (have:b*c=1+n*r:=by omega);rw [this];grind
  have e2:b*c*y=b*(n*p - x):=by (have:c*y=n*p - x:=by omega);rw [Int.mul_assoc,this]
  grind
 rcases key with ⟨p,hp⟩ | ⟨p,hp⟩
 ·rcases (show p≤-1∨p=0∨1≤p by omega) with g | g | g
  ·have:n*p≤n*(-1):=Int.mul_le_mul_of_nonneg_left g (by omega)
   omega
  ·subst g;omega
  have:n*1≤n*p:=Int.mul_le_mul_of_nonneg_left g (by omega)
  omega
 exfalso
 rcases (show p≤0∨1≤p by omega) with g | g
 ·have:n*p≤n*0:=Int.mul_le_mul_of_nonneg_left g (by omega)
  omega
 have:n*1≤n*p:=Int.mul_le_mul_of_nonneg_left g (by omega)
 omega
theorem AS (h0:0 < n) (ho:n % 2=1) {a b:Int} (ha:Cop a n) (hb:Cop b n):SS (a*b) n=SS a n*SS b n:=by
 have e:(rg n).map (fun x=>sgR n (a*b*x))=(rg n).map (fun x=>sgR n (a*abR n (b*x))*sgR n (b*x)):=by
  refine List.map_congr_left (fun x hx=>?_)
  have hx:=(fE h0).1 hx
  have h1:=px (n:=n) (b*x)
  have h2:=sO h0 (hb.nz h0 hx)
  have h3:=ha.nz h0 h2
  obtain ⟨q,hq⟩:=h1
  rcases li (n:=n) (b*x) with s | s
  ·rw [s] at hq ⊢
   rw [Int.mul_one]
   refine mJ ⟨a*q,?_⟩
   have:b*x=n*q+abR n (b*x):=by omega
   rw [Int.mul_assoc,this];grind
  rw [s] at hq ⊢
  rw [Int.mul_neg,Int.mul_one,← FJ h0 ho h3]
  refine mJ ⟨a*q,?_⟩
  have:b*x=n*q - abR n (b*x):=by omega
  rw [Int.mul_assoc,this];grind
 unfold SS
 rw [e,rD]
 congr 1
 have hp:=(xa h0 ho hb).map (fun y=>sgR n (a*y))
 rw [List.map_map] at hp
 exact xO hp
theorem o8 {a b:Int} (h:n ∣ a - b):SS a n=SS b n:=by
 unfold SS
 congr 1
 refine List.map_congr_left (fun x _=>mJ ?_)
 have:a*x - b*x=(a - b)*x:=by grind
 rw [this]
 exact gh h x
theorem EF (a:Int):SS a n=1∨SS a n=-1:=by
 unfold SS
 induction rg n with
 | nil=>exact .inl rfl
 | cons x l ih =>
  simp only [List.map_cons,gm]
  rcases li (n:=n) (a*x) with h | h <;> rcases ih with g | g <;> rw [h,g] <;> simp
end
end
section
open Go Go.RowKit
theorem dA {α:Type} {f g:α→Int}:∀ {l:List α},(∀ x∈l,f x=g x)→bN (l.map f)=bN (l.map g)
 | [],_=>rfl
 | x :: l,h=>by
  simp only [List.map_cons,bN]
  rw [h x List.mem_cons_self,dA (fun y hy=>h y (List.mem_cons_of_mem _ hy))]
theorem mH {α:Type}:∀ l:List α,bN (l.map fun _=>(0:Int))=0
 | []=>rfl
 | x :: l=>by simp only [List.map_cons,bN,mH l];rfl
theorem rf {α β:Type} (f:α→β→Int) (m:List β):∀ l:List α,bN (l.map fun x=>bN (m.map fun y=>f x y))=bN (m.map fun y=>bN (l.map fun x=>f x y))
 | []=>by simp only [List.map_nil,bN];exact (mH m).symm
 | x :: l=>by
  simp only [List.map_cons,bN]
  rw [rf f m l,← gU]
theorem sZ {α:Type} {f g:α→Int}:∀ {l:List α},(∀ x∈l,(f x - g x) % 2=0)→(bN (l.map f) - bN (l.map g)) % 2=0
 | [],_=>rfl
 | x :: l,h=>by
  simp only [List.map_cons,bN]
  have h1:=h x List.mem_cons_self
  have h2:=sZ (fun y hy=>h y (List.mem_cons_of_mem _ hy))
  omega
def par (k:Int):Int:=if k % 2=0 then 1 else -1
theorem wu (a b:Int):par (a+b)=par a*par b:=by
 unfold par
 rcases (show a % 2=0∨a % 2=1 by omega) with h | h <;> rcases (show b % 2=0∨b % 2=1 by omega) with g | g
 ·rw [if_pos (by omega),if_pos h,if_pos g];rfl
 ·rw [if_neg (by omega),if_pos h,if_neg (by omega)];rfl
 ·rw [if_neg (by omega),if_neg (by omega),if_pos g];rfl
 rw [if_pos (by omega),if_neg (by omega),if_neg (by omega)];rfl
theorem rF {a b:Int} (h:(a - b) % 2=0):par a=par b:=by
 unfold par
 by_cases g:a % 2=0
 ·rw [if_pos g,if_pos (by omega)]
 rw [if_neg g,if_neg (by omega)]
def up (n r:Int):Int:=if r % n≤n / 2 then 0 else 1
theorem tE (n a:Int):∀ l:List Int,gm (l.map fun x=>sgR n (a*x))=par (bN (l.map fun x=>up n (a*x)))
 | []=>rfl
 | x :: l=>by
  simp only [List.map_cons,gm,bN]
  rw [wu,tE n a l]
  congr 1
  unfold sgR up
  split <;> rfl
section
variable {n:Int}
theorem vj (a n:Int):SS a n=par (bN ((rg n).map fun x=>up n (a*x))):=tE n a (rg n)
theorem Eo (h0:0 < n) (ho:n % 2=1) {a:Int} (ha:Cop a n) :
  (a*bN (rg n) - (bN ((rg n).map fun x=>a*x / n)+bN (rg n)+bN ((rg n).map fun x=>up n (a*x)))) % 2=0:=by
 have e1:a*bN (rg n)=bN ((rg n).map fun x=>a*x):=by
  rw [mI];simp
 have e2:bN ((rg n).map fun x=>abR n (a*x))=bN (rg n):=yZ (xa h0 ho ha)
 rw [e1,← e2,← gU,← gU]
 refine sZ (fun x hx=>?_)
 have e:=Int.mul_ediv_add_emod (a*x) n
 obtain ⟨q,hq⟩:∃ q,n=2*q+1:=⟨n / 2,by omega⟩
 unfold abR up
 generalize a*x / n=w at *
 generalize (a*x) % n=r at *
 have e3:n*w=2*(q*w)+w:=by rw [hq];grind
 split <;> omega
theorem AR (h0:0 < n) (ho:n % 2=1) {a:Int} (ha:Cop a n) (hao:a % 2=1):SS a n=par (bN ((rg n).map fun x=>a*x / n)):=by
 rw [vj]
 refine rF ?_
 have h:=Eo h0 ho ha
 generalize bN (rg n)=S at *
 generalize bN ((rg n).map fun x=>a*x / n)=F at *
 generalize bN ((rg n).map fun x=>up n (a*x))=N at *
 obtain ⟨q,hq⟩:∃ q,a=2*q+1:=⟨a / 2,by omega⟩
 have e3:a*S=2*(q*S)+S:=by rw [hq];grind
 omega
theorem yY:∀ k:Nat,2*bN ((List.range k).map fun (i:Nat)=>(i:Int)+1)=k*(k+1)
 | 0=>rfl
 | k+1=>by
  rw [List.range_succ,List.map_append,List.map_cons,List.map_nil,rh,Int.mul_add,yY k]
  rw [show ((k+1:Nat):Int)=(k:Int)+1 by omega]
  grind
theorem vi (h0:0 < n) (ho:n % 2=1):SS 2 n=sg8 n:=by
 have hc:Cop 2 n:=Cop.of_inv (b:=(n+1) / 2) ⟨1,by omega⟩
 rw [vj]
 have h:=Eo h0 ho hc
 have z:bN ((rg n).map fun x=>2*x / n)=0:=by
  rw [dA (g:=fun _=>(0:Int)) (fun x hx=>?_),mH]
  have hx:=(fE h0).1 hx
  exact Int.ediv_eq_zero_of_lt (by omega) (by omega)
 rw [z] at h
 have hs:=yY (n / 2).toNat
 have hs':bN ((List.range (n / 2).toNat).map fun (i:Nat)=>(i:Int)+1)=bN (rg n):=rfl
 rw [hs'] at hs
 rw [Int.toNat_of_nonneg (by omega)] at hs
 generalize bN ((rg n).map fun x=>up n (2*x))=N at *
 generalize bN (rg n)=S at *
 obtain ⟨q,r,hq,hr0,hr⟩:∃ q r,n / 2=4*q+r∧0≤r∧r < 4:=⟨n / 2 / 4,n / 2 % 4,by omega,by omega,by omega⟩
 rw [hq] at hs
 have e:(4*q+r)*(4*q+r+1)=8*(2*(q*q)+q*r)+4*q+r*(r+1):=by grind
 rw [e] at hs
 have h8:n % 8=2*r+1:=by omega
 unfold sg8 par
 rw [h8]
 generalize q*q=qq at hs
 generalize q*r=qr at hs
 rcases (show r=0∨r=1∨r=2∨r=3 by omega) with rfl | rfl | rfl | rfl
 ·rw [if_pos (by omega),if_pos (by omega)]
 ·rw [if_neg (by omega),if_neg (by omega),if_pos (by omega)]
 ·rw [if_neg (by omega),if_neg (by omega),if_neg (by omega),if_pos (by omega)]
 rw [if_pos (by omega),if_neg (by omega),if_neg (by omega),if_neg (by omega),if_pos (by omega)]
theorem uW:∀ (k:Nat) (q:Int),0≤q→q≤k→bN ((List.range k).map fun (i:Nat)=>if (i:Int)+1≤q then (1:Int) else 0)=q
 | 0,q,h,h1=>by simp [bN];omega
 | k+1,q,h,h1=>by
  rw [List.range_succ,List.map_append,List.map_cons,List.map_nil,rh]
  by_cases g:(k:Int)+1≤q
  ·have hq:q=(k:Int)+1:=by omega
   rw [if_pos g]
   have:=uW k k (by omega) (by omega)
   have e:bN ((List.range k).map fun (i:Nat)=>if (i:Int)+1≤q then (1:Int) else 0)=bN ((List.range k).map fun (i:Nat)=>if (i:Int)+1≤(k:Int) then (1:Int) else 0) :=
    dA (fun x hx=>by rw [List.mem_range] at hx;rw [if_pos (by omega),if_pos (by omega)])
   rw [e,this];omega
  rw [if_neg g,uW k q h (by omega)];omega
theorem uV {m q:Int} (h0:0 < m) (h:0≤q) (h1:q≤m / 2):bN ((rg m).map fun y=>if y≤q then (1:Int) else 0)=q:=by
 have:=uW (m / 2).toNat q h (by omega)
 unfold rg
 rw [List.map_map]
 exact this
theorem uk (m:Int) (h0:0 < m):bN ((rg m).map fun _=>(1:Int))=m / 2:=by
 have:=uV (m:=m) (q:=m / 2) h0 (by omega) (by omega)
 rw [← this]
 exact dA (fun y hy=>by rw [if_pos ((fE h0).1 hy).2])
theorem Mx {m:Int} (h0:0 < n) (ho:n % 2=1) (m0:0 < m) (mo:m % 2=1) (hc:Cop m n) :
  bN ((rg n).map fun x=>m*x / n)+bN ((rg m).map fun y=>n*y / m)=(m / 2)*(n / 2):=by
 have q1:∀ x∈rg n,m*x / n=bN ((rg m).map fun y=>if n*y≤m*x then (1:Int) else 0):=fun x hx=>by
  have hx:=(fE h0).1 hx
  have b0:0≤m*x / n:=Int.ediv_nonneg (Int.mul_nonneg (by omega) (by omega)) (by omega)
  have b1:m*x / n≤m / 2:=by
   have h2:m*x≤m*(n / 2):=Int.mul_le_mul_of_nonneg_left hx.2 (by omega)
   have h3:m*x / n*n≤m*x:=Int.ediv_mul_le _ (by omega)
   generalize m*x / n=w at *
   rcases Int.lt_or_le (m / 2) w with g | g
   ·exfalso
    have h4:(m / 2+1)*n≤w*n:=Int.mul_le_mul_of_nonneg_right g (by omega)
    obtain ⟨a,ha⟩:∃ a,m=2*a+1:=⟨m / 2,by omega⟩
    obtain ⟨b,hb⟩:∃ b,n=2*b+1:=⟨n / 2,by omega⟩
    rw [show m / 2=a by omega] at h4
    rw [show n / 2=b by omega] at h2
    have e1:(a+1)*n=a*n+n:=by grind
    have e2:m*b=2*(a*b)+b:=by rw [ha];grind
    have e3:a*n=2*(a*b)+a:=by rw [hb];grind
    omega
   exact g
  rw [← uV m0 b0 b1]
  refine dA (fun y _=>?_)
  have:y≤m*x / n↔n*y≤m*x:=by rw [Int.le_ediv_iff_mul_le h0,Int.mul_comm]
  by_cases g:y≤m*x / n
  ·rw [if_pos g,if_pos (this.1 g)]
  rw [if_neg g,if_neg (fun h=>g (this.2 h))]
 have q2:∀ y∈rg m,n*y / m=bN ((rg n).map fun x=>if m*x≤n*y then (1:Int) else 0):=fun y hy=>by
  have hy:=(fE m0).1 hy
  have b0:0≤n*y / m:=Int.ediv_nonneg (Int.mul_nonneg (by omega) (by omega)) (by omega)
  have b1:n*y / m≤n / 2:=by
   have h2:n*y≤n*(m / 2):=Int.mul_le_mul_of_nonneg_left hy.2 (by omega)
   have h3:n*y / m*m≤n*y:=Int.ediv_mul_le _ (by omega)
   generalize n*y / m=w at *
   rcases Int.lt_or_le (n / 2) w with g | g
   ·exfalso
    have h4:(n / 2+1)*m≤w*m:=Int.mul_le_mul_of_nonneg_right g (by omega)
    obtain ⟨a,ha⟩:∃ a,m=2*a+1:=⟨m / 2,by omega⟩
    obtain ⟨b,hb⟩:∃ b,n=2*b+1:=⟨n / 2,by omega⟩
    rw [show n / 2=b by omega] at h4
    rw [show m / 2=a by omega] at h2
    have e1:(b+1)*m=b*m+m:=by grind
    have e2:n*a=2*(a*b)+a:=by rw [hb];grind
    have e3:b*m=2*(a*b)+b:=by rw [ha];grind
    omega
   exact g
  rw [← uV h0 b0 b1]
  refine dA (fun x _=>?_)
  have:x≤n*y / m↔m*x≤n*y:=by rw [Int.le_ediv_iff_mul_le m0,Int.mul_comm]
  by_cases g:x≤n*y / m
  ·rw [if_pos g,if_pos (this.1 g)]
  rw [if_neg g,if_neg (fun h=>g (this.2 h))]
 have sw:=rf (fun x y=>if m*x≤n*y then (1:Int) else 0) (rg m) (rg n)
 rw [dA q1,dA q2,← sw,← gU]
 have e:∀ x∈rg n,(bN ((rg m).map fun y=>if n*y≤m*x then (1:Int) else 0)+bN ((rg m).map fun y=>if m*x≤n*y then (1:Int) else 0))=m / 2:=fun x hx=>by
  have hx:=(fE h0).1 hx
  rw [← gU,← uk m m0]
  refine dA (fun y hy=>?_)
  have hne:m*x≠n*y:=fun e=>hc.nz h0 hx (by rw [e];exact Int.mul_emod_right n y)
  by_cases g:n*y≤m*x
  ·rw [if_pos g,if_neg (by omega)];rfl
  rw [if_neg g,if_pos (by omega)];rfl
 rw [dA e]
 have:bN ((rg n).map fun _=>m / 2)=bN ((rg n).map fun x=>m / 2*(fun _=>(1:Int)) x):=dA (fun _ _=>by simp)
 rw [this,mI,uk n h0]
theorem K1 {m:Int} (h0:0 < n) (ho:n % 2=1) (m0:0 < m) (mo:m % 2=1) (hc:Cop m n):SS m n=(if m % 4=3∧n % 4=3 then -1 else 1)*SS n m:=by
 have hc':Cop n m:=by unfold Cop at hc ⊢;rw [Int.gcd_comm];exact hc
 rw [AR h0 ho hc mo,AR m0 mo hc' ho]
 have h:=Mx h0 ho m0 mo hc
 generalize bN ((rg n).map fun x=>m*x / n)=A at *
 generalize bN ((rg m).map fun y=>n*y / m)=B at *
 have e:par A=par (m / 2*(n / 2))*par B:=by
  rw [← wu]
  refine rF ?_
  omega
 rw [e]
 congr 1
 obtain ⟨a,r,ha,hr0,hr⟩:∃ a r,m / 2=2*a+r∧0≤r∧r < 2:=⟨m / 2 / 2,m / 2 % 2,by omega,by omega,by omega⟩
 obtain ⟨b,t,hb,ht0,ht⟩:∃ b t,n / 2=2*b+t∧0≤t∧t < 2:=⟨n / 2 / 2,n / 2 % 2,by omega,by omega,by omega⟩
 have e2:m / 2*(n / 2)=2*(2*(a*b)+a*t+r*b)+r*t:=by rw [ha,hb];grind
 rw [e2]
 unfold par
 rcases (show r=0∨r=1 by omega) with rfl | rfl <;> rcases (show t=0∨t=1 by omega) with rfl | rfl
 ·rw [if_pos (by omega),if_neg (by omega)]
 ·rw [if_pos (by omega),if_neg (by omega)]
 ·rw [if_pos (by omega),if_neg (by omega)]
 rw [if_neg (by omega),if_pos (by omega)]
theorem lA (ho:n % 2=1):Cop 2 n:=Cop.of_inv (b:=(n+1) / 2) ⟨1,by omega⟩
theorem wZ {a:Int} (h:c7 a=false):a % 2=0:=by
 have:¬ a % 2=1:=fun e=>by unfold c7 at h;rw [e] at h;cases h
 omega
theorem sX (_h0:0 < n) (ho:n % 2=1):∀ (B:Nat) (a:Int),a.natAbs≤B→0 < a→(Cop a n↔Cop (tw a).1 n)
 | 0,a,h,h1=>by omega
 | B+1,a,h,h1=>by
  cases g:c7 a
  ·have h2:=wZ g
   rw [lg (by omega) g]
   simp only
   rw [← sX _h0 ho B (a / 2) (by omega) (by omega)]
   have e:a=2*(a / 2):=by omega
   constructor
   ·intro c
    rw [e] at c
    exact c.right
   intro c
   rw [e]
   exact (lA ho).mul c
  rw [jG g]
theorem nE {a:Int} (h:a % 2=1):sg8 a*sg8 a=1:=by
 unfold sg8
 rcases (show a % 8=1∨a % 8=3∨a % 8=5∨a % 8=7 by omega) with e | e | e | e <;> rw [e] <;> decide
theorem DP (h0:0 < n) (ho:n % 2=1):∀ (B:Nat) (a:Int),a.natAbs≤B→0 < a→Cop (tw a).1 n→SS a n=(if (tw a).2 % 2=1 then sg8 n else 1)*SS (tw a).1 n
 | 0,a,h,h1,_=>by omega
 | B+1,a,h,h1,c=>by
  cases g:c7 a
  ·have h2:=wZ g
   rw [lg (by omega) g] at c ⊢
   simp only at c ⊢
   have ih:=DP h0 ho B (a / 2) (by omega) (by omega) c
   have hc:=(sX h0 ho _ (a / 2) (Nat.le_refl _) (by omega)).2 c
   have e:SS a n=SS 2 n*SS (a / 2) n:=by
    rw [← AS h0 ho (lA ho) hc,show 2*(a / 2)=a by omega]
   rw [e,vi h0 ho,ih,← Int.mul_assoc]
   congr 1
   have hs:=nE ho
   have hp:=(gC _ (a / 2) (Nat.le_refl _) (by omega)).2.2.2.1
   by_cases w:(tw (a / 2)).2 % 2=1
   ·rw [if_pos w,if_neg (by omega),hs]
   rw [if_neg w,if_pos (by omega)];omega
  rw [jG g,if_neg (by simp)];simp
theorem wL:∀ (F:Nat) (k a n:Int),a.natAbs < F→0≤a→0 < n→n % 2=1→(if (ma F k a n).2=1 then (ma F k a n).1 else 0)=if Cop a n then k*SS a n else 0
 | 0,k,a,n,h,_,_,_=>by omega
 | F+1,k,a,n,h,ha,hn,ho=>by
  rw [ma]
  by_cases h0:0 < a
  ·rw [if_pos h0]
   simp only
   have ht:=gC _ a (Nat.le_refl _) (by omega)
   have hp:=ht.2.2.2.2.2 h0
   have hodd:(tw a).1 % 2=1:=dT0 ht.2.2.1
   have hm:=Int.emod_nonneg n (show (tw a).1≠0 by omega)
   have hl:=Int.emod_lt_of_pos n hp
   rw [wL F _ (n % (tw a).1) (tw a).1 (by omega) hm hp hodd]
   have hs:=DP hn ho (a.natAbs) a (Nat.le_refl _) h0
   have hcop:Cop a n↔Cop (tw a).1 n:=sX hn ho (a.natAbs) a (Nat.le_refl _) h0
   have hcc:Cop (n % (tw a).1) (tw a).1↔Cop (tw a).1 n:=by
    have e:=Int.mul_ediv_add_emod n (tw a).1
    constructor
    ·intro g
     exact (gi (n:=(tw a).1) (a:=n % (tw a).1) (b:=n) ⟨-(n / (tw a).1),by rw [Int.mul_neg];omega⟩ g).symm
    intro g
    exact gi (n:=(tw a).1) (a:=n) (b:=n % (tw a).1) ⟨n / (tw a).1,by omega⟩ g.symm
   by_cases c:Cop (tw a).1 n
   ·rw [if_pos (hcc.2 c),if_pos (hcop.2 c),hs c,K1 hn ho hp hodd c]
    have e:SS (n % (tw a).1) (tw a).1=SS n (tw a).1:=o8 ⟨-(n / (tw a).1),by
     have:=Int.mul_ediv_add_emod n (tw a).1
     rw [Int.mul_neg];omega⟩
    rw [e]
    by_cases g:(tw a).1 % 4=3∧n % 4=3 <;> by_cases w:(tw a).2 % 2=1 <;> simp only [g,w,if_true,if_false,and_self] <;> grind
   rw [if_neg (fun g=>c (hcc.1 g)),if_neg (fun g=>c (hcop.1 g))]
  rw [if_neg h0]
  have:a=0:=by omega
  subst this
  simp only
  by_cases g:n=1
  ·subst g
   rw [if_pos rfl,if_pos (by unfold Cop;decide)]
   have:SS 0 1=1:=by decide
   rw [this];omega
  rw [if_neg g,if_neg (fun c=>g (by unfold Cop at c;rw [Int.gcd_zero_left] at c;omega))]
theorem w7 (n a:Int):Cop (a % n) n↔Cop a n:=by
 have e:=Int.mul_ediv_add_emod a n
 constructor
 ·intro g
  exact gi (n:=n) (a:=a % n) (b:=a) ⟨-(a / n),by rw [Int.mul_neg];omega⟩ g
 intro g
 exact gi (n:=n) (a:=a) (b:=a % n) ⟨a / n,by omega⟩ g
theorem K2 (n a:Int):SS (a % n) n=SS a n:=o8 ⟨-(a / n),by
 have:=Int.mul_ediv_add_emod a n
 rw [Int.mul_neg];omega⟩
theorem jD {a:Int} (hn:0 < n) (ho:n % 2=1):kr a n=if Cop a n then SS a n else 0:=by
 have hob:c7 n=true:=decide_eq_true ho
 have ea:((n.natAbs:Nat):Int)=n:=by omega
 have hk:k1K a n=1:=by unfold k1K k0K;rw [ea,jG hob,if_neg (by simp),if_neg (by omega)]
 rw [sJ (by omega) (by rw [hob];simp)]
 unfold RK_
 rw [ea,jG hob,hk]
 have h:=wL (a % n).natAbs.succ 1 (a % n) n (Nat.lt_succ_self _) (Int.emod_nonneg a (by omega)) hn ho
 rw [Int.one_mul,K2] at h
 by_cases c:Cop a n
 ·rw [if_pos ((w7 n a).2 c)] at h
  rw [if_pos c];exact h
 rw [if_neg (fun g=>c ((w7 n a).1 g))] at h
 rw [if_neg c];exact h
theorem di {a b:Int} (hn:0 < n) (ho:n % 2=1):kr (a*b) n=kr a n*kr b n:=by
 rw [jD hn ho,jD hn ho,jD hn ho]
 by_cases ca:Cop a n
 ·by_cases cb:Cop b n
  ·rw [if_pos ca,if_pos cb,if_pos (ca.mul cb),AS hn ho ca cb]
  rw [if_neg cb,if_neg (fun c=>cb c.right),Int.mul_zero]
 rw [if_neg ca,if_neg (fun c=>ca c.left),Int.zero_mul]
theorem zY {a b:Int} (hn:0 < n) (ho:n % 2=1) (h:n ∣ a - b):kr a n=kr b n:=by
 have h':n ∣ b - a:=by obtain ⟨q,hq⟩:=h;exact ⟨-q,by rw [Int.mul_neg];omega⟩
 rw [jD hn ho,jD hn ho,o8 h]
 by_cases c:Cop a n
 ·rw [if_pos c,if_pos (gi h c)]
 rw [if_neg c,if_neg (fun g=>c (gi h' g))]
theorem zW {a:Int} (hn:0 < n) (ho:n % 2=1) (c:Cop a n):kr (a*a) n=1:=by
 rw [di hn ho,jD hn ho,if_pos c]
 rcases EF (n:=n) a with h | h <;> rw [h] <;> rfl
end
end
section
open Go Go.RowKit
def Pr (p:Nat):Prop:=2≤p∧∀ x y:Nat,p ∣ x*y→p ∣ x∨p ∣ y
theorem pW:∀ (B n:Nat),n≤B→2≤n→∃ p,Pr p∧p ∣ n
 | 0,n,h,h2=>by omega
 | B+1,n,h,h2=>by
  by_cases hd:∃ d,2≤d∧d < n∧d ∣ n
  ·obtain ⟨d,d2,dn,hdn⟩:=hd
   obtain ⟨p,hp,hpd⟩:=pW B d (by omega) d2
   exact ⟨p,hp,Nat.dvd_trans hpd hdn⟩
  refine ⟨n,⟨h2,fun x y hxy=>?_⟩,Nat.dvd_refl n⟩
  have hg:=Nat.gcd_dvd_left n x
  have hle:=Nat.le_of_dvd (by omega) hg
  have h0:Nat.gcd n x≠0:=fun e=>by rw [e] at hg;have:=Nat.eq_zero_of_zero_dvd hg;omega
  rcases (show Nat.gcd n x=1∨Nat.gcd n x=n∨(2≤Nat.gcd n x∧Nat.gcd n x < n) by omega) with e | e | e
  ·exact .inr (Nat.Coprime.dvd_of_dvd_mul_left e hxy)
  ·left;rw [← e];exact Nat.gcd_dvd_right n x
  exact absurd ⟨_,e.1,e.2,hg⟩ hd
theorem tH {p n:Nat} (hp:Pr p) (h:¬ p ∣ n):Nat.Coprime n p:=by
 have hg:=Nat.gcd_dvd_right n p
 obtain ⟨q,hq⟩:=hg
 rcases hp.2 (Nat.gcd n p) q ⟨1,by rw [← hq];omega⟩ with g | g
 ·exact absurd (Nat.dvd_trans g (Nat.gcd_dvd_left n p)) h
 obtain ⟨w,hw⟩:=g
 have h1:p*1=p*(Nat.gcd n p*w):=by
  have:Nat.gcd n p*q=p*(Nat.gcd n p*w):=by rw [hw];grind
  omega
 have h2:=Nat.eq_of_mul_eq_mul_left (show 0 < p by have:=hp.1;omega) h1
 exact Nat.eq_one_of_mul_eq_one_right h2.symm
theorem lP {p:Nat} (hp:Pr p):∀ (B a:Nat),a≤B→1≤a→∃ k m,a=p ^ k*m∧¬ p ∣ m∧1≤m∧(p ∣ a→p*m≤a)
 | 0,a,h,h1=>by omega
 | B+1,a,h,h1=>by
  by_cases hd:p ∣ a
  ·obtain ⟨b,rfl⟩:=hd
   have hb:1≤b:=by
    rcases Nat.eq_zero_or_pos b with e | e
    ·subst e;simp at h1
    exact e
   have h2:2*b≤p*b:=Nat.mul_le_mul_right b hp.1
   obtain ⟨k,m,e,hm,m1,_⟩:=lP hp B b (by omega) hb
   refine ⟨k+1,m,by rw [e,Nat.pow_succ];grind,hm,m1,fun _=>Nat.mul_le_mul_left p ?_⟩
   rw [e]
   have:1≤p ^ k:=Nat.pow_pos (by have:=hp.1;omega)
   have:1*m≤p ^ k*m:=Nat.mul_le_mul_right m this
   omega
  exact ⟨0,a,by simp,hd,h1,fun x=>absurd x hd⟩
section
variable {A B C:Int}
theorem Kg {p:Nat} (hp:Pr p) (pf:prim A B C=true) {m:Nat} (hm:¬ p ∣ m) (x y:Int):∃ i j:Nat,i≤2∧j≤2∧¬ (p:Int) ∣ vl A B C (x+m*i) (y+m*j):=by
 by_cases h:∃ i j:Nat,i≤2∧j≤2∧¬ (p:Int) ∣ vl A B C (x+m*i) (y+m*j)
 ·exact h
 exfalso
 have all:∀ i j:Nat,i≤2→j≤2→(p:Int) ∣ vl A B C (x+m*i) (y+m*j):=fun i j hi hj=>by
  by_cases g:(p:Int) ∣ vl A B C (x+m*i) (y+m*j)
  ·exact g
  exact absurd ⟨i,j,hi,hj,g⟩ h
 have eu:∀ u v:Int,(p:Int) ∣ u*v→(p:Int) ∣ u∨(p:Int) ∣ v:=fun u v h=>by
  have h1:=Int.natAbs_dvd_natAbs.2 h
  rw [Int.natAbs_mul,Int.natAbs_natCast] at h1
  rcases hp.2 _ _ h1 with g | g
  ·exact .inl (Int.ofNat_dvd_left.2 g)
  exact .inr (Int.ofNat_dvd_left.2 g)
 have nm:¬ (p:Int) ∣ (m:Int):=fun h=>hm (Int.natCast_dvd_natCast.1 h)
 have a00:=all 0 0 (by omega) (by omega)
 have a10:=all 1 0 (by omega) (by omega)
 have a20:=all 2 0 (by omega) (by omega)
 have a01:=all 0 1 (by omega) (by omega)
 have a02:=all 0 2 (by omega) (by omega)
 have a11:=all 1 1 (by omega) (by omega)
 have a21:=all 2 1 (by omega) (by omega)
 have a12:=all 1 2 (by omega) (by omega)
 have hB:(p:Int) ∣ B:=by
  have h1:=Int.dvd_add (Int.dvd_sub (Int.dvd_sub a11 a10) a01) a00
  have e:vl A B C (x+m*(1:Nat)) (y+m*(1:Nat)) - vl A B C (x+m*(1:Nat)) (y+m*(0:Nat)) - vl A B C (x+m*(0:Nat)) (y+m*(1:Nat))+vl A B C (x+m*(0:Nat)) (y+m*(0:Nat))=B*(m*m):=by
   unfold vl;simp;grind
  rw [e] at h1
  rcases eu _ _ h1 with g | g
  ·exact g
  rcases eu _ _ g with g | g <;> exact absurd g nm
 have d1:∀ i j:Nat,i≤1→j≤2→(p:Int) ∣ A*(2*(x+m*i)+m):=fun i j hi hj=>by
  have h1:=Int.dvd_sub (all (i+1) 0 (by omega) (by omega)) (all i 0 (by omega) (by omega))
  have e:vl A B C (x+m*((i+1:Nat):Int)) (y+m*(0:Nat)) - vl A B C (x+m*(i:Int)) (y+m*(0:Nat))=m*(A*(2*(x+m*i)+m))+B*(m*y):=by
   unfold vl;simp;grind
  rw [e] at h1
  have h2:=Int.dvd_sub h1 (gh hB (m*y))
  rw [Int.add_sub_cancel] at h2
  rcases eu _ _ h2 with g | g
  ·exact absurd g nm
  exact g
 have d2:∀ j:Nat,j≤1→(p:Int) ∣ C*(2*(y+m*j)+m):=fun j hj=>by
  have h1:=Int.dvd_sub (all 0 (j+1) (by omega) (by omega)) (all 0 j (by omega) (by omega))
  have e:vl A B C (x+m*(0:Nat)) (y+m*((j+1:Nat):Int)) - vl A B C (x+m*(0:Nat)) (y+m*(j:Int))=m*(C*(2*(y+m*j)+m))+B*(m*x):=by
   unfold vl;simp;grind
  rw [e] at h1
  have h2:=Int.dvd_sub h1 (gh hB (m*x))
  rw [Int.add_sub_cancel] at h2
  rcases eu _ _ h2 with g | g
  ·exact absurd g nm
  exact g
 have fin:∀ (T z:Int),(p:Int) ∣ T*(2*(z+m*(0:Nat))+m)→(p:Int) ∣ T*(2*(z+m*(1:Nat))+m)→(p:Int) ∣ T:=fun T z h0 h1=>by
  by_cases hT:(p:Int) ∣ T
  ·exact hT
  exfalso
  have g0:=(eu _ _ h0).resolve_left hT
  have g1:=(eu _ _ h1).resolve_left hT
  have g2:=Int.dvd_sub g1 g0
  have e:2*(z+m*((1:Nat):Int))+m - (2*(z+m*((0:Nat):Int))+m)=2*(m:Int):=by simp;omega
  rw [e] at g2
  have p2:=(eu _ _ g2).resolve_right nm
  have g3:=Int.dvd_sub g0 (gh p2 (z+m*(0:Nat)))
  have e2:2*(z+m*((0:Nat):Int))+m - 2*(z+m*((0:Nat):Int))=(m:Int):=by omega
  rw [e2] at g3
  exact nm g3
 have hA:=fin A x (d1 0 0 (by omega) (by omega)) (d1 1 0 (by omega) (by omega))
 have hC:=fin C y (d2 0 (by omega)) (d2 1 (by omega))
 have h:=Int.dvd_coe_gcd hA (Int.dvd_coe_gcd hB hC)
 unfold prim at pf
 rw [dT0 pf] at h
 have:=Int.le_of_dvd (by omega) h
 have:=hp.1
 omega
theorem sV {m:Int} (x y i j:Int):m ∣ vl A B C (x+m*i) (y+m*j) - vl A B C x y :=
 ⟨A*(2*x*i+m*i*i)+B*(x*j+i*y+m*i*j)+C*(2*y*j+m*j*j),by unfold vl;grind⟩
theorem uQ {p:Nat} (hp:Pr p) (pf:prim A B C=true) {a:Nat} (h1:1≤a) (hpa:p ∣ a) (ih:∀ m,1≤m→m < a→∃ x y:Nat,Nat.Coprime (vl A B C x y).natAbs m∧x+y≤4*m) :
  ∃ x y:Nat,Nat.Coprime (vl A B C x y).natAbs a∧p*(x+y)≤8*a:=by
 obtain ⟨k,m,e,hm,m1,hle⟩:=lP hp a a (Nat.le_refl a) h1
 have hle:=hle hpa
 have hp2:=hp.1
 have hlt:m < a:=by
  have:2*m≤p*m:=Nat.mul_le_mul_right m hp2
  omega
 obtain ⟨x,y,hc,hb⟩:=ih m m1 hlt
 obtain ⟨i,j,hi,hj,hv⟩:=Kg hp pf hm (x:Int) (y:Int)
 have mi:m*i≤m*2:=Nat.mul_le_mul_left m hi
 have mj:m*j≤m*2:=Nat.mul_le_mul_left m hj
 refine ⟨x+m*i,y+m*j,?_,?_⟩
 ·have ex:((x+m*i:Nat):Int)=(x:Int)+m*i:=by rw [Int.natCast_add,Int.natCast_mul]
  have ey:((y+m*j:Nat):Int)=(y:Int)+m*j:=by rw [Int.natCast_add,Int.natCast_mul]
  rw [ex,ey]
  have c1:Nat.Coprime (vl A B C ((x:Int)+m*i) (y+m*j)).natAbs m:=by
   have hg:=sV (A:=A) (B:=B) (C:=C) (m:=(m:Int)) (x:Int) (y:Int) i j
   generalize vl A B C ((x:Int)+m*i) (y+m*j)=V at *
   generalize vl A B C (x:Int) (y:Int)=W at *
   have d1:=Nat.gcd_dvd_left V.natAbs m
   have d2:=Nat.gcd_dvd_right V.natAbs m
   have d3:((Nat.gcd V.natAbs m:Nat):Int) ∣ W:=by
    have e1:((Nat.gcd V.natAbs m:Nat):Int) ∣ V:=Int.ofNat_dvd_left.2 d1
    have e2:((Nat.gcd V.natAbs m:Nat):Int) ∣ (m:Int):=Int.natCast_dvd_natCast.2 d2
    have e3:=Int.dvd_sub e1 (Int.dvd_trans e2 hg)
    have:V - (V - W)=W:=by omega
    rwa [this] at e3
   have d4:=Nat.dvd_gcd (Int.ofNat_dvd_left.1 d3) d2
   unfold Nat.Coprime at hc ⊢
   rw [hc] at d4
   exact Nat.eq_one_of_dvd_one d4
  have c2:Nat.Coprime (vl A B C ((x:Int)+m*i) (y+m*j)).natAbs p:=tH hp (fun h=>hv (Int.ofNat_dvd_left.2 h))
  rw [e]
  exact Nat.Coprime.mul_right (Nat.Coprime.pow_right k c2) c1
 have:p*(x+m*i+(y+m*j))≤p*(8*m):=Nat.mul_le_mul_left p (by omega)
 have e2:p*(8*m)=8*(p*m):=Nat.mul_left_comm ..
 omega
theorem qZ (pf:prim A B C=true):∀ (n a:Nat),a≤n→1≤a→∃ x y:Nat,Nat.Coprime (vl A B C x y).natAbs a∧x+y≤4*a
 | 0,a,h,h1=>by omega
 | n+1,a,h,h1=>by
  by_cases h2:a=1
  ·subst h2
   exact ⟨0,0,Nat.coprime_one_right _,by omega⟩
  obtain ⟨p,hp,hpa⟩:=pW a a (Nat.le_refl a) (by omega)
  obtain ⟨x,y,hc,hb⟩:=uQ hp pf h1 hpa (fun m m1 hm=>qZ pf n m (by omega) m1)
  refine ⟨x,y,hc,?_⟩
  have:2*(x+y)≤p*(x+y):=Nat.mul_le_mul_right _ hp.1
  omega
theorem tG {q:Nat} (hq:Pr q) (h:q≤16):q ∣ 30030:=by
 have h2:=hq.1
 rcases (show q=2∨q=3∨q=4∨q=5∨q=6∨q=7∨q=8∨q=9∨q=10∨q=11∨q=12∨q=13∨q=14∨q=15∨q=16 by omega) with rfl | rfl | rfl | rfl | rfl | rfl | rfl | rfl | rfl | rfl | rfl | rfl | rfl | rfl | rfl
 ·decide
 ·decide
 ·rcases hq.2 2 2 (by decide) with g | g <;> revert g <;> decide
 ·decide
 ·rcases hq.2 2 3 (by decide) with g | g <;> revert g <;> decide
 ·decide
 ·rcases hq.2 2 4 (by decide) with g | g <;> revert g <;> decide
 ·rcases hq.2 3 3 (by decide) with g | g <;> revert g <;> decide
 ·rcases hq.2 2 5 (by decide) with g | g <;> revert g <;> decide
 ·decide
 ·rcases hq.2 3 4 (by decide) with g | g <;> revert g <;> decide
 ·decide
 ·rcases hq.2 2 7 (by decide) with g | g <;> revert g <;> decide
 ·rcases hq.2 3 5 (by decide) with g | g <;> revert g <;> decide
 rcases hq.2 4 4 (by decide) with g | g <;> revert g <;> decide
theorem wE {u v:Nat} (hv:1≤v) (h:¬ Nat.Coprime u v):∃ q,Pr q∧q ∣ u∧q ∣ v:=by
 have h0:Nat.gcd u v≠0:=fun e=>by
  have hg:=Nat.gcd_dvd_right u v
  rw [e] at hg
  have:=Nat.eq_zero_of_zero_dvd hg
  omega
 obtain ⟨q,hq,hd⟩:=pW (Nat.gcd u v) (Nat.gcd u v) (Nat.le_refl _) (by unfold Nat.Coprime at h;omega)
 exact ⟨q,hq,Nat.dvd_trans hd (Nat.gcd_dvd_left u v),Nat.dvd_trans hd (Nat.gcd_dvd_right u v)⟩
theorem KG (pf:prim A B C=true) {a:Nat} (h1:1≤a) (h2:a < 18446744073709551616):∃ x y:Nat,Nat.Coprime (vl A B C x y).natAbs a∧x+y≤9000000000000000000:=by
 by_cases h:∃ p,Pr p∧p ∣ a∧17≤p
 ·obtain ⟨p,hp,hpa,h17⟩:=h
  obtain ⟨x,y,hc,hb⟩:=uQ hp pf h1 hpa (fun m m1 _=>qZ pf m m (Nat.le_refl m) m1)
  refine ⟨x,y,hc,?_⟩
  have:17*(x+y)≤p*(x+y):=Nat.mul_le_mul_right _ h17
  omega
 obtain ⟨x,y,hc,hb⟩:=qZ pf 30030 30030 (by omega) (by omega)
 refine ⟨x,y,?_,by omega⟩
 by_cases g:Nat.Coprime (vl A B C x y).natAbs a
 ·exact g
 exfalso
 obtain ⟨q,hq,d1,d2⟩:=wE h1 g
 have h16:q≤16:=by
  rcases Nat.lt_or_ge 16 q with g | g
  ·exact absurd ⟨q,hq,d2,g⟩ h
  exact g
 have d3:=Nat.dvd_gcd d1 (tG hq h16)
 rw [hc] at d3
 have:=Nat.le_of_dvd (by omega) d3
 have:=hq.1
 omega
theorem A0 (g x y:Int):vl A B C (g*x) (g*y)=g*g*vl A B C x y:=by unfold vl;grind
theorem CR (pf:prim A B C=true) {a:Nat} (h1:1≤a) (h2:a < 18446744073709551616):∃ x y:Nat,Nat.gcd x y=1∧Nat.Coprime (vl A B C x y).natAbs a∧1≤x+y∧x+y≤9000000000000000000:=by
 obtain ⟨x,y,hc,hb⟩:=KG pf h1 h2
 by_cases h0:x=0∧y=0
 ·obtain ⟨rfl,rfl⟩:=h0
  have e:vl A B C ((0:Nat):Int) ((0:Nat):Int)=0:=by unfold vl;simp
  rw [e] at hc
  have ha:a=1:=by unfold Nat.Coprime at hc;simpa using hc
  subst ha
  exact ⟨1,0,rfl,Nat.coprime_one_right _,by omega,by omega⟩
 obtain ⟨u,hu⟩:=Nat.gcd_dvd_left x y
 obtain ⟨v,hv⟩:=Nat.gcd_dvd_right x y
 have hg:0 < Nat.gcd x y:=by
  rcases Nat.eq_zero_or_pos (Nat.gcd x y) with e | e
  ·have:=Nat.eq_zero_of_gcd_eq_zero_left e
   have:=Nat.eq_zero_of_gcd_eq_zero_right e
   omega
  exact e
 have hcop:Nat.gcd u v=1:=by
  have:Nat.gcd x y*Nat.gcd u v=Nat.gcd x y*1:=by
   rw [← Nat.gcd_mul_left,← hu,← hv,Nat.mul_one]
  exact Nat.eq_of_mul_eq_mul_left hg this
 generalize Nat.gcd x y=g at *
 have l1:1*u≤g*u:=Nat.mul_le_mul_right u hg
 have l2:1*v≤g*v:=Nat.mul_le_mul_right v hg
 refine ⟨u,v,hcop,?_,?_,by omega⟩
 ·subst hu hv
  rw [Int.natCast_mul,Int.natCast_mul,A0,Int.natAbs_mul] at hc
  exact Nat.Coprime.coprime_mul_left hc
 rcases Nat.eq_zero_or_pos (u+v) with e | e
 ·have:u=0:=by omega
  have:v=0:=by omega
  subst u v
  simp at hcop
 exact e
end
end
section
open Go Go.RowKit
def bzU (a b:Int):Int:=if b=0 then sgn a else (xg b.natAbs a b).1 % (b / (Int.gcd a b:Nat))
def bzV (a b:Int):Int:=if b=0 then 0 else ((Int.gcd a b:Nat) - bzU a b*a) / b
theorem uD {a b:Int} (hb:b≠0):(0:Int) < (Int.gcd a b:Nat):=by
 have h:=Int.gcd_dvd_right (a:=a) (b:=b)
 rcases Nat.eq_zero_or_pos (Int.gcd a b) with e | e
 ·rw [e] at h
  exact absurd (Int.zero_dvd.1 h) hb
 omega
theorem bz_uniq {a b u v:Int} (hb:b≠0) (h1:b ∣ u*a - (Int.gcd a b:Nat)) (h2:b ∣ v*a - (Int.gcd a b:Nat)):u % (b / (Int.gcd a b:Nat))=v % (b / (Int.gcd a b:Nat)):=by
 have g0:=uD (a:=a) hb
 obtain ⟨x,hx⟩:=Int.gcd_dvd_left (a:=a) (b:=b)
 obtain ⟨y,hy⟩:=Int.gcd_dvd_right (a:=a) (b:=b)
 have hxy:Int.gcd x y=1:=by
  have h:=Int.gcd_mul_left (Int.gcd a b:Nat) x y
  rw [← hx,← hy,Int.natAbs_natCast] at h
  exact (Nat.eq_of_mul_eq_mul_left (show 0 < Int.gcd a b by omega) (by omega)).symm
 have hq:b / ((Int.gcd a b:Nat):Int)=y:=by
  have:b=((Int.gcd a b:Nat):Int)*y:=hy
  generalize ((Int.gcd a b:Nat):Int)=g at *
  rw [this,Int.mul_ediv_cancel_left _ (by omega)]
 rw [hq]
 have h3:=Int.dvd_sub h1 h2
 have e:u*a - (Int.gcd a b:Nat) - (v*a - (Int.gcd a b:Nat))=(u - v)*a:=by grind
 rw [e] at h3
 obtain ⟨k,hk⟩:=h3
 have h4:y ∣ (u - v)*x:=by
  refine ⟨k,?_⟩
  have e1:((Int.gcd a b:Nat):Int)*((u - v)*x)=((Int.gcd a b:Nat):Int)*(y*k):=by
   have l:((Int.gcd a b:Nat):Int)*((u - v)*x)=(u - v)*(((Int.gcd a b:Nat):Int)*x):=by grind
   rw [l,← hx,hk]
   rw [← Int.mul_assoc,← hy]
  exact Int.eq_of_mul_eq_mul_left (by omega) e1
 have h5:y ∣ u - v:=by
  have h6:=Int.natAbs_dvd_natAbs.2 h4
  rw [Int.natAbs_mul] at h6
  have hc:Nat.Coprime y.natAbs x.natAbs:=by
   unfold Nat.Coprime
   rw [Nat.gcd_comm];exact hxy
  exact Int.natAbs_dvd_natAbs.1 (Nat.Coprime.dvd_of_dvd_mul_right hc h6)
 exact (Int.emod_eq_emod_iff_emod_sub_eq_zero).2 (Int.emod_eq_zero_of_dvd h5)
theorem HW (a b:Int):b ∣ (xg b.natAbs a b).1*a - (Int.gcd a b:Nat) :=
 ⟨-(xg b.natAbs a b).2,by rw [← sy b.natAbs a b (Nat.le_refl _)];grind⟩
theorem HB {a b:Int} (hb:b≠0):b ∣ bzU a b*a - (Int.gcd a b:Nat):=by
 unfold bzU
 rw [if_neg hb]
 obtain ⟨k,hk⟩:=HW a b
 generalize (xg b.natAbs a b).1=u at *
 obtain ⟨x,hx⟩:=Int.gcd_dvd_left (a:=a) (b:=b)
 obtain ⟨y,hy⟩:=Int.gcd_dvd_right (a:=a) (b:=b)
 have g0:=uD (a:=a) hb
 have hq:b / ((Int.gcd a b:Nat):Int)=y:=by
  have:b=((Int.gcd a b:Nat):Int)*y:=hy
  generalize ((Int.gcd a b:Nat):Int)=g at *
  rw [this,Int.mul_ediv_cancel_left _ (by omega)]
 rw [hq]
 have e:=Int.mul_ediv_add_emod u y
 refine ⟨k - (u / y)*x,?_⟩
 have e1:u % y=u - y*(u / y):=by omega
 rw [e1]
 generalize u / y=w at *
 have e2:y*a=b*x:=by
  have l:y*a=((Int.gcd a b:Nat):Int)*(y*x):=by
   have:a=((Int.gcd a b:Nat):Int)*x:=hx
   generalize ((Int.gcd a b:Nat):Int)=g at *
   rw [this];grind
  rw [l,← Int.mul_assoc,← hy]
 have e3:(u - y*w)*a - (Int.gcd a b:Nat)=(u*a - (Int.gcd a b:Nat)) - w*(y*a):=by grind
 rw [e3,hk,e2];grind
theorem MF (a b:Int):bzU a b*a+bzV a b*b=(Int.gcd a b:Nat):=by
 by_cases hb:b=0
 ·subst hb
  unfold bzU bzV
  rw [if_pos rfl,Int.gcd_zero_right]
  unfold sgn
  split
  ·simp;omega
  split
  ·simp;omega
  simp;omega
 obtain ⟨k,hk⟩:=HB (a:=a) hb
 unfold bzV
 rw [if_neg hb]
 have:((Int.gcd a b:Nat):Int) - bzU a b*a=b * -k:=by rw [Int.mul_neg,← hk];omega
 rw [this,Int.mul_ediv_cancel_left _ hb]
 rw [Int.mul_neg] at this
 grind
end
section
open Go Go.RowKit
section
end
def rfE (f:Fm):Int:=if ck f.a f.b f.c≠0 then ck f.a f.b f.c else if 0 < dsc f.a f.b f.c then 5 else if prim f.a f.b f.c=true then 0 else 80
theorem I6 {f:Fm} (h:rfE f=0):Cl (dsc f.a f.b f.c) f:=by
 unfold rfE at h
 by_cases h1:ck f.a f.b f.c≠0
 ·rw [if_pos h1] at h;exact absurd h h1
 rw [if_neg h1] at h
 have h1:ck f.a f.b f.c=0:=by omega
 by_cases h2:0 < dsc f.a f.b f.c
 ·rw [if_pos h2] at h;cases h
 rw [if_neg h2] at h
 by_cases h3:prim f.a f.b f.c=true
 ·have hd:=Av h1
  refine ⟨⟨?_,by show dsc f.a f.b f.c < 0;omega⟩,h3,rfl⟩
  unfold ck at h1
  split at h1
  ·cases h1
  split at h1
  ·cases h1
  omega
 rw [if_neg h3] at h;cases h
theorem Aq {D:Int} {f:Fm} (h:Cl D f):rfE f=0:=by
 unfold rfE
 have h1:ck f.a f.b f.c=0:=tJ h.pos
 have h2:dsc f.a f.b f.c < 0:=h.pos.2
 rw [if_neg (by omega),if_neg (by omega),if_pos h.prim]
theorem LC {f:Fm} (h:(ck f.a f.b f.c == 0)=false):ck f.a f.b f.c=rfE f:=by
 have h1:ck f.a f.b f.c≠0:=bF h
 unfold rfE;rw [if_pos h1]
theorem LA {f:Fm} (h:(ck f.a f.b f.c == 0)=true) (h1:sgn (dsc f.a f.b f.c) > 0):5=rfE f:=by
 have h2:ck f.a f.b f.c=0:=bT h
 unfold rfE;rw [if_neg (by omega),if_pos (sgn_gt_iff.1 h1)]
theorem Lz {f:Fm} (h:(ck f.a f.b f.c == 0)=true) (h1:¬ sgn (dsc f.a f.b f.c) > 0) (h2:prim f.a f.b f.c=false):80=rfE f:=by
 have h3:ck f.a f.b f.c=0:=bT h
 unfold rfE;rw [if_neg (by omega),if_neg (fun x=>h1 (sgn_gt_iff.2 x)),h2];rfl
theorem Ly {f:Fm} (h:(ck f.a f.b f.c == 0)=true) (h1:¬ sgn (dsc f.a f.b f.c) > 0) (h2:prim f.a f.b f.c=true):0=rfE f:=by
 have h3:ck f.a f.b f.c=0:=bT h
 unfold rfE;rw [if_neg (by omega),if_neg (fun x=>h1 (sgn_gt_iff.2 x)),if_pos h2]
end
section
open Go Go.RowKit
def mY (P:Nat→Bool):Nat→Nat→Nat
 | 0,n=>n
 | f+1,n=>if P n=true then n else mY P f (n+1)
theorem wV (P:Nat→Bool):∀ f n,n≤mY P f n
 | 0,n=>Nat.le_refl n
 | f+1,n=>by
  unfold mY
  split
  ·omega
  have:=wV P f (n+1);omega
theorem qR {P:Nat→Bool}:∀ {f n m:Nat},n≤m→m < n+f→P m=true→P (mY P f n)=true∧mY P f n≤m
 | 0,n,m,h,h1,_=>by omega
 | f+1,n,m,h,h1,h2=>by
  unfold mY
  by_cases g:P n=true
  ·rw [if_pos g];exact ⟨g,h⟩
  rw [if_neg g]
  have:n≠m:=fun e=>g (by rw [e];exact h2)
  exact qR (by omega) (by omega) h2
def cpG (f:Fm) (a:Int) (n x:Nat):Bool:=decide (Int.gcd (x:Int) ((n:Int) - x)=1) && decide (Int.gcd (vl f.a f.b f.c x ((n:Int) - x)) a=1)
def cpR (f:Fm) (a:Int) (n:Nat):Bool:=(List.range (n+1)).any (cpG f a n)
def cpN (f:Fm) (a:Int):Nat:=mY (cpR f a) 9100000000000000000 1
def cpX (f:Fm) (a:Int):Nat:=mY (cpG f a (cpN f a)) (cpN f a+1) 0
def cpM (f:Fm) (a:Int):Mt:=⟨cpX f a,-bzV (cpX f a) ((cpN f a:Int) - cpX f a),(cpN f a:Int) - cpX f a,bzU (cpX f a) ((cpN f a:Int) - cpX f a)⟩
section
variable {f:Fm} {a:Int}
theorem MB (pf:prim f.a f.b f.c=true) (h1:a≠0) (h2:a.natAbs < 18446744073709551616):cpR f a (cpN f a)=true∧1≤cpN f a∧cpN f a≤9000000000000000000:=by
 obtain ⟨x,y,hg,hc,hb1,hb2⟩:=CR pf (a:=a.natAbs) (by omega) h2
 have hR:cpR f a (x+y)=true:=by
  unfold cpR
  rw [List.any_eq_true]
  refine ⟨x,List.mem_range.2 (by omega),?_⟩
  unfold cpG
  have e:((x+y:Nat):Int) - x=(y:Int):=by omega
  rw [e,Bool.and_eq_true,decide_eq_true_iff,decide_eq_true_iff]
  exact ⟨hg,hc⟩
 have:=qR (P:=cpR f a) (f:=9100000000000000000) (n:=1) (m:=x+y) hb1 (by omega) hR
 have h3:=wV (cpR f a) 9100000000000000000 1
 unfold cpN
 exact ⟨this.1,h3,by omega⟩
theorem NH (h:cpR f a (cpN f a)=true):cpG f a (cpN f a) (cpX f a)=true∧cpX f a≤cpN f a:=by
 unfold cpR at h
 rw [List.any_eq_true] at h
 obtain ⟨m,hm,hg⟩:=h
 rw [List.mem_range] at hm
 have:=qR (P:=cpG f a (cpN f a)) (f:=cpN f a+1) (n:=0) (m:=m) (by omega) (by omega) hg
 unfold cpX
 exact ⟨this.1,by omega⟩
theorem KF (h:cpR f a (cpN f a)=true):(cpM f a).det=1∧Int.gcd (f.app (cpM f a)).a a=1:=by
 have hx:=(NH h).1
 unfold cpG at hx
 rw [Bool.and_eq_true,decide_eq_true_iff,decide_eq_true_iff] at hx
 refine ⟨?_,hx.2⟩
 have e:=MF (cpX f a:Int) ((cpN f a:Int) - cpX f a)
 rw [hx.1] at e
 unfold cpM Mt.det
 simp only
 rw [Int.neg_mul]
 grind
end
end
section
open Go Go.RowKit
section
end
theorem NJ {x:Int} (h:(x != 0)=true):(x == 0)=false:=by
 have:=bY h
 cases g:x == 0
 ·rfl
 exact absurd (bT g) this
theorem yE {x:Int} (h:(x != 0)=false):(x == 0)=true:=by
 have:x=0:=bS h
 subst this;rfl
end
section
open Go Go.RowKit
section ops
variable {P:Program}
variable {dst:Option Nat} {ty:TypeId} {pos:String} {af:Array Edge} {gd:Option (Nat × Bool)} {d:Nat} {ρ:Operand→AV} {own:Own}
theorem ku {f:FuncId} {c e:Operand} {xs ys:List DV} (hx:ρ c=.ip xs) (hy:ρ e=.ip ys):Eff P ⟨dst,.makeFunc (.func f) #[] #[c,e],ty,pos,af,gd⟩ d ρ own (.fn f [xs,ys]) [] none [] :=
 bE fun C h r own' a w hrep hrd hw=>by
  have e1:=hrep c (by simp [Op.operands])
  have e2:=hrep e (by simp [Op.operands])
  rw [hx] at e1;rw [hy] at e2
  refine ⟨.func (.func f) #[] #[a.eval c,a.eval e],?_,#[a.eval c,a.eval e],rfl,e1,e2,trivial⟩
  simp [execOp,Instr.makeFunc]
theorem RepArgs.app {h:Hp} {r:Nat→Value}:∀ {l:List AV} {xs:List Value} {m:List AV} {ys:List Value},RepArgs h r l xs→RepArgs h r m ys→RepArgs h r (l ++ m) (xs ++ ys)
 | [],[],_,_,_,k=>k
 | _ :: _,_ :: _,_,_,k1,k=>⟨k1.1,RepArgs.app k1.2 k⟩
 | [],_ :: _,_,_,k1,_=>k1.elim
 | _ :: _,[],_,_,k1,_=>k1.elim
theorem sf {h:Hp} {r:Nat→Value}:∀ {cs:List (List DV)} {xs:List Value},CapsRep h cs xs→RepArgs h r (cs.map .ip) xs
 | [],[],_=>trivial
 | _ :: _,_ :: _,k=>⟨k.1,sf k.2⟩
 | [],_ :: _,k=>k.elim
 | _ :: _,[],k=>k.elim
theorem Eff.callC {f:FuncId} {caps:List (List DV)} {c:Operand} {args:Array Operand} {tys:Array TypeId} {res:AV} (hx:ρ c=.fn f caps) (hc:aJ P f (args.toList.map ρ ++ caps.map .ip) res) :
  Eff P ⟨dst,.call ⟨.value c,args,tys⟩,ty,pos,af,gd⟩ d ρ own res [] none []:=by
 intro C h r own' a w K Q hrep hrd hw _ hK
 have e1:=hrep c (by simp [Op.operands,Call.operands])
 rw [hx] at e1
 obtain ⟨lb,e2,e3⟩:=e1
 unfold Oper.wp
 have hrun:(execOp a.eval ⟨dst,.call ⟨.value c,args,tys⟩,ty,pos,af,gd⟩).run P w=.ok (.enter f (args.map a.eval ++ lb)) w:=by
  simp only [execOp,resolve,Sem.run_bind,e2,Deferred.ofValue,Sem.run_pure,Result.andThen_ok,invoke,Array.empty_append]
  exact cL hc.fn _ w
 rw [hrun]
 refine Calls.mono (hc.go h r w (args.map a.eval ++ lb) ?_ (hw.before fun m hm=>absurd rfl hm)) ?_
 ·rw [Array.toList_append,Array.toList_map]
  exact RepArgs.app (dF _ fun x hx=>hrep x (by simp only [Op.operands,Call.operands];exact Array.mem_append.2 (.inr (Array.mem_toList_iff.1 hx)))) (sf e3)
 rintro e w' ⟨v,h',rfl,hv,hq⟩
 exact hK v h' r w' hq.hg (fun _ _=>rfl) hv (hw.after (fun m hm=>absurd rfl hm) hq (fun m=>by simp [gA,dl]) (fun m b hm=>absurd rfl hm))
end ops
section
end
end
section
open Go Go.RowKit
section
end
end
section
open Go Go.RowKit
section
variable {D:Int} {f:Fm} {o:Nat}
def Nd (m d:Nat):Prop:=∀ e,2≤e→e < d→¬ e ∣ m
end
theorem Jr {a b:Nat} (_hb:0 < b) (ha:a≤1000000000):(.i64:IntKind).wrap ((a:Int).tdiv (b:Int))=((a / b:Nat):Int):=by
 have:=Nat.div_le_self a b
 rw [Int.tdiv_eq_ediv_of_nonneg (by omega),← Int.natCast_ediv]
 generalize a / b=q at *
 exact iW0 _ (by omega)
theorem I7 {a b:Nat}:(a:Int).tmod (b:Int)=((a % b:Nat):Int):=by
 rw [Int.tmod_eq_emod_of_nonneg (by omega),← Int.natCast_emod]
end
section
open Go Go.RowKit
end
section
open Go Go.RowKit
section ops
end ops
end
section
open Go Go.RowKit
def nx (n k:Nat) (b:Bool):Nat:=bif b then k+1 else n+1+k
structure KeepsB (n0:Nat) (J:Nat→Hp→(Nat→Prop)→World→Prop):Prop where
 hi:∀ k h G W,J k h G W→∀ i o,h i=some o→W.heap[i]?=some o
 g:∀ k h G W,J k h G W→∀ i,G i→i < W.heap.size∧h i=none
 rest:∀ k h G W h' W',J k h G W→Rest n0 G h W h' W'→J k h' G W'
structure Keeps2 (P:Program) (l:Nat) (xs:List (List PV)) (n0:Nat) (J:Nat→Hp→(Nat→Prop)→World→Prop):Prop extends KeepsB n0 J where
 give:∀ k h G W x vals,xs[k]?=some x→J k h G W→PReps h x vals→YieldAt (Wd none) 0 P l vals.toArray W fun e W'=>∃ b,e=.returned (.bool b)∧∃ h' G',J (nx xs.length k b) h' G' W'∧Gave G h W G' h' W'
structure Iter2 (P:Program) (gf:FuncId) (caps:List (List DV)) (xs:List (List PV)):Prop where
 fn:o9 P gf
 go:∀ (l:Nat) (lb:Array Value) (J:Nat→Hp→(Nat→Prop)→World→Prop) (h:Hp) (G:Nat→Prop) (W:World) (n0:Nat),n0≤W.heap.size→CapsRep h caps lb.toList→GlOK h→Keeps2 P l xs n0 J→J 0 h G W →
  CallsIn (Wd none) 0 P gf (#[.func (.yield l) #[] #[]] ++ lb) W fun e W'=>(∃ v,e=.returned v)∧∃ kf h' G',xs.length≤kf∧J kf h' G' W'
def AT (np':Nat) (Q:Exit→St→Prop) (l:List (Nat × AV)) (o1:Own) (I1:Prop):Exit→St→Prop
 | .normal,s'=>GW np' s'.own o1∧I1
 | .ret,s'=>∃ o,GW np' s'.own o∧Q .ret ⟨cp l,o⟩
 | .exit id,s'=>∃ o,GW np' s'.own o∧Q (.exit id) ⟨cp l,o⟩
 | _,_=>False
def yN (n:Nat) (own:Nat→Own) (I:Nat→Prop) (Q:Exit→St→Prop) (l:List (Nat × AV)) (k:Nat) (o:Own) (st:LoopState) (pe:Option Code):Prop :=
 (k≤n∧o=own k∧st=.ready∧pe=none∧I k)∨(n < k∧st=.done∧((pe=some .ret∧Q .ret ⟨cp l,o⟩)∨∃ id,pe=some (.exit id)∧Q (.exit id) ⟨cp l,o⟩))
theorem kI {h:Hp}:∀ (ps:List PV) (vs:List Value),PReps h ps vs→vs.length=ps.length
 | [],[],_=>rfl
 | [],_ :: _,k=>k.elim
 | _ :: _,[],k=>k.elim
 | _ :: ps,_ :: vs,k=>by simp [kI ps vs k.2]
theorem fC {P:Program} {N np:Nat} {Q:Exit→St→Prop} {l:List (Nat × AV)} {g:Operand} {ps:Array Tmp} {assign body:Code} {gf:FuncId} {caps:List (List DV)} {xs:List (List PV)} (np':Nat) (own:Nat→Own) (I:Nat→Prop)
  (hg:ev (cp l) g=.fn gf caps) (hit:Iter2 P gf caps xs) (hps:∀ x∈xs,x.length=ps.toList.length)
  (hfix:qH np' l=true) (hnp:Nat.ble np np'=true) (hpN:(ps.toList.all fun p=>Nat.blt p N)=true)
  (hI:I 0) (hround:∀ (k:Nat) (x:List PV),xs[k]?=some x→I k→AWp P true N np' assign (j7 (AWp P true N np' body (AT np' Q l (own (k+1)) (I (k+1)))) (fun _ _=>False)) ⟨jV (cp l) ps.toList x,own k⟩)
  (hdone:I xs.length→Q .normal ⟨cp l,own xs.length⟩):AWp P false N np (.rangeFunc g ps assign body) Q ⟨cp l,own 0⟩:=by
 intro ro hB C hh r a w hn hc
 have hro:ro=none:=hB rfl
 subst hro
 have hnp':=bL0 hnp
 have hmar:C.mar=true:=hn.2
 refine wpIn_rangeFunc ?_
 intro fn _
 have hgv:=dN hc.rg g
 rw [hg] at hgv
 obtain ⟨lb,hval,hcaps⟩:=hgv
 obtain ⟨rec,hrec⟩:∃ rec:LoopState→Option Code→Loop,rec=fun st pe=>{ state:=st,pending:=pe,fn,tmps:=a.tmps,params:=ps,assign,body,defers:=w.heap.size }:=⟨_,rfl⟩
 obtain ⟨W1,hW1⟩:∃ W1,(w.alloc (.deferred (some []))).alloc (.loop (rec .ready none))=W1:=⟨_,rfl⟩
 obtain ⟨hw1,hle1⟩:=hc.wk.imm (.deferred (some []))
 obtain ⟨h1,hh1⟩:∃ h1:Hp,h1=fun i=>if i=w.heap.size then some (.deferred (some [])) else hh i:=⟨_,rfl⟩
 rw [← hh1] at hw1 hle1
 have hs1:W1.heap.size=w.heap.size+2:=by rw [← hW1];simp
 have hold1:∀ i,i < (w.alloc (.deferred (some []))).heap.size→W1.heap[i]?=(w.alloc (.deferred (some []))).heap[i]?:=fun i hi=>by
  rw [← hW1,bV,if_neg (by omega)]
 have hw2:WOK C h1 r (own 0) W1:=hw1.beside (by rw [← hW1];rfl) (by rw [← hW1];rfl) (by rw [← hW1];exact ⟨rfl,Nat.le_refl _⟩) (by rw [hs1];simp) hold1
 have hL1:W1.heap[w.heap.size+1]?=some (.loop (rec .ready none)):=by
  rw [← hW1,bV,if_pos (by simp)]
 have hD0:hh w.heap.size=none:=by
  cases e:hh w.heap.size with
  | none=>rfl
  | some o=>have:=hc.wk.hlt e;omega
 have hhL:h1 (w.heap.size+1)=none:=by
  rw [hh1]
  show (if w.heap.size+1=w.heap.size then _ else hh (w.heap.size+1))=none
  rw [if_neg (by omega)]
  cases e:hh (w.heap.size+1) with
  | none=>rfl
  | some o=>have:=hc.wk.hlt e;omega
 have hnoL:∀ m,own 0 m≠none→bo (r m)≠some (w.heap.size+1):=fun m hm e=>by
  have:=hc.wk.lt hm e;omega
 have hD1:h1 w.heap.size=some (.deferred (some [])):=by rw [hh1];exact if_pos rfl
 generalize hLL:w.heap.size+1=L at *
 have hCL:C.w0.heap.size≤L:=by have:=hc.wk.size;omega
 refine ⟨L,[{ target:=.collected w.heap.size,args:=#[] }],W1,{ target:=.fn (.func gf) lb,args:=#[.func (.yield L) #[] #[]] },W1,gf,#[.func (.yield L) #[] #[]] ++ lb,W1,?_,?_,fun _ _=>trivial,?_,fun e=>by simp [Wd] at e,?_⟩
 ·rw [← hW1,hrec,← hLL];exact run_enterLoop_outer _ _ _ _ _
 ·simp only [resolve,hval]
  simp [go_sem]
 ·have eg:∀ args w,(callFunc gf args).run P w=.ok (.enter gf args) w:=fun args w=>cL hit.fn args w
  simp [invoke,go_sem,eg]
 have hmen:=kw hfix
 obtain ⟨J,hJ⟩:∃ J:Nat→Hp→(Nat→Prop)→World→Prop,J=fun k h G W=>∃ r' o st pe,(∀ m,m < np'→r' m=r m)∧WOK C h r' o W∧W.heap[L]?=some (.loop (rec st pe))∧h L=none∧(∀ m,o m≠none→bo (r' m)≠some L)∧Hle h1 h ∧
   (G=fun i=>i=L∨∃ m,o m≠none∧bo (r' m)=some i)∧yN xs.length own I Q l k o st pe:=⟨_,rfl⟩
 have hrg:∀ h r',Hle h1 h→(∀ m,m < np'→r' m=r m)→RegsOK h r' (cp l) a:=fun h r' hl hr t =>
  AVRep.rebind _ _ (fun m hm=>hr m (hmen t m hm)) (AVRep.mono (hle1.trans hl) _ _ (hc.rg t))
 refine CallsIn.mono (hit.go L lb J h1 (fun i=>i=L∨∃ m,own 0 m≠none∧bo (r m)=some i) W1 C.w0.heap.size hw2.size (hcaps.mono hle1) hw2.gl ⟨⟨?_,?_,?_⟩,?_⟩ ?_) ?_
 ·intro k h G W hk
  rw [hJ] at hk
  obtain ⟨r',o,st,pe,_,q,_⟩:=hk
  exact q.hi
 ·intro k h G W hk i hi
  rw [hJ] at hk
  obtain ⟨r',o,st,pe,e1,e2,e3,e4,e5,e6,rfl,e8⟩:=hk
  rcases hi with rfl | ⟨m,hm,e⟩
  ·exact ⟨(Array.getElem?_eq_some_iff.1 e3).1,e4⟩
  exact ⟨e2.lt hm e,e2.ho m i hm e⟩
 ·intro k h G W h' W' hk q
  rw [hJ] at hk ⊢
  obtain ⟨r',o,st,pe,e1,e2,e3,e4,e5,e6,rfl,e8⟩:=hk
  have hlt:L < W.heap.size:=(Array.getElem?_eq_some_iff.1 e3).1
  refine ⟨r',o,st,pe,e1,e2.rest q (fun m i hm e=>.inr ⟨m,hm,e⟩) (Nat.le_refl _),?_,?_,e5,e6.trans q.hg,rfl,e8⟩
  ·rcases q.old L hlt with g | ⟨_,g,_⟩
   ·rw [g];exact e3
   exact absurd (.inl rfl) g
  cases e:h' L with
  | none=>rfl
  | some o' =>
   rcases q.hn L (by rw [e];simp) with g | g
   ·exact absurd e4 g
   exact absurd (.inl rfl) g.2
 ·intro k h G W x vals hx hk hv
  rw [hJ] at hk
  obtain ⟨r',o,st,pe,e1,e2,e3,e4,e5,e6,rfl,e8⟩:=hk
  have hkl:k < xs.length:=(List.getElem?_eq_some_iff.1 hx).1
  obtain ⟨_,rfl,rfl,rfl,hIk⟩:k≤xs.length∧o=own k∧st=.ready∧pe=none∧I k:=by
   rcases e8 with e8 | e8
   ·exact e8
   omega
  have hlen:x.length=ps.toList.length:=hps x (List.mem_of_getElem? hx)
  have hvl:vals.length=x.length:=kI _ _ hv
  have hsz:vals.toArray.size=(rec .ready none).params.size:=by
   rw [hrec]
   show vals.length=ps.size
   rw [hvl,hlen];simp
  refine ⟨_,_,_,_,run_yield e3 hsz,roundIn_of_wpIn trivial ?_⟩
  rw [hrec]
  show assign.wpIn (Wd (some L)) 0 P _ { tmps:=(ps.zip vals.toArray).foldl (fun t (p,v)=>t.setIfInBounds p v) a.tmps,defers:=[] } W
  have hzip:(ps.zip vals.toArray).foldl (fun t (p,v)=>t.setIfInBounds p v) a.tmps=(ps.toList.zip vals).foldl (fun t (p,v)=>t.setIfInBounds p v) a.tmps:=by
   rw [← Array.foldl_toList,Array.toList_zip]
  rw [hzip]
  obtain ⟨f1,f2⟩:=fG (r:=r') ps.toList x vals (cp l) a.tmps hv hlen (fun p hp=>by
   have:=List.all_eq_true.1 hpN p hp
   rw [hc.sz];simpa using this) (fun t=>hrg h r' e6 e1 t)
  refine wpIn_mono (hround k x hx hIk (some L) (fun e=>by cases e) (Ctx.round h r' (own k) W np') h r' _ W ⟨rfl,rfl⟩ ⟨f2.trans hc.sz,trivial,f1,e2.enter⟩) ?_
  rintro e a1 w1 ⟨s1,h2,r2,q1,c1⟩
  cases e with
  | normal =>
   have hwk1:=e2.leave c1.wk (Nat.le_trans (Nat.le_of_eq hn.1) hnp')
   obtain ⟨g1,g2,g3⟩:=WOK.rec_left e5 c1.wk e3 e4
   have hd1:a1.defers=[]:=by
    have:=c1.df
    cases hd:a1.defers with
    | nil=>rfl
    | cons d ds=>rw [hd] at this;cases this.1
   have hw3:=hwk1.putL (o:=.loop { rec .ready none with state:=.busy }) g3 g2 hCL
   have hLw:L < w1.heap.size:=(Array.getElem?_eq_some_iff.1 g1).1
   have hLb:(w1.putObj L (.loop { rec .ready none with state:=.busy })).heap[L]?=some (.loop { rec .ready none with state:=.busy }):=World.putObj_heap_same hLw
   refine ⟨_,run_beginRound g1 (by rw [hrec]),?_⟩
   refine wpIn_mono (q1 (some L) (fun e=>by cases e) (Ctx.round h2 r2 s1.own _ np') h2 r2 a1 _ ⟨rfl,rfl⟩ ⟨c1.sz,by rw [hd1];trivial,c1.rg,hw3.enter⟩) ?_
   rintro e a2 w2 ⟨s2,h3,r3,q2,c2⟩
   have fin:∀ (jump:Option Code) (o2:Own),GW np' s2.own o2→yN xs.length own I Q l (nx xs.length k jump.isNone) o2 (if jump.isNone then .ready else .done) jump→∃ v w',(Instr.endRound L jump).run P w2=.ok v w'∧∃ b,Ending.returned v=.returned (.bool b)∧∃ h' G',J (nx xs.length k b) h' G' w'∧Gave (fun i=>i=L∨∃ m,own k m≠none∧bo (r' m)=some i) h W G' h' w':=by
    intro jump o2 q2 hleft
    have hwk2:=hw3.leave c2.wk (Nat.le_trans (Nat.le_of_eq hn.1) hnp')
    obtain ⟨k1,k2,k3⟩:=WOK.rec_left g3 c2.wk hLb g2
    obtain ⟨r4,q3,hwk3,q4⟩:=q2 C h3 r3 w2 (Nat.le_trans (Nat.le_of_eq hn.1) hnp') hwk2
    have k3':∀ m,o2 m≠none→bo (r4 m)≠some L:=fun m hm e=>by
     obtain ⟨m2,g1,g2⟩:=q4 m L hm e
     exact k3 m2 g1 g2
    have F2:∀ i,(Ctx.round h2 r2 s1.own (w1.putObj L (.loop { rec .ready none with state:=.busy })) np').F i→W.heap.size≤i∨∃ m,own k m≠none∧bo (r' m)=some i:=by
     rintro i ⟨m,hm,e⟩;exact c1.wk.fo m i hm e
    have sz1:W.heap.size≤w1.heap.size:=c1.wk.size
    have sz2:w1.heap.size≤w2.heap.size:=by have:(w1.putObj L _).heap.size≤w2.heap.size:=c2.wk.size;rwa [bP] at this
    refine ⟨_,_,run_endRound jump k1,_,rfl,h3,fun i=>i=L∨∃ m,o2 m≠none∧bo (r4 m)=some i,?_,?_⟩
    ·rw [hJ]
     refine ⟨r4,o2,if jump.isNone then .ready else .done,jump,fun m hm=>?_,hwk3.putL k3' k2 hCL,?_,k2,k3',e6.trans (c1.wk.hg.trans c2.wk.hg),rfl,hleft⟩
     ·rw [q3 m hm,c2.wk.kp m hm]
      show r2 m=r m
      rw [c1.wk.kp m hm]
      exact e1 m hm
     rw [World.putObj_heap_same (Array.getElem?_eq_some_iff.1 k1).1,hrec]
    refine ⟨c2.wk.os.trans c1.wk.os,c2.wk.tape.trans c1.wk.tape,c2.wk.output.trans c1.wk.output,by rw [bP];omega,fun i hi hg=>?_,c1.wk.hg.trans c2.wk.hg,fun i hi=>?_,fun i hi=>?_⟩
    ·have hiL:i≠L:=fun x=>hg (.inl x)
     rw [ce hiL,c2.wk.old i (by rw [show (Ctx.round h2 r2 s1.own (w1.putObj L (.loop { rec .ready none with state:=.busy })) np').w0.heap.size=w1.heap.size from bP _ _ _];omega) (fun x=>by
      rcases F2 i x with g | g
      ·omega
      exact hg (.inr g))]
     show (w1.putObj L _).heap[i]?=_
     rw [ce hiL]
     exact c1.wk.old i hi (fun x=>hg (.inr x))
    ·rcases c2.wk.hn i hi with g | g | g
     ·rcases c1.wk.hn i g with g | g | g
      ·exact .inl g
      ·exact .inr (.inl g)
      exact .inr (.inr (.inr g))
     ·have g':(w1.putObj L (.loop { rec .ready none with state:=.busy })).heap.size≤i:=g
      rw [bP] at g'
      exact .inr (.inl (by omega))
     rcases F2 i g with g | g
     ·exact .inr (.inl g)
     exact .inr (.inr (.inr g))
    rcases hi with rfl | ⟨m,hm,e⟩
    ·exact .inl (.inl rfl)
    obtain ⟨m2,g1,g2⟩:=q4 m i hm e
    rcases c2.wk.fo m2 i g1 g2 with g | g
    ·have g':(w1.putObj L (.loop { rec .ready none with state:=.busy })).heap.size≤i:=g
     rw [bP] at g'
     exact .inr (by omega)
    rcases F2 i g with g | g
    ·exact .inr g
    exact .inl (.inr g)
   cases e with
   | normal=>exact fin none _ q2.1 (.inl ⟨hkl,rfl,rfl,rfl,q2.2⟩)
   | ret =>
    obtain ⟨o2,g1,g2⟩:=q2
    exact fin (some .ret) o2 g1 (.inr ⟨(by show xs.length < xs.length+1+k;omega),rfl,.inl ⟨rfl,g2⟩⟩)
   | exit id =>
    obtain ⟨o2,g1,g2⟩:=q2
    exact fin (some (.exit id)) o2 g1 (.inr ⟨(by show xs.length < xs.length+1+k;omega),rfl,.inr ⟨id,rfl,g2⟩⟩)
   | _=>exact q2.elim
  | _=>exact q1.elim
 ·rw [hJ]
  exact ⟨r,own 0,.ready,none,fun _ _=>rfl,hw2,hL1,hhL,hnoL,.refl _,rfl,.inl ⟨Nat.zero_le _,rfl,rfl,rfl,hI⟩⟩
 rintro e W3 ⟨⟨v,rfl⟩,kf,h',G',hkf,hk⟩
 rw [hJ] at hk
 obtain ⟨r',o,st,pe,e1,e2,e3,e4,e5,e6,_,e8⟩:=hk
 have fin:∀ (ob:Obj) (q:Exit),Q q ⟨cp l,o⟩→∃ s' h' r',Q q s'∧Conc C N h' r' s' { a with defers:=[{ target:=.collected w.heap.size,args:=#[] }] ++ a.defers } (W3.putObj L ob):=fun ob q hq=>by
  refine ⟨⟨cp l,o⟩,h',r',hq,hc.sz,?_,fun t=>hrg h' r' e6 e1 t,e2.putL e5 e4 hCL⟩
  refine ⟨hmar,⟨w.heap.size,rfl,hc.wk.size,?_,e6 _ _ hD1,l9 hD0 hc.df⟩,hc.df.mono (hle1.trans e6)⟩
  cases e:C.h0 w.heap.size with
  | none=>rfl
  | some o=>have:=hc.wk.hg _ _ e;rw [hD0] at this;cases this
 have hbusy:(rec st pe).state≠.busy:=by
  rw [hrec]
  rcases e8 with ⟨_,_,h3,_⟩ | ⟨_,h3,_⟩ <;> (show st≠_;rw [h3];simp)
 have hpe:(rec st pe).pending=pe:=by rw [hrec]
 refine ⟨pe,_,by have:=run_endLoop (P:=P) e3 hbusy;rw [hpe] at this;exact this,?_⟩
 rcases e8 with ⟨h1,rfl,_,rfl,hIk⟩ | ⟨_,_,⟨rfl,h4⟩ | ⟨id,rfl,h4⟩⟩
 ·have:kf=xs.length:=by omega
  subst this
  exact fin _ .normal (hdone hIk)
 ·exact wpIn_ret (fin _ .ret h4)
 exact wpIn_exit (fin _ (.exit id) h4)
end
section
open Go Go.RowKit
theorem I2 {ro:Option Nat} {P:Program} {l:Nat} {f:FuncId} {tmps:Array Value} {assign body:Code} {w:World} {R:Ending→World→Prop} (h:RoundIn (Wd none) 0 P l f tmps assign body w R):RoundIn (Wd ro) 0 P l f tmps assign body w R:=h
theorem Gave.start {h:Hp} {W:World} {G F:Nat→Prop} (hs:∀ i,F i→False):Gave G h W (fun i=>G i∨F i) h W :=
 ⟨rfl,rfl,.refl _,Nat.le_refl _,fun _ _ _=>rfl,.refl _,fun _ e=>.inl e,fun i e=>e.elim .inl fun x=>(hs i x).elim⟩
section
variable (P:Program) (l:Nat) (xs:List (List PV)) (n0:Nat) (J:Nat→Hp→(Nat→Prop)→World→Prop) (N np:Nat)
structure SK where
 r0:Nat→Value
 h:Hp
 W:World
 F:Nat→Prop
def tS (s:St) (r:Nat→Value) (i:Nat):Prop:=∃ m,s.own m≠none∧bo (r m)=some i
structure CK (S:SK) (k:Nat) (G:Nat→Prop) (h:Hp) (r:Nat→Value) (s:St) (a:Act) (w:World):Prop where
 sz:a.tmps.size=N
 df:a.defers=[]
 rg:RegsOK h r s.regs a
 kj:∃ C:Ctx,WOK C h r s.own w∧J k C.h0 G C.w0∧n0≤C.w0.heap.size∧(∀ i,C.F i→n0≤i∧¬ G i∧C.h0 i=none)∧C.np=np∧C.mar=false∧(∀ m,m < np→C.r0 m=S.r0 m)∧Gave S.F S.h S.W (fun i=>G i∨C.F i) C.h0 C.w0
def AK (c:Code) (Q:Exit→Nat→St→Prop) (k:Nat) (s:St):Prop :=
 ∀ (ro:Option Nat) (S:SK) (h:Hp) (r:Nat→Value) (a:Act) (w:World) (G:Nat→Prop),CK n0 J N np S k G h r s a w →
  c.wpIn (Wd ro) 0 P (fun e a' w'=>∃ k' s' h' r' G',Q e k' s'∧CK n0 J N np S k' G' h' r' s' a' w') a w
def RY (Q:Exit→Nat→St→Prop) (ops:Array Oper) (os:List Oper) (i:Nat) (k:Nat) (s:St):Prop:=ops.toList.drop i=os →
 ∀ (ro:Option Nat) (S:SK) (h:Hp) (r:Nat→Value) (a:Act) (w:World) (G:Nat→Prop),CK n0 J N np S k G h r s a w →
  wpOpsIn (Wd ro) 0 P ops (fun e a' w'=>∃ k' s' h' r' G',Q e k' s'∧CK n0 J N np S k' G' h' r' s' a' w') (List.range' i os.length) a w
end
section
variable {P:Program} {l:Nat} {xs:List (List PV)} {n0:Nat} {J:Nat→Hp→(Nat→Prop)→World→Prop} {N np:Nat} 
variable {Q:Exit→Nat→St→Prop} {k:Nat} {s:St}
theorem CK.now {S:SK} (hK:KeepsB n0 J) {G:Nat→Prop} {h:Hp} {r:Nat→Value} {a:Act} {w:World} (c:CK n0 J N np S k G h r s a w):J k h G w:=by
 obtain ⟨C,hw,hj,hs,hF,_,_,_,_⟩:=c.kj
 have hg:=hK.g _ _ _ _ hj
 refine hK.rest _ _ _ _ _ _ hj ⟨hw.os,hw.tape,hw.output,hw.size,fun i hi=>?_,hw.hi,hw.hg,fun i hi=>?_⟩
 ·by_cases e:C.F i
  ·exact .inr (hF i e)
  exact .inl (hw.old i hi e)
 rcases hw.hn i hi with g | g | g
 ·exact .inl g
 ·exact .inr ⟨Nat.le_trans hs g,fun x=>by have:=(hg i x).1;omega⟩
 exact .inr ⟨(hF i g).1,(hF i g).2.1⟩
theorem CK.notG {S:SK} (hK:KeepsB n0 J) {G:Nat→Prop} {h:Hp} {r:Nat→Value} {a:Act} {w:World} (c:CK n0 J N np S k G h r s a w) {m i:Nat} (hm:s.own m≠none) (e:bo (r m)=some i):n0≤i∧¬ G i∧i < w.heap.size∧h i=none:=by
 obtain ⟨C,hw,hj,hs,hF,_,_,_,_⟩:=c.kj
 refine ⟨?_,?_,hw.lt hm e,hw.ho m i hm e⟩
 ·rcases hw.fo m i hm e with g | g
  ·exact Nat.le_trans hs g
  exact (hF i g).1
 rcases hw.fo m i hm e with g | g
 ·exact fun x=>by have:=(hK.g _ _ _ _ hj i x).1;omega
 exact (hF i g).2.1
theorem CK.bool {S:SK} {G:Nat→Prop} {h:Hp} {r:Nat→Value} {a:Act} {w:World} (hc:CK n0 J N np S k G h r s a w) {c:Operand} {b:Bool} (he:ev s.regs c=.p (.c (.v (.bool b)))):a.eval c=.bool b:=by
 have:=dN hc.rg c
 rw [he] at this
 simp only [AVRep,PRep,DRep] at this
 exact this.1
theorem CK.le {S:SK} {t:St} (q:Le s t) {G:Nat→Prop} {h:Hp} {r:Nat→Value} {a:Act} {w:World} (c:CK n0 J N np S k G h r s a w):CK n0 J N np S k G h r t a w:=by
 obtain ⟨C,hw,rest⟩:=c.kj
 exact ⟨c.sz,c.df,fun i=>q.regs i h r _ (c.rg i),C,hw.forget q.own,rest⟩
theorem CK.frame {S:SK} {G:Nat→Prop} {h:Hp} {r:Nat→Value} {a:Act} {w:World} (c:CK n0 J N np S k G h r s a w):Gave S.F S.h S.W (fun i=>G i∨tS s r i) h w:=by
 obtain ⟨C,hw,hj,hs,hF,hn,hm,hr0,hfr⟩:=c.kj
 refine ⟨hw.os.trans hfr.os,hw.tape.trans hfr.tape,hw.output.trans hfr.output,Nat.le_trans hfr.size hw.size,fun i hi hg=>?_,hfr.hg.trans hw.hg,fun i hi=>?_,fun i hi=>?_⟩
 ·rw [hw.old i (Nat.lt_of_lt_of_le hi hfr.size) fun x=>?_]
  ·exact hfr.old i hi hg
  rcases hfr.gg i (.inr x) with g | g
  ·exact hg g
  omega
 ·rcases hw.hn i hi with g | g | g
  ·exact hfr.hn i g
  ·exact .inr (.inl (Nat.le_trans hfr.size g))
  rcases hfr.gg i (.inr g) with g | g
  ·exact .inr (.inr g)
  exact .inr (.inl g)
 rcases hi with g | ⟨m,hm,e⟩
 ·exact hfr.gg i (.inl g)
 rcases hw.fo m i hm e with g | g
 ·exact .inr (Nat.le_trans hfr.size g)
 exact hfr.gg i (.inr g)
theorem Gave.trans {A B D:Nat→Prop} {h h' h'':Hp} {W W' W'':World} (p:Gave A h W B h' W') (q:Gave B h' W' D h'' W''):Gave A h W D h'' W'':=by
 refine ⟨q.os.trans p.os,q.tape.trans p.tape,q.output.trans p.output,Nat.le_trans p.size q.size,fun i hi hg=>?_,p.hg.trans q.hg,fun i hi=>?_,fun i hi=>?_⟩
 ·rw [q.old i (Nat.lt_of_lt_of_le hi p.size) fun x=>?_]
  ·exact p.old i hi hg
  rcases p.gg i x with g | g
  ·exact hg g
  omega
 ·rcases q.hn i hi with g | g | g
  ·exact p.hn i g
  ·exact .inr (.inl (Nat.le_trans p.size g))
  rcases p.gg i g with g | g
  ·exact .inr (.inr g)
  exact .inr (.inl g)
 rcases q.gg i hi with g | g
 ·exact p.gg i g
 exact .inr (Nat.le_trans p.size g)
theorem Gave.plus {A B X:Nat→Prop} {h h':Hp} {W W':World} (p:Gave A h W B h' W'):Gave (fun i=>A i∨X i) h W (fun i=>B i∨X i) h' W':=by
 refine ⟨p.os,p.tape,p.output,p.size,fun i hi hg=>p.old i hi fun x=>hg (.inl x),p.hg,fun i hi=>?_,fun i hi=>?_⟩
 ·rcases p.hn i hi with g | g | g
  ·exact .inl g
  ·exact .inr (.inl g)
  exact .inr (.inr (.inl g))
 rcases hi with g | g
 ·rcases p.gg i g with g | g
  ·exact .inl (.inl g)
  exact .inr g
 exact .inl (.inr g)
theorem HP {c:Code} (h:AWp P true N np c (fun e s'=>Q e k s') s):AK P n0 J N np c Q k s:=by
 intro ro S hh r a w G hc
 obtain ⟨C,hw,hj,hs,hF,hn,hm,hr0,hfr⟩:=hc.kj
 refine wpIn_mono (h ro (fun e=>by cases e) C hh r a w ⟨hn,hm⟩ ⟨hc.sz,by rw [hc.df];trivial,hc.rg,hw⟩) ?_
 rintro e a' w' ⟨s',h',r',q,c'⟩
 refine ⟨k,s',h',r',G,q,c'.sz,?_,c'.rg,C,c'.wk,hj,hs,hF,hn,hm,hr0,hfr⟩
 have:=c'.df
 cases hd:a'.defers with
 | nil=>rfl
 | cons d ds=>rw [hd] at this;have h1:=this.1;rw [hm] at h1;cases h1
theorem bw (hP:P.follows .mixedOrders=true) {id:Nat} {ops:Array Oper} {draw:Bool} (h:RK P N np ops draw ops.toList (c8 (dO ops.toList) s) [] (Q .normal k)):AK P n0 J N np (.region id ops draw) Q k s :=
 HP (aw hP h)
theorem bM {x y:Code} (h:AK P n0 J N np x (oe (AK P n0 J N np y Q) Q) k s):AK P n0 J N np (.seq x y) Q k s:=by
 intro ro S hh r a w G hc
 refine wpIn_seq (wpIn_mono (h ro S hh r a w G hc) ?_)
 rintro e a' w' ⟨k',s',h',r',G',q,c⟩
 cases e with
 | normal=>exact q ro S h' r' a' w' G' c
 | _=>exact ⟨k',s',h',r',G',q,c⟩
theorem dR (h:Q .normal k s):AK P n0 J N np .skip Q k s:=fun _ _ hh r _ _ G hc=>wpIn_skip ⟨k,s,hh,r,G,h,hc⟩
theorem nu (h:Q .ret k s):AK P n0 J N np .ret Q k s:=fun _ _ hh r _ _ G hc=>wpIn_ret ⟨k,s,hh,r,G,h,hc⟩
theorem jy {id:Nat} (h:Q (.exit id) k s):AK P n0 J N np (.exit id) Q k s:=fun _ _ hh r _ _ G hc=>wpIn_exit ⟨k,s,hh,r,G,h,hc⟩
theorem eL {id:Nat} {c:Code} (h:AK P n0 J N np c (JIn id Q) k s):AK P n0 J N np (.block id c) Q k s:=by
 intro ro S hh r a w G hc
 refine wpIn_block (wpIn_mono (h ro S hh r a w G hc) ?_)
 rintro e a' w' ⟨k',s',h',r',G',q,c⟩
 cases e with
 | exit id' =>
  simp only [Exit.inBlock]
  simp only [JIn] at q
  by_cases hid:id'=id
  ·subst hid
   rw [if_pos rfl]
   have:Nat.beq id' id'=true:=by simp
   rw [this] at q
   exact ⟨k',s',h',r',G',q,c⟩
  rw [if_neg hid]
  have:Nat.beq id' id=false:=by
   cases e:Nat.beq id' id with
   | false=>rfl
   | true=>exact absurd (Nat.eq_of_beq_eq_true e) hid
  rw [this] at q
  exact ⟨k',s',h',r',G',q,c⟩
 | _=>exact ⟨k',s',h',r',G',q,c⟩
theorem ez {c:Operand} {x y:Code} {b:Bool} (he:ev s.regs c=.p (.c (.v (.bool b)))) (ht:b=true→AK P n0 J N np x Q k s) (hf:b=false→AK P n0 J N np y Q k s):AK P n0 J N np (.cond c x y) Q k s:=by
 intro ro S hh r a w G hc
 have hb:=hc.bool he
 cases b with
 | true=>exact wpIn_cond_true hb (ht rfl ro S hh r a w G hc)
 | false=>exact wpIn_cond_false hb (hf rfl ro S hh r a w G hc)
theorem jS {c:Operand} {x y:Code} {b:Bool} (he:ev s.regs c=.p (.c (.v (.bool b)))) (hb:b=false) (hf:AK P n0 J N np y Q k s):AK P n0 J N np (.cond c x y) Q k s :=
 ez he (fun h=>by rw [hb] at h;cases h) (fun _=>hf)
theorem lL {ι:Type} {c:Code} (I:ι→St) (κ:ι→Nat) (F:ι→Prop) (μ:ι→Nat) (i₀:ι) (h₀:F i₀) (hk:κ i₀=k) (hs:Le s (I i₀))
  (round:∀ i,F i→AK P n0 J N np c (oe (fun k' s'=>∃ j,F j∧μ j < μ i∧κ j=k'∧Le s' (I j)) Q) (κ i) (I i)):AK P n0 J N np (.loop c) Q k s:=by
 intro ro S hh r a w G hc b kk cs hro hfn hroom
 have key:∀ n i h r a w G,μ i=n→F i→CK n0 J N np S (κ i) G h r (I i) a w →
   ∃ e a' w',(∃ k' s' h' r' G',Q e k' s'∧CK n0 J N np S k' G' h' r' s' a' w')∧ArrivesIn (Machine.fenced P (Wd ro)) P (lone (b.atR a (.code c :: .inLoop c :: kk)) cs w) b kk cs e a' w':=by
  intro n
  induction n using Nat.strongRecOn with
  | _ n ih =>
   intro i h r a w G hμ hF hc
   obtain ⟨e,a₁,w₁,⟨k₁,s₁,h₁,r₁,G₁,hq,hc₁⟩,harr⟩:=round i hF ro S h r a w G hc b (.inLoop c :: kk) cs hro hfn hroom
   cases e with
   | normal =>
    obtain ⟨j,hFj,hlt,hκ,hle⟩:=hq
    subst hκ
    obtain ⟨e₂,a₂,w₂,hq₂,harr₂⟩:=ih (μ j) (hμ ▸ hlt) j h₁ r₁ a₁ w₁ G₁ rfl hFj (hc₁.le hle)
    exact ⟨e₂,a₂,w₂,hq₂,.of_steps (StepsIn.trans harr (.one (fenced_calm hfn hroom rfl) stepR_inLoop)) harr₂⟩
   | exit id=>exact ⟨_,a₁,w₁,⟨k₁,s₁,h₁,r₁,G₁,hq,hc₁⟩,.pass (x:=.inLoop c) rfl (fun _ _=>.inl (by simp)) harr⟩
   | goto l=>exact ⟨_,a₁,w₁,⟨k₁,s₁,h₁,r₁,G₁,hq,hc₁⟩,.pass (x:=.inLoop c) rfl (fun _ _=>.inl (by simp)) harr⟩
   | ret=>exact ⟨_,a₁,w₁,⟨k₁,s₁,h₁,r₁,G₁,hq,hc₁⟩,.pass (x:=.inLoop c) rfl (fun _ _=>.inl (by simp)) harr⟩
   | panic ch=>exact ⟨_,a₁,w₁,⟨k₁,s₁,h₁,r₁,G₁,hq,hc₁⟩,.pass (x:=.inLoop c) rfl (fun _ _=>.inl (by simp)) harr⟩
   | outgrown=>exact ⟨_,a₁,w₁,⟨k₁,s₁,h₁,r₁,G₁,hq,hc₁⟩,.pass (x:=.inLoop c) rfl (fun _ _=>.inl (by simp)) harr⟩
 subst hk
 obtain ⟨e,a',w',hq,harr⟩:=key _ i₀ hh r a w G rfl h₀ (hc.le hs)
 exact ⟨e,a',w',hq,.of_steps (.one (fenced_calm hfn hroom rfl) stepR_loop) harr⟩
section rj
variable {ops:Array Oper} {os:List Oper} {i:Nat} {op:Op} {ty:TypeId} {pos:String} {af:Array Edge} {gd:Option (Nat × Bool)} {t:Nat}
theorem ms {id:Nat} (h:RY P n0 J N np Q ops ops.toList 0 k s):AK P n0 J N np (.region id ops false) Q k s:=by
 intro ro S hh r a w G hc
 apply wpIn_region
 rw [List.range_eq_range']
 exact h rfl ro S hh r a w G hc
theorem RY.done (h:Q .normal k s):RY P n0 J N np Q ops [] i k s:=fun _ _ _ hh r _ _ G hc=>⟨k,s,hh,r,G,h,hc⟩
theorem CK.put {S:SK} {G:Nat→Prop} {h h':Hp} {r r':Nat→Value} {a:Act} {w w':World} {C:Ctx} {v:AV} {x:Value} (hc:CK n0 J N np S k G h r s a w) (hle:Hle h h') (hr:∀ m,r' m=r m) (ht:t < N) (hv:AVRep h' r' v x)
  (q:WOK C h' r' s.own w') (hj:J k C.h0 G C.w0) (hs:n0≤C.w0.heap.size) (hF:∀ i,C.F i→n0≤i∧¬ G i∧C.h0 i=none) (hn:C.np=np) (hm:C.mar=false) (hr0:∀ m,m < np→C.r0 m=S.r0 m) (hfr:Gave S.F S.h S.W (fun i=>G i∨C.F i) C.h0 C.w0):CK n0 J N np S k G h' r' ⟨upd s.regs t v,s.own⟩ (a.put (some t) x) w' :=
 ⟨by simp [Act.put,hc.sz],by simpa [Act.put] using hc.df,(show RegsOK h' r' s.regs a from fun u=>AVRep.rebind _ _ (fun m _=>hr m) (AVRep.mono hle _ _ (hc.rg u))).put (dst:=some t) (fun d e=>by cases e;rw [hc.sz];exact ht) hv,C,q,hj,hs,hF,hn,hm,hr0,hfr⟩
theorem RY.val {v:AV} {rd:List Nat} (hg:cQ ops ⟨some t,op,ty,pos,af,gd⟩ s.regs true) (he:Eff P ⟨some t,op,ty,pos,af,gd⟩ t (ev s.regs) s.own v [] none rd)
  (hr:RY P n0 J N np Q ops os (i+1) k ⟨upd s.regs t v,s.own⟩) (hN:(Nat.blt t N && jk ⟨some t,op,ty,pos,af,gd⟩)=true:=by rfl):RY P n0 J N np Q ops (⟨some t,op,ty,pos,af,gd⟩ :: os) i k s:=by
 intro hd ro S hh r a w G hc
 obtain ⟨h1,h2⟩:=eo hd
 rw [Bool.and_eq_true,Nat.blt_eq] at hN
 rw [List.length_cons,List.range'_succ,wpOpsIn_cons]
 unfold wpOpIn
 simp only [h1]
 rw [fF hc.rg hg,if_pos rfl]
 obtain ⟨C,hw,hj,hs,hF,hn,hm,hr0,hfr⟩:=hc.kj
 refine lO (iM hN.2) ?_
 refine he C hh r s.own a w _ _ (fun x _=>dN hc.rg x) (fun _ _=>rfl) hw (fun e=>absurd rfl e) ?_
 intro x h' r' w' hle hrr hv hw'
 exact ⟨hr h2 ro S h' r' _ w' G (hc.put hle (fun m=>hrr m (fun e=>absurd rfl e)) hN.1 hv hw' hj hs hF hn hm hr0 hfr),rfl⟩
theorem RY.skip (hg:cQ ops ⟨some t,op,ty,pos,af,gd⟩ s.regs false)
  (hr:RY P n0 J N np Q ops os (i+1) k ⟨upd s.regs t (.t []),s.own⟩) (hN:Nat.blt t N=true:=by rfl):RY P n0 J N np Q ops (⟨some t,op,ty,pos,af,gd⟩ :: os) i k s:=by
 intro hd ro S hh r a w G hc
 obtain ⟨h1,h2⟩:=eo hd
 rw [Nat.blt_eq] at hN
 rw [List.length_cons,List.range'_succ,wpOpsIn_cons]
 unfold wpOpIn
 simp only [h1]
 rw [fF hc.rg hg,if_neg (by simp)]
 obtain ⟨C,hw,hj,hs,hF,hn,hm,hr0,hfr⟩:=hc.kj
 exact ⟨fun _ _=>trivial,hr h2 ro S hh r _ w G (hc.put (.refl _) (fun _=>rfl) hN ⟨[],rfl,trivial⟩ hw hj hs hF hn hm hr0 hfr)⟩
theorem RY.yield (hK:Keeps2 P l xs n0 J) {c:Operand} {args:Array Operand} {tys:Array TypeId} {x:List PV} (hg:cQ ops ⟨some t,.call ⟨.value c,args,tys⟩,ty,pos,af,gd⟩ s.regs true)
  (hy:ev s.regs c=.p (.c (.v (.func (.yield l) #[] #[])))) (ha:args.toList.map (ev s.regs)=x.map .p) (hx:xs[k]?=some x)
  (hr:∀ b,RY P n0 J N np Q ops os (i+1) (nx xs.length k b) ⟨upd s.regs t (.p (.c (.v (.bool b)))),s.own⟩) (hN:Nat.blt t N=true:=by rfl):RY P n0 J N np Q ops (⟨some t,.call ⟨.value c,args,tys⟩,ty,pos,af,gd⟩ :: os) i k s:=by
 intro hd ro S hh r a w G hc
 obtain ⟨h1,h2⟩:=eo hd
 rw [Nat.blt_eq] at hN
 rw [List.length_cons,List.range'_succ,wpOpsIn_cons]
 unfold wpOpIn
 simp only [h1]
 rw [fF hc.rg hg,if_pos rfl]
 have hyv:a.eval c=.func (.yield l) #[] #[]:=by
  have:=dN hc.rg c
  rw [hy] at this
  simp only [AVRep,PRep,DRep] at this
  exact this.1
 have hra:RepArgs hh r (x.map .p) (args.map a.eval).toList:=by
  rw [← ha,Array.toList_map]
  exact dF _ fun x _=>dN hc.rg x
 obtain ⟨fn,tmps,assign,body,hrun,hR⟩:=hK.give k hh G w x _ hx (hc.now hK.toKeepsB) (lS hra)
 refine ⟨fun _ _=>trivial,?_⟩
 rw [Oper.semAt_eq _ _ _ (fun c' e=>by cases e)]
 have hex:(execOp a.eval ⟨some t,.call ⟨.value c,args,tys⟩,ty,pos,af,gd⟩).run P w=.ok (.round l fn tmps assign body) w:=by
  simp only [execOp,resolve,Sem.run_bind,hyv,Deferred.ofValue,Sem.run_pure,Result.andThen_ok,invoke,Array.empty_append]
  have e:(args.map a.eval).toList.toArray=args.map a.eval:=Array.toArray_toList
  rw [← e];exact hrun
 rw [hex]
 refine ⟨fun e=>by simp [Wd] at e,RoundIn.mono (I2 hR) ?_⟩
 rintro e w' ⟨b,rfl,h',G',hj,q⟩
 obtain ⟨C,hw,hj0,hs,hF,hn,hm,hr0,hfr⟩:=hc.kj
 have same:∀ m i,s.own m≠none→bo (r m)=some i→w'.heap[i]?=w.heap[i]?:=fun m i hm e=>by
  have:=hc.notG hK.toKeepsB hm e
  exact q.old i this.2.2.1 this.2.1
 have hw':WOK ⟨w',h',fun i=>∃ m,s.own m≠none∧bo (r m)=some i,r,np,false⟩ h' r s.own w':=by
  refine ⟨fun m b e=>((hw.ow m b e).mono q.hg).world fun i hi=>same m i (by rw [e];simp) hi,hw.inj,hK.hi _ _ _ _ hj,fun m i hm e=>?_,rfl,rfl,.refl _,Nat.le_refl _,fun _ _ _=>rfl,fun m i hm e=>.inr ⟨m,hm,e⟩,.refl _,fun _ e=>.inl e,hw.gl.mono q.hg,fun _ _=>rfl,fun m b j e hj'=>?_⟩
  ·have hg:=hc.notG hK.toKeepsB hm e
   cases hh':h' i with
   | none=>rfl
   | some o =>
    rcases q.hn i (by rw [hh'];simp) with g | g | g
    ·exact absurd hg.2.2.2 g
    ·omega
    exact absurd g hg.2.1
  obtain ⟨q1,t',e1,e2⟩:=hw.lk m b j e hj'
  exact ⟨q1,t',e1,by rw [same m q1 (by rw [e];simp) (by rw [e1];rfl)];exact e2⟩
 have n1:n0≤w'.heap.size:=Nat.le_trans (Nat.le_trans hs hw.size) q.size
 refine hr b h2 ro S h' r _ w' G' ⟨by simp [Act.put,hc.sz],by simpa [Act.put] using hc.df,(show RegsOK h' r s.regs a from fun u=>AVRep.mono q.hg _ _ (hc.rg u)).put (dst:=some t) (v:=.p (.c (.v (.bool b)))) (x:=.bool b) (fun d e=>by cases e;rw [hc.sz];exact hN) ⟨rfl,rfl⟩,_,hw',hj,n1,?_,rfl,rfl,fun m hm=>?_,hc.frame.trans q.plus⟩
 rotate_left
 ·show r m=_
  rw [hw.kp m (by omega)];exact hr0 m hm
 rintro i ⟨m,hm,e⟩
 have hg:=hc.notG hK.toKeepsB hm e
 refine ⟨hg.1,fun x=>?_,?_⟩
 ·rcases q.gg i x with g | g
  ·exact hg.2.1 g
  omega
 exact hw'.ho m i hm e
end rj
end
end
section
open Go Go.RowKit
section
variable (P:Program) (l:Nat) (xs:List (List PV)) (n0:Nat) (J:Nat→Hp→(Nat→Prop)→World→Prop) (N np:Nat)
def uf (D:Nat):Deferred:={ target:=.collected D,args:=#[] }
def yO (e:Exit) (a:Act) (w:World):Prop:=(e=.normal∨e=.ret)∧∃ kf h G,xs.length≤kf∧J kf h G w ∧
 (a.defers=[]∨∃ D,a.defers=[uf D]∧w.heap[D]?=some (.deferred (some []))∧n0≤D∧¬ G D∧h D=none)
def AE (c:Code) (k:Nat) (s:St):Prop :=
 ∀ (S:SK) (h:Hp) (r:Nat→Value) (a:Act) (w:World) (G:Nat→Prop),CK n0 J N np S k G h r s a w→c.wpIn (Wd none) 0 P (yO xs n0 J) a w
end
section
variable {P:Program} {l:Nat} {xs:List (List PV)} {n0:Nat} {J:Nat→Hp→(Nat→Prop)→World→Prop} {N np:Nat} {k:Nat} {s:St}
theorem yQ {c:Code} (hK:KeepsB n0 J) (h:AK P n0 J N np c (fun e k' _=>(e=.normal∨e=.ret)∧xs.length≤k') k s):AE P xs n0 J N np c k s:=by
  intro S hh r a w G hc
  refine wpIn_mono (h none S hh r a w G hc) ?_
  rintro e a' w' ⟨k',s',h',r',G',⟨q1,q2⟩,c⟩
  exact ⟨q1,k',h',G',q2,c.now hK,.inl c.df⟩
theorem vm {x y:Code} (hK:KeepsB n0 J) (h:AK P n0 J N np x (oe (AE P xs n0 J N np y) (fun e k' _=>e=.ret∧xs.length≤k')) k s):AE P xs n0 J N np (.seq x y) k s:=by
  intro S hh r a w G hc
  refine wpIn_seq (wpIn_mono (h none S hh r a w G hc) ?_)
  rintro e a' w' ⟨k',s',h',r',G',q,c⟩
  have fin:∀ e,e=Exit.ret∧xs.length≤k'→yO xs n0 J e a' w':=fun e q=>⟨.inr q.1,k',h',G',q.2,c.now hK,.inl c.df⟩
  cases e with
  | normal=>exact q S h' r' a' w' G' c
  | exit id=>exact fin _ q
  | goto t=>exact fin _ q
  | ret=>exact fin _ q
  | panic ch=>exact fin _ q
  | outgrown=>exact absurd q.1 (by simp)
theorem De {id:Nat} {c:Code} (h:AE P xs n0 J N np c k s):AE P xs n0 J N np (.block id c) k s:=by
  intro S hh r a w G hc
  refine wpIn_block (wpIn_mono (h S hh r a w G hc) ?_)
  rintro e a' w' ⟨he,q⟩
  rcases he with rfl | rfl
  · exact ⟨.inl rfl,q⟩
  exact ⟨.inr rfl,q⟩
theorem MU {t:St} {c:Code} (q:Le s t) (h:AE P xs n0 J N np c k t):AE P xs n0 J N np c k s :=
  fun S hh r a w G hc=>h S hh r a w G (hc.le q)
theorem Stt.rest {C:Ctx} {h h':Hp} {r:Nat→Value} {o:Own} {w w':World} {n:Nat} {G:Nat→Prop} (k:WOK C h r o w) (q:Rest n G h w h' w') (hG:∀ m i,o m≠none→bo (r m)=some i→G i) (np':Nat):WOK (Ctx.round h' r o w' np') h' r o w':=by
  have same:∀ m i,o m≠none→bo (r m)=some i→w'.heap[i]?=w.heap[i]?:=fun m i hm e=>by
    rcases q.old i (k.lt hm e) with g | ⟨_,g,_⟩
    · exact g
    exact absurd (hG m i hm e) g
  refine ⟨fun m b e=>((k.ow m b e).mono q.hg).world fun i hi=>same m i (by rw [e];simp) hi,k.inj,q.hi,fun m i hm e=>?_,rfl,rfl,.refl _,Nat.le_refl _,fun _ _ _=>rfl,fun m i hm e=>.inr ⟨m,hm,e⟩,.refl _,fun _ e=>.inl e,k.gl.mono q.hg,fun _ _=>rfl,fun m b j e hj=>?_⟩
  · cases hh:h' i with
    | none=>rfl
    | some o =>
      rcases q.hn i (by rw [hh];simp) with g | g
      · exact absurd (k.ho m i hm e) g
      exact absurd (hG m i hm e) g.2
  obtain ⟨q1,t,h1,h2⟩:=k.lk m b j e hj
  exact ⟨q1,t,h1,by rw [same m q1 (by rw [e];simp) (by rw [h1];rfl)];exact h2⟩
theorem je {n:Nat} {G:Nat→Prop} {h:Hp} {w:World} {L:Nat} {ob:Obj} (hi:∀ i o,h i=some o→w.heap[i]?=some o) (h1:n≤L) (h2:¬ G L) (h3:h L=none):Rest n G h w h (w.putObj L ob) :=
  ⟨rfl,rfl,.refl _,by rw [bP];exact Nat.le_refl _,fun i _=>by
    by_cases e:i=L
    · subst e;exact .inr ⟨h1,h2,h3⟩
    · exact .inl (ce e),fun i o e=>by
    rw [ce fun x=>by subst x;rw [h3] at e;cases e];exact hi i o e,.refl _,fun _ e=>.inl e⟩
theorem uF {G:Nat→Prop} {h:Hp} {w:World} {L:Nat} {ob:Obj} (h2:G L):Gave G h w G h (w.putObj L ob) :=
  ⟨rfl,rfl,.refl _,by rw [bP];exact Nat.le_refl _,fun i _ hg=>ce fun x=>hg (x ▸ h2),.refl _,fun _ e=>.inl e,fun _ e=>.inl e⟩
theorem Gave.mono {A B A' B':Nat→Prop} {h h':Hp} {W W':World} (p:Gave A h W B h' W') (ha:∀ i,A i→A' i) (hb:∀ i,B' i→B i∨A' i):Gave A' h W B' h' W' :=
  ⟨p.os,p.tape,p.output,p.size,fun i hi hg=>p.old i hi fun x=>hg (ha i x),p.hg,fun i hi=>by
    rcases p.hn i hi with g | g | g
    · exact .inl g
    · exact .inr (.inl g)
    · exact .inr (.inr (ha i g)),fun i hi=>by
    rcases hb i hi with g | g
    · rcases p.gg i g with g | g
      · exact .inl (ha i g)
      exact .inr g
    exact .inl g⟩
theorem Gave.keep {A B:Nat→Prop} {h h':Hp} {W W':World} (p:Gave A h W B h' W') {x:Nat} {o:Obj} (h1:W.heap[x]?=some o) (h2:h x=none) (h3:¬ A x):W'.heap[x]?=some o∧h' x=none∧¬ B x:=by
  have hlt:x < W.heap.size:=(Array.getElem?_eq_some_iff.1 h1).1
  refine ⟨by rw [p.old x hlt h3];exact h1,?_,fun hx=>?_⟩
  · cases e:h' x with
    | none=>rfl
    | some o' =>
      rcases p.hn x (by rw [e];simp) with g | g | g
      · exact absurd h2 g
      · omega
      exact absurd g h3
  rcases p.gg x hx with g | g
  · exact h3 g
  omega
def JI (n0:Nat) (J:Nat→Hp→(Nat→Prop)→World→Prop) (n ny np' L D:Nat) (κ:Nat→Nat) (o:Own) (r:Nat→Value) (h1:Hp) (rec:LoopState→Option Code→Loop) (i:Nat) (h:Hp) (G:Nat→Prop) (W:World):Prop :=
  ∃ k Gout st pe,J k h Gout W∧W.heap[L]?=some (.loop (rec st pe))∧h L=none∧¬ Gout L∧W.heap[D]?=some (.deferred (some []))∧h D=none∧¬ Gout D∧Hle h1 h∧GlOK h ∧
    ((i≤ny∧k=κ i∧st=.ready∧pe=none∧∃ r',(∀ m,m < np'→r' m=r m)∧WOK (Ctx.round h r' o W np') h r' o W∧(∀ b,(∃ m,o m≠none∧bo (r' m)=some b)→n0≤b∧¬ Gout b∧b≠L∧b≠D)∧G=fun b=>(b=L∨b=D)∨Gout b∨∃ m,o m≠none∧bo (r' m)=some b) ∨
     (ny < i∧st=.done∧pe=some .ret∧n≤k∧G=fun b=>(b=L∨b=D)∨Gout b))
theorem Dd {l':List (Nat × AV)} {g:Operand} {ps:Array Tmp} {assign body:Code} {gf:FuncId} {caps:List (List DV)} {ys:List (List PV)} (np':Nat) (κ:Nat→Nat) (o:Own) (hK:Keeps2 P l xs n0 J)
    (hg:ev (cp l') g=.fn gf caps) (hit:Iter2 P gf caps ys) (hps:∀ x∈ys,x.length=ps.toList.length) (hfix:qH np' l'=true) (hpN:(ps.toList.all fun p=>Nat.blt p N)=true)
    (hround:∀ (i:Nat) (y:List PV),ys[i]?=some y→AK P n0 J N np' assign (oe (fun k' s'=>AK P n0 J N np' body (fun e k2 s2=>(e=.normal∧k2=κ (i+1)∧GW np' s2.own o)∨(e=.ret∧xs.length≤k2)) k' s') (fun _ _ _=>False)) (κ i) ⟨jV (cp l') ps.toList y,o⟩)
    (hend:xs.length≤κ ys.length) (hk:k=κ 0):AE P xs n0 J N np (.rangeFunc g ps assign body) k ⟨cp l',o⟩:=by
  intro S hh r a w G hc
  subst hk
  refine wpIn_rangeFunc ?_
  intro fn _
  have hgv:=dN hc.rg g
  rw [hg] at hgv
  obtain ⟨lb,hval,hcaps⟩:=hgv
  obtain ⟨rec,hrec⟩:∃ rec:LoopState→Option Code→Loop,rec=fun st pe=>{ state:=st,pending:=pe,fn,tmps:=a.tmps,params:=ps,assign,body,defers:=w.heap.size }:=⟨_,rfl⟩
  obtain ⟨W1,hW1⟩:∃ W1,(w.alloc (.deferred (some []))).alloc (.loop (rec .ready none))=W1:=⟨_,rfl⟩
  have hj:=hc.now hK.toKeepsB
  have hnG:=fun {m i:Nat} (hm:o m≠none) (e:bo (r m)=some i)=>hc.notG hK.toKeepsB (m:=m) (i:=i) hm e
  have hGs:=fun i (hi:G i)=>hK.g _ _ _ _ hj i hi
  obtain ⟨C,hw,hj0,hs,hF,hn,hm,hr0,hfr⟩:=hc.kj
  have hn0:n0≤w.heap.size:=Nat.le_trans hs hw.size
  have hs1:W1.heap.size=w.heap.size+2:=by rw [← hW1];simp
  have hold:∀ i,i < w.heap.size→W1.heap[i]?=w.heap[i]?:=fun i hi=>by
    rw [← hW1,bV,if_neg (by simp;omega),bV,if_neg (by omega)]
  have hL1:W1.heap[w.heap.size+1]?=some (.loop (rec .ready none)):=by
    rw [← hW1,bV,if_pos (by simp)]
  have hD1:W1.heap[w.heap.size]?=some (.deferred (some [])):=by
    rw [← hW1,bV,if_neg (by simp),bV,if_pos rfl]
  have hrest:∀ X,Rest n0 X hh w hh W1:=fun X=>⟨by rw [← hW1];rfl,by rw [← hW1];rfl,by rw [← hW1];exact ⟨rfl,Nat.le_refl _⟩,by omega,fun i hi=>.inl (hold i hi),fun i o' e=>by rw [hold i (hw.hlt e)];exact hw.hi i o' e,.refl _,fun _ e=>.inl e⟩
  have hj1:=hK.rest _ _ _ _ _ _ hj (hrest G)
  have hw1:WOK (Ctx.round hh r o W1 np') hh r o W1:=Stt.rest hw (hrest (fun i=>∃ m,o m≠none∧bo (r m)=some i)) (fun m i hm e=>⟨m,hm,e⟩) np'
  have hnone:∀ i,w.heap.size≤i→hh i=none:=fun i hi=>by
    cases e:hh i with
    | none=>rfl
    | some o'=>have:=hw.hlt e;omega
  have hL0:=hnone (w.heap.size+1) (by omega)
  have hD0:=hnone w.heap.size (Nat.le_refl _)
  have hLG:¬ G (w.heap.size+1):=fun x=>by have:=(hGs _ x).1;omega
  have hDG:¬ G w.heap.size:=fun x=>by have:=(hGs _ x).1;omega
  have hob:∀ b,(∃ m,o m≠none∧bo (r m)=some b)→n0≤b∧¬ G b∧b≠w.heap.size+1∧b≠w.heap.size:=fun b ⟨m,hm,e⟩=>by
    have:=hnG hm e
    exact ⟨this.1,this.2.1,by omega,by omega⟩
  have nL:n0≤w.heap.size+1:=by omega
  generalize hLL:w.heap.size+1=L at *
  generalize hDD:w.heap.size=D at *
  have hLD:L≠D:=by omega
  refine ⟨L,[uf D],W1,{ target:=.fn (.func gf) lb,args:=#[.func (.yield L) #[] #[]] },W1,gf,#[.func (.yield L) #[] #[]] ++ lb,W1,?_,?_,fun _ _=>trivial,?_,fun e=>by simp [Wd] at e,?_⟩
  · rw [← hW1,hrec,← hLL,← hDD];exact run_enterLoop_outer _ _ _ _ _
  · simp only [resolve,hval]
    simp [go_sem]
  · have eg:∀ args w,(callFunc gf args).run P w=.ok (.enter gf args) w:=fun args w=>cL hit.fn args w
    simp [invoke,go_sem,eg]
  have hmen:=kw hfix
  have hrg:∀ h r',Hle hh h→(∀ m,m < np'→r' m=r m)→RegsOK h r' (cp l') a:=fun h r' hl hr t =>
    AVRep.rebind _ _ (fun m hm=>hr m (hmen t m hm)) (AVRep.mono hl _ _ (hc.rg t))
  refine CallsIn.mono (hit.go L lb (JI n0 J xs.length ys.length np' L D κ o r hh rec) hh (fun b=>(b=L∨b=D)∨G b∨∃ m,o m≠none∧bo (r m)=some b) W1 n0 (by omega) hcaps hw.gl ⟨⟨?_,?_,?_⟩,?_⟩ ?_) ?_
  · rintro i h G' W ⟨k,Gout,st,pe,q,_⟩
    exact hK.hi _ _ _ _ q
  · rintro i h G' W ⟨k,Gout,st,pe,q,e1,e2,e3,d1,d2,d3,hle,hgl,hx⟩ b hb
    have base:(b=L∨b=D)∨Gout b→b < W.heap.size∧h b=none:=by
      rintro ((rfl | rfl) | hb)
      · exact ⟨(Array.getElem?_eq_some_iff.1 e1).1,e2⟩
      · exact ⟨(Array.getElem?_eq_some_iff.1 d1).1,d2⟩
      exact hK.g _ _ _ _ q b hb
    rcases hx with ⟨_,_,_,_,r',_,hwk,_,rfl⟩ | ⟨_,_,_,_,rfl⟩
    · rcases hb with hb | hb | ⟨m,hm,e⟩
      · exact base (.inl hb)
      · exact base (.inr hb)
      exact ⟨hwk.lt hm e,hwk.ho m b hm e⟩
    exact base hb
  · rintro i h G' W h' W' ⟨k,Gout,st,pe,q,e1,e2,e3,d1,d2,d3,hle,hgl,hx⟩ hR
    have hsub:∀ b,(b=L∨b=D)∨Gout b→G' b:=by
      rcases hx with ⟨_,_,_,_,r',_,hwk,_,rfl⟩ | ⟨_,_,_,_,rfl⟩
      · rintro b (hb | hb)
        · exact .inl hb
        exact .inr (.inl hb)
      exact fun b hb=>hb
    have q':=hK.rest _ _ _ _ _ _ q (⟨hR.os,hR.tape,hR.output,hR.size,fun b hb=>(hR.old b hb).imp id fun ⟨x,y,z⟩=>⟨x,fun u=>y (hsub b (.inr u)),z⟩,hR.hi,hR.hg,fun b hb=>(hR.hn b hb).imp id fun ⟨x,y⟩=>⟨x,fun u=>y (hsub b (.inr u))⟩⟩:Rest n0 Gout h W h' W')
    have stay:∀ b ob,W.heap[b]?=some ob→h b=none→(b=L∨b=D)→W'.heap[b]?=some ob∧h' b=none:=fun b ob h1 h2 h3=>by
      refine ⟨?_,?_⟩
      · rcases hR.old b (Array.getElem?_eq_some_iff.1 h1).1 with g | ⟨_,g,_⟩
        · rw [g];exact h1
        exact absurd (hsub b (.inl h3)) g
      cases e:h' b with
      | none=>rfl
      | some o' =>
        rcases hR.hn b (by rw [e];simp) with g | ⟨_,g⟩
        · exact absurd h2 g
        exact absurd (hsub b (.inl h3)) g
    obtain ⟨f1,f2⟩:=stay L _ e1 e2 (.inl rfl)
    obtain ⟨f3,f4⟩:=stay D _ d1 d2 (.inr rfl)
    refine ⟨k,Gout,st,pe,q',f1,f2,e3,f3,f4,d3,hle.trans hR.hg,hgl.mono hR.hg,?_⟩
    rcases hx with ⟨x1,x2,x3,x4,r',x5,hwk,x6,rfl⟩ | hx
    · exact .inl ⟨x1,x2,x3,x4,r',x5,Stt.rest hwk hR (fun m b hm e=>.inr (.inr ⟨m,hm,e⟩)) np',x6,rfl⟩
    exact .inr hx
  · rintro i h G' W y vals hy ⟨k,Gout,st,pe,q,e1,e2,e3,d1,d2,d3,hle,hgl,hx⟩ hv
    have hil:i < ys.length:=(List.getElem?_eq_some_iff.1 hy).1
    obtain ⟨_,rfl,rfl,rfl,r',hr',hwk,hob',rfl⟩:=hx.resolve_right fun x=>by omega
    have hlen:y.length=ps.toList.length:=hps y (List.mem_of_getElem? hy)
    have hvl:vals.length=y.length:=kI _ _ hv
    have hsz:vals.toArray.size=(rec .ready none).params.size:=by
      rw [hrec]
      show vals.length=ps.size
      rw [hvl,hlen];simp
    refine ⟨_,_,_,_,run_yield e1 hsz,roundIn_of_wpIn trivial ?_⟩
    rw [hrec]
    show assign.wpIn (Wd (some L)) 0 P _ { tmps:=(ps.zip vals.toArray).foldl (fun t (p,v)=>t.setIfInBounds p v) a.tmps,defers:=[] } W
    have hzip:(ps.zip vals.toArray).foldl (fun t (p,v)=>t.setIfInBounds p v) a.tmps=(ps.toList.zip vals).foldl (fun t (p,v)=>t.setIfInBounds p v) a.tmps:=by
      rw [← Array.foldl_toList,Array.toList_zip]
    rw [hzip]
    obtain ⟨f1,f2⟩:=fG (r:=r') ps.toList y vals (cp l') a.tmps hv hlen (fun p hp=>by
      have:=List.all_eq_true.1 hpN p hp
      rw [hc.sz];simpa using this) (fun t=>hrg h r' hle hr' t)
    have hown:∀ b,(∃ m,o m≠none∧bo (r' m)=some b)→h b=none:=fun b ⟨m,hm,e⟩=>hwk.ho m b hm e
    have hltn:n0≤W.heap.size:=by have:=(Array.getElem?_eq_some_iff.1 e1).1;omega
    have hCK:CK n0 J N np' ⟨r,h,W,fun b=>Gout b∨∃ m,o m≠none∧bo (r' m)=some b⟩ (κ i) Gout h r' ⟨jV (cp l') ps.toList y,o⟩ { tmps:=(ps.toList.zip vals).foldl (fun t (p,v)=>t.setIfInBounds p v) a.tmps,defers:=[] } W :=
      ⟨f2.trans hc.sz,rfl,f1,Ctx.round h r' o W np',hwk,q,hltn,fun b hb=>⟨(hob' b hb).1,(hob' b hb).2.1,hown b hb⟩,rfl,rfl,fun m hm=>hr' m hm,⟨rfl,rfl,.refl _,Nat.le_refl _,fun _ _ _=>rfl,.refl _,fun _ e=>.inl e,fun _ e=>.inl e⟩⟩
    refine wpIn_mono (hround i y hy (some L) _ h r' _ W Gout hCK) ?_
    rintro e a1 w1 ⟨k1,s1,h2,r2,G2,q1,c1⟩
    cases e with
    | normal =>
      have fr1:=c1.frame
      have notB:∀ b,b=L∨b=D→¬ (Gout b∨∃ m,o m≠none∧bo (r' m)=some b):=by
        rintro b (rfl | rfl) (x | x)
        · exact e3 x
        · exact (hob' _ x).2.2.1 rfl
        · exact d3 x
        exact (hob' _ x).2.2.2 rfl
      obtain ⟨g1,g2,g3⟩:=fr1.keep e1 e2 (notB L (.inl rfl))
      obtain ⟨g4,g5,g6⟩:=fr1.keep d1 d2 (notB D (.inr rfl))
      have hj2:=c1.now hK.toKeepsB
      have hLw:L < w1.heap.size:=(Array.getElem?_eq_some_iff.1 g1).1
      have hD2:(w1.putObj L (.loop { rec .ready none with state:=.busy })).heap[D]?=some (.deferred (some [])):=by rw [ce (fun x=>hLD x.symm)];exact g4
      have hLb:(w1.putObj L (.loop { rec .ready none with state:=.busy })).heap[L]?=some (.loop { rec .ready none with state:=.busy }):=World.putObj_heap_same hLw
      have hi2:=hK.hi _ _ _ _ hj2
      have hput:=fun X (hX:¬ X L)=>je (n:=n0) (G:=X) (ob:=.loop { rec .ready none with state:=.busy }) hi2 nL hX g2
      have hj3:=hK.rest _ _ _ _ _ _ hj2 (hput G2 fun x=>g3 (.inl x))
      have hnG1:=fun {m b:Nat} (hm:s1.own m≠none) (e:bo (r2 m)=some b)=>c1.notG hK.toKeepsB (m:=m) (i:=b) hm e
      obtain ⟨C1,hw2,_,_,_,hnp1,_,hr01,_⟩:=c1.kj
      have hw3:WOK (Ctx.round h2 r2 s1.own (w1.putObj L (.loop { rec .ready none with state:=.busy })) np') h2 r2 s1.own (w1.putObj L (.loop { rec .ready none with state:=.busy })) :=
        Stt.rest hw2 (hput (tS s1 r2) fun x=>g3 (.inr x)) (fun m b hm e=>⟨m,hm,e⟩) np'
      have hr2:∀ m,m < np'→r2 m=r m:=fun m hm=>by rw [hw2.kp m (by omega)];exact hr01 m hm
      have hCK2:CK n0 J N np' ⟨r,h2,w1.putObj L (.loop { rec .ready none with state:=.busy }),fun b=>G2 b∨tS s1 r2 b⟩ k1 G2 h2 r2 s1 a1 (w1.putObj L (.loop { rec .ready none with state:=.busy })) :=
        ⟨c1.sz,c1.df,c1.rg,_,hw3,hj3,by rw [show (Ctx.round h2 r2 s1.own (w1.putObj L (.loop { rec .ready none with state:=.busy })) np').w0.heap.size=w1.heap.size from bP _ _ _];omega,fun b ⟨m,hm,e⟩=>⟨(hnG1 hm e).1,(hnG1 hm e).2.1,(hnG1 hm e).2.2.2⟩,rfl,rfl,hr2,⟨rfl,rfl,.refl _,Nat.le_refl _,fun _ _ _=>rfl,.refl _,fun _ e=>.inl e,fun _ e=>.inl e⟩⟩
      refine ⟨_,run_beginRound g1 (by rw [hrec]),?_⟩
      refine wpIn_mono (q1 (some L) _ h2 r2 a1 _ G2 hCK2) ?_
      rintro e a2 w2 ⟨k2,s2,h3,r3,G3,q2,c2⟩
      have fr2:=c2.frame
      obtain ⟨k3,k4,k5⟩:=fr2.keep hLb g2 g3
      obtain ⟨k6,k7,k8⟩:=fr2.keep hD2 g5 g6
      have hj4:=c2.now hK.toKeepsB
      have hi3:=hK.hi _ _ _ _ hj4
      have hLw2:L < w2.heap.size:=(Array.getElem?_eq_some_iff.1 k3).1
      have gave:∀ (ob:Obj) (B:Nat→Prop),(∀ b,B b→(b=L∨b=D)∨G3 b∨tS s2 r3 b)→Gave (fun b=>(b=L∨b=D)∨Gout b∨∃ m,o m≠none∧bo (r' m)=some b) h W B h3 (w2.putObj L ob):=fun ob B hB=>by
        have p1:=fr1.plus (X:=fun b=>b=L∨b=D)
        have p2:=fr2.plus (X:=fun b=>b=L∨b=D)
        refine Gave.mono (((p1.trans (uF (L:=L) (ob:=.loop { rec .ready none with state:=.busy }) (.inr (.inl rfl)))).trans p2).trans (uF (L:=L) (ob:=ob) (.inr (.inl rfl)))) (fun b hb=>?_) (fun b hb=>?_)
        · rcases hb with hb | hb
          · exact .inr hb
          exact .inl hb
        rcases hB b hb with x | x
        · exact .inl (.inr x)
        exact .inl (.inl x)
      have hnG2:=fun {m b:Nat} (hm:s2.own m≠none) (e:bo (r3 m)=some b)=>c2.notG hK.toKeepsB (m:=m) (i:=b) hm e
      obtain ⟨C2,hw4,_,_,_,hnp2,_,hr02,_⟩:=c2.kj
      have hle3:Hle hh h3:=hle.trans (fr1.hg.trans fr2.hg)
      have hj5:=fun (ob:Obj)=>hK.rest _ _ _ _ _ _ hj4 (je (n:=n0) (G:=G3) (ob:=ob) hi3 nL (fun x=>k5 (.inl x)) k4)
      have hDp:∀ ob:Obj,(w2.putObj L ob).heap[D]?=some (.deferred (some [])):=fun ob=>by rw [ce (fun x=>hLD x.symm)];exact k6
      rcases q2 with ⟨rfl,rfl,q2⟩ | ⟨rfl,q2⟩
      · obtain ⟨r4,q3,hwk3,q4⟩:=q2 C2 h3 r3 w2 (by omega) hw4
        have hob4:∀ b,(∃ m,o m≠none∧bo (r4 m)=some b)→tS s2 r3 b:=fun b ⟨m,hm,e⟩=>q4 m b hm e
        refine ⟨_,_,run_endRound none k3,true,rfl,h3,fun b=>(b=L∨b=D)∨G3 b∨∃ m,o m≠none∧bo (r4 m)=some b,?_,gave _ _ fun b hb=>?_⟩
        · refine ⟨κ (i+1),G3,.ready,none,hj5 _,?_,k4,fun x=>k5 (.inl x),hDp _,k7,fun x=>k8 (.inl x),hle3,hw4.gl,.inl ⟨hil,rfl,rfl,rfl,r4,fun m hm=>?_,?_,fun b hb=>?_,rfl⟩⟩
          · rw [World.putObj_heap_same hLw2,hrec];rfl
          · rw [q3 m hm,hw4.kp m (by omega)];exact hr02 m hm
          · exact Stt.rest hwk3 (je (n:=n0) (G:=fun b=>∃ m,o m≠none∧bo (r4 m)=some b) (h:=h3) hi3 nL (fun x=>k5 (.inr (hob4 _ x))) k4) (fun m b hm e=>⟨m,hm,e⟩) np'
          obtain ⟨m,hm,e⟩:=hob4 b hb
          have:=hnG2 hm e
          exact ⟨this.1,this.2.1,fun x=>k5 (.inr ⟨m,hm,x ▸ e⟩),fun x=>k8 (.inr ⟨m,hm,x ▸ e⟩)⟩
        rcases hb with hb | hb | hb
        · exact .inl hb
        · exact .inr (.inl hb)
        exact .inr (.inr (hob4 b hb))
      refine ⟨_,_,run_endRound (some .ret) k3,false,rfl,h3,fun b=>(b=L∨b=D)∨G3 b,?_,gave _ _ fun b hb=>?_⟩
      · refine ⟨k2,G3,.done,some .ret,hj5 _,?_,k4,fun x=>k5 (.inl x),hDp _,k7,fun x=>k8 (.inl x),hle3,hw4.gl,.inr ⟨(by show ys.length < ys.length+1+i;omega),rfl,rfl,q2,rfl⟩⟩
        rw [World.putObj_heap_same hLw2,hrec];rfl
      rcases hb with hb | hb
      · exact .inl hb
      exact .inr (.inl hb)
    | _=>exact q1.elim
  · exact ⟨κ 0,G,.ready,none,hj1,hL1,hL0,hLG,hD1,hD0,hDG,.refl _,hw.gl,.inl ⟨Nat.zero_le _,rfl,rfl,rfl,r,fun _ _=>rfl,hw1,hob,rfl⟩⟩
  rintro e W3 ⟨⟨v,rfl⟩,kf,h',G',hkf,k,Gout,st,pe,q,e1,e2,e3,d1,d2,d3,hle,hgl,hx⟩
  have hbusy:(rec st pe).state≠.busy:=by
    rw [hrec]
    rcases hx with ⟨_,_,h3,_⟩ | ⟨_,h3,_⟩ <;> (show st≠_;rw [h3];simp)
  have hpe:(rec st pe).pending=pe:=by rw [hrec]
  have hx2:xs.length≤k∧(pe=none∨pe=some .ret):=by
    rcases hx with ⟨h1,rfl,_,rfl,_⟩ | ⟨_,_,rfl,h4,_⟩
    · have:kf=ys.length:=by omega
      subst this
      exact ⟨hend,.inl rfl⟩
    exact ⟨h4,.inr rfl⟩
  have fin:∀ (ob:Obj) (e:Exit),(e=.normal∨e=.ret)→yO xs n0 J e { a with defers:=[uf D] ++ a.defers } (W3.putObj L ob):=fun ob e he =>
    ⟨he,k,h',Gout,hx2.1,hK.rest _ _ _ _ _ _ q (je (hK.hi _ _ _ _ q) nL e3 e2),.inr ⟨D,by rw [hc.df];rfl,by rw [ce (fun x=>hLD x.symm)];exact d1,by omega,d3,d2⟩⟩
  refine ⟨pe,_,by have:=run_endLoop (P:=P) e1 hbusy;rw [hpe] at this;exact this,?_⟩
  rcases hx2.2 with rfl | rfl
  · exact fin _ .normal (.inl rfl)
  exact wpIn_ret (fin _ .ret (.inr rfl))
end
end
section
open Go Go.RowKit
theorem oS {P:Program} {f:FuncId} {fn:Func} {c:Code} {N:Nat} {caps:List (List DV)} {xs:List (List PV)} (hf:P.funcs[f]?=some fn) (hnm:(fn.name == "runtime.NumGoroutine")=false) (hb:fn.body=some c) (hN:fn.ntmps=N) (hna:caps.length+1≤N) (hres:fn.results=#[])
  (h:∀ l n0 J,Keeps2 P l xs n0 J→AE P xs n0 J N 0 c 0 ⟨fun t=>((.p (.c (.v (.func (.yield l) #[] #[]))) :: caps.map .ip:List AV)).getD t .junk,O⟩):Iter2 P f caps xs:=by
 refine ⟨⟨fn,hf,hnm,by rw [hb];rfl⟩,?_⟩
 intro l lb J hh G W n0 hn0 hcaps hgl hK h0
 refine callsIn_of_wp_marks hf hb trivial ?_
 have hcl:∀ (cs:List (List DV)) (xs:List Value),CapsRep hh cs xs→xs.length=cs.length:=by
  intro cs
  induction cs with
  | nil=>intro xs k;cases xs with
   | nil=>rfl
   | cons _ _=>exact k.elim
  | cons p ps ih=>intro xs k;cases xs with
   | nil=>exact k.elim
   | cons x xs=>simp [ih xs k.2]
 have hlen:lb.size=caps.length:=by simpa using hcl _ _ hcaps
 have hget:∀ (cs:List (List DV)) (xs:List Value),CapsRep hh cs xs→∀ (t:Nat) (x:List DV),cs[t]?=some x→∃ y,xs[t]?=some y∧IpRep hh x y:=by
  intro cs
  induction cs with
  | nil=>intro xs _ t x h;simp at h
  | cons p ps ih=>intro xs h t x hx;cases xs with
   | nil=>exact h.elim
   | cons y ys=>cases t with
    | zero=>simp at hx;subst hx;exact ⟨y,rfl,h.1⟩
    | succ t=>exact ih ys h.2 t x (by simpa using hx)
 refine wpIn_mono (h l n0 J hK ⟨fun _=>.bool false,hh,W,G⟩ hh (fun _=>.bool false) _ W G ⟨?_,rfl,?_,(⟨W,hh,fun _=>False,fun _=>.bool false,0,false⟩:Ctx),?_,h0,hn0,fun _ e=>e.elim,rfl,rfl,fun _ _=>rfl,Gave.start fun _ e=>e⟩) ?_
 ·simp [hN,hlen];omega
 ·intro t
  show AVRep hh _ (((.p (.c (.v (.func (.yield l) #[] #[]))) :: caps.map .ip:List AV)).getD t .junk) _
  rw [List.getD_eq_getElem?_getD]
  cases t with
  | zero =>
   simp only [List.getElem?_cons_zero,Option.getD_some]
   have e0:(#[.func (.yield l) #[] #[]] ++ lb ++ Array.replicate (fn.ntmps - (#[.func (.yield l) #[] #[]] ++ lb:Array Value).size) undef:Array Value).getD 0 undef=.func (.yield l) #[] #[]:=by
    rw [Array.getD_eq_getD_getElem?,Array.getElem?_append_left (by simp;omega),Array.getElem?_append_left (by simp)];rfl
   show AVRep hh _ (.p (.c (.v (.func (.yield l) #[] #[])))) (Array.getD _ 0 undef)
   rw [e0]
   simp only [AVRep,PRep,DRep,true_and];rfl
  | succ t =>
   rw [List.getElem?_cons_succ,List.getElem?_map]
   cases ht:caps[t]? with
   | none=>exact trivial
   | some x =>
    obtain ⟨y,g1,g2⟩:=hget _ _ hcaps t x ht
    have g1':lb[t]?=some y:=by rw [← Array.getElem?_toList];exact g1
    have hlt:t < lb.size:=(Array.getElem?_eq_some_iff.1 g1').1
    simp only [Option.map_some,Option.getD_some,Array.getD_eq_getD_getElem?]
    rw [Array.getElem?_append_left (by simp;omega),Array.getElem?_append_right (by simp)]
    simp only [List.size_toArray,List.length_cons,List.length_nil,Nat.zero_add,Nat.add_sub_cancel,g1',Option.getD_some]
    exact g2
 ·exact ⟨fun m b e=>(by cases e),fun m n k e=>absurd rfl e,hK.hi _ _ _ _ h0,fun m k e=>absurd rfl e,rfl,rfl,.refl _,Nat.le_refl _,fun _ _ _=>rfl,fun m k e=>absurd rfl e,Hle.refl _,fun k e=>Or.inl e,hgl,fun _ _=>rfl,fun m b j e=>(by cases e)⟩
 rintro e a' w' ⟨he,kf,h',G',hk,hj,hd⟩
 have hr:∀ W',(results fn a'.tmps).run P W'=.ok (.tuple #[]) W':=fun W'=>by rw [fx,hres];simp
 have fin:LeavesInM (Wd none) 0 P fn a'.tmps (fun e W'=>(∃ v,e=.returned v)∧∃ kf h' G',xs.length≤kf∧J kf h' G' W') a'.defers .returning w':=by
  rcases hd with hd | ⟨D,hd,d1,d2,d3,d4⟩
  ·rw [hd]
   exact ⟨_,hr _,⟨_,rfl⟩,kf,h',G',hk,hj⟩
  rw [hd]
  refine ⟨by simp,.inl ⟨D,_,rfl,run_takeDeferred d1,?_⟩⟩
  exact ⟨_,hr _,⟨_,rfl⟩,kf,h',G',hk,hK.rest _ _ _ _ _ _ hj (je (hK.hi _ _ _ _ hj) d2 d3 d4)⟩
 rcases he with rfl | rfl <;> exact fin
end
section
open Go Go.RowKit
structure CallG (P:Program) (f:FuncId) (args:List AV) (gf:FuncId) (b:Blk):Prop where
 fn:o9 P f
 go:∀ (h:Hp) (r:Nat→Value) (w:World) (cargs:Array Value),RepArgs h r args cargs.toList→Before h r O w →
  Calls P f cargs w fun e w'=>∃ v h' k0,e=.returned (.func (.func gf) #[] #[.pointer (some ⟨k0,0,none⟩)])∧v=.pointer (some ⟨k0,0,none⟩)∧BlkRep h' w' v b∧(∀ k,bo v=some k→w.heap.size≤k∧h' k=none)∧After h r O w h' O w'
theorem Eff.callG {P:Program} {dst:Option Nat} {f:FuncId} {args:Array Operand} {tys:Array TypeId} {ty:TypeId} {pos:String} {af:Array Edge} {gd:Option (Nat × Bool)} {d:Nat} {ρ:Operand→AV} {own:Own} {gf:FuncId} {b:Blk}
  (hc:CallG P f (args.toList.map ρ) gf b) (hl0:lnk b=[]:=by rfl):Eff P ⟨dst,.call ⟨.value (.func f),args,tys⟩,ty,pos,af,gd⟩ d ρ own (.fnl gf d) [] (some b) []:=by
 intro C h r own' a w K Q hrep hrd hw hnew hK
 unfold Oper.wp
 have hrun:(execOp a.eval ⟨dst,.call ⟨.value (.func f),args,tys⟩,ty,pos,af,gd⟩).run P w=.ok (.enter f (args.map a.eval)) w:=by
  simp only [execOp,resolve,Sem.run_bind,Act.eval,Deferred.ofValue,Sem.run_pure,Result.andThen_ok,invoke,Array.empty_append,Array.append_empty]
  exact cL hc.fn _ w
 rw [hrun]
 refine Calls.mono (hc.go h r w (args.map a.eval) ?_ (hw.before fun m hm=>absurd rfl hm)) ?_
 ·rw [Array.toList_map]
  exact dF _ fun x hx=>hrep x (by simp only [Op.operands,Call.operands];exact Array.mem_append.2 (.inr (Array.mem_toList_iff.1 hx)))
 rintro e w' ⟨v,h',k0,rfl,hv0,hv,hfr,hq⟩
 obtain ⟨hd,hp,hnl⟩:=hnew (by simp)
 have hw':WOK C h' r own' w':=hw.after (fun m hm=>absurd rfl hm) hq (fun m=>by simp) (fun m b hm=>absurd rfl hm)
 refine hK _ h' (upd r d v) w' hq.hg (fun m hm=>aR _ _ _ _ (hm (by simp))) ⟨k0,by rw [upd_same,hv0];rfl,rfl⟩ ?_
 show WOK C h' (upd r d v) (upd own' d (some b)) w'
 have live:∀ m,m≠d→upd own' d (some b) m≠none→own' m≠none:=fun m h1 hm=>by rwa [aR _ _ _ _ h1] at hm
 have below:∀ m k,own' m≠none→bo (r m)=some k→k < w.heap.size:=fun m k hm hk=>hw.lt hm hk
 refine ⟨?_,?_,hw'.hi,?_,hw'.os,hw'.tape,hw'.output,hw'.size,hw'.old,?_,hw'.hg,hw'.hn,hw'.gl,?_,?_⟩
 ·intro m b' e
  by_cases h1:m=d
  ·subst h1;rw [upd_same] at e ⊢;cases e;exact hv
  rw [aR _ _ _ _ h1] at e ⊢;exact hw'.ow m b' e
 ·intro m n k hm hn e f'
  by_cases h1:m=d <;> by_cases h2:n=d
  ·rw [h1,h2]
  ·subst h1;rw [upd_same] at e;rw [aR _ _ _ _ h2] at f'
   have:=below n k (live n h2 hn) f';have:=(hfr k e).1;omega
  ·subst h2;rw [upd_same] at f';rw [aR _ _ _ _ h1] at e
   have:=below m k (live m h1 hm) e;have:=(hfr k f').1;omega
  rw [aR _ _ _ _ h1] at e;rw [aR _ _ _ _ h2] at f'
  exact hw'.inj m n k (live m h1 hm) (live n h2 hn) e f'
 ·intro m k hm e
  by_cases h1:m=d
  ·subst h1;rw [upd_same] at e;exact (hfr k e).2
  rw [aR _ _ _ _ h1] at e;exact hw'.ho m k (live m h1 hm) e
 ·intro m k hm e
  by_cases h1:m=d
  ·subst h1;rw [upd_same] at e;exact .inl (Nat.le_trans hw.size (hfr k e).1)
  rw [aR _ _ _ _ h1] at e;exact hw'.fo m k (live m h1 hm) e
 ·intro m hm
  rw [aR _ _ _ _ (by omega)];exact hw'.kp m hm
 intro m b' j e hj
 by_cases h1:m=d
 ·subst h1;rw [upd_same] at e;cases e;rw [hl0] at hj;cases hj
 rw [aR _ _ _ _ h1] at e
 have hjd:j≠d:=fun x=>hnl m b' e (x ▸ hj)
 rw [aR _ _ _ _ h1,aR _ _ _ _ hjd]
 exact hw'.lk m b' j e hj
def MS (fn:Func) (gf:FuncId) (b:Blk) (e:Exit) (s:St):Prop:=(e=.normal∨e=.ret)∧∃ t m,fn.results=#[.tmp t]∧s.regs t=.fnl gf m∧s.own m=some b
theorem CZ {P:Program} {f:FuncId} {fn:Func} {c:Code} {N:Nat} {args:List AV} {gf:FuncId} {b:Blk} (hf:P.funcs[f]?=some fn) (hnm:(fn.name == "runtime.NumGoroutine")=false) (hb:fn.body=some c) (hN:fn.ntmps=N) (hna:args.length≤N)
  (h:AWp P false N 0 c (MS fn gf b) ⟨fun t=>args.getD t .junk,O⟩) (hbv:b.vec=false:=by rfl):CallG P f args gf b:=by
 refine ⟨⟨fn,hf,hnm,by rw [hb];rfl⟩,?_⟩
 intro hh r w cargs hra hbf
 have hlen:cargs.size=args.length:=by
  have:∀ (as0:List AV) (xs:List Value),RepArgs hh r as0 xs→xs.length=as0.length:=by
   intro as0
   induction as0 with
   | nil=>intro xs h;cases xs with
    | nil=>rfl
    | cons _ _=>exact h.elim
   | cons p ps ih=>intro xs h;cases xs with
    | nil=>exact h.elim
    | cons x xs=>simp [ih xs h.2]
  simpa using this _ _ hra
 have hget:∀ (as0:List AV) (xs:List Value),RepArgs hh r as0 xs→∀ (t:Nat) (x:AV),as0[t]?=some x→∃ y,xs[t]?=some y∧AVRep hh r x y:=by
  intro as0
  induction as0 with
  | nil=>intro xs _ t x h;simp at h
  | cons p ps ih=>intro xs h t x hx;cases xs with
   | nil=>exact h.elim
   | cons y ys=>cases t with
    | zero=>simp at hx;subst hx;exact ⟨y,rfl,h.1⟩
    | succ t=>exact ih ys h.2 t x (by simpa using hx)
 refine nZ (n:=0) (callsIn_of_wp_marks hf hb trivial ?_)
 let C:Ctx:=⟨w,hh,fun _=>False,r,0,true⟩
 refine wpIn_mono (h none (fun _=>rfl) C hh r _ w ⟨rfl,rfl⟩ ⟨?_,trivial,?_,⟨hbf.ow,hbf.inj,hbf.hi,hbf.ho,rfl,rfl,.refl _,Nat.le_refl _,fun _ _ _=>rfl,fun m k hm=>absurd rfl hm,.refl _,fun k hk=>.inl hk,hbf.gl,fun _ _=>rfl,fun m b j hb=>by cases hb⟩⟩) ?_
 ·simp [hN];omega
 ·intro t
  show AVRep hh r (args.getD t .junk) _
  rw [List.getD_eq_getElem?_getD]
  cases ht:args[t]? with
  | none=>exact trivial
  | some x =>
   obtain ⟨y,h1,h2⟩:=hget _ _ hra t x ht
   have h1':cargs[t]?=some y:=by rw [← Array.getElem?_toList];exact h1
   have hlt:t < cargs.size:=(Array.getElem?_eq_some_iff.1 h1').1
   simp only [Array.getD_eq_getD_getElem?,Array.getElem?_append_left hlt,h1',Option.getD_some]
   exact h2
 rintro e a' w' ⟨s',h',r',⟨he,t,m,hres,hreg,hown⟩,hc⟩
 have fin:LeavesInM (Wd none) 0 P fn a'.tmps (fun e w'=>∃ v h' k0,e=.returned (.func (.func gf) #[] #[.pointer (some ⟨k0,0,none⟩)])∧v=.pointer (some ⟨k0,0,none⟩)∧BlkRep h' w' v b∧(∀ k,bo v=some k→w.heap.size≤k∧h' k=none)∧After hh r O w h' O w') a'.defers .returning w':=by
  refine jB hc ?_
  intro h' w' hc
  have hx:=hc.rg t
  rw [hreg] at hx
  obtain ⟨k0,hk0,hx⟩:=hx
  have hv1:(results fn a'.tmps).run P w'=.ok (.func (.func gf) #[] #[.pointer (some ⟨k0,0,none⟩)]) w':=by
   rw [fx,hres]
   have hx':a'.tmps.getD t undef=.func (.func gf) #[] #[.pointer (some ⟨k0,0,none⟩)]:=hx
   simp [iG,hx']
  have hk:=hc.wk
  have hlow:s'.own m≠none:=by rw [hown];simp
  have hrm:r' m=.pointer (some ⟨k0,0,none⟩):=by
   have hb:=hk.ow m b hown
   unfold BlkRep at hb
   rw [hbv] at hb
   obtain ⟨k,c,h1,_⟩:=hb
   rw [h1] at hk0 ⊢
   have:k=k0:=by simpa [bo] using hk0
   rw [this]
  refine ⟨_,hv1,r' m,h',k0,rfl,hrm,hk.ow m b hown,fun k e=>⟨?_,hk.ho m k hlow e⟩,?_⟩
  ·rcases hk.fo m k hlow e with g | g
   ·exact g
   exact g.elim
  refine ⟨fun m b e=>(by cases e),fun m hm=>absurd rfl hm,hk.hi,fun m k hm=>absurd rfl hm,hk.os,hk.tape,hk.output,hk.size,fun k h1 _=>hk.old k h1 (fun x=>x),hk.hg,fun k e=>?_⟩
  rcases hk.hn k e with g | g | g
  ·exact .inl g
  ·exact .inr (.inl g)
  exact g.elim
 rcases he with rfl | rfl <;> exact fin
section
variable {P:Program} {dst:Option Nat} {ty:TypeId} {pos:String} {af:Array Edge} {gd:Option (Nat × Bool)} {d:Nat} {ρ:Operand→AV} {own:Own}
theorem tW {f:FuncId} {c:Operand} {m:Nat} (hx:ρ c=.loc m 0):Eff P ⟨dst,.makeFunc (.func f) #[] #[c],ty,pos,af,gd⟩ d ρ own (.fnl f m) [] none [] :=
 bE fun C h r own' a w hrep hrd hw=>by
  have e1:=hrep c (by simp [Op.operands])
  rw [hx] at e1
  obtain ⟨k,h1,h2⟩:=e1
  refine ⟨.func (.func f) #[] #[a.eval c],?_,k,h1,by rw [h2]⟩
  simp [execOp,Instr.makeFunc]
end
end
end Go.AM
