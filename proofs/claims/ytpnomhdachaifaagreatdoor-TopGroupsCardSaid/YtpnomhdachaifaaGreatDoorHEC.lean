import Derived.Test.YtpnomhdachaifaaGreatDoorHEB
set_option maxRecDepth 100000
namespace Go.AM
open Go Go.RowKit
section
variable (P:Program)(l:Nat)(xs:List (List PV))(n0:Nat)(J:Nat->Hp->(Nat->Prop)->World->Prop)(N:Nat)
structure CJ(k:Nat)(G:Nat->Prop)(h:Hp)(r:Nat->Value)(s:St)(a:Act)(w:World):Prop where
 sz:a.tmps.size=N
 df:a.defers=[]
 rg:RegsOK h r s.regs a
 kj:∃ C:Ctx,WOK C h r s.own w∧J k C.h0 G C.w0∧n0<=C.w0.heap.size∧(∀ i,C.F i->n0<=i∧¬ G i∧C.h0 i=none)∧C.np=0∧C.mar=false
def AJ(c:Code)(Q:Exit->Nat->St->Prop)(k:Nat)(s:St):Prop :=
 ∀ (h:Hp) (r:Nat->Value) (a:Act) (w:World) (G:Nat->Prop),CJ n0 J N k G h r s a w ->
  c.wpIn (Wd none) 0 P (fun e a' w'=>∃ k' s' h' r' G',Q e k' s'∧CJ n0 J N k' G' h' r' s' a' w') a w
def RJ(Q:Exit->Nat->St->Prop)(ops:Array Oper)(os:List Oper)(i:Nat)(k:Nat)(s:St):Prop:=ops.toList.drop i=os ->
 ∀ (h:Hp) (r:Nat->Value) (a:Act) (w:World) (G:Nat->Prop),CJ n0 J N k G h r s a w ->
  wpOpsIn (Wd none) 0 P ops (fun e a' w'=>∃ k' s' h' r' G',Q e k' s'∧CJ n0 J N k' G' h' r' s' a' w') (List.range' i os.length) a w
end
def vm(K:Nat->St->Prop)(Q:Exit->Nat->St->Prop):Exit->Nat->St->Prop
 |.normal,k,s=>K k s
 |e,k,s=>Q e k s
def JIn(id:Nat)(Q:Exit->Nat->St->Prop):Exit->Nat->St->Prop
 |.exit id',k,s=>bif Nat.beq id' id then Q .normal k s else Q (.exit id') k s
 |e,k,s=>Q e k s
section
variable {P:Program}{l:Nat}{xs:List (List PV)}{n0:Nat}{J:Nat->Hp->(Nat->Prop)->World->Prop}{N:Nat}(hK:Keeps P l xs n0 J)
variable {Q:Exit->Nat->St->Prop}{k:Nat}{s:St}
include hK in
theorem CJ.now{G:Nat->Prop}{h:Hp}{r:Nat->Value}{a:Act}{w:World}(c:CJ n0 J N k G h r s a w):J k h G w:=by
 obtain⟨C,hw,hj,hs,hF,_⟩:=c.kj;have hg:=hK.g _ _ _ _ hj;refine hK.rest _ _ _ _ _ _ hj ⟨hw.os,hw.tape,hw.output,hw.size,fun i hi=>?_,hw.hi,hw.hg,fun i hi=>?_⟩
 ·by_cases e:C.F i
  ·exact .inr (hF i e)
  exact .inl (hw.old i hi e)
 rcases hw.hn i hi with g|g|g
 ·exact .inl g
 ·exact .inr ⟨UA hs g,fun x=>by have:=(hg i x).1;omega⟩
 exact .inr ⟨(hF i g).1,(hF i g).2.1⟩
include hK in
theorem CJ.notG{G:Nat->Prop}{h:Hp}{r:Nat->Value}{a:Act}{w:World}(c:CJ n0 J N k G h r s a w){m i:Nat}(hm:s.own m≠none)(e:aD (r m)=some i):n0<=i∧¬ G i∧i<w.heap.size∧h i=none:=by
 obtain⟨C,hw,hj,hs,hF,_⟩:=c.kj;refine⟨?_,?_,hw.lt hm e,hw.ho m i hm e⟩
 ·rcases hw.fo m i hm e with g|g
  ·exact UA hs g
  exact(hF i g).1
 rcases hw.fo m i hm e with g|g
 ·exact fun x=>by have:=(hK.g _ _ _ _ hj i x).1;omega
 exact(hF i g).2.1
theorem Mm{c:Code}(h:AWp P true N 0 c (fun e s'=>Q e k s') s):AJ P n0 J N c Q k s:=by
 intro hh r a w G hc;obtain⟨C,hw,hj,hs,hF,hn,hm⟩:=hc.kj;refine wpIn_mono (h none (fun _=>rfl) C hh r a w ⟨hn,hm⟩ ⟨hc.sz,by rw[hc.df];trivial,hc.rg,hw⟩) ?_;rintro e a' w' ⟨s',h',r',q,c'⟩;refine⟨k,s',h',r',G,q,c'.sz,?_,c'.rg,C,c'.wk,hj,hs,hF,hn,hm⟩;have:=c'.df;cases hd:a'.defers with
 |nil=>rfl
 |cons d ds=>rw[hd]at this;have h1:=this.1;rw[hm]at h1;cases h1
theorem cW(hP:P.follows .mixedOrders=true){id:Nat}{ops:Array Oper}{draw:Bool}(h:RK P N 0 ops draw ops.toList (bt (dA ops.toList) s) [] (Q .normal k)):AJ P n0 J N (.region id ops draw) Q k s :=
 Mm (bp hP h)
theorem dM{x y:Code}(h:AJ P n0 J N x (vm (AJ P n0 J N y Q) Q) k s):AJ P n0 J N (.seq x y) Q k s:=by
 intro hh r a w G hc;refine wpIn_seq (wpIn_mono (h hh r a w G hc) ?_);rintro e a' w' ⟨k',s',h',r',G',q,c⟩;cases e with
 |normal=>exact q h' r' a' w' G' c
 |_=>exact⟨k',s',h',r',G',q,c⟩
theorem jz(h:Q .normal k s):AJ P n0 J N .skip Q k s:=fun hh r _ _ G hc=>wpIn_skip ⟨k,s,hh,r,G,h,hc⟩
theorem ll{id:Nat}(h:Q (.exit id) k s):AJ P n0 J N (.exit id) Q k s:=fun hh r _ _ G hc=>wpIn_exit ⟨k,s,hh,r,G,h,hc⟩
theorem ke{id:Nat}{c:Code}(h:AJ P n0 J N c (JIn id Q) k s):AJ P n0 J N (.block id c) Q k s:=by
 intro hh r a w G hc;refine wpIn_block (wpIn_mono (h hh r a w G hc) ?_);rintro e a' w' ⟨k',s',h',r',G',q,c⟩;cases e with
 |exit id' =>
  simp only[Exit.inBlock];simp only[JIn]at q;by_cases hid:id'=id
  ·subst hid;rw[H2 rfl];have:Nat.beq id' id'=true:=by simp
   rw[this]at q;exact⟨k',s',h',r',G',q,c⟩
  rw[G2 hid];have:Nat.beq id' id=false:=by
   cases e:Nat.beq id' id with
   |false=>rfl
   |true=>exact absurd (UT e) hid
  rw[this]at q;exact⟨k',s',h',r',G',q,c⟩
 |_=>exact⟨k',s',h',r',G',q,c⟩
theorem CJ.bool{G:Nat->Prop}{h:Hp}{r:Nat->Value}{a:Act}{w:World}(hc:CJ n0 J N k G h r s a w){c:Operand}{b:Bool}(he:ev s.regs c=.p (.c (.v (.bool b)))):a.eval c=.bool b:=by
 have:=eL hc.rg c;rw[he]at this;simp only[AVRep,PRep,DRep]at this;exact this.1
theorem lp{c:Operand}{x y:Code}{b:Bool}(he:ev s.regs c=.p (.c (.v (.bool b))))(ht:b=true->AJ P n0 J N x Q k s)(hf:b=false->AJ P n0 J N y Q k s):AJ P n0 J N (.cond c x y) Q k s:=by
 intro hh r a w G hc;have hb:=hc.bool he;cases b with
 |true=>exact wpIn_cond_true hb (ht rfl hh r a w G hc)
 |false=>exact wpIn_cond_false hb (hf rfl hh r a w G hc)
theorem pj{c:Operand}{x y:Code}{b:Bool}(he:ev s.regs c=.p (.c (.v (.bool b))))(hb:b=true)(ht:AJ P n0 J N x Q k s):AJ P n0 J N (.cond c x y) Q k s :=
 lp he (fun _=>ht) (fun h=>by rw[hb]at h;cases h)
theorem iX{c:Operand}{x y:Code}{b:Bool}(he:ev s.regs c=.p (.c (.v (.bool b))))(hb:b=false)(hf:AJ P n0 J N y Q k s):AJ P n0 J N (.cond c x y) Q k s :=
 lp he (fun h=>by rw[hb]at h;cases h) (fun _=>hf)
theorem CJ.le{t:St}(q:Le s t){G:Nat->Prop}{h:Hp}{r:Nat->Value}{a:Act}{w:World}(c:CJ n0 J N k G h r s a w):CJ n0 J N k G h r t a w:=by
 obtain⟨C,hw,rest⟩:=c.kj;exact⟨c.sz,c.df,fun i=>q.regs i h r _ (c.rg i),C,hw.forget q.own,rest⟩
theorem tH{ι:Type}{c:Code}(I:ι->St)(κ:ι->Nat)(F:ι->Prop)(μ:ι->Nat)(i₀:ι)(h₀:F i₀)(hk:κ i₀=k)(hs:Le s (I i₀))(round:∀ i,F i->AJ P n0 J N c (vm (fun k' s'=>∃ j,F j∧μ j<μ i∧κ j=k'∧Le s' (I j)) Q) (κ i) (I i)):AJ P n0 J N (.loop c) Q k s:=by
 intro hh r a w G hc b kk cs hro hfn hroom;have key:∀ n i h r a w G,μ i=n->F i->CJ n0 J N (κ i) G h r (I i) a w ->
   ∃ e a' w',(∃ k' s' h' r' G',Q e k' s'∧CJ n0 J N k' G' h' r' s' a' w')∧ArrivesIn (Machine.fenced P (Wd none)) P (lone (b.atR a (.code c :: .inLoop c::kk)) cs w) b kk cs e a' w':=by
  intro n;induction n using Nat.strongRecOn with
  |_ n ih =>
   intro i h r a w G hμ hF hc;obtain⟨e,a₁,w₁,⟨k₁,s₁,h₁,r₁,G₁,hq,hc₁⟩,harr⟩:=round i hF h r a w G hc b (.inLoop c::kk) cs hro hfn hroom;cases e with
   |normal =>
    obtain⟨j,hFj,hlt,hκ,hle⟩:=hq;subst hκ;obtain⟨e₂,a₂,w₂,hq₂,harr₂⟩:=ih (μ j) (hμ▸hlt) j h₁ r₁ a₁ w₁ G₁ rfl hFj (hc₁.le hle);exact⟨e₂,a₂,w₂,hq₂,.of_steps (StepsIn.trans harr (.one (fenced_calm hfn hroom rfl) stepR_inLoop)) harr₂⟩
   |exit id=>exact⟨_,a₁,w₁,⟨k₁,s₁,h₁,r₁,G₁,hq,hc₁⟩,.pass (x:=.inLoop c) rfl (fun _ _=>.inl (by simp)) harr⟩
   |goto l=>exact⟨_,a₁,w₁,⟨k₁,s₁,h₁,r₁,G₁,hq,hc₁⟩,.pass (x:=.inLoop c) rfl (fun _ _=>.inl (by simp)) harr⟩
   |ret=>exact⟨_,a₁,w₁,⟨k₁,s₁,h₁,r₁,G₁,hq,hc₁⟩,.pass (x:=.inLoop c) rfl (fun _ _=>.inl (by simp)) harr⟩
   |panic ch=>exact⟨_,a₁,w₁,⟨k₁,s₁,h₁,r₁,G₁,hq,hc₁⟩,.pass (x:=.inLoop c) rfl (fun _ _=>.inl (by simp)) harr⟩
   |outgrown=>exact⟨_,a₁,w₁,⟨k₁,s₁,h₁,r₁,G₁,hq,hc₁⟩,.pass (x:=.inLoop c) rfl (fun _ _=>.inl (by simp)) harr⟩
 subst hk;obtain⟨e,a',w',hq,harr⟩:=key _ i₀ hh r a w G rfl h₀ (hc.le hs);exact⟨e,a',w',hq,.of_steps (.one (fenced_calm hfn hroom rfl) stepR_loop) harr⟩
section rj
variable {ops:Array Oper}{os:List Oper}{i:Nat}{op:Op}{ty:TypeId}{pos:String}{af:Array Edge}{gd:Option (Nat×Bool)}{t:Nat}
theorem nT{id:Nat}(h:RJ P n0 J N Q ops ops.toList 0 k s):AJ P n0 J N (.region id ops false) Q k s:=by
 intro hh r a w G hc;apply wpIn_region;rw[Xs];exact h rfl hh r a w G hc
theorem RJ.done(h:Q .normal k s):RJ P n0 J N Q ops [] i k s:=fun _ hh r _ _ G hc=>⟨k,s,hh,r,G,h,hc⟩
theorem jv{o:Oper}(h:ops.toList.drop i=o::os):ops[i]?=some o∧ops.toList.drop (i+1)=os:=by
 have h1:(ops.toList.drop i)[0]?=some o:=by rw[h];rfl
 rw[VC]at h1;refine⟨by rw[<- UJ];simpa using h1,?_⟩;rw[<- List.tail_drop,h];rfl
theorem eX{o:Oper}{b:Bool}{h:Hp}{r:Nat->Value}{a:Act}(hc:RegsOK h r s.regs a)(hG:cm ops o s.regs b):Region.wanted o (yielded ops a.tmps)=b:=by
 unfold cm at hG;cases hg:o.guard with
 |none =>
  rw[hg]at hG;unfold Region.wanted;rw[hg,hG]
 |some x =>
  obtain⟨j,want⟩:=x;rw[hg]at hG;obtain⟨t,g1,hG⟩:=hG;rcases hG with⟨c,g2,g3⟩|⟨g2,g3⟩
  ·have:=rn hc g1 g2;unfold Region.wanted;rw[hg];simp only[this];rw[<- g3];cases c <;> cases want <;> rfl
  have:=n4 hc g1 g2;unfold Region.wanted;rw[hg];simp only[this];rw[g3];cases want <;> rfl
theorem CJ.put{G:Nat->Prop}{h h':Hp}{r r':Nat->Value}{a:Act}{w w':World}{C:Ctx}{v:AV}{x:Value}(hc:CJ n0 J N k G h r s a w)(hle:Hle h h')(hr:∀ m,r' m=r m)(ht:t<N)(hv:AVRep h' r' v x)(q:WOK C h' r' s.own w')(hj:J k C.h0 G C.w0)(hs:n0<=C.w0.heap.size)(hF:∀ i,C.F i->n0<=i∧¬ G i∧C.h0 i=none)(hn:C.np=0)(hm:C.mar=false):CJ n0 J N k G h' r' ⟨upd s.regs t v,s.own⟩ (a.put (some t) x) w' :=
 ⟨by simp[Act.put,hc.sz],by simpa[Act.put]using hc.df,(show RegsOK h' r' s.regs a from fun u=>AVRep.rebind _ _ (fun m _=>hr m) (AVRep.mono hle _ _ (hc.rg u))).put (dst:=some t) (fun d e=>by cases e;rw[hc.sz];exact ht) hv,C,q,hj,hs,hF,hn,hm⟩
theorem RJ.val{v:AV}{rd:List Nat}(hg:cm ops ⟨some t,op,ty,pos,af,gd⟩ s.regs true)(he:Eff P ⟨some t,op,ty,pos,af,gd⟩ t (ev s.regs) s.own v [] none rd)(hr:RJ P n0 J N Q ops os (i+1) k ⟨upd s.regs t v,s.own⟩)(hN:(Nat.blt t N&&jR ⟨some t,op,ty,pos,af,gd⟩)=true:=by rfl):RJ P n0 J N Q ops (⟨some t,op,ty,pos,af,gd⟩::os) i k s:=by
 intro hd hh r a w G hc;obtain⟨h1,h2⟩:=jv hd;rw[Uw,WR]at hN;rw[U5,V8,wpOpsIn_cons];unfold wpOpIn;simp only[h1];rw[eX hc.rg hg,H2 rfl];obtain⟨C,hw,hj,hs,hF,hn,hm⟩:=hc.kj;refine nj (jD hN.2) ?_;refine he C hh r s.own a w _ _ (fun x _=>eL hc.rg x) (fun _ _=>rfl) hw (fun e=>absurd rfl e) ?_;intro x h' r' w' hle hrr hv hw';exact⟨hr h2 h' r' _ w' G (hc.put hle (fun m=>hrr m (fun e=>absurd rfl e)) hN.1 hv hw' hj hs hF hn hm),rfl⟩
theorem ns{h:Hp}{r:Nat->Value}:∀ {x:List PV} {vs:List Value},RepArgs h r (x.map .p) vs->PReps h x vs
 | [],[],_=>trivial
 |_::_,_::_,k=>⟨k.1,ns k.2⟩
 | [],_::_,k=>k.elim
 |_::_,[],k=>k.elim
theorem RJ.yield(hK:Keeps P l xs n0 J){c:Operand}{args:Array Operand}{tys:Array TypeId}{x:List PV}(hg:cm ops ⟨some t,.call ⟨.value c,args,tys⟩,ty,pos,af,gd⟩ s.regs true)(hy:ev s.regs c=.p (.c (.v (.func (.yield l) #[] #[]))))(ha:args.toList.map (ev s.regs)=x.map .p)(hx:xs[k]?=some x)(hr:RJ P n0 J N Q ops os (i+1) (k+1) ⟨upd s.regs t (.p (.c (.v (.bool true)))),s.own⟩)(hN:Nat.blt t N=true:=by rfl):RJ P n0 J N Q ops (⟨some t,.call ⟨.value c,args,tys⟩,ty,pos,af,gd⟩::os) i k s:=by
 intro hd hh r a w G hc;obtain⟨h1,h2⟩:=jv hd;rw[WR]at hN;rw[U5,V8,wpOpsIn_cons];unfold wpOpIn;simp only[h1];rw[eX hc.rg hg,H2 rfl];have hyv:a.eval c=.func (.yield l) #[] #[]:=by
  have:=eL hc.rg c;rw[hy]at this;simp only[AVRep,PRep,DRep]at this;exact this.1
 have hra:RepArgs hh r (x.map .p) (args.map a.eval).toList:=by
  rw[<- ha,VU];exact cX _ fun x _=>eL hc.rg x
 obtain⟨fn,tmps,assign,body,hrun,hR⟩:=hK.give k hh G w x _ hx (hc.now hK) (ns hra);refine⟨fun _ _=>trivial,?_⟩;rw[Oper.semAt_eq _ _ _ (fun c' e=>by cases e)];have hex:(execOp a.eval ⟨some t,.call ⟨.value c,args,tys⟩,ty,pos,af,gd⟩).run P w=.ok (.round l fn tmps assign body) w:=by
  simp only[execOp,resolve,Sem.run_bind,hyv,Deferred.ofValue,Sem.run_pure,Result.andThen_ok,invoke,Array.empty_append];have e:(args.map a.eval).toList.toArray=args.map a.eval:=Array.toArray_toList;rw[<- e];exact hrun
 rw[hex];refine⟨fun e=>by simp[Wd]at e,RoundIn.mono hR ?_⟩;rintro e w' ⟨rfl,h',G',hj,q⟩;have hC:=hc.kj;obtain⟨C,hw,hj0,hs,hF,hn,hm⟩:=hC;have same:∀ m i,s.own m≠none->aD (r m)=some i->w'.heap[i]?=w.heap[i]?:=fun m i hm e=>by
  have:=hc.notG hK hm e;exact q.old i this.2.2.1 this.2.1
 have hw':WOK ⟨w',h',fun i=>∃ m,s.own m≠none∧aD (r m)=some i,r,0,false⟩ h' r s.own w':=by
  refine⟨fun m b e=>((hw.ow m b e).mono q.hg).world fun i hi=>same m i (by rw[e];simp) hi,hw.inj,hK.hi _ _ _ _ hj,fun m i hm e=>?_,rfl,rfl,.refl _,Iv _,fun _ _ _=>rfl,fun m i hm e=>.inr ⟨m,hm,e⟩,.refl _,fun _ e=>.inl e,hw.gl.mono q.hg,fun _ _=>rfl,fun m b j e hj'=>?_⟩
  ·have hg:=hc.notG hK hm e;cases hh':h' i with
   |none=>rfl
   |some o =>
    rcases q.hn i (by rw[hh'];simp)with g|g|g
    ·exact absurd hg.2.2.2 g
    ·omega
    exact absurd g hg.2.1
  obtain⟨q1,t',e1,e2⟩:=hw.lk m b j e hj';exact⟨q1,t',e1,by rw[same m q1 (by rw[e];simp) (by rw[e1];rfl)];exact e2⟩
 have n1:n0<=w'.heap.size:=UA (UA hs hw.size) q.size;refine hr h2 h' r _ w' G' ⟨by simp[Act.put,hc.sz],by simpa[Act.put]using hc.df,(show RegsOK h' r s.regs a from fun u=>AVRep.mono q.hg _ _ (hc.rg u)).put (dst:=some t) (v:=.p (.c (.v (.bool true)))) (x:=.bool true) (fun d e=>by cases e;rw[hc.sz];exact hN) ⟨rfl,rfl⟩,_,hw',hj,n1,?_,rfl,rfl⟩;rintro i ⟨m,hm,e⟩;have hg:=hc.notG hK hm e;refine⟨hg.1,fun x=>?_,?_⟩
 ·rcases q.gg i x with g|g
  ·exact hg.2.1 g
  omega
 exact hw'.ho m i hm e
end rj
end
theorem zL{P:Program}{f:FuncId}{fn:Func}{c:Code}{N:Nat}{caps:List (List DV)}{xs:List (List PV)}(hf:P.funcs[f]?=some fn)(hnm:(fn.name == "runtime.NumGoroutine")=false)(hb:fn.body=some c)(hN:fn.ntmps=N)(hna:caps.length+1<=N)(hres:fn.results=#[])(h:∀ l n0 J,Keeps P l xs n0 J->AJ P n0 J N c (fun e k _=>(e=.normal∨e=.ret)∧k=xs.length) 0 ⟨fun t=>((.p (.c (.v (.func (.yield l) #[] #[])))::caps.map .ip:List AV)).getD t .junk,O⟩):Iter P f caps xs:=by
 refine⟨⟨fn,hf,hnm,by rw[hb];rfl⟩,?_⟩;intro l lb J hh G W hcaps hgl hK h0;refine callsIn_of_wp hf hb trivial ?_;have hcl:∀ (cs:List (List DV)) (xs:List Value),CapsRep hh cs xs->xs.length=cs.length:=by
  intro cs;induction cs with
  |nil=>intro xs k;cases xs with
   |nil=>rfl
   |cons _ _=>exact k.elim
  |cons p ps ih=>intro xs k;cases xs with
   |nil=>exact k.elim
   |cons x xs=>simp[ih xs k.2]
 have hlen:lb.size=caps.length:=by simpa using hcl _ _ hcaps
 have hget:∀ (cs:List (List DV)) (xs:List Value),CapsRep hh cs xs->∀ (t:Nat) (x:List DV),cs[t]?=some x->∃ y,xs[t]?=some y∧IpRep hh x y:=by
  intro cs;induction cs with
  |nil=>intro xs _ t x h;simp at h
  |cons p ps ih=>intro xs h t x hx;cases xs with
   |nil=>exact h.elim
   |cons y ys=>cases t with
    |zero=>simp at hx;subst hx;exact⟨y,rfl,h.1⟩
    |succ t=>exact ih ys h.2 t x (by simpa using hx)
 refine wpIn_mono (h l W.heap.size J hK hh (fun _=>.bool false) _ W G ⟨?_,rfl,?_,(⟨W,hh,fun _=>False,fun _=>.bool false,0,false⟩:Ctx),?_,h0,Iv _,fun _ e=>e.elim,rfl,rfl⟩) ?_
 ·simp[hN,hlen];omega
 ·intro t;show AVRep hh _ (((.p (.c (.v (.func (.yield l) #[] #[])))::caps.map .ip:List AV)).getD t .junk) _;rw[As];cases t with
  |zero =>
   simp only[List.getElem?_cons_zero,Option.getD_some];have e0:(#[.func (.yield l) #[] #[]]++lb++Array.replicate (fn.ntmps-(#[.func (.yield l) #[] #[]]++lb:Array Value).size) undef:Array Value).getD 0 undef=.func (.yield l) #[] #[]:=by
    rw[VP,U9 (by simp;omega),U9 (by simp)];rfl
   show AVRep hh _ (.p (.c (.v (.func (.yield l) #[] #[])))) (Array.getD _ 0 undef);rw[e0];simp only[AVRep,PRep,DRep,true_and];rfl
  |succ t =>
   rw[W0,UE];cases ht:caps[t]? with
   |none=>exact trivial
   |some x =>
    obtain⟨y,g1,g2⟩:=hget _ _ hcaps t x ht;have g1':lb[t]?=some y:=by rw[<- UJ];exact g1
    have hlt:t<lb.size:=(K0.1 g1').1;simp only[Option.map_some,Option.getD_some,Array.getD_eq_getD_getElem?];rw[U9 (by simp;omega),Array.getElem?_append_right (by simp)];simp only[List.size_toArray,List.length_cons,List.length_nil,Nat.zero_add,Nat.add_sub_cancel,g1',Option.getD_some];exact g2
 ·exact⟨fun m b e=>(by cases e),fun m n k e=>absurd rfl e,hK.hi _ _ _ _ h0,fun m k e=>absurd rfl e,rfl,rfl,.refl _,Iv _,fun _ _ _=>rfl,fun m k e=>absurd rfl e,Hle.refl _,fun k e=>Or.inl e,hgl,fun _ _=>rfl,fun m b j e=>(by cases e)⟩
 rintro e a' w' ⟨k',s',h',r',G',⟨he,rfl⟩,c'⟩;have hr:(results fn a'.tmps).run P w'=.ok (.tuple #[]) w':=by rw[eY,hres];simp
 have fin:∀ e',(e'=Exit.normal∨e'=Exit.ret)->bodyPost P fn (fun e W'=>(∃ v,e=.returned v)∧∃ h' G',J xs.length h' G' W') e' a' w':=by
  rintro e' (rfl|rfl) <;> exact⟨c'.df,_,hr,⟨_,rfl⟩,h',G',c'.now hK⟩
 exact fin e he
structure Tr where
 a:Int
 b:Int
 c:Int
 deriving DecidableEq
def okT(n a b:Int):Bool:=decide ((b*b+n)%(4*a)=0)&&(decide (a<=(b*b+n)/(4*a)) && !(decide (b<0)&&decide (a=(b*b+n)/(4*a))))
def fh(n a:Int):Nat->Int->List Tr
 |0,_=>[]
 |k+1,b=>(if okT n a b then[⟨a,b,(b*b+n)/(4*a)⟩]else[])++fh n a k (b+1)
def eQ(n:Int):Nat->Int->List Tr
 |0,_=>[]
 |k+1,a=>if 3*a*a<=n then fh n a (2*a).toNat (1-a)++eQ n k (a+1)else[]
def trs(n:Int):List Tr:=eQ n 2000 1
def TP(t:Tr):List DV:=[.v (.int .i64 t.a),.v (.int .i64 t.b),.v (.int .i64 t.c)]
def trI(n:Int):List (List PV):=(trs n).map fun t=>[.a (TP t)]
theorem Ip{a N:Int}(_h1:1<=a)(h:3*a*a<=N)(hN:N<=4194304):a<=1183:=by
 rcases UY 1183 a with h2|h2
 ·have h3:(1184:Int)*1184<=a*a:=Ve (by omega) (by omega) (by omega) (by omega);have e:3*a*a=3*(a*a):=UG ..;omega
 exact h2
theorem SD{a:Int}(h1:1<=a∧a<=1184):0<=3*a*a∧3*a*a<=4205568:=by
 have:=sK (x:=a) (m:=1184) (by omega);have e:3*a*a=3*(a*a):=UG ..;omega
theorem TY{x y:Int}(hx:0<=x∧x<=6000000)(hy:1<=y):0<=x/y∧x/y<=6000000:=⟨Xj hx.1 (by omega),X6 (XC _ hx.1) hx.2⟩
section
variable {n a b:Int}{k:Nat}{r:List Tr}
theorem EV(n:Int):(trs n).drop 0=eQ n (2001-(1:Int)).toNat 1:=rfl
theorem Qq(h:(trs n).drop k=eQ n (2001-a).toNat a)(ha:1<=a∧a<=1184)(hc:3*a*a<=n):(trs n).drop k=fh n a (a+1-(1-a)).toNat (1-a)++eQ n (2000-a).toNat (a+1):=by
 have e:(2001-a).toNat=(2000-a).toNat+1:=by omega
 rw[h,e,eQ,H2 hc,show(2*a).toNat=(a+1-(1-a)).toNat by congr 1;omega]
theorem AH(h:(trs n).drop k=fh n a (a+1-b).toNat b++r)(hb:b<=a)(hk:okT n a b=false):(trs n).drop k=fh n a (a+1-(b+1)).toNat (b+1)++r:=by
 have e:(a+1-b).toNat=(a+1-(b+1)).toNat+1:=by omega
 rw[h,e,fh,hk];rfl
theorem BT(h:(trs n).drop k=fh n a (a+1-b).toNat b++r)(hb:b<=a)(hk:okT n a b=true):(trs n).drop k=⟨a,b,(b*b+n)/(4*a)⟩::(fh n a (a+1-(b+1)).toNat (b+1)++r):=by
 have e:(a+1-b).toNat=(a+1-(b+1)).toNat+1:=by omega
 rw[h,e,fh,hk];rfl
theorem BU{t:Tr}(h:(trs n).drop k=t::r):(trI n)[k]?=some [.a (TP t)]:=by
 have h1:((trs n).drop k)[0]?=some t:=by rw[h];rfl
 rw[VC]at h1;unfold trI;rw[UE,show(trs n)[k]?=some t by simpa using h1];rfl
theorem yO{t:Tr}(h:(trs n).drop k=t::r):(trs n).drop (k+1)=r:=by
 rw[<- List.tail_drop,h];rfl
theorem Nn(h:(trs n).drop k=fh n a (a+1-b).toNat b++eQ n (2000-a).toNat (a+1))(hb:¬ b<=a):(trs n).drop k=eQ n (2001-(a+1)).toNat (a+1):=by
 have e:(a+1-b).toNat=0:=by omega
 have e2:(2001-(a+1)).toNat=(2000-a).toNat:=by omega
 rw[h,e,e2];rfl
theorem Np(h:(trs n).drop k=eQ n (2001-a).toNat a)(hc:¬ 3*a*a<=n)(hk:k<=(trs n).length):k=(trI n).length:=by
 have h0:(trs n).drop k=[]:=by
  rw[h];cases(2001-a).toNat with
  |zero=>rfl
  |succ k=>rw[eQ,G2 hc]
 have:=Ur List.length h0;rw[W7]at this;unfold trI;simp at this ⊢;omega
theorem HO{t:Tr}(h:(trs n).drop k=t::r):k+1<=(trs n).length:=by
 have:=Ur List.length h;rw[W7,U5]at this;omega
theorem Ra(h:(b*b+n)%(4*a)≠0):okT n a b=false:=by unfold okT;rw[Ix h];rfl
theorem Q9(h:(b*b+n)%(4*a)=0)(h1:(b*b+n)/(4*a)<a):okT n a b=false:=by unfold okT;rw[G6 h,Ix (by omega)];rfl
theorem Q8(h:(b*b+n)%(4*a)=0)(_h1:¬ (b*b+n)/(4*a)<a)(h2:b<0)(h3:a=(b*b+n)/(4*a)):okT n a b=false:=by
 unfold okT;rw[G6 h,G6 (by omega),G6 h2,G6 h3];rfl
theorem Q7(h:(b*b+n)%(4*a)=0)(h1:¬ (b*b+n)/(4*a)<a)(h3:¬ a=(b*b+n)/(4*a)):okT n a b=true:=by
 unfold okT;rw[G6 h,G6 (by omega),Ix h3,X9];rfl
theorem Q6(h:(b*b+n)%(4*a)=0)(h1:¬ (b*b+n)/(4*a)<a)(h2:¬ b<0):okT n a b=true:=by
 unfold okT;rw[G6 h,G6 (by omega),Ix h2];rfl
end
theorem wl_zero_iff{x:Int}:((wl x.natAbs).length:Int)=0↔x=0:=wl_len_zero
theorem yC{m:Nat}(h:0<(wl m).length):(wl m).getD 0 0=m%4294967296:=by
 have hm:0<m:=by
  rcases UI m with e|e
  ·subst e;simp[pk]at h
  exact e
 rw[n6 hm];rfl
def cV(x:Int):Bool:=decide (x%2=1)
theorem N7{x:Int}(h:¬ ((wl x.natAbs).length:Int)>0):false=cV x:=by
 have h1:((wl x.natAbs).length:Int)=0:=by omega
 have h2:=wl_zero_iff.1 h1;subst h2;rfl
theorem J9{x:Int}(h:((wl x.natAbs).length:Int)>0):((((wl x.natAbs).getD 0 0 &&& 1:Nat):Int)==1)=cV x:=by
 rw[yC (by omega),Nat.and_one_is_mod];unfold cV;rw[Vg,beq_iff_eq,decide_eq_true_iff];omega
theorem FW{x m:Int}(h:((wl x.natAbs).length:Int)=0):0=x%m:=by rw[wl_zero_iff.1 h];simp
theorem KG{x m:Int}(hm:m=4∨m=8)(h:¬ ((wl x.natAbs).length:Int)=0):((wl x.natAbs).getD 0 0:Int)%m=(x.natAbs:Int)%m:=by
 rw[yC (by omega)];rcases hm with rfl|rfl <;> omega
theorem KF{x m:Int}(hm:m=4∨m=8)(h:x<0)(h2:(x.natAbs:Int)%m>0):m-(x.natAbs:Int)%m=x%m:=by
 rcases hm with rfl|rfl <;> omega
theorem FX{x m:Int}(hm:m=4∨m=8)(h:x<0)(h2:¬ (x.natAbs:Int)%m>0):(x.natAbs:Int)%m=x%m:=by
 rcases hm with rfl|rfl <;> omega
theorem KE{x m:Int}(h:¬ x<0):(x.natAbs:Int)%m=x%m:=by
 rw[show(x.natAbs:Int)=x by omega]
def twG:Nat->Int->Int×Int
 |0,a=>(a,0)
 |f+1,a=>if cV a then(a,0)else((twG f (a/2)).1,(twG f (a/2)).2+1)
def tw(a:Int):Int×Int:=twG a.natAbs a
theorem vv:∀ (f:Nat) (a:Int),a≠0->a.natAbs<=f->twG (f+1) a=twG f a
 |0,a,h0,h=>by omega
 |f+1,a,h0,h=>by
  have e1:twG (f+1+1) a=if cV a then(a,0)else((twG (f+1) (a/2)).1,(twG (f+1) (a/2)).2+1):=rfl
  have e2:twG (f+1) a=if cV a then(a,0)else((twG f (a/2)).1,(twG f (a/2)).2+1):=rfl
  rw[e1,e2];split
  ·rfl
  next hp =>
  have h2:a%2=0:=by
   have:¬ a%2=1:=fun e=>hp (by unfold cV;rw[e];rfl)
   omega
  rw[vv f (a/2) (by omega) (by omega)]
theorem Jl{f:Nat}{a:Int}(h0:a≠0)(h:a.natAbs<=f):twG f a=tw a:=by
 unfold tw;induction f with
 |zero=>omega
 |succ f ih =>
  rcases Ut f a.natAbs with h1|h1
  ·have:a.natAbs=f+1:=by omega
   rw[this]
  rw[vv f a h0 h1];exact ih h1
theorem lr{a:Int}(h:cV a=true):tw a=(a,0):=by
 unfold tw;cases a.natAbs with
 |zero=>rfl
 |succ n=>rw[twG,H2 h]
theorem mE{a:Int}(h0:a≠0)(h:cV a=false):tw a=((tw (a/2)).1,(tw (a/2)).2+1):=by
 have h2:a%2=0:=by
  have:¬ a%2=1:=fun e=>by unfold cV at h;rw[e]at h;cases h
  omega
 have h3:a.natAbs=(a.natAbs-1)+1:=by omega
 have h4:tw a=twG ((a.natAbs-1)+1) a:=by unfold tw;rw[<- h3]
 rw[h4,twG,G2 (by rw[h];simp),Jl (a:=a/2) (f:=a.natAbs-1) (by omega) (by omega)]
theorem Jk{a0 b:Int}{k:Int}(h0:b≠0)(ho:cV b=false)(h:tw a0=((tw b).1,(tw b).2+k)):tw a0=((tw (b/2)).1,(tw (b/2)).2+(k+1)):=by
 rw[h,mE h0 ho];simp only[Prod.mk.injEq,true_and];omega
theorem Jj{a0 b:Int}{k:Int}(ho:cV b=true)(h:tw a0=((tw b).1,(tw b).2+k)):tw a0=(b,k):=by
 rw[h,lr ho];simp
theorem iE:∀ (n:Nat) (a:Int),a.natAbs<=n->a≠0->(tw a).1.natAbs<=a.natAbs∧(tw a).1≠0∧cV (tw a).1=true∧0<=(tw a).2∧(tw a).2<=a.natAbs∧(0<a->0<(tw a).1)
 |0,a,h,h0=>by omega
 |n+1,a,h,h0=>by
  cases ho:cV a with
  |true=>rw[lr ho];exact⟨Iv _,h0,ho,by simp only;omega,by simp only;omega,fun h=>h⟩
  |false =>
   have h2:a%2=0:=by
    have:¬ a%2=1:=fun e=>by unfold cV at ho;rw[e]at ho;cases ho
    omega
   obtain⟨i1,i2,i3,i4,i5,i6⟩:=iE n (a/2) (by omega) (by omega);rw[mE h0 ho];exact⟨by simp only;omega,i2,i3,by simp only;omega,by simp only;omega,fun hp=>i6 (by omega)⟩
def sg8(a:Int):Int:=if a%8=1 then 1 else if a%8=3 then -1 else if a%8=5 then -1 else if a%8=7 then 1 else 0
def jV:Nat->Int->Int->Int->Int×Int
 |0,k,_,n=>(k,n)
 |f+1,k,a,n=>if 0<a then
   let k1:=if(tw a).2%2=1 then k*sg8 n else k
   let k2:=if(tw a).1%4=3∧n%4=3 then -k1 else k1
   jV f k2 (n%(tw a).1) (tw a).1
  else(k,n)
def kr(a n:Int):Int :=
 if n=0 then(if(a.natAbs:Int)=1 then 1 else 0)
 else if cV a=false∧cV n=false then 0
 else
  let k0:Int:=if n<0∧a<0 then -1 else 1
  let n1:Int:=n.natAbs
  let k1:=if(tw n1).2%2=1 then k0*sg8 a else k0
  let r:=jV (a%(tw n1).1).natAbs.succ k1 (a%(tw n1).1) (tw n1).1
  if r.2=1 then r.1 else 0
theorem Gq{a b:Int}(hb:b≠0)(_ha:-9223372036854775807<=a∧a<=9223372036854775807)(hb2:-9223372036854775807<=b∧b<=9223372036854775807) :
  Int.gcd b (a.tmod b)=Int.gcd a b∧(-9223372036854775807<=a.tmod b∧a.tmod b<=9223372036854775807)∧(a.tmod b).natAbs<b.natAbs:=by
 have h1:(a.tmod b).natAbs=a.natAbs%b.natAbs:=Xk a b;have h2:a.natAbs%b.natAbs<b.natAbs:=Vc _ (by omega);refine⟨?_,?_,by omega⟩
 ·unfold Int.gcd;rw[h1,X7 b.natAbs,<- Nat.gcd_rec,X7]
 omega
theorem Li{a b x y:Int}(hb:b=0)(h:Int.gcd a b=Int.gcd x y):(if 0-a>a then 0-a else a)=((Int.gcd x y:Nat):Int):=by
 subst hb;rw[<- h];unfold Int.gcd;simp only[Int.natAbs_zero,Nat.gcd_zero_right];split <;> omega
def isD(x:Int):Bool:=decide (0<x)&&(decide (x%4=0)||decide (x%4=3))
theorem A0{k n:Nat}{x:Int}(hx:L n x)(h:2^k<=x.natAbs):k<2^n:=by
 unfold L at hx;generalize 2^n=e at hx ⊢;exact(Nat.pow_lt_pow_iff_right (a:=2) (by omega)).1 (Wk h hx)
theorem tW{k:Nat}{x:Int}(hx:L 40 x)(h:2^k<=x.natAbs):k<1099511627776:=Nat.lt_of_lt_of_eq (A0 hx h) (by decide)
structure TwI(x b k:Int):Prop where
 ne:b≠0
 lb:L 40 b
 tw:tw x=((AM.tw b).1,(AM.tw b).2+k)
 k0:0<=k
 le:b.natAbs*2^k.toNat<=x.natAbs
theorem TwI.start{x:Int}(hx:L 40 x)(h:x≠0):TwI x x 0:=⟨h,hx,by simp,by omega,by simp⟩
theorem TwI.lt{x b k:Int}(hx:L 40 x)(h:TwI x b k):k<1099511627776:=by
 have h1:1*2^k.toNat<=b.natAbs*2^k.toNat:=Uy _ (by have:=h.ne;omega);have:=tW (k:=k.toNat) hx (by have:=h.le;omega);have:=h.k0;omega
theorem TwI.next{x b k:Int}(h:TwI x b k)(ho:cV b=false):TwI x (b/2) (k+1)∧(b/2).natAbs<b.natAbs:=by
 have h2:b%2=0:=by
  have:¬ b%2=1:=fun e=>by unfold cV at ho;rw[e]at ho;cases ho
  omega
 have hne:=h.ne;have hb:b.natAbs=2*(b/2).natAbs:=by omega
 refine⟨⟨by omega,L.of_le h.lb (by omega),Jk hne ho h.tw,by have:=h.k0;omega,?_⟩,by omega⟩;have e:(k+1).toNat=k.toNat+1:=by have:=h.k0;omega
 have hl:=h.le;rw[hb]at hl;rw[e,Vk];have e2:(b/2).natAbs*(2^k.toNat*2)=2*(b/2).natAbs*2^k.toNat:=by
  rw[Va (2^k.toNat) 2,<- UV,Va _ 2]
 omega
theorem Nl{x:Int}(hx:L 40 x)(h0:x≠0):LB (tw x).1 40:=⟨L.of_le hx (iE _ x (Iv _) h0).1⟩
theorem Nk{x:Int}(hx:L 40 x)(h0:x≠0):0<=(tw x).2∧(tw x).2<1099511627776:=by
 have key:∀ (n:Nat) (a:Int),a.natAbs<=n->a≠0->(tw a).1.natAbs*2^(tw a).2.toNat<=a.natAbs:=by
  intro n;induction n with
  |zero=>intro a h h0;omega
  |succ n ih =>
   intro a h h0;cases ho:cV a with
   |true=>rw[lr ho];simp
   |false =>
    have h2:a%2=0:=by
     have:¬ a%2=1:=fun e=>by unfold cV at ho;rw[e]at ho;cases ho
     omega
    have i1:=ih (a/2) (by omega) (by omega);have i2:=(iE _ (a/2) (Iv _) (by omega)).2.2.2.1;rw[mE h0 ho];simp only;have e:((tw (a/2)).2+1).toNat=(tw (a/2)).2.toNat+1:=by omega
    have hb:a.natAbs=2*(a/2).natAbs:=by omega
    rw[e,Vk];have e2:(tw (a/2)).1.natAbs*(2^(tw (a/2)).2.toNat*2)=2*((tw (a/2)).1.natAbs*2^(tw (a/2)).2.toNat):=by
     rw[<- UV,Va _ 2]
    omega
 have h1:=key _ x (Iv _) h0;have h2:=iE _ x (Iv _) h0;have h3:1*2^(tw x).2.toNat<=(tw x).1.natAbs*2^(tw x).2.toNat:=Uy _ (by omega);have:=tW (k:=(tw x).2.toNat) hx (by omega);omega
def sgL:List Value:=[.int .i64 0,.int .i64 1,.int .i64 0,.int .i64 (-1),.int .i64 0,.int .i64 (-1),.int .i64 0,.int .i64 1]
theorem y7(x:Int):((sgL.drop (x%8).toNat).map DV.v)[0]?=some (.v (.int .i64 (sg8 x))):=by
 have h1:=UF x (show(8:Int)≠0 by omega);have h2:=UK x (show(0:Int)<8 by omega);unfold sg8;generalize x%8=r at *;have:r=0∨r=1∨r=2∨r=3∨r=4∨r=5∨r=6∨r=7:=by omega
 rcases this with rfl|rfl|rfl|rfl|rfl|rfl|rfl|rfl <;> rfl
theorem QF(x:Int):-1<=sg8 x∧sg8 x<=1:=by unfold sg8;repeat' split <;> omega
theorem wP{k x:Int}(h:-1<=k∧k<=1):-1<=k*sg8 x∧k*sg8 x<=1:=by
 have h2:=QF x;generalize sg8 x=s at *;have:k=-1∨k=0∨k=1:=by omega
 rcases this with rfl|rfl|rfl <;> omega
structure KrI(R:Int×Int)(f:Nat)(k a n:Int):Prop where
 hk:-1<=k∧k<=1
 a0:0<=a
 n0:0<n
 la:L 40 a
 ln:L 40 n
 hf:a.natAbs<f
 go:jV f k a n=R
def k1F(k a n:Int):Int:=if(tw a).2%2=1 then k*sg8 n else k
def k2F(k1 a n:Int):Int:=if(tw a).1%4=3∧n%4=3 then -k1 else k1
theorem KrI.next{R:Int×Int}{f:Nat}{k a n:Int}(h:KrI R f k a n)(ha:0<a) :
  KrI R (f-1) (k2F (k1F k a n) a n) (n%(tw a).1) (tw a).1∧(n%(tw a).1).natAbs<a.natAbs:=by
 have h1:=iE _ a (Iv _) (by omega);have hp:=h1.2.2.2.2.2 ha;have h3:=UF n (show(tw a).1≠0 by omega);have h4:=UK n hp;have hk1:-1<=k1F k a n∧k1F k a n<=1:=by
  unfold k1F;split
  ·exact wP h.hk
  exact h.hk
 have hla:=h.la;have hf:=h.hf;refine⟨⟨?_,h3,hp,L.of_le hla (by omega),L.of_le hla h1.1,by omega,?_⟩,by omega⟩
 ·unfold k2F;split <;> omega
 have e:f=(f-1)+1:=by omega
 have:=h.go;rw[e,jV,H2 ha]at this;exact this
theorem KrI.stop{R:Int×Int}{f:Nat}{k a n:Int}(h:KrI R f k a n)(ha:¬ 0<a):R=(k,n):=by
 have e:f=(f-1)+1:=by have:=h.hf;omega
 have:=h.go;rw[e,jV,G2 ha]at this;exact this.symm
def k0K(a n:Int):Int:=if n<0∧a<0 then -1 else 1
def k1K(a n:Int):Int:=if(tw (n.natAbs:Int)).2%2=1 then k0K a n*sg8 a else k0K a n
def RK_(a n:Int):Int×Int:=jV (a%(tw (n.natAbs:Int)).1).natAbs.succ (k1K a n) (a%(tw (n.natAbs:Int)).1) (tw (n.natAbs:Int)).1
theorem Bl(a n:Int):-1<=k0K a n∧k0K a n<=1:=by unfold k0K;split <;> omega
theorem H4(a n:Int):-1<=k1K a n∧k1K a n<=1:=by
 unfold k1K;split
 ·exact wP (Bl a n)
 exact Bl a n
theorem Td{a n:Int}(h:n=0)(h1:(a.natAbs:Int)=1):1=kr a n:=by unfold kr;rw[H2 h,H2 h1]
theorem RH{a n:Int}(h:n=0)(h1:¬ (a.natAbs:Int)=1):0=kr a n:=by unfold kr;rw[H2 h,G2 h1]
theorem KM{a n:Int}(h:¬ n=0)(h1:cV a=false)(h2:cV n=false):0=kr a n:=by unfold kr;rw[G2 h,H2 ⟨h1,h2⟩]
theorem vd{a n:Int}(h:¬ n=0)(h1:¬ (cV a=false∧cV n=false)):kr a n=if(RK_ a n).2=1 then(RK_ a n).1 else 0:=by unfold kr;rw[G2 h,G2 h1];rfl
theorem KrI.start{a n:Int}(h:¬ n=0)(_ha:L 40 a)(hn:L 40 n):KrI (RK_ a n) (a%(tw (n.natAbs:Int)).1).natAbs.succ (k1K a n) (a%(tw (n.natAbs:Int)).1) (tw (n.natAbs:Int)).1:=by
 have h1:=iE _ (n.natAbs:Int) (Iv _) (by omega);have hp:=h1.2.2.2.2.2 (by omega);have h3:=UF a (show(tw (n.natAbs:Int)).1≠0 by omega);have h4:=UK a hp;exact⟨H4 a n,h3,hp,L.of_le hn (by omega),L.of_le hn (by omega),Nat.lt_succ_self _,rfl⟩
theorem zx{m:Int}(h:m<0):((m.natAbs:Nat):Int)=-m:=by omega
theorem JZ{m:Int}(h:¬ m<0):((m.natAbs:Nat):Int)=m:=by omega
theorem H5{k a n:Int}(h:-1<=k∧k<=1):-1<=k1F k a n∧k1F k a n<=1:=by
 unfold k1F;split
 ·exact wP h
 exact h
def SR(fn:Func)(res:AV)(e:Exit)(s:St):Prop:=(e=.normal∨e=.ret)∧∃ t,fn.results=#[.tmp t]∧s.regs t=res
theorem q9{P:Program}{f:FuncId}{fn:Func}{c:Code}{N:Nat}{args:List AV}{res:AV}(hf:P.funcs[f]?=some fn)(hnm:(fn.name == "runtime.NumGoroutine")=false)(hb:fn.body=some c)(hN:fn.ntmps=N)(hna:args.length<=N)(hres:men res=[])(h:AWp P false N 0 c (SR fn res) ⟨fun t=>args.getD t .junk,O⟩):ak P f args res:=by
 refine⟨⟨fn,hf,hnm,by rw[hb];rfl⟩,?_⟩;intro hh r w cargs hra hbf;have hlen:cargs.size=args.length:=by
  have:∀ (as0:List AV) (xs:List Value),RepArgs hh r as0 xs->xs.length=as0.length:=by
   intro as0;induction as0 with
   |nil=>intro xs h;cases xs with
    |nil=>rfl
    |cons _ _=>exact h.elim
   |cons p ps ih=>intro xs h;cases xs with
    |nil=>exact h.elim
    |cons x xs=>simp[ih xs h.2]
  simpa using this _ _ hra
 have hget:∀ (as0:List AV) (xs:List Value),RepArgs hh r as0 xs->∀ (t:Nat) (x:AV),as0[t]?=some x->∃ y,xs[t]?=some y∧AVRep hh r x y:=by
  intro as0;induction as0 with
  |nil=>intro xs _ t x h;simp at h
  |cons p ps ih=>intro xs h t x hx;cases xs with
   |nil=>exact h.elim
   |cons y ys=>cases t with
    |zero=>simp at hx;subst hx;exact⟨y,rfl,h.1⟩
    |succ t=>exact ih ys h.2 t x (by simpa using hx)
 refine mZ (n:=0) (callsIn_of_wp_marks hf hb trivial ?_)
 let C:Ctx:=⟨w,hh,fun _=>False,r,0,true⟩
 refine wpIn_mono (h none (fun _=>rfl) C hh r _ w ⟨rfl,rfl⟩ ⟨?_,trivial,?_,⟨hbf.ow,hbf.inj,hbf.hi,hbf.ho,rfl,rfl,.refl _,Iv _,fun _ _ _=>rfl,fun m k hm=>absurd rfl hm,.refl _,fun k hk=>.inl hk,hbf.gl,fun _ _=>rfl,fun m b j hb=>by cases hb⟩⟩) ?_
 ·simp[hN];omega
 ·intro t;show AVRep hh r (args.getD t .junk) _;rw[As];cases ht:args[t]? with
  |none=>exact trivial
  |some x =>
   obtain⟨y,h1,h2⟩:=hget _ _ hra t x ht;have h1':cargs[t]?=some y:=by rw[<- UJ];exact h1
   have hlt:t<cargs.size:=(K0.1 h1').1;simp only[Array.getD_eq_getD_getElem?,Array.getElem?_append_left hlt,h1',Option.getD_some];exact h2
 rintro e a' w' ⟨s',h',r',⟨he,t,hrs,hreg⟩,hc⟩;have fin:LeavesInM (Wd none) 0 P fn a'.tmps (fun e w'=>∃ v h',e=.returned v∧AVRep h' r res v∧After hh r O w h' O w') a'.defers .returning w':=by
  refine iM hc ?_;intro h' w' hc;have hx:=hc.rg t;rw[hreg]at hx;have hv1:(results fn a'.tmps).run P w'=.ok (a'.tmps.getD t undef) w':=by
   rw[eY,hrs];simp[iG]
  have hk:=hc.wk;refine⟨_,hv1,_,h',rfl,AVRep.rebind _ _ (fun m hm=>by rw[hres]at hm;simp at hm) hx,?_⟩;refine⟨fun m b e=>(by cases e),fun m hm=>absurd rfl hm,hk.hi,fun m k hm=>absurd rfl hm,hk.os,hk.tape,hk.output,hk.size,fun k h1 _=>hk.old k h1 (fun x=>x),hk.hg,fun k e=>?_⟩;rcases hk.hn k e with g|g|g
  ·exact .inl g
  ·exact .inr (.inl g)
  exact g.elim
 rcases he with rfl|rfl <;> exact fin
def Tr.fm(t:Tr):Fm:=⟨t.a,t.b,t.c⟩
theorem lU{α:Type}{l:List α}{k:Nat}{x:α}(h:l[k]?=some x):l.take (k+1)=l.take k++[x]:=by
 rw[VI,h];rfl
def LK(n:Int)(p:Fm->Bool)(k:Nat):List Fm:=(((trs n).take k).map Tr.fm).filter p
def LW(n:Int)(p:Fm->Bool):List Fm:=((trs n).map Tr.fm).filter p
theorem Qd{n:Int}{p:Fm->Bool}{k:Nat}{t:Tr}(h:(trs n)[k]?=some t)(hp:p t.fm=true):LK n p (k+1)=LK n p k++[t.fm]:=by
 unfold LK;rw[lU h];simp[hp]
theorem SJ{n:Int}{p:Fm->Bool}{k:Nat}{t:Tr}(h:(trs n)[k]?=some t)(hp:p t.fm=false):LK n p (k+1)=LK n p k:=by
 unfold LK;rw[lU h];simp[hp]
theorem yQ(n:Int):(trI n).length=(trs n).length:=by unfold trI;simp
theorem Qf(n:Int)(p:Fm->Bool):LK n p (trI n).length=LW n p:=by unfold LK LW;rw[yQ,Vm]
theorem yR{n:Int}{k:Nat}{x:List PV}(h:(trI n)[k]?=some x):∃ t,(trs n)[k]?=some t∧x=[.a (TP t)]:=by
 unfold trI at h;rw[UE]at h;cases ht:(trs n)[k]? with
 |none=>rw[ht]at h;cases h
 |some t=>rw[ht]at h;cases h;exact⟨t,rfl,rfl⟩
theorem yP(n:Int):∀ x∈trI n,x.length=1:=by
 intro x hx;unfold trI at hx;obtain⟨t,_,rfl⟩:=UO.1 hx;rfl
theorem vJ(n a:Int):∀ (k:Nat) (b:Int),(fh n a k b).length<=k
 |0,_=>Iv _
 |k+1,b=>by
  unfold fh;rw[UB];have:=vJ n a k (b+1);split <;> simp <;> omega
theorem xW(n:Int):∀ (k:Nat) (a:Int),1<=a->a+k<=2001->(eQ n k a).length<=k*4002
 |0,_,_,_=>by simp[eQ]
 |k+1,a,h1,h2=>by
  unfold eQ;split
  ·rw[UB];have i1:=vJ n a (2*a).toNat (1-a);have i2:=xW n k (a+1) (by omega) (by omega);omega
  simp
theorem yM(n:Int):(trs n).length<=8004000:=xW n 2000 1 (by omega) (by omega)
theorem Qe(n:Int)(p:Fm->Bool)(k:Nat):(LK n p k).length<=8004000:=by
 unfold LK;have h1:=WI p (((trs n).take k).map Tr.fm);rw[Uq,Us]at h1;have:=yM n;omega
theorem nw{n a:Int}{t:Tr}:∀ {k:Nat} {b:Int},t∈fh n a k b->∃ b',b<=b'∧b'<b+k∧okT n a b'=true∧t=⟨a,b',(b'*b'+n)/(4*a)⟩
 |0,b,h=>by simp[fh]at h
 |k+1,b,h=>by
  unfold fh at h;rw[Vi]at h;rcases h with h|h
  ·split at h
   ·next hk=>simp at h;exact⟨b,by omega,by omega,hk,h⟩
   simp at h
  obtain⟨b',h1,h2,h3,h4⟩:=nw h;exact⟨b',by omega,by omega,h3,h4⟩
theorem qR{n:Int}{t:Tr}:∀ {k:Nat} {a:Int},1<=a->t∈eQ n k a->∃ a' b',a<=a'∧a'<a+k∧3*a'*a'<=n∧1-a'<=b'∧b'<=a'∧okT n a' b'=true∧t=⟨a',b',(b'*b'+n)/(4*a')⟩
 |0,a,_,h=>by simp[eQ]at h
 |k+1,a,ha,h=>by
  unfold eQ at h;split at h
  ·next hk =>
   rw[Vi]at h;rcases h with h|h
   ·obtain⟨b',h1,h2,h3,h4⟩:=nw h;exact⟨a,b',by omega,by omega,hk,h1,by omega,h3,h4⟩
   obtain⟨a',b',h1,h2,h3⟩:=qR (by omega) h;exact⟨a',b',by omega,by omega,h3⟩
  simp at h
structure TrB(n:Int)(t:Tr):Prop where
 a1:1<=t.a
 a2:t.a<=2000
 sq:3*t.a*t.a<=n
 b1:1-t.a<=t.b
 b2:t.b<=t.a
 md:(t.b*t.b+n)%(4*t.a)=0
 c:t.c=(t.b*t.b+n)/(4*t.a)
 ac:t.a<=t.c
 bc:¬ (t.b<0∧t.a=t.c)
theorem yK{n:Int}{t:Tr}(h:t∈trs n):TrB n t:=by
 obtain⟨a,b,h1,h2,h3,h4,h5,h6,rfl⟩:=qR (by omega) h;unfold okT at h6;rw[Uw,Uw,decide_eq_true_iff,decide_eq_true_iff]at h6;refine⟨h1,by simp only;omega,h3,h4,h5,h6.1,rfl,h6.2.1,?_⟩;rintro⟨g1,g2⟩;have:=h6.2.2;simp[show b<0 from g1]at this;exact this g2
theorem tJ{n:Int}{t:Tr}(h:t∈trs n)(hn:n<=4194304):(0<t.a∧t.a<=2000)∧(-2000<=t.b∧t.b<=2000)∧0<t.c∧t.c<=10000000:=by
 have k:=yK h;have h1:=k.a1;have h2:=k.a2;have h3:=k.b1;have h4:=k.b2;have h5:=k.ac;have h6:=k.sq;have qs:=sK (x:=t.b) (m:=2000) (by omega);have qa:=cz t.a;have e:3*t.a*t.a=3*(t.a*t.a):=UG ..;have hc:t.c<=t.b*t.b+n:=by rw[k.c];exact XC _ (by omega)
 omega
def prT(t:Tr):Bool:=decide (Int.gcd (Int.gcd t.a t.b:Nat) t.c=1)
def clK(n:Int)(k:Nat):Int:=(((trs n).take k).filter prT).length
def cls(n:Int):Int:=((trs n).filter prT).length
theorem LI{n:Int}{k:Nat}{t:Tr}(h:(trs n)[k]?=some t)(hp:prT t=true):clK n (k+1)=clK n k+1:=by
 unfold clK;rw[lU h];simp[hp]
theorem PC{n:Int}{k:Nat}{t:Tr}(h:(trs n)[k]?=some t)(hp:prT t=false):clK n (k+1)=clK n k:=by
 unfold clK;rw[lU h];simp[hp]
theorem LJ(n:Int):clK n (trI n).length=cls n:=by unfold clK cls;rw[yQ,Vm]
theorem So(n:Int)(k:Nat):0<=clK n k∧clK n k<=8004000:=by
 unfold clK;have h1:=WI prT ((trs n).take k);rw[Us]at h1;have:=yM n;omega
theorem Cs{t:Tr}:(((Int.gcd (Int.gcd t.a t.b:Nat) t.c:Nat):Int)==1)=prT t:=by
 unfold prT;rw[Vg];simp;omega
def bj:List Int->Int
 | []=>0
 |x::l=>x+bj l
theorem tM(l:List Int)(x:Int):bj (l++[x])=bj l+x:=by
 induction l with
 |nil=>simp[bj]
 |cons y l ih=>simp only[List.cons_append,bj,ih];omega
def szE(d:Int):Int:=if 0<=d∨d%4>1 then 5 else if -d>4194304 then 2 else 0
def szN(d:Int):Int:=if szE d=0 then -d else 0
theorem Ns{d:Int}(h:0<=d∨d%4>1):AV.t [PE 0,PE 5]=AV.t [PE (szN d),PE (szE d)]:=by
 have:szE d=5:=by unfold szE;rw[H2 h]
 unfold szN;rw[this];rfl
theorem SV{d:Int}(h:¬ (0<=d∨d%4>1))(h1:-d>4194304):AV.t [PE 0,PE 2]=AV.t [PE (szN d),PE (szE d)]:=by
 have:szE d=2:=by unfold szE;rw[G2 h,H2 h1]
 unfold szN;rw[this];rfl
theorem SW{d:Int}(h:¬ (0<=d∨d%4>1))(h1:¬ -d>4194304):AV.t [PE (-d),PE 0]=AV.t [PE (szN d),PE (szE d)]:=by
 have:szE d=0:=by unfold szE;rw[G2 h,G2 h1]
 unfold szN;rw[this];rfl
theorem u5{d:Int}(h:szE d=0):szN d=-d∧0 < -d∧-d<=4194304∧d%4<=1:=by
 have e:szN d=-d:=by unfold szN;rw[H2 h]
 unfold szE at h;split at h
 ·cases h
 split at h
 ·cases h
 exact⟨e,by omega,by omega,by omega⟩
theorem sM{a:Int}(h:-100000000<=a∧a<=100000000):L 44 a:=(show L 6 a by unfold L;omega).mono (by omega)
theorem RX{a b:Int}(ha:0<a∧a<=2000):0<=((Int.gcd a b:Nat):Int)∧((Int.gcd a b:Nat):Int)<=2000:=by
 have h1:((Int.gcd a b:Nat):Int)∣a:=U7 ..;have h2:=WJ ha.1 h1;omega
theorem Q3{t:Tr}(h:(((Int.gcd (Int.gcd t.a t.b:Nat) t.c:Nat):Int)==1)=true):prT t=true:=by rw[<- Cs];exact h
theorem Q4{t:Tr}(h:(((Int.gcd (Int.gcd t.a t.b:Nat) t.c:Nat):Int)==1)=false):prT t=false:=by rw[<- Cs];exact h
def clE(d:Int):Int:=if szE d=0 then cls (-d)else 0
theorem GW.forget_as{np':Nat}{s o o':Own}(h:o=o')(h2:∀ m,o m=s m∨o m=none):GW np' s o':=GW.forget (by subst h;exact h2)
theorem C8:∀ (f:Nat) (k a n:Int),(-1<=k∧k<=1)->-1<=(jV f k a n).1∧(jV f k a n).1<=1
 |0,k,a,n,h=>by simpa[jV]using h
 |f+1,k,a,n,h=>by
  rw[jV];split
  ·refine C8 f _ _ _ ?_;have h1:=H5 (a:=a) (n:=n) h;unfold k1F at h1;split <;> omega
  exact h
theorem Tc(a n:Int):-1<=kr a n∧kr a n<=1:=by
 by_cases h:n=0
 ·unfold kr;rw[H2 h];split <;> omega
 by_cases h1:cV a=false∧cV n=false
 ·unfold kr;rw[G2 h,H2 h1];omega
 rw[vd h h1];have:=C8 (a%(tw (n.natAbs:Int)).1).natAbs.succ (k1K a n) (a%(tw (n.natAbs:Int)).1) (tw (n.natAbs:Int)).1 (H4 a n);split
 ·exact this
 omega
def Pj(p:Int):Nat->Int->Int
 |0,l=>l
 |k+1,l=>if l%p=0 then Pj p k (l/p)else l
def dv(p l:Int):Int:=Pj p l.toNat l
def rtS(d h l p:Int):Int:=if l%p=0 then h/p*(p-kr d p)else h
def NC(d:Int):Nat->Int->Int->Int->Int
 |0,h,_,_=>h
 |k+1,h,l,p=>if p<=l then NC d k (rtS d h l p) (dv p l) (p+1)else h
structure RtI(d T b m h l p:Int):Prop where
 p2:2<=p
 pm:p<=m+1
 l1:1<=l
 lm:l<=m
 h0:0<=h
 hl:h*l<=b
 go:∃ k,(l+2-p).toNat<=k∧NC d k h l p=T
theorem RtI.mul{d T b m h l p:Int}(i:RtI d T b m h l p):0<=h/p∧h/p<=h∧0<=h/p*(p-kr d p)∧h/p*(p-kr d p)<=2*h:=by
 have hk:=Tc d p;have p2:=i.p2;have h0:=i.h0;have h1:0<=h/p:=Xj h0 (by omega);have h2:h/p<=h:=XC _ h0;have e:=UC h p;have e2:=UF h (show p≠0 by omega);generalize h/p=q at *;generalize kr d p=s at *;have h3:0<=q*(p-s):=Vd h1 (by omega);have h4:q*(p-s)<=q*(p+1):=Up (by omega) h1;have h5:q*(p+1)=p*q+q:=by rw[Int.mul_add,WO,Xl]
 exact⟨h1,h2,h3,by omega⟩
theorem lV{l:List Fm}{k:Nat}(h:k<l.length):l.take (k+1)=l.take k++[l.getD k ⟨0,0,0⟩]:=by
 rw[As,Fl h,Option.getD_some,List.take_succ_eq_append_getElem h]
def lwO(a:Int):Bool:=decide (-9223372036854775808<=a∧a<9223372036854775808)
def lwV(a:Int):Int:=if lwO a=true then a else 0
def v0(n:Nat):Nat:=wd (wl n) 0+4294967296*wd (wl n) 1
theorem Rz{a:Int}(h:a < -9223372036854775808∨9223372036854775808<=a):AV.t [.c (.v (.int .i64 0)),.c (.v (.bool false))]=AV.t [.c (.v (.int .i64 (lwV a))),.c (.v (.bool (lwO a)))]:=by
 have e:lwO a=false:=by unfold lwO;rw[decide_eq_false_iff_not];omega
 unfold lwV;rw[e];rfl
structure RedT(n:Int)(t:Tr):Prop where
 a1:1<=t.a
 b1:1-t.a<=t.b
 b2:t.b<=t.a
 ac:t.a<=t.c
 bc:¬ (t.b<0∧t.a=t.c)
 ds:4*t.a*t.c=t.b*t.b+n
theorem rW{n a b':Int}:∀ (k:Nat) (b:Int),b<=b'->b'<b+k->okT n a b'=true->(⟨a,b',(b'*b'+n)/(4*a)⟩:Tr)∈fh n a k b
 |0,b,h,h1,_=>by omega
 |k+1,b,h,h1,h2=>by
  unfold fh;rw[Vi];by_cases e:b=b'
  ·subst e;rw[H2 h2];exact .inl (by simp)
  exact .inr (rW k (b+1) (by omega) (by omega) h2)
theorem B4{a b:Int}(h1:1<=a)(h:a<=b):3*a*a<=3*b*b:=by
 have:a*a<=b*b:=Ve h h (by omega) (by omega);rw[UG,UG];omega
theorem rX{n a' b':Int}:∀ (k:Nat) (a:Int),1<=a->a<=a'->a'<a+k->3*a'*a'<=n->1-a'<=b'->b'<=a'->okT n a' b'=true->(⟨a',b',(b'*b'+n)/(4*a')⟩:Tr)∈eQ n k a
 |0,a,_,h,h1,_,_,_,_=>by omega
 |k+1,a,h0,h,h1,h2,h3,h4,h5=>by
  unfold eQ;have h6:=B4 h0 h;rw[H2 (by omega),Vi];by_cases e:a=a'
  ·subst e;exact .inl (rW _ _ h3 (by omega) h5)
  exact .inr (rX k (a+1) (by omega) (by omega) (by omega) h2 h3 h4 h5)
theorem RedT.sq{n:Int}{t:Tr}(h:RedT n t):3*t.a*t.a<=n:=by
 have h1:=h.ds;have h2:t.a*t.a<=t.a*t.c:=Up h.ac (by have:=h.a1;omega);have h3:=sK (x:=t.b) (m:=t.a) (by have:=h.b1;have:=h.b2;omega);rw[UG]at h1 ⊢;omega
theorem okT_iff{n a b:Int}:okT n a b=true↔(b*b+n)%(4*a)=0∧a<=(b*b+n)/(4*a)∧¬ (b<0∧a=(b*b+n)/(4*a)):=by
 unfold okT;simp only[Bool.and_eq_true,decide_eq_true_iff,Bool.not_eq_true',Bool.and_eq_false_iff,decide_eq_false_iff_not];constructor
 ·rintro⟨h1,h2,h3⟩;exact⟨h1,h2,fun x=>h3.elim (fun g=>g x.1) (fun g=>g x.2)⟩
 rintro⟨h1,h2,h3⟩;exact⟨h1,h2,by by_cases g:b<0;exact .inr (fun e=>h3 ⟨g,e⟩);exact .inl g⟩
theorem yN{n:Int}(hn:n<=4194304)(t:Tr):t∈trs n↔RedT n t:=by
 constructor
 ·intro h;have k:=yK h;refine⟨k.a1,k.b1,k.b2,k.ac,k.bc,?_⟩;have e:=UC (t.b*t.b+n) (4*t.a);rw[k.md,<- k.c]at e;omega
 intro h;have h1:=h.sq;have h2:=Ip h.a1 h1 hn;have hd:(t.b*t.b+n)/(4*t.a)=t.c:=by rw[<- h.ds];exact U6 _ (by have:=h.a1;omega)
 have hm:(t.b*t.b+n)%(4*t.a)=0:=by rw[<- h.ds];exact Int.mul_emod_right _ _
 have h3:=rX (n:=n) (a':=t.a) (b':=t.b) 2000 1 (by omega) h.a1 (by omega) h1 h.b1 h.b2 (okT_iff.2 ⟨hm,by rw[hd];exact h.ac,by rw[hd];exact h.bc⟩);rw[hd]at h3;exact h3
theorem JO{n:Int}{t:Tr}(h:RedT n t):0<n:=by
 have h1:=h.sq;have h2:=B4 (show(1:Int)<=1 by omega) h.a1;omega
def PT(n m:Int):Bool:=decide (n%(m*m)=0)&&isD (n/(m*m))
theorem BX{l m:List Int}(h:l.Perm m):bj l=bj m:=by
 induction h with
 |nil=>rfl
 |cons x _ ih=>simp only[bj,ih]
 |swap x y l=>simp only[bj];omega
 |trans _ _ h1 h2=>exact h1.trans h2
def G1(f:Nat->Int):Nat->Int
 |0=>0
 |k+1=>G1 f k+f (k+1)
def wN(n:Int):Int:=if n=3 then 4 else if n=4 then 6 else 12
def hTm(n m:Int):Int:=if PT n m=true then wN (n/(m*m))*cls (n/(m*m))else 0
def hS(n m:Int):Int:=G1 (fun i=>hTm n (i:Int)) (m-1).toNat
def prG(f:Fm):Bool:=prim f.a f.b f.c
theorem NP(t:Tr):prG t.fm=prT t:=by
 unfold prG prim prT Tr.fm;rw[Vg,decide_eq_true_iff,decide_eq_true_iff];have e:Int.gcd t.a (Int.gcd t.b t.c:Int)=Int.gcd (Int.gcd t.a t.b:Nat) t.c:=by
  unfold Int.gcd;simp only[Int.natAbs_natCast,Nat.gcd_assoc]
 simp only;rw[e]
theorem SH(n:Int):LW n prG=((trs n).filter prT).map Tr.fm:=by
 unfold LW;rw[X4]
 congr 1
 refine VV (fun t _=>NP t)
theorem qY{l:List Fm}{k:Nat}(h:(k:Int)<l.length):l.getD k ⟨0,0,0⟩∈l:=by
 rw[As,Fl (by omega),Option.getD_some];exact WC _
def cTm(n m:Int):Int:=if PT n m=true then((LW (n/(m*m)) prG).length:Nat)else 0
def cS(n m:Int):Int:=G1 (fun i=>cTm n (i:Int)) (m-1).toNat
theorem zE{a:Int}(h:-9223372036854775808<=a∧a<9223372036854775808):lwO a=true∧lwV a=a:=by
 have e:lwO a=true:=by unfold lwO;rw[decide_eq_true_iff];exact h
 exact⟨e,by unfold lwV;rw[H2 e]⟩
theorem lwO_iff{a:Int}:lwO a=true↔-9223372036854775808<=a∧a<9223372036854775808:=by unfold lwO;rw[decide_eq_true_iff]
theorem RB{a:Int}(h:lwO a=false):¬ (-9223372036854775808<=a∧a<9223372036854775808):=by unfold lwO at h;rwa [decide_eq_false_iff_not]at h
theorem RedT.dsc{n:Int}{t:Tr}(h:RedT n t):dsc t.a t.b t.c=-n:=by
 have:=h.ds;unfold AM.dsc;omega
theorem RedT.pos{n:Int}{t:Tr}(h:RedT n t):t.fm.pos:=by
 refine⟨by have:=h.a1;show 0<t.a;omega,?_⟩;show AM.dsc t.a t.b t.c<0;rw[h.dsc];have:=JO h;omega
theorem RedT.rd{n:Int}{t:Tr}(h:RedT n t):Rd t.fm:=by
 obtain⟨h1,h2,h3,h4,h5,h6⟩:=h;refine⟨by show 0<t.a;omega,by show(t.b.natAbs:Int)<=t.a;omega,h4,?_⟩;show((t.b.natAbs:Int)<t.a∧t.a<t.c)∨0<=t.b;by_cases g:t.b<0
 ·exact .inl ⟨by omega,by
   rcases UY t.a t.c with q|q
   ·exact q
   exact absurd ⟨g,by omega⟩ h5⟩
 exact .inr (by omega)
theorem Rd.redT{f:Fm}(h:Rd f):RedT (-(AM.dsc f.a f.b f.c)) ⟨f.a,f.b,f.c⟩:=by
 have h1:=h.a;have h2:=h.b;have h3:=h.c;have h4:=h.s;refine⟨by show 1<=f.a;omega,by show 1-f.a<=f.b;omega,by show f.b<=f.a;omega,h3,?_,?_⟩
 ·rintro⟨g1,g2⟩;have g1':f.b<0:=g1;have g2':f.a=f.c:=g2;omega
 show 4*f.a*f.c=f.b*f.b + -(AM.dsc f.a f.b f.c);unfold AM.dsc;omega
theorem D6{n:Int}{q:Fm->Bool}{f:Fm}(hn:n<=4194304):f∈LW n q↔RedT n ⟨f.a,f.b,f.c⟩∧q f=true:=by
 unfold LW;rw[VG,UO];constructor
 ·rintro⟨⟨t,ht,rfl⟩,hq⟩;exact⟨(yN hn t).1 ht,hq⟩
 rintro⟨h,hq⟩;exact⟨⟨_,(yN hn _).2 h,rfl⟩,hq⟩
def lsT(s t:Tr):Prop:=s.a<t.a∨s.a=t.a∧s.b<t.b
theorem Ce{n a:Int}:∀ (k:Nat) (b:Int),(fh n a k b).Pairwise lsT
 |0,b=>by unfold fh;exact VW
 |k+1,b=>by
  unfold fh;rw[Xu];refine⟨by split <;> simp,Ce k (b+1),fun x hx y hy=>?_⟩;split at hx
  ·simp only[List.mem_singleton]at hx;obtain⟨b',h1,_,_,rfl⟩:=nw hy;subst hx;exact .inr ⟨rfl,by show b<b';omega⟩
  cases hx
theorem D0{n:Int}:∀ (k:Nat) (a:Int),1<=a->(eQ n k a).Pairwise lsT
 |0,a,_=>by unfold eQ;exact VW
 |k+1,a,h=>by
  unfold eQ;split
  ·rw[Xu];refine⟨Ce _ _,D0 k (a+1) (by omega),fun x hx y hy=>?_⟩;obtain⟨b',_,_,_,rfl⟩:=nw hx;obtain⟨a1,b1,g1,_,_,_,_,_,rfl⟩:=qR (by omega) hy;exact .inl (by show a<a1;omega)
  exact VW
def lsF(f g:Fm):Bool:=decide (f.a<g.a∨f.a=g.a∧(f.b<g.b∨f.b=g.b∧f.c<g.c))
theorem SI(n:Int)(q:Fm->Bool):(LW n q).Pairwise (fun f g=>lsF f g=true):=by
 unfold LW;refine List.Pairwise.filter _ ?_;refine List.Pairwise.map (R:=lsT) _ (fun a b h=>?_) (D0 2000 1 (by omega));unfold lsF;rw[decide_eq_true_iff];rcases h with h|h
 ·exact .inl h
 exact .inr ⟨h.1,.inl h.2⟩
theorem Py(n:Int):cls n=((LW n prG).length:Nat):=by
 rw[SH,Uq];rfl
structure El where
 x:Int
 y:Int
namespace El
def add(u v:El):El:=⟨u.x+v.x,u.y+v.y⟩
def sm(k:Int)(u:El):El:=⟨k*u.x,k*u.y⟩
def mul(s d:Int)(u v:El):El:=⟨u.x*v.x+d*(u.y*v.y),u.x*v.y+u.y*v.x+s*(u.y*v.y)⟩
def cj(s:Int)(u:El):El:=⟨u.x+s*u.y,-u.y⟩
def nm(s d:Int)(u:El):Int:=u.x*u.x+s*(u.x*u.y)-d*(u.y*u.y)
def dt(u v:El):Int:=u.x*v.y-u.y*v.x
theorem ext2{u v:El}(h:u.x=v.x)(h1:u.y=v.y):u=v:=by cases u;cases v;simp only at h h1;subst h h1;rfl
end El
def InS:List El->El->Prop
 | [],z=>z=⟨0,0⟩
 |g::l,z=>∃ k w,InS l w∧z=(El.sm k g).add w
theorem InS.zero:∀ l,InS l ⟨0,0⟩
 | []=>rfl
 |g::l=>⟨0,_,InS.zero l,by unfold El.add El.sm;simp⟩
theorem InS.add:∀ {l:List El} {u v:El},InS l u->InS l v->InS l (u.add v)
 | [],u,v,h,h1=>by
  have h:u=⟨0,0⟩:=h;have h1:v=⟨0,0⟩:=h1;subst h h1;rfl
 |g::l,u,v,⟨k,w,h,e⟩,⟨k1,w1,h1,e1⟩=>by
  refine⟨k+k1,w.add w1,h.add h1,?_⟩;subst e e1;unfold El.add El.sm;exact El.ext2 (by simp only;grind) (by simp only;grind)
theorem InS.sm(c:Int):∀ {l:List El} {u:El},InS l u->InS l (El.sm c u)
 | [],u,h=>by
  have h:u=⟨0,0⟩:=h;subst h;unfold El.sm;simp[InS]
 |g::l,u,⟨k,w,h,e⟩=>by
  refine⟨c*k,El.sm c w,h.sm c,?_⟩;subst e;unfold El.add El.sm;exact El.ext2 (by simp only;grind) (by simp only;grind)
theorem InS.gen:∀ {l:List El} {g:El},g∈l->InS l g
 |a::l,g,h=>by
  rcases Vh.1 h with rfl|h
  ·exact⟨1,⟨0,0⟩,InS.zero l,by unfold El.add El.sm;exact El.ext2 (by simp) (by simp)⟩
  exact⟨0,g,InS.gen h,by unfold El.add El.sm;exact El.ext2 (by simp) (by simp)⟩
theorem InS.of_gens:∀ {l m:List El},(∀ g∈l,InS m g)->∀ {z:El},InS l z->InS m z
 | [],m,_,z,h=>by
  have h:z=⟨0,0⟩:=h;subst h;exact InS.zero m
 |g::l,m,hg,z,⟨k,w,h,e⟩=>by
  subst e;exact((hg g Vs).sm k).add (InS.of_gens (fun x hx=>hg x (Vv _ hx)) h)
def Eqv(l m:List El):Prop:=∀ z,InS l z↔InS m z
theorem Eqv.refl(l:List El):Eqv l l:=fun _=>Iff.rfl
theorem Eqv.symm{l m:List El}(h:Eqv l m):Eqv m l:=fun z=>(h z).symm
theorem Eqv.trans{l m k:List El}(h:Eqv l m)(h1:Eqv m k):Eqv l k:=fun z=>(h z).trans (h1 z)
theorem Eqv.of{l m:List El}(h:∀ g∈l,InS m g)(h1:∀ g∈m,InS l g):Eqv l m:=fun _=>⟨InS.of_gens h,InS.of_gens h1⟩
section
variable {s d:Int}
theorem El.mul_comm(u v:El):u.mul s d v=v.mul s d u:=by
 unfold El.mul;exact El.ext2 (by simp only;grind) (by simp only;grind)
theorem El.mul_assoc(u v w:El):(u.mul s d v).mul s d w=u.mul s d (v.mul s d w):=by
 unfold El.mul;exact El.ext2 (by simp only;grind) (by simp only;grind)
theorem El.mul_add(u v w:El):u.mul s d (v.add w)=(u.mul s d v).add (u.mul s d w):=by
 unfold El.mul El.add;exact El.ext2 (by simp only;grind) (by simp only;grind)
theorem El.mul_sm(u v:El)(k:Int):u.mul s d (v.sm k)=(u.mul s d v).sm k:=by
 unfold El.mul El.sm;exact El.ext2 (by simp only;grind) (by simp only;grind)
theorem El.mul_zero(u:El):u.mul s d ⟨0,0⟩=⟨0,0⟩:=by unfold El.mul;simp
theorem El.nm_mul(u v:El):(u.mul s d v).nm s d=u.nm s d*v.nm s d:=by unfold El.mul El.nm;grind
theorem El.dt_mul(e u v:El):(e.mul s d u).dt (e.mul s d v)=e.nm s d*u.dt v:=by unfold El.mul El.nm El.dt;grind
def prd(s d:Int)(l m:List El):List El:=l.flatMap fun u=>m.map fun v=>u.mul s d v
theorem mem_prd{l m:List El}{z:El}:z∈prd s d l m↔∃ u∈l,∃ v∈m,z=u.mul s d v:=by
 unfold prd;rw[XD];constructor
 ·rintro⟨u,hu,hz⟩;obtain⟨v,hv,rfl⟩:=UO.1 hz;exact⟨u,hu,v,hv,rfl⟩
 rintro⟨u,hu,v,hv,rfl⟩;exact⟨u,hu,UO.2 ⟨v,hv,rfl⟩⟩
theorem InS.mul_l{k:List El}(u:El):∀ {m:List El} {v:El},InS m v->(∀ g∈m,InS k (u.mul s d g))->InS k (u.mul s d v)
 | [],v,h,_=>by
  have h:v=⟨0,0⟩:=h;subst h;rw[El.mul_zero];exact InS.zero k
 |g::m,v,⟨c,w,h,e⟩,hg=>by
  subst e;rw[El.mul_add,El.mul_sm];exact((hg g Vs).sm c).add (InS.mul_l u h (fun x hx=>hg x (Vv _ hx)))
theorem InS.mul{l m:List El}{u v:El}(h:InS l u)(h1:InS m v):InS (prd s d l m) (u.mul s d v):=by
 refine InS.mul_l u h1 (fun g hg=>?_);rw[El.mul_comm];refine InS.mul_l g h (fun x hx=>?_);rw[El.mul_comm];exact InS.gen (mem_prd.2 ⟨x,hx,g,hg,rfl⟩)
theorem zg{l m k n:List El}(h:∀ z,InS l z->InS k z)(h1:∀ z,InS m z->InS n z):∀ g∈prd s d l m,InS (prd s d k n) g:=by
 intro g hg;obtain⟨u,hu,v,hv,rfl⟩:=mem_prd.1 hg;exact(h _ (InS.gen hu)).mul (h1 _ (InS.gen hv))
theorem Eqv.prd{l m k n:List El}(h:Eqv l k)(h1:Eqv m n):Eqv (prd s d l m) (prd s d k n) :=
 Eqv.of (zg (fun z=>(h z).1) (fun z=>(h1 z).1)) (zg (fun z=>(h z).2) (fun z=>(h1 z).2))
theorem wa(l m:List El):Eqv (prd s d l m) (prd s d m l):=by
 have key:∀ l m:List El,∀ g∈AM.prd s d l m,InS (AM.prd s d m l) g:=fun l m g hg=>by
  obtain⟨u,hu,v,hv,rfl⟩:=mem_prd.1 hg;rw[El.mul_comm];exact(InS.gen hv).mul (InS.gen hu)
 exact Eqv.of (key l m) (key m l)
theorem kw(l m k:List El):Eqv (prd s d (prd s d l m) k) (prd s d l (prd s d m k)):=by
 refine Eqv.of (fun g hg=>?_) (fun g hg=>?_)
 ·obtain⟨x,hx,w,hw,rfl⟩:=mem_prd.1 hg;obtain⟨u,hu,v,hv,rfl⟩:=mem_prd.1 hx;rw[El.mul_assoc];exact(InS.gen hu).mul ((InS.gen hv).mul (InS.gen hw))
 obtain⟨u,hu,x,hx,rfl⟩:=mem_prd.1 hg;obtain⟨v,hv,w,hw,rfl⟩:=mem_prd.1 hx;rw[<- El.mul_assoc];exact((InS.gen hu).mul (InS.gen hv)).mul (InS.gen hw)
theorem JX(u v:El):Eqv (prd s d [u] [v]) [u.mul s d v]:=by
 refine Eqv.of (fun g hg=>?_) (fun g hg=>?_)
 ·obtain⟨x,hx,w,hw,rfl⟩:=mem_prd.1 hg;rw[U3]at hx hw;subst hx hw;exact InS.gen (U3.2 rfl)
 rw[U3]at hg;subst hg;exact(InS.gen (U3.2 rfl)).mul (InS.gen (U3.2 rfl))
theorem in2{u v z:El}:InS [u,v] z↔∃ p q:Int,z=(El.sm p u).add (El.sm q v):=by
 constructor
 ·rintro⟨p,w,⟨q,w2,h,rfl⟩,rfl⟩;have h:w2=⟨0,0⟩:=h;subst h;exact⟨p,q,by unfold El.add El.sm;simp⟩
 rintro⟨p,q,rfl⟩;exact((InS.gen (by simp)).sm p).add ((InS.gen (by simp)).sm q)
def LaF(a k:Int):List El:=[⟨a,0⟩,⟨k,1⟩]
theorem inLaF{a k:Int}{z:El}:InS (LaF a k) z↔a∣z.x-k*z.y:=by
 unfold LaF;rw[in2];constructor
 ·rintro⟨p,q,rfl⟩;unfold El.add El.sm;exact⟨p,by simp only;grind⟩
 rintro⟨p,hp⟩;exact⟨p,z.y,by unfold El.add El.sm;exact El.ext2 (by simp only;grind) (by simp only;grind)⟩
theorem nE{e:El}{l:List El}{z:El}(h:InS l z):InS (prd s d [e] l) (e.mul s d z):=(InS.gen (U3.2 rfl)).mul h
structure FK(s d:Int)(f:Fm)(k:Int):Prop where
 b:f.b=2*k+s
 n:f.a*f.c=k*k+s*k-d
theorem FK.disc{f:Fm}{k:Int}(h:FK s d f k):dsc f.a f.b f.c=s*s+4*d:=by
 unfold dsc;rw[h.b,UG,h.n];grind
theorem FK.of{f:Fm}(h:dsc f.a f.b f.c=s*s+4*d)(hs:(f.b-s)%2=0):FK s d f ((f.b-s)/2):=by
 have e:f.b=2*((f.b-s)/2)+s:=by omega
 generalize (f.b-s)/2=k at e;refine⟨e,?_⟩;unfold dsc at h;rw[e,UG]at h;generalize f.a*f.c=t at *;grind
theorem FK.nm{f:Fm}{k:Int}(h:FK s d f k)(x y:Int):El.nm s d ((El.sm x ⟨f.a,0⟩).add (El.sm y ⟨k,1⟩))=f.a*vl f.a f.b f.c x y:=by
 have hn:=h.n;unfold El.nm El.add El.sm vl;rw[h.b];simp only;grind
end
section
variable {s d:Int}
theorem DC{f g:Fm}{k j:Int}{l m:El}(hf:FK s d f k)(hg:FK s d g j)(pf:f.pos)(pg:g.pos)(h:Eqv (prd s d [l] (LaF f.a k)) (prd s d [m] (LaF g.a j)))(hl:0<l.nm s d)(hm:0<m.nm s d):∃ M:Mt,M.det=1∧f.app M=g:=by
 have e1:prd s d [l] (LaF f.a k)=[l.mul s d ⟨f.a,0⟩,l.mul s d ⟨k,1⟩]:=rfl;have e2:prd s d [m] (LaF g.a j)=[m.mul s d ⟨g.a,0⟩,m.mul s d ⟨j,1⟩]:=rfl;rw[e1,e2]at h;obtain⟨p,r,h1⟩:=in2.1 ((h _).2 (InS.gen (Vs)));obtain⟨q,t,h2⟩:=in2.1 ((h (m.mul s d ⟨j,1⟩)).2 (InS.gen (by simp)));obtain⟨p',r',h3⟩:=in2.1 ((h _).1 (InS.gen (Vs)));obtain⟨q',t',h4⟩:=in2.1 ((h (l.mul s d ⟨k,1⟩)).1 (InS.gen (by simp)));have d1:=El.dt_mul (s:=s) (d:=d) l ⟨f.a,0⟩ ⟨k,1⟩;have d2:=El.dt_mul (s:=s) (d:=d) m ⟨g.a,0⟩ ⟨j,1⟩;have f1:El.dt ⟨f.a,0⟩ ⟨k,1⟩=f.a:=by unfold El.dt;simp
 have f2:El.dt ⟨g.a,0⟩ ⟨j,1⟩=g.a:=by unfold El.dt;simp
 rw[f1]at d1;rw[f2]at d2;have lin:∀ (u v:El) (p r q t:Int),El.dt ((El.sm p u).add (El.sm r v)) ((El.sm q u).add (El.sm t v))=(p*t-q*r)*u.dt v:=by
  intro u v p r q t;unfold El.dt El.add El.sm;simp only;grind
 have d3:=lin (l.mul s d ⟨f.a,0⟩) (l.mul s d ⟨k,1⟩) p r q t;rw[<- h1,<- h2,d1,d2]at d3;have d4:=lin (m.mul s d ⟨g.a,0⟩) (m.mul s d ⟨j,1⟩) p' r' q' t';rw[<- h3,<- h4,d1,d2]at d4;have pA:0<l.nm s d*f.a:=VX hl pf.1;have pB:0<m.nm s d*g.a:=VX hm pg.1;have hdet:p*t-q*r=1:=by
  generalize l.nm s d*f.a=A at *;generalize m.nm s d*g.a=B at *;generalize p*t-q*r=x at *;generalize p'*t'-q'*r'=y at *;have hx:0<x:=by
   rcases UY 0 x with h|h
   ·exact h
   have:=Wy h (show 0<=A by omega);omega
  have hy:0<y:=by
   rcases UY 0 y with h|h
   ·exact h
   have:=Wy h (show 0<=B by omega);omega
  have l1:1*A<=x*A:=UM hx (by omega);have l2:1*B<=y*B:=UM hy (by omega);have hAB:A=B:=by omega
  subst hAB;have:x*A=1*A:=by omega
  exact Int.eq_of_mul_eq_mul_right (by omega) this
 rw[hdet,WP]at d3;refine⟨⟨p,q,r,t⟩,by unfold Mt.det;simp only;exact hdet,?_⟩;have key:∀ x y:Int,g.val x y=f.val (p*x+q*y) (r*x+t*y):=by
  intro x y;have n1:=El.nm_mul (s:=s) (d:=d) l ((El.sm (p*x+q*y) ⟨f.a,0⟩).add (El.sm (r*x+t*y) ⟨k,1⟩));have n2:=El.nm_mul (s:=s) (d:=d) m ((El.sm x ⟨g.a,0⟩).add (El.sm y ⟨j,1⟩));rw[hf.nm]at n1;rw[hg.nm]at n2;have e3:m.mul s d ((El.sm x ⟨g.a,0⟩).add (El.sm y ⟨j,1⟩))=l.mul s d ((El.sm (p*x+q*y) ⟨f.a,0⟩).add (El.sm (r*x+t*y) ⟨k,1⟩)):=by
   rw[El.mul_add,El.mul_sm,El.mul_sm,h1,h2,El.mul_add,El.mul_sm,El.mul_sm];generalize l.mul s d ⟨f.a,0⟩=u;generalize l.mul s d ⟨k,1⟩=v;unfold El.add El.sm;exact El.ext2 (by simp only;grind) (by simp only;grind)
  rw[e3,n1]at n2;rw[<- UG,<- UG,d3]at n2;exact(U0 (by omega) n2).symm
 have k1:=key 1 0;have k2:=key 0 1;have k3:=key 1 1;unfold Fm.val vl at k1 k2 k3;unfold Fm.app vl apB;refine Fm.ext ?_ ?_ ?_
 ·simp only;grind
 ·simp only;grind
 simp only;grind
theorem DD{f:Fm}{k j:Int}{M:Mt}(hf:FK s d f k)(hM:M.det=1)(hg:FK s d (f.app M) j) :
  Eqv (prd s d [⟨f.a,0⟩] (LaF (f.app M).a j)) (prd s d [El.cj s ((El.sm M.a ⟨f.a,0⟩).add (El.sm M.c ⟨k,1⟩))] (LaF f.a k)):=by
 obtain⟨p,q,r,t⟩:=M;have hd:p*t-q*r=1:=hM;have eb:=hg.b;have ea:(f.app ⟨p,q,r,t⟩).a=f.a*p*p+f.b*p*r+f.c*r*r:=rfl;have eb':(f.app ⟨p,q,r,t⟩).b=2*(f.a*p*q+f.c*r*t)+f.b*(p*t+q*r):=rfl;rw[eb']at eb;rw[ea];have hb:=hf.b;have hn:=hf.n;have ej:j=k+f.a*p*q+f.b*q*r+f.c*r*t:=by
  have:2*j=2*(k+f.a*p*q+f.b*q*r+f.c*r*t):=by grind
  omega
 obtain⟨a,b,c⟩:=f;simp only at *;subst hb;have c1:(⟨a,0⟩:El).mul s d ⟨a*p*p+(2*k+s)*p*r+c*r*r,0⟩=(El.cj s ((El.sm p ⟨a,0⟩).add (El.sm r ⟨k,1⟩))).mul s d ((El.sm p ⟨a,0⟩).add (El.sm r ⟨k,1⟩)):=by
  unfold El.mul El.cj El.add El.sm;exact El.ext2 (by simp only;grind) (by simp only;grind)
 have c2:(⟨a,0⟩:El).mul s d ⟨j,1⟩=(El.cj s ((El.sm p ⟨a,0⟩).add (El.sm r ⟨k,1⟩))).mul s d ((El.sm q ⟨a,0⟩).add (El.sm t ⟨k,1⟩)):=by
  subst ej;unfold El.mul El.cj El.add El.sm;exact El.ext2 (by simp only;grind) (by simp only;grind)
 generalize hu:El.cj s ((El.sm p ⟨a,0⟩).add (El.sm r ⟨k,1⟩))=u at *;refine Eqv.of (fun g hg=>?_) (fun g hg=>?_)
 ·obtain⟨x,hx,v,hv,rfl⟩:=mem_prd.1 hg;rw[U3]at hx;subst hx;unfold LaF at hv;simp only[List.mem_cons,List.not_mem_nil,or_false]at hv;rcases hv with rfl|rfl
  ·rw[c1];exact nE (in2.2 ⟨_,_,rfl⟩)
  rw[c2];exact nE (in2.2 ⟨_,_,rfl⟩)
 obtain⟨x,hx,v,hv,rfl⟩:=mem_prd.1 hg;rw[U3]at hx;subst hx;unfold LaF at hv;simp only[List.mem_cons,List.not_mem_nil,or_false]at hv;rcases hv with rfl|rfl
 ·have e:x.mul s d ⟨a,0⟩=(El.sm t ((⟨a,0⟩:El).mul s d ⟨a*p*p+(2*k+s)*p*r+c*r*r,0⟩)).add (El.sm (-r) ((⟨a,0⟩:El).mul s d ⟨j,1⟩)):=by
   rw[c1,c2,<- El.mul_sm,<- El.mul_sm,<- El.mul_add]
   congr 1
   unfold El.add El.sm;exact El.ext2 (by simp only;grind) (by simp only;grind)
  rw[e];exact((nE (InS.gen (by unfold LaF;simp))).sm t).add ((nE (InS.gen (by unfold LaF;simp))).sm (-r))
 have e:x.mul s d ⟨k,1⟩=(El.sm (-q) ((⟨a,0⟩:El).mul s d ⟨a*p*p+(2*k+s)*p*r+c*r*r,0⟩)).add (El.sm p ((⟨a,0⟩:El).mul s d ⟨j,1⟩)):=by
  rw[c1,c2,<- El.mul_sm,<- El.mul_sm,<- El.mul_add]
  congr 1
  unfold El.add El.sm;exact El.ext2 (by simp only;grind) (by simp only;grind)
 rw[e];exact((nE (InS.gen (by unfold LaF;simp))).sm (-q)).add ((nE (InS.gen (by unfold LaF;simp))).sm p)
end
def kk(s:Int)(f:Fm):Int:=(f.b-s)/2
def lat(s:Int)(f:Fm):List El:=LaF f.a (kk s f)
def Fo(s d:Int)(f:Fm):Prop:=FK s d f (kk s f)
def Cm(s d:Int)(f g h:Fm):Prop:=∃ e:Int,0<e∧f.a*g.a=e*e*h.a∧Eqv (prd s d (lat s f) (lat s g)) (prd s d [⟨e,0⟩] (lat s h))
section
variable {s d:Int}
theorem FK.kk{f:Fm}{k:Int}(h:FK s d f k):kk s f=k:=by have:=h.b;unfold AM.kk;omega
theorem Fo.app{f:Fm}{M:Mt}(h:Fo s d f)(hM:M.det=1):Fo s d (f.app M):=by
 refine FK.of ?_ ?_
 ·have:(f.app M).disc=f.disc:=lM hM;exact this.trans h.disc
 have hb:=h.b;have e:(f.app M).b=2*(f.a*M.a*M.b+f.c*M.c*M.d)+f.b*(M.a*M.d+M.b*M.c):=rfl;have hd:M.a*M.d-M.b*M.c=1:=hM;rw[e,hb];have:2*(f.a*M.a*M.b+f.c*M.c*M.d)+(2*AM.kk s f+s)*(M.a*M.d+M.b*M.c)-s=2*(f.a*M.a*M.b+f.c*M.c*M.d+AM.kk s f*(M.a*M.d+M.b*M.c)+s*(M.b*M.c)):=by grind
 rw[this];omega
theorem ml(e:Int):El.nm s d ⟨e,0⟩=e*e:=by unfold El.nm;simp
theorem iF{e:Int}(h:0<e):0<e*e:=VX h h
theorem pq(u v:El)(L:List El):Eqv (prd s d [u] (prd s d [v] L)) (prd s d [u.mul s d v] L) :=
 (kw [u] [v] L).symm.trans ((JX u v).prd (.refl L))
theorem vI(u:El)(L M:List El):Eqv (prd s d (prd s d [u] L) M) (prd s d [u] (prd s d L M)):=kw _ _ _
theorem v8(u:El)(L M:List El):Eqv (prd s d L (prd s d [u] M)) (prd s d [u] (prd s d L M)) :=
 ((kw L [u] M).symm.trans ((wa L [u]).prd (.refl M))).trans (kw _ _ _)
theorem Ci{f g:Fm}(pf:f.pos)(pg:g.pos)(h:f.rd=g.rd):∃ M:Mt,M.det=1∧f.app M=g:=by
 obtain⟨m,h1,h2⟩:=ly pf;obtain⟨n,h3,h4⟩:=ly pg;refine⟨m.mul n.adj,by rw[j7,tE,h1,h3];rfl,?_⟩;rw[<- j9,<- h2,h,h4,lj h3]
theorem uM{f g:Fm}(pf:f.pos)(pg:g.pos)(hf:Fo s d f)(h:f.rd=g.rd) :
  ∃ u v:El,0<u.nm s d∧0<v.nm s d∧Eqv (prd s d [u] (lat s g)) (prd s d [v] (lat s f)):=by
 obtain⟨M,hM,e⟩:=Ci pf pg h;have hg:Fo s d (f.app M):=hf.app hM;have h1:=DD hf hM hg;refine⟨_,_,?_,?_,by rw[<- e];exact h1⟩
 ·rw[ml];exact iF pf.1
 have h2:=hf.nm M.a M.c;have h3:vl f.a f.b f.c M.a M.c=g.a:=by rw[<- e];rfl
 rw[h3]at h2;have h4:∀ z:El,El.nm s d (El.cj s z)=El.nm s d z:=fun z=>by unfold El.nm El.cj;simp only;grind
 rw[h4,h2];exact VX pf.1 pg.1
theorem oG{f g:Fm}{l m:El}(pf:f.pos)(pg:g.pos)(hf:Fo s d f)(hg:Fo s d g)(h:Eqv (prd s d [l] (lat s f)) (prd s d [m] (lat s g)))(hl:0<l.nm s d)(hm:0<m.nm s d):f.rd=g.rd:=by
 obtain⟨M,h1,h2⟩:=DC hf hg pf pg h hl hm;rw[<- h2,mN pf h1]
theorem LD{f g h f' g' h':Fm}(pf:f.pos)(pg:g.pos)(ph:h.pos)(pf':f'.pos)(pg':g'.pos)(ph':h'.pos)(hf:Fo s d f)(hg:Fo s d g)(hh:Fo s d h)(hh':Fo s d h')(ef:f.rd=f'.rd)(eg:g.rd=g'.rd)(c:Cm s d f g h)(c':Cm s d f' g' h'):h.rd=h'.rd:=by
 obtain⟨e,he,_,q⟩:=c;obtain⟨e',he',_,q'⟩:=c';obtain⟨u,v,hu,hv,h1⟩:=uM pf pf' hf ef;obtain⟨x,y,hx,hy,h2⟩:=uM pg pg' hg eg;have k1:Eqv (prd s d (prd s d [u] (lat s f')) (prd s d [x] (lat s g'))) (prd s d [u.mul s d (x.mul s d ⟨e',0⟩)] (lat s h')) :=
  (vI u _ _).trans (((Eqv.refl [u]).prd ((v8 x _ _).trans (((Eqv.refl [x]).prd q').trans (pq _ _ _)))).trans (pq _ _ _))
 have k2:Eqv (prd s d (prd s d [v] (lat s f)) (prd s d [y] (lat s g))) (prd s d [v.mul s d (y.mul s d ⟨e,0⟩)] (lat s h)) :=
  (vI v _ _).trans (((Eqv.refl [v]).prd ((v8 y _ _).trans (((Eqv.refl [y]).prd q).trans (pq _ _ _)))).trans (pq _ _ _))
 have k3:=k2.symm.trans ((h1.prd h2).symm.trans k1);refine oG ph ph' hh hh' k3 ?_ ?_
 ·rw[El.nm_mul,El.nm_mul,ml];exact VX hv (VX hy (iF he))
 rw[El.nm_mul,El.nm_mul,ml];exact VX hu (VX hx (iF he'))
theorem Cm.comm{f g h:Fm}(c:Cm s d f g h):Cm s d g f h:=by
 obtain⟨e,he,ha,q⟩:=c;exact⟨e,he,by rw[Xl];exact ha,(wa _ _).trans q⟩
theorem GR{f g k h m u v:Fm}(pm:m.pos)(pv:v.pos)(hm:Fo s d m)(hv:Fo s d v)(c1:Cm s d f g h)(c2:Cm s d h k m)(c3:Cm s d g k u)(c4:Cm s d f u v):m.rd=v.rd:=by
 obtain⟨e1,p1,_,q1⟩:=c1;obtain⟨e2,p2,_,q2⟩:=c2;obtain⟨e3,p3,_,q3⟩:=c3;obtain⟨e4,p4,_,q4⟩:=c4;have k1:Eqv (prd s d (prd s d (lat s f) (lat s g)) (lat s k)) (prd s d [(⟨e1,0⟩:El).mul s d ⟨e2,0⟩] (lat s m)) :=
  (q1.prd (.refl _)).trans ((vI _ _ _).trans (((Eqv.refl _).prd q2).trans (pq _ _ _)))
 have k2:Eqv (prd s d (lat s f) (prd s d (lat s g) (lat s k))) (prd s d [(⟨e3,0⟩:El).mul s d ⟨e4,0⟩] (lat s v)) :=
  ((Eqv.refl _).prd q3).trans ((v8 _ _ _).trans (((Eqv.refl _).prd q4).trans (pq _ _ _)))
 refine oG pm pv hm hv (k1.symm.trans ((kw _ _ _).trans k2)) ?_ ?_
 ·rw[El.nm_mul,ml,ml];exact VX (iF p1) (iF p2)
 rw[El.nm_mul,ml,ml];exact VX (iF p3) (iF p4)
theorem Bn{e:Int}{L:List El}{z w:El}(h:InS L w)(hz:z=El.sm e w):InS (prd s d [⟨e,0⟩] L) z:=by
 have:z=(⟨e,0⟩:El).mul s d w:=by rw[hz];unfold El.mul El.sm;exact El.ext2 (by simp) (by simp)
 rw[this];exact nE h
theorem uw{a k j:Int}(h:a∣k-j):Eqv (LaF a k) (LaF a j):=by
 have key:∀ k j:Int,a∣k-j->∀ z,InS (LaF a k) z->InS (LaF a j) z:=fun k j ⟨q,hq⟩ z hz=>by
  obtain⟨p,hp⟩:=inLaF.1 hz;exact inLaF.2 ⟨p+q*z.y,by grind⟩
 intro z;obtain⟨q,hq⟩:=h;exact⟨key k j ⟨q,hq⟩ z,key j k ⟨-q,by rw[VO];omega⟩ z⟩
theorem S8{u v x y g:El}(hg:g∈prd s d [u,v] [x,y]):g=u.mul s d x∨g=u.mul s d y∨g=v.mul s d x∨g=v.mul s d y:=by
 obtain⟨a,ha,b,hb,rfl⟩:=mem_prd.1 hg;simp only[List.mem_cons,List.not_mem_nil,or_false]at ha hb;rcases ha with rfl|rfl <;> rcases hb with rfl|rfl <;> simp
theorem G3:∀ (n:Nat) (a b:Int),b.natAbs<=n->∃ x y:Int,a*x+b*y=(Int.gcd a b:Nat)
 |0,a,b,h=>by
  have hb:b=0:=by omega
  subst hb;rw[WK];rcases Int.le_total 0 a with g|g
  ·exact⟨1,0,by omega⟩
  exact⟨-1,0,by omega⟩
 |n+1,a,b,h=>by
  by_cases hb:b=0
  ·exact G3 n a b (by omega)
  have h1:(a%b).natAbs<b.natAbs:=by
   have:=UF a hb;have:=X2 a hb;omega
  obtain⟨x,y,e⟩:=G3 n b (a%b) (by omega);have eg:Int.gcd b (a%b)=Int.gcd a b:=by
   refine Nat.dvd_antisymm ?_ ?_
   ·refine Ya ?_ (U7 ..);have h1:=U7 (a:=b) (b:=a%b);have h2:=UX (a:=b) (b:=a%b);have h3:=V6 (Vr h1 ⟨a/b,rfl⟩) h2
    rwa [UC a b]at h3
   refine Ya (UX ..) ?_;have h1:=U7 (a:=a) (b:=b);have h2:=UX (a:=a) (b:=b);have e3:a%b=a-b*(a/b):=by have:=UC a b;omega
   rw[e3];exact VT h1 (Vr h2 ⟨_,rfl⟩)
  have em:=UC a b;refine⟨y,x-(a/b)*y,?_⟩;rw[<- eg,<- e];generalize a/b=q at *;generalize a%b=r at *;subst em;grind
theorem bez(a b:Int):∃ x y:Int,a*x+b*y=(Int.gcd a b:Nat):=G3 _ a b (Iv _)
end
section
variable {s d:Int}
theorem T4{a b c e:Int}(h:∀ g:Nat,(g:Int)∣a->(g:Int)∣b->(g:Int)∣c->(g:Int)∣e->g=1):∃ x y z w:Int,a*x+b*y+c*z+e*w=1:=by
 obtain⟨x,y,h1⟩:=bez a b;obtain⟨z,w,h2⟩:=bez c e;obtain⟨p,q,h3⟩:=bez (Int.gcd a b:Nat) (Int.gcd c e:Nat);have hg:Int.gcd ((Int.gcd a b:Nat):Int) ((Int.gcd c e:Nat):Int)=1:=by
  have l:=U7 (a:=((Int.gcd a b:Nat):Int)) (b:=((Int.gcd c e:Nat):Int));have r:=UX (a:=((Int.gcd a b:Nat):Int)) (b:=((Int.gcd c e:Nat):Int));exact h _ (Vr l (U7 ..)) (Vr l (UX ..)) (Vr r (U7 ..)) (Vr r (UX ..))
 rw[hg,<- h1,<- h2]at h3;exact⟨x*p,y*p,z*q,w*q,by grind⟩
theorem Pd{f:Fm}{k:Int}(hf:FK s d f k)(pf:prim f.a f.b f.c=true){g:Nat}(h1:(g:Int)∣f.a)(h2:(g:Int)∣2*k+s)(h3:(g:Int)∣f.c):g=1:=by
 rw[<- hf.b]at h2;have h:=Xi h1 (Xi h2 h3);unfold prim at pf;rw[dT0 pf]at h;have:=WJ (by omega) h;rcases(show g=0∨g=1 by omega)with e|e
 ·subst e;have:=XT.1 h;omega
 exact e
structure CD(f g:Fm)(s d k1 k2 e X Y Z a1 a2 t q k A:Int):Prop where
 f1:f.a=e*a1
 g1:g.a=e*a2
 s1:k1+k2+s=e*t
 bz:X*f.a+Y*g.a+Z*(k1+k2+s)=e
 e0:0<e
 hq:k1*k2+d=e*q
 hk:e*k=X*f.a*k2+Y*g.a*k1+Z*(k1*k2+d)
 hA:A=a1*a2
theorem CD.k2{f g:Fm}{k1 k2 e X Y Z a1 a2 t q k A:Int}(c:CD f g s d k1 k2 e X Y Z a1 a2 t q k A)(hg:FK s d g k2):k2-k=a2*(Y*(k2-k1)+Z*g.c):=by
 have h:=hg.n;have e1:e*(k2-k)=e*(a2*(Y*(k2-k1)+Z*g.c)):=by
  have:=c.hk;have:=c.bz;have:=c.g1;have:=c.hq;grind
 exact U0 (by have:=c.e0;omega) e1
theorem CD.k1{f g:Fm}{k1 k2 e X Y Z a1 a2 t q k A:Int}(c:CD f g s d k1 k2 e X Y Z a1 a2 t q k A)(hf:FK s d f k1):k1-k=a1*(X*(k1-k2)+Z*f.c):=by
 have h:=hf.n;have e1:e*(k1-k)=e*(a1*(X*(k1-k2)+Z*f.c)):=by
  have:=c.hk;have:=c.bz;have:=c.f1;have:=c.hq;grind
 exact U0 (by have:=c.e0;omega) e1
theorem CD.qk{f g:Fm}{k1 k2 e X Y Z a1 a2 t q k A:Int}(c:CD f g s d k1 k2 e X Y Z a1 a2 t q k A)(hf:FK s d f k1)(hg:FK s d g k2):q-k*t=-(A*(X*g.c+Y*f.c)):=by
 have h:=hg.n;have h':=hf.n;have hq:=c.hq;have hk:=c.hk;have bz:=c.bz;have f1:=c.f1;have g1:=c.g1;have s1:=c.s1;have hA:=c.hA;have e1:e*(e*(q-k*t))=(X*f.a+Y*g.a+Z*(k1+k2+s))*(k1*k2+d)-(k1+k2+s)*(X*f.a*k2+Y*g.a*k1+Z*(k1*k2+d)):=by
  rw[bz,<- hk,s1,hq];grind
 have e2:(X*f.a+Y*g.a+Z*(k1+k2+s))*(k1*k2+d)-(k1+k2+s)*(X*f.a*k2+Y*g.a*k1+Z*(k1*k2+d))=-(X*f.a*(k2*k2+s*k2-d))-Y*g.a*(k1*k1+s*k1-d):=by grind
 have e3:e*(e*(q-k*t))=e*(e * -(A*(X*g.c+Y*f.c))):=by
  rw[e1,e2,<- h,<- h',f1,g1,hA];grind
 have e0:=c.e0;exact U0 (by omega) (U0 (by omega) e3)
theorem al2{a b k k2 w:Int}(h:k2-k=b*w):a*k2-k*a=a*b*w:=by grind
theorem al3{a b k k1 w:Int}(h:k1-k=a*w):b*k1-k*b=a*b*w:=by grind
theorem CD.eqv{f g:Fm}{k1 k2 e X Y Z a1 a2 t q k A:Int}(c:CD f g s d k1 k2 e X Y Z a1 a2 t q k A)(hf:FK s d f k1)(hg:FK s d g k2)(pf:prim f.a f.b f.c=true) :
  Eqv (prd s d (LaF f.a k1) (LaF g.a k2)) (prd s d [⟨e,0⟩] (LaF A k)):=by
 have r2:=c.k2 hg;have r1:=c.k1 hf;have rq:=c.qk hf hg;have hfn:=hf.n;have hgn:=hg.n;obtain⟨f1,g1,s1,bz,e0,hq,hk,hA⟩:=c;refine Eqv.of (fun z hz=>?_) (fun z hz=>?_)
 ·unfold LaF at hz;rcases S8 hz with rfl|rfl|rfl|rfl
  ·refine Bn (w:=⟨e*A,0⟩) (inLaF.2 ⟨e,by simp only;grind⟩) ?_;unfold El.mul El.sm;exact El.ext2 (by simp only;rw[f1,g1,hA];grind) (by simp)
  ·refine Bn (w:=⟨a1*k2,a1⟩) (inLaF.2 ⟨Y*(k2-k1)+Z*g.c,by simp only;rw[hA];exact al2 r2⟩) ?_;unfold El.mul El.sm;exact El.ext2 (by simp only;rw[f1];grind) (by simp only;rw[f1];grind)
  ·refine Bn (w:=⟨a2*k1,a2⟩) (inLaF.2 ⟨X*(k1-k2)+Z*f.c,by simp only;rw[hA];exact al3 r1⟩) ?_;unfold El.mul El.sm;exact El.ext2 (by simp only;rw[g1];grind) (by simp only;rw[g1];grind)
  refine Bn (w:=⟨q,t⟩) (inLaF.2 ⟨-(X*g.c+Y*f.c),by simp only;rw[rq,VO]⟩) ?_;unfold El.mul El.sm;exact El.ext2 (by simp only;grind) (by simp only;grind)
 obtain⟨x,hx,v,hv,rfl⟩:=mem_prd.1 hz;rw[U3]at hx;subst hx;have G:∀ u w:El,u∈LaF f.a k1->w∈LaF g.a k2->InS (prd s d (LaF f.a k1) (LaF g.a k2)) (u.mul s d w):=fun u w hu hw=>(InS.gen hu).mul (InS.gen hw)
 have m1:∀ a k:Int,(⟨a,0⟩:El)∈LaF a k:=fun a k=>by unfold LaF;simp
 have m2:∀ a k:Int,(⟨k,1⟩:El)∈LaF a k:=fun a k=>by unfold LaF;simp
 have g11:=G _ _ (m1 f.a k1) (m1 g.a k2);have g12:=G _ _ (m1 f.a k1) (m2 g.a k2);have g21:=G _ _ (m2 f.a k1) (m1 g.a k2);have g22:=G _ _ (m2 f.a k1) (m2 g.a k2);unfold LaF at hv;simp only[List.mem_cons,List.not_mem_nil,or_false]at hv;rcases hv with rfl|rfl
 ·obtain⟨x,y,z,w,hw⟩:=T4 (a:=e) (b:=k2-k1) (c:=g.c) (e:=f.c) (fun m h1 h2 h3 h4=>by
   refine Pd hf pf (by rw[f1];exact Vr h1 ⟨a1,rfl⟩) ?_ h4;have:2*k1+s=e*t-(k2-k1):=by omega
   rw[this];exact VT (Vr h1 ⟨t,rfl⟩) h2)
  have E:(⟨e,0⟩:El).mul s d ⟨A,0⟩=((El.sm x ((⟨f.a,0⟩:El).mul s d ⟨g.a,0⟩)).add (El.sm y ((El.sm a2 ((⟨f.a,0⟩:El).mul s d ⟨k2,1⟩)).add (El.sm (-a1) ((⟨k1,1⟩:El).mul s d ⟨g.a,0⟩))))).add
    ((El.sm z ((El.sm t ((⟨f.a,0⟩:El).mul s d ⟨k2,1⟩)).add (El.sm (-a1) ((⟨k1,1⟩:El).mul s d ⟨k2,1⟩)))).add (El.sm w ((El.sm t ((⟨k1,1⟩:El).mul s d ⟨g.a,0⟩)).add (El.sm (-a2) ((⟨k1,1⟩:El).mul s d ⟨k2,1⟩))))):=by
   have t1:e*A*(e*x+(k2-k1)*y+g.c*z+f.c*w)=e*A:=by rw[hw];omega
   have u3:t*(f.a*k2)-a1*(k1*k2+d)=e*A*g.c:=by
    have:t*(f.a*k2)-a1*(k1*k2+d)=a1*((k1+k2+s)*k2-(k1*k2+d)):=by rw[f1,s1];grind
    rw[this];have:(k1+k2+s)*k2-(k1*k2+d)=g.a*g.c:=by rw[hgn];grind
    rw[this,g1,hA];grind
   have u4:t*(k1*g.a)-a2*(k1*k2+d)=e*A*f.c:=by
    have:t*(k1*g.a)-a2*(k1*k2+d)=a2*((k1+k2+s)*k1-(k1*k2+d)):=by rw[g1,s1];grind
    rw[this];have:(k1+k2+s)*k1-(k1*k2+d)=f.a*f.c:=by rw[hfn];grind
    rw[this,f1,hA];grind
   have u1:f.a*g.a=e*A*e:=by rw[f1,g1,hA];grind
   have u2:a2*(f.a*k2)-a1*(k1*g.a)=e*A*(k2-k1):=by rw[f1,g1,hA];grind
   unfold El.mul El.add El.sm;refine El.ext2 ?_ ?_
   ·simp only[Int.mul_zero,Int.mul_one,Int.add_zero];rw[<- t1];have v2:a2*(f.a*k2) + -a1*(k1*g.a)=e*A*(k2-k1):=by rw[<- u2,Ww];rfl
    have v3:t*(f.a*k2) + -a1*(k1*k2+d)=e*A*g.c:=by rw[<- u3,Ww];rfl
    have v4:t*(k1*g.a) + -a2*(k1*k2+d)=e*A*f.c:=by rw[<- u4,Ww];rfl
    rw[u1,v2,v3,v4];grind
   simp only[Int.mul_zero,Int.zero_mul,Int.mul_one,Int.one_mul,Int.add_zero,Int.zero_add];have w2:a2*f.a + -a1*g.a=0:=by rw[f1,g1];grind
   have w3:t*f.a + -a1*(k1+k2+s)=0:=by rw[f1,s1];grind
   have w4:t*g.a + -a2*(k1+k2+s)=0:=by rw[g1,s1];grind
   rw[w2,w3,w4];simp
  rw[E];exact((g11.sm x).add (((g12.sm a2).add (g21.sm (-a1))).sm y)).add ((((g12.sm t).add (g22.sm (-a1))).sm z).add (((g21.sm t).add (g22.sm (-a2))).sm w))
 have E:(⟨e,0⟩:El).mul s d ⟨k,1⟩=((El.sm X ((⟨f.a,0⟩:El).mul s d ⟨k2,1⟩)).add (El.sm Y ((⟨k1,1⟩:El).mul s d ⟨g.a,0⟩))).add (El.sm Z ((⟨k1,1⟩:El).mul s d ⟨k2,1⟩)):=by
  unfold El.mul El.add El.sm;refine El.ext2 ?_ ?_
  ·simp only;grind
  simp only;grind
 rw[E];exact((g12.sm X).add (g21.sm Y)).add (g22.sm Z)
end
theorem gx{a b:Int}(h:a∣b)(c:Int):a∣b*c:=Vr h ⟨c,rfl⟩
theorem vY{f:Fm}(h:∀ g:Nat,(g:Int)∣f.a->(g:Int)∣f.b->(g:Int)∣f.c->g=1):prim f.a f.b f.c=true:=by
 unfold prim;refine G6 ?_;have h1:((Int.gcd f.a (Int.gcd f.b f.c:Int):Nat):Int)∣f.a:=U7 ..;have h2:((Int.gcd f.a (Int.gcd f.b f.c:Int):Nat):Int)∣((Int.gcd f.b f.c:Nat):Int):=UX ..;exact h _ h1 (Vr h2 (U7 ..)) (Vr h2 (UX ..))
theorem Fs{f:Fm}(hf:f.pos){m:Mt}(h:m.det=1):(f.app m).pos:=by
 refine⟨?_,by rw[xz,h];have:=hf.2;omega⟩;show 0<vl f.a f.b f.c m.a m.c;have hd:f.b*f.b-4*f.a*f.c<0:=hf.2;have ha:=hf.1;have e:4*f.a*vl f.a f.b f.c m.a m.c=(2*f.a*m.a+f.b*m.c)*(2*f.a*m.a+f.b*m.c) + -(f.b*f.b-4*f.a*f.c)*(m.c*m.c):=by unfold vl;grind
 have s1:=cz (2*f.a*m.a+f.b*m.c);have s2:=cz m.c;rcases UY 0 (vl f.a f.b f.c m.a m.c)with g|g
 ·exact g
 exfalso;have l1:4*f.a*vl f.a f.b f.c m.a m.c<=0:=Vb (by omega) g;have l2:0<=-(f.b*f.b-4*f.a*f.c)*(m.c*m.c):=Vd (by omega) s2;have l3:-(f.b*f.b-4*f.a*f.c)*(m.c*m.c)=0:=by omega
 have c0:m.c=0:=by
  rcases X5.1 l3 with q|q
  ·omega
  rcases X5.1 q with q|q <;> exact q
 rw[c0]at e;have s3:(2*f.a*m.a)*(2*f.a*m.a)=0:=by
  have e2:(2*f.a*m.a+f.b*0)*(2*f.a*m.a+f.b*0)=(2*f.a*m.a)*(2*f.a*m.a):=by simp
  rw[c0,e2]at s1;rw[e2]at e;have:-(f.b*f.b-4*f.a*f.c)*(0*0)=0:=by simp
  rw[this]at e;rw[c0]at l1;omega
 have a0:m.a=0:=by
  have:=X5.1 s3;have h4:2*f.a*m.a=0:=by rcases this with q|q <;> exact q
  rcases X5.1 h4 with q|q
  ·omega
  exact q
 unfold Mt.det at h;rw[c0,a0]at h;simp at h
section
variable {s d:Int}
theorem LN{f g:Fm}{k1 k2 X Y Z e E:Int}(h1:f.a*f.c=k1*k1+s*k1-d)(h2:g.a*g.c=k2*k2+s*k2-d)(he:e=X*f.a+Y*g.a+Z*(k1+k2+s))(hE:E=X*f.a*k2+Y*g.a*k1+Z*(k1*k2+d)) :
  E*E+s*(E*e)-d*(e*e)=f.a*g.a*(X*X*(f.a*g.c)+Y*Y*(g.a*f.c)+Z*Z*(f.c*g.c)+X*Y*(2*(k1*k2)+s*(k1+k2)-2*d)+X*Z*(g.c*(2*k1+s))+Y*Z*(f.c*(2*k2+s))):=by
 have n1:=El.nm_mul (s:=s) (d:=d) ⟨k1,1⟩ ⟨k2,1⟩;unfold El.nm El.mul at n1;simp only at n1;have m1:k1*k1+s*(k1*1)-d*(1*1)=f.a*f.c:=by rw[h1];grind
 have m2:k2*k2+s*(k2*1)-d*(1*1)=g.a*g.c:=by rw[h2];grind
 rw[m1,m2]at n1;have q1:X*X*(f.a*f.a)*(k2*k2+s*k2-d)=X*X*(f.a*f.a)*(g.a*g.c):=by rw[h2]
 have q2:Y*Y*(g.a*g.a)*(k1*k1+s*k1-d)=Y*Y*(g.a*g.a)*(f.a*f.c):=by rw[h1]
 have q3:X*Z*f.a*(2*k1+s)*(k2*k2+s*k2-d)=X*Z*f.a*(2*k1+s)*(g.a*g.c):=by rw[h2]
 have q4:Y*Z*g.a*(2*k2+s)*(k1*k1+s*k1-d)=Y*Z*g.a*(2*k2+s)*(f.a*f.c):=by rw[h1]
 have q5:Z*Z*((k1*k2+d)*(k1*k2+d)+s*((k1*k2+d)*(k1+k2+s))-d*((k1+k2+s)*(k1+k2+s)))=Z*Z*(f.a*f.c*(g.a*g.c)):=by
  rw[<- n1];congr 1;grind
 subst he hE;generalize f.a=a at *;generalize g.a=b at *;generalize f.c=c at *;generalize g.c=w at *;clear h1 h2 m1 m2 n1;grind
theorem CD.form{f g:Fm}{k1 k2 e X Y Z a1 a2 t q k A:Int}(c:CD f g s d k1 k2 e X Y Z a1 a2 t q k A)(hf:FK s d f k1)(hg:FK s d g k2) :
  ∃ C:Int,A*C=k*k+s*k-d:=by
 have hn:=LN (X:=X) (Y:=Y) (Z:=Z) hf.n hg.n c.bz.symm c.hk;generalize (X*X*(f.a*g.c)+Y*Y*(g.a*f.c)+Z*Z*(f.c*g.c)+X*Y*(2*(k1*k2)+s*(k1+k2)-2*d)+X*Z*(g.c*(2*k1+s))+Y*Z*(f.c*(2*k2+s)))=Q at hn;refine⟨Q,?_⟩;rw[c.f1,c.g1]at hn;have e1:e*(e*(A*Q))=e*(e*(k*k+s*k-d)):=by
  rw[c.hA];have l:e*(e*(a1*a2*Q))=e*a1*(e*a2)*Q:=by grind
  rw[l,<- hn];grind
 have e0:=c.e0;exact U0 (by omega) (U0 (by omega) e1)
theorem Am{f g h:Fm}{k1 k2 k e:Int}(hf:FK s d f k1)(hg:FK s d g k2)(hh:FK s d h k)(ph:h.pos)(he:0<e)(ha:f.a*g.a=e*e*h.a)(q:Eqv (prd s d (LaF f.a k1) (LaF g.a k2)) (prd s d [⟨e,0⟩] (LaF h.a k)))(x y z w:Int):∃ u v:Int,vl f.a f.b f.c x y*vl g.a g.b g.c z w=vl h.a h.b h.c u v:=by
 have h1:InS (prd s d (LaF f.a k1) (LaF g.a k2)) (((El.sm x ⟨f.a,0⟩).add (El.sm y ⟨k1,1⟩)).mul s d ((El.sm z ⟨g.a,0⟩).add (El.sm w ⟨k2,1⟩))):=(in2.2 ⟨x,y,rfl⟩).mul (in2.2 ⟨z,w,rfl⟩);have h2:=(q _).1 h1;have e1:prd s d [⟨e,0⟩] (LaF h.a k)=[(⟨e,0⟩:El).mul s d ⟨h.a,0⟩,(⟨e,0⟩:El).mul s d ⟨k,1⟩]:=rfl;rw[e1]at h2;obtain⟨u,v,e2⟩:=in2.1 h2;rw[<- El.mul_sm,<- El.mul_sm,<- El.mul_add]at e2;have n1:=El.nm_mul (s:=s) (d:=d) ((El.sm x ⟨f.a,0⟩).add (El.sm y ⟨k1,1⟩)) ((El.sm z ⟨g.a,0⟩).add (El.sm w ⟨k2,1⟩));rw[e2,El.nm_mul,hf.nm,hg.nm,hh.nm,ml]at n1;refine⟨u,v,?_⟩;have e3:f.a*vl f.a f.b f.c x y*(g.a*vl g.a g.b g.c z w)=e*e*h.a*(vl f.a f.b f.c x y*vl g.a g.b g.c z w):=by rw[<- ha];grind
 rw[e3,<- UG]at n1;exact(U0 (by have:=VX (iF he) ph.1;omega) n1).symm
theorem vZ{a b c:Int}(h:prim a b c=true):∃ x y z:Int,a*x+b*y+c*z=1:=by
 obtain⟨y,z,h1⟩:=bez b c;obtain⟨x,w,h2⟩:=bez a (Int.gcd b c:Nat);unfold prim at h;rw[dT0 h,<- h1]at h2;exact⟨x,y*w,z*w,by grind⟩
theorem yG{t a b c:Int}(h:∀ x y,t∣vl a b c x y):t∣a∧t∣b∧t∣c:=by
 have h1:=h 1 0;have h2:=h 0 1;have h3:=h 1 1;unfold vl at h1 h2 h3;have a1:t∣a:=by simpa using h1
 have a2:t∣c:=by simpa using h2
 refine⟨a1,?_,a2⟩;have h4:=VT (VT h3 a1) a2;have e:a*1*1+b*1*1+c*1*1-a-c=b:=by omega
 rwa [e]at h4
theorem Cp{f g h:Fm}(pf:prim f.a f.b f.c=true)(pg:prim g.a g.b g.c=true)(hv:∀ x y z w:Int,∃ u v:Int,vl f.a f.b f.c x y*vl g.a g.b g.c z w=vl h.a h.b h.c u v):prim h.a h.b h.c=true:=by
 refine vY (fun m h1 h2 h3=>?_);have hm:∀ u v,(m:Int)∣vl h.a h.b h.c u v:=fun u v=>by
  unfold vl;exact V6 (V6 (gx (gx h1 _) _) (gx (gx h2 _) _)) (gx (gx h3 _) _)
 have k1:∀ x y z w,(m:Int)∣vl f.a f.b f.c x y*vl g.a g.b g.c z w:=fun x y z w=>by
  obtain⟨u,v,e⟩:=hv x y z w;rw[e];exact hm u v
 have k2:∀ x y,(m:Int)∣vl f.a f.b f.c x y:=fun x y=>by
  have c:=yG (t:=m) (a:=vl f.a f.b f.c x y*g.a) (b:=vl f.a f.b f.c x y*g.b) (c:=vl f.a f.b f.c x y*g.c) (fun z w=>by
   have:=k1 x y z w;have e:vl (vl f.a f.b f.c x y*g.a) (vl f.a f.b f.c x y*g.b) (vl f.a f.b f.c x y*g.c) z w=vl f.a f.b f.c x y*vl g.a g.b g.c z w:=by
    generalize vl f.a f.b f.c x y=V;unfold vl;grind
   rw[e];exact this)
  obtain⟨p,q,r,e⟩:=vZ pg;have h4:=V6 (V6 (gx c.1 p) (gx c.2.1 q)) (gx c.2.2 r);have e5:vl f.a f.b f.c x y*g.a*p+vl f.a f.b f.c x y*g.b*q+vl f.a f.b f.c x y*g.c*r=vl f.a f.b f.c x y*(g.a*p+g.b*q+g.c*r):=by grind
  rw[e5,e,WO]at h4;exact h4
 have c:=yG k2;obtain⟨p,q,r,e⟩:=vZ pf;have h4:=V6 (V6 (gx c.1 p) (gx c.2.1 q)) (gx c.2.2 r);rw[e]at h4;have:=WJ (by omega) h4;rcases(show m=0∨m=1 by omega)with e|e
 ·subst e;have:=XT.1 h4;omega
 exact e
end
structure Cl(D:Int)(f:Fm):Prop where
 pos:f.pos
 prim:AM.prim f.a f.b f.c=true
 disc:dsc f.a f.b f.c=D
abbrev sD(D:Int):Int:=D%2
abbrev dD(D:Int):Int:=(D-D%2)/4
section
variable {D:Int}
theorem fu{a b c:Int}(h:dsc a b c=D):(b-D%2)%2=0∧D=sD D*sD D+4*dD D:=by
 unfold dsc at h;rw[UG]at h;generalize a*c=t at h;have hb:b%2=0∨b%2=1:=by omega
 have hD:D%2=0∨D%2=1:=by omega
 rcases hb with g|g
 ·obtain⟨q,hq⟩:∃ q,b=2*q:=⟨b/2,by omega⟩
  have e:b*b=4*(q*q):=by rw[hq];grind
  have h0:D%2=0:=by omega
  unfold sD dD;rw[h0];omega
 obtain⟨q,hq⟩:∃ q,b=2*q+1:=⟨b/2,by omega⟩
 have e:b*b=4*(q*q+q)+1:=by rw[hq];grind
 have h0:D%2=1:=by omega
 unfold sD dD;rw[h0];omega
theorem Cl.fo{f:Fm}(h:Cl D f):Fo (sD D) (dD D) f:=by
 obtain⟨h1,h2⟩:=fu h.disc;exact FK.of (h.disc.trans h2) h1
theorem Cl.app{f:Fm}{M:Mt}(h:Cl D f)(hM:M.det=1):Cl D (f.app M):=by
 refine⟨Fs h.pos hM,?_,?_⟩
 ·rw[<- v6 f (by rw[hM];rfl)];exact h.prim
 have:(f.app M).disc=f.disc:=lM hM;exact this.trans h.disc
theorem Cl.rd{f:Fm}(h:Cl D f):Cl D f.rd:=by
 obtain⟨m,h1,h2⟩:=ly h.pos;rw[h2];exact h.app h1
theorem Cl.rd_Rd{f:Fm}(h:Cl D f):Rd f.rd:=Rd.rdF h.pos
theorem Cl.rd_rd{f:Fm}(h:Cl D f):f.rd.rd=f.rd:=by
 obtain⟨m,h1,h2⟩:=ly h.pos;have:=mN h.pos h1
 rwa [<- h2]at this
def IsC(D:Int)(f g h:Fm):Prop:=Cl D h∧Cm (sD D) (dD D) f g h
theorem wW{f g h f' g' h':Fm}(hf:Cl D f)(hg:Cl D g)(hf':Cl D f')(hg':Cl D g')(ef:f.rd=f'.rd)(eg:g.rd=g'.rd)(c:IsC D f g h)(c':IsC D f' g' h'):h.rd=h'.rd :=
 LD hf.pos hg.pos c.1.pos hf'.pos hg'.pos c'.1.pos hf.fo hg.fo c.1.fo c'.1.fo ef eg c.2 c'.2
theorem Gc{f g h:Fm}(c:IsC D f g h):IsC D g f h:=⟨c.1,c.2.comm⟩
theorem Df{f g k h m u v:Fm}(c1:IsC D f g h)(c2:IsC D h k m)(c3:IsC D g k u)(c4:IsC D f u v):m.rd=v.rd :=
 GR c2.1.pos c4.1.pos c2.1.fo c4.1.fo c1.2 c2.2 c3.2 c4.2
theorem r8{f g:Fm}{e X Y Z a1 a2 t q k A j C:Int}(hf:Cl D f)(hg:Cl D g)(c:CD f g (sD D) (dD D) (kk (sD D) f) (kk (sD D) g) e X Y Z a1 a2 t q k A)(hj:A∣k-j)(hC:(2*j+sD D)*(2*j+sD D)-4*A*C=D):IsC D f g ⟨A,2*j+sD D,C⟩:=by
 have hfk:FK (sD D) (dD D) f (kk (sD D) f):=hf.fo;have hgk:FK (sD D) (dD D) g (kk (sD D) g):=hg.fo;have q0:=c.eqv hfk hgk hf.prim;have hA:f.a*g.a=e*e*A:=by rw[c.f1,c.g1,c.hA];grind
 have pA:0<A:=by
  have h1:0<e*e*A:=by rw[<- hA];exact VX hf.pos.1 hg.pos.1
  rcases UY 0 A with h|h
  ·exact h
  have:=Vb (show 0<=e*e from by have:=iF c.e0;omega) h;omega
 have hD:dsc f.a f.b f.c<0:=hf.pos.2;rw[hf.disc]at hD;have hh:FK (sD D) (dD D) ⟨A,2*j+sD D,C⟩ j:=by
  refine⟨rfl,?_⟩;have h2:=(fu hf.disc).2;rw[UG]at hC;show A*C=_;generalize A*C=T at hC;generalize sD D=σ at *;generalize dD D=δ at *;grind
 have ph:(⟨A,2*j+sD D,C⟩:Fm).pos:=⟨pA,by show dsc A (2*j+sD D) C<0;unfold dsc;rw[hC];exact hD⟩
 have qj:Eqv (prd (sD D) (dD D) (LaF f.a (kk (sD D) f)) (LaF g.a (kk (sD D) g))) (prd (sD D) (dD D) [⟨e,0⟩] (LaF A j)):=q0.trans ((Eqv.refl _).prd (uw hj));have hv:=Am hfk hgk hh ph c.e0 hA qj;refine⟨⟨ph,Cp hf.prim hg.prim hv,hC⟩,e,c.e0,hA,?_⟩;show Eqv _ (prd _ _ _ (LaF A (kk (sD D) ⟨A,2*j+sD D,C⟩)));rw[hh.kk];exact qj
theorem wV{f g h:Fm}(hf:Cl D f)(hg:Cl D g)(c:IsC D f g h)(x y z w:Int):∃ u v:Int,vl f.a f.b f.c x y*vl g.a g.b g.c z w=vl h.a h.b h.c u v:=by
 obtain⟨hh,e,he,ha,q⟩:=c;exact Am hf.fo hg.fo hh.fo hh.pos he ha q x y z w
end
def xg:Nat->Int->Int->Int×Int
 |0,a,_=>(if 0<=a then 1 else -1,0)
 |n+1,a,b=>if b=0 then(if 0<=a then 1 else -1,0)else((xg n b (a%b)).2,(xg n b (a%b)).1-(a/b)*(xg n b (a%b)).2)
theorem Gr(a b:Int):Int.gcd b (a%b)=Int.gcd a b:=by
 refine Nat.dvd_antisymm ?_ ?_
 ·refine Ya ?_ (U7 ..);have h1:=U7 (a:=b) (b:=a%b);have h2:=UX (a:=b) (b:=a%b);have h3:=V6 (Vr h1 ⟨a/b,rfl⟩) h2
  rwa [UC a b]at h3
 refine Ya (UX ..) ?_;have h1:=U7 (a:=a) (b:=b);have h2:=UX (a:=a) (b:=b);have e3:a%b=a-b*(a/b):=by have:=UC a b;omega
 rw[e3];exact VT h1 (Vr h2 ⟨_,rfl⟩)
theorem uZ:∀ (n:Nat) (a b:Int),b.natAbs<=n->(xg n a b).1*a+(xg n a b).2*b=(Int.gcd a b:Nat)
 |0,a,b,h=>by
  have hb:b=0:=by omega
  subst hb;rw[WK];unfold xg;simp only;split <;> omega
 |n+1,a,b,h=>by
  unfold xg;by_cases hb:b=0
  ·subst hb;rw[H2 rfl,WK];simp only;split <;> omega
  rw[G2 hb];have h1:(a%b).natAbs<b.natAbs:=by
   have:=UF a hb;have:=X2 a hb;omega
  have e:=uZ n b (a%b) (by omega);rw[Gr]at e;have em:=UC a b;rw[<- e];simp only;generalize xg n b (a%b)=p;generalize a/b=q at *;generalize a%b=r at *;subst em;grind
def oW(f g:Fm):Fm :=
 let x:=xg g.a.natAbs f.a g.a
 let h:Int:=(Int.gcd f.a g.a:Nat)
 let s0:=(f.b+g.b)/2
 let u:=xg s0.natAbs h s0
 let e:Int:=(Int.gcd h s0:Nat)
 let A:=f.a*g.a/(e*e)
 let b:=(u.1*x.1*f.a*g.b+u.1*x.2*g.a*f.b+u.2*((f.b*g.b+dsc f.a f.b f.c)/2))/e
 ⟨A,b,(b*b-dsc f.a f.b f.c)/(4*A)⟩
def mlt(f g:Fm):Fm:=(oW f g).rd
section
variable {D:Int}
theorem KT{f g:Fm}{h x y e u z A B C:Int}(hf:Cl D f)(hg:Cl D g)(e0:0<e)(d1:e∣f.a)(d2:e∣g.a)(d3:e∣(f.b+g.b)/2)(h1:x*f.a+y*g.a=h)(h2:u*h+z*((f.b+g.b)/2)=e)(hA:e*e*A=f.a*g.a)(hB:B=(u*x*f.a*g.b+u*y*g.a*f.b+z*((f.b*g.b+D)/2))/e)(hC:C=(B*B-D)/(4*A)):IsC D f g ⟨A,B,C⟩:=by
 have hfk:FK (sD D) (dD D) f (kk (sD D) f):=hf.fo;have hgk:FK (sD D) (dD D) g (kk (sD D) g):=hg.fo;have hD:=(fu hf.disc).2;have bf:=hfk.b;have bg:=hgk.b;have nf:=hfk.n;generalize hk1:kk (sD D) f=k1 at *;generalize hk2:kk (sD D) g=k2 at *;have hs0:(f.b+g.b)/2=k1+k2+sD D:=by omega
 rw[hs0]at d3 h2;obtain⟨a1,ha1⟩:=d1;obtain⟨a2,ha2⟩:=d2;obtain⟨t,ht⟩:=d3;have ee:e*e≠0:=by have:=iF e0;omega
 have hA2:A=a1*a2:=by
  refine U0 ee ?_;rw[hA,ha1,ha2];grind
 have hq:∃ q,k1*k2+dD D=e*q:=⟨k1*t-a1*f.c,by
  have e1:k1*k2+dD D=k1*(k1+k2+sD D)-f.a*f.c:=by rw[nf];grind
  rw[e1,ht,ha1];grind⟩
 obtain⟨q,hq⟩:=hq;have hkx:∃ k,e*k=u*x*f.a*k2+u*y*g.a*k1+z*(k1*k2+dD D):=⟨u*x*a1*k2+u*y*a2*k1+z*q,by rw[hq,ha1,ha2];grind⟩
 obtain⟨k,hk⟩:=hkx;have cd:CD f g (sD D) (dD D) k1 k2 e (u*x) (u*y) z a1 a2 t q k A:=⟨ha1,ha2,ht,by rw[<- h2,<- h1];grind,e0,hq,hk,hA2⟩
 have hmid:(f.b*g.b+D)/2=2*(k1*k2+dD D)+sD D*(k1+k2+sD D):=by
  have:f.b*g.b+D=2*(2*(k1*k2+dD D)+sD D*(k1+k2+sD D)):=by rw[bf,bg,hD];grind
  omega
 have hBk:B=2*k+sD D:=by
  rw[hB,hmid,bf,bg];have:u*x*f.a*(2*k2+sD D)+u*y*g.a*(2*k1+sD D)+z*(2*(k1*k2+dD D)+sD D*(k1+k2+sD D))=e*(2*k+sD D):=by
   have e3:u*x*f.a+u*y*g.a+z*(k1+k2+sD D)=e:=cd.bz;have:e*(2*k+sD D)=2*(e*k)+sD D*e:=by grind
   rw[this,hk];have:sD D*e=sD D*(u*x*f.a+u*y*g.a+z*(k1+k2+sD D)):=by rw[e3]
   rw[this];grind
  rw[this,U6 _ (by omega)]
 obtain⟨C',hC'⟩:=cd.form hfk hgk;have hA0:A≠0:=fun h0=>by
  rw[h0,Int.mul_zero]at hA;have:=VX hf.pos.1 hg.pos.1;omega
 have hBD:B*B-D=4*A*C':=by
  rw[hBk];have:4*A*C'=4*(A*C'):=UG ..;rw[this,hC'];generalize sD D=σ at *;generalize dD D=δ at *;rw[hD];grind
 have hCC:C=C':=by rw[hC,hBD];exact U6 _ (by omega)
 subst hCC;subst hk1 hk2;rw[hBk];refine r8 hf hg cd (j:=k) ⟨0,by omega⟩ ?_;rw[<- hBk];omega
theorem dR{f g:Fm}(hf:Cl D f)(hg:Cl D g):IsC D f g (oW f g):=by
 have e1:=uZ g.a.natAbs f.a g.a (Iv _);have e2:=uZ ((f.b+g.b)/2).natAbs (Int.gcd f.a g.a:Nat) ((f.b+g.b)/2) (Iv _);have l:=U7 (a:=((Int.gcd f.a g.a:Nat):Int)) (b:=(f.b+g.b)/2);have r:=UX (a:=((Int.gcd f.a g.a:Nat):Int)) (b:=(f.b+g.b)/2);have d1:=Vr l (U7 (a:=f.a) (b:=g.a));have d2:=Vr l (UX (a:=f.a) (b:=g.a));have e0:(0:Int)<(Int.gcd ((Int.gcd f.a g.a:Nat):Int) ((f.b+g.b)/2):Nat):=by
  rcases UI (Int.gcd ((Int.gcd f.a g.a:Nat):Int) ((f.b+g.b)/2))with h|h
  ·rw[h]at d1;have:=XT.1 d1;have:=hf.pos.1;omega
  omega
 have hA:((Int.gcd ((Int.gcd f.a g.a:Nat):Int) ((f.b+g.b)/2):Nat):Int)*(Int.gcd ((Int.gcd f.a g.a:Nat):Int) ((f.b+g.b)/2):Nat)*(f.a*g.a/(((Int.gcd ((Int.gcd f.a g.a:Nat):Int) ((f.b+g.b)/2):Nat):Int)*(Int.gcd ((Int.gcd f.a g.a:Nat):Int) ((f.b+g.b)/2):Nat)))=f.a*g.a :=
  Int.mul_ediv_cancel' (Int.mul_dvd_mul d1 d2)
 unfold oW;simp only;rw[hf.disc];exact KT hf hg e0 d1 d2 r e1 e2 hA rfl rfl
theorem pR{f g h:Fm}(hf:Cl D f)(hg:Cl D g)(c:IsC D f g h):h.rd=mlt f g:=wW hf hg hf hg rfl rfl c (dR hf hg)
theorem gh{f g:Fm}(hf:Cl D f)(hg:Cl D g):Cl D (mlt f g):=(dR hf hg).1.rd
theorem On{f g:Fm}(hf:Cl D f)(hg:Cl D g):Rd (mlt f g):=(dR hf hg).1.rd_Rd
theorem oB{f g:Fm}(hf:Cl D f)(hg:Cl D g):(mlt f g).rd=mlt f g:=(dR hf hg).1.rd_rd
theorem fS{f g:Fm}(hf:Cl D f)(hg:Cl D g):mlt f g=mlt g f:=pR hg hf (Gc (dR hf hg))
theorem jo{f g f' g':Fm}(hf:Cl D f)(hg:Cl D g)(hf':Cl D f')(hg':Cl D g')(ef:f.rd=f'.rd)(eg:g.rd=g'.rd):mlt f g=mlt f' g' :=
 wW hf hg hf' hg' ef eg (dR hf hg) (dR hf' hg')
theorem dl{f g k:Fm}(hf:Cl D f)(hg:Cl D g)(hk:Cl D k):mlt (mlt f g) k=mlt f (mlt g k):=by
 have c1:=dR hf hg;have c3:=dR hg hk;have c2:=dR c1.1 hk;have c4:=dR hf c3.1;have h1:mlt (mlt f g) k=mlt (oW f g) k:=jo c1.1.rd hk c1.1 hk c1.1.rd_rd rfl;have h2:mlt f (mlt g k)=mlt f (oW g k):=jo hf c3.1.rd hf c3.1 rfl c3.1.rd_rd;rw[h1,h2];exact Df c1 c2 c3 c4
def prP(D:Int):Fm:=⟨1,D%4,-(D/4)⟩
theorem dZ{f:Fm}(hf:Cl D f):Cl D (prP D):=by
 have hneg:D<0:=by have h:dsc f.a f.b f.c<0:=hf.pos.2;rw[hf.disc]at h;exact h
 obtain⟨h1,h2⟩:=fu hf.disc;have h4:D%4=D%2:=by
  unfold sD dD at h2;rcases(show D%2=0∨D%2=1 by omega)with e|e <;> rw[e]at h2 ⊢ <;> omega
 have hd:dsc 1 (D%4) (-(D/4))=D:=by
  unfold dsc;rcases(show D%4=0∨D%4=1 by omega)with e|e <;> rw[e] <;> omega
 refine⟨⟨by show(0:Int)<1;decide,by show dsc 1 (D%4) (-(D/4))<0;rw[hd];exact hneg⟩,?_,hd⟩;refine vY (fun g h _ _=>?_);have h':(g:Int)∣1:=h;have:=WJ (by decide) h';rcases(show g=0∨g=1 by omega)with e|e
 ·subst e;have:=XT.1 h';omega
 exact e
theorem Ct{f:Fm}(hf:Cl D f):Rd (prP D):=by
 have c:=dZ hf;have hneg:D<0:=by have h:dsc f.a f.b f.c<0:=hf.pos.2;rw[hf.disc]at h;exact h
 have h4:D%4=0∨D%4=1:=by
  have:=c.disc;unfold prP dsc at this;simp only at this;have h0:=UF D (show(4:Int)≠0 by omega);have h1:=UK D (show(0:Int)<4 by omega);rcases(show D%4=0∨D%4=1∨D%4=2∨D%4=3 by omega)with e|e|e|e <;> rw[e]at this <;> omega
 unfold prP;rcases h4 with e|e
 ·rw[e];exact⟨by show(0:Int)<1;decide,by show(((0:Int).natAbs:Nat):Int)<=1;decide,by show 1<=-(D/4);omega,.inr (by show(0:Int)<=0;decide)⟩
 rw[e];exact⟨by show(0:Int)<1;decide,by show(((1:Int).natAbs:Nat):Int)<=1;decide,by show 1<=-(D/4);omega,.inr (by show(0:Int)<=1;decide)⟩
theorem fP{f:Fm}(h:Rd f)(hp:f.pos):f.rd=f:=by
 obtain⟨m,h1,h2⟩:=ly hp;have hr:Rd f.rd:=Rd.rdF hp;rw[h2]at hr ⊢;exact vR h h1 hr
theorem KS{f:Fm}(hf:Cl D f):IsC D f (prP D) f:=by
 have hp:=dZ hf;have hfk:FK (sD D) (dD D) f (kk (sD D) f):=hf.fo;have hpk:FK (sD D) (dD D) (prP D) (kk (sD D) (prP D)):=hp.fo;have hk2:kk (sD D) (prP D)=0:=by
  have h4:(prP D).b=D%4:=rfl;have:=hpk.b;rw[h4]at this;have h2:=(fu hf.disc).2;unfold sD dD at *;rcases(show D%2=0∨D%2=1 by omega)with e|e <;> rw[e]at h2 this ⊢ <;> omega
 have cd:CD f (prP D) (sD D) (dD D) (kk (sD D) f) (kk (sD D) (prP D)) 1 0 1 0 f.a 1 (kk (sD D) f+sD D) (dD D) (kk (sD D) f) f.a:=by
  rw[hk2];refine⟨by omega,rfl,by omega,by show 0*f.a+1*1+0*_=(1:Int);omega,by decide,by omega,by show 1*_=0*f.a*0+1*1*_+0*_;omega,by omega⟩
 have h1:=r8 (j:=kk (sD D) f) (C:=f.c) hf hp cd ⟨0,by omega⟩ (by
  have:=hf.disc;unfold dsc at this;rw[<- hfk.b];exact this)
 rw[<- hfk.b]at h1;exact h1
theorem dP{f:Fm}(hf:Cl D f):mlt f (prP D)=f.rd:=(pR hf (dZ hf) (KS hf)).symm
theorem fT{f:Fm}(hf:Cl D f):Cl D f.mi:=by
 refine⟨Oq hf.pos,?_,?_⟩
 ·have:=hf.prim;unfold AM.prim at this ⊢;show decide (Int.gcd f.a (Int.gcd (-f.b) f.c:Int)=1)=true;rw[Int.neg_gcd];exact this
 show dsc f.a (-f.b) f.c=D;rw[Ac];exact hf.disc
theorem CL{f:Fm}(hf:Cl D f)(h1:f.a=1):f.rd=prP D:=by
 have hp:=dZ hf;have hE:Eqv (prd (sD D) (dD D) [⟨1,0⟩] (lat (sD D) f)) (prd (sD D) (dD D) [⟨1,0⟩] (lat (sD D) (prP D))):=by
  refine(Eqv.refl _).prd ?_;unfold lat;rw[h1];exact uw ⟨_,(WP _).symm⟩
 have:=oG hf.pos hp.pos hf.fo hp.fo hE (by rw[ml];decide) (by rw[ml];decide);rw[this];exact fP (Ct hf) hp.pos
theorem mR{f:Fm}(hf:Cl D f):mlt f f.mi=prP D:=by
 have hm:=fT hf;have hfk:FK (sD D) (dD D) f (kk (sD D) f):=hf.fo;have hmk:FK (sD D) (dD D) f.mi (kk (sD D) f.mi):=hm.fo;have hk2:kk (sD D) f.mi=-kk (sD D) f-sD D:=by
  have e1:f.mi.b=-f.b:=rfl;have:=hmk.b;have:=hfk.b;omega
 have cd:CD f f.mi (sD D) (dD D) (kk (sD D) f) (kk (sD D) f.mi) f.a 1 0 0 1 1 0 (-f.c) (kk (sD D) f.mi) 1:=by
  have hn:=hfk.n;rw[hk2];refine⟨by omega,(WO f.a).symm,by omega,by omega,hf.pos.1,?_,by simp,by omega⟩;rw[VO,hn];grind
 obtain⟨C,hC⟩:=cd.form hfk hmk;have h1:=r8 (j:=kk (sD D) f.mi) (C:=C) hf hm cd ⟨0,by omega⟩ (by
  have h2:=(fu hf.disc).2;rw[WP]at hC;rw[hC];generalize kk (sD D) f.mi=k at *;generalize sD D=σ at *;generalize dD D=δ at *;rw[h2];grind)
 rw[<- pR hf hm h1];exact CL h1.1 rfl
end
def gQ:List Int->Int
 | []=>1
 |x::l=>x*gQ l
theorem AZ{l m:List Int}(h:l.Perm m):gQ l=gQ m:=by
 induction h with
 |nil=>rfl
 |cons x _ ih=>simp only[gQ,ih]
 |swap x y l=>simp only[gQ];grind
 |trans _ _ h1 h2=>exact h1.trans h2
theorem tV{α:Type}(f g:α->Int):∀ l:List α,gQ (l.map fun x=>f x*g x)=gQ (l.map f)*gQ (l.map g)
 | []=>rfl
 |x::l=>by simp only[List.map_cons,gQ,tV f g l];grind
theorem jg{α:Type}(f g:α->Int):∀ l:List α,bj (l.map fun x=>f x+g x)=bj (l.map f)+bj (l.map g)
 | []=>rfl
 |x::l=>by simp only[List.map_cons,bj,jg f g l];omega
theorem oc{α:Type}(c:Int)(f:α->Int):∀ l:List α,bj (l.map fun x=>c*f x)=c*bj (l.map f)
 | []=>by simp[bj]
 |x::l=>by simp only[List.map_cons,bj,oc c f l];grind
def rg(n:Int):List Int:=(List.range (n/2).toNat).map fun(i:Nat)=>(i:Int)+1
theorem gK{n x:Int}(_hn:0<n):x∈rg n↔1<=x∧x<=n/2:=by
 unfold rg;rw[UO];constructor
 ·rintro⟨i,hi,rfl⟩;rw[UW]at hi;omega
 rintro⟨h1,h2⟩;exact⟨(x-1).toNat,by rw[UW];omega,by omega⟩
theorem vM(n:Int):(rg n).Nodup:=by
 unfold rg;refine List.Pairwise.map (R:=(· ≠ ·)) _ (fun a b h e=>h ?_) (List.nodup_range);omega
def sgR(n r:Int):Int:=if r%n<=n/2 then 1 else -1
def abR(n r:Int):Int:=if r%n<=n/2 then r%n else n-r%n
def SS(a n:Int):Int:=gQ ((rg n).map fun x=>sgR n (a*x))
section
variable {n:Int}
theorem y6(r:Int):sgR n r=sgR n (r%n):=by unfold sgR;rw[Int.emod_emod]
theorem oe{r t:Int}(h:n∣r-t):sgR n r=sgR n t:=by
 rw[y6 r,y6 t,(Xv).2 (W2 h)]
theorem vj(h0:0<n){r:Int}(hr:r%n≠0):1<=abR n r∧abR n r<=n/2:=by
 have h1:=UF r (show n≠0 by omega);have h2:=UK r h0;unfold abR;split <;> omega
theorem rB(r:Int):n∣r-sgR n r*abR n r:=by
 have e:=UC r n;unfold sgR abR;split
 ·exact⟨r/n,by omega⟩
 exact⟨r/n+1,by rw[Int.mul_add];omega⟩
theorem JE(h0:0<n)(ho:n%2=1){r:Int}(hr:r%n≠0):sgR n (-r)=-sgR n r:=by
 have h1:=UF r (show n≠0 by omega);have h2:=UK r h0;have e:(-r)%n=n-r%n:=by
  have e1:=UC r n;have e2:-r=(n-r%n)+n*(-(r/n)-1):=by rw[Int.mul_sub,VO];omega
  rw[e2,Int.add_mul_emod_self_left,Int.emod_eq_of_lt (by omega) (by omega)]
 unfold sgR;rw[e];by_cases g:r%n<=n/2
 ·rw[H2 g,G2 (by omega)]
 rw[G2 g,H2 (by omega)];rfl
theorem mL(r:Int):sgR n r=1∨sgR n r=-1:=by unfold sgR;split;exact .inl rfl;exact .inr rfl
def Cop(a n:Int):Prop:=Int.gcd a n=1
instance Cop.dec(a n:Int):Decidable (Cop a n):=inferInstanceAs (Decidable (Int.gcd a n=1))
theorem Cop.symm{a n:Int}(h:Cop a n):Cop n a:=by unfold Cop at h ⊢;rw[XI];exact h
theorem Cop.inv{a:Int}(h:Cop a n):∃ b,n∣a*b-1:=by
 obtain⟨x,y,e⟩:=bez a n;rw[h]at e;exact⟨x,⟨-y,by rw[VO];omega⟩⟩
theorem Cop.of_inv{a b:Int}(h:n∣a*b-1):Cop a n:=by
 obtain⟨q,hq⟩:=h;have h1:((Int.gcd a n:Nat):Int)∣1:=by
  have l:=U7 (a:=a) (b:=n);have r:=UX (a:=a) (b:=n);have e:(1:Int)=a*b-n*q:=by omega
  rw[e];exact VT (gx l _) (gx r _)
 have:=WJ (by omega) h1;have h2:Int.gcd a n≠0:=fun e=>by rw[e]at h1;have:=XT.1 h1;omega
 unfold Cop;omega
theorem Cop.mul{a b:Int}(h:Cop a n)(h1:Cop b n):Cop (a*b) n:=by
 obtain⟨x,p,hp⟩:=h.inv;obtain⟨y,q,hq⟩:=h1.inv;refine Cop.of_inv (b:=x*y) ⟨p*(b*y)+q,?_⟩;have e:a*x=1+n*p:=by omega
 have e2:b*y=1+n*q:=by omega
 have:a*b*(x*y)=(a*x)*(b*y):=by grind
 rw[this,e,e2];grind
theorem Cop.left{a b:Int}(h:Cop (a*b) n):Cop a n:=by
 obtain⟨x,q,hq⟩:=h.inv;exact Cop.of_inv (b:=b*x) ⟨q,by rw[<- hq];grind⟩
theorem Cop.right{a b:Int}(h:Cop (a*b) n):Cop b n:=Cop.left (a:=b) (b:=a) (by rw[Xl];exact h)
theorem Cop.nz{a x:Int}(_h0:0<n)(h:Cop a n)(hx:1<=x∧x<=n/2):(a*x)%n≠0:=by
 intro e;obtain⟨b,q,hq⟩:=h.inv;obtain⟨p,hp⟩:=Wr e;have:n∣x:=⟨b*p-q*x,by
  have e1:a*b*x-n*q*x=x:=by(have:a*b=1+n*q:=by omega);rw[this];grind
  have e2:a*b*x=b*(n*p):=by rw[<- hp];grind
  rw[<- e1,e2];grind⟩
 have:=WJ (by omega) this;omega
theorem gL{a b:Int}(h:n∣a-b)(hb:Cop a n):Cop b n:=by
 obtain⟨x,q,hq⟩:=hb.inv;obtain⟨p,hp⟩:=h;refine Cop.of_inv (b:=x) ⟨q-p*x,?_⟩;have e:b=a-n*p:=by omega
 rw[e];have e2:a*x=1+n*q:=by omega
 have:(a-n*p)*x=a*x-n*(p*x):=by grind
 rw[this,e2];grind
theorem Au(h0:0<n)(ho:n%2=1){b:Int}(hb:Cop b n):((rg n).map fun x=>abR n (b*x)).Perm (rg n):=by
 have inj:∀ x y,1<=x∧x<=n/2->1<=y∧y<=n/2->abR n (b*x)=abR n (b*y)->x=y:=by
  intro x y hx hy e;obtain⟨c,q,hq⟩:=hb.inv;have h1:=rB (n:=n) (b*x);have h2:=rB (n:=n) (b*y);rw[<- e]at h2;generalize abR n (b*x)=w at h1 h2;have h3:n∣x-y∨n∣x+y:=by
   have cx:∀ z,n∣b*z->n∣z:=fun z ⟨p,hp⟩=>⟨c*p-q*z,by
    have e1:b*c*z-n*q*z=z:=by(have:b*c=1+n*q:=by omega);rw[this];grind
    have e2:b*c*z=c*(n*p):=by rw[<- hp];grind
    rw[<- e1,e2];grind⟩
   rcases mL (n:=n) (b*x)with s1|s1 <;> rcases mL (n:=n) (b*y)with s2|s2 <;> rw[s1]at h1 <;> rw[s2]at h2
   ·left;refine cx _ ?_;have:=VT h1 h2;have e:b*x-1*w-(b*y-1*w)=b*(x-y):=by grind
    rwa [e]at this
   ·right;refine cx _ ?_;have:=V6 h1 h2;have e:b*x-1*w+(b*y - -1*w)=b*(x+y):=by grind
    rwa [e]at this
   ·right;refine cx _ ?_;have:=V6 h1 h2;have e:b*x - -1*w+(b*y-1*w)=b*(x+y):=by grind
    rwa [e]at this
   left;refine cx _ ?_;have:=VT h1 h2;have e:b*x - -1*w-(b*y - -1*w)=b*(x-y):=by grind
   rwa [e]at this
  rcases h3 with⟨p,hp⟩|⟨p,hp⟩
  ·have:p=0:=by
    rcases(show p<=-1∨p=0∨1<=p by omega)with g|g|g
    ·have:n*p<=n*(-1):=Up g (by omega);omega
    ·exact g
    have:n*1<=n*p:=Up g (by omega);omega
   subst this;omega
  exfalso;rcases(show p<=0∨1<=p by omega)with g|g
  ·have:n*p<=n*0:=Up g (by omega);omega
  have:n*1<=n*p:=Up g (by omega);omega
 refine(Xr ?_ (vM n)).2 (fun y=>?_)
 ·unfold List.Nodup;rw[List.pairwise_map];refine List.Pairwise.imp_of_mem (R:=(· ≠ ·)) (fun{x y} hx hy h e=>h ?_) (vM n);exact inj x y ((gK h0).1 hx) ((gK h0).1 hy) e
 rw[UO,gK h0];constructor
 ·rintro⟨x,hx,rfl⟩;exact vj h0 (hb.nz h0 ((gK h0).1 hx))
 intro hy;obtain⟨c,hc⟩:=hb.inv;have hcc:Cop c n:=Cop.of_inv (b:=b) (by rw[Xl];exact hc);have hz:=hcc.nz h0 hy;have hx:=vj h0 hz;refine⟨abR n (c*y),(gK h0).2 hx,?_⟩;have h1:=rB (n:=n) (c*y);have h2:=rB (n:=n) (b*abR n (c*y));have h3:=vj h0 (hb.nz h0 hx);generalize abR n (c*y)=x at *;generalize abR n (b*x)=w at *;have key:n∣y-w∨n∣y+w:=by
  obtain⟨p,hp⟩:=h1;obtain⟨q,hq⟩:=h2;obtain⟨r,hr⟩:=hc;rcases mL (n:=n) (c*y)with s1|s1 <;> rcases mL (n:=n) (b*x)with s2|s2 <;> rw[s1]at hp <;> rw[s2]at hq
  ·left;refine⟨b*p+q-r*y,?_⟩;have e:y=b*c*y-n*r*y:=by(have:b*c=1+n*r:=by omega);rw[this];grind
   have e2:b*c*y=b*(n*p+x):=by(have:c*y=n*p+x:=by omega);rw[UG,this]
   grind
  ·right;refine⟨b*p+q-r*y,?_⟩;have e:y=b*c*y-n*r*y:=by(have:b*c=1+n*r:=by omega);rw[this];grind
   have e2:b*c*y=b*(n*p+x):=by(have:c*y=n*p+x:=by omega);rw[UG,this]
   grind
  ·right;refine⟨b*p-q-r*y,?_⟩;have e:y=b*c*y-n*r*y:=by(have:b*c=1+n*r:=by omega);rw[this];grind
   have e2:b*c*y=b*(n*p-x):=by(have:c*y=n*p-x:=by omega);rw[UG,this]
   grind
  left;refine⟨b*p-q-r*y,?_⟩;have e:y=b*c*y-n*r*y:=by(have:b*c=1+n*r:=by omega);rw[this];grind
  have e2:b*c*y=b*(n*p-x):=by(have:c*y=n*p-x:=by omega);rw[UG,this]
  grind
 rcases key with⟨p,hp⟩|⟨p,hp⟩
 ·rcases(show p<=-1∨p=0∨1<=p by omega)with g|g|g
  ·have:n*p<=n*(-1):=Up g (by omega);omega
  ·subst g;omega
  have:n*1<=n*p:=Up g (by omega);omega
 exfalso;rcases(show p<=0∨1<=p by omega)with g|g
 ·have:n*p<=n*0:=Up g (by omega);omega
 have:n*1<=n*p:=Up g (by omega);omega
theorem D5(h0:0<n)(ho:n%2=1){a b:Int}(ha:Cop a n)(hb:Cop b n):SS (a*b) n=SS a n*SS b n:=by
 have e:(rg n).map (fun x=>sgR n (a*b*x))=(rg n).map (fun x=>sgR n (a*abR n (b*x))*sgR n (b*x)):=by
  refine Vy (fun x hx=>?_);have hx:=(gK h0).1 hx;have h1:=rB (n:=n) (b*x);have h2:=vj h0 (hb.nz h0 hx);have h3:=ha.nz h0 h2;obtain⟨q,hq⟩:=h1;rcases mL (n:=n) (b*x)with s|s
  ·rw[s]at hq ⊢;rw[WO];refine oe ⟨a*q,?_⟩;have:b*x=n*q+abR n (b*x):=by omega
   rw[UG,this];grind
  rw[s]at hq ⊢;rw[VO,WO,<- JE h0 ho h3];refine oe ⟨a*q,?_⟩;have:b*x=n*q-abR n (b*x):=by omega
  rw[UG,this];grind
 unfold SS;rw[e,tV]
 congr 1
 have hp:=(Au h0 ho hb).map (fun y=>sgR n (a*y));rw[VS]at hp;exact AZ hp
theorem ri{a b:Int}(h:n∣a-b):SS a n=SS b n:=by
 unfold SS
 congr 1
 refine Vy (fun x _=>oe ?_);have:a*x-b*x=(a-b)*x:=by grind
 rw[this];exact gx h x
theorem Ir(a:Int):SS a n=1∨SS a n=-1:=by
 unfold SS;induction rg n with
 |nil=>exact .inl rfl
 |cons x l ih =>
  simp only[List.map_cons,gQ];rcases mL (n:=n) (a*x)with h|h <;> rcases ih with g|g <;> rw[h,g] <;> simp
end
theorem dx{α:Type}{f g:α->Int}:∀ {l:List α},(∀ x∈l,f x=g x)->bj (l.map f)=bj (l.map g)
 | [],_=>rfl
 |x::l,h=>by
  simp only[List.map_cons,bj];rw[h x Vs,dx (fun y hy=>h y (Vv _ hy))]
theorem oa{α:Type}:∀ l:List α,bj (l.map fun _=>(0:Int))=0
 | []=>rfl
 |x::l=>by simp only[List.map_cons,bj,oa l];rfl
theorem tL{α β:Type}(f:α->β->Int)(m:List β):∀ l:List α,bj (l.map fun x=>bj (m.map fun y=>f x y))=bj (m.map fun y=>bj (l.map fun x=>f x y))
 | []=>by simp only[List.map_nil,bj];exact(oa m).symm
 |x::l=>by
  simp only[List.map_cons,bj];rw[tL f m l,<- jg]
theorem vy{α:Type}{f g:α->Int}:∀ {l:List α},(∀ x∈l,(f x-g x)%2=0)->(bj (l.map f)-bj (l.map g))%2=0
 | [],_=>rfl
 |x::l,h=>by
  simp only[List.map_cons,bj];have h1:=h x Vs;have h2:=vy (fun y hy=>h y (Vv _ hy));omega
def par(k:Int):Int:=if k%2=0 then 1 else -1
theorem zi(a b:Int):par (a+b)=par a*par b:=by
 unfold par;rcases(show a%2=0∨a%2=1 by omega)with h|h <;> rcases(show b%2=0∨b%2=1 by omega)with g|g
 ·rw[H2 (by omega),H2 h,H2 g];rfl
 ·rw[G2 (by omega),H2 h,G2 (by omega)];rfl
 ·rw[G2 (by omega),G2 (by omega),H2 g];rfl
 rw[H2 (by omega),G2 (by omega),G2 (by omega)];rfl
theorem tX{a b:Int}(h:(a-b)%2=0):par a=par b:=by
 unfold par;by_cases g:a%2=0
 ·rw[H2 g,H2 (by omega)]
 rw[G2 g,G2 (by omega)]
def up(n r:Int):Int:=if r%n<=n/2 then 0 else 1
theorem vX(n a:Int):∀ l:List Int,gQ (l.map fun x=>sgR n (a*x))=par (bj (l.map fun x=>up n (a*x)))
 | []=>rfl
 |x::l=>by
  simp only[List.map_cons,gQ,bj];rw[zi,vX n a l]
  congr 1
  unfold sgR up;split <;> rfl
section
variable {n:Int}
theorem D3(a n:Int):SS a n=par (bj ((rg n).map fun x=>up n (a*x))):=vX n a (rg n)
theorem H7(h0:0<n)(ho:n%2=1){a:Int}(ha:Cop a n) :
  (a*bj (rg n)-(bj ((rg n).map fun x=>a*x/n)+bj (rg n)+bj ((rg n).map fun x=>up n (a*x))))%2=0:=by
 have e1:a*bj (rg n)=bj ((rg n).map fun x=>a*x):=by
  rw[oc];simp
 have e2:bj ((rg n).map fun x=>abR n (a*x))=bj (rg n):=BX (Au h0 ho ha);rw[e1,<- e2,<- jg,<- jg];refine vy (fun x hx=>?_);have e:=UC (a*x) n;obtain⟨q,hq⟩:∃ q,n=2*q+1:=⟨n/2,by omega⟩
 unfold abR up;generalize a*x/n=w at *;generalize (a*x)%n=r at *;have e3:n*w=2*(q*w)+w:=by rw[hq];grind
 split <;> omega
theorem D4(h0:0<n)(ho:n%2=1){a:Int}(ha:Cop a n)(hao:a%2=1):SS a n=par (bj ((rg n).map fun x=>a*x/n)):=by
 rw[D3];refine tX ?_;have h:=H7 h0 ho ha;generalize bj (rg n)=S at *;generalize bj ((rg n).map fun x=>a*x/n)=F at *;generalize bj ((rg n).map fun x=>up n (a*x))=N at *;obtain⟨q,hq⟩:∃ q,a=2*q+1:=⟨a/2,by omega⟩
 have e3:a*S=2*(q*S)+S:=by rw[hq];grind
 omega
theorem BW:∀ k:Nat,2*bj ((List.range k).map fun(i:Nat)=>(i:Int)+1)=k*(k+1)
 |0=>rfl
 |k+1=>by
  rw[V7,Vj,WF,X8,tM,Int.mul_add,BW k];rw[show((k+1:Nat):Int)=(k:Int)+1 by omega];grind
theorem P9(h0:0<n)(ho:n%2=1):SS 2 n=sg8 n:=by
 have hc:Cop 2 n:=Cop.of_inv (b:=(n+1)/2) ⟨1,by omega⟩;rw[D3];have h:=H7 h0 ho hc;have z:bj ((rg n).map fun x=>2*x/n)=0:=by
  rw[dx (g:=fun _=>(0:Int)) (fun x hx=>?_),oa];have hx:=(gK h0).1 hx;exact Int.ediv_eq_zero_of_lt (by omega) (by omega)
 rw[z]at h;have hs:=BW (n/2).toNat;have hs':bj ((List.range (n/2).toNat).map fun(i:Nat)=>(i:Int)+1)=bj (rg n):=rfl;rw[hs']at hs;rw[W4 (by omega)]at hs;generalize bj ((rg n).map fun x=>up n (2*x))=N at *;generalize bj (rg n)=S at *;obtain⟨q,r,hq,hr0,hr⟩:∃ q r,n/2=4*q+r∧0<=r∧r<4:=⟨n/2/4,n/2%4,by omega,by omega,by omega⟩
 rw[hq]at hs;have e:(4*q+r)*(4*q+r+1)=8*(2*(q*q)+q*r)+4*q+r*(r+1):=by grind
 rw[e]at hs;have h8:n%8=2*r+1:=by omega
 unfold sg8 par;rw[h8];generalize q*q=qq at hs;generalize q*r=qr at hs;rcases(show r=0∨r=1∨r=2∨r=3 by omega)with rfl|rfl|rfl|rfl
 ·rw[H2 (by omega),H2 (by omega)]
 ·rw[G2 (by omega),G2 (by omega),H2 (by omega)]
 ·rw[G2 (by omega),G2 (by omega),G2 (by omega),H2 (by omega)]
 rw[H2 (by omega),G2 (by omega),G2 (by omega),G2 (by omega),H2 (by omega)]
theorem xK:∀ (k:Nat) (q:Int),0<=q->q<=k->bj ((List.range k).map fun(i:Nat)=>if(i:Int)+1<=q then(1:Int)else 0)=q
 |0,q,h,h1=>by simp[bj];omega
 |k+1,q,h,h1=>by
  rw[V7,Vj,WF,X8,tM];by_cases g:(k:Int)+1<=q
  ·have hq:q=(k:Int)+1:=by omega
   rw[H2 g];have:=xK k k (by omega) (by omega);have e:bj ((List.range k).map fun(i:Nat)=>if(i:Int)+1<=q then(1:Int)else 0)=bj ((List.range k).map fun(i:Nat)=>if(i:Int)+1<=(k:Int)then(1:Int)else 0) :=
    dx (fun x hx=>by rw[UW]at hx;rw[H2 (by omega),H2 (by omega)])
   rw[e,this];omega
  rw[G2 g,xK k q h (by omega)];omega
theorem xJ{m q:Int}(h0:0<m)(h:0<=q)(h1:q<=m/2):bj ((rg m).map fun y=>if y<=q then(1:Int)else 0)=q:=by
 have:=xK (m/2).toNat q h (by omega);unfold rg;rw[VS];exact this
theorem C2(m:Int)(h0:0<m):bj ((rg m).map fun _=>(1:Int))=m/2:=by
 have:=xJ (m:=m) (q:=m/2) h0 (by omega) (by omega);rw[<- this];exact dx (fun y hy=>by rw[H2 ((gK h0).1 hy).2])
theorem R7{m:Int}(h0:0<n)(ho:n%2=1)(m0:0<m)(mo:m%2=1)(hc:Cop m n) :
  bj ((rg n).map fun x=>m*x/n)+bj ((rg m).map fun y=>n*y/m)=(m/2)*(n/2):=by
 have q1:∀ x∈rg n,m*x/n=bj ((rg m).map fun y=>if n*y<=m*x then(1:Int)else 0):=fun x hx=>by
  have hx:=(gK h0).1 hx;have b0:0<=m*x/n:=Xj (Vd (by omega) (by omega)) (by omega);have b1:m*x/n<=m/2:=by
   have h2:m*x<=m*(n/2):=Up hx.2 (by omega);have h3:m*x/n*n<=m*x:=Int.ediv_mul_le _ (by omega);generalize m*x/n=w at *;rcases UY (m/2) w with g|g
   ·exfalso;have h4:(m/2+1)*n<=w*n:=UM g (by omega);obtain⟨a,ha⟩:∃ a,m=2*a+1:=⟨m/2,by omega⟩
    obtain⟨b,hb⟩:∃ b,n=2*b+1:=⟨n/2,by omega⟩
    rw[show m/2=a by omega]at h4;rw[show n/2=b by omega]at h2;have e1:(a+1)*n=a*n+n:=by grind
    have e2:m*b=2*(a*b)+b:=by rw[ha];grind
    have e3:a*n=2*(a*b)+a:=by rw[hb];grind
    omega
   exact g
  rw[<- xJ m0 b0 b1];refine dx (fun y _=>?_);have:y<=m*x/n↔n*y<=m*x:=by rw[Xa h0,Xl]
  by_cases g:y<=m*x/n
  ·rw[H2 g,H2 (this.1 g)]
  rw[G2 g,G2 (fun h=>g (this.2 h))]
 have q2:∀ y∈rg m,n*y/m=bj ((rg n).map fun x=>if m*x<=n*y then(1:Int)else 0):=fun y hy=>by
  have hy:=(gK m0).1 hy;have b0:0<=n*y/m:=Xj (Vd (by omega) (by omega)) (by omega);have b1:n*y/m<=n/2:=by
   have h2:n*y<=n*(m/2):=Up hy.2 (by omega);have h3:n*y/m*m<=n*y:=Int.ediv_mul_le _ (by omega);generalize n*y/m=w at *;rcases UY (n/2) w with g|g
   ·exfalso;have h4:(n/2+1)*m<=w*m:=UM g (by omega);obtain⟨a,ha⟩:∃ a,m=2*a+1:=⟨m/2,by omega⟩
    obtain⟨b,hb⟩:∃ b,n=2*b+1:=⟨n/2,by omega⟩
    rw[show n/2=b by omega]at h4;rw[show m/2=a by omega]at h2;have e1:(b+1)*m=b*m+m:=by grind
    have e2:n*a=2*(a*b)+a:=by rw[hb];grind
    have e3:b*m=2*(a*b)+b:=by rw[ha];grind
    omega
   exact g
  rw[<- xJ h0 b0 b1];refine dx (fun x _=>?_);have:x<=n*y/m↔m*x<=n*y:=by rw[Xa m0,Xl]
  by_cases g:x<=n*y/m
  ·rw[H2 g,H2 (this.1 g)]
  rw[G2 g,G2 (fun h=>g (this.2 h))]
 have sw:=tL (fun x y=>if m*x<=n*y then(1:Int)else 0) (rg m) (rg n);rw[dx q1,dx q2,<- sw,<- jg];have e:∀ x∈rg n,(bj ((rg m).map fun y=>if n*y<=m*x then(1:Int)else 0)+bj ((rg m).map fun y=>if m*x<=n*y then(1:Int)else 0))=m/2:=fun x hx=>by
  have hx:=(gK h0).1 hx;rw[<- jg,<- C2 m m0];refine dx (fun y hy=>?_);have hne:m*x≠n*y:=fun e=>hc.nz h0 hx (by rw[e];exact Int.mul_emod_right n y)
  by_cases g:n*y<=m*x
  ·rw[H2 g,G2 (by omega)];rfl
  rw[G2 g,H2 (by omega)];rfl
 rw[dx e];have:bj ((rg n).map fun _=>m/2)=bj ((rg n).map fun x=>m/2*(fun _=>(1:Int)) x):=dx (fun _ _=>by simp);rw[this,oc,C2 n h0]
theorem Qa{m:Int}(h0:0<n)(ho:n%2=1)(m0:0<m)(mo:m%2=1)(hc:Cop m n):SS m n=(if m%4=3∧n%4=3 then -1 else 1)*SS n m:=by
 have hc':Cop n m:=by unfold Cop at hc ⊢;rw[XI];exact hc
 rw[D4 h0 ho hc mo,D4 m0 mo hc' ho];have h:=R7 h0 ho m0 mo hc;generalize bj ((rg n).map fun x=>m*x/n)=A at *;generalize bj ((rg m).map fun y=>n*y/m)=B at *;have e:par A=par (m/2*(n/2))*par B:=by
  rw[<- zi];refine tX ?_;omega
 rw[e]
 congr 1
 obtain⟨a,r,ha,hr0,hr⟩:∃ a r,m/2=2*a+r∧0<=r∧r<2:=⟨m/2/2,m/2%2,by omega,by omega,by omega⟩
 obtain⟨b,t,hb,ht0,ht⟩:∃ b t,n/2=2*b+t∧0<=t∧t<2:=⟨n/2/2,n/2%2,by omega,by omega,by omega⟩
 have e2:m/2*(n/2)=2*(2*(a*b)+a*t+r*b)+r*t:=by rw[ha,hb];grind
 rw[e2];unfold par;rcases(show r=0∨r=1 by omega)with rfl|rfl <;> rcases(show t=0∨t=1 by omega)with rfl|rfl
 ·rw[H2 (by omega),G2 (by omega)]
 ·rw[H2 (by omega),G2 (by omega)]
 ·rw[H2 (by omega),G2 (by omega)]
 rw[G2 (by omega),H2 (by omega)]
theorem tv(ho:n%2=1):Cop 2 n:=Cop.of_inv (b:=(n+1)/2) ⟨1,by omega⟩
theorem z7{a:Int}(h:cV a=false):a%2=0:=by
 have:¬ a%2=1:=fun e=>by unfold cV at h;rw[e]at h;cases h
 omega
theorem vu(_h0:0<n)(ho:n%2=1):∀ (B:Nat) (a:Int),a.natAbs<=B->0<a->(Cop a n↔Cop (tw a).1 n)
 |0,a,h,h1=>by omega
 |B+1,a,h,h1=>by
  cases g:cV a
  ·have h2:=z7 g;rw[mE (by omega) g];simp only;rw[<- vu _h0 ho B (a/2) (by omega) (by omega)];have e:a=2*(a/2):=by omega
   constructor
   ·intro c;rw[e]at c;exact c.right
   intro c;rw[e];exact(tv ho).mul c
  rw[lr g]
theorem JF{a:Int}(h:a%2=1):sg8 a*sg8 a=1:=by
 unfold sg8;rcases(show a%8=1∨a%8=3∨a%8=5∨a%8=7 by omega)with e|e|e|e <;> rw[e] <;> decide
theorem HN(h0:0<n)(ho:n%2=1):∀ (B:Nat) (a:Int),a.natAbs<=B->0<a->Cop (tw a).1 n->SS a n=(if(tw a).2%2=1 then sg8 n else 1)*SS (tw a).1 n
 |0,a,h,h1,_=>by omega
 |B+1,a,h,h1,c=>by
  cases g:cV a
  ·have h2:=z7 g;rw[mE (by omega) g]at c ⊢;simp only at c ⊢;have ih:=HN h0 ho B (a/2) (by omega) (by omega) c;have hc:=(vu h0 ho _ (a/2) (Iv _) (by omega)).2 c;have e:SS a n=SS 2 n*SS (a/2) n:=by
    rw[<- D5 h0 ho (tv ho) hc,show 2*(a/2)=a by omega]
   rw[e,P9 h0 ho,ih,<- UG]
   congr 1
   have hs:=JF ho;have hp:=(iE _ (a/2) (Iv _) (by omega)).2.2.2.1;by_cases w:(tw (a/2)).2%2=1
   ·rw[H2 w,G2 (by omega),hs]
   rw[G2 w,H2 (by omega)];omega
  rw[lr g,G2 (by simp)];simp
theorem zK:∀ (F:Nat) (k a n:Int),a.natAbs<F->0<=a->0<n->n%2=1->(if(jV F k a n).2=1 then(jV F k a n).1 else 0)=if Cop a n then k*SS a n else 0
 |0,k,a,n,h,_,_,_=>by omega
 |F+1,k,a,n,h,ha,hn,ho=>by
  rw[jV];by_cases h0:0<a
  ·rw[H2 h0];simp only;have ht:=iE _ a (Iv _) (by omega);have hp:=ht.2.2.2.2.2 h0;have hodd:(tw a).1%2=1:=dT0 ht.2.2.1;have hm:=UF n (show(tw a).1≠0 by omega);have hl:=UK n hp;rw[zK F _ (n%(tw a).1) (tw a).1 (by omega) hm hp hodd];have hs:=HN hn ho (a.natAbs) a (Iv _) h0;have hcop:Cop a n↔Cop (tw a).1 n:=vu hn ho (a.natAbs) a (Iv _) h0;have hcc:Cop (n%(tw a).1) (tw a).1↔Cop (tw a).1 n:=by
    have e:=UC n (tw a).1;constructor
    ·intro g;exact(gL (n:=(tw a).1) (a:=n%(tw a).1) (b:=n) ⟨-(n/(tw a).1),by rw[VO];omega⟩ g).symm
    intro g;exact gL (n:=(tw a).1) (a:=n) (b:=n%(tw a).1) ⟨n/(tw a).1,by omega⟩ g.symm
   by_cases c:Cop (tw a).1 n
   ·rw[H2 (hcc.2 c),H2 (hcop.2 c),hs c,Qa hn ho hp hodd c];have e:SS (n%(tw a).1) (tw a).1=SS n (tw a).1:=ri ⟨-(n/(tw a).1),by
     have:=UC n (tw a).1;rw[VO];omega⟩
    rw[e];by_cases g:(tw a).1%4=3∧n%4=3 <;> by_cases w:(tw a).2%2=1 <;> simp only[g,w,if_true,if_false,and_self] <;> grind
   rw[G2 (fun g=>c (hcc.1 g)),G2 (fun g=>c (hcop.1 g))]
  rw[G2 h0];have:a=0:=by omega
  subst this;simp only;by_cases g:n=1
  ·subst g;rw[H2 rfl,H2 (by unfold Cop;decide)];have:SS 0 1=1:=by decide
   rw[this];omega
  rw[G2 g,G2 (fun c=>g (by unfold Cop at c;rw[Int.gcd_zero_left]at c;omega))]
theorem Ai(n a:Int):Cop (a%n) n↔Cop a n:=by
 have e:=UC a n;constructor
 ·intro g;exact gL (n:=n) (a:=a%n) (b:=a) ⟨-(a/n),by rw[VO];omega⟩ g
 intro g;exact gL (n:=n) (a:=a) (b:=a%n) ⟨a/n,by omega⟩ g
theorem Qb(n a:Int):SS (a%n) n=SS a n:=ri ⟨-(a/n),by
 have:=UC a n;rw[VO];omega⟩
theorem nD{a:Int}(hn:0<n)(ho:n%2=1):kr a n=if Cop a n then SS a n else 0:=by
 have hob:cV n=true:=G6 ho;have ea:((n.natAbs:Nat):Int)=n:=by omega
 have hk:k1K a n=1:=by unfold k1K k0K;rw[ea,lr hob,G2 (by simp),G2 (by omega)]
 rw[vd (by omega) (by rw[hob];simp)];unfold RK_;rw[ea,lr hob,hk];have h:=zK (a%n).natAbs.succ 1 (a%n) n (Nat.lt_succ_self _) (UF a (by omega)) hn ho;rw[WP,Qb]at h;by_cases c:Cop a n
 ·rw[H2 ((Ai n a).2 c)]at h;rw[H2 c];exact h
 rw[G2 (fun g=>c ((Ai n a).1 g))]at h;rw[G2 c];exact h
theorem pP{a b:Int}(hn:0<n)(ho:n%2=1):kr (a*b) n=kr a n*kr b n:=by
 rw[nD hn ho,nD hn ho,nD hn ho];by_cases ca:Cop a n
 ·by_cases cb:Cop b n
  ·rw[H2 ca,H2 cb,H2 (ca.mul cb),D5 hn ho ca cb]
  rw[G2 cb,G2 (fun c=>cb c.right),Int.mul_zero]
 rw[G2 ca,G2 (fun c=>ca c.left),Int.zero_mul]
theorem C7{a b:Int}(hn:0<n)(ho:n%2=1)(h:n∣a-b):kr a n=kr b n:=by
 have h':n∣b-a:=by obtain⟨q,hq⟩:=h;exact⟨-q,by rw[VO];omega⟩
 rw[nD hn ho,nD hn ho,ri h];by_cases c:Cop a n
 ·rw[H2 c,H2 (gL h c)]
 rw[G2 c,G2 (fun g=>c (gL h' g))]
theorem C6{a:Int}(hn:0<n)(ho:n%2=1)(c:Cop a n):kr (a*a) n=1:=by
 rw[pP hn ho,nD hn ho,H2 c];rcases Ir (n:=n) a with h|h <;> rw[h] <;> rfl
end
def Pr(p:Nat):Prop:=2<=p∧∀ x y:Nat,p∣x*y->p∣x∨p∣y
theorem w9:∀ (B n:Nat),n<=B->2<=n->∃ p,Pr p∧p∣n
 |0,n,h,h2=>by omega
 |B+1,n,h,h2=>by
  by_cases hd:∃ d,2<=d∧d<n∧d∣n
  ·obtain⟨d,d2,dn,hdn⟩:=hd;obtain⟨p,hp,hpd⟩:=w9 B d (by omega) d2;exact⟨p,hp,XM hpd hdn⟩
  refine⟨n,⟨h2,fun x y hxy=>?_⟩,Nat.dvd_refl n⟩;have hg:=WD n x;have hle:=Wf (by omega) hg;have h0:Nat.gcd n x≠0:=fun e=>by rw[e]at hg;have:=XN hg;omega
  rcases(show Nat.gcd n x=1∨Nat.gcd n x=n∨(2<=Nat.gcd n x∧Nat.gcd n x<n) by omega)with e|e|e
  ·exact .inr (Nat.Coprime.dvd_of_dvd_mul_left e hxy)
  ·left;rw[<- e];exact Wc n x
  exact absurd ⟨_,e.1,e.2,hg⟩ hd
theorem NO{p n:Nat}(hp:Pr p)(h:¬ p∣n):Nat.Coprime n p:=by
 have hg:=Wc n p;obtain⟨q,hq⟩:=hg;rcases hp.2 (Nat.gcd n p) q ⟨1,by rw[<- hq];omega⟩with g|g
 ·exact absurd (XM g (WD n p)) h
 obtain⟨w,hw⟩:=g;have h1:p*1=p*(Nat.gcd n p*w):=by
  have:Nat.gcd n p*q=p*(Nat.gcd n p*w):=by rw[hw];grind
  omega
 have h2:=Wg (show 0<p by have:=hp.1;omega) h1;exact Nat.eq_one_of_mul_eq_one_right h2.symm
theorem vD{p:Nat}(hp:Pr p):∀ (B a:Nat),a<=B->1<=a->∃ k m,a=p^k*m∧¬ p∣m∧1<=m∧(p∣a->p*m<=a)
 |0,a,h,h1=>by omega
 |B+1,a,h,h1=>by
  by_cases hd:p∣a
  ·obtain⟨b,rfl⟩:=hd;have hb:1<=b:=by
    rcases UI b with e|e
    ·subst e;simp at h1
    exact e
   have h2:2*b<=p*b:=Uy b hp.1;obtain⟨k,m,e,hm,m1,_⟩:=vD hp B b (by omega) hb;refine⟨k+1,m,by rw[e,Vk];grind,hm,m1,fun _=>UD p ?_⟩;rw[e];have:1<=p^k:=Nat.pow_pos (by have:=hp.1;omega);have:1*m<=p^k*m:=Uy m this;omega
  exact⟨0,a,by simp,hd,h1,fun x=>absurd x hd⟩
section
variable {A B C:Int}
theorem Tf{p:Nat}(hp:Pr p)(pf:prim A B C=true){m:Nat}(hm:¬ p∣m)(x y:Int):∃ i j:Nat,i<=2∧j<=2∧¬ (p:Int)∣vl A B C (x+m*i) (y+m*j):=by
 by_cases h:∃ i j:Nat,i<=2∧j<=2∧¬ (p:Int)∣vl A B C (x+m*i) (y+m*j)
 ·exact h
 exfalso;have all:∀ i j:Nat,i<=2->j<=2->(p:Int)∣vl A B C (x+m*i) (y+m*j):=fun i j hi hj=>by
  by_cases g:(p:Int)∣vl A B C (x+m*i) (y+m*j)
  ·exact g
  exact absurd ⟨i,j,hi,hj,g⟩ h
 have eu:∀ u v:Int,(p:Int)∣u*v->(p:Int)∣u∨(p:Int)∣v:=fun u v h=>by
  have h1:=WG.2 h;rw[VZ,Wl]at h1;rcases hp.2 _ _ h1 with g|g
  ·exact .inl (WL.2 g)
  exact .inr (WL.2 g)
 have nm:¬ (p:Int)∣(m:Int):=fun h=>hm (Int.natCast_dvd_natCast.1 h)
 have a00:=all 0 0 (by omega) (by omega);have a10:=all 1 0 (by omega) (by omega);have a20:=all 2 0 (by omega) (by omega);have a01:=all 0 1 (by omega) (by omega);have a02:=all 0 2 (by omega) (by omega);have a11:=all 1 1 (by omega) (by omega);have a21:=all 2 1 (by omega) (by omega);have a12:=all 1 2 (by omega) (by omega);have hB:(p:Int)∣B:=by
  have h1:=V6 (VT (VT a11 a10) a01) a00;have e:vl A B C (x+m*(1:Nat)) (y+m*(1:Nat))-vl A B C (x+m*(1:Nat)) (y+m*(0:Nat))-vl A B C (x+m*(0:Nat)) (y+m*(1:Nat))+vl A B C (x+m*(0:Nat)) (y+m*(0:Nat))=B*(m*m):=by
   unfold vl;simp;grind
  rw[e]at h1;rcases eu _ _ h1 with g|g
  ·exact g
  rcases eu _ _ g with g|g <;> exact absurd g nm
 have d1:∀ i j:Nat,i<=1->j<=2->(p:Int)∣A*(2*(x+m*i)+m):=fun i j hi hj=>by
  have h1:=VT (all (i+1) 0 (by omega) (by omega)) (all i 0 (by omega) (by omega));have e:vl A B C (x+m*((i+1:Nat):Int)) (y+m*(0:Nat))-vl A B C (x+m*(i:Int)) (y+m*(0:Nat))=m*(A*(2*(x+m*i)+m))+B*(m*y):=by
   unfold vl;simp;grind
  rw[e]at h1;have h2:=VT h1 (gx hB (m*y));rw[Int.add_sub_cancel]at h2;rcases eu _ _ h2 with g|g
  ·exact absurd g nm
  exact g
 have d2:∀ j:Nat,j<=1->(p:Int)∣C*(2*(y+m*j)+m):=fun j hj=>by
  have h1:=VT (all 0 (j+1) (by omega) (by omega)) (all 0 j (by omega) (by omega));have e:vl A B C (x+m*(0:Nat)) (y+m*((j+1:Nat):Int))-vl A B C (x+m*(0:Nat)) (y+m*(j:Int))=m*(C*(2*(y+m*j)+m))+B*(m*x):=by
   unfold vl;simp;grind
  rw[e]at h1;have h2:=VT h1 (gx hB (m*x));rw[Int.add_sub_cancel]at h2;rcases eu _ _ h2 with g|g
  ·exact absurd g nm
  exact g
 have fin:∀ (T z:Int),(p:Int)∣T*(2*(z+m*(0:Nat))+m)->(p:Int)∣T*(2*(z+m*(1:Nat))+m)->(p:Int)∣T:=fun T z h0 h1=>by
  by_cases hT:(p:Int)∣T
  ·exact hT
  exfalso;have g0:=(eu _ _ h0).resolve_left hT;have g1:=(eu _ _ h1).resolve_left hT;have g2:=VT g1 g0;have e:2*(z+m*((1:Nat):Int))+m-(2*(z+m*((0:Nat):Int))+m)=2*(m:Int):=by simp;omega
  rw[e]at g2;have p2:=(eu _ _ g2).resolve_right nm;have g3:=VT g0 (gx p2 (z+m*(0:Nat)));have e2:2*(z+m*((0:Nat):Int))+m-2*(z+m*((0:Nat):Int))=(m:Int):=by omega
  rw[e2]at g3;exact nm g3
 have hA:=fin A x (d1 0 0 (by omega) (by omega)) (d1 1 0 (by omega) (by omega));have hC:=fin C y (d2 0 (by omega)) (d2 1 (by omega));have h:=Xi hA (Xi hB hC);unfold prim at pf;rw[dT0 pf]at h;have:=WJ (by omega) h;have:=hp.1;omega
theorem Eg{m:Int}(x y i j:Int):m∣vl A B C (x+m*i) (y+m*j)-vl A B C x y :=
 ⟨A*(2*x*i+m*i*i)+B*(x*j+i*y+m*i*j)+C*(2*y*j+m*j*j),by unfold vl;grind⟩
theorem xC{p:Nat}(hp:Pr p)(pf:prim A B C=true){a:Nat}(h1:1<=a)(hpa:p∣a)(ih:∀ m,1<=m->m<a->∃ x y:Nat,Nat.Coprime (vl A B C x y).natAbs m∧x+y<=4*m) :
  ∃ x y:Nat,Nat.Coprime (vl A B C x y).natAbs a∧p*(x+y)<=8*a:=by
 obtain⟨k,m,e,hm,m1,hle⟩:=vD hp a a (Iv a) h1;have hle:=hle hpa;have hp2:=hp.1;have hlt:m<a:=by
  have:2*m<=p*m:=Uy m hp2;omega
 obtain⟨x,y,hc,hb⟩:=ih m m1 hlt;obtain⟨i,j,hi,hj,hv⟩:=Tf hp pf hm (x:Int) (y:Int);have mi:m*i<=m*2:=UD m hi;have mj:m*j<=m*2:=UD m hj;refine⟨x+m*i,y+m*j,?_,?_⟩
 ·have ex:((x+m*i:Nat):Int)=(x:Int)+m*i:=by rw[WS,V5]
  have ey:((y+m*j:Nat):Int)=(y:Int)+m*j:=by rw[WS,V5]
  rw[ex,ey];have c1:Nat.Coprime (vl A B C ((x:Int)+m*i) (y+m*j)).natAbs m:=by
   have hg:=Eg (A:=A) (B:=B) (C:=C) (m:=(m:Int)) (x:Int) (y:Int) i j;generalize vl A B C ((x:Int)+m*i) (y+m*j)=V at *;generalize vl A B C (x:Int) (y:Int)=W at *;have d1:=WD V.natAbs m;have d2:=Wc V.natAbs m;have d3:((Nat.gcd V.natAbs m:Nat):Int)∣W:=by
    have e1:((Nat.gcd V.natAbs m:Nat):Int)∣V:=WL.2 d1;have e2:((Nat.gcd V.natAbs m:Nat):Int)∣(m:Int):=Int.natCast_dvd_natCast.2 d2;have e3:=VT e1 (Vr e2 hg);have:V-(V-W)=W:=by omega
    rwa [this]at e3
   have d4:=Nat.dvd_gcd (WL.1 d3) d2;unfold Nat.Coprime at hc ⊢;rw[hc]at d4;exact Nat.eq_one_of_dvd_one d4
  have c2:Nat.Coprime (vl A B C ((x:Int)+m*i) (y+m*j)).natAbs p:=NO hp (fun h=>hv (WL.2 h));rw[e];exact Nat.Coprime.mul_right (Nat.Coprime.pow_right k c2) c1
 have:p*(x+m*i+(y+m*j))<=p*(8*m):=UD p (by omega);have e2:p*(8*m)=8*(p*m):=Vx ..;omega
theorem qf(pf:prim A B C=true):∀ (n a:Nat),a<=n->1<=a->∃ x y:Nat,Nat.Coprime (vl A B C x y).natAbs a∧x+y<=4*a
 |0,a,h,h1=>by omega
 |n+1,a,h,h1=>by
  by_cases h2:a=1
  ·subst h2;exact⟨0,0,Nat.coprime_one_right _,by omega⟩
  obtain⟨p,hp,hpa⟩:=w9 a a (Iv a) (by omega);obtain⟨x,y,hc,hb⟩:=xC hp pf h1 hpa (fun m m1 hm=>qf pf n m (by omega) m1);refine⟨x,y,hc,?_⟩;have:2*(x+y)<=p*(x+y):=Uy _ hp.1;omega
theorem Fq{q:Nat}(hq:Pr q)(h:q<=16):q∣30030:=by
 have h2:=hq.1;rcases(show q=2∨q=3∨q=4∨q=5∨q=6∨q=7∨q=8∨q=9∨q=10∨q=11∨q=12∨q=13∨q=14∨q=15∨q=16 by omega)with rfl|rfl|rfl|rfl|rfl|rfl|rfl|rfl|rfl|rfl|rfl|rfl|rfl|rfl|rfl
 ·decide
 ·decide
 ·rcases hq.2 2 2 (by decide)with g|g <;> revert g <;> decide
 ·decide
 ·rcases hq.2 2 3 (by decide)with g|g <;> revert g <;> decide
 ·decide
 ·rcases hq.2 2 4 (by decide)with g|g <;> revert g <;> decide
 ·rcases hq.2 3 3 (by decide)with g|g <;> revert g <;> decide
 ·rcases hq.2 2 5 (by decide)with g|g <;> revert g <;> decide
 ·decide
 ·rcases hq.2 3 4 (by decide)with g|g <;> revert g <;> decide
 ·decide
 ·rcases hq.2 2 7 (by decide)with g|g <;> revert g <;> decide
 ·rcases hq.2 3 5 (by decide)with g|g <;> revert g <;> decide
 rcases hq.2 4 4 (by decide)with g|g <;> revert g <;> decide
theorem Kf{u v:Nat}(hv:1<=v)(h:¬ Nat.Coprime u v):∃ q,Pr q∧q∣u∧q∣v:=by
 have h0:Nat.gcd u v≠0:=fun e=>by
  have hg:=Wc u v;rw[e]at hg;have:=XN hg;omega
 obtain⟨q,hq,hd⟩:=w9 (Nat.gcd u v) (Nat.gcd u v) (Iv _) (by unfold Nat.Coprime at h;omega);exact⟨q,hq,XM hd (WD u v),XM hd (Wc u v)⟩
theorem Pt(pf:prim A B C=true){a:Nat}(h1:1<=a)(h2:a<18446744073709551616):∃ x y:Nat,Nat.Coprime (vl A B C x y).natAbs a∧x+y<=9000000000000000000:=by
 by_cases h:∃ p,Pr p∧p∣a∧17<=p
 ·obtain⟨p,hp,hpa,h17⟩:=h;obtain⟨x,y,hc,hb⟩:=xC hp pf h1 hpa (fun m m1 _=>qf pf m m (Iv m) m1);refine⟨x,y,hc,?_⟩;have:17*(x+y)<=p*(x+y):=Uy _ h17;omega
 obtain⟨x,y,hc,hb⟩:=qf pf 30030 30030 (by omega) (by omega);refine⟨x,y,?_,by omega⟩;by_cases g:Nat.Coprime (vl A B C x y).natAbs a
 ·exact g
 exfalso;obtain⟨q,hq,d1,d2⟩:=Kf h1 g;have h16:q<=16:=by
  rcases Ut 16 q with g|g
  ·exact absurd ⟨q,hq,d2,g⟩ h
  exact g
 have d3:=Nat.dvd_gcd d1 (Fq hq h16);rw[hc]at d3;have:=Wf (by omega) d3;have:=hq.1;omega
theorem Ef(g x y:Int):vl A B C (g*x) (g*y)=g*g*vl A B C x y:=by unfold vl;grind
theorem GI(pf:prim A B C=true){a:Nat}(h1:1<=a)(h2:a<18446744073709551616):∃ x y:Nat,Nat.gcd x y=1∧Nat.Coprime (vl A B C x y).natAbs a∧1<=x+y∧x+y<=9000000000000000000:=by
 obtain⟨x,y,hc,hb⟩:=Pt pf h1 h2;by_cases h0:x=0∧y=0
 ·obtain⟨rfl,rfl⟩:=h0;have e:vl A B C ((0:Nat):Int) ((0:Nat):Int)=0:=by unfold vl;simp
  rw[e]at hc;have ha:a=1:=by unfold Nat.Coprime at hc;simpa using hc
  subst ha;exact⟨1,0,rfl,Nat.coprime_one_right _,by omega,by omega⟩
 obtain⟨u,hu⟩:=WD x y;obtain⟨v,hv⟩:=Wc x y;have hg:0<Nat.gcd x y:=by
  rcases UI (Nat.gcd x y)with e|e
  ·have:=Nat.eq_zero_of_gcd_eq_zero_left e;have:=Nat.eq_zero_of_gcd_eq_zero_right e;omega
  exact e
 have hcop:Nat.gcd u v=1:=by
  have:Nat.gcd x y*Nat.gcd u v=Nat.gcd x y*1:=by
   rw[<- Nat.gcd_mul_left,<- hu,<- hv,VK]
  exact Wg hg this
 generalize Nat.gcd x y=g at *;have l1:1*u<=g*u:=Uy u hg;have l2:1*v<=g*v:=Uy v hg;refine⟨u,v,hcop,?_,?_,by omega⟩
 ·subst hu hv;rw[V5,V5,Ef,VZ]at hc;exact Nat.Coprime.coprime_mul_left hc
 rcases UI (u+v)with e|e
 ·have:u=0:=by omega
  have:v=0:=by omega
  subst u v;simp at hcop
 exact e
end
def bzU(a b:Int):Int:=if b=0 then sgn a else(xg b.natAbs a b).1%(b/(Int.gcd a b:Nat))
def bzV(a b:Int):Int:=if b=0 then 0 else((Int.gcd a b:Nat)-bzU a b*a)/b
theorem jY{a b:Int}(hb:b≠0):(0:Int)<(Int.gcd a b:Nat):=by
 have h:=UX (a:=a) (b:=b);rcases UI (Int.gcd a b)with e|e
 ·rw[e]at h;exact absurd (XT.1 h) hb
 omega
theorem LQ{a b u v:Int}(hb:b≠0)(h1:b∣u*a-(Int.gcd a b:Nat))(h2:b∣v*a-(Int.gcd a b:Nat)):u%(b/(Int.gcd a b:Nat))=v%(b/(Int.gcd a b:Nat)):=by
 have g0:=jY (a:=a) hb;obtain⟨x,hx⟩:=U7 (a:=a) (b:=b);obtain⟨y,hy⟩:=UX (a:=a) (b:=b);have hxy:Int.gcd x y=1:=by
  have h:=Int.gcd_mul_left (Int.gcd a b:Nat) x y;rw[<- hx,<- hy,Wl]at h;exact(Wg (show 0<Int.gcd a b by omega) (by omega)).symm
 have hq:b/((Int.gcd a b:Nat):Int)=y:=by
  have:b=((Int.gcd a b:Nat):Int)*y:=hy;generalize ((Int.gcd a b:Nat):Int)=g at *;rw[this,U6 _ (by omega)]
 rw[hq];have h3:=VT h1 h2;have e:u*a-(Int.gcd a b:Nat)-(v*a-(Int.gcd a b:Nat))=(u-v)*a:=by grind
 rw[e]at h3;obtain⟨k,hk⟩:=h3;have h4:y∣(u-v)*x:=by
  refine⟨k,?_⟩;have e1:((Int.gcd a b:Nat):Int)*((u-v)*x)=((Int.gcd a b:Nat):Int)*(y*k):=by
   have l:((Int.gcd a b:Nat):Int)*((u-v)*x)=(u-v)*(((Int.gcd a b:Nat):Int)*x):=by grind
   rw[l,<- hx,hk];rw[<- UG,<- hy]
  exact U0 (by omega) e1
 have h5:y∣u-v:=by
  have h6:=WG.2 h4;rw[VZ]at h6;have hc:Nat.Coprime y.natAbs x.natAbs:=by
   unfold Nat.Coprime;rw[X7];exact hxy
  exact WG.1 (Nat.Coprime.dvd_of_dvd_mul_right hc h6)
 exact(Xv).2 (W2 h5)
theorem BO(a b:Int):b∣(xg b.natAbs a b).1*a-(Int.gcd a b:Nat) :=
 ⟨-(xg b.natAbs a b).2,by rw[<- uZ b.natAbs a b (Iv _)];grind⟩
theorem PP{a b u:Int}(hb:b≠0)(h:b∣u*a-(Int.gcd a b:Nat)):u%(b/(Int.gcd a b:Nat))=bzU a b:=by
 unfold bzU;rw[G2 hb];exact LQ hb h (BO a b)
theorem An{a b:Int}(hb:b≠0):b∣bzU a b*a-(Int.gcd a b:Nat):=by
 unfold bzU;rw[G2 hb];obtain⟨k,hk⟩:=BO a b;generalize (xg b.natAbs a b).1=u at *;obtain⟨x,hx⟩:=U7 (a:=a) (b:=b);obtain⟨y,hy⟩:=UX (a:=a) (b:=b);have g0:=jY (a:=a) hb;have hq:b/((Int.gcd a b:Nat):Int)=y:=by
  have:b=((Int.gcd a b:Nat):Int)*y:=hy;generalize ((Int.gcd a b:Nat):Int)=g at *;rw[this,U6 _ (by omega)]
 rw[hq];have e:=UC u y;refine⟨k-(u/y)*x,?_⟩;have e1:u%y=u-y*(u/y):=by omega
 rw[e1];generalize u/y=w at *;have e2:y*a=b*x:=by
  have l:y*a=((Int.gcd a b:Nat):Int)*(y*x):=by
   have:a=((Int.gcd a b:Nat):Int)*x:=hx;generalize ((Int.gcd a b:Nat):Int)=g at *;rw[this];grind
  rw[l,<- UG,<- hy]
 have e3:(u-y*w)*a-(Int.gcd a b:Nat)=(u*a-(Int.gcd a b:Nat))-w*(y*a):=by grind
 rw[e3,hk,e2];grind
theorem Ig(a b:Int):bzU a b*a+bzV a b*b=(Int.gcd a b:Nat):=by
 by_cases hb:b=0
 ·subst hb;unfold bzU bzV;rw[H2 rfl,WK];unfold sgn;split
  ·simp;omega
  split
  ·simp;omega
  simp;omega
 obtain⟨k,hk⟩:=An (a:=a) hb;unfold bzV;rw[G2 hb];have:((Int.gcd a b:Nat):Int)-bzU a b*a=b * -k:=by rw[VO,<- hk];omega
 rw[this,U6 _ hb];rw[VO]at this;grind
theorem nQ{a b:Int}(hb:b≠0):0<=bzU a b∧bzU a b<=b.natAbs:=by
 unfold bzU;rw[G2 hb];obtain⟨y,hy⟩:=UX (a:=a) (b:=b);have g0:=jY (a:=a) hb;have hq:b/((Int.gcd a b:Nat):Int)=y:=by
  have:b=((Int.gcd a b:Nat):Int)*y:=hy;generalize ((Int.gcd a b:Nat):Int)=g at *;rw[this,U6 _ (by omega)]
 rw[hq];have hy0:y≠0:=fun e=>by rw[e,Int.mul_zero]at hy;exact hb hy
 have h1:=UF ((xg b.natAbs a b).1) hy0;have h2:=X2 ((xg b.natAbs a b).1) hy0;have h3:y.natAbs<=b.natAbs:=by
  have:=Ur Int.natAbs hy;rw[VZ,Wl]at this;have h4:1*y.natAbs<=Int.gcd a b*y.natAbs:=Uy _ (by omega);omega
 omega
structure BzI(a b g x u v:Int):Prop where
 g0:0<g
 x0:0<=x
 gb:g<=b.natAbs
 xb:x<=b.natAbs
 cu:b∣u*a-g
 cv:b∣v*a-x
 gc:Int.gcd g x=Int.gcd a b
 sg:(u<=0∧0<=v)∨(0<=u∧v<=0)
 id:(u.natAbs:Int)*x+(v.natAbs:Int)*g=b.natAbs
 ub:(u.natAbs:Int)<=b.natAbs
theorem BzI.vb{a b g x u v:Int}(i:BzI a b g x u v):(v.natAbs:Int)<=b.natAbs:=by
 have h:=i.id;have h1:(v.natAbs:Int)*1<=(v.natAbs:Int)*g:=Up i.g0 (by omega);have h2:0<=(u.natAbs:Int)*x:=Vd (by omega) i.x0;omega
theorem BzI.start{a b:Int}(hb:b≠0):BzI a b b.natAbs (a%b) 0 1:=by
 have h1:=UF a hb;have h2:=X2 a hb;have e:=UC a b;refine⟨by omega,h1,by omega,by omega,?_,⟨a/b,by omega⟩,?_,.inl (by omega),by simp,by simp⟩
 ·have:b∣(b.natAbs:Int):=Int.dvd_natAbs.2 (Int.dvd_refl b);obtain⟨k,hk⟩:=this;exact⟨-k,by rw[VO,<- hk];omega⟩
 show Nat.gcd (((b.natAbs:Nat):Int).natAbs) (a%b).natAbs=_;rw[Wl];exact lK a b
theorem BzI.next{a b g x u v:Int}(i:BzI a b g x u v)(hx:x≠0):BzI a b x (g%x) v (u-g/x*v)∧(g%x).natAbs<x.natAbs:=by
 have vb:=i.vb;obtain⟨g0,x0,gb,xb,cu,cv,gc,sg,id,ub⟩:=i;have h1:=UF g hx;have h2:=UK g (show 0<x by omega);have e:=UC g x;have q0:0<=g/x:=Xj (by omega) (by omega);refine⟨⟨by omega,h1,xb,by omega,cv,?_,?_,?_,?_,vb⟩,by omega⟩
 ·obtain⟨k,hk⟩:=cu;obtain⟨l,hl⟩:=cv;refine⟨k-g/x*l,?_⟩;have e1:g%x=g-x*(g/x):=by omega
  rw[e1];generalize g/x=q at *;have:(u-q*v)*a-(g-x*q)=(u*a-g)-q*(v*a-x):=by grind
  rw[this,hk,hl];grind
 ·rw[<- gc];exact lK g x
 ·have hqv:0<=g/x*(v.natAbs:Int):=Vd q0 (by omega);rcases sg with⟨s1,s2⟩|⟨s1,s2⟩
  ·right;have:0<=g/x*v:=Vd q0 s2;omega
  left;have:g/x*v<=0:=Vb q0 s2;omega
 have key:((u-g/x*v).natAbs:Int)=u.natAbs+g/x*(v.natAbs:Int):=by
  rcases sg with⟨s1,s2⟩|⟨s1,s2⟩
  ·have h3:0<=g/x*v:=Vd q0 s2;have h4:(v.natAbs:Int)=v:=by omega
   rw[h4];omega
  have h3:g/x*v<=0:=Vb q0 s2;have h4:(v.natAbs:Int)=-v:=by omega
  rw[h4,VO];omega
 rw[key,<- id];have e1:g%x=g-x*(g/x):=by omega
 rw[e1];generalize g/x=q;grind
theorem BzI.stop{a b g x u v:Int}(i:BzI a b g x u v)(hb:b≠0)(hx:x=0):g=(Int.gcd a b:Nat)∧u%(b/g)=bzU a b:=by
 have hg:g=(Int.gcd a b:Nat):=by
  have h:=i.gc;rw[hx,WK]at h;have:=i.g0;omega
 refine⟨hg,?_⟩;have h:=i.cu;rw[hg]at h ⊢;exact PP hb h
def pw(D:Int)(f:Fm):Nat->Fm
 |0=>prP D
 |k+1=>mlt (pw D f k) f
section
variable {D:Int}{f g:Fm}
theorem jA(hf:Cl D f):(prP D).rd=prP D:=fP (Ct hf) (dZ hf).pos
theorem cA(hf:Cl D f):∀ k,Cl D (pw D f k)∧(pw D f k).rd=pw D f k
 |0=>⟨dZ hf,jA hf⟩
 |k+1=>⟨gh (cA hf k).1 hf,oB (cA hf k).1 hf⟩
theorem k8(hf:Cl D f):mlt (prP D) f=f.rd:=by rw[fS (dZ hf) hf,dP hf]
theorem vV(hf:Cl D f):pw D f 1=f.rd:=k8 hf
theorem ku(hf:Cl D f)(m:Nat):∀ n,mlt (pw D f m) (pw D f n)=pw D f (m+n)
 |0=>by
  have h:=cA hf m;show mlt (pw D f m) (prP D)=_;rw[dP h.1,h.2];rfl
 |n+1=>by
  have h:=cA hf m;have h1:=cA hf n;show mlt (pw D f m) (mlt (pw D f n) f)=mlt (pw D f (m+n)) f;rw[<- dl h.1 h1.1 hf,ku hf m n]
theorem Kr(hf:Cl D f)(hg:Cl D g):mlt f.rd g=mlt f g:=jo hf.rd hg hf hg hf.rd_rd rfl
theorem Kq(hf:Cl D f)(hg:Cl D g):mlt f g.rd=mlt f g:=jo hf hg.rd hf hg rfl hg.rd_rd
theorem KU(hf:Cl D f):mlt f.mi f=prP D:=by rw[fS (fT hf) hf,mR hf]
theorem AY(hf:Cl D f):∀ k,mlt (pw D f k) (pw D f.mi k)=prP D
 |0=>by
  show mlt (prP D) (prP D)=prP D;rw[dP (dZ hf),jA hf]
 |k+1=>by
  have hm:=fT hf;have a:=cA hf k;have b:=cA hm k;show mlt (mlt (pw D f k) f) (mlt (pw D f.mi k) f.mi)=prP D;have e1:mlt (mlt (pw D f k) f) (mlt (pw D f.mi k) f.mi)=mlt (pw D f k) (mlt f (mlt (pw D f.mi k) f.mi)):=dl a.1 hf (gh b.1 hm);have e2:mlt f (mlt (pw D f.mi k) f.mi)=mlt (pw D f.mi k) (prP D):=by
   rw[fS hf (gh b.1 hm),dl b.1 hm hf,KU hf]
  rw[e1,e2,dP b.1,b.2,AY hf k]
def zpw(D:Int)(f:Fm)(n:Int):Fm:=if n<0 then pw D f.mi n.natAbs else pw D f n.natAbs
theorem BM(hf:Cl D f)(n:Int):Cl D (zpw D f n)∧(zpw D f n).rd=zpw D f n:=by
 unfold zpw;split
 ·exact cA (fT hf) _
 exact cA hf _
theorem Co(hf:Cl D f){m k:Nat}(h:k<=m):mlt (pw D f m) (pw D f.mi k)=pw D f (m-k):=by
 have e:pw D f m=mlt (pw D f (m-k)) (pw D f k):=by rw[ku hf];congr 1;omega
 have a:=cA hf (m-k);rw[e,dl a.1 (cA hf k).1 (cA (fT hf) k).1,AY hf k,dP a.1,a.2]
theorem ID(hf:Cl D f)(m n:Int):mlt (zpw D f m) (zpw D f n)=zpw D f (m+n):=by
 have hm:=fT hf;have key:∀ m n:Int,¬ m<0->n<0->mlt (pw D f m.natAbs) (pw D f.mi n.natAbs)=zpw D f (m+n):=fun m n h1 h2=>by
  unfold zpw;by_cases h:m+n<0
  ·rw[H2 h,fS (cA hf _).1 (cA hm _).1];have:=Co hm (m:=n.natAbs) (k:=m.natAbs) (by omega);rw[Rv]at this;rw[this]
   congr 1;omega
  rw[G2 h,Co hf (by omega)]
  congr 1;omega
 by_cases h1:m<0
 ·by_cases h2:n<0
  ·unfold zpw;rw[H2 h1,H2 h2,H2 (by omega),ku hm]
   congr 1;omega
  have:=key n m h2 h1;have e1:zpw D f m=pw D f.mi m.natAbs:=H2 h1;have e2:zpw D f n=pw D f n.natAbs:=G2 h2;rw[e1,e2,fS (cA hm _).1 (cA hf _).1,this]
  congr 1;omega
 by_cases h2:n<0
 ·have e1:zpw D f m=pw D f m.natAbs:=G2 h1;have e2:zpw D f n=pw D f.mi n.natAbs:=H2 h2;rw[e1,e2];exact key m n h1 h2
 unfold zpw;rw[G2 h1,G2 h2,G2 (by omega),ku hf]
 congr 1;omega
end
def rfE(f:Fm):Int:=if ck f.a f.b f.c≠0 then ck f.a f.b f.c else if 0<dsc f.a f.b f.c then 5 else if prim f.a f.b f.c=true then 0 else 80
theorem lx{f:Fm}(h:rfE f=0):Cl (dsc f.a f.b f.c) f:=by
 unfold rfE at h;by_cases h1:ck f.a f.b f.c≠0
 ·rw[H2 h1]at h;exact absurd h h1
 rw[G2 h1]at h;have h1:ck f.a f.b f.c=0:=by omega
 by_cases h2:0<dsc f.a f.b f.c
 ·rw[H2 h2]at h;cases h
 rw[G2 h2]at h;by_cases h3:prim f.a f.b f.c=true
 ·have hd:=PH h1;refine⟨⟨?_,by show dsc f.a f.b f.c<0;omega⟩,h3,rfl⟩;unfold ck at h1;split at h1
  ·cases h1
  split at h1
  ·cases h1
  omega
 rw[G2 h3]at h;cases h
theorem lN{D:Int}{f:Fm}(h:Cl D f):rfE f=0:=by
 unfold rfE;have h1:ck f.a f.b f.c=0:=rH h.pos;have h2:dsc f.a f.b f.c<0:=h.pos.2;rw[G2 (by omega),G2 (by omega),H2 h.prim]
theorem QT{f:Fm}(h:(ck f.a f.b f.c==0)=false):ck f.a f.b f.c=rfE f:=by
 have h1:ck f.a f.b f.c≠0:=bF h;unfold rfE;rw[H2 h1]
theorem QS{f:Fm}(h:(ck f.a f.b f.c==0)=true)(h1:sgn (dsc f.a f.b f.c)>0):5=rfE f:=by
 have h2:ck f.a f.b f.c=0:=bT h;unfold rfE;rw[G2 (by omega),H2 (sgn_gt_iff.1 h1)]
theorem QR{f:Fm}(h:(ck f.a f.b f.c==0)=true)(h1:¬ sgn (dsc f.a f.b f.c)>0)(h2:prim f.a f.b f.c=false):80=rfE f:=by
 have h3:ck f.a f.b f.c=0:=bT h;unfold rfE;rw[G2 (by omega),G2 (fun x=>h1 (sgn_gt_iff.2 x)),h2];rfl
theorem QQ{f:Fm}(h:(ck f.a f.b f.c==0)=true)(h1:¬ sgn (dsc f.a f.b f.c)>0)(h2:prim f.a f.b f.c=true):0=rfE f:=by
 have h3:ck f.a f.b f.c=0:=bT h;unfold rfE;rw[G2 (by omega),G2 (fun x=>h1 (sgn_gt_iff.2 x)),H2 h2]
def cmE(f g:Fm):Int:=if rfE f≠0 then rfE f else if rfE g≠0 then rfE g else if dsc f.a f.b f.c≠dsc g.a g.b g.c then 5 else 0
def cmV(f g:Fm):Fm:=if cmE f g=0 then mlt f g else⟨0,0,0⟩
theorem Px{f g:Fm}(h:cmE f g=0):Cl (dsc f.a f.b f.c) f∧Cl (dsc f.a f.b f.c) g:=by
 unfold cmE at h;by_cases h1:rfE f≠0
 ·rw[H2 h1]at h;exact absurd h h1
 rw[G2 h1]at h;by_cases h2:rfE g≠0
 ·rw[H2 h2]at h;exact absurd h h2
 rw[G2 h2]at h;by_cases h3:dsc f.a f.b f.c≠dsc g.a g.b g.c
 ·rw[H2 h3]at h;cases h
 have e:dsc f.a f.b f.c=dsc g.a g.b g.c:=by omega
 refine⟨lx (by omega),?_⟩;rw[e];exact lx (by omega)
theorem PA{D:Int}{f g:Fm}(hf:Cl D f)(hg:Cl D g):cmE f g=0∧cmV f g=mlt f g:=by
 have e:cmE f g=0:=by
  unfold cmE;rw[lN hf,lN hg,hf.disc,hg.disc];simp
 exact⟨e,by unfold cmV;rw[H2 e]⟩
def fF(P:Nat->Bool):Nat->Nat->Nat
 |0,n=>n
 |f+1,n=>if P n=true then n else fF P f (n+1)
theorem mW(P:Nat->Bool):∀ f n,n<=fF P f n
 |0,n=>Iv n
 |f+1,n=>by
  unfold fF;split
  ·omega
  have:=mW P f (n+1);omega
theorem fE{P:Nat->Bool}:∀ {f n m:Nat},n<=m->m<n+f->P m=true->P (fF P f n)=true∧fF P f n<=m
 |0,n,m,h,h1,_=>by omega
 |f+1,n,m,h,h1,h2=>by
  unfold fF;by_cases g:P n=true
  ·rw[H2 g];exact⟨g,h⟩
  rw[G2 g];have:n≠m:=fun e=>g (by rw[e];exact h2)
  exact fE (by omega) (by omega) h2
theorem xl{P:Nat->Bool}{f n:Nat}(h:P n=true):fF P (f+1) n=n:=by unfold fF;rw[H2 h]
theorem zT{P:Nat->Bool}{f n:Nat}(h:P n=false):fF P (f+1) n=fF P f (n+1):=by
 have:fF P (f+1) n=if P n=true then n else fF P f (n+1):=rfl
 rw[this,G2 (by rw[h];decide)]
def cpG(f:Fm)(a:Int)(n x:Nat):Bool:=decide (Int.gcd (x:Int) ((n:Int)-x)=1)&&decide (Int.gcd (vl f.a f.b f.c x ((n:Int)-x)) a=1)
def cpR(f:Fm)(a:Int)(n:Nat):Bool:=(List.range (n+1)).any (cpG f a n)
def cpN(f:Fm)(a:Int):Nat:=fF (cpR f a) 9100000000000000000 1
def cpX(f:Fm)(a:Int):Nat:=fF (cpG f a (cpN f a)) (cpN f a+1) 0
def cpM(f:Fm)(a:Int):Mt:=⟨cpX f a,-bzV (cpX f a) ((cpN f a:Int)-cpX f a),(cpN f a:Int)-cpX f a,bzU (cpX f a) ((cpN f a:Int)-cpX f a)⟩
section
variable {f:Fm}{a:Int}
theorem vi(pf:prim f.a f.b f.c=true)(h1:a≠0)(h2:a.natAbs<18446744073709551616):cpR f a (cpN f a)=true∧1<=cpN f a∧cpN f a<=9000000000000000000:=by
 obtain⟨x,y,hg,hc,hb1,hb2⟩:=GI pf (a:=a.natAbs) (by omega) h2;have hR:cpR f a (x+y)=true:=by
  unfold cpR;rw[Wz];refine⟨x,UW.2 (by omega),?_⟩;unfold cpG;have e:((x+y:Nat):Int)-x=(y:Int):=by omega
  rw[e,Uw,decide_eq_true_iff,decide_eq_true_iff];exact⟨hg,hc⟩
 have:=fE (P:=cpR f a) (f:=9100000000000000000) (n:=1) (m:=x+y) hb1 (by omega) hR;have h3:=mW (cpR f a) 9100000000000000000 1;unfold cpN;exact⟨this.1,h3,by omega⟩
theorem Pp(h:cpR f a (cpN f a)=true):cpG f a (cpN f a) (cpX f a)=true∧cpX f a<=cpN f a:=by
 unfold cpR at h;rw[Wz]at h;obtain⟨m,hm,hg⟩:=h;rw[UW]at hm;have:=fE (P:=cpG f a (cpN f a)) (f:=cpN f a+1) (n:=0) (m:=m) (by omega) (by omega) hg;unfold cpX;exact⟨this.1,by omega⟩
theorem DJ(h:cpR f a (cpN f a)=true):(cpM f a).det=1∧Int.gcd (f.app (cpM f a)).a a=1:=by
 have hx:=(Pp h).1;unfold cpG at hx;rw[Uw,decide_eq_true_iff,decide_eq_true_iff]at hx;refine⟨?_,hx.2⟩;have e:=Ig (cpX f a:Int) ((cpN f a:Int)-cpX f a);rw[hx.1]at e;unfold cpM Mt.det;simp only;rw[Ww];grind
structure CpI(f:Fm)(a:Int)(n:Nat):Prop where
 n1:1<=n
 nb:n<=cpN f a
 go:fF (cpR f a) (9100000000000000001-n) n=cpN f a
theorem CpI.start(h:1<=cpN f a):CpI f a 1:=⟨by omega,h,rfl⟩
theorem CpI.next{n:Nat}(i:CpI f a n)(h2:cpN f a<=9000000000000000000)(h:∀ x,x<n+1->cpG f a n x=false):CpI f a (n+1):=by
 have hR:cpR f a n=false:=by
  unfold cpR;rw[Xn];intro x hx;rw[UW]at hx;rw[h x hx];decide
 have hg:=i.go;have hb:=i.nb;have e:9100000000000000001-n=(9100000000000000001-(n+1))+1:=by omega
 rw[e,zT hR]at hg;refine⟨by omega,?_,hg⟩;have:=mW (cpR f a) (9100000000000000001-(n+1)) (n+1);omega
theorem CpI.found{n x:Nat}(i:CpI f a n)(h2:cpN f a<=9000000000000000000)(hx:x<=n)(h0:∀ y,y<x->cpG f a n y=false)(h:cpG f a n x=true):cpN f a=n∧cpX f a=x:=by
 have hR:cpR f a n=true:=by
  unfold cpR;rw[Wz];exact⟨x,UW.2 (by omega),h⟩
 have hg:=i.go;have hb:=i.nb;have e:9100000000000000001-n=(9100000000000000001-(n+1))+1:=by omega
 rw[e,xl hR]at hg;refine⟨hg.symm,?_⟩;have key:∀ k y,y+k=x->fF (cpG f a n) (k+1+(n-x)) y=x:=fun k=>by
  induction k with
  |zero =>
   intro y hy;have:y=x:=by omega
   subst this;rw[show 0+1+(n-y)=(n-y)+1 by omega,xl h]
  |succ k ih =>
   intro y hy;rw[show k+1+1+(n-x)=(k+1+(n-x))+1 by omega,zT (h0 y (by omega))];exact ih (y+1) (by omega)
 unfold cpX;rw[<- hg];have:=key x 0 (by omega);rw[show x+1+(n-x)=n+1 by omega]at this;exact this
end
theorem Fj{D:Int}{f g:Fm}{i h k C:Int}(hf:Cl D f)(hg:Cl D g)(hi:g.a∣i*f.a-1)(hh:2*h=g.b-f.b)(hk:g.a∣h*i-k)(hC:C=((f.b+2*(f.a*k))*(f.b+2*(f.a*k))-D)/(4*(f.a*g.a))):IsC D f g ⟨f.a*g.a,f.b+2*(f.a*k),C⟩:=by
 have hfk:FK (sD D) (dD D) f (kk (sD D) f):=hf.fo;have hgk:FK (sD D) (dD D) g (kk (sD D) g):=hg.fo;have hD:=(fu hf.disc).2;have bf:=hfk.b;have bg:=hgk.b;obtain⟨y,hy⟩:=hi;obtain⟨w,hw⟩:=hk;have cd:CD f g (sD D) (dD D) (kk (sD D) f) (kk (sD D) g) 1 i (-y) 0 f.a g.a (kk (sD D) f+kk (sD D) g+sD D) (kk (sD D) f*kk (sD D) g+dD D) (kk (sD D) f+i*f.a*(kk (sD D) g-kk (sD D) f)) (f.a*g.a):=by
  refine⟨by omega,by omega,by omega,?_,by decide,by omega,?_,rfl⟩
  ·rw[Ww,Xl y];omega
  have:i*f.a=1+g.a*y:=by omega
  rw[WP,this];grind
 obtain⟨C',hC'⟩:=cd.form hfk hgk;have hs:kk (sD D) f+i*f.a*(kk (sD D) g-kk (sD D) f)-(kk (sD D) f+f.a*k)=f.a*g.a*w:=by
  have e:kk (sD D) g-kk (sD D) f=h:=by omega
  rw[e];have:i*f.a*h=f.a*(h*i):=by grind
  rw[this];have:h*i=g.a*w+k:=by omega
  rw[this];grind
 have hb:f.b+2*(f.a*k)=2*(kk (sD D) f+f.a*k)+sD D:=by rw[bf];grind
 have hA0:f.a*g.a≠0:=by have:=VX hf.pos.1 hg.pos.1;omega
 generalize kk (sD D) f+i*f.a*(kk (sD D) g-kk (sD D) f)=kc at *;generalize hj:kk (sD D) f+f.a*k=j at *;generalize f.a*g.a=A at *;have hBD:(2*j+sD D)*(2*j+sD D)-D=4*A*(C'-w*(2*kc-A*w+sD D)):=by
  have ej:j=kc-A*w:=by omega
  have e1:4*A*(C'-w*(2*kc-A*w+sD D))=4*(A*C')-4*A*(w*(2*kc-A*w+sD D)):=by grind
  rw[e1,hC',ej];generalize sD D=σ at *;generalize dD D=δ at *;rw[hD];grind
 rw[hb]at hC ⊢;rw[hBD,U6 _ (by omega)]at hC;subst hC;refine r8 hf hg cd (j:=j) ⟨w,hs⟩ ?_;omega
theorem KV{a m:Int}(hm:0<m)(h:Int.gcd a m=1):m∣(bzU (a%m) m%m)*a-1:=by
 have hg:Int.gcd (a%m) m=1:=by
  rw[XI,lK];exact h
 obtain⟨k,hk⟩:=An (a:=a%m) (b:=m) (by omega);rw[hg]at hk;have e1:=UC a m;have e2:=UC (bzU (a%m) m) m;generalize bzU (a%m) m=u at *;generalize a/m=p at *;generalize a%m=r at *;generalize u/m=q at *;generalize u%m=v at *;refine⟨k+v*p-q*r,?_⟩;have:v=u-m*q:=by omega
 subst this;rw[<- e1];have hk':u*r=1+m*k:=by have hk2:u*r-1=m*k:=hk;omega
 grind
theorem NR{a b:Int}(hb:b≠0):b/(Int.gcd a b:Nat)≠0:=by
 obtain⟨y,hy⟩:=UX (a:=a) (b:=b);have g0:=jY (a:=a) hb;have hq:b/((Int.gcd a b:Nat):Int)=y:=by
  have:b=((Int.gcd a b:Nat):Int)*y:=hy;generalize ((Int.gcd a b:Nat):Int)=g at *;rw[this,U6 _ (by omega)]
 rw[hq];intro e;rw[e,Int.mul_zero]at hy;exact hb hy
theorem PL{a b g x u v:Int}(i:BzI a b g x u v)(hb:b≠0)(hx:x=0) :
  AV.t [PI g,PI (u%(b/g)),PI ((g-u%(b/g)*a)/b)]=AV.t [PI ((Int.gcd a b:Nat):Int),PI (bzU a b),PI (bzV a b)]:=by
 obtain⟨h1,h2⟩:=i.stop hb hx;have e:bzV a b=((Int.gcd a b:Nat)-bzU a b*a)/b:=by unfold bzV;rw[G2 hb]
 rw[h2,e,h1]
theorem T1{a b:Int}(hb:b=0):AV.t [PI ((a.natAbs:Nat):Int),PI (sgn a),PI 0]=AV.t [PI ((Int.gcd a b:Nat):Int),PI (bzU a b),PI (bzV a b)]:=by
 subst hb;unfold bzU bzV;rw[H2 rfl,H2 rfl,WK]
theorem Ii{a b:Int}(hb:b≠0):((bzV a b).natAbs:Int)<=a.natAbs+1:=by
 have h:=Ig a b;have hu:=nQ (a:=a) hb;have g0:=jY (a:=a) hb;have gb:((Int.gcd a b:Nat):Int)<=b.natAbs:=by
  have:=Wf (by omega) (WG.2 (UX (a:=a) (b:=b)));rw[Wl]at this;omega
 have h1:bzV a b*b=(Int.gcd a b:Nat)-bzU a b*a:=by omega
 have h2:=Ur Int.natAbs h1;rw[VZ]at h2;have h3:((Int.gcd a b:Nat)-bzU a b*a).natAbs<=b.natAbs+b.natAbs*a.natAbs:=by
  have e1:=Int.natAbs_sub_le ((Int.gcd a b:Nat):Int) (bzU a b*a);rw[VZ]at e1;have e2:(bzU a b).natAbs*a.natAbs<=b.natAbs*a.natAbs:=Uy _ (by omega);omega
 rw[<- h2]at h3;have hb0:0<b.natAbs:=by omega
 have h4:(bzV a b).natAbs*b.natAbs<=(a.natAbs+1)*b.natAbs:=by
  have:(a.natAbs+1)*b.natAbs=b.natAbs+b.natAbs*a.natAbs:=by rw[Vt,Xm,Va];omega
  omega
 have:=Xq h4 hb0;omega
theorem PO(a b:Int):(bzU a b).natAbs<=b.natAbs+1:=by
 by_cases h:b=0
 ·subst h;unfold bzU;rw[H2 rfl];unfold sgn;split <;> (try split) <;> decide
 have:=nQ (a:=a) h;omega
theorem PN(a b:Int):(bzV a b).natAbs<=a.natAbs+1:=by
 by_cases h:b=0
 ·subst h;unfold bzV;rw[H2 rfl];simp
 have:=Ii (a:=a) h;omega
theorem kY{x:Int}(h:x.natAbs<=9100000000000000000):L 6 x:=by unfold L;omega
theorem Ih{x y:Int}(hx:x.natAbs<=9000000000000000000)(hy:y.natAbs<=9000000000000000000):LB (bzU x y) 6∧LB (bzV x y) 6 :=
 ⟨⟨kY (by have:=PO x y;omega)⟩,⟨kY (by have:=PN x y;omega)⟩⟩
section
variable {f:Fm}{a:Int}
theorem Lw{n x:Nat}(h:decide (((Int.gcd (x:Int) ((n:Int)-x):Nat):Int)=1)=true)(h2:decide (((Int.gcd (vl f.a f.b f.c x ((n:Int)-x)) a:Nat):Int)=1)=true):cpG f a n x=true:=by
 have h:=dT0 h;have h2:=dT0 h2;unfold cpG;rw[G6 (by omega),G6 (by omega)];rfl
theorem Ly{n x:Nat}(h:decide (((Int.gcd (x:Int) ((n:Int)-x):Nat):Int)=1)=false):cpG f a n x=false:=by
 have h:=dF0 h;unfold cpG;rw[Ix (by omega)];rfl
theorem Lx{n x:Nat}(h2:decide (((Int.gcd (vl f.a f.b f.c x ((n:Int)-x)) a:Nat):Int)=1)=false):cpG f a n x=false:=by
 have h2:=dF0 h2;unfold cpG;rw[Ix (p:=Int.gcd (vl f.a f.b f.c x ((n:Int)-x)) a=1) (by omega),X9]
theorem Dx{P:Nat->Bool}{x:Nat}(h:∀ y,y<x->P y=false)(h1:P x=false):∀ y,y<x+1->P y=false:=fun y hy=>by
 rcases(show y<x∨y=x by omega)with g|g
 ·exact h y g
 subst g;exact h1
def cpF(f:Fm)(a:Int):Fm:=f.app (cpM f a)
theorem GH{n x:Nat}(hN:cpN f a=n)(hX:cpX f a=x) :
  FA (vl f.a f.b f.c x ((n:Int)-x)) (apB f.a f.b f.c x (-bzV x ((n:Int)-x)) ((n:Int)-x) (bzU x ((n:Int)-x))) (vl f.a f.b f.c (-bzV x ((n:Int)-x)) (bzU x ((n:Int)-x)))=FA (cpF f a).a (cpF f a).b (cpF f a).c:=by
 subst hN hX;rfl
theorem Pq{D:Int}(hf:Cl D f)(h0:a≠0)(h6:L 6 a):Cl D (cpF f a)∧(cpF f a).rd=f.rd∧Int.gcd (cpF f a).a a=1:=by
 have hx:=vi hf.prim h0 (by unfold L at h6;exact h6);have hd:=DJ hx.1;exact⟨hf.app hd.1,mN hf.pos hd.1,hd.2⟩
theorem Se(pf:prim f.a f.b f.c=true)(h0:a≠0)(h6:L 6 a)(ha:L 6 f.a)(hb:L 6 f.b)(hc:L 6 f.c):LB (cpF f a).a 14∧LB (cpF f a).b 14∧LB (cpF f a).c 14:=by
 have hx:=vi pf h0 (by unfold L at h6;exact h6);have hX:=(Pp hx.1).2;have ia:LB f.a 6:=⟨ha⟩
 have ib:LB f.b 6:=⟨hb⟩
 have ic:LB f.c 6:=⟨hc⟩
 have b2:=Ih (x:=(cpX f a:Int)) (y:=(cpN f a:Int)-cpX f a) (by omega) (by omega);have j1:LB ((cpX f a:Nat):Int) 6:=⟨kY (by omega)⟩
 have j2:LB ((cpN f a:Int)-cpX f a) 6:=⟨kY (by omega)⟩
 have j3:=b2.1;have j4:=b2.2;refine⟨⟨?_⟩,⟨?_⟩,⟨?_⟩⟩
 ·show L 14 (vl f.a f.b f.c (cpX f a) ((cpN f a:Int)-cpX f a));exact lz
 ·show L 14 (apB f.a f.b f.c (cpX f a) (-bzV (cpX f a) ((cpN f a:Int)-cpX f a)) ((cpN f a:Int)-cpX f a) (bzU (cpX f a) ((cpN f a:Int)-cpX f a)));exact lz
 show L 14 (vl f.a f.b f.c (-bzV (cpX f a) ((cpN f a:Int)-cpX f a)) (bzU (cpX f a) ((cpN f a:Int)-cpX f a)));exact lz
end
theorem Fk{D:Int}{f g G:Fm}(hf:Cl D f)(hg:Cl D g)(hG:Cl D G)(eG:G.rd=g.rd)(hc:Int.gcd G.a f.a=1) :
  rdF (f.a*G.a) (f.b+2*(f.a*((G.b-f.b)/2*(bzU (f.a%G.a) G.a%G.a)%G.a)))
   (((f.b+2*(f.a*((G.b-f.b)/2*(bzU (f.a%G.a) G.a%G.a)%G.a)))*(f.b+2*(f.a*((G.b-f.b)/2*(bzU (f.a%G.a) G.a%G.a)%G.a)))-D)/(4*(f.a*G.a)))=mlt f g:=by
 have hi:=KV (a:=f.a) (m:=G.a) hG.pos.1 (by rw[XI];exact hc);have pf:=(fu hf.disc).1;have pG:=(fu hG.disc).1;have hh:2*((G.b-f.b)/2)=G.b-f.b:=by omega
 generalize (G.b-f.b)/2=h at *;generalize bzU (f.a%G.a) G.a%G.a=i at *;have hk:G.a∣h*i-h*i%G.a:=⟨h*i/G.a,by have:=UC (h*i) G.a;omega⟩
 generalize h*i%G.a=k at *;have c:=Fj hf hG hi hh hk rfl;have e:=pR hf hG c;rw[jo hf hG hf hg rfl eG]at e;exact e
theorem Sm{f g:Fm}(h:rfE f≠0):cmE f g=rfE f:=by unfold cmE;rw[H2 h]
theorem Sl{f g:Fm}(h:rfE f=0)(h1:rfE g≠0):cmE f g=rfE g:=by unfold cmE;rw[G2 (by omega),H2 h1]
theorem Sk{f g:Fm}(h:rfE f=0)(h1:rfE g=0)(h2:dsc f.a f.b f.c≠dsc g.a g.b g.c):cmE f g=5:=by unfold cmE;rw[G2 (by omega),G2 (by omega),H2 h2]
theorem Sj{f g:Fm}(h:rfE f=0)(h1:rfE g=0)(h2:dsc f.a f.b f.c=dsc g.a g.b g.c):cmE f g=0:=by unfold cmE;rw[G2 (by omega),G2 (by omega),G2 (by omega)]
theorem DM{f g:Fm}{e:Int}(h:cmE f g=e)(h0:e≠0):AV.t [PF ⟨0,0,0⟩,PE e]=AV.t [PF (cmV f g),PE (cmE f g)]:=by
 subst h;unfold cmV;rw[G2 h0]
theorem Sf{f g:Fm}(h:cmE f g=0):AV.t [PF (mlt f g),PE 0]=AV.t [PF (cmV f g),PE (cmE f g)]:=by
 unfold cmV;rw[H2 h,h]
theorem T3{x:Int}(h:(x != 0)=true):(x==0)=false:=by
 have:=cg h;cases g:x==0
 ·rfl
 exact absurd (bT g) this
theorem BD{x:Int}(h:(x != 0)=false):(x==0)=true:=by
 have:x=0:=ci h;subst this;rfl
theorem R4{a b c p q r:Int}(h1:(aX a p==0)=true)(h2:(aX b q==0)=true):(aX c r==0)=decide (a=p∧b=q∧c=r):=by
 have e1:=cmpI_eq_zero.1 (bT h1);have e2:=cmpI_eq_zero.1 (bT h2);rw[Vg,decide_eq_true_iff,beq_iff_eq,cmpI_eq_zero];exact⟨fun h=>⟨e1,e2,h⟩,fun h=>h.2.2⟩
theorem R5{a b c p q r:Int}(_h1:(aX a p==0)=true)(h2:(aX b q==0)=false):false=decide (a=p∧b=q∧c=r):=by
 symm;exact Ix (fun h=>bF h2 (cmpI_eq_zero.2 h.2.1))
theorem R6{a b c p q r:Int}(h1:(aX a p==0)=false):false=decide (a=p∧b=q∧c=r):=by
 symm;exact Ix (fun h=>bF h1 (cmpI_eq_zero.2 h.1))
theorem yJ{f g:Fm}{k:Nat}(h:(k:Int)<2):(k=0∧[f,g].getD k ⟨0,0,0⟩=f)∨(k=1∧[f,g].getD k ⟨0,0,0⟩=g):=by
 rcases(show k=0∨k=1 by omega)with rfl|rfl
 ·exact .inl ⟨rfl,rfl⟩
 exact .inr ⟨rfl,rfl⟩
theorem LG{f g:Fm}{k:Nat}(h:(k:Int)<2)(hno:∀ j,j<k->rfE ([f,g].getD j ⟨0,0,0⟩)=0)(hne:rfE ([f,g].getD k ⟨0,0,0⟩)≠0):cmE f g=rfE ([f,g].getD k ⟨0,0,0⟩):=by
 rcases yJ (f:=f) (g:=g) h with⟨rfl,e⟩|⟨rfl,e⟩
 ·rw[e]at hne ⊢;exact Sm hne
 have h0:rfE f=0:=hno 0 (by omega);rw[e]at hne ⊢;exact Sl h0 hne
theorem R3{P:Nat->Prop}{x:Nat}(h:∀ y,y<x->P y)(h1:P x):∀ y,y<x+1->P y:=fun y hy=>by
 rcases(show y<x∨y=x by omega)with g|g
 ·exact h y g
 subst g;exact h1
section ops
variable {P:Program}
variable {dst:Option Nat}{ty:TypeId}{pos:String}{af:Array Edge}{gd:Option (Nat×Bool)}{d:Nat}{ρ:Operand->AV}{own:Own}
theorem om{f:FuncId}{c e:Operand}{xs ys:List DV}(hx:ρ c=.ip xs)(hy:ρ e=.ip ys):Eff P ⟨dst,.makeFunc (.func f) #[] #[c,e],ty,pos,af,gd⟩ d ρ own (.fn f [xs,ys]) [] none [] :=
 aP fun C h r own' a w hrep hrd hw=>by
  have e1:=hrep c (by simp[Op.operands]);have e2:=hrep e (by simp[Op.operands]);rw[hx]at e1;rw[hy]at e2;refine⟨.func (.func f) #[] #[a.eval c,a.eval e],?_,#[a.eval c,a.eval e],rfl,e1,e2,trivial⟩;simp[execOp,Instr.makeFunc]
theorem RepArgs.app{h:Hp}{r:Nat->Value}:∀ {l:List AV} {xs:List Value} {m:List AV} {ys:List Value},RepArgs h r l xs->RepArgs h r m ys->RepArgs h r (l++m) (xs++ys)
 | [],[],_,_,_,k=>k
 |_::_,_::_,_,_,k1,k=>⟨k1.1,RepArgs.app k1.2 k⟩
 | [],_::_,_,_,k1,_=>k1.elim
 |_::_,[],_,_,k1,_=>k1.elim
theorem uN{h:Hp}{r:Nat->Value}:∀ {cs:List (List DV)} {xs:List Value},CapsRep h cs xs->RepArgs h r (cs.map .ip) xs
 | [],[],_=>trivial
 |_::_,_::_,k=>⟨k.1,uN k.2⟩
 | [],_::_,k=>k.elim
 |_::_,[],k=>k.elim
theorem Eff.callC{f:FuncId}{caps:List (List DV)}{c:Operand}{args:Array Operand}{tys:Array TypeId}{res:AV}(hx:ρ c=.fn f caps)(hc:ak P f (args.toList.map ρ++caps.map .ip) res) :
  Eff P ⟨dst,.call ⟨.value c,args,tys⟩,ty,pos,af,gd⟩ d ρ own res [] none []:=by
 intro C h r own' a w K Q hrep hrd hw _ hK;have e1:=hrep c (by simp[Op.operands,Call.operands]);rw[hx]at e1;obtain⟨lb,e2,e3⟩:=e1;unfold Oper.wp;have hrun:(execOp a.eval ⟨dst,.call ⟨.value c,args,tys⟩,ty,pos,af,gd⟩).run P w=.ok (.enter f (args.map a.eval++lb)) w:=by
  simp only[execOp,resolve,Sem.run_bind,e2,Deferred.ofValue,Sem.run_pure,Result.andThen_ok,invoke,Array.empty_append];exact bU hc.fn _ w
 rw[hrun];refine Calls.mono (hc.go h r w (args.map a.eval++lb) ?_ (hw.before fun m hm=>absurd rfl hm)) ?_
 ·rw[W5,VU];exact RepArgs.app (cX _ fun x hx=>hrep x (by simp only[Op.operands,Call.operands];exact Wa.2 (.inr (VN.1 hx)))) (uN e3)
 rintro e w' ⟨v,h',rfl,hv,hq⟩;exact hK v h' r w' hq.hg (fun _ _=>rfl) hv (hw.after (fun m hm=>absurd rfl hm) hq (fun m=>by simp[gJ,cw]) (fun m b hm=>absurd rfl hm))
end ops
theorem BQ:∀ (j m:Nat),(wl m).getD j 0=m/2^(32*j)%4294967296
 |0,m=>by
  rcases UI m with h|h
  ·subst h;simp[pk]
  rw[n6 h];simp
 |j+1,m=>by
  rcases UI m with h|h
  ·subst h;simp[pk]
  rw[n6 h,List.getD_cons_succ,BQ j,Nat.div_div_eq_div_mul];have e:4294967296*2^(32*j)=2^(32*(j+1)):=by
   rw[show 32*(j+1)=32*j+32 by omega,VQ,Va]
  rw[e]
theorem BR(m i:Nat):(wl m).getD (i/32) 0/2^(i%32)%2=m/2^i%2:=by
 rw[BQ];have e:m/2^i=m/2^(32*(i/32))/2^(i%32):=by
  rw[Nat.div_div_eq_div_mul,<- VQ,Wv]
 rw[e];generalize m/2^(32*(i/32))=q;have hr:i%32<32:=Vc _ (by omega);generalize i%32=r at hr;have hp:2^(r+1)∣4294967296:=⟨2^(31-r),by rw[<- VQ,show r+1+(31-r)=32 by omega]⟩
 have h1:(q%4294967296)/2^r%2=(q%4294967296)%2^(r+1)/2^r:=by
  rw[Vk,Nat.mod_mul_right_div_self]
 have h2:q/2^r%2=q%2^(r+1)/2^r:=by rw[Vk,Nat.mod_mul_right_div_self]
 rw[h1,h2,Nat.mod_mod_of_dvd _ hp]
theorem AF{m i:Nat}(h:i<aV m):i/32<(wl m).length:=by
 rcases Ut (i/32) (wl m).length with g|g
 ·exact g
 exfalso;have h1:=kg (bI m);rw[bE]at h1;have h0:0<m:=by
  rcases UI m with e|e
  ·subst e;simp[aV]at h
  exact e
 have h2:=qi h0;have h3:2^(32*(wl m).length)<=2^(aV m-1):=UZ (by omega) (by omega);have e:4294967296^(wl m).length=2^(32*(wl m).length):=by rw[Nat.pow_mul]
 omega
theorem Aq(v:Nat):((v &&& 1:Nat):Int)=((v%2:Nat):Int):=by rw[Nat.and_one_is_mod]
section
variable {D:Int}{f:Fm}
theorem NN(hf:Cl D f)(k:Nat):mlt (pw D f k) (pw D f k)=pw D f (2*k):=by rw[ku hf];congr 1;omega
theorem wC(n i:Nat):n%2^(i+1)=n%2^i+2^i*(n/2^i%2):=by
 rw[Vk,Nat.mod_mul]
end
section
variable {D:Int}{f g:Fm}
theorem QU(hg:Cl D g)(e:g.rd=g):(0<g.a∧g.a<=-D)∧(-(-D)<=g.b∧g.b<=-D)∧(0<g.c∧g.c<=-D):=by
 have hr:Rd g:=by rw[<- e];exact hg.rd_Rd
 have hd:=hg.disc;unfold dsc at hd;rw[UG]at hd;have ha:=hr.a;have hb:=hr.b;have hc:=hr.c;have h1:g.b*g.b<=g.a*g.a:=fx (by omega);have h2:g.a*g.a<=g.a*g.c:=Up hc (by omega);have h3:1*g.c<=g.a*g.c:=UM ha (by omega);omega
theorem Ch(hg:Cl D g)(e:g.rd=g)(hD:-1000000000000000000<=D):L 6 g.a∧L 6 g.b∧L 6 g.c:=by
 have h:=QU hg e;exact⟨kY (by omega),kY (by omega),kY (by omega)⟩
theorem gm(hf:Cl D f):prF D=prP D∧prE D=0:=by
 have hneg:D<0:=by have h:dsc f.a f.b f.c<0:=hf.pos.2;rw[hf.disc]at h;exact h
 have c:=dZ hf;have h4:¬ 1<D%4:=fun h=>by
  have h2:=(fu hf.disc).2;unfold sD dD at h2;rcases(show D%2=0∨D%2=1 by omega)with e|e <;> rw[e]at h2 <;> omega
 have h:=Cr h4 (wR hneg);simp only[AV.t.injEq,List.cons.injEq,and_true]at h;obtain⟨h1,h2⟩:=h;have e0:prE D=0:=by
  simp only[PV.c.injEq,DV.v.injEq,Value.int.injEq,true_and]at h2;exact h2.symm
 refine⟨?_,e0⟩;unfold prF;rw[H2 e0];rfl
theorem xP{k:Nat}{n:Int}(h:AM.L k n):aV n.natAbs<=2^k:=jw h
theorem yA(n:Int)(h:n<0):zpw D f n=pw D f.mi (-n).natAbs:=by unfold zpw;rw[H2 h];congr 1;omega
theorem mB(n:Int)(h:¬ n<0):zpw D f n=pw D f n.natAbs:=by unfold zpw;rw[G2 h]
def SgI(f:Fm)(n:Int)(p:Fm×Int):Prop:=(n<0∧p.1=f.mi∧p.2=-n)∨(¬ n<0∧p.1=f∧p.2=n)
theorem SgI.cl{n:Int}{p:Fm×Int}(h:SgI f n p)(hf:Cl D f):Cl D p.1∧zpw D f n=pw D p.1 p.2.natAbs∧0<=p.2∧p.2.natAbs=n.natAbs:=by
 rcases h with⟨h1,h2,h3⟩|⟨h1,h2,h3⟩
 ·rw[h2,h3];exact⟨fT hf,yA n h1,by omega,by omega⟩
 rw[h2,h3];exact⟨hf,mB n h1,by omega,rfl⟩
theorem SgI.L{n:Int}{p:Fm×Int}{k:Nat}(h:SgI f n p)(ha:AM.L k f.a)(hb:AM.L k f.b)(hc:AM.L k f.c):AM.L k p.1.a∧AM.L k p.1.b∧AM.L k p.1.c:=by
 rcases h with⟨_,h2,_⟩|⟨_,h2,_⟩
 ·rw[h2];exact⟨ha,hb.neg,hc⟩
 rw[h2];exact⟨ha,hb,hc⟩
theorem Mu(hf:Cl D f){n i:Nat}(h:n/2^i%2=1):mlt (pw D f (n%2^i)) (pw D f (2^i))=pw D f (n%2^(i+1)):=by
 rw[ku hf,wC,h,VK]
theorem Qp{n i:Nat}(h:¬ n/2^i%2=1):pw D f (n%2^i)=pw D f (n%2^(i+1)):=by
 rw[wC,show n/2^i%2=0 by omega,Ws,Wh]
theorem Qo(hf:Cl D f)(i:Nat):mlt (pw D f (2^i)) (pw D f (2^i))=pw D f (2^(i+1)):=by
 rw[NN hf,Vk,Va]
theorem Mv{n:Nat}:pw D f (n%2^aV n)=pw D f n:=by rw[V0 gY]
theorem up_start{n:Nat}:pw D f (n%2^0)=prP D:=by rw[Nat.pow_zero,Nat.mod_one];rfl
theorem LV{m i:Nat}(h:(((((wl m).getD (i/32) 0/2^(i%32):Nat) &&& 1:Nat):Int)==1)=true):m/2^i%2=1:=by
 have h:=bT h;rw[Aq,BR]at h;omega
theorem PS{m i:Nat}(h:(((((wl m).getD (i/32) 0/2^(i%32):Nat) &&& 1:Nat):Int)==1)=false):¬ m/2^i%2=1:=by
 have h:=bF h;rw[Aq,BR]at h;omega
theorem Pl(m j r:Nat):(wl m).getD j 0/2^r<4294967296:=by
 have h:=XO ((wl m).getD j 0) (2^r);have h2:=(bI m).getD j;omega
end
def pwV(f:Fm)(n:Int):Fm:=if rfE f=0 then zpw (dsc f.a f.b f.c) f n else⟨0,0,0⟩
theorem NM{f:Fm}{n:Int}(h:rfE f≠0):AV.t [PF ⟨0,0,0⟩,PE (rfE f)]=AV.t [PF (pwV f n),PE (rfE f)]:=by unfold pwV;rw[G2 h]
theorem Q2{f:Fm}{n:Int}(h:rfE f=0):AV.t [PF (zpw (dsc f.a f.b f.c) f n),PE 0]=AV.t [PF (pwV f n),PE (rfE f)]:=by unfold pwV;rw[H2 h,h]
structure Ord(D:Int)(f:Fm)(o:Nat):Prop where
 o1:1<=o
 eq:pw D f o=prP D
 ls:∀ k,1<=k->k<o->pw D f k≠prP D
section
variable {D:Int}{f:Fm}{o:Nat}
theorem zh{g:Fm}(hg:Cl D g)(e:g.rd=g):mlt (prP D) g=g:=by rw[k8 hg,e]
theorem Ord.mul(h:Ord D f o)(hf:Cl D f):∀ q,pw D f (o*q)=prP D
 |0=>rfl
 |q+1=>by
  rw[WU,<- ku hf,h.mul hf q,h.eq,zh (dZ hf) (jA hf)]
theorem Ord.iff(h:Ord D f o)(hf:Cl D f)(n:Nat):pw D f n=prP D↔o∣n:=by
 constructor
 ·intro e;have e1:pw D f n=pw D f (n%o):=by
   have:=ku hf (o*(n/o)) (n%o);rw[h.mul hf,zh (cA hf _).1 (cA hf _).2,Wv]at this;exact this.symm
  rcases UI (n%o)with z|z
  ·exact Xb z
  exact absurd (e1.symm.trans e) (h.ls _ z (Vc _ h.o1))
 rintro⟨q,rfl⟩;exact h.mul hf q
theorem Ord.ex{n:Nat}(hn:1<=n)(e:pw D f n=prP D):∃ o,Ord D f o∧o<=n:=by
 have h:=fE (P:=fun k=>decide (pw D f k=prP D)) (f:=n) (n:=1) (m:=n) hn (by omega) (G6 e);have hge:=mW (fun k=>decide (pw D f k=prP D)) n 1;refine⟨fF (fun k=>decide (pw D f k=prP D)) n 1,⟨hge,dT0 h.1,fun k hk hlt hc=>?_⟩,h.2⟩;have h2:=fE (P:=fun k=>decide (pw D f k=prP D)) (f:=n) (n:=1) (m:=k) hk (by omega) (G6 hc);omega
theorem Ord.uniq{p:Nat}(h:Ord D f o)(h1:Ord D f p):o=p:=by
 rcases XP o p with c|c|c
 ·exact absurd h.eq (h1.ls _ h.o1 c)
 ·exact c
 exact absurd h1.eq (h.ls _ h1.o1 c)
def Nd(m d:Nat):Prop:=∀ e,2<=e->e<d->¬ e∣m
structure OrI(o h m d:Nat):Prop where
 h1:1<=h
 m1:1<=m
 oh:∃ c,h=o*c∧c∣m
 mh:m∣h
 d2:2<=d
 nd:Nd m d
theorem Nd.mono{m k d:Nat}(h:Nd m d)(hk:k∣m):Nd k d:=fun e h1 h2 h3=>h e h1 h2 (XM h3 hk)
theorem Nd.jump{m d:Nat}(h:Nd m d)(hm:1<=m)(hd:m<d*d):Nd m m:=fun e h1 h2 h3=>by
 obtain⟨q,hq⟩:=h3;have hq2:2<=q:=by
  rcases(show q=0∨q=1∨2<=q by omega)with c|c|c
  ·subst c;omega
  ·subst c;omega
  exact c
 have hqd:q∣m:=⟨e,by rw[hq,Va]⟩
 rcases Ut e d with c|c
 ·exact h e h1 c ⟨q,hq⟩
 rcases Ut q d with c2|c2
 ·exact h q hq2 c2 hqd
 have:d*d<=e*q:=VJ c c2;omega
theorem OrI.div{h m d:Nat}(i:OrI o h m d)(hd:d∣m):(o∣h/d->OrI o (h/d) (m/d) d)∧(¬ o∣h/d->OrI o h (m/d) d)∧1<=h/d∧m/d<m:=by
 obtain⟨h1,m1,⟨c,hc,hcm⟩,mh,d2,nd⟩:=i;obtain⟨q,hq⟩:=hd;have hq1:1<=q:=by
  rcases UI q with e|e
  ·subst e;omega
  exact e
 have e1:m/d=q:=by rw[hq];exact Nat.mul_div_cancel_left q (by omega)
 obtain⟨w,hw⟩:=mh;have e2:h/d=q*w:=by rw[hw,hq,UV];exact Nat.mul_div_cancel_left _ (by omega)
 have hh:h=d*(q*w):=by rw[hw,hq,UV]
 have hqw:1<=q*w:=by
  rcases UI (q*w)with e|e
  ·rw[e]at hh;omega
  exact e
 have hqm:q∣m:=⟨d,by rw[hq,Va]⟩
 have hlt:q<m:=by
  have:2*q<=d*q:=Uy q d2;omega
 rw[e1,e2];refine⟨fun ho=>?_,fun ho=>?_,hqw,hlt⟩
 ·obtain⟨k,hk⟩:=ho;refine⟨hqw,hq1,⟨k,hk,?_⟩,⟨w,rfl⟩,d2,nd.mono hqm⟩;have o1:0<o:=by
   rcases UI o with e|e
   ·subst e;omega
   exact e
  have hck:c=d*k:=by
   have:o*c=o*(d*k):=by rw[<- hc,hh,hk];exact Vx ..
   exact Wg o1 this
  rw[hck,hq]at hcm;exact Nat.dvd_of_mul_dvd_mul_left (by omega) hcm
 refine⟨h1,hq1,⟨c,hc,?_⟩,⟨d*w,by rw[hw,hq];simp only[Nat.mul_left_comm,Nat.mul_comm]⟩,d2,nd.mono hqm⟩;have hdc:¬ d∣c:=fun⟨k,hk⟩=>ho ⟨k,by
  have:d*(q*w)=d*(o*k):=by rw[<- hh,hc,hk];exact Vx ..
  exact Wg (by omega) this⟩
 have hg:=Wc c d;have hgc:=WD c d;have hgle:=Wf (by omega) hg;have hg0:Nat.gcd c d≠0:=fun e=>by
  rw[e]at hg;have:=XN hg;omega
 have hcop:Nat.Coprime c d:=by
  rcases(show Nat.gcd c d=1∨Nat.gcd c d=d∨(2<=Nat.gcd c d∧Nat.gcd c d<d) by omega)with e|e|e
  ·exact e
  ·rw[e]at hgc;exact absurd hgc hdc
  exact absurd (XM hg ⟨q,hq⟩) (nd _ e.1 e.2)
 rw[hq]at hcm;exact Nat.Coprime.dvd_of_dvd_mul_left hcop hcm
theorem OrI.next{h m d:Nat}(i:OrI o h m d)(hd:¬ d∣m):OrI o h m (d+1)∧(m=1∨d+1<=m):=by
 have hnd:Nd m (d+1):=fun e h1 h2 h3=>by
  rcases(show e<d∨e=d by omega)with c|c
  ·exact i.nd e h1 c h3
  subst c;exact hd h3
 obtain⟨h1,m1,oh,mh,d2,nd⟩:=i;refine⟨⟨h1,m1,oh,mh,by omega,hnd⟩,?_⟩;rcases(show m=1∨2<=m by omega)with c|c
 ·exact .inl c
 right;rcases Ut m (d+1)with q|q
 ·exact absurd (Nat.dvd_refl m) (hnd m c q)
 exact q
theorem OrI.fin{h m d:Nat}(i:OrI o h m d)(hm:m<=1):h=o:=by
 obtain⟨c,hc,hcm⟩:=i.oh;have:=i.m1;have:m=1:=by omega
 subst this;have:c=1:=Nat.eq_one_of_dvd_one hcm;rw[hc,this,VK]
theorem OrI.start{h:Nat}(h1:1<=h)(ho:o∣h):OrI o h h 2:=by
 obtain⟨c,hc⟩:=ho;exact⟨h1,h1,⟨c,hc,⟨o,by rw[hc,Va]⟩⟩,Nat.dvd_refl h,by omega,fun e h2 h3=>by omega⟩
theorem OrI.jump{h m d:Nat}(i:OrI o h m d)(hd:m<d*d)(hm:1<m):OrI o h m m:=⟨i.h1,i.m1,i.oh,i.mh,by omega,i.nd.jump i.m1 hd⟩
end
def orB(f:Fm)(h:Int):Bool:=decide (1<=h)&&decide (zpw (dsc f.a f.b f.c) f h=prP (dsc f.a f.b f.c))
def orE(f:Fm)(h:Int):Int:=if rfE f≠0 then rfE f else if orB f h=true then 0 else 1
def orV(f:Fm)(h:Int):Int:=if rfE f=0∧orB f h=true then(fF (fun k=>decide (pw (dsc f.a f.b f.c) f k=prP (dsc f.a f.b f.c))) h.toNat 1:Nat)else 0
theorem NV{f:Fm}{h:Int}(e:rfE f≠0):AV.t [PE 0,PE (rfE f)]=AV.t [PE (orV f h),PE (orE f h)]:=by
 unfold orV orE;rw[G2 (fun x=>e x.1),H2 e]
theorem HT{f:Fm}{h:Int}(e:rfE f=0)(h1:orB f h=false):AV.t [PE 0,PE 1]=AV.t [PE (orV f h),PE (orE f h)]:=by
 unfold orV orE;rw[G2 (fun x=>by rw[h1]at x;exact absurd x.2 (by decide)),G2 (by omega),G2 (by rw[h1];decide)]
theorem sU{f:Fm}{h:Int}(h1:orB f h=true):1<=h∧pw (dsc f.a f.b f.c) f h.toNat=prP (dsc f.a f.b f.c):=by
 unfold orB at h1;rw[Uw,decide_eq_true_iff,decide_eq_true_iff]at h1;refine⟨h1.1,?_⟩;have:=h1.2;rw[mB h (by omega)]at this;rw[show h.toNat=h.natAbs by omega];exact this
theorem Cw{f:Fm}{h:Int}{o:Nat}(e:rfE f=0)(h1:orB f h=true)(ho:Ord (dsc f.a f.b f.c) f o):AV.t [PE (o:Int),PE 0]=AV.t [PE (orV f h),PE (orE f h)]:=by
 obtain⟨g1,g2⟩:=sU h1;have hx:=Ord.ex (n:=h.toNat) (by omega) g2;have hle:=fE (P:=fun k=>decide (pw (dsc f.a f.b f.c) f k=prP (dsc f.a f.b f.c))) (f:=h.toNat) (n:=1) (m:=h.toNat) (by omega) (by omega) (G6 g2);have hge:=mW (fun k=>decide (pw (dsc f.a f.b f.c) f k=prP (dsc f.a f.b f.c))) h.toNat 1;have hu:o=fF (fun k=>decide (pw (dsc f.a f.b f.c) f k=prP (dsc f.a f.b f.c))) h.toNat 1:=by
  refine ho.uniq ⟨hge,dT0 hle.1,fun k hk hlt hc=>?_⟩;have h2:=fE (P:=fun k=>decide (pw (dsc f.a f.b f.c) f k=prP (dsc f.a f.b f.c))) (f:=h.toNat) (n:=1) (m:=k) hk (by omega) (G6 hc);omega
 unfold orV orE;rw[H2 ⟨e,h1⟩,G2 (by omega),H2 h1,<- hu]
theorem H9{f g:Fm}:(f.a=g.a∧f.b=g.b∧f.c=g.c)↔f=g:=⟨fun h=>Fm.ext h.1 h.2.1 h.2.2,fun h=>by subst h;exact⟨rfl,rfl,rfl⟩⟩
theorem NZ{f:Fm}{h:Int}(c:decide (h<1)=true):orB f h=false:=by
 have:=dT0 c;unfold orB;rw[Ix (by omega)];rfl
theorem NX{f:Fm}{h:Int}(c:(!decide (zpw (dsc f.a f.b f.c) f h=prP (dsc f.a f.b f.c)))=true):orB f h=false:=by
 unfold orB;rw[dV c,X9]
theorem NY{f:Fm}{h:Int}(c0:decide (h<1)=false)(c:(!decide (zpw (dsc f.a f.b f.c) f h=prP (dsc f.a f.b f.c)))=false):orB f h=true:=by
 have:=dF0 c0;unfold orB;rw[dI c,G6 (by omega)];rfl
theorem J3{D:Int}{f:Fm}{o n:Nat}(hO:Ord D f o)(hf:Cl D f)(c:decide (zpw D f (n:Int)=prP D)=true):o∣n:=by
 have:=dT0 c;rw[mB _ (by omega)]at this;exact(hO.iff hf n).1 this
theorem Fv{D:Int}{f:Fm}{o n:Nat}(hO:Ord D f o)(hf:Cl D f)(c:decide (zpw D f (n:Int)=prP D)=false):¬ o∣n:=fun h=>by
 have:=dF0 c;rw[mB _ (by omega)]at this;exact this ((hO.iff hf n).2 h)
theorem sR{a b:Nat}(_hb:0<b)(ha:a<=1000000000):(.i64:IntKind).wrap ((a:Int).tdiv (b:Int))=((a/b:Nat):Int):=by
 have:=XO a b;rw[Uz (by omega),<- WA];generalize a/b=q at *;exact iW0 _ (by omega)
theorem Ob{q:Nat}(h:q<=1000000000):aH (q:Int):=by unfold aH;omega
theorem vQ{a b:Nat}:(a:Int).tmod (b:Int)=((a%b:Nat):Int):=by
 rw[UH (by omega),<- Int.natCast_emod]
theorem Bw{a b:Nat}(h:((a%b:Nat):Int)=0):b∣a:=Xb (by omega)
theorem yi{a b:Nat}(h:¬ ((a%b:Nat):Int)=0):¬ b∣a:=fun g=>h (by have:=Nat.mod_eq_zero_of_dvd g;omega)
theorem RD{m d:Nat}(hd:0<d)(h:(d:Int)>((m/d:Nat):Int)):m<d*d:=(Vp hd).1 (by omega)
def orM(m d:Nat):Nat:=if m<=1 then 0 else m-d+1
theorem NW{m m' d d1:Nat}(hm:1<m)(hd:d<=m)(hd1:d<=d1)(hm':m'<=m)(h:m'=1∨d1+1<=m'):orM m' (d1+1)<orM m d:=by
 unfold orM;rw[G2 (show ¬ m<=1 by omega)];split <;> omega
def rtB(f g:Fm):Bool:=decide (rfE g=0)&&(decide (dsc g.a g.b g.c=dsc f.a f.b f.c)&&decide (mlt g g=f.rd))
def ii(f:Fm)(l:List Fm):Int:=if rfE f≠0 then rfE f else if(l.length:Int)>400 then 1 else 0
def kF(f:Fm)(l:List Fm):List Fm:=if ii f l=0 then l.filter (rtB f)else[]
theorem QK{f:Fm}{l:List Fm}(h:rfE f≠0):ii f l=rfE f∧kF f l=[]:=by
 have e:ii f l=rfE f:=by unfold ii;rw[H2 h]
 exact⟨e,by unfold kF;rw[e,G2 h]⟩
theorem QJ{f:Fm}{l:List Fm}(h:rfE f=0)(h1:(l.length:Int)>400):ii f l=1∧kF f l=[]:=by
 have e:ii f l=1:=by unfold ii;rw[G2 (by omega),H2 h1]
 exact⟨e,by unfold kF;rw[e];rfl⟩
theorem HQ{f:Fm}{l:List Fm}(h:rfE f=0)(h1:¬ (l.length:Int)>400):ii f l=0∧kF f l=l.filter (rtB f):=by
 have e:ii f l=0:=by unfold ii;rw[G2 (by omega),G2 h1]
 exact⟨e,by unfold kF;rw[e];rfl⟩
theorem D8:∀ (fs:List Fm) (i:Nat) (_:i<fs.length) (g:Fm),spl (i*6) (FC g) (fs.flatMap FC)=(fs.set i g).flatMap FC
 | [],_,h,_=>absurd h (Vz _)
 |f::fs,0,_,g=>by
  show spl 0 (FC g) (FC f++fs.flatMap FC)=FC g++fs.flatMap FC;simp only[FC,FL,List.cons_append,List.nil_append,spl]
 |f::fs,i+1,h,g=>by
  have e:(i+1)*6=i*6+6:=by omega
  have ih:=D8 fs i (by simpa using h) g;rw[e];show spl (i*6+6) (FC g) (FC f++fs.flatMap FC)=FC f++(fs.set i g).flatMap FC;rw[<- ih];simp only[FC,FL,List.cons_append,List.nil_append,spl]
theorem Qi(f:Fm):(FC f).length=6:=rfl
section ops
variable {P:Program}{tt:TT}(hT:bM P tt)
variable {dst:Option Nat}{ty:TypeId}{pos:String}{af:Array Edge}{gd:Option (Nat×Bool)}{d:Nat}{ρ:Operand->AV}{own:Own}
variable {T:TypeId}{i:TyI}{x y:Operand}{e:TypeId}{j:TyI}
include hT
theorem kH{m:Nat}{k:IntKind}{n:Nat}{fs:List Fm}{be:TypeId}(ht:tt T=some i)(hs:i.sh=.sl e)(he:tt e=some j)(hj:j.size=6)(hx:ρ x=.vec m)(hb:own m=some (FB be fs))(hy:ρ y=.p (.c (.v (.int k (n:Int)))))(hn:n<fs.length) :
  Eff P ⟨dst,.indexAddr T x y,ty,pos,af,gd⟩ d ρ own (.loc m (n*6)) [] none [m]:=by
 have h:=lB (dst:=dst) (ty:=ty) (pos:=pos) (af:=af) (gd:=gd) (d:=d) hT ht hs he hx hb rfl hj.symm hy ⟨by omega,by rw[hj];show _<=(fs.flatMap FC).length;rw[eS];omega⟩ (by rw[hj];rfl);rw[hj]at h;exact h
theorem oo{m n:Nat}{fs:List Fm}{be:TypeId}(ht:tt T=some i)(hg:i.sh.agg=true)(hz:i.size=6)(hx:ρ x=.loc m (n*6))(hb:own m=some (FB be fs))(hn:n<fs.length) :
  Eff P ⟨dst,.load T x,ty,pos,af,gd⟩ d ρ own (.p (.a (FC (fs.getD n ⟨0,0,0⟩)))) [] none [m]:=by
 have e1:fs.getD n ⟨0,0,0⟩=fs[n]:=by simp[List.getD,hn]
 rw[e1];exact aN hT ht hg hx hb (tG fs n hn) (by rw[hz];rfl)
theorem uU{m n:Nat}{fs:List Fm}{be:TypeId}{g:Fm}(ht:tt T=some i)(hz:i.size=6)(hx:ρ x=.loc m (n*6))(hy:ρ y=.p (.a (FC g)))(hb:own m=some (FB be fs))(hn:n<fs.length) :
  Eff P ⟨dst,.store T x y,ty,pos,af,gd⟩ d ρ own .junk [(m,some (FB be (fs.set n g)))] none [m] :=
 iI hT ht hx hy hb (by rw[hz];rfl) (by show n*6+6<=(fs.flatMap FC).length;rw[eS];omega) (D8 fs n hn g)
end ops
theorem uP{z:Array Value}{n i:Nat}(h:i<n*z.size):(Builtin.zeroCells z n)[i]?=z[i%z.size]?:=by
 have hz:0<z.size:=by
  rcases UI z.size with h0|h0
  ·rw[h0]at h;omega
  exact h0
 have hm:i%z.size<z.size:=Vc _ hz;unfold Builtin.zeroCells;rw[Array.getElem?_map,UR (by simpa using h),UR hm];simp[hm]
theorem tQ{P:Program}{T e be ty:TypeId}{j:TyI}{w:World}{k off q cap:Nat}{c:Array Value}{h:Hp}(hu:P.underlying T=some (.slice e))(hj:TyOK P e j)(hk:w.heap[k]?=some (.cells c be (0,0)))(hb:off+(q+1)*j.size<=c.size) :
  ∃ w' c',(Builtin.clear_ #[T] ty #[.slice (some ⟨k,off,none⟩) (q+1) cap]).run P w=.ok (.tuple #[]) w'∧SameBut k w w'∧w'.heap[k]?=some (.cells c' be (0,0))∧c'.size=c.size∧(∀ p,p<off->c'[p]?=c[p]?) ∧
   ∀ p,p<(q+1)*j.size->∃ y,c'[off+p]?=some y∧DRep h (j.zero.getD (p%j.size) (.v (.bool false))) y:=by
 obtain⟨z,z1,z2,z3,z4⟩:=hj.zero w;have zr:=z4 h;have hsz:(Builtin.zeroCells z.cells (q+1)).toList.length=(q+1)*j.size:=by rw[Array.length_toList,size_zeroCells,z2]
 have hget:∀ p,p<(q+1)*j.size->∃ y,(Builtin.zeroCells z.cells (q+1)).toList[p]?=some y∧DRep h (j.zero.getD (p%j.size) (.v (.bool false))) y:=fun p hp=>by
  have hjz:0<j.size:=by
   rcases UI j.size with h0|h0
   ·rw[h0]at hp;omega
   exact h0
  have hm:p%j.size<j.zero.length:=by rw[z3];exact Vc _ hjz
  obtain⟨y,y1,y2⟩:=zr.get (p%j.size) _ (Fl hm);refine⟨y,?_,?_⟩
  ·rw[UJ,uP (by rw[z2];exact hp),z2];exact y1
  rw[List.getD,Fl hm];exact y2
 obtain⟨w',c',k1,k2,k3,k4,k5⟩:=bJ P k be (Builtin.zeroCells z.cells (q+1)).toList off 0 w c hk (by rw[hsz];omega) (fun v hv=>by
  obtain⟨p,hp⟩:=List.mem_iff_getElem?.1 hv;have hlt:=(Uu.1 hp).1;rw[hsz]at hlt;obtain⟨y,y1,y2⟩:=hget p hlt;rw[hp]at y1;cases y1;exact y2.one)
 refine⟨w',c',?_,k2,k3,k4,fun p hp=>?_,fun p hp=>?_⟩
 ·simp[Builtin.clear_,run_underlying hu,z1,k1]
 ·rw[k5 p,G2 (by omega)]
 obtain⟨y,y1,y2⟩:=hget p hp;refine⟨y,?_,y2⟩;rw[k5,H2 (by rw[hsz];omega),<- y1]
 congr 1
 omega
theorem Mi(fs:List Fm)(n:Nat):(fs.take n).flatMap FC=(fs.flatMap FC).take (n*6):=by
 induction fs generalizing n with
 |nil=>simp
 |cons f fs ih =>
  cases n with
  |zero=>simp
  |succ n =>
   have e:(n+1)*6=(FC f).length+n*6:=by rw[Qi];omega
   rw[List.take_succ_cons,UP,UP,e,List.take_length_add_append,ih]
theorem BK{P:Program}{tt:TT}(hT:bM P tt){B:Bool}{N np:Nat}{Q:Exit->St->Prop}{s:St}{id t0 t5 t36 t37 t38 m T e be:Nat}{i j:TyI}{n:Nat}{fs:List Fm}{y1 y2 y3 y4:TypeId}{p1 p2 p3 p4:String}{a1 a2 a3 a4:Array Edge}(ht:tt T=some i)(hs:i.sh=.sl e)(he:tt e=some j)(hj:j.size=6)(hx:s.regs t0=.vec m)(hb:s.own m=some (FB be fs))(hy:s.regs t5=.p (.c (.v (.int .i64 (n:Int)))))(hn:n<fs.length)(hd1:(!Nat.beq t5 t36)=true)(hd2:(!Nat.beq t36 t37)=true)(hN:(Nat.blt t36 N&&Nat.blt t37 N&&Nat.blt t38 N)=true)(h:∀ zs:List DV,zs.length=(fs.length-n)*6->Q .normal ⟨upd (upd (upd s.regs t36 .junk) t37 .junk) t38 .junk,upd s.own m (some ⟨true,6,be,(fs.take n).flatMap FC++zs⟩)⟩) :
  AWp P B N np (.region id #[⟨some t36,.move (.tmp t0),y1,p1,a1,none⟩,⟨some t37,.move (.tmp t5),y2,p2,a2,none⟩,⟨some t38,.slice T (.tmp t36) (some (.tmp t37)) none none,y3,p3,a3,none⟩,
   ⟨none,.call ⟨.builtin .clear,#[.tmp t38],#[T]⟩,y4,p4,a4,none⟩] false) Q s:=by
 intro ro hB C hh r a w hnp hc;simp only[Bool.and_eq_true,Nat.blt_eq]at hN;obtain⟨⟨n1,n2⟩,n3⟩:=hN;have hd1':t5≠t36:=fun e=>by rw[e]at hd1;simp at hd1
 have hd2':t36≠t37:=fun e=>by rw[e]at hd2;simp at hd2
 have hs0:a.tmps.size=N:=hc.sz;have hu:=(hT T i ht).slice hs;have r0:=hc.rg t0;have r5:=hc.rg t5;rw[hx]at r0;rw[hy]at r5;have v0:a.eval (.tmp t0)=r m:=r0;have v5:a.eval (.tmp t5)=.int .i64 (n:Int):=bh r5;have hold:=hc.wk.ow m _ hb;unfold FB at hold;rw[BlkRep.slE rfl (VL 5)]at hold;simp only at hold;obtain⟨ad,l,cap,q1,q2,q3,q4,q5⟩:=hold;rw[eS]at q2;have hl:l=fs.length:=by omega
 subst hl;rcases q5 with q5|⟨k',c0,rfl,o2,o3,o4⟩
 ·omega
 apply wpIn_region;show wpOpsIn (Wd ro) 0 P _ _ [0,1,2,3] a w;rw[wpOpsIn_cons];refine dw (o:=⟨some t36,.move (.tmp t0),y1,p1,a1,none⟩) rfl rfl rfl (x:=r m) (w':=w) (by simp only[execOp,v0,Sem.run_pure]) ?_;rw[wpOpsIn_cons];have g1:(a.put (some t36) (r m)).eval (.tmp t5)=.int .i64 (n:Int):=by
  rw[<- v5];simp[Act.put,Act.eval,hd1'.symm]
 refine dw (o:=⟨some t37,.move (.tmp t5),y2,p2,a2,none⟩) rfl rfl rfl (x:=.int .i64 (n:Int)) (w':=w) (by simp only[execOp,g1,Sem.run_pure]) ?_;rw[wpOpsIn_cons];have g2:((a.put (some t36) (r m)).put (some t37) (.int .i64 (n:Int))).eval (.tmp t36)=r m:=by
  simp[Act.put,Act.eval,hs0,n1,hd2'.symm]
 have g3:((a.put (some t36) (r m)).put (some t37) (.int .i64 (n:Int))).eval (.tmp t37)=.int .i64 (n:Int):=by
  simp[Act.put,Act.eval,hs0,n2]
 obtain⟨q,hq⟩:∃ q,fs.length-n=q+1:=⟨fs.length-n-1,by omega⟩
 have hel:P.elem T=e:=by simp[Program.elem,hu]
 have hu':P.underlying T=some (.slice (P.elem T)):=by rw[hel];exact hu
 have hcl:sliced (some ⟨k',0,none⟩) (n:Int).toNat fs.length cap j.size=.slice (some ⟨k',n*6,none⟩) (q+1) (cap-n):=by
  simp only[sliced,Int.toNat_natCast];rw[G2 (by omega),hq,hj];simp[Addr.add_lit]
 refine dw (o:=⟨some t38,.slice T (.tmp t36) (some (.tmp t37)) none none,y3,p3,a3,none⟩) rfl rfl rfl (x:=.slice (some ⟨k',n*6,none⟩) (q+1) (cap-n)) (w':=w) (by
  simp only[execOp,g2.trans q1,Option.map_some,Option.map_none,g3,Sem.run_bind,run_sliceAt_slice w T _ _ _ _ hu',run_slice_l w T _ fs.length cap hu' .i64 (n:Int) (by omega) (by omega),hel,(hT e j he).size,Result.andThen_ok,Sem.run_pure,hcl]) ?_
 rw[wpOpsIn_cons];have g4:(((a.put (some t36) (r m)).put (some t37) (.int .i64 (n:Int))).put (some t38) (.slice (some ⟨k',n*6,none⟩) (q+1) (cap-n))).eval (.tmp t38)=.slice (some ⟨k',n*6,none⟩) (q+1) (cap-n):=by
  simp[Act.put,Act.eval,hs0,n3]
 obtain⟨w',c',k1,k2,k3,k4,k5,k6⟩:=tQ (T:=T) (ty:=y4) (q:=q) (cap:=cap-n) (off:=n*6) (h:=hh) hu (hT e j he) o2 (by
  rw[hj,o3];have:(n+(q+1))*6<=cap*6:=Uy 6 (by omega);omega)
 rw[hj]at k6;refine dw (o:=⟨none,.call ⟨.builtin .clear,#[.tmp t38],#[T]⟩,y4,p4,a4,none⟩) rfl rfl rfl (x:=.tuple #[]) (w':=w') (by
  apply eC;simp only[List.map_toArray,List.map_cons,List.map_nil,g4,builtin,Sem.run_bind,k1,Result.andThen_ok,Sem.run_pure]) ?_
 let zs:List DV:=(List.range ((q+1)*6)).map fun p=>j.zero.getD (p%6) (.v (.bool false))
 have hzl:zs.length=(q+1)*6:=by simp[zs]
 show ∃ s' h' r',Q .normal s'∧Conc C N h' r' s' _ _;refine⟨_,hh,r,h zs (by rw[hzl,hq]),?_,?_,?_,?_⟩
 ·simp[Act.put];exact hs0
 ·exact hc.df
 ·have r1:=(show RegsOK hh r s.regs a from hc.rg).put (dst:=some t36) (fun d' e=>by cases e;omega) (v:=.junk) (x:=r m) trivial;have r2:=r1.put (dst:=some t37) (fun d' e=>by cases e;simp[Act.put];omega) (v:=.junk) (x:=.int .i64 (n:Int)) trivial;exact r2.put (dst:=some t38) (fun d' e=>by cases e;simp[Act.put];omega) (v:=.junk) (x:=.slice (some ⟨k',n*6,none⟩) (q+1) (cap-n)) trivial
 refine hc.wk.write (by rw[hb];simp) (i:=k') (by rw[q1];simp only[aD];rw[G2 (by omega)]) k2 ?_ (by intro j hj;cases hj);rw[BlkRep.slE (b:=⟨true,6,_,(fs.take n).flatMap FC++zs⟩) rfl (VL 5)];simp only;have hlen:((fs.take n).flatMap FC++zs).length=fs.length*6:=by
  rw[UB,eS,hzl,Us];omega
 refine⟨_,fs.length,cap,q1,by rw[hlen],q3,q4,.inr ⟨k',c',rfl,k3,by rw[k4,o3],?_⟩⟩;rw[DReps.iff];intro p dv hp;have htl:((fs.take n).flatMap FC).length=n*6:=by rw[eS,Us];congr 1;omega
 by_cases hpn:p<n*6
 ·rw[UQ (by rw[htl];exact hpn),Mi,List.getElem?_take_of_lt hpn]at hp;rw[k5 p hpn];exact o4.get _ _ hp
 rw[US (by rw[htl];omega),htl]at hp;have hlt:=(Uu.1 hp).1;rw[hzl]at hlt;obtain⟨y,y1,y2⟩:=k6 (p-n*6) hlt;have e1:n*6+(p-n*6)=p:=by omega
 rw[e1]at y1;refine⟨y,y1,?_⟩;simp only[zs,List.getElem?_map,List.getElem?_range hlt,Option.map_some,Option.some.injEq]at hp;rw[<- hp];exact y2
end Go.AM
